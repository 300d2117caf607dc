/- YtdncabjenacolaaTAlone9: part 5 of the proof (the texts behind it, in order). -/
import Derived.Test.YtdncabjenacolaaP04
set_option linter.unusedSimpArgs false
set_option linter.unusedVariables false
set_option linter.unusedSectionVars false
set_option linter.unnecessarySimpa false
set_option maxHeartbeats 1000000
namespace Go.Car
open Go Go.Conc Go.RowKit
theorem sg1 {T T1 : Array Value} {a1 j : Nat} {v1 : Value} {u : Option Value} (h : T1 = T.setIfInBounds a1 v1) (f : T[j]? = u) (n1 : a1 ≠ j := by decide) : T1[j]? = u := by rw [h, al_gn n1]; exact f
theorem sg2 {T T1 : Array Value} {a1 a2 j : Nat} {v1 v2 : Value} {u : Option Value} (h : T1 = (T.setIfInBounds a1 v1).setIfInBounds a2 v2) (f : T[j]? = u) (n1 : a1 ≠ j := by decide) (n2 : a2 ≠ j := by decide) : T1[j]? = u := sg1 h (sg1 rfl f n1) n2
theorem sg3 {T T1 : Array Value} {a1 a2 a3 j : Nat} {v1 v2 v3 : Value} {u : Option Value} (h : T1 = ((T.setIfInBounds a1 v1).setIfInBounds a2 v2).setIfInBounds a3 v3) (f : T[j]? = u) (n1 : a1 ≠ j := by decide) (n2 : a2 ≠ j := by decide) (n3 : a3 ≠ j := by decide) : T1[j]? = u := sg1 h (sg2 rfl f n1 n2) n3
theorem sg5 {T T1 : Array Value} {a1 a2 a3 a4 a5 j : Nat} {v1 v2 v3 v4 v5 : Value} {u : Option Value} (h : T1 = ((((T.setIfInBounds a1 v1).setIfInBounds a2 v2).setIfInBounds a3 v3).setIfInBounds a4 v4).setIfInBounds a5 v5) (f : T[j]? = u) (n1 : a1 ≠ j := by decide) (n2 : a2 ≠ j := by decide) (n3 : a3 ≠ j := by decide) (n4 : a4 ≠ j := by decide) (n5 : a5 ≠ j := by decide) : T1[j]? = u := sg2 h (sg3 rfl f n1 n2 n3) n4 n5
theorem sg6 {T T1 : Array Value} {a1 a2 a3 a4 a5 a6 j : Nat} {v1 v2 v3 v4 v5 v6 : Value} {u : Option Value} (h : T1 = (((((T.setIfInBounds a1 v1).setIfInBounds a2 v2).setIfInBounds a3 v3).setIfInBounds a4 v4).setIfInBounds a5 v5).setIfInBounds a6 v6) (f : T[j]? = u) (n1 : a1 ≠ j := by decide) (n2 : a2 ≠ j := by decide) (n3 : a3 ≠ j := by decide) (n4 : a4 ≠ j := by decide) (n5 : a5 ≠ j := by decide) (n6 : a6 ≠ j := by decide) : T1[j]? = u := sg3 h (sg3 rfl f n1 n2 n3) n4 n5 n6
theorem sg7 {T T1 : Array Value} {a1 a2 a3 a4 a5 a6 a7 j : Nat} {v1 v2 v3 v4 v5 v6 v7 : Value} {u : Option Value} (h : T1 = ((((((T.setIfInBounds a1 v1).setIfInBounds a2 v2).setIfInBounds a3 v3).setIfInBounds a4 v4).setIfInBounds a5 v5).setIfInBounds a6 v6).setIfInBounds a7 v7) (f : T[j]? = u) (n1 : a1 ≠ j := by decide) (n2 : a2 ≠ j := by decide) (n3 : a3 ≠ j := by decide) (n4 : a4 ≠ j := by decide) (n5 : a5 ≠ j := by decide) (n6 : a6 ≠ j := by decide) (n7 : a7 ≠ j := by decide) : T1[j]? = u := sg2 h (sg5 rfl f n1 n2 n3 n4 n5) n6 n7
theorem sg8 {T T1 : Array Value} {a1 a2 a3 a4 a5 a6 a7 a8 j : Nat} {v1 v2 v3 v4 v5 v6 v7 v8 : Value} {u : Option Value} (h : T1 = (((((((T.setIfInBounds a1 v1).setIfInBounds a2 v2).setIfInBounds a3 v3).setIfInBounds a4 v4).setIfInBounds a5 v5).setIfInBounds a6 v6).setIfInBounds a7 v7).setIfInBounds a8 v8) (f : T[j]? = u) (n1 : a1 ≠ j := by decide) (n2 : a2 ≠ j := by decide) (n3 : a3 ≠ j := by decide) (n4 : a4 ≠ j := by decide) (n5 : a5 ≠ j := by decide) (n6 : a6 ≠ j := by decide) (n7 : a7 ≠ j := by decide) (n8 : a8 ≠ j := by decide) : T1[j]? = u := sg3 h (sg5 rfl f n1 n2 n3 n4 n5) n6 n7 n8
theorem sg11 {T T1 : Array Value} {a1 a2 a3 a4 a5 a6 a7 a8 a9 a10 a11 j : Nat} {v1 v2 v3 v4 v5 v6 v7 v8 v9 v10 v11 : Value} {u : Option Value} (h : T1 = ((((((((((T.setIfInBounds a1 v1).setIfInBounds a2 v2).setIfInBounds a3 v3).setIfInBounds a4 v4).setIfInBounds a5 v5).setIfInBounds a6 v6).setIfInBounds a7 v7).setIfInBounds a8 v8).setIfInBounds a9 v9).setIfInBounds a10 v10).setIfInBounds a11 v11) (f : T[j]? = u) (n1 : a1 ≠ j := by decide) (n2 : a2 ≠ j := by decide) (n3 : a3 ≠ j := by decide) (n4 : a4 ≠ j := by decide) (n5 : a5 ≠ j := by decide) (n6 : a6 ≠ j := by decide) (n7 : a7 ≠ j := by decide) (n8 : a8 ≠ j := by decide) (n9 : a9 ≠ j := by decide) (n10 : a10 ≠ j := by decide) (n11 : a11 ≠ j := by decide) : T1[j]? = u := sg3 h (sg8 rfl f n1 n2 n3 n4 n5 n6 n7 n8) n9 n10 n11
theorem sg14 {T T1 : Array Value} {a1 a2 a3 a4 a5 a6 a7 a8 a9 a10 a11 a12 a13 a14 j : Nat} {v1 v2 v3 v4 v5 v6 v7 v8 v9 v10 v11 v12 v13 v14 : Value} {u : Option Value} (h : T1 = (((((((((((((T.setIfInBounds a1 v1).setIfInBounds a2 v2).setIfInBounds a3 v3).setIfInBounds a4 v4).setIfInBounds a5 v5).setIfInBounds a6 v6).setIfInBounds a7 v7).setIfInBounds a8 v8).setIfInBounds a9 v9).setIfInBounds a10 v10).setIfInBounds a11 v11).setIfInBounds a12 v12).setIfInBounds a13 v13).setIfInBounds a14 v14) (f : T[j]? = u) (n1 : a1 ≠ j := by decide) (n2 : a2 ≠ j := by decide) (n3 : a3 ≠ j := by decide) (n4 : a4 ≠ j := by decide) (n5 : a5 ≠ j := by decide) (n6 : a6 ≠ j := by decide) (n7 : a7 ≠ j := by decide) (n8 : a8 ≠ j := by decide) (n9 : a9 ≠ j := by decide) (n10 : a10 ≠ j := by decide) (n11 : a11 ≠ j := by decide) (n12 : a12 ≠ j := by decide) (n13 : a13 ≠ j := by decide) (n14 : a14 ≠ j := by decide) : T1[j]? = u := sg6 h (sg8 rfl f n1 n2 n3 n4 n5 n6 n7 n8) n9 n10 n11 n12 n13 n14
theorem sg23 {T T1 : Array Value} {a1 a2 a3 a4 a5 a6 a7 a8 a9 a10 a11 a12 a13 a14 a15 a16 a17 a18 a19 a20 a21 a22 a23 j : Nat} {v1 v2 v3 v4 v5 v6 v7 v8 v9 v10 v11 v12 v13 v14 v15 v16 v17 v18 v19 v20 v21 v22 v23 : Value} {u : Option Value} (h : T1 = ((((((((((((((((((((((T.setIfInBounds a1 v1).setIfInBounds a2 v2).setIfInBounds a3 v3).setIfInBounds a4 v4).setIfInBounds a5 v5).setIfInBounds a6 v6).setIfInBounds a7 v7).setIfInBounds a8 v8).setIfInBounds a9 v9).setIfInBounds a10 v10).setIfInBounds a11 v11).setIfInBounds a12 v12).setIfInBounds a13 v13).setIfInBounds a14 v14).setIfInBounds a15 v15).setIfInBounds a16 v16).setIfInBounds a17 v17).setIfInBounds a18 v18).setIfInBounds a19 v19).setIfInBounds a20 v20).setIfInBounds a21 v21).setIfInBounds a22 v22).setIfInBounds a23 v23) (f : T[j]? = u) (n1 : a1 ≠ j := by decide) (n2 : a2 ≠ j := by decide) (n3 : a3 ≠ j := by decide) (n4 : a4 ≠ j := by decide) (n5 : a5 ≠ j := by decide) (n6 : a6 ≠ j := by decide) (n7 : a7 ≠ j := by decide) (n8 : a8 ≠ j := by decide) (n9 : a9 ≠ j := by decide) (n10 : a10 ≠ j := by decide) (n11 : a11 ≠ j := by decide) (n12 : a12 ≠ j := by decide) (n13 : a13 ≠ j := by decide) (n14 : a14 ≠ j := by decide) (n15 : a15 ≠ j := by decide) (n16 : a16 ≠ j := by decide) (n17 : a17 ≠ j := by decide) (n18 : a18 ≠ j := by decide) (n19 : a19 ≠ j := by decide) (n20 : a20 ≠ j := by decide) (n21 : a21 ≠ j := by decide) (n22 : a22 ≠ j := by decide) (n23 : a23 ≠ j := by decide) : T1[j]? = u := sg8 h (sg8 rfl (sg7 rfl f n1 n2 n3 n4 n5 n6 n7) n8 n9 n10 n11 n12 n13 n14 n15) n16 n17 n18 n19 n20 n21 n22 n23
def chkE (P : Program) (ops : Array Oper) (p m : Nat) : Bool := ((ops.toList.drop p).take m).all fun o => readOp P o.op && o.guard.isNone && o.dst.isSome
def evalsO (P : Program) (ops : Array Oper) (w : World) : List Value → Nat → Array Value → Prop
 | [], _, _ => True
 | v :: vs, i, T => (∀ o, ops[i]? = some o → (execOp (Act.mk T []).eval o).run P w = .ok (.value v) w) ∧ evalsO P ops w vs (i + 1) (match dstOf ops i with | some d => T.setIfInBounds d v | none => T)
section
variable {P : Program} {main : Bool} {Kc : Addr → Option Value} {γ : Type} {J : γ → Goroutine → World → Prop}
theorem chkE_cons {ops : Array Oper} {p m : Nat} (h : chkE P ops p (m + 1) = true) (hlt : p < ops.size) : (∃ o d, ops[p]? = some o ∧ readOp P o.op = true ∧ o.guard = none ∧ o.dst = some d) ∧ chkE P ops (p + 1) m = true := by
 have hd : ops.toList.drop p = ops[p] :: ops.toList.drop (p + 1) := by
  rw [List.drop_eq_getElem_cons (by simpa using hlt)]; simp
 unfold chkE at h
 rw [hd, List.take_succ_cons, List.all_cons, Bool.and_eq_true] at h
 obtain ⟨h1, h2⟩ := h
 simp only [Bool.and_eq_true] at h1
 obtain ⟨⟨h3, h4⟩, h5⟩ := h1
 obtain ⟨d, hdd⟩ := Option.isSome_iff_exists.1 h5
 exact ⟨⟨ops[p], d, Array.getElem?_eq_getElem hlt, h3, Option.isNone_iff_eq_none.1 h4, hdd⟩, h2⟩
theorem at_eval' (hJ : JS P main Kc J) {b : Frame} {k : List Item} {cs : List Frame} (hb : b.kind ≠ .early) {ops : Array Oper} {s : γ} {rest : List Nat} : ∀ (vs : List Value) (p : Nat) (T : Array Value) (ds : List Deferred) (w : World), p + vs.length ≤ ops.size → chkE P ops p vs.length = true →
 (∀ τ d, evalsO P ops (re w τ d) vs p T) → J s (G (b.at ⟨putv ops vs p T, ds⟩ (.inRegion ops rest :: k)) cs) w → J s (G (b.at ⟨T, ds⟩ (.inRegion ops (List.range' p vs.length ++ rest) :: k)) cs) w := by
 intro vs
 induction vs with
 | nil => intro p T ds w _ _ _ h; exact h
 | cons v vs ih =>
  intro p T ds w hsz hc hv h
  simp only [List.length_cons] at hsz hc
  obtain ⟨⟨o, d, ho, hro, hg, hd⟩, hc'⟩ := chkE_cons hc (by omega)
  have hdst : dstOf ops p = some d := by unfold dstOf; rw [ho]; exact hd
  rw [List.length_cons, List.range'_succ, List.cons_append]
  have hw : Region.wanted o (yielded ops T) = true := by simp [Region.wanted, hg]
  refine at_cons hb hJ ho hw fun τ dd => ?_
  have hrun : (execOp (Act.mk T ds).eval o).run P (re w τ dd) = .ok (.value v) (re w τ dd) := (hv τ dd).1 o ho
  have ht : tame P false (execOp (Act.mk T ds).eval o) := execOp_read o hro _
  obtain ⟨e1, e2⟩ := evs_read (Kc := Kc) ht (re w τ dd)
  refine ⟨e1, e2, ?_⟩
  rw [hrun]
  have : (Act.mk T ds).put o.dst v = ⟨T.setIfInBounds d v, ds⟩ := by rw [hd]; rfl
  show J s (G (b.at ((Act.mk T ds).put o.dst v) _) cs) (re w τ dd)
  rw [this]
  refine ih (p + 1) _ ds _ (by omega) hc' (fun τ' d' => ?_) ?_
  · have := (hv τ' d').2
    rw [hdst] at this
    exact this
  · refine hJ.re' s _ w τ dd ?_
    have : putv ops (v :: vs) p T = putv ops vs (p + 1) (T.setIfInBounds d v) := by simp only [putv, hdst]
    rw [this] at h
    exact h
theorem at_eval (hJ : JS P main Kc J) {b : Frame} {k : List Item} {cs : List Frame} (hb : b.kind ≠ .early) {ops : Array Oper} {s : γ} (p : Nat) (vs : List Value) {todo : List Nat} (rest : List Nat) {a : Act} {w : World} (ht : todo = List.range' p vs.length ++ rest) (hsz : p + vs.length ≤ ops.size) (hc : chkE P ops p vs.length = true)
 (hv : ∀ τ d, evalsO P ops (re w τ d) vs p a.tmps) (h : J s (G (b.at ⟨putv ops vs p a.tmps, a.defers⟩ (.inRegion ops rest :: k)) cs) w) : J s (G (b.at a (.inRegion ops todo :: k)) cs) w := by
 subst ht
 exact at_eval' hJ hb vs p a.tmps a.defers w hsz hc hv h
def chkG (P : Program) (ops : Array Oper) (p m : Nat) : Bool := ((ops.toList.drop p).take m).all fun o => readOp P o.op && o.dst.isSome
def evalsG (P : Program) (ops : Array Oper) (w : World) : List (Option Value) → Nat → Array Value → Prop
 | [], _, _ => True
 | some v :: vs, i, T => (∀ o, ops[i]? = some o → Region.wanted o (yielded ops T) = true ∧ (execOp (Act.mk T []).eval o).run P w = .ok (.value v) w) ∧ evalsG P ops w vs (i + 1) (match dstOf ops i with | some d => T.setIfInBounds d v | none => T)
 | none :: vs, i, T => (∀ o, ops[i]? = some o → Region.wanted o (yielded ops T) = false) ∧ evalsG P ops w vs (i + 1) (match dstOf ops i with | some d => T.setIfInBounds d undef | none => T)
def putG (ops : Array Oper) : List (Option Value) → Nat → Array Value → Array Value
 | [], _, t => t
 | v :: vs, i, t => putG ops vs (i + 1) (match dstOf ops i with | some d => t.setIfInBounds d (v.getD undef) | none => t)
theorem chkG_cons {ops : Array Oper} {p m : Nat} (h : chkG P ops p (m + 1) = true) (hlt : p < ops.size) : (∃ o d, ops[p]? = some o ∧ readOp P o.op = true ∧ o.dst = some d) ∧ chkG P ops (p + 1) m = true := by
 have hd : ops.toList.drop p = ops[p] :: ops.toList.drop (p + 1) := by
  rw [List.drop_eq_getElem_cons (by simpa using hlt)]; simp
 unfold chkG at h
 rw [hd, List.take_succ_cons, List.all_cons, Bool.and_eq_true] at h
 obtain ⟨h1, h2⟩ := h
 simp only [Bool.and_eq_true] at h1
 obtain ⟨h3, h5⟩ := h1
 obtain ⟨d, hdd⟩ := Option.isSome_iff_exists.1 h5
 exact ⟨⟨ops[p], d, Array.getElem?_eq_getElem hlt, h3, hdd⟩, h2⟩
theorem at_evalG' (hJ : JS P main Kc J) {b : Frame} {k : List Item} {cs : List Frame} (hb : b.kind ≠ .early) {ops : Array Oper} {s : γ} {rest : List Nat} : ∀ (vs : List (Option Value)) (p : Nat) (T : Array Value) (ds : List Deferred) (w : World), p + vs.length ≤ ops.size → chkG P ops p vs.length = true →
 (∀ τ d, evalsG P ops (re w τ d) vs p T) → J s (G (b.at ⟨putG ops vs p T, ds⟩ (.inRegion ops rest :: k)) cs) w → J s (G (b.at ⟨T, ds⟩ (.inRegion ops (List.range' p vs.length ++ rest) :: k)) cs) w := by
 intro vs
 induction vs with
 | nil => intro p T ds w _ _ _ h; exact h
 | cons v vs ih =>
  intro p T ds w hsz hc hv h
  simp only [List.length_cons] at hsz hc
  obtain ⟨⟨o, d, ho, hro, hd⟩, hc'⟩ := chkG_cons hc (by omega)
  have hdst : dstOf ops p = some d := by unfold dstOf; rw [ho]; exact hd
  rw [List.length_cons, List.range'_succ, List.cons_append]
  have hput : ∀ u, (Act.mk T ds).put o.dst u = ⟨T.setIfInBounds d u, ds⟩ := fun u => by rw [hd]; rfl
  cases v with
  | none =>
   have hw : Region.wanted o (yielded ops T) = false := (hv w.tape w.drawn).1 o ho
   refine hJ.ctl (s := s) (fun w => stepG_unwanted ho hw) ?_
   rw [hput]
   refine ih (p + 1) _ ds _ (by omega) hc' (fun τ' d' => ?_) ?_
   · have := (hv τ' d').2
     rw [hdst] at this
     exact this
   · have : putG ops (none :: vs) p T = putG ops vs (p + 1) (T.setIfInBounds d undef) := by simp only [putG, hdst, Option.getD_none]
     rw [this] at h
     exact h
  | some v =>
   have hw : Region.wanted o (yielded ops T) = true := ((hv w.tape w.drawn).1 o ho).1
   refine at_cons hb hJ ho hw fun τ dd => ?_
   have hrun : (execOp (Act.mk T ds).eval o).run P (re w τ dd) = .ok (.value v) (re w τ dd) := ((hv τ dd).1 o ho).2
   have ht : tame P false (execOp (Act.mk T ds).eval o) := execOp_read o hro _
   obtain ⟨e1, e2⟩ := evs_read (Kc := Kc) ht (re w τ dd)
   refine ⟨e1, e2, ?_⟩
   rw [hrun]
   show J s (G (b.at ((Act.mk T ds).put o.dst v) _) cs) (re w τ dd)
   rw [hput]
   refine ih (p + 1) _ ds _ (by omega) hc' (fun τ' d' => ?_) ?_
   · have := (hv τ' d').2
     rw [hdst] at this
     exact this
   · refine hJ.re' s _ w τ dd ?_
     have : putG ops (some v :: vs) p T = putG ops vs (p + 1) (T.setIfInBounds d v) := by simp only [putG, hdst, al_od]
     rw [this] at h
     exact h
theorem at_evalG (hJ : JS P main Kc J) {b : Frame} {k : List Item} {cs : List Frame} (hb : b.kind ≠ .early) {ops : Array Oper} {s : γ} (p : Nat) (vs : List (Option Value)) {todo : List Nat} (rest : List Nat) {a : Act} {w : World} (ht : todo = List.range' p vs.length ++ rest) (hsz : p + vs.length ≤ ops.size) (hc : chkG P ops p vs.length = true)
 (hv : ∀ τ d, evalsG P ops (re w τ d) vs p a.tmps) (h : J s (G (b.at ⟨putG ops vs p a.tmps, a.defers⟩ (.inRegion ops rest :: k)) cs) w) : J s (G (b.at a (.inRegion ops todo :: k)) cs) w := by
 subst ht
 exact at_evalG' hJ hb vs p a.tmps a.defers w hsz hc hv h
end
end Go.Car
set_option maxHeartbeats 1000000
set_option maxRecDepth 100000
namespace Go.Proofs
open Go Go.Conc Go.RowKit Go.Car
open Go.ConcN (upd upd_ne upd_same)
def tailN : Nat → Code → Code
 | 0, c => c
 | n + 1, .seq _ c => tailN n c
 | _, c => c
def headC : Code → Code
 | .seq a _ => a
 | c => c
noncomputable def lpC : Code := match headC (tailN 8 (Try.f14.body.getD .skip)) with | .seq _ (.block _ (.loop c)) => c | _ => .skip
structure Fr (A : OA) (B : Bx) (thr sch : Value) (T : Array Value) : Prop where
 size : T.size = 129
 t0 : T[0]? = some thr
 t1 : T[1]? = some sch
 t5 : T[5]? = some (.pointer (some ⟨B.bM, 0, none⟩))
 t6 : T[6]? = some (.pointer (some ⟨B.bO, 0, none⟩))
 t9 : T[9]? = some (.pointer (some ⟨B.bN, 0, none⟩))
 t10 : T[10]? = some (.pointer (some ⟨A.bX, 0, none⟩))
 t11 : T[11]? = some (.pointer (some ⟨B.bL, 0, none⟩))
 t13 : T[13]? = some (.func (.func 35) #[] #[.pointer (some ⟨B.bN, 0, none⟩), .pointer (some ⟨A.bX, 0, none⟩), .pointer (some ⟨B.bO, 0, none⟩), .pointer (some ⟨B.bM, 0, none⟩), .pointer (some ⟨B.bL, 0, none⟩)])
section
variable {M : Type}
theorem Inv.heap_old {T : Thr M} {A : OA} {B : Bx} {Kc : Addr → Option Value} {w₀ : World} {m₀ : M} {most s : Nat} {E : Nat → Option Obj} {k : Nat} {a : OSt M} {left : Nat} {v : Value} {inb : Nat → Option Seat} {w : World} (h : Inv T A B Kc w₀ m₀ most s E k a left v inb w) {b : Nat} (hb : b < B.B0) (hf : ¬ T.foot m₀ b) {o : Obj} (ho : w₀.heap[b]? = some o) : w.heap[b]? = some o :=
 h.cf.ext b o ((h.old b hb hf).trans ho)
def stepV (A : OA) (B : Bx) : Value := .func (.func 35) #[] #[.pointer (some ⟨B.bN, 0, none⟩), .pointer (some ⟨A.bX, 0, none⟩), .pointer (some ⟨B.bO, 0, none⟩), .pointer (some ⟨B.bM, 0, none⟩), .pointer (some ⟨B.bL, 0, none⟩)]
theorem sched_round {Fin : Machine → Trace → Prop} (hFin : Back Try.prog Fin) {T : Thr M} {A : OA} {B : Bx} {Kc : Addr → Option Value} {w₀ : World} {m₀ : M} {most n : Nat} {E : Nat → Option Obj} {k : Nat} {a : OSt M} {v : Value} {inb : Nat → Option Seat} {w : World}
 (h : Inv T A B Kc w₀ m₀ most A.N E (k + 1) a (leftN a.ov A.N) v inb w) (hn : A.n0 + A.N ≤ n) {thr sch : Value} {sb off C j L : Nat} {x : Int} {Ts : Array Value} (hF : Fr A B thr sch Ts) (hj : j < L) (hL : L ≤ 4611686018427387904) (t76 : Ts[76]? = some (.slice (some ⟨sb, off, none⟩) L C)) (t77 : Ts[77]? = some (.int .i64 L)) (t78 : Ts[78]? = some (.int .i64 j)) (hx : w.cell? ⟨sb, off + j, none⟩ = some (.int .i64 x))
 {b : Frame} (hb : b.kind ≠ .early) {ds : List Deferred} {K : List Item} {cs : List Frame}
 (hmain : ∀ a' E' k' v' inb' w' (Ts' : Array Value), Step1 T A.N most x a a' → k + a.ord.length + 1 ≤ k' + a'.ord.length → Inv T A B Kc w₀ m₀ most A.N E' k' a' (leftN a'.ov A.N) v' inb' w' → Fr A B thr sch Ts' → Ts'[76]? = some (.slice (some ⟨sb, off, none⟩) L C) → Ts'[77]? = some (.int .i64 L) → Ts'[78]? = some (.int .i64 (j + 1 : Nat)) →
  HoldR Try.prog Fin Kc inb' 0 n (G (b.at ⟨Ts', ds⟩ (.inLoop lpC :: .inBlock 4 :: K)) cs) w') :
 HoldR Try.prog Fin Kc inb 0 n (G (b.at ⟨Ts, ds⟩ (.code lpC :: .inLoop lpC :: .inBlock 4 :: K)) cs) w := by
 have hJ := jm_main hFin Kc inb n
 obtain ⟨hsz, f2, f3, f4, f5, f6, f7, f8, f9⟩ := hF
 have hm := Lib.hid hmain
 clear hmain
 have elp : lpC = match headC (tailN 8 (Try.f14.body.getD .skip)) with | .seq _ (.block _ (.loop c)) => c | _ => .skip := rfl
 simp only [headC, tailN, Try.f14, al_od] at elp
 generalize hlp : lpC = lp at elp ⊢ hm
 subst elp
 have hjL : (j : Int) < L := by omega
 have hj0 : (0 : Int) ≤ j := by omega
 refine hJ.ctl (s := ()) (fun w => stepG_seq) ?_
 refine hJ.ctl (s := ()) (fun w => stepG_region) ?_
 refine at_eval (J := fun (_ : Unit) => HoldR Try.prog Fin Kc inb 0 n) (s := ()) hJ hb 0 [.bool true] [] rfl (by simp) (by rfl) ?_ ?_
 · intro τ d
   simp only [evalsO, dstOf, al_gl, al_g0, al_g1, al_ob]
   refine ⟨?_, trivial⟩ <;> (intro o ho; simp only [al_oi] at ho; subst ho)
   all_goals (try simp only [execOp, Act.eval, al_gd])
   all_goals (try simp only [al_gs, al_gz, hsz, f2, f3, f4, f5, f6, f7, f8, f9, t76, t77, t78, Nat.reduceEqDiff, Nat.reduceLT, ↓reduceIte, al_od])
   all_goals (have hlt : ∀ i, i < 129 → i < (Ts).size := fun i hi => (by rw [hsz]; exact hi))
   all_goals (clear hsz f2 f3 f4 f5 f6 f7 f8 f9 t76 t77 t78)
   all_goals (try go_simp)
   all_goals (try omega)
 simp only [putv, dstOf, al_gl, al_g0, al_g1, al_ob]
 obtain ⟨T1, hT⟩ : ∃ X, X = (Ts).setIfInBounds 79 (.bool true) := ⟨_, rfl⟩
 rw [← hT]
 have hT1 : T1.size = 129 := by rw [hT]; simp [hsz]
 have T1_0 := sg1 hT f2
 have T1_1 := sg1 hT f3
 have T1_5 := sg1 hT f4
 have T1_6 := sg1 hT f5
 have T1_9 := sg1 hT f6
 have T1_10 := sg1 hT f7
 have T1_11 := sg1 hT f8
 have T1_13 : T1[13]? = some (stepV A B) := sg1 hT f9
 have T1_76 := sg1 hT t76
 have T1_77 := sg1 hT t77
 have T1_78 := sg1 hT t78
 have T1_79 : T1[79]? = some (.bool true) := by rw [hT]; simp [al_gs, hsz]
 clear hT f2 f3 f4 f5 f6 f7 f8 f9 t76 t77 t78 hsz
 refine hJ.ctl (s := ()) (fun w => stepG_region_end) ?_
 refine hJ.ctl (s := ()) (fun w => stepG_seq) ?_
 refine hJ.ctl (s := ()) (fun w => stepG_cond (t := true) (by simp [Act.eval, al_gd, T1_79])) ?_
 simp only [if_true]
 refine hJ.ctl (s := ()) (fun w => stepG_skip) ?_
 refine hJ.ctl (s := ()) (fun w => stepG_seq) ?_
 refine hJ.ctl (s := ()) (fun w => stepG_block) ?_
 refine hJ.ctl (s := ()) (fun w => stepG_seq) ?_
 refine hJ.ctl (s := ()) (fun w => stepG_region) ?_
 refine at_eval (J := fun (_ : Unit) => HoldR Try.prog Fin Kc inb 0 n) (s := ()) hJ hb 0 [.pointer (some ⟨sb, off + j, none⟩), .int .i64 x, .int .i64 x] [] rfl (by simp) (by rfl) ?_ ?_
 · intro τ d
   simp only [evalsO, dstOf, al_gl, al_g0, al_g1, al_ob]
   refine ⟨?_, ?_, ?_, trivial⟩ <;> (intro o ho; simp only [al_oi] at ho; subst ho)
   all_goals (try simp only [execOp, Act.eval, al_gd])
   all_goals (try simp only [al_gs, al_gz, hT1, T1_0, T1_1, T1_5, T1_6, T1_9, T1_10, T1_11, T1_13, T1_76, T1_77, T1_78, T1_79, Nat.reduceEqDiff, Nat.reduceLT, ↓reduceIte, al_od])
   all_goals (have hlt : ∀ i, i < 129 → i < (T1).size := fun i hi => (by rw [hT1]; exact hi))
   all_goals (clear hT1 T1_0 T1_1 T1_5 T1_6 T1_9 T1_10 T1_11 T1_13 T1_76 T1_77 T1_78 T1_79)
   all_goals (try go_simp)
   all_goals (try omega)
 simp only [putv, dstOf, al_gl, al_g0, al_g1, al_ob]
 obtain ⟨T2, hT⟩ : ∃ X, X = (((T1).setIfInBounds 80 (.pointer (some ⟨sb, off + j, none⟩))).setIfInBounds 81 (.int .i64 x)).setIfInBounds 15 (.int .i64 x) := ⟨_, rfl⟩
 rw [← hT]
 have hT2 : T2.size = 129 := by rw [hT]; simp [hT1]
 have T2_0 := sg3 hT T1_0
 have T2_1 := sg3 hT T1_1
 have T2_5 := sg3 hT T1_5
 have T2_6 := sg3 hT T1_6
 have T2_9 := sg3 hT T1_9
 have T2_10 := sg3 hT T1_10
 have T2_11 := sg3 hT T1_11
 have T2_13 : T2[13]? = some (stepV A B) := sg3 hT T1_13
 have T2_76 := sg3 hT T1_76
 have T2_77 := sg3 hT T1_77
 have T2_78 := sg3 hT T1_78
 have T2_79 := sg3 hT T1_79
 have T2_80 : T2[80]? = some (.pointer (some ⟨sb, off + j, none⟩)) := by rw [hT]; simp [al_gs, hT1]
 have T2_81 : T2[81]? = some (.int .i64 x) := by rw [hT]; simp [al_gs, hT1]
 have T2_15 : T2[15]? = some (.int .i64 x) := by rw [hT]; simp [al_gs, hT1]
 clear hT T1_0 T1_1 T1_5 T1_6 T1_9 T1_10 T1_11 T1_13 T1_76 T1_77 T1_78 T1_79 hT1
 refine hJ.ctl (s := ()) (fun w => stepG_region_end) ?_
 refine hJ.ctl (s := ()) (fun w => stepG_region) ?_
 refine at_eval (J := fun (_ : Unit) => HoldR Try.prog Fin Kc inb 0 n) (s := ()) hJ hb 0 [stepV A B, .int .i64 x] [2] rfl (by simp) (by rfl) ?_ ?_
 · intro τ d
   simp only [evalsO, dstOf, al_gl, al_g0, al_g1, al_ob]
   refine ⟨?_, ?_, trivial⟩ <;> (intro o ho; simp only [al_oi] at ho; subst ho)
   all_goals (try simp only [execOp, Act.eval, al_gd])
   all_goals (try simp only [al_gs, al_gz, hT2, T2_0, T2_1, T2_5, T2_6, T2_9, T2_10, T2_11, T2_13, T2_76, T2_77, T2_78, T2_79, T2_80, T2_81, T2_15, Nat.reduceEqDiff, Nat.reduceLT, ↓reduceIte, al_od])
   all_goals (have hlt : ∀ i, i < 129 → i < (T2).size := fun i hi => (by rw [hT2]; exact hi))
   all_goals (clear hT2 T2_0 T2_1 T2_5 T2_6 T2_9 T2_10 T2_11 T2_13 T2_76 T2_77 T2_78 T2_79 T2_80 T2_81 T2_15)
   all_goals (try go_simp)
   all_goals (try omega)
 simp only [putv, dstOf, al_gl, al_g0, al_g1, al_ob]
 obtain ⟨T3, hT⟩ : ∃ X, X = ((T2).setIfInBounds 82 (stepV A B)).setIfInBounds 83 (.int .i64 x) := ⟨_, rfl⟩
 rw [← hT]
 have hT3 : T3.size = 129 := by rw [hT]; simp [hT2]
 have T3_0 := sg2 hT T2_0
 have T3_1 := sg2 hT T2_1
 have T3_5 := sg2 hT T2_5
 have T3_6 := sg2 hT T2_6
 have T3_9 := sg2 hT T2_9
 have T3_10 := sg2 hT T2_10
 have T3_11 := sg2 hT T2_11
 have T3_13 : T3[13]? = some (stepV A B) := sg2 hT T2_13
 have T3_76 := sg2 hT T2_76
 have T3_77 := sg2 hT T2_77
 have T3_78 := sg2 hT T2_78
 have T3_79 := sg2 hT T2_79
 have T3_80 := sg2 hT T2_80
 have T3_81 := sg2 hT T2_81
 have T3_15 := sg2 hT T2_15
 have T3_82 : T3[82]? = some (stepV A B) := by rw [hT]; simp [al_gs, hT2]
 have T3_83 : T3[83]? = some (.int .i64 x) := by rw [hT]; simp [al_gs, hT2]
 clear hT T2_0 T2_1 T2_5 T2_6 T2_9 T2_10 T2_11 T2_13 T2_76 T2_77 T2_78 T2_79 T2_80 T2_81 T2_15 hT2
 refine at_call (J := fun (_ : Unit) => HoldR Try.prog Fin Kc inb 0 n) (s := ()) hb hJ rfl (by simp [Region.wanted]) (f := 35) (args := #[.int .i64 x, .pointer (some ⟨B.bN, 0, none⟩), .pointer (some ⟨A.bX, 0, none⟩), .pointer (some ⟨B.bO, 0, none⟩), .pointer (some ⟨B.bM, 0, none⟩), .pointer (some ⟨B.bL, 0, none⟩)]) (fun τ d => ?_) (fun τ d => ?_) ?_
 · simp [go_sem, execOp, Act.eval, resolve, Deferred.ofValue, invoke, callFunc, Try.func35, Try.f35, stepV, al_gd, T3_82, T3_83]
 · intro e he
   simp [go_sem, execOp, Act.eval, resolve, Deferred.ofValue, invoke, callFunc, Try.func35, Try.f35, Sem.runT_eq, stepV, al_gd, T3_82, T3_83] at he
 refine step_calls hFin h x hn fun a' E' k' v' inb' w' hst hk hI => ?_
 have hJ3 := jm_main hFin Kc inb' n
 rw [Frame.finish_at]
 try walk_nrm
 obtain ⟨T4, hT⟩ : ∃ X, X = (T3).setIfInBounds 84 (.tuple #[]) := ⟨_, rfl⟩
 rw [← hT]
 have hT4 : T4.size = 129 := by rw [hT]; simp [hT3]
 have T4_0 := sg1 hT T3_0
 have T4_1 := sg1 hT T3_1
 have T4_5 := sg1 hT T3_5
 have T4_6 := sg1 hT T3_6
 have T4_9 := sg1 hT T3_9
 have T4_10 := sg1 hT T3_10
 have T4_11 := sg1 hT T3_11
 have T4_13 : T4[13]? = some (stepV A B) := sg1 hT T3_13
 have T4_76 := sg1 hT T3_76
 have T4_77 := sg1 hT T3_77
 have T4_78 := sg1 hT T3_78
 have T4_79 := sg1 hT T3_79
 have T4_80 := sg1 hT T3_80
 have T4_81 := sg1 hT T3_81
 have T4_15 := sg1 hT T3_15
 have T4_82 : T4[82]? = some (stepV A B) := sg1 hT T3_82
 have T4_83 := sg1 hT T3_83
 have T4_84 : T4[84]? = some (.tuple #[]) := by rw [hT]; simp [al_gs, hT3]
 clear hT T3_0 T3_1 T3_5 T3_6 T3_9 T3_10 T3_11 T3_13 T3_76 T3_77 T3_78 T3_79 T3_80 T3_81 T3_15 T3_82 T3_83 hT3
 refine hJ3.ctl (s := ()) (fun w => stepG_region_end) ?_
 refine hJ3.ctl (s := ()) (fun w => stepG_inBlock) ?_
 refine hJ3.ctl (s := ()) (fun w => stepG_region) ?_
 have hwr : IntKind.i64.wrap ((j : Int) + 1) = ((j + 1 : Nat) : Int) := by
  rw [show (j : Int) + 1 = ((j + 1 : Nat) : Int) by omega]
  exact IntWalk.i64_in _ (by omega)
 clear hx
 refine at_eval (J := fun (_ : Unit) => HoldR Try.prog Fin Kc inb' 0 n) (s := ()) hJ3 hb 0 [.int .i64 ((j + 1 : Nat) : Int), .int .i64 ((j + 1 : Nat) : Int)] [] rfl (by simp) (by rfl) ?_ ?_
 · intro τ d
   simp only [evalsO, dstOf, al_gl, al_g0, al_g1, al_ob]
   refine ⟨?_, ?_, trivial⟩ <;> (intro o ho; simp only [al_oi] at ho; subst ho)
   all_goals (try simp only [execOp, Act.eval, al_gd])
   all_goals (try simp only [al_gs, al_gz, hT4, T4_0, T4_1, T4_5, T4_6, T4_9, T4_10, T4_11, T4_13, T4_76, T4_77, T4_78, T4_79, T4_80, T4_81, T4_15, T4_82, T4_83, T4_84, Nat.reduceEqDiff, Nat.reduceLT, ↓reduceIte, al_od])
   all_goals (have hlt : ∀ i, i < 129 → i < (T4).size := fun i hi => (by rw [hT4]; exact hi))
   all_goals (clear hT4 T4_0 T4_1 T4_5 T4_6 T4_9 T4_10 T4_11 T4_13 T4_76 T4_77 T4_78 T4_79 T4_80 T4_81 T4_15 T4_82 T4_83 T4_84)
   all_goals (try go_simp)
   all_goals (try omega)
 simp only [putv, dstOf, al_gl, al_g0, al_g1, al_ob]
 obtain ⟨T5, hT⟩ : ∃ X, X = ((T4).setIfInBounds 85 (.int .i64 ((j + 1 : Nat) : Int))).setIfInBounds 78 (.int .i64 ((j + 1 : Nat) : Int)) := ⟨_, rfl⟩
 rw [← hT]
 have hT5 : T5.size = 129 := by rw [hT]; simp [hT4]
 have T5_0 := sg2 hT T4_0
 have T5_1 := sg2 hT T4_1
 have T5_5 := sg2 hT T4_5
 have T5_6 := sg2 hT T4_6
 have T5_9 := sg2 hT T4_9
 have T5_10 := sg2 hT T4_10
 have T5_11 := sg2 hT T4_11
 have T5_13 : T5[13]? = some (stepV A B) := sg2 hT T4_13
 have T5_76 := sg2 hT T4_76
 have T5_77 := sg2 hT T4_77
 have T5_79 := sg2 hT T4_79
 have T5_80 := sg2 hT T4_80
 have T5_81 := sg2 hT T4_81
 have T5_15 := sg2 hT T4_15
 have T5_82 : T5[82]? = some (stepV A B) := sg2 hT T4_82
 have T5_83 := sg2 hT T4_83
 have T5_84 := sg2 hT T4_84
 have T5_85 : T5[85]? = some (.int .i64 ((j + 1 : Nat) : Int)) := by rw [hT]; simp [al_gs, hT4]
 have T5_78 : T5[78]? = some (.int .i64 ((j + 1 : Nat) : Int)) := by rw [hT]; simp [al_gs, hT4]
 clear hT T4_0 T4_1 T4_5 T4_6 T4_9 T4_10 T4_11 T4_13 T4_76 T4_77 T4_78 T4_79 T4_80 T4_81 T4_15 T4_82 T4_83 T4_84 hT4
 refine hJ3.ctl (s := ()) (fun w => stepG_region_end) ?_
 exact hm.out _ E' k' v' inb' w' _ hst hk hI ⟨hT5, T5_0, T5_1, T5_5, T5_6, T5_9, T5_10, T5_11, T5_13⟩ T5_76 T5_77 T5_78
end
section
variable {M : Type}
theorem sched_exit {Fin : Machine → Trace → Prop} (hFin : Back Try.prog Fin) {A : OA} {B : Bx} {Kc : Addr → Option Value} {n : Nat} {inb : Nat → Option Seat} {w : World} {thr sch : Value} {L : Nat} {Ts : Array Value} (hF : Fr A B thr sch Ts) (t77 : Ts[77]? = some (.int .i64 L)) (t78 : Ts[78]? = some (.int .i64 L))
 {b : Frame} (hb : b.kind ≠ .early) {ds : List Deferred} {K : List Item} {cs : List Frame} (hmain : ∀ Ts', Fr A B thr sch Ts' → HoldR Try.prog Fin Kc inb 0 n (G (b.at ⟨Ts', ds⟩ K) cs) w) :
 HoldR Try.prog Fin Kc inb 0 n (G (b.at ⟨Ts, ds⟩ (.code lpC :: .inLoop lpC :: .inBlock 4 :: K)) cs) w := by
 have hJ := jm_main hFin Kc inb n
 obtain ⟨hsz, f2, f3, f4, f5, f6, f7, f8, f9⟩ := hF
 have hm := Lib.hid hmain
 clear hmain
 have elp : lpC = match headC (tailN 8 (Try.f14.body.getD .skip)) with | .seq _ (.block _ (.loop c)) => c | _ => .skip := rfl
 simp only [headC, tailN, Try.f14, al_od] at elp
 generalize hlp : lpC = lp at elp ⊢ hm
 subst elp
 refine hJ.ctl (s := ()) (fun w => stepG_seq) ?_
 refine hJ.ctl (s := ()) (fun w => stepG_region) ?_
 refine at_eval (J := fun (_ : Unit) => HoldR Try.prog Fin Kc inb 0 n) (s := ()) hJ hb 0 [.bool false] [] rfl (by simp) (by rfl) ?_ ?_
 · intro τ d
   simp only [evalsO, dstOf, al_gl, al_g0, al_g1, al_ob]
   refine ⟨?_, trivial⟩ <;> (intro o ho; simp only [al_oi] at ho; subst ho)
   all_goals (try simp only [execOp, Act.eval, al_gd])
   all_goals (try simp only [al_gs, al_gz, hsz, f2, f3, f4, f5, f6, f7, f8, f9, t77, t78, Nat.reduceEqDiff, Nat.reduceLT, ↓reduceIte, al_od])
   all_goals (have hlt : ∀ i, i < 129 → i < (Ts).size := fun i hi => (by rw [hsz]; exact hi))
   all_goals (clear hsz f2 f3 f4 f5 f6 f7 f8 f9 t77 t78)
   all_goals (try go_simp)
   all_goals (try omega)
 simp only [putv, dstOf, al_gl, al_g0, al_g1, al_ob]
 obtain ⟨T1, hT⟩ : ∃ X, X = (Ts).setIfInBounds 79 (.bool false) := ⟨_, rfl⟩
 rw [← hT]
 have hT1 : T1.size = 129 := by rw [hT]; simp [hsz]
 have T1_0 := sg1 hT f2
 have T1_1 := sg1 hT f3
 have T1_5 := sg1 hT f4
 have T1_6 := sg1 hT f5
 have T1_9 := sg1 hT f6
 have T1_10 := sg1 hT f7
 have T1_11 := sg1 hT f8
 have T1_13 : T1[13]? = some (stepV A B) := sg1 hT f9
 have T1_77 := sg1 hT t77
 have T1_78 := sg1 hT t78
 have T1_79 : T1[79]? = some (.bool false) := by rw [hT]; simp [al_gs, hsz]
 clear hT f2 f3 f4 f5 f6 f7 f8 f9 t77 t78 hsz
 refine hJ.ctl (s := ()) (fun w => stepG_region_end) ?_
 refine hJ.ctl (s := ()) (fun w => stepG_seq) ?_
 refine hJ.ctl (s := ()) (fun w => stepG_cond (t := false) (by simp [Act.eval, al_gd, T1_79])) ?_
 simp only [Bool.false_eq_true, if_false]
 refine hJ.ctl (s := ()) (fun w => stepG_exit (k' := K) rfl) ?_
 exact hm.out _ ⟨hT1, T1_0, T1_1, T1_5, T1_6, T1_9, T1_10, T1_11, T1_13⟩
theorem old_same {T : Thr M} {A : OA} {B : Bx} {Kc : Addr → Option Value} {w₀ : World} {m₀ : M} {most s : Nat} {E : Nat → Option Obj} {k : Nat} {a : OSt M} {left : Nat} {v : Value} {inb : Nat → Option Seat} {w : World} (h : Inv T A B Kc w₀ m₀ most s E k a left v inb w) {ad : Addr} {x : Value} (hc : w₀.cell? ad = some x) (hb : ad.block < B.B0) (hf : ¬ T.foot m₀ ad.block) : w.cell? ad = some x := by
 have hlt := Go.Car.cell_lt hc
 have h1 : w₀.heap[ad.block]? = some w₀.heap[ad.block] := Array.getElem?_eq_getElem hlt
 rw [← hc]
 exact zqe ((h.heap_old hb hf h1).trans h1.symm)
theorem sched_loop {Fin : Machine → Trace → Prop} (hFin : Back Try.prog Fin) {T : Thr M} {A : OA} {B : Bx} {Kc : Addr → Option Value} {w₀ : World} {m₀ : M} {most n : Nat} (hn : A.n0 + A.N ≤ n) {thr sch : Value} {sb off C : Nat} {sched : List Int} (hL : sched.length ≤ 4611686018427387904)
 (hmem : ∀ j x, sched[j]? = some x → w₀.cell? ⟨sb, off + j, none⟩ = some (.int .i64 x)) (hsb : sb < B.B0) (hsf : ¬ T.foot m₀ sb) {b : Frame} (hb : b.kind ≠ .early) {ds : List Deferred} {K : List Item} {cs : List Frame} :
 ∀ (r j : Nat), j + r = sched.length → ∀ {E : Nat → Option Obj} {k : Nat} {a : OSt M} {v : Value} {inb : Nat → Option Seat} {w : World} {Ts : Array Value}, Inv T A B Kc w₀ m₀ most A.N E k a (leftN a.ov A.N) v inb w → most + 100 ≤ k + a.ord.length → Fr A B thr sch Ts →
  Ts[76]? = some (.slice (some ⟨sb, off, none⟩) sched.length C) → Ts[77]? = some (.int .i64 sched.length) → Ts[78]? = some (.int .i64 j) →
  (∀ a' E' k' v' inb' w' Ts', StepsR T A.N most (sched.drop j) a a' → most + 100 ≤ k' + a'.ord.length → Inv T A B Kc w₀ m₀ most A.N E' k' a' (leftN a'.ov A.N) v' inb' w' → Fr A B thr sch Ts' → HoldR Try.prog Fin Kc inb' 0 n (G (b.at ⟨Ts', ds⟩ K) cs) w') →
  HoldR Try.prog Fin Kc inb 0 n (G (b.at ⟨Ts, ds⟩ (.code lpC :: .inLoop lpC :: .inBlock 4 :: K)) cs) w := by
 intro r
 induction r with
 | zero =>
  intro j hj E k a v inb w Ts hI hk hF t76 t77 t78 hmain
  have e : j = sched.length := by omega
  subst e
  refine sched_exit hFin (B := B) (A := A) hF t77 t78 hb fun Ts' hF' => ?_
  exact hmain a E k v inb w Ts' (by rw [List.drop_length]; exact .nil a) hk hI hF'
 | succ r ih =>
  intro j hj E k a v inb w Ts hI hk hF t76 t77 t78 hmain
  have hjl : j < sched.length := by omega
  have hx : sched[j]? = some sched[j] := List.getElem?_eq_getElem hjl
  obtain ⟨k, rfl⟩ : ∃ k', k = k' + 1 := ⟨k - 1, by have := hI.len; omega⟩
  refine sched_round hFin hI hn hF hjl hL t76 t77 t78 (old_same hI (hmem j _ hx) hsb hsf) hb fun a' E' k' v' inb' w' Ts' hst hk' hI' hF' u76 u77 u78 => ?_
  have hJ' := jm_main hFin Kc inb' n
  refine hJ'.ctl (s := ()) (fun w => stepG_inLoop) ?_
  refine ih (j + 1) (by omega) hI' (by omega) hF' u76 u77 u78 fun a'' E'' k'' v'' inb'' w'' Ts'' hss hk'' hI'' hF'' => ?_
  refine hmain a'' E'' k'' v'' inb'' w'' Ts'' ?_ hk'' hI'' hF''
  rw [List.drop_eq_getElem_cons hjl]
  exact .cons hst hss
noncomputable def lpD : Code := match headC (tailN 9 (Try.f14.body.getD .skip)) with | .block _ (.loop c) => c | _ => .skip
noncomputable def lpE : Code := match lpD with | .seq _ (.block _ (.seq _ (.block _ (.loop c)))) => c | _ => .skip
theorem inner_round {Fin : Machine → Trace → Prop} (hFin : Back Try.prog Fin) {T : Thr M} {A : OA} {B : Bx} {Kc : Addr → Option Value} {w₀ : World} {m₀ : M} {most n : Nat} {E : Nat → Option Obj} {k : Nat} {a : OSt M} {v : Value} {inb : Nat → Option Seat} {w : World}
 (h : Inv T A B Kc w₀ m₀ most A.N E (k + 1) a (leftN a.ov A.N) v inb w) (hn : A.n0 + A.N ≤ n) {thr sch : Value} {j : Nat} {Ts : Array Value} (hF : Fr A B thr sch Ts) (hj : j < A.N) (t94 : Ts[94]? = some (.int .i64 A.N)) (t95 : Ts[95]? = some (.int .i64 j))
 {b : Frame} (hb : b.kind ≠ .early) {ds : List Deferred} {K : List Item} {cs : List Frame}
 (hmain : ∀ a' E' k' v' inb' w' (Ts' : Array Value), Step1 T A.N most j a a' → k + a.ord.length + 1 ≤ k' + a'.ord.length → Inv T A B Kc w₀ m₀ most A.N E' k' a' (leftN a'.ov A.N) v' inb' w' → Fr A B thr sch Ts' → Ts'[94]? = some (.int .i64 A.N) → Ts'[95]? = some (.int .i64 (j + 1 : Nat)) →
  HoldR Try.prog Fin Kc inb' 0 n (G (b.at ⟨Ts', ds⟩ (.inLoop lpE :: .inBlock 8 :: K)) cs) w') :
 HoldR Try.prog Fin Kc inb 0 n (G (b.at ⟨Ts, ds⟩ (.code lpE :: .inLoop lpE :: .inBlock 8 :: K)) cs) w := by
 have hJ := jm_main hFin Kc inb n
 have hN64 := h.N
 obtain ⟨hsz, f2, f3, f4, f5, f6, f7, f8, f9⟩ := hF
 have hm := Lib.hid hmain
 clear hmain
 have elp : lpE = match lpD with | .seq _ (.block _ (.seq _ (.block _ (.loop c)))) => c | _ => .skip := rfl
 simp only [lpD, headC, tailN, Try.f14, al_od] at elp
 generalize hlp : lpE = lp at elp ⊢ hm
 subst elp
 have hjL : (j : Int) < A.N := by omega
 have hj0 : (0 : Int) ≤ j := by omega
 refine hJ.ctl (s := ()) (fun w => stepG_seq) ?_
 refine hJ.ctl (s := ()) (fun w => stepG_region) ?_
 refine at_eval (J := fun (_ : Unit) => HoldR Try.prog Fin Kc inb 0 n) (s := ()) hJ hb 0 [.bool true] [] rfl (by simp) (by rfl) ?_ ?_
 · intro τ d
   simp only [evalsO, dstOf, al_gl, al_g0, al_g1, al_ob]
   refine ⟨?_, trivial⟩ <;> (intro o ho; simp only [al_oi] at ho; subst ho)
   all_goals (try simp only [execOp, Act.eval, al_gd])
   all_goals (try simp only [al_gs, al_gz, hsz, f2, f3, f4, f5, f6, f7, f8, f9, t94, t95, Nat.reduceEqDiff, Nat.reduceLT, ↓reduceIte, al_od])
   all_goals (have hlt : ∀ i, i < 129 → i < (Ts).size := fun i hi => (by rw [hsz]; exact hi))
   all_goals (clear hsz f2 f3 f4 f5 f6 f7 f8 f9 t94 t95)
   all_goals (try go_simp)
   all_goals (try omega)
 simp only [putv, dstOf, al_gl, al_g0, al_g1, al_ob]
 obtain ⟨T1, hT⟩ : ∃ X, X = (Ts).setIfInBounds 96 (.bool true) := ⟨_, rfl⟩
 rw [← hT]
 have hT1 : T1.size = 129 := by rw [hT]; simp [hsz]
 have T1_0 := sg1 hT f2
 have T1_1 := sg1 hT f3
 have T1_5 := sg1 hT f4
 have T1_6 := sg1 hT f5
 have T1_9 := sg1 hT f6
 have T1_10 := sg1 hT f7
 have T1_11 := sg1 hT f8
 have T1_13 : T1[13]? = some (stepV A B) := sg1 hT f9
 have T1_94 := sg1 hT t94
 have T1_95 := sg1 hT t95
 have T1_96 : T1[96]? = some (.bool true) := by rw [hT]; simp [al_gs, hsz]
 clear hT f2 f3 f4 f5 f6 f7 f8 f9 t94 t95 hsz
 refine hJ.ctl (s := ()) (fun w => stepG_region_end) ?_
 refine hJ.ctl (s := ()) (fun w => stepG_seq) ?_
 refine hJ.ctl (s := ()) (fun w => stepG_cond (t := true) (by simp [Act.eval, al_gd, T1_96])) ?_
 simp only [if_true]
 refine hJ.ctl (s := ()) (fun w => stepG_skip) ?_
 refine hJ.ctl (s := ()) (fun w => stepG_seq) ?_
 refine hJ.ctl (s := ()) (fun w => stepG_block) ?_
 refine hJ.ctl (s := ()) (fun w => stepG_seq) ?_
 refine hJ.ctl (s := ()) (fun w => stepG_region) ?_
 refine at_eval (J := fun (_ : Unit) => HoldR Try.prog Fin Kc inb 0 n) (s := ()) hJ hb 0 [.int .i64 j, .int .i64 j] [] rfl (by simp) (by rfl) ?_ ?_
 · intro τ d
   simp only [evalsO, dstOf, al_gl, al_g0, al_g1, al_ob]
   refine ⟨?_, ?_, trivial⟩ <;> (intro o ho; simp only [al_oi] at ho; subst ho)
   all_goals (try simp only [execOp, Act.eval, al_gd])
   all_goals (try simp only [al_gs, al_gz, hT1, T1_0, T1_1, T1_5, T1_6, T1_9, T1_10, T1_11, T1_13, T1_94, T1_95, T1_96, Nat.reduceEqDiff, Nat.reduceLT, ↓reduceIte, al_od])
   all_goals (have hlt : ∀ i, i < 129 → i < (T1).size := fun i hi => (by rw [hT1]; exact hi))
   all_goals (clear hT1 T1_0 T1_1 T1_5 T1_6 T1_9 T1_10 T1_11 T1_13 T1_94 T1_95 T1_96)
   all_goals (try go_simp)
   all_goals (try omega)
 simp only [putv, dstOf, al_gl, al_g0, al_g1, al_ob]
 obtain ⟨T2, hT⟩ : ∃ X, X = ((T1).setIfInBounds 97 (.int .i64 j)).setIfInBounds 16 (.int .i64 j) := ⟨_, rfl⟩
 rw [← hT]
 have hT2 : T2.size = 129 := by rw [hT]; simp [hT1]
 have T2_0 := sg2 hT T1_0
 have T2_1 := sg2 hT T1_1
 have T2_5 := sg2 hT T1_5
 have T2_6 := sg2 hT T1_6
 have T2_9 := sg2 hT T1_9
 have T2_10 := sg2 hT T1_10
 have T2_11 := sg2 hT T1_11
 have T2_13 : T2[13]? = some (stepV A B) := sg2 hT T1_13
 have T2_94 := sg2 hT T1_94
 have T2_95 := sg2 hT T1_95
 have T2_96 := sg2 hT T1_96
 have T2_97 : T2[97]? = some (.int .i64 j) := by rw [hT]; simp [al_gs, hT1]
 have T2_16 : T2[16]? = some (.int .i64 j) := by rw [hT]; simp [al_gs, hT1]
 clear hT T1_0 T1_1 T1_5 T1_6 T1_9 T1_10 T1_11 T1_13 T1_94 T1_95 T1_96 hT1
 refine hJ.ctl (s := ()) (fun w => stepG_region_end) ?_
 refine hJ.ctl (s := ()) (fun w => stepG_region) ?_
 refine at_eval (J := fun (_ : Unit) => HoldR Try.prog Fin Kc inb 0 n) (s := ()) hJ hb 0 [stepV A B, .int .i64 j] [2] rfl (by simp) (by rfl) ?_ ?_
 · intro τ d
   simp only [evalsO, dstOf, al_gl, al_g0, al_g1, al_ob]
   refine ⟨?_, ?_, trivial⟩ <;> (intro o ho; simp only [al_oi] at ho; subst ho)
   all_goals (try simp only [execOp, Act.eval, al_gd])
   all_goals (try simp only [al_gs, al_gz, hT2, T2_0, T2_1, T2_5, T2_6, T2_9, T2_10, T2_11, T2_13, T2_94, T2_95, T2_96, T2_97, T2_16, Nat.reduceEqDiff, Nat.reduceLT, ↓reduceIte, al_od])
   all_goals (have hlt : ∀ i, i < 129 → i < (T2).size := fun i hi => (by rw [hT2]; exact hi))
   all_goals (clear hT2 T2_0 T2_1 T2_5 T2_6 T2_9 T2_10 T2_11 T2_13 T2_94 T2_95 T2_96 T2_97 T2_16)
   all_goals (try go_simp)
   all_goals (try omega)
 simp only [putv, dstOf, al_gl, al_g0, al_g1, al_ob]
 obtain ⟨T3, hT⟩ : ∃ X, X = ((T2).setIfInBounds 98 (stepV A B)).setIfInBounds 99 (.int .i64 j) := ⟨_, rfl⟩
 rw [← hT]
 have hT3 : T3.size = 129 := by rw [hT]; simp [hT2]
 have T3_0 := sg2 hT T2_0
 have T3_1 := sg2 hT T2_1
 have T3_5 := sg2 hT T2_5
 have T3_6 := sg2 hT T2_6
 have T3_9 := sg2 hT T2_9
 have T3_10 := sg2 hT T2_10
 have T3_11 := sg2 hT T2_11
 have T3_13 : T3[13]? = some (stepV A B) := sg2 hT T2_13
 have T3_94 := sg2 hT T2_94
 have T3_95 := sg2 hT T2_95
 have T3_96 := sg2 hT T2_96
 have T3_97 := sg2 hT T2_97
 have T3_16 := sg2 hT T2_16
 have T3_98 : T3[98]? = some (stepV A B) := by rw [hT]; simp [al_gs, hT2]
 have T3_99 : T3[99]? = some (.int .i64 j) := by rw [hT]; simp [al_gs, hT2]
 clear hT T2_0 T2_1 T2_5 T2_6 T2_9 T2_10 T2_11 T2_13 T2_94 T2_95 T2_96 T2_97 T2_16 hT2
 refine at_call (J := fun (_ : Unit) => HoldR Try.prog Fin Kc inb 0 n) (s := ()) hb hJ rfl (by simp [Region.wanted]) (f := 35) (args := #[.int .i64 j, .pointer (some ⟨B.bN, 0, none⟩), .pointer (some ⟨A.bX, 0, none⟩), .pointer (some ⟨B.bO, 0, none⟩), .pointer (some ⟨B.bM, 0, none⟩), .pointer (some ⟨B.bL, 0, none⟩)]) (fun τ d => ?_) (fun τ d => ?_) ?_
 · simp [go_sem, execOp, Act.eval, resolve, Deferred.ofValue, invoke, callFunc, Try.func35, Try.f35, stepV, al_gd, T3_98, T3_99]
 · intro e he
   simp [go_sem, execOp, Act.eval, resolve, Deferred.ofValue, invoke, callFunc, Try.func35, Try.f35, Sem.runT_eq, stepV, al_gd, T3_98, T3_99] at he
 refine step_calls hFin h (j : Int) hn fun a' E' k' v' inb' w' hst hk hI => ?_
 have hJ3 := jm_main hFin Kc inb' n
 rw [Frame.finish_at]
 try walk_nrm
 obtain ⟨T4, hT⟩ : ∃ X, X = (T3).setIfInBounds 100 (.tuple #[]) := ⟨_, rfl⟩
 rw [← hT]
 have hT4 : T4.size = 129 := by rw [hT]; simp [hT3]
 have T4_0 := sg1 hT T3_0
 have T4_1 := sg1 hT T3_1
 have T4_5 := sg1 hT T3_5
 have T4_6 := sg1 hT T3_6
 have T4_9 := sg1 hT T3_9
 have T4_10 := sg1 hT T3_10
 have T4_11 := sg1 hT T3_11
 have T4_13 : T4[13]? = some (stepV A B) := sg1 hT T3_13
 have T4_94 := sg1 hT T3_94
 have T4_95 := sg1 hT T3_95
 have T4_96 := sg1 hT T3_96
 have T4_97 := sg1 hT T3_97
 have T4_16 := sg1 hT T3_16
 have T4_98 : T4[98]? = some (stepV A B) := sg1 hT T3_98
 have T4_99 := sg1 hT T3_99
 have T4_100 : T4[100]? = some (.tuple #[]) := by rw [hT]; simp [al_gs, hT3]
 clear hT T3_0 T3_1 T3_5 T3_6 T3_9 T3_10 T3_11 T3_13 T3_94 T3_95 T3_96 T3_97 T3_16 T3_98 T3_99 hT3
 refine hJ3.ctl (s := ()) (fun w => stepG_region_end) ?_
 refine hJ3.ctl (s := ()) (fun w => stepG_inBlock) ?_
 refine hJ3.ctl (s := ()) (fun w => stepG_region) ?_
 have hwr : IntKind.i64.wrap ((j : Int) + 1) = ((j + 1 : Nat) : Int) := by
  rw [show (j : Int) + 1 = ((j + 1 : Nat) : Int) by omega]
  exact IntWalk.i64_in _ (by omega)
 refine at_eval (J := fun (_ : Unit) => HoldR Try.prog Fin Kc inb' 0 n) (s := ()) hJ3 hb 0 [.int .i64 ((j + 1 : Nat) : Int), .int .i64 ((j + 1 : Nat) : Int)] [] rfl (by simp) (by rfl) ?_ ?_
 · intro τ d
   simp only [evalsO, dstOf, al_gl, al_g0, al_g1, al_ob]
   refine ⟨?_, ?_, trivial⟩ <;> (intro o ho; simp only [al_oi] at ho; subst ho)
   all_goals (try simp only [execOp, Act.eval, al_gd])
   all_goals (try simp only [al_gs, al_gz, hT4, T4_0, T4_1, T4_5, T4_6, T4_9, T4_10, T4_11, T4_13, T4_94, T4_95, T4_96, T4_97, T4_16, T4_98, T4_99, T4_100, Nat.reduceEqDiff, Nat.reduceLT, ↓reduceIte, al_od])
   all_goals (have hlt : ∀ i, i < 129 → i < (T4).size := fun i hi => (by rw [hT4]; exact hi))
   all_goals (clear hT4 T4_0 T4_1 T4_5 T4_6 T4_9 T4_10 T4_11 T4_13 T4_94 T4_95 T4_96 T4_97 T4_16 T4_98 T4_99 T4_100)
   all_goals (try go_simp)
   all_goals (try omega)
 simp only [putv, dstOf, al_gl, al_g0, al_g1, al_ob]
 obtain ⟨T5, hT⟩ : ∃ X, X = ((T4).setIfInBounds 101 (.int .i64 ((j + 1 : Nat) : Int))).setIfInBounds 95 (.int .i64 ((j + 1 : Nat) : Int)) := ⟨_, rfl⟩
 rw [← hT]
 have hT5 : T5.size = 129 := by rw [hT]; simp [hT4]
 have T5_0 := sg2 hT T4_0
 have T5_1 := sg2 hT T4_1
 have T5_5 := sg2 hT T4_5
 have T5_6 := sg2 hT T4_6
 have T5_9 := sg2 hT T4_9
 have T5_10 := sg2 hT T4_10
 have T5_11 := sg2 hT T4_11
 have T5_13 : T5[13]? = some (stepV A B) := sg2 hT T4_13
 have T5_94 := sg2 hT T4_94
 have T5_96 := sg2 hT T4_96
 have T5_97 := sg2 hT T4_97
 have T5_16 := sg2 hT T4_16
 have T5_98 : T5[98]? = some (stepV A B) := sg2 hT T4_98
 have T5_99 := sg2 hT T4_99
 have T5_100 := sg2 hT T4_100
 have T5_101 : T5[101]? = some (.int .i64 ((j + 1 : Nat) : Int)) := by rw [hT]; simp [al_gs, hT4]
 have T5_95 : T5[95]? = some (.int .i64 ((j + 1 : Nat) : Int)) := by rw [hT]; simp [al_gs, hT4]
 clear hT T4_0 T4_1 T4_5 T4_6 T4_9 T4_10 T4_11 T4_13 T4_94 T4_95 T4_96 T4_97 T4_16 T4_98 T4_99 T4_100 hT4
 refine hJ3.ctl (s := ()) (fun w => stepG_region_end) ?_
 exact hm.out _ E' k' v' inb' w' _ hst hk hI ⟨hT5, T5_0, T5_1, T5_5, T5_6, T5_9, T5_10, T5_11, T5_13⟩ T5_94 T5_95
theorem inner_exit {Fin : Machine → Trace → Prop} (hFin : Back Try.prog Fin) {A : OA} {B : Bx} {Kc : Addr → Option Value} {n : Nat} {inb : Nat → Option Seat} {w : World} {thr sch : Value} {Ts : Array Value} (hF : Fr A B thr sch Ts) (t94 : Ts[94]? = some (.int .i64 A.N)) (t95 : Ts[95]? = some (.int .i64 A.N))
 {b : Frame} (hb : b.kind ≠ .early) {ds : List Deferred} {K : List Item} {cs : List Frame} (hmain : ∀ Ts', Fr A B thr sch Ts' → HoldR Try.prog Fin Kc inb 0 n (G (b.at ⟨Ts', ds⟩ K) cs) w) :
 HoldR Try.prog Fin Kc inb 0 n (G (b.at ⟨Ts, ds⟩ (.code lpE :: .inLoop lpE :: .inBlock 8 :: K)) cs) w := by
 have hJ := jm_main hFin Kc inb n
 obtain ⟨hsz, f2, f3, f4, f5, f6, f7, f8, f9⟩ := hF
 have hm := Lib.hid hmain
 clear hmain
 have elp : lpE = match lpD with | .seq _ (.block _ (.seq _ (.block _ (.loop c)))) => c | _ => .skip := rfl
 simp only [lpD, headC, tailN, Try.f14, al_od] at elp
 generalize hlp : lpE = lp at elp ⊢ hm
 subst elp
 refine hJ.ctl (s := ()) (fun w => stepG_seq) ?_
 refine hJ.ctl (s := ()) (fun w => stepG_region) ?_
 refine at_eval (J := fun (_ : Unit) => HoldR Try.prog Fin Kc inb 0 n) (s := ()) hJ hb 0 [.bool false] [] rfl (by simp) (by rfl) ?_ ?_
 · intro τ d
   simp only [evalsO, dstOf, al_gl, al_g0, al_g1, al_ob]
   refine ⟨?_, trivial⟩ <;> (intro o ho; simp only [al_oi] at ho; subst ho)
   all_goals (try simp only [execOp, Act.eval, al_gd])
   all_goals (try simp only [al_gs, al_gz, hsz, f2, f3, f4, f5, f6, f7, f8, f9, t94, t95, Nat.reduceEqDiff, Nat.reduceLT, ↓reduceIte, al_od])
   all_goals (have hlt : ∀ i, i < 129 → i < (Ts).size := fun i hi => (by rw [hsz]; exact hi))
   all_goals (clear hsz f2 f3 f4 f5 f6 f7 f8 f9 t94 t95)
   all_goals (try go_simp)
   all_goals (try omega)
 simp only [putv, dstOf, al_gl, al_g0, al_g1, al_ob]
 obtain ⟨T1, hT⟩ : ∃ X, X = (Ts).setIfInBounds 96 (.bool false) := ⟨_, rfl⟩
 rw [← hT]
 have hT1 : T1.size = 129 := by rw [hT]; simp [hsz]
 have T1_0 := sg1 hT f2
 have T1_1 := sg1 hT f3
 have T1_5 := sg1 hT f4
 have T1_6 := sg1 hT f5
 have T1_9 := sg1 hT f6
 have T1_10 := sg1 hT f7
 have T1_11 := sg1 hT f8
 have T1_13 : T1[13]? = some (stepV A B) := sg1 hT f9
 have T1_94 := sg1 hT t94
 have T1_95 := sg1 hT t95
 have T1_96 : T1[96]? = some (.bool false) := by rw [hT]; simp [al_gs, hsz]
 clear hT f2 f3 f4 f5 f6 f7 f8 f9 t94 t95 hsz
 refine hJ.ctl (s := ()) (fun w => stepG_region_end) ?_
 refine hJ.ctl (s := ()) (fun w => stepG_seq) ?_
 refine hJ.ctl (s := ()) (fun w => stepG_cond (t := false) (by simp [Act.eval, al_gd, T1_96])) ?_
 simp only [Bool.false_eq_true, if_false]
 refine hJ.ctl (s := ()) (fun w => stepG_exit (k' := K) rfl) ?_
 exact hm.out _ ⟨hT1, T1_0, T1_1, T1_5, T1_6, T1_9, T1_10, T1_11, T1_13⟩
theorem inner_loop {Fin : Machine → Trace → Prop} (hFin : Back Try.prog Fin) {T : Thr M} {A : OA} {B : Bx} {Kc : Addr → Option Value} {w₀ : World} {m₀ : M} {most n : Nat} (hn : A.n0 + A.N ≤ n) {thr sch : Value} {b : Frame} (hb : b.kind ≠ .early) {ds : List Deferred} {K : List Item} {cs : List Frame} :
 ∀ (r j : Nat), j + r = A.N → ∀ {E : Nat → Option Obj} {k : Nat} {a : OSt M} {v : Value} {inb : Nat → Option Seat} {w : World} {Ts : Array Value}, Inv T A B Kc w₀ m₀ most A.N E k a (leftN a.ov A.N) v inb w → most + 100 ≤ k + a.ord.length → Fr A B thr sch Ts →
  Ts[94]? = some (.int .i64 A.N) → Ts[95]? = some (.int .i64 j) →
  (∀ a' E' k' v' inb' w' Ts', StepsR T A.N most ((upto A.N).drop j) a a' → most + 100 ≤ k' + a'.ord.length → Inv T A B Kc w₀ m₀ most A.N E' k' a' (leftN a'.ov A.N) v' inb' w' → Fr A B thr sch Ts' → HoldR Try.prog Fin Kc inb' 0 n (G (b.at ⟨Ts', ds⟩ K) cs) w') →
  HoldR Try.prog Fin Kc inb 0 n (G (b.at ⟨Ts, ds⟩ (.code lpE :: .inLoop lpE :: .inBlock 8 :: K)) cs) w := by
 intro r
 induction r with
 | zero =>
  intro j hj E k a v inb w Ts hI hk hF t94 t95 hmain
  have e : j = A.N := by omega
  subst e
  refine inner_exit hFin (B := B) (A := A) hF t94 t95 hb fun Ts' hF' => ?_
  exact hmain a E k v inb w Ts' (by rw [List.drop_of_length_le (by rw [upto_len]; exact Nat.le_refl _)]; exact .nil a) hk hI hF'
 | succ r ih =>
  intro j hj E k a v inb w Ts hI hk hF t94 t95 hmain
  have hjl : j < (upto A.N).length := by rw [upto_len]; omega
  obtain ⟨k, rfl⟩ : ∃ k', k = k' + 1 := ⟨k - 1, by have := hI.len; omega⟩
  refine inner_round hFin hI hn hF (by omega) t94 t95 hb fun a' E' k' v' inb' w' Ts' hst hk' hI' hF' u94 u95 => ?_
  have hJ' := jm_main hFin Kc inb' n
  refine hJ'.ctl (s := ()) (fun w => stepG_inLoop) ?_
  refine ih (j + 1) (by omega) hI' (by omega) hF' u94 u95 fun a'' E'' k'' v'' inb'' w'' Ts'' hss hk'' hI'' hF'' => ?_
  refine hmain a'' E'' k'' v'' inb'' w'' Ts'' ?_ hk'' hI'' hF''
  have hg : (upto A.N)[j]'hjl = (j : Int) := by
   have := upto_get (N := A.N) (j := j) (by omega)
   rw [List.getElem?_eq_getElem hjl] at this
   exact Option.some.inj this
  rw [List.drop_eq_getElem_cons hjl, hg]
  exact .cons hst hss
end
section
variable {M : Type}
theorem rounds_head {Kc : Addr → Option Value} {J : Goroutine → World → Prop} (hJ : JM Try.prog Kc J) {A : OA} {B : Bx} {w : World} {thr sch : Value} {L len cap most : Nat} {p : Option Addr} {Ts : Array Value} (hF : Fr A B thr sch Ts)
 (cL : w.cell? ⟨B.bL, 0, none⟩ = some (.int .i64 L)) (cO : w.cell? ⟨B.bO, 0, none⟩ = some (.slice p len cap)) (cM : w.cell? ⟨B.bM, 0, none⟩ = some (.int .i64 most))
 {b : Frame} (hb : b.kind ≠ .early) {ds : List Deferred} {K : List Item} {cs : List Frame}
 (hno : ¬ (0 < L ∧ len < most) → ∀ Ts', Fr A B thr sch Ts' → J (G (b.at ⟨Ts', ds⟩ K) cs) w)
 (hgo : 0 < L ∧ len < most → ∀ Ts', Fr A B thr sch Ts' → J (G (b.at ⟨Ts', ds⟩ (.code (match lpD with | .seq _ c => c | _ => .skip) :: .inLoop lpD :: .inBlock 6 :: K)) cs) w) :
 J (G (b.at ⟨Ts, ds⟩ (.code lpD :: .inLoop lpD :: .inBlock 6 :: K)) cs) w := by
 obtain ⟨hsz, f2, f3, f4, f5, f6, f7, f8, f9⟩ := hF
 have elp : lpD = match headC (tailN 9 (Try.f14.body.getD .skip)) with | .block _ (.loop c) => c | _ => .skip := rfl
 simp only [headC, tailN, Try.f14, al_od] at elp
 have hgo' : Hid (0 < L ∧ len < most → ∀ Ts', Fr A B thr sch Ts' → J (G (b.at ⟨Ts', ds⟩ (.code (match lpD with | .seq _ c => c | _ => .skip) :: .inLoop lpD :: .inBlock 6 :: K)) cs) w) := Lib.hid hgo
 have hno' := Lib.hid hno
 clear hgo hno
 generalize hlp : lpD = lp at elp ⊢ hgo'
 subst elp
 simp only [] at hgo'
 by_cases h0 : L = 0
 · subst h0
   refine hJ.ctl (s := ()) (fun w => stepG_seq) ?_
   refine hJ.ctl (s := ()) (fun w => stepG_seq) ?_
   refine hJ.ctl (s := ()) (fun w => stepG_region) ?_
   refine at_evalG (J := fun (_ : Unit) => J) (s := ()) hJ hb 0 [some (.int .i64 (0 : Nat)), some (.bool false), some (.bool false), none, none, none, none, some (.bool false)] [] rfl (by simp) (by rfl) ?_ ?_
   · intro τ d
     simp only [evalsG, dstOf, al_gl, al_g0, al_g1, al_ob]
     refine ⟨?_, ?_, ?_, ?_, ?_, ?_, ?_, ?_, trivial⟩ <;> (intro o ho; simp only [al_oi] at ho; subst ho)
     all_goals (first | refine ⟨by simp [Region.wanted, yielded, al_gs, hsz, f2, f3, f4, f5, f6, f7, f8, f9], ?_⟩ | (simp [Region.wanted, yielded, al_gs, hsz, f2, f3, f4, f5, f6, f7, f8, f9]; done))
     all_goals (try simp only [execOp, Act.eval, al_gd])
     all_goals (try simp only [al_gs, al_gz, hsz, f2, f3, f4, f5, f6, f7, f8, f9, Nat.reduceEqDiff, Nat.reduceLT, ↓reduceIte, al_od])
     all_goals (have hlt : ∀ i, i < 129 → i < (Ts).size := fun i hi => (by rw [hsz]; exact hi))
     all_goals (clear hsz f2 f3 f4 f5 f6 f7 f8 f9)
     all_goals (try go_simp)
     all_goals (try omega)
   simp only [putG, dstOf, al_gl, al_g0, al_g1, al_ob, al_od, Option.getD_none]
   obtain ⟨T1, hT⟩ : ∃ X, X = ((((((((Ts).setIfInBounds 86 (.int .i64 (0 : Nat))).setIfInBounds 87 (.bool false)).setIfInBounds 88 (.bool false)).setIfInBounds 89 (undef)).setIfInBounds 90 (undef)).setIfInBounds 91 (undef)).setIfInBounds 92 (undef)).setIfInBounds 93 (.bool false) := ⟨_, rfl⟩
   rw [← hT]
   have hT1 : T1.size = 129 := by rw [hT]; simp [hsz]
   have T1_0 := sg8 hT f2
   have T1_1 := sg8 hT f3
   have T1_5 := sg8 hT f4
   have T1_6 := sg8 hT f5
   have T1_9 := sg8 hT f6
   have T1_10 := sg8 hT f7
   have T1_11 := sg8 hT f8
   have T1_13 : T1[13]? = some (stepV A B) := sg8 hT f9
   have T1_86 : T1[86]? = some (.int .i64 (0 : Nat)) := by rw [hT]; simp [al_gs, hsz]
   have T1_87 : T1[87]? = some (.bool false) := by rw [hT]; simp [al_gs, hsz]
   have T1_88 : T1[88]? = some (.bool false) := by rw [hT]; simp [al_gs, hsz]
   have T1_89 : T1[89]? = some (undef) := by rw [hT]; simp [al_gs, hsz]
   have T1_90 : T1[90]? = some (undef) := by rw [hT]; simp [al_gs, hsz]
   have T1_91 : T1[91]? = some (undef) := by rw [hT]; simp [al_gs, hsz]
   have T1_92 : T1[92]? = some (undef) := by rw [hT]; simp [al_gs, hsz]
   have T1_93 : T1[93]? = some (.bool false) := by rw [hT]; simp [al_gs, hsz]
   clear hT f2 f3 f4 f5 f6 f7 f8 f9 hsz
   refine hJ.ctl (s := ()) (fun w => stepG_region_end) ?_
   refine hJ.ctl (s := ()) (fun w => stepG_cond (t := false) (by simp [Act.eval, al_gd, T1_93])) ?_
   simp only [Bool.false_eq_true, if_false]
   refine hJ.ctl (s := ()) (fun w => stepG_exit (k' := K) rfl) ?_
   exact hno'.out (by omega) _ ⟨hT1, T1_0, T1_1, T1_5, T1_6, T1_9, T1_10, T1_11, T1_13⟩
 have h0i : (0 : Int) < L := by omega
 by_cases h1 : len < most
 · have h1i : (len : Int) < most := by omega
   refine hJ.ctl (s := ()) (fun w => stepG_seq) ?_
   refine hJ.ctl (s := ()) (fun w => stepG_seq) ?_
   refine hJ.ctl (s := ()) (fun w => stepG_region) ?_
   refine at_evalG (J := fun (_ : Unit) => J) (s := ()) hJ hb 0 [some (.int .i64 L), some (.bool true), some (.bool true), some (.slice p len cap), some (.int .i64 len), some (.int .i64 most), some (.bool true), some (.bool true)] [] rfl (by simp) (by rfl) ?_ ?_
   · intro τ d
     simp only [evalsG, dstOf, al_gl, al_g0, al_g1, al_ob]
     refine ⟨?_, ?_, ?_, ?_, ?_, ?_, ?_, ?_, trivial⟩ <;> (intro o ho; simp only [al_oi] at ho; subst ho)
     all_goals (first | refine ⟨by simp [Region.wanted, yielded, al_gs, hsz, f2, f3, f4, f5, f6, f7, f8, f9], ?_⟩ | (simp [Region.wanted, yielded, al_gs, hsz, f2, f3, f4, f5, f6, f7, f8, f9]; done))
     all_goals (try simp only [execOp, Act.eval, al_gd])
     all_goals (try simp only [al_gs, al_gz, hsz, f2, f3, f4, f5, f6, f7, f8, f9, Nat.reduceEqDiff, Nat.reduceLT, ↓reduceIte, al_od])
     all_goals (have hlt : ∀ i, i < 129 → i < (Ts).size := fun i hi => (by rw [hsz]; exact hi))
     all_goals (clear hsz f2 f3 f4 f5 f6 f7 f8 f9)
     all_goals (try go_simp)
     all_goals (try omega)
   simp only [putG, dstOf, al_gl, al_g0, al_g1, al_ob, al_od, Option.getD_none]
   obtain ⟨T1, hT⟩ : ∃ X, X = ((((((((Ts).setIfInBounds 86 (.int .i64 L)).setIfInBounds 87 (.bool true)).setIfInBounds 88 (.bool true)).setIfInBounds 89 (.slice p len cap)).setIfInBounds 90 (.int .i64 len)).setIfInBounds 91 (.int .i64 most)).setIfInBounds 92 (.bool true)).setIfInBounds 93 (.bool true) := ⟨_, rfl⟩
   rw [← hT]
   have hT1 : T1.size = 129 := by rw [hT]; simp [hsz]
   have T1_0 := sg8 hT f2
   have T1_1 := sg8 hT f3
   have T1_5 := sg8 hT f4
   have T1_6 := sg8 hT f5
   have T1_9 := sg8 hT f6
   have T1_10 := sg8 hT f7
   have T1_11 := sg8 hT f8
   have T1_13 : T1[13]? = some (stepV A B) := sg8 hT f9
   have T1_86 : T1[86]? = some (.int .i64 L) := by rw [hT]; simp [al_gs, hsz]
   have T1_87 : T1[87]? = some (.bool true) := by rw [hT]; simp [al_gs, hsz]
   have T1_88 : T1[88]? = some (.bool true) := by rw [hT]; simp [al_gs, hsz]
   have T1_89 : T1[89]? = some (.slice p len cap) := by rw [hT]; simp [al_gs, hsz]
   have T1_90 : T1[90]? = some (.int .i64 len) := by rw [hT]; simp [al_gs, hsz]
   have T1_91 : T1[91]? = some (.int .i64 most) := by rw [hT]; simp [al_gs, hsz]
   have T1_92 : T1[92]? = some (.bool true) := by rw [hT]; simp [al_gs, hsz]
   have T1_93 : T1[93]? = some (.bool true) := by rw [hT]; simp [al_gs, hsz]
   clear hT f2 f3 f4 f5 f6 f7 f8 f9 hsz
   refine hJ.ctl (s := ()) (fun w => stepG_region_end) ?_
   refine hJ.ctl (s := ()) (fun w => stepG_cond (t := true) (by simp [Act.eval, al_gd, T1_93])) ?_
   simp only [if_true]
   refine hJ.ctl (s := ()) (fun w => stepG_skip) ?_
   exact hgo'.out ⟨by omega, by omega⟩ _ ⟨hT1, T1_0, T1_1, T1_5, T1_6, T1_9, T1_10, T1_11, T1_13⟩
 · have h1i : decide ((len : Int) < most) = false := by simp; omega
   have h1n : decide (len < most) = false := by simp; omega
   refine hJ.ctl (s := ()) (fun w => stepG_seq) ?_
   refine hJ.ctl (s := ()) (fun w => stepG_seq) ?_
   refine hJ.ctl (s := ()) (fun w => stepG_region) ?_
   refine at_evalG (J := fun (_ : Unit) => J) (s := ()) hJ hb 0 [some (.int .i64 L), some (.bool true), some (.bool true), some (.slice p len cap), some (.int .i64 len), some (.int .i64 most), some (.bool false), some (.bool false)] [] rfl (by simp) (by rfl) ?_ ?_
   · intro τ d
     simp only [evalsG, dstOf, al_gl, al_g0, al_g1, al_ob]
     refine ⟨?_, ?_, ?_, ?_, ?_, ?_, ?_, ?_, trivial⟩ <;> (intro o ho; simp only [al_oi] at ho; subst ho)
     all_goals (first | refine ⟨by simp [Region.wanted, yielded, al_gs, hsz, f2, f3, f4, f5, f6, f7, f8, f9], ?_⟩ | (simp [Region.wanted, yielded, al_gs, hsz, f2, f3, f4, f5, f6, f7, f8, f9]; done))
     all_goals (try simp only [execOp, Act.eval, al_gd])
     all_goals (try simp only [al_gs, al_gz, hsz, f2, f3, f4, f5, f6, f7, f8, f9, Nat.reduceEqDiff, Nat.reduceLT, ↓reduceIte, al_od])
     all_goals (have hlt : ∀ i, i < 129 → i < (Ts).size := fun i hi => (by rw [hsz]; exact hi))
     all_goals (clear hsz f2 f3 f4 f5 f6 f7 f8 f9)
     all_goals (try go_simp)
     all_goals (try omega)
   simp only [putG, dstOf, al_gl, al_g0, al_g1, al_ob, al_od, Option.getD_none]
   obtain ⟨T1, hT⟩ : ∃ X, X = ((((((((Ts).setIfInBounds 86 (.int .i64 L)).setIfInBounds 87 (.bool true)).setIfInBounds 88 (.bool true)).setIfInBounds 89 (.slice p len cap)).setIfInBounds 90 (.int .i64 len)).setIfInBounds 91 (.int .i64 most)).setIfInBounds 92 (.bool false)).setIfInBounds 93 (.bool false) := ⟨_, rfl⟩
   rw [← hT]
   have hT1 : T1.size = 129 := by rw [hT]; simp [hsz]
   have T1_0 := sg8 hT f2
   have T1_1 := sg8 hT f3
   have T1_5 := sg8 hT f4
   have T1_6 := sg8 hT f5
   have T1_9 := sg8 hT f6
   have T1_10 := sg8 hT f7
   have T1_11 := sg8 hT f8
   have T1_13 : T1[13]? = some (stepV A B) := sg8 hT f9
   have T1_86 : T1[86]? = some (.int .i64 L) := by rw [hT]; simp [al_gs, hsz]
   have T1_87 : T1[87]? = some (.bool true) := by rw [hT]; simp [al_gs, hsz]
   have T1_88 : T1[88]? = some (.bool true) := by rw [hT]; simp [al_gs, hsz]
   have T1_89 : T1[89]? = some (.slice p len cap) := by rw [hT]; simp [al_gs, hsz]
   have T1_90 : T1[90]? = some (.int .i64 len) := by rw [hT]; simp [al_gs, hsz]
   have T1_91 : T1[91]? = some (.int .i64 most) := by rw [hT]; simp [al_gs, hsz]
   have T1_92 : T1[92]? = some (.bool false) := by rw [hT]; simp [al_gs, hsz]
   have T1_93 : T1[93]? = some (.bool false) := by rw [hT]; simp [al_gs, hsz]
   clear hT f2 f3 f4 f5 f6 f7 f8 f9 hsz
   refine hJ.ctl (s := ()) (fun w => stepG_region_end) ?_
   refine hJ.ctl (s := ()) (fun w => stepG_cond (t := false) (by simp [Act.eval, al_gd, T1_93])) ?_
   simp only [Bool.false_eq_true, if_false]
   refine hJ.ctl (s := ()) (fun w => stepG_exit (k' := K) rfl) ?_
   exact hno'.out (by omega) _ ⟨hT1, T1_0, T1_1, T1_5, T1_6, T1_9, T1_10, T1_11, T1_13⟩
theorem rounds_mid {Fin : Machine → Trace → Prop} (hFin : Back Try.prog Fin) {A : OA} {B : Bx} {Kc : Addr → Option Value} {n : Nat} {inb : Nat → Option Seat} {w : World} {thr sch : Value} {Ts : Array Value} (hF : Fr A B thr sch Ts) (cN : w.cell? ⟨B.bN, 0, none⟩ = some (.int .i64 A.N))
 {b : Frame} (hb : b.kind ≠ .early) {ds : List Deferred} {K : List Item} {cs : List Frame}
 (hmain : ∀ Ts', Fr A B thr sch Ts' → Ts'[94]? = some (.int .i64 A.N) → Ts'[95]? = some (.int .i64 (0 : Nat)) → HoldR Try.prog Fin Kc inb 0 n (G (b.at ⟨Ts', ds⟩ (.code lpE :: .inLoop lpE :: .inBlock 8 :: .inBlock 7 :: K)) cs) w) :
 HoldR Try.prog Fin Kc inb 0 n (G (b.at ⟨Ts, ds⟩ (.code (match lpD with | .seq _ c => c | _ => .skip) :: K)) cs) w := by
 have hJ := jm_main hFin Kc inb n
 obtain ⟨hsz, f2, f3, f4, f5, f6, f7, f8, f9⟩ := hF
 have hm := Lib.hid hmain
 clear hmain
 have elp : (match lpD with | .seq _ c => c | _ => .skip : Code) = (match (match headC (tailN 9 (Try.f14.body.getD .skip)) with | .block _ (.loop c) => c | _ => .skip : Code) with | .seq _ c => c | _ => .skip) := rfl
 simp only [headC, tailN, Try.f14, al_od] at elp
 have ele : lpE = match lpD with | .seq _ (.block _ (.seq _ (.block _ (.loop c)))) => c | _ => .skip := rfl
 simp only [lpD, headC, tailN, Try.f14, al_od] at ele
 generalize hlp : (match lpD with | .seq _ c => c | _ => .skip : Code) = lp at elp ⊢
 generalize hle : lpE = le at ele hm
 subst elp ele
 refine hJ.ctl (s := ()) (fun w => stepG_block) ?_
 refine hJ.ctl (s := ()) (fun w => stepG_seq) ?_
 refine hJ.ctl (s := ()) (fun w => stepG_region) ?_
 refine at_eval (J := fun (_ : Unit) => HoldR Try.prog Fin Kc inb 0 n) (s := ()) hJ hb 0 [.int .i64 A.N, .int .i64 (0 : Nat)] [] rfl (by simp) (by rfl) ?_ ?_
 · intro τ d
   simp only [evalsO, dstOf, al_gl, al_g0, al_g1, al_ob]
   refine ⟨?_, ?_, trivial⟩ <;> (intro o ho; simp only [al_oi] at ho; subst ho)
   all_goals (try simp only [execOp, Act.eval, al_gd])
   all_goals (try simp only [al_gs, al_gz, hsz, f2, f3, f4, f5, f6, f7, f8, f9, Nat.reduceEqDiff, Nat.reduceLT, ↓reduceIte, al_od])
   all_goals (have hlt : ∀ i, i < 129 → i < (Ts).size := fun i hi => (by rw [hsz]; exact hi))
   all_goals (clear hsz f2 f3 f4 f5 f6 f7 f8 f9)
   all_goals (try go_simp)
   all_goals (try omega)
 simp only [putv, dstOf, al_gl, al_g0, al_g1, al_ob]
 obtain ⟨T1, hT⟩ : ∃ X, X = ((Ts).setIfInBounds 94 (.int .i64 A.N)).setIfInBounds 95 (.int .i64 (0 : Nat)) := ⟨_, rfl⟩
 rw [← hT]
 have hT1 : T1.size = 129 := by rw [hT]; simp [hsz]
 have T1_0 := sg2 hT f2
 have T1_1 := sg2 hT f3
 have T1_5 := sg2 hT f4
 have T1_6 := sg2 hT f5
 have T1_9 := sg2 hT f6
 have T1_10 := sg2 hT f7
 have T1_11 := sg2 hT f8
 have T1_13 : T1[13]? = some (stepV A B) := sg2 hT f9
 have T1_94 : T1[94]? = some (.int .i64 A.N) := by rw [hT]; simp [al_gs, hsz]
 have T1_95 : T1[95]? = some (.int .i64 (0 : Nat)) := by rw [hT]; simp [al_gs, hsz]
 clear hT f2 f3 f4 f5 f6 f7 f8 f9 hsz
 refine hJ.ctl (s := ()) (fun w => stepG_region_end) ?_
 refine hJ.ctl (s := ()) (fun w => stepG_block) ?_
 refine hJ.ctl (s := ()) (fun w => stepG_loop) ?_
 exact hm.out _ ⟨hT1, T1_0, T1_1, T1_5, T1_6, T1_9, T1_10, T1_11, T1_13⟩ T1_94 T1_95
theorem rounds_loop {Fin : Machine → Trace → Prop} (hFin : Back Try.prog Fin) {T : Thr M} {A : OA} {B : Bx} {Kc : Addr → Option Value} {w₀ : World} {m₀ : M} {most n : Nat} (hn : A.n0 + A.N ≤ n) {thr sch : Value} {b : Frame} (hb : b.kind ≠ .early) {ds : List Deferred} {K : List Item} {cs : List Frame} :
 ∀ (f : Nat) {E : Nat → Option Obj} {k : Nat} {a : OSt M} {v : Value} {inb : Nat → Option Seat} {w : World} {Ts : Array Value}, most - a.ord.length ≤ f → Inv T A B Kc w₀ m₀ most A.N E k a (leftN a.ov A.N) v inb w → most + 100 ≤ k + a.ord.length → Fr A B thr sch Ts →
  (∀ a' E' k' v' inb' w' Ts', Rounds T A.N most a a' → most + 100 ≤ k' + a'.ord.length → Inv T A B Kc w₀ m₀ most A.N E' k' a' (leftN a'.ov A.N) v' inb' w' → Fr A B thr sch Ts' → HoldR Try.prog Fin Kc inb' 0 n (G (b.at ⟨Ts', ds⟩ K) cs) w') →
  HoldR Try.prog Fin Kc inb 0 n (G (b.at ⟨Ts, ds⟩ (.code lpD :: .inLoop lpD :: .inBlock 6 :: K)) cs) w := by
 intro f
 induction f with
 | zero =>
  intro E k a v inb w Ts hf hI hk hF hmain
  obtain ⟨p, cap, hv, hd⟩ := hI.head
  refine rounds_head (jm_main hFin Kc inb n) hF (hI.cell hI.eL).1 hd.cO hd.cM hb (fun hno Ts' hF' => hmain a E k v inb w Ts' (.stop a hno) hk hI hF') (fun hgo => by omega)
 | succ f ih =>
  intro E k a v inb w Ts hf hI hk hF hmain
  obtain ⟨p, cap, hv, hd⟩ := hI.head
  refine rounds_head (jm_main hFin Kc inb n) hF (hI.cell hI.eL).1 hd.cO hd.cM hb (fun hno Ts' hF' => hmain a E k v inb w Ts' (.stop a hno) hk hI hF') (fun hgo Ts' hF' => ?_)
  refine rounds_mid hFin (A := A) (B := B) hF' hd.cN hb fun Ts2 hF2 u94 u95 => ?_
  refine inner_loop hFin hn hb A.N 0 (by omega) hI hk hF2 u94 u95 fun a' E' k' v' inb' w' Ts3 hss hk' hI' hF3 => ?_
  have hJ' := jm_main hFin Kc inb' n
  refine hJ'.ctl (s := ()) (fun w => stepG_inBlock) ?_
  refine hJ'.ctl (s := ()) (fun w => stepG_inLoop) ?_
  have hss' : StepsR T A.N most (upto A.N) a a' := by simpa using hss
  obtain ⟨i, hi, ho⟩ := leftN_pos hgo.1
  have hp := hss'.progress hi (mem_upto hi) ho hgo.2
  refine ih (by omega) hI' hk' hF3 fun a'' E'' k'' v'' inb'' w'' Ts'' hr hk'' hI'' hF'' => ?_
  exact hmain a'' E'' k'' v'' inb'' w'' Ts'' (.more hgo hss' hr) hk'' hI'' hF''
end
end Go.Proofs
