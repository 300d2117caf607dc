/- YtdncabjenacolaaTKeep4: part 2 of the proof (the texts behind it, in order). -/
import Derived.Test.YtdncabjenacolaaP01
set_option linter.unusedSimpArgs false
set_option linter.unusedVariables false
set_option linter.unusedSectionVars false
set_option linter.unnecessarySimpa false
set_option maxHeartbeats 1000000
set_option maxRecDepth 100000
namespace Go.Proofs
open Go Go.Conc Go.RowKit Go.Car
open Go.ConcN (upd upd_ne upd_same)
@[go_sem] theorem buildE (w : World) : (Instr.build 101 #[]).run Try.prog w = .ok (.agg #[]) w := run_build w 101 _ _ (by kernel_rfl)
structure StepW (st bT back pass : Nat) (w : World) : Prop where
 gate : w.cell? ⟨st, 0, none⟩ = some (.pointer (some ⟨bT, 0, none⟩))
 back : w.cell? ⟨bT, 0, none⟩ = some (.chan (some back))
 pass : w.cell? ⟨st, 1, none⟩ = some (.chan (some pass))
def bN (f : FuncId) : Frame := { (default : Frame) with fn := f, kind := .normal }
def AtStep (st bT back pass : Nat) (c : Frame) (cs : List Frame) (g : Goroutine) : Prop :=
 ∀ (p : Bool) (Kc : Addr → Option Value) (J : Goroutine → World → Prop), JX Try.prog Kc J → ∀ w, StepW st bT back pass w →
  J (if p = true then G (c.finish (.tuple #[])) cs else G (c.raise [{ v := .iface 109 (.agg #[.iface 91 (.pointer (some ⟨bT, 0, none⟩))]), recovered := false }]) cs) w → J (Conc.served g (.bool p)) w
theorem step_gives {Fin : Machine → Trace → Prop} (hFin : Back Try.prog Fin) {Kc : Addr → Option Value} {Inb : Nat → Option Seat} {j n : Nat} {st bT back pass : Nat} {c : Frame} {cs : List Frame} {w : World} (hw : StepW st bT back pass w)
 (hj : 0 ≠ j) (hn : 0 < n) {zb : Value} {okb : Bool} {homeb : Goroutine → Prop} (h0 : Inb 0 = some (Seat.one back zb okb homeb))
 (hKp : Kc ⟨st, 1, none⟩ = some (.chan (some pass))) (hfresh : ∀ i s, i ≠ j → Inb i = some s → ¬ s.has pass) (hpass : ∃ cap k, w.heap[pass]? = some (.chan cap #[] false k k false))
 (hnext : ∀ g₂ k cap, homeb g₂ → w.heap[back]? = some (.chan cap #[] false k k false) →
  HoldR Try.prog Fin Kc (upd Inb j (some (Seat.one pass (.bool false) false (AtStep st bT back pass c cs)))) 0 n (Conc.served g₂ (recvd okb (.agg #[]) true)) (w.setChan back cap #[] false (k + 1) (k + 1) false)) :
 HoldR Try.prog Fin Kc Inb j n (G (Frame.enter Try.prog 74 #[.pointer (some ⟨st, 0, none⟩)] .normal) (c :: cs)) w := by
 have hJ := holdR_JS hFin Kc Inb j n
 have e : Frame.enter Try.prog 74 #[.pointer (some ⟨st, 0, none⟩)] .normal = (bN 74).at (enterAct Try.f74 #[.pointer (some ⟨st, 0, none⟩)]) [.code ((Try.f74.body).getD .skip)] := rfl
 rw [e]
 simp only [Try.f74, enterAct, al_od, List.size_toArray, List.length_cons, List.length_nil, Nat.reduceAdd, Nat.reduceSub, Array.replicate_succ, Array.replicate_zero, List.push_toArray, List.append_toArray, List.nil_append, List.cons_append]
 refine hJ.ctl (s := ()) (fun w => stepG_seq) ?_
 refine hJ.ctl (s := ()) (fun w => stepG_region) ?_
 refine at_mid (J := fun (_ : Unit) => HoldR Try.prog Fin Kc Inb j n) (s := ()) (by decide) hJ (rows0_none _) true (.inl rfl) 0 8 1 rfl (by rfl) ?_
 intro τ d
 obtain ⟨h1, h2, h3⟩ := hw
 simp only [List.drop_zero, List.take_succ_cons, List.take_zero]
 go_wp2
 simp only [contAt]
 refine hJ.re' () _ w τ d ?_
 refine give_hold hFin hj hn h0 rfl (send_at (c := back) (v := .agg #[]) (z' := .tuple #[]) rfl rfl (by decide) (fun w => by simp [execOp, scase, Act.eval]) (fun w => by simp [go_sem, execOp, Act.eval]) w) (by simp)
  (.sits pass (.bool false) false (AtStep st bT back pass c cs) hfresh hpass ⟨st + 1, 10, .inl ⟨9, w, rfl, ?_⟩⟩) hnext
 rw [served_fr, Frame.finish_at]
 walk_nrm
 simp only [List.range'_zero]
 k_c stepG_region_end
 k_c stepG_seq
 k_reg
 iterate 3 (k_in; refine goes_oper_k rfl rfl (by decide) (fun K hK => ?_); go_simp; refine hK _ _ ⟨⟨rfl, fun e he => by (have hm := mem_listed he; simp [go_sem] at hm)⟩, ?_⟩; clear hK K)
 k_ld [(h₁ _ _ hKp).1, (h₁ _ _ hKp).2] ⟨_, _, rfl, hKp⟩
 refine Goes.stop fun _ _ => ⟨_, atIn_of (s := Seat.one pass (.bool false) false (AtStep st bT back pass c cs)) rfl rfl (by decide) (fun w => by simp [go_sem, execOp, rcase, Act.eval, Seat.one]) (fun w => by simp [go_sem, execOp, Act.eval]) ?_⟩
 intro p Kc' J hJ' w hw hgo
 obtain ⟨h1, h2, h3⟩ := hw
 rw [served_fr, Frame.finish_at]
 walk_nrm
 refine at_piece (J := fun (_ : Unit) => J) (s := ()) (by decide) hJ' (rows0_none _) true (.inl rfl) 5 1 0 rfl rfl rfl (by rfl) ?_
 intro τ d
 simp only [List.drop_zero, List.drop_succ_cons, List.take_succ_cons, List.take_zero]
 go_wp2
 simp only [contAt]
 refine hJ'.re' () _ w τ d ?_
 simp only [List.range'_zero]
 refine hJ'.ctl (s := ()) (fun w => stepG_region_end) ?_
 refine hJ'.ctl (s := ()) (fun w => stepG_cond (t := !p) rfl) ?_
 cases p with
 | true =>
  simp only [Bool.not_true, Bool.false_eq_true, if_false, if_true] at hgo ⊢
  refine hJ'.ctl (s := ()) (fun w => stepG_skip) ?_
  refine hJ'.ctl (s := ()) (fun w => stepG_end) ?_
  exact leaveJ (s := ()) hJ' rfl rfl Try.func74 (fun τ d => by simp [results, Try.f74]) hgo
 | false =>
  simp only [Bool.not_false, if_true, Bool.false_eq_true, if_false] at hgo ⊢
  refine hJ'.ctl (s := ()) (fun w => stepG_region) ?_
  refine at_piece (J := fun (_ : Unit) => J) (s := ()) (by decide) hJ' (rows0_none _) true (.inl rfl) 0 7 1 rfl rfl rfl (by rfl) ?_
  intro τ d
  simp only [List.drop_zero, List.drop_succ_cons, List.take_succ_cons, List.take_zero]
  go_wp2
  simp only [contAt]
  refine hJ'.re' () _ w τ d ?_
  refine at_panic (J := fun (_ : Unit) => J) (s := ()) (by decide) hJ' rfl rfl (v := .iface 109 (.agg #[.iface 91 (.pointer (some ⟨bT, 0, none⟩))])) (fun w => ?_) (fun w => ?_) fun todo => raiseJ (s := ()) hJ' (b := bN 74) rfl Try.func74 hgo
  · simp [go_sem, execOp, Act.eval, Instr.panic]
  · simp [go_sem, execOp, Act.eval, Instr.panic]
@[go_sem] theorem zeroE (w : World) : (zeroValue 101).run Try.prog w = .ok (.agg #[]) w := by kernel_rfl
def JM (P : Program) (Kc : Addr → Option Value) (J : Goroutine → World → Prop) : Prop := JS P true Kc (fun (_ : Unit) => J)
def AtLet (c : Frame) (cs : List Frame) (g : Goroutine) : Prop :=
 ∀ (Kc : Addr → Option Value) (J : Goroutine → World → Prop), JM Try.prog Kc J → ∀ w, J (G (c.finish (.tuple #[])) cs) w → J (Conc.served g (.agg #[])) w
theorem let_gives {Fin : Machine → Trace → Prop} (hFin : Back Try.prog Fin) {Kc : Addr → Option Value} {Inb : Nat → Option Seat} {j n : Nat} {bT bS N cap i st back pass : Nat} {p : Bool} {c : Frame} {cs : List Frame} {w : World}
 (h1 : w.cell? ⟨bT, 1, none⟩ = some (.slice (some ⟨bS, 0, none⟩) N cap)) (hi : i < N) (h2 : w.cell? ⟨bS, i, none⟩ = some (.pointer (some ⟨st, 0, none⟩))) (h3 : w.cell? ⟨st, 1, none⟩ = some (.chan (some pass)))
 (hj : j ≠ 0) (hn : j < n) {homej : Goroutine → Prop} (h0 : Inb j = some (Seat.one pass (.bool false) false homej))
 (hKb : Kc ⟨bT, 0, none⟩ = some (.chan (some back))) (hfresh : ∀ i s, i ≠ 0 → Inb i = some s → ¬ s.has back) (hback : ∃ cap k, w.heap[back]? = some (.chan cap #[] false k k false))
 (hnext : ∀ g₂ k cap, homej g₂ → w.heap[pass]? = some (.chan cap #[] false k k false) →
  HoldR Try.prog Fin Kc (upd Inb 0 (some (Seat.one back (.agg #[]) false (AtLet c cs)))) j n (Conc.served g₂ (.bool p)) (w.setChan pass cap #[] false (k + 1) (k + 1) false)) :
 HoldR Try.prog Fin Kc Inb 0 n (G (Frame.enter Try.prog 36 #[.pointer (some ⟨bT, 0, none⟩), .int .i64 i, .bool p] .normal) (c :: cs)) w := by
 have hJ := holdR_JS hFin Kc Inb 0 n
 have e : Frame.enter Try.prog 36 #[.pointer (some ⟨bT, 0, none⟩), .int .i64 i, .bool p] .normal = (bN 36).at (enterAct Try.f36 #[.pointer (some ⟨bT, 0, none⟩), .int .i64 i, .bool p]) [.code ((Try.f36.body).getD .skip)] := rfl
 rw [e]
 simp only [Try.f36, enterAct, al_od, List.size_toArray, List.length_cons, List.length_nil, Nat.reduceAdd, Nat.reduceSub, Array.replicate_succ, Array.replicate_zero, List.push_toArray, List.append_toArray, List.nil_append, List.cons_append]
 refine hJ.ctl (s := ()) (fun w => stepG_seq) ?_
 refine hJ.ctl (s := ()) (fun w => stepG_region) ?_
 refine at_piece (J := fun (_ : Unit) => HoldR Try.prog Fin Kc Inb 0 n) (s := ()) (by decide) hJ (rows0_none _) true (.inl rfl) 0 11 1 rfl rfl rfl (by rfl) ?_
 intro τ d
 simp only [List.drop_zero, List.take_succ_cons, List.take_zero]
 have hi' : (i : Int) < N := by omega
 have hi0 : (0 : Int) ≤ i := by omega
 go_wp2
 simp only [contAt]
 refine hJ.re' () _ w τ d ?_
 refine give_hold hFin hj hn h0 rfl (send_at (c := pass) (v := .bool p) (z' := .tuple #[]) rfl rfl (by decide) (fun w => by simp [execOp, scase, Act.eval]) (fun w => by simp [go_sem, execOp, Act.eval]) w) (by simp)
  (.sits back (.agg #[]) false (AtLet c cs) hfresh hback ⟨bT + 1, 10, .inl ⟨9, w, rfl, ?_⟩⟩) hnext
 rw [served_fr, Frame.finish_at]
 walk_nrm
 simp only [List.range'_zero]
 k_c stepG_region_end
 k_reg
 iterate 3 (k_in; refine goes_oper_k rfl rfl (by decide) (fun K hK => ?_); go_simp; refine hK _ _ ⟨⟨rfl, fun e he => by (have hm := mem_listed he; simp [go_sem] at hm)⟩, ?_⟩; clear hK K)
 k_ld [(h₁ _ _ hKb).1, (h₁ _ _ hKb).2] ⟨_, _, rfl, hKb⟩
 refine Goes.stop fun _ _ => ⟨_, atIn_of (s := Seat.one back (.agg #[]) false (AtLet c cs)) rfl rfl (by decide) (fun w => by simp [go_sem, execOp, rcase, Act.eval, Seat.one]) (fun w => by simp [go_sem, execOp, Act.eval]) ?_⟩
 intro Kc' J hJ' w hgo
 rw [served_fr, Frame.finish_at]
 walk_nrm
 refine hJ'.ctl (s := ()) (fun w => stepG_region_end) ?_
 refine hJ'.ctl (s := ()) (fun w => stepG_end) ?_
 exact leaveJ (s := ()) hJ' rfl rfl Try.func36 (fun τ d => by simp [results, Try.f36]) hgo
end Go.Proofs
set_option maxHeartbeats 2000000
namespace Go.Car
open Go Go.Conc Go.RowKit
def sfx (k : List Item) (ds : List Deferred) (kd : CallKind) (fr : Frame) : Frame := { fn := fr.fn, tmps := fr.tmps, todo := fr.todo ++ k, defers := ds, mode := fr.mode, kind := kd }
section
variable {P : Program} {A : FuncId → Bool} {k : List Item} {ds : List Deferred} {kd : CallKind}
theorem sfx_finish {fr : Frame} (hr : fr.roundOf = none) (hne : fr.todo ≠ []) (v : Value) : (sfx k ds kd fr).finish v = sfx k ds kd (fr.finish v) := by
 obtain ⟨fn, tmps, todo, defers, mode, kind, round⟩ := fr
 simp only at hr hne
 subst hr
 cases todo with
 | nil => exact absurd rfl hne
 | cons i t =>
  cases i with
  | inRegion ops l =>
   cases l with
   | nil => rfl
   | cons j r => simp [sfx, Frame.finish]
  | _ => rfl
theorem exitTo_append {id : Nat} {t t' : List Item} (h : exitTo id t = some t') : exitTo id (t ++ k) = some (t' ++ k) := by
 induction t with
 | nil => simp [exitTo] at h
 | cons x t ih =>
  cases x <;> simp only [exitTo, List.cons_append] at h ⊢
  case inBlock id' =>
   split at h
   · cases h; rename_i hh; simp [hh]
   · rename_i hh; simp only [hh, if_false]; exact ih h
  all_goals exact ih h
theorem exitTo_none {id : Nat} {t : List Item} (h : exitTo id t = none) (hk : exitTo id k = none) : exitTo id (t ++ k) = none := by
 induction t with
 | nil => exact hk
 | cons x t ih =>
  cases x <;> simp only [exitTo, List.cons_append] at h ⊢
  case inBlock id' =>
   split at h
   · cases h
   · rename_i hh; simp only [hh]; exact ih h
  all_goals exact ih h
inductive Told (P : Program) (main : Bool) (k : List Item) (ds : List Deferred) (kd : CallKind) (fr : Frame) (cs cs' : List Frame) (w : World) : GStep → Prop
 | same (fr' : Frame) (w' : World) (es : Array Event) (h : stepG P main (G (sfx k ds kd fr) cs') w = .go (G (sfx k ds kd fr') cs') w' es) (hr : fr'.roundOf = none) (hm : ∀ ch, fr'.mode ≠ .panicking ch) : Told P main k ds kd fr cs cs' w (.go (G fr' cs) w' es)
 | enter (g : Frame) (w' : World) (es : Array Event) (h : stepG P main (G (sfx k ds kd fr) cs') w = .go (G g (sfx k ds kd fr :: cs')) w' es) : Told P main k ds kd fr cs cs' w (.go (G g (fr :: cs)) w' es)
 | panics (fr' : Frame) (ch : List PanicEntry) (w' : World) (es : Array Event) (h : fr'.mode = .panicking ch) (hk : ∃ fr'' w'' es', stepG P main (G (sfx k ds kd fr) cs') w = .go (G fr'' cs') w'' es' ∧ fr''.mode = .panicking ch ∧ fr''.defers = ds) : Told P main k ds kd fr cs cs' w (.go (G fr' cs) w' es)
 | ends (o : Outcome) (w' : World) (es : Array Event) (hk : (∀ id, exitTo id k = none) → ∃ o w' es, stepG P main (G (sfx k ds kd fr) cs') w = .ended o w' es) : Told P main k ds kd fr cs cs' w (.ended o w' es)
theorem told_of {main : Bool} {fr fr' : Frame} {cs cs' : List Frame} {w : World} {s : GStep} (hs : s = .go (G fr' cs) w #[]) (h : stepG P main (G (sfx k ds kd fr) cs') w = .go (G (sfx k ds kd fr') cs') w #[]) (hr : fr'.roundOf = none) (hm : ∀ ch, fr'.mode ≠ .panicking ch := by intro ch h; cases h) : Told P main k ds kd fr cs cs' w s := by
 subst hs; exact .same fr' w #[] h hr hm
theorem told_end {main : Bool} {fr : Frame} {cs cs' : List Frame} {w : World} {s : GStep} (h : ∃ o w' es, s = .ended o w' es) (hk : (∀ id, exitTo id k = none) → ∃ o w' es, stepG P main (G (sfx k ds kd fr) cs') w = .ended o w' es) : Told P main k ds kd fr cs cs' w s := by
 obtain ⟨o, w', es, rfl⟩ := h; exact .ends o w' es hk
theorem told (hP : Plain P A) (hkd : kd ≠ .early) {main : Bool} {fn : FuncId} {tmps : Array Value} {i : Item} {t : List Item} {cs cs' : List Frame} {w : World} (hf : Fine P A (Fr fn tmps (i :: t))) :
 Told P main k ds kd (Fr fn tmps (i :: t)) cs cs' w (stepG P main (G (Fr fn tmps (i :: t)) cs) w) := by
 have ht := hf.todo
 have hi := ht i (by simp [Fr])
 have hke : (kd == CallKind.early) = false := by simpa using hkd
 cases i with
 | code c =>
  have hc : okCode P A c = true := hi
  cases c with
  | skip => exact told_of (fr' := Fr fn tmps t) (by simp [G, stepG, stepG.exec, Fr]) (by simp [G, stepG, stepG.exec, Fr, sfx]) rfl
  | exit id =>
   cases hx : exitTo id t with
   | some t' => exact told_of (fr' := Fr fn tmps t') (by simp [G, stepG, stepG.exec, Fr, hx]) (by simp [G, stepG, stepG.exec, Fr, sfx, exitTo_append hx]) rfl
   | none => exact told_end (by simp [G, stepG, stepG.exec, Fr, hx]) (fun hk => by simp [G, stepG, stepG.exec, Fr, sfx, exitTo_none hx (hk id)])
  | ret => exact told_of (fr' := { Fr fn tmps (.code .ret :: t) with mode := .returning }) (by simp [G, stepG, stepG.exec, Fr]) (by simp [G, stepG, stepG.exec, Fr, sfx]) rfl
  | refuse why => exact told_end (by simp [G, stepG, stepG.exec, Fr]) (fun _ => by simp [G, stepG, stepG.exec, Fr, sfx])
  | region id ops draw =>
   cases draw with
   | false => exact told_of (fr' := Fr fn tmps (.inRegion ops (List.range ops.size) :: t)) (by simp [G, stepG, stepG.exec, Fr]) (by simp [G, stepG, stepG.exec, Fr, sfx]) rfl
   | true =>
    have h1 := stepG_region_draw (P := P) (main := main) (b := Fr fn tmps []) (a := ⟨tmps, []⟩) (k := t) (cs := cs) (w := w) (id := id) (ops := ops)
    have h2 := stepG_region_draw (P := P) (main := main) (b := { Fr fn tmps [] with kind := kd }) (a := ⟨tmps, ds⟩) (k := t ++ k) (cs := cs') (w := w) (id := id) (ops := ops)
    have e : stepG P main (G (Fr fn tmps (.code (.region id ops true) :: t)) cs) w = _ := h1
    rw [e]
    exact .same _ _ #[] h2 rfl (by intro ch h; cases h)
  | seq a b => exact told_of (fr' := Fr fn tmps (.code a :: .code b :: t)) (by simp [G, stepG, stepG.exec, Fr]) (by simp [G, stepG, stepG.exec, Fr, sfx]) rfl
  | cond c a b =>
   by_cases hb : ∃ v, (Fr fn tmps (.code (.cond c a b) :: t)).eval c = .bool v
   · obtain ⟨v, hv⟩ := hb
     have hv' : (sfx k ds kd (Fr fn tmps (.code (.cond c a b) :: t))).eval c = .bool v := by
      rw [← hv]; cases c <;> rfl
     simp only [Fr] at hv
     simp only [Fr, sfx] at hv'
     exact told_of (fr' := Fr fn tmps (.code (if v then a else b) :: t)) (by simp [G, stepG, stepG.exec, Fr, hv]) (by simp only [List.cons_append] at hv'; simp [G, stepG, stepG.exec, Fr, sfx, hv']) rfl
   · have hb' : ¬ ∃ v, (sfx k ds kd (Fr fn tmps (.code (.cond c a b) :: t))).eval c = .bool v := by
      rintro ⟨v, hv⟩; refine hb ⟨v, ?_⟩; rw [← hv]; cases c <;> rfl
     refine told_end ?_ (fun _ => ?_)
     · simp only [Fr] at hb
       simp only [G, stepG, stepG.exec, Fr]
       split
       · rename_i t h; exact absurd ⟨t, h⟩ hb
       · exact ⟨_, _, _, rfl⟩
     · simp only [Fr, sfx, List.cons_append] at hb'
       simp only [G, stepG, stepG.exec, Fr, sfx, List.cons_append]
       split
       · rename_i t h; exact absurd ⟨t, h⟩ hb'
       · exact ⟨_, _, _, rfl⟩
  | block id c => exact told_of (fr' := Fr fn tmps (.code c :: .inBlock id :: t)) (by simp [G, stepG, stepG.exec, Fr]) (by simp [G, stepG, stepG.exec, Fr, sfx]) rfl
  | loop c => exact told_of (fr' := Fr fn tmps (.code c :: .inLoop c :: t)) (by simp [G, stepG, stepG.exec, Fr]) (by simp [G, stepG, stepG.exec, Fr, sfx]) rfl
  | _ => simp [okCode] at hc
 | inBlock id => exact told_of (fr' := Fr fn tmps t) (by simp [G, stepG, stepG.exec, Fr]) (by simp [G, stepG, stepG.exec, Fr, sfx]) rfl
 | inLoop c => exact told_of (fr' := Fr fn tmps (.code c :: .inLoop c :: t)) (by simp [G, stepG, stepG.exec, Fr]) (by simp [G, stepG, stepG.exec, Fr, sfx]) rfl
 | inRegion ops l =>
  cases l with
  | nil => exact told_of (fr' := Fr fn tmps t) (by simp [G, stepG, stepG.exec, Fr]) (by simp [G, stepG, stepG.exec, Fr, sfx]) rfl
  | cons j r =>
   by_cases hw : ((ops[j]?).map (Region.wanted · (yielded ops tmps))).getD false = true
   · cases hj : ops[j]? with
     | none => simp [hj] at hw
     | some o =>
      have hoo : okOp P A o.op = true := by
       have : (ops.all fun o => okOp P A o.op) = true := hi
       rw [Array.all_eq_true_iff_forall_mem] at this
       exact this o (Array.mem_of_getElem? hj)
      obtain ⟨t1, t2⟩ := execOp_ok hP.fns o hoo (Fr fn tmps (.inRegion ops (j :: r) :: t)).eval (fun f => rfl)
      have hg := leaf_runT _ t1 t2 w #[]
      have hev : (sfx k ds kd (Fr fn tmps (.inRegion ops (j :: r) :: t))).eval = (Fr fn tmps (.inRegion ops (j :: r) :: t)).eval := by funext x; cases x <;> rfl
      have s1 : stepG P main (G (Fr fn tmps (.inRegion ops (j :: r) :: t)) cs) w = stepG.apply P true (Fr fn tmps (.inRegion ops (j :: r) :: t)) cs none (execOp (Fr fn tmps (.inRegion ops (j :: r) :: t)).eval o) w := by
       simp only [hj, Option.map_some, al_od] at hw
       simp [G, stepG, stepG.exec, stepG.oper, Frame.oper?, Fr, hj, hw]
      have s2 : stepG P main (G (sfx k ds kd (Fr fn tmps (.inRegion ops (j :: r) :: t))) cs') w = stepG.apply P true (sfx k ds kd (Fr fn tmps (.inRegion ops (j :: r) :: t))) cs' none (execOp (Fr fn tmps (.inRegion ops (j :: r) :: t)).eval o) w := by
       simp only [hj, Option.map_some, al_od] at hw
       rw [← hev]
       simp [G, stepG, stepG.exec, stepG.oper, Frame.oper?, Fr, sfx, hj, hw]
      have hfin : ∀ v, (sfx k ds kd (Fr fn tmps (.inRegion ops (j :: r) :: t))).finish v = sfx k ds kd ((Fr fn tmps (.inRegion ops (j :: r) :: t)).finish v) := fun v => sfx_finish rfl (by simp [Fr]) v
      have hround : ∀ v, ((Fr fn tmps (.inRegion ops (j :: r) :: t)).finish v).roundOf = none := fun v => rfl
      rw [s1]
      rw [stepG.apply] at s2 ⊢
      simp only [if_true] at s2 ⊢
      generalize (execOp (Fr fn tmps (.inRegion ops (j :: r) :: t)).eval o).runT P w #[] = rr at hg s2
      obtain ⟨res, es⟩ := rr
      have hk1 : ((Fr fn tmps (.inRegion ops (j :: r) :: t)).kind == CallKind.early) = false := rfl
      have hk2 : ((sfx k ds kd (Fr fn tmps (.inRegion ops (j :: r) :: t))).kind == CallKind.early) = false := hke
      cases res with
      | ok nx w' =>
       have hnx : okNext P A nx := hg
       cases nx with
       | value v =>
        simp only [hk1, hk2, Bool.false_eq_true, if_false, GStep.after, Array.append_empty] at s2 ⊢
        exact .same _ _ _ (by rw [← hfin]; exact s2) (hround v) (by intro ch h; cases h)
       | skip =>
        simp only [hk1, hk2, Bool.false_eq_true, if_false, GStep.after, Array.append_empty] at s2 ⊢
        exact .same _ _ _ (by rw [← hfin]; exact s2) (hround _) (by intro ch h; cases h)
       | enter f args =>
        simp only [hk1, hk2, Bool.false_eq_true, if_false, GStep.after, Array.append_empty] at s2 ⊢
        exact .enter _ _ _ s2
       | _ => exact hnx.elim
      | halt h w' =>
       simp only [hk1, hk2, Bool.false_eq_true, if_false] at s2 ⊢
       rcases hg with hg | ⟨b, rfl⟩
       · cases h with
         | panic v => exact .panics _ _ _ _ rfl ⟨_, _, _, s2, rfl, rfl⟩
         | stuck s => exact .ends _ _ _ fun _ => ⟨_, _, _, s2⟩
         | unsupported u => cases u <;> first | exact .ends _ _ _ fun _ => ⟨_, _, _, s2⟩ | exact hg.elim
         | _ => exact hg.elim
       · obtain ⟨o', w'', es', he⟩ := early_ended hP (Fr fn tmps (.inRegion ops (j :: r) :: t)) cs none b w'
         obtain ⟨o2, w2, es2, he2⟩ := early_ended hP (sfx k ds kd (Fr fn tmps (.inRegion ops (j :: r) :: t))) cs' none b w'
         simp only [he2, GStep.after] at s2
         simp only [he, GStep.after]
         exact .ends _ _ _ fun _ => ⟨_, _, _, s2⟩
   · have hw' : ((ops[j]?).map (Region.wanted · (yielded ops tmps))).getD false = false := by simpa using hw
     have hfin : (sfx k ds kd (Fr fn tmps (.inRegion ops (j :: r) :: t))).finish undef = sfx k ds kd ((Fr fn tmps (.inRegion ops (j :: r) :: t)).finish undef) := sfx_finish rfl (by simp [Fr]) undef
     refine told_of (fr' := (Fr fn tmps (.inRegion ops (j :: r) :: t)).finish undef) ?_ ?_ rfl
     · simp only [G, stepG, stepG.exec, Fr, hw', Bool.false_eq_true, if_false]
     · rw [← hfin]
       simp only [G, stepG, stepG.exec, Fr, sfx, List.cons_append, hw', Bool.false_eq_true, if_false]
 | _ => simp [okItem] at hi
end
structure Sb where
 fr : Frame
 ab : List Frame
 bot : Option Frame
 w : World
 deriving Inhabited
def Sb.fs (k : List Item) (ds : List Deferred) (kd : CallKind) (s : Sb) : List Frame :=
 match s.bot with
 | some b => s.ab ++ [sfx k ds kd b]
 | none => []
def Sb.tp (k : List Item) (ds : List Deferred) (kd : CallKind) (s : Sb) : Frame :=
 match s.bot with
 | some _ => s.fr
 | none => sfx k ds kd s.fr
def Sb.real (k : List Item) (ds : List Deferred) (kd : CallKind) (cs : List Frame) (s : Sb) : Goroutine := G (s.tp k ds kd) (s.fs k ds kd ++ cs)
section
variable {P : Program} {A : FuncId → Bool}
structure Sb.Ok (P : Program) (A : FuncId → Bool) (s : Sb) : Prop where
 top : Fine P A s.fr
 mid : ∀ c ∈ s.ab, Fine P A c
 bot : ∀ b, s.bot = some b → Fine P A b ∧ b.todo ≠ []
 none : s.bot = none → s.ab = []
def Sb.Done (s : Sb) : Prop := s.bot = none ∧ (s.fr.mode = .returning ∨ s.fr.todo = [])
def NextB (P : Program) (A : FuncId → Bool) (s : Sb) (τ0 : Nat → Question → Nat) (d n : Nat) (s' : Sb) (es : Array Event) : Prop :=
 s'.Ok P A ∧ s'.w.tape = τ0 ∧ (∀ e ∈ es, calmEv true e) ∧ s'.w.drawn = d + n ∧
 ∀ main k ds kd cs, kd ≠ CallKind.early → ∀ τ e, (∀ j, j < n → τ (e + j) = τ0 (d + j)) → stepG P main (s.real k ds kd cs) (re s.w τ e) = .go (s'.real k ds kd cs) (re s'.w τ (e + n)) es
def BadB (st : GStep) (fs cs : List Frame) : Prop := (∃ o w' es, st = .ended o w' es) ∨ ∃ fr' ch w' es, st = .go (G fr' (fs ++ cs)) w' es ∧ fr'.mode = .panicking ch ∧ fr'.defers = []
def HaltB (P : Program) (s : Sb) (τ0 : Nat → Question → Nat) (d n : Nat) : Prop :=
 s.Done ∨ ∀ main k cs, (∀ id, exitTo id k = none) → ∀ τ e, (∀ j, j < n → τ (e + j) = τ0 (d + j)) → BadB (stepG P main (s.real k [] .normal cs) (re s.w τ e)) (s.fs k [] .normal) cs
theorem fine_run {fr : Frame} (h : Fine P A fr) (hm : fr.mode = .run) (hne : fr.todo ≠ []) : ∃ i t, fr = Fr fr.fn fr.tmps (i :: t) := by
 have e := fr_of_fine h hm
 cases ht : fr.todo with
 | nil => exact absurd ht hne
 | cons i t => rw [ht] at e; exact ⟨i, t, e⟩
theorem wayB (hP : Plain P A) (s : Sb) (hs : s.Ok P A) (τ0 : Nat → Question → Nat) (d : Nat) :
 (∃ n s' es, NextB P A s τ0 d n s' es) ∨ ∃ n, HaltB P s τ0 d n := by
 by_cases hdone : s.Done
 · exact .inr ⟨0, .inl hdone⟩
 obtain ⟨fr, ab, bot, w⟩ := s
 obtain ⟨h1, h2, h3, h4⟩ := hs
 simp only at h1 h2 h3 h4
 cases bot with
 | none =>
  have hab := h4 rfl
  subst hab
  have hmode : fr.mode = .run := by
   rcases h1.mode with h | h
   · exact h
   · exact absurd ⟨rfl, .inl h⟩ hdone
  have hne : fr.todo ≠ [] := fun h => hdone ⟨rfl, .inr h⟩
  obtain ⟨i, t, he⟩ := fine_run h1 hmode hne
  have tl : ∀ main k ds kd cs cs' w, kd ≠ CallKind.early → Told P main k ds kd fr cs cs' w (stepG P main (G fr cs) w) := fun main k ds kd cs cs' w hkd => by
   have h1' := h1
   rw [he] at h1' ⊢
   exact told hP hkd h1'
  cases way hP fr [] (re w τ0 d) h1 (by simp) with
  | pop _ hm => rw [hmode] at hm; cases hm
  | bad w' hd hst =>
   have hd' : d ≤ w'.drawn := hd
   refine .inr ⟨w'.drawn - d, .inr fun main k cs hk τ e hag => ?_⟩
   have hb := hst main [] τ e fun j hj => hag j (by have : d + j < w'.drawn := hj; omega)
   have tl' := tl main k [] .normal [] cs (re w τ e) (by decide)
   have hb' : Bad (stepG P main (G fr []) (re w τ e)) [] [] := hb
   generalize stepG P main (G fr []) (re w τ e) = gs at tl' hb'
   cases tl' with
   | same fr'' w'' es'' h hr hnm =>
    rcases hb' with ⟨o, w', es, h'⟩ | ⟨fr', ch, w', es, h', hm, _⟩
    · cases h'
    · simp only [GStep.go.injEq, G, Goroutine.mk.injEq] at h'
      obtain ⟨⟨e1, _⟩, _⟩ := h'
      subst e1
      exact absurd hm (hnm ch)
   | enter g w'' es'' h =>
    rcases hb' with ⟨o, w', es, h'⟩ | ⟨fr', ch, w', es, h', hm, _⟩
    · cases h'
    · simp [G] at h'
   | panics fr'' ch w'' es'' h hk' =>
    obtain ⟨f2, w2, e2, h2, h3, h4⟩ := hk'
    exact .inr ⟨f2, ch, w2, e2, h2, h3, h4⟩
   | ends o w' es hk' => exact .inl (hk' hk)
  | on fr' above' w' es hf' ha' hd ht hev hst =>
   have hd' : d ≤ w'.drawn := hd
   have ht' : w'.tape = τ0 := ht
   have hstep : ∀ main cs τ e, (∀ j, j < w'.drawn - d → τ (e + j) = τ0 (d + j)) → stepG P main (G fr cs) (re w τ e) = .go (G fr' (above' ++ cs)) (re w' τ (e + (w'.drawn - d))) es := fun main cs τ e hag =>
    hst main cs τ e fun j hj => hag j (by have : d + j < w'.drawn := hj; omega)
   cases above' with
   | nil =>
    refine .inl ⟨w'.drawn - d, ⟨fr', [], none, w'⟩, es, ⟨hf', by simp, by simp, fun _ => rfl⟩, ht', hev, (by show w'.drawn = _; omega), fun main k ds kd cs hkd τ e hag => ?_⟩
    have tl' := tl main k ds kd cs cs (re w τ e) hkd
    rw [hstep main cs τ e hag] at tl'
    generalize hgen : GStep.go (G fr' ([] ++ cs)) (re w' τ (e + (w'.drawn - d))) es = gs at tl'
    cases tl' with
    | same fr'' w'' es'' h hr hnm =>
     simp only [GStep.go.injEq, G, Goroutine.mk.injEq] at hgen
     obtain ⟨⟨e1, e2, _⟩, e3, e4⟩ := hgen
     subst e1 e3 e4
     exact h
    | enter g w'' es'' h =>
     simp only [GStep.go.injEq, G, Goroutine.mk.injEq] at hgen
     obtain ⟨⟨e1, e2, _⟩, e3, e4⟩ := hgen
     have := congrArg List.length e2
     simp at this
    | panics fr'' ch w'' es'' h hk' =>
     simp only [GStep.go.injEq, G, Goroutine.mk.injEq] at hgen
     obtain ⟨⟨e1, _⟩, _⟩ := hgen
     subst e1
     rcases hf'.mode with h' | h' <;> rw [h'] at h <;> cases h
    | ends => cases hgen
   | cons c r =>
    have hcr : c = fr ∧ r = [] := by
     have tl' := tl true [] [] .normal [] [] (re w τ0 d) (by decide)
     rw [hstep true [] τ0 d (fun _ _ => rfl)] at tl'
     generalize hgen : GStep.go (G fr' (c :: r ++ [])) (re w' τ0 (d + (w'.drawn - d))) es = gs at tl'
     cases tl' with
     | same fr'' w'' es'' h hr hnm => simp [G] at hgen
     | enter g w'' es'' h =>
      simp only [GStep.go.injEq, G, Goroutine.mk.injEq] at hgen
      obtain ⟨⟨e1, e2, _⟩, e3, e4⟩ := hgen
      simp at e2
      exact e2
     | panics fr'' ch w'' es'' h hk' => simp [G] at hgen
     | ends => cases hgen
    obtain ⟨rfl, rfl⟩ := hcr
    refine .inl ⟨w'.drawn - d, ⟨fr', [], some c, w'⟩, es, ⟨hf', by simp, fun b hb => by cases hb; exact ⟨h1, hne⟩, by simp⟩, ht', hev, (by show w'.drawn = _; omega), fun main k ds kd cs hkd τ e hag => ?_⟩
    have tl' := tl main k ds kd cs cs (re w τ e) hkd
    rw [hstep main cs τ e hag] at tl'
    generalize hgen : GStep.go (G fr' ([c] ++ cs)) (re w' τ (e + (w'.drawn - d))) es = gs at tl'
    cases tl' with
    | same fr'' w'' es'' h hr hnm =>
     simp only [GStep.go.injEq, G, Goroutine.mk.injEq] at hgen
     obtain ⟨⟨e1, e2, _⟩, e3, e4⟩ := hgen
     have := congrArg List.length e2
     simp at this
    | enter g w'' es'' h =>
     simp only [GStep.go.injEq, G, Goroutine.mk.injEq] at hgen
     obtain ⟨⟨e1, e2, _⟩, e3, e4⟩ := hgen
     subst e1 e3 e4
     exact h
    | panics fr'' ch w'' es'' h hk' =>
     simp only [GStep.go.injEq, G, Goroutine.mk.injEq] at hgen
     obtain ⟨⟨e1, _⟩, _⟩ := hgen
     subst e1
     rcases hf'.mode with h' | h' <;> rw [h'] at h <;> cases h
    | ends => cases hgen
 | some b =>
  obtain ⟨hb, hbne⟩ := h3 b rfl
  cases way hP fr ab (re w τ0 d) h1 h2 with
  | bad w' hd hst =>
   have hd' : d ≤ w'.drawn := hd
   refine .inr ⟨w'.drawn - d, .inr fun main k cs hk τ e hag => ?_⟩
   have := hst main (sfx k [] .normal b :: cs) τ e fun j hj => hag j (by have : d + j < w'.drawn := hj; omega)
   have e1 : (⟨fr, ab, some b, w⟩ : Sb).real k [] .normal cs = G fr (ab ++ sfx k [] .normal b :: cs) := by simp [Sb.real, Sb.tp, Sb.fs]
   rw [e1]
   rcases this with h | ⟨fr', ch, w'', es, h, hm, hdd⟩
   · exact .inl h
   · exact .inr ⟨fr', ch, w'', es, h.trans (by simp [Sb.fs]), hm, hdd⟩
  | on fr' above' w' es hf' ha' hd ht hev hst =>
   have hd' : d ≤ w'.drawn := hd
   have ht' : w'.tape = τ0 := ht
   refine .inl ⟨w'.drawn - d, ⟨fr', above', some b, w'⟩, es, ⟨hf', ha', fun b' hb' => by cases hb'; exact ⟨hb, hbne⟩, by simp⟩, ht', hev, (by show w'.drawn = _; omega), fun main k ds kd cs hkd τ e hag => ?_⟩
   have := hst main (sfx k ds kd b :: cs) τ e fun j hj => hag j (by have : d + j < w'.drawn := hj; omega)
   have e1 : ∀ fr ab w, (⟨fr, ab, some b, w⟩ : Sb).real k ds kd cs = G fr (ab ++ sfx k ds kd b :: cs) := fun _ _ _ => by simp [Sb.real, Sb.tp, Sb.fs]
   rw [e1, e1]
   exact this
  | pop hab hm =>
   subst hab
   have hfin : ∀ k ds kd v, (sfx k ds kd b).finish v = sfx k ds kd (b.finish v) := fun k ds kd v => sfx_finish hb.round hbne v
   have hfb : ∀ v, Fine P A (b.finish v) := fun v => fine_finish hb v
   have e1 : ∀ k ds kd cs, (⟨fr, [], some b, w⟩ : Sb).real k ds kd cs = G fr (sfx k ds kd b :: cs) := fun _ _ _ _ => by simp [Sb.real, Sb.tp, Sb.fs]
   have e2 : ∀ k ds kd cs v w, (⟨b.finish v, [], none, w⟩ : Sb).real k ds kd cs = G ((sfx k ds kd b).finish v) cs := fun _ _ _ _ _ _ => by rw [hfin]; simp [Sb.real, Sb.tp, Sb.fs]
   cases hf : P.funcs[fr.fn]? with
   | none =>
    refine .inl ⟨0, ⟨b.finish (fr.tmps.getD 0 undef), [], none, re w τ0 d⟩, #[], ⟨hfb _, by simp, by simp, fun _ => rfl⟩, rfl, by simp, rfl, fun main k ds kd cs hkd τ e hag => ?_⟩
    rw [e1, e2]
    simp [G, stepG, unwind, doReturn, hm, h1.defers, h1.kind, hf]
    rfl
   | some fn =>
    obtain ⟨r1, r2, r3⟩ := runT_re (P := P) (results fn fr.tmps) (tame_more _ (tame_results fn fr.tmps)) (re w τ0 d) #[]
    have hcalm := runT_calm (P := P) (results fn fr.tmps) (tame_more _ (tame_results fn fr.tmps)) (re w τ0 d) #[]
    have hst : ∀ main c cs w, stepG P main (G fr (c :: cs)) w = GStep.after (seen P fr.fn ((results fn fr.tmps).runT P w #[]).2) (match ((results fn fr.tmps).runT P w #[]).1 with
     | .ok v w => .go (G (c.finish v) cs) w
     | .halt (.stuck s) w => .ended (.stuck s (fr.pos P)) w
     | .halt _ w => .ended (.stuck "return: the result variables cannot be read" (fr.pos P)) w) := fun main c cs w => by
     simp only [G, stepG, unwind, hm, h1.defers, hf]
     cases (Sem.runT P (results fn fr.tmps) w #[]).fst with
     | ok v w => simp [doReturn, h1.kind]
     | halt h w => cases h <;> rfl
    generalize hrr : (results fn fr.tmps).runT P (re w τ0 d) #[] = rr at r1 r2 r3 hcalm
    obtain ⟨res, es⟩ := rr
    simp only at r1 r2 r3 hcalm
    have hev : ∀ fn, ∀ e ∈ seen P fn es, calmEv true e := fun fn e he => (hcalm e (mem_seen he)).resolve_left (by simp)
    have e3 : ∀ τ e, re (re w τ0 d) τ e = re w τ e := fun _ _ => rfl
    cases res with
    | ok v w' =>
     have hd' : d ≤ w'.drawn := r1
     refine .inl ⟨w'.drawn - d, ⟨b.finish v, [], none, w'⟩, seen P fr.fn es, ⟨hfb _, by simp, by simp, fun _ => rfl⟩, r2, hev _, (by show w'.drawn = _; omega), fun main k ds kd cs hkd τ e hag => ?_⟩
     have := r3 τ e fun j hj => hag j (by have : d + j < w'.drawn := hj; omega)
     rw [e3] at this
     rw [e1, e2, hst, this]
     simp only [resRe, resW, GStep.after, Array.append_empty]
     rfl
    | halt h w' =>
     have hd' : d ≤ w'.drawn := r1
     refine .inr ⟨w'.drawn - d, .inr fun main k cs hk τ e hag => .inl ?_⟩
     have := r3 τ e fun j hj => hag j (by have : d + j < w'.drawn := hj; omega)
     rw [e3] at this
     rw [e1, hst, this]
     simp only [resRe]
     cases h <;> exact ⟨_, _, _, rfl⟩
end
def wall : List Item := [.code (.refuse "")]
section
variable {P : Program} {A : FuncId → Bool} {k : List Item} {ds : List Deferred} {kd : CallKind}
theorem from_return {n : Nat} {fr : Frame} {W : World} (hdf : fr.defers = []) (hkk : fr.kind = .normal) (h2 : fr.mode = .returning) {frf : Frame} {wf : World} (hn : n ≠ 0) : runN P n (Go.lone fr [trap] W) ≠ .next (Go.lone frf [trap] wf) := by
 intro hr
 obtain ⟨m, rfl⟩ : ∃ m, n = m + 1 := ⟨n - 1, by omega⟩
 have hend : (∃ v w', ∃ es, stepG P true (G fr [trap]) W = .go (G (trap.finish v) []) w' es) ∨ ∃ o w' es, stepG P true (G fr [trap]) W = .ended o w' es := by
  cases hfn : P.funcs[fr.fn]? with
  | none => exact .inl ⟨_, _, _, by simp [G, stepG, unwind, doReturn, h2, hdf, hkk, hfn]; exact ⟨rfl, rfl, rfl⟩⟩
  | some fn =>
   have hst : stepG P true (G fr [trap]) W = GStep.after (seen P fr.fn ((results fn fr.tmps).runT P W #[]).2) (match ((results fn fr.tmps).runT P W #[]).1 with
    | .ok v w => doReturn P true fr [trap] none v w
    | .halt (.stuck s) w => .ended (.stuck s (fr.pos P)) w
    | .halt _ w => .ended (.stuck "return: the result variables cannot be read" (fr.pos P)) w) := by
    simp only [G, stepG, unwind, h2, hdf, hfn]
    cases (Sem.runT P (results fn fr.tmps) W #[]).fst with
    | ok v w => rfl
    | halt h w => cases h <;> rfl
   rw [hst]
   generalize (Sem.runT P (results fn fr.tmps) W #[]).fst = rr
   cases rr with
   | ok v w => exact .inl ⟨v, w, _, by simp only [doReturn, hkk, GStep.after]; rfl⟩
   | halt h w => cases h <;> exact .inr ⟨_, _, _, rfl⟩
 rcases hend with ⟨v, w', es, h⟩ | ⟨o, w', es, h⟩
 · rw [runN_go h] at hr; exact trap_run _ _ _ hr
 · exact runN_ended h _ _ hr
theorem fine_sfx {fr : Frame} (hf : Fine P A fr) : Fine P A (sfx wall [] .normal fr) :=
 ⟨fun i hi => by
  rcases List.mem_append.1 hi with h | h
  · exact hf.todo i h
  · rw [List.mem_singleton.1 h]; rfl, rfl, rfl, rfl, hf.mode⟩
theorem fine_fs {s : Sb} (hs : s.Ok P A) : ∀ c ∈ s.fs wall [] .normal, Fine P A c := by
 intro c hc
 unfold Sb.fs at hc
 cases hb : s.bot with
 | none => rw [hb] at hc; cases hc
 | some b =>
  rw [hb] at hc
  rcases List.mem_append.1 hc with h | h
  · exact hs.mid c h
  · rw [List.mem_singleton.1 h]; exact fine_sfx (hs.bot b hb).1
theorem real_G (s : Sb) (k : List Item) (ds : List Deferred) (kd : CallKind) (cs : List Frame) : s.real k ds kd cs = G (s.tp k ds kd) (s.fs k ds kd ++ cs) := rfl
theorem top_tp {s : Sb} (hok : s.Ok P A) (hd : ¬ s.Done) (hkd : kd ≠ .early) : Top P A (s.tp k ds kd) := by
 unfold Sb.tp
 cases hb : s.bot with
 | some b => exact hok.top.top
 | none =>
  have hm : s.fr.mode = .run := hok.top.mode.resolve_right fun h => hd ⟨hb, .inl h⟩
  cases ht : s.fr.todo with
  | nil => exact absurd ⟨hb, .inr ht⟩ hd
  | cons i t => exact ⟨rfl, hkd, .inl ⟨hm, i, t ++ k, by show s.fr.todo ++ k = _; rw [ht]; rfl, hok.top.todo i (by rw [ht]; simp)⟩⟩
theorem chunk (hP : Plain P A) (hkd : kd ≠ .early) {main : Bool} {J : Goroutine → World → Prop} {cs : List Frame}
 (hJ : ∀ fr cs' w, Top P A fr → (∀ τ d, ∃ fr' cs'' w' es, stepG P main (G fr cs') (re w τ d) = .go (G fr' cs'') w' es ∧ (∀ e ∈ es, calmEv true e) ∧ J (G fr' cs'') w') → J (G fr cs') w)
 {fr₀ : Frame} {w : World} (hfine : Fine P A fr₀) {Φ : Frame → World → Prop} (hΦr : ∀ fr w τ d, Φ fr w → Φ fr (re w τ d)) (hΦm : ∀ fr w, Φ fr w → ∀ ch, fr.mode ≠ .panicking ch)
 (alone : ∀ τ d, ∃ n frf wf, runN P n (Go.lone (sfx wall [] .normal fr₀) [trap] (re w τ d)) = .next (Go.lone frf [trap] wf) ∧ Φ frf wf)
 (after : ∀ fr w, Φ (sfx wall [] .normal fr) w → J (G (sfx k ds kd fr) cs) w) : J (G (sfx k ds kd fr₀) cs) w := by
 classical
 refine Classical.byContradiction fun hnot => ?_
 let bad : Sb → Prop := fun s => s.Ok P A ∧ ¬ J (s.real k ds kd cs) s.w
 have alt : ∀ s, bad s → ∃ τ d n, (∃ s' es, NextB P A s τ d n s' es ∧ bad s') ∨ HaltB P s τ d n := by
  intro s ⟨hok, hj⟩
  by_cases hdone : s.Done
  · exact ⟨fun _ _ => 0, 0, 0, .inr (.inl hdone)⟩
  have : ¬ ∀ τ d, ∃ fr' cs'' w' es, stepG P main (s.real k ds kd cs) (re s.w τ d) = .go (G fr' cs'') w' es ∧ (∀ e ∈ es, calmEv true e) ∧ J (G fr' cs'') w' := fun h => hj (hJ _ _ _ (top_tp hok hdone hkd) h)
  obtain ⟨τ, hd⟩ := Classical.not_forall.1 this
  obtain ⟨d, hd⟩ := Classical.not_forall.1 hd
  rcases wayB hP s hok τ d with ⟨n, s', es, hn⟩ | ⟨n, hn⟩
  · refine ⟨τ, d, n, .inl ⟨s', es, hn, hn.1, fun hj' => hd ?_⟩⟩
    have h6 := hn.2.2.2.2 main k ds kd cs hkd τ d (fun _ _ => rfl)
    have e2 : re s'.w τ (d + n) = s'.w := by rw [← hn.2.2.2.1, ← hn.2.1]; rfl
    rw [e2] at h6
    exact ⟨_, _, _, _, h6, hn.2.2.1, hj'⟩
  · exact ⟨τ, d, n, .inr hn⟩
 let tt : Sb → Nat → Question → Nat := fun s => if h : bad s then (alt s h).choose else fun _ _ => 0
 let dd : Sb → Nat := fun s => if h : bad s then (alt s h).choose_spec.choose else 0
 let nn : Sb → Nat := fun s => if h : bad s then (alt s h).choose_spec.choose_spec.choose else 0
 have hdn : ∀ s (h : bad s), (∃ s' es, NextB P A s (tt s) (dd s) (nn s) s' es ∧ bad s') ∨ HaltB P s (tt s) (dd s) (nn s) := by
  intro s h
  simp only [tt, dd, nn, dif_pos h]
  exact (alt s h).choose_spec.choose_spec.choose_spec
 let nx : Sb → Sb := fun s => if h : ∃ s' es, NextB P A s (tt s) (dd s) (nn s) s' es ∧ bad s' then h.choose else s
 let sq : Nat → Sb := fun m => Nat.rec ⟨fr₀, [], none, w⟩ (fun _ s => nx s) m
 let D : Nat → Nat := fun m => Nat.rec 0 (fun m x => x + nn (sq m)) m
 have sqS : ∀ m, sq (m + 1) = nx (sq m) := fun m => rfl
 have DS : ∀ m, D (m + 1) = D m + nn (sq m) := fun m => rfl
 have Dmono : ∀ m m', m ≤ m' → D m ≤ D m' := by
  intro m m' h
  induction h with
  | refl => exact Nat.le_refl _
  | step _ ih => exact Nat.le_trans ih (by rw [DS]; exact Nat.le_add_right _ _)
 let τ : Nat → Question → Nat := fun i => if h : ∃ m, D m ≤ i ∧ i < D (m + 1) then tt (sq h.choose) (dd (sq h.choose) + (i - D h.choose)) else fun _ => 0
 have hτ : ∀ m j, j < nn (sq m) → τ (D m + j) = tt (sq m) (dd (sq m) + j) := by
  intro m j hj
  have hex : ∃ m', D m' ≤ D m + j ∧ D m + j < D (m' + 1) := ⟨m, Nat.le_add_right _ _, by rw [DS]; omega⟩
  have hm : hex.choose = m := by
   obtain ⟨h1, h2⟩ := hex.choose_spec
   rcases Nat.lt_trichotomy hex.choose m with h | h | h
   · have := Dmono (hex.choose + 1) m h; omega
   · exact h
   · have := Dmono (m + 1) hex.choose h; rw [DS] at this; omega
  simp only [τ, dif_pos hex]
  rw [hm]
  congr 1
  omega
 obtain ⟨N, frf, wf, hrun, hΦ⟩ := alone τ 0
 have hbad0 : bad (sq 0) := ⟨⟨hfine, fun c hc => (by cases hc), fun b hb => (by cases hb), fun _ => rfl⟩, hnot⟩
 let LN : Sb → World → Machine := fun s w => Go.lone (s.tp wall [] .normal) (s.fs wall [] .normal ++ [trap]) w
 have main' : ∀ m, m ≤ N → bad (sq m) ∧ runN P (N - m) (LN (sq m) (re (sq m).w τ (D m))) = .next (Go.lone frf [trap] wf) := by
  intro m
  induction m with
  | zero => exact fun _ => ⟨hbad0, hrun⟩
  | succ m ih =>
   intro hm
   obtain ⟨hb, hr⟩ := ih (by omega)
   obtain ⟨p, hp⟩ : ∃ p, N - m = p + 1 := ⟨N - m - 1, by omega⟩
   rw [hp] at hr
   have hag : ∀ j, j < nn (sq m) → τ (D m + j) = tt (sq m) (dd (sq m) + j) := fun j hj => hτ m j hj
   rcases hdn _ hb with hex | hh
   · have e : sq (m + 1) = hex.choose := by rw [sqS]; simp only [nx, dif_pos hex]
     obtain ⟨es, hn, hb'⟩ := hex.choose_spec
     rw [← e] at hn hb'
     refine ⟨hb', ?_⟩
     have hst := hn.2.2.2.2 true wall [] .normal [trap] (by decide) τ (D m) hag
     rw [real_G, real_G] at hst
     rw [runN_go hst] at hr
     rw [show N - (m + 1) = p by omega, DS]
     exact hr
   · exfalso
     rcases hh with ⟨h1, h2⟩ | hh
     · have hab := hb.1.none h1
       have hfs : (sq m).fs wall [] .normal = [] := by unfold Sb.fs; rw [h1]
       have htp : (sq m).tp wall [] .normal = sfx wall [] .normal (sq m).fr := by unfold Sb.tp; rw [h1]
       simp only [LN, hfs, htp, List.nil_append] at hr
       have hf := hb.1.top
       rcases h2 with h2 | h2
       · exact from_return (fr := sfx wall [] .normal (sq m).fr) rfl rfl h2 (Nat.succ_ne_zero p) hr
       · rcases hf.mode with hmr | hmr
         · have hst : ∃ o w' es, stepG P true (G (sfx wall [] .normal (sq m).fr) [trap]) (re (sq m).w τ (D m)) = .ended o w' es := by
            simp [sfx, wall, h2, hmr, G, stepG, stepG.exec]
           obtain ⟨o, w', es, hst⟩ := hst
           exact runN_ended hst _ _ hr
         · exact from_return (fr := sfx wall [] .normal (sq m).fr) rfl rfl hmr (Nat.succ_ne_zero p) hr
     · have hbb := hh true wall [trap] (by intro id; rfl) τ (D m) hag
       rw [real_G] at hbb
       rcases hbb with ⟨o, w', es, h⟩ | ⟨fr', ch, w', es, h, hm', hd'⟩
       · exact runN_ended h _ _ hr
       · simp only [LN] at hr
         rw [runN_go h] at hr
         exact doomed _ fr' _ w' ch hm' hd' (fine_fs hb.1) (hΦm _ _ hΦ) hr
 obtain ⟨hb, hr⟩ := main' N (Nat.le_refl _)
 simp only [Nat.sub_self, runN, Stepped.next.injEq, LN] at hr
 obtain ⟨e1, e2, e3⟩ := lone_inj hr
 have hbot : (sq N).bot = none := by
  cases h : (sq N).bot with
  | none => rfl
  | some b =>
   unfold Sb.fs at e2
   rw [h] at e2
   have := congrArg List.length e2
   simp at this
 have htp : (sq N).tp wall [] .normal = sfx wall [] .normal (sq N).fr := by unfold Sb.tp; rw [hbot]
 rw [htp] at e1
 refine hb.2 ?_
 have hreal : (sq N).real k ds kd cs = G (sfx k ds kd (sq N).fr) cs := by unfold Sb.real Sb.tp Sb.fs; rw [hbot]; rfl
 rw [hreal]
 refine after _ _ ?_
 rw [e1]
 have hw : (sq N).w = re wf (sq N).w.tape (sq N).w.drawn := by rw [← e3]; rfl
 rw [hw]
 exact hΦr _ _ _ _ hΦ
end
set_option maxHeartbeats 1000000
section
variable {P : Program} {main : Bool} {Kc : Addr → Option Value} {γ : Type} {J : γ → Goroutine → World → Prop} {A : FuncId → Bool}
def ends (C R : Act → World → Prop) : Exit → Act → World → Prop
 | .normal, a, w => a.defers = [] ∧ C a w
 | .ret, a, w => a.defers = [] ∧ R a w
 | _, _, _ => False
theorem wpJ_lone (hJ : JS P main Kc J) (hcalm : CalmJ P main J) (hP : Plain P A) {c : Code} (hc : okCode P A c = true) (C R : Act → World → Prop)
 (hC : ∀ a w τ d, C a w → C a (re w τ d)) (hR : ∀ a w τ d, R a w → R a (re w τ d)) {Q : γ → Exit → Act → World → Prop} {s : γ} {a : Act} {w : World}
 (h : ∀ τ d, Code.wp P c (ends C R) ⟨a.tmps, []⟩ (re w τ d))
 (hq : ∀ t w, C ⟨t, []⟩ w → Q s .normal ⟨t, a.defers⟩ w) (hr : ∀ t w, R ⟨t, []⟩ w → Q s .ret ⟨t, a.defers⟩ w) : wpJ J c Q s a w := by
 intro b k cs hb hk
 let b₀ : Frame := { (default : Frame) with fn := b.fn, kind := .normal }
 let Φ : Frame → World → Prop := fun fr w => (∃ t, fr = b₀.at ⟨t, []⟩ wall ∧ C ⟨t, []⟩ w) ∨ (fr.mode = .returning ∧ fr.fn = b.fn ∧ R ⟨fr.tmps, []⟩ w)
 have hsfx : b.at a (.code c :: k) = sfx k a.defers b.kind (Fr b.fn a.tmps [.code c]) := rfl
 have hwall : sfx wall [] .normal (Fr b.fn a.tmps [.code c]) = b₀.at ⟨a.tmps, []⟩ (.code c :: wall) := rfl
 rw [hsfx]
 refine chunk (J := fun g w => J s g w) hP hb (fun fr cs' w ht h => calmJ_top hcalm hP ht h) (fine_fr (fun i hi => by rw [List.mem_singleton.1 hi]; exact hc)) (Φ := Φ) ?_ ?_ ?_ ?_
 · rintro fr w τ d (⟨t, h1, h2⟩ | ⟨h1, h2, h3⟩)
   · exact .inl ⟨t, h1, hC _ _ _ _ h2⟩
   · exact .inr ⟨h1, h2, hR _ _ _ _ h3⟩
 · rintro fr w (⟨t, h1, h2⟩ | ⟨h1, h2, h3⟩) ch hm
   · rw [h1] at hm; cases hm
   · rw [h1] at hm; cases hm
 · intro τ d
   rw [hwall]
   obtain ⟨e, a', w', hC', harr⟩ := h τ d b₀ wall [trap]
   cases e with
   | normal =>
    obtain ⟨t, dd⟩ := a'
    obtain ⟨hd, hC'⟩ := hC'
    simp only at hd
    subst hd
    obtain ⟨n, hn⟩ := harr
    exact ⟨n, _, _, hn, .inl ⟨t, rfl, hC'⟩⟩
   | ret =>
    obtain ⟨t, dd⟩ := a'
    obtain ⟨hd, hC'⟩ := hC'
    simp only at hd
    subst hd
    obtain ⟨todo, n, hn⟩ := harr
    exact ⟨n, _, _, hn, .inr ⟨rfl, rfl, hC'⟩⟩
   | _ => exact hC'.elim
 · rintro fr w (⟨t, h1, h2⟩ | ⟨h1, h2, h3⟩)
   · have e1 : fr.fn = b.fn := by have := congrArg Frame.fn h1; exact this
     have e2 : fr.tmps = t := by have := congrArg Frame.tmps h1; exact this
     have e3 : fr.todo ++ wall = wall := by have := congrArg Frame.todo h1; exact this
     have e4 : fr.mode = .run := by have := congrArg Frame.mode h1; exact this
     have e5 : fr.todo = [] := by
      have := congrArg List.length e3
      simp at this
      exact this
     have : sfx k a.defers b.kind fr = b.at ⟨t, a.defers⟩ k := by
      simp only [sfx, Frame.at, e1, e2, e4, e5, List.nil_append]
     rw [this]
     exact hk s .normal _ _ (hq _ _ h2)
   · have h1' : fr.mode = .returning := h1
     have h2' : fr.fn = b.fn := h2
     have : sfx k a.defers b.kind fr = { b.at ⟨fr.tmps, a.defers⟩ (fr.todo ++ k) with mode := .returning } := by
      simp only [sfx, Frame.at, h1', h2']
     rw [this]
     exact hk s .ret _ _ (hr _ _ h3) _
end
def dstOf (ops : Array Oper) (i : Nat) : Option Tmp := (ops[i]?).bind (·.dst)
def tmpOf : Operand → Option Tmp
 | .tmp t => some t
 | _ => none
def waits (ops : Array Oper) (j i : Nat) : Bool := match ops[j]? with
 | some o => o.after.any fun e => Region.binds .any e && e.on == i
 | none => false
def drawOk (P : Program) (ops : Array Oper) (l n : Nat) : Bool :=
 ops.size == l + 1 &&
 (List.range l).all (fun i => match ops[i]? with
  | some o => readOp P o.op && o.guard.isNone && (match o.dst with | some d => decide (d < n) | none => false)
  | none => false) &&
 (List.range l).all (fun i => (List.range i).all fun j => dstOf ops i != dstOf ops j) &&
 (List.range (l + 1)).all (fun i => match ops[i]? with
  | some o => o.after.all (fun e => !Region.binds .any e || decide (e.on < i)) &&
   o.op.operands.all (fun x => match tmpOf x with
    | some t => (List.range l).all fun j => dstOf ops j != some t || waits ops i j
    | none => true)
  | none => false) &&
 (List.range l).all (fun i => (List.range (l + 1)).any fun j => decide (i < j) && waits ops j i)
def putv (ops : Array Oper) : List Value → Nat → Array Value → Array Value
 | [], _, t => t
 | v :: vs, i, t => putv ops vs (i + 1) (match dstOf ops i with | some d => t.setIfInBounds d v | none => t)
def evals (P : Program) (ops : Array Oper) (T : Array Value) (w : World) : List Value → Nat → Prop
 | [], _ => True
 | v :: vs, i => (∀ o, ops[i]? = some o → (execOp (Act.mk T []).eval o).run P w = .ok (.value v) w) ∧ evals P ops T w vs (i + 1)
section
variable {P : Program} {ops : Array Oper}
theorem putv_size (vs : List Value) : ∀ i t, (putv ops vs i t).size = t.size := by
 induction vs with
 | nil => intro i t; rfl
 | cons v vs ih => intro i t; simp only [putv]; rw [ih]; split <;> simp
theorem putv_out (vs : List Value) : ∀ i (t : Array Value) x, (∀ j, i ≤ j → j < i + vs.length → dstOf ops j ≠ some x) → (putv ops vs i t)[x]? = t[x]? := by
 induction vs with
 | nil => intro i t x _; rfl
 | cons v vs ih =>
  intro i t x h
  simp only [putv]
  rw [ih (i + 1) _ x (fun j h1 h2 => h j (by omega) (by simp; omega))]
  have := h i (Nat.le_refl _) (by simp)
  split
  · rename_i d hd
    rw [al_gn (fun e => this (by rw [hd, e]))]
  · rfl
theorem putv_at (vs : List Value) : ∀ i (t : Array Value) j v x, vs[j]? = some v → dstOf ops (i + j) = some x → x < t.size → (∀ m, i + j < m → m < i + vs.length → dstOf ops m ≠ some x) → (putv ops vs i t)[x]? = some v := by
 induction vs with
 | nil => intro i t j v x h; cases h
 | cons u vs ih =>
  intro i t j v x hv hx hlt hlater
  cases j with
  | zero =>
   simp only [al_g0, al_oi] at hv
   subst hv
   simp only [Nat.add_zero] at hx hlater
   simp only [putv, hx]
   rw [putv_out vs (i + 1) _ x (fun m h1 h2 => hlater m (by omega) (by simp; omega))]
   simp [hlt]
  | succ j =>
   simp only [putv]
   refine ih (i + 1) _ j v x (by simpa using hv) (by rw [show i + 1 + j = i + (j + 1) by omega]; exact hx) ?_ (fun m h1 h2 => hlater m (by omega) (by simp; omega))
   split <;> simp [hlt]
theorem evals_at {T : Array Value} {w : World} (vs : List Value) : ∀ i j v o, evals P ops T w vs i → vs[j]? = some v → ops[i + j]? = some o → (execOp (Act.mk T []).eval o).run P w = .ok (.value v) w := by
 induction vs with
 | nil => intro i j v o _ h; cases h
 | cons u vs ih =>
  intro i j v o h hv ho
  cases j with
  | zero =>
   simp only [al_g0, al_oi] at hv
   subst hv
   exact h.1 o ho
  | succ j => exact ih (i + 1) j v o h.2 (by simpa using hv) (by rw [show i + 1 + j = i + (j + 1) by omega]; exact ho)
def left (listed : Array Bool) : Nat := (listed.toList.filter (! ·)).length
theorem left_list : ∀ (l : List Bool) (i : Nat), l[i]? = some false → ((l.set i true).filter (! ·)).length + 1 = (l.filter (! ·)).length
 | [], _, h => by cases h
 | x :: l, 0, h => by
  simp only [al_g0, al_oi] at h
  subst h
  simp
 | x :: l, i + 1, h => by
  have := left_list l i (by simpa using h)
  cases x <;> simp [List.filter_cons] <;> omega
theorem getD_lt {listed : Array Bool} {i : Nat} (h : listed.getD i true = false) : i < listed.size := by
 rcases Nat.lt_or_ge i listed.size with h' | h'
 · exact h'
 · simp [Array.getElem?_eq_none h'] at h
theorem left_set {listed : Array Bool} {i : Nat} (h : listed.getD i true = false) : left (listed.setIfInBounds i true) + 1 = left listed := by
 unfold left
 have hlt := getD_lt h
 have hv : listed.toList[i]? = some false := by
  simp [hlt] at h ⊢
  exact h
 rw [Array.toList_setIfInBounds]
 exact left_list _ _ hv
theorem left_pos {listed : Array Bool} {i : Nat} (h : listed.getD i true = false) : 0 < left listed := by
 have := left_set h; omega
theorem waits_iff {j i : Nat} : waits ops j i = true ↔ ∃ o, ops[j]? = some o ∧ ∃ e ∈ o.after, Region.binds .any e = true ∧ e.on = i := by
 unfold waits
 cases ops[j]? with
 | none => simp
 | some o =>
  simp only [al_oi, exists_eq_left', Array.any_eq_true]
  constructor
  · rintro ⟨m, hm, h⟩
    simp only [Bool.and_eq_true, beq_iff_eq] at h
    exact ⟨_, Array.getElem_mem hm, h.1, h.2⟩
  · rintro ⟨e, he, h1, h2⟩
    obtain ⟨m, hm, rfl⟩ := Array.mem_iff_getElem.1 he
    exact ⟨m, hm, by simp [h1, h2]⟩
structure DrawOk (P : Program) (ops : Array Oper) (l n : Nat) : Prop where
 size : ops.size = l + 1
 reads : ∀ i, i < l → ∃ o d, ops[i]? = some o ∧ readOp P o.op = true ∧ o.guard = none ∧ o.dst = some d ∧ d < n
 apart : ∀ i j, i < l → j < i → dstOf ops i ≠ dstOf ops j
 back : ∀ i o e, i < l + 1 → ops[i]? = some o → e ∈ o.after → Region.binds .any e = true → e.on < i
 looks : ∀ i o x t j, i < l + 1 → ops[i]? = some o → x ∈ o.op.operands → tmpOf x = some t → j < l → dstOf ops j = some t → waits ops i j = true
 leads : ∀ i, i < l → ∃ j, j < l + 1 ∧ i < j ∧ waits ops j i = true
theorem drawOk_spec {l n : Nat} (h : drawOk P ops l n = true) : DrawOk P ops l n := by
 unfold drawOk at h
 simp only [Bool.and_eq_true, beq_iff_eq, List.all_eq_true, List.mem_range, List.any_eq_true, decide_eq_true_eq] at h
 obtain ⟨⟨⟨⟨h1, h2⟩, h3⟩, h4⟩, h5⟩ := h
 refine ⟨h1, fun i hi => ?_, fun i j hi hj => by have := h3 i hi j hj; simpa using this, fun i o e hi ho he hb => ?_, fun i o x t j hi ho hx ht hj hd => ?_, fun i hi => ?_⟩
 · have := h2 i hi
   cases ho : ops[i]? with
   | none => rw [ho] at this; cases this
   | some o =>
    rw [ho] at this
    simp only [Bool.and_eq_true, Option.isNone_iff_eq_none] at this
    obtain ⟨⟨a1, a2⟩, a3⟩ := this
    cases hd : o.dst with
    | none => rw [hd] at a3; cases a3
    | some d => rw [hd] at a3; exact ⟨o, d, rfl, a1, a2, hd, by simpa using a3⟩
 · have := h4 i hi
   rw [ho] at this
   simp only [Bool.and_eq_true, Array.all_eq_true_iff_forall_mem] at this
   have := this.1 e he
   simpa [hb] using this
 · have := h4 i hi
   rw [ho] at this
   simp only [Bool.and_eq_true, Array.all_eq_true_iff_forall_mem] at this
   have := this.2 x hx
   rw [ht] at this
   simp only [List.all_eq_true, List.mem_range] at this
   have := this j hj
   simpa [hd] using this
 · obtain ⟨j, hj, h⟩ := h5 i hi
   exact ⟨j, hj, h.1, h.2⟩
structure Agree (ops : Array Oper) (l : Nat) (T a₀ : Array Value) (listed : Array Bool) (tm : Array Value) : Prop where
 size : tm.size = T.size
 on : ∀ i t, i < l → listed.getD i false = true → dstOf ops i = some t → tm[t]? = T[t]?
 off : ∀ t, (∀ i, i < l → listed.getD i false = true → dstOf ops i ≠ some t) → tm[t]? = a₀[t]?
theorem eval_agree {ρ ρ' : Array Value} {ds ds' : List Deferred} {x : Operand} (h : ∀ t, tmpOf x = some t → ρ[t]? = ρ'[t]?) : (Act.mk ρ ds).eval x = (Act.mk ρ' ds').eval x := by
 cases x with
 | tmp t =>
  have := h t rfl
  simp [Act.eval, Frame.eval, al_gd, this]
 | _ => rfl
end
section
variable {P : Program} {main : Bool} {Kc : Addr → Option Value} {γ : Type} {J : γ → Goroutine → World → Prop}
theorem draw_go (hJ : JS P main Kc J) {b : Frame} {k : List Item} {cs : List Frame} (hb : b.kind ≠ .early) {ops : Array Oper} {l n : Nat} (hok : DrawOk P ops l n) {T a₀ : Array Value} {ds : List Deferred} {s : γ} {w : World} (hT : T.size = n)
 (hout : ∀ t, (∀ i, i < l → dstOf ops i ≠ some t) → T[t]? = a₀[t]?)
 (hval : ∀ i o, i < l → ops[i]? = some o → ∃ v d, o.dst = some d ∧ T[d]? = some v ∧ ∀ τ dd, (execOp (Act.mk T []).eval o).run P (re w τ dd) = .ok (.value v) (re w τ dd))
 (hlast : J s (G (b.at ⟨T, ds⟩ (.inRegion ops [l] :: k)) cs) w) :
 ∀ (fuel t : Nat) (listed : Array Bool) (tm : Array Value), listed.size = l + 1 → left listed ≤ fuel → listed.getD l true = false →
  (∀ i o e, i < l + 1 → ops[i]? = some o → listed.getD i false = true → e ∈ o.after → Region.binds .any e = true → listed.getD e.on false = true) → Agree ops l T a₀ listed tm →
  J s (G (b.at ⟨tm, ds⟩ (.inRegion ops (Region.linearise.go .any ops fuel t listed []) :: k)) cs) w := by
 intro fuel
 induction fuel with
 | zero => intro t listed tm hsz hl hlast' _ _; have := left_pos hlast'; omega
 | succ fuel ih =>
  intro t listed tm hsz hl hlast' hclosed hag
  simp only [Region.linearise.go]
  change J s (G (b.at ⟨tm, ds⟩ (.inRegion ops (match (Region.ready .any ops listed)[t % (Region.ready .any ops listed).length]? with
   | some i => Region.linearise.go .any ops fuel (t / (Region.ready .any ops listed).length) (listed.setIfInBounds i true) [i]
   | none => [].reverse) :: k)) cs) w
  have hready : ∃ i, i ∈ Region.ready .any ops listed := by
   have : ∀ m i, m = i → listed.getD i true = false → ∃ j, j ∈ Region.ready .any ops listed := by
    intro m
    induction m using Nat.strongRecOn with
    | _ m ihm =>
     intro i hi hun
     subst hi
     have hlt : m < l + 1 := by have := getD_lt hun; omega
     have hops : m < ops.size := by rw [hok.size]; exact hlt
     by_cases hall : ∀ e ∈ (ops[m]'hops).after, Region.binds .any e = true → listed.getD e.on false = true
     · exact ⟨m, mem_ready.2 ⟨hun, _, Array.getElem?_eq_getElem hops, hall⟩⟩
     · obtain ⟨e, he⟩ := Classical.not_forall.1 hall
       obtain ⟨h1, he⟩ := Classical.not_imp.1 he
       obtain ⟨h2, he⟩ := Classical.not_imp.1 he
       have hlt' := hok.back m _ e hlt (Array.getElem?_eq_getElem hops) h1 h2
       refine ihm e.on hlt' e.on rfl ?_
       have : e.on < listed.size := by omega
       simp [this] at he ⊢
       exact he
   exact this l l rfl hlast'
  cases hi : (Region.ready .any ops listed)[t % (Region.ready .any ops listed).length]? with
  | none =>
   exfalso
   obtain ⟨i, hi'⟩ := hready
   have hpos : 0 < (Region.ready .any ops listed).length := List.length_pos_of_mem hi'
   have hlt := Nat.mod_lt t hpos
   rw [List.getElem?_eq_none_iff] at hi
   omega
  | some i =>
   have hmem := List.mem_of_getElem? hi
   obtain ⟨hun, o, ho, hall⟩ := mem_ready.1 hmem
   have hilt : i < l + 1 := by have := getD_lt hun; omega
   simp only []
   rw [linearise_go_acc, List.reverse_singleton, List.singleton_append]
   by_cases hil : i = l
   ·
    subst hil
    have hall' : ∀ m j, i - j = m → j < i → listed.getD j false = true := by
     intro m
     induction m using Nat.strongRecOn with
     | _ m ihm =>
      intro j hm hj
      obtain ⟨q, hq1, hq2, hq3⟩ := hok.leads j hj
      obtain ⟨oq, hoq, e, he1, he2, he3⟩ := waits_iff.1 hq3
      subst he3
      by_cases hqi : q = i
      · subst hqi
        rw [ho] at hoq
        obtain rfl := Option.some.inj hoq
        exact hall e he1 he2
      · have := ihm (i - q) (by omega) q rfl (by omega)
        exact hclosed q oq e hq1 hoq this he1 he2
    have hnil : Region.linearise.go .any ops fuel (t / (Region.ready .any ops listed).length) (listed.setIfInBounds i true) [] = [] := by
     cases fuel with
     | zero => rfl
     | succ fuel =>
      simp only [Region.linearise.go]
      have hr : Region.ready .any ops (listed.setIfInBounds i true) = [] := by
       refine List.eq_nil_iff_forall_not_mem.2 fun j hj => ?_
       obtain ⟨hju, _⟩ := mem_ready.1 hj
       have hjlt := getD_lt hju
       simp at hjlt
       by_cases hji : i = j
       · subst hji
         simp [hjlt] at hju
       · rw [getD_set_ne true hji] at hju
         have := hall' _ j rfl (by omega)
         simp [hjlt] at hju this
         rw [hju] at this; cases this
      have e1 : ((List.range ops.size).filter fun i_1 => !(listed.setIfInBounds i true).getD i_1 true && ((ops[i_1]?).map (·.after.all fun e => !Region.binds .any e || (listed.setIfInBounds i true).getD e.on false)).getD false) = [] := hr
      rw [e1]
      rfl
    rw [hnil]
    have htm : tm = T := by
     apply Array.ext_getElem?
     intro x
     by_cases hx : ∃ j, j < i ∧ dstOf ops j = some x
     · obtain ⟨j, hj, hd⟩ := hx
       exact hag.on j x hj (hall' _ j rfl hj) hd
     · rw [hag.off x (fun j hj _ hd => hx ⟨j, hj, hd⟩), hout x fun j hj hd => hx ⟨j, hj, hd⟩]
    rw [htm]
    exact hlast
   · have hi' : i < l := by omega
     obtain ⟨o', d, ho', hread, hguard, hdst, hdn⟩ := hok.reads i hi'
     rw [ho] at ho'
     obtain rfl := Option.some.inj ho'
     obtain ⟨v, d', hd', hTv, hrun⟩ := hval i o hi' ho
     rw [hdst] at hd'
     obtain rfl := Option.some.inj hd'
     have hdi : dstOf ops i = some d := by unfold dstOf; rw [ho]; exact hdst
     have hex : execOp (Act.mk tm ds).eval o = execOp (Act.mk T []).eval o := by
      refine execOp_congr o (fun cs b h => by rw [h] at hread; cases hread) fun x hx => eval_agree fun t ht => ?_
      by_cases hxt : ∃ j, j < l ∧ dstOf ops j = some t
      · obtain ⟨j, hj, hd⟩ := hxt
        obtain ⟨oi, hoi, e, he1, he2, he3⟩ := waits_iff.1 (hok.looks i o x t j hilt ho hx ht hj hd)
        rw [ho] at hoi
        obtain rfl := Option.some.inj hoi
        subst he3
        exact hag.on e.on t hj (hall e he1 he2) hd
      · rw [hag.off t (fun j hj _ hd => hxt ⟨j, hj, hd⟩), hout t fun j hj hd => hxt ⟨j, hj, hd⟩]
     have hw : Region.wanted o (yielded ops (Act.mk tm ds).tmps) = true := by simp [Region.wanted, hguard]
     refine at_cons hb hJ ho hw fun τ dd => ?_
     rw [hex]
     obtain ⟨h1, h2⟩ := evs_read (Kc := Kc) (execOp_read o hread (Act.mk T []).eval) (re w τ dd)
     refine ⟨h1, h2, ?_⟩
     rw [hrun]
     show J s (G (b.at (Act.put ⟨tm, ds⟩ o.dst v) _) cs) (re w τ dd)
     rw [hdst]
     refine hJ.re' _ _ _ _ _ ?_
     show J s (G (b.at ⟨tm.setIfInBounds d v, ds⟩ _) cs) w
     have hld : left (listed.setIfInBounds i true) + 1 = left listed := left_set hun
     refine ih _ _ _ (by simpa using hsz) (by omega) (by rw [getD_set_ne true hil]; exact hlast') ?_ ?_
     · intro j oj e hj hoj hlj he hbe
       refine getD_set_true ?_
       by_cases hji : i = j
       · subst hji
         rw [ho] at hoj
         obtain rfl := Option.some.inj hoj
         exact hall e he hbe
       · rw [getD_set_ne false hji] at hlj
         exact hclosed j oj e hj hoj hlj he hbe
     · refine ⟨by simpa using hag.size, fun j t hj hlj hd => ?_, fun t ht => ?_⟩
       · by_cases htd : d = t
         · subst htd
           have : d < tm.size := by rw [hag.size, hT]; exact hdn
           simp [this, hTv]
         · rw [al_gn htd]
           by_cases hji : i = j
           · subst hji; rw [hdi] at hd; exact absurd (Option.some.inj hd) htd
           · rw [getD_set_ne false hji] at hlj
             exact hag.on j t hj hlj hd
       · have htd : d ≠ t := by
          intro e
          subst e
          refine ht i hi' ?_ hdi
          have := getD_lt hun
          simp [this]
         rw [al_gn htd]
         refine hag.off t fun j hj hlj => ?_
         exact ht j hj (getD_set_true hlj)
theorem at_draw (hJ : JS P main Kc J) {b : Frame} {k : List Item} {cs : List Frame} (hb : b.kind ≠ .early) (hm : P.follows .mixedOrders = true) {id : Nat} {ops : Array Oper} {a : Act} {s : γ} {w : World} (vs : List Value)
 (hok : drawOk P ops vs.length a.tmps.size = true) (hval : ∀ τ d, evals P ops (putv ops vs 0 a.tmps) (re w τ d) vs 0)
 (hlast : J s (G (b.at ⟨putv ops vs 0 a.tmps, a.defers⟩ (.inRegion ops [vs.length] :: k)) cs) w) : J s (G (b.at a (.code (.region id ops true) :: k)) cs) w := by
 have hk := drawOk_spec hok
 refine hJ.step _ _ _ rfl fun τ d => ⟨_, _, #[], stepG_region_draw, ?_, by simp, ?_⟩
 · exact OkD.refl _ _ _
 · refine hJ.re' s _ w τ (d + 1) ?_
   simp only [Region.schedule, hm, Bool.true_or, if_true, Region.linearise]
   refine draw_go hJ hb hk (a₀ := a.tmps) (T := putv ops vs 0 a.tmps) (putv_size vs 0 _) (fun t h => putv_out vs 0 _ t (fun j _ hj => h j (by omega))) ?_ hlast _ _ _ _ (by simp [hk.size]) ?_ (by simp [hk.size]) ?_ ?_
   · intro i o hi ho
     obtain ⟨o', dd, ho', _, _, hd, hdn⟩ := hk.reads i hi
     rw [ho] at ho'
     obtain rfl := Option.some.inj ho'
     have hv : vs[i]? = some vs[i] := List.getElem?_eq_getElem hi
     have hdi : dstOf ops (0 + i) = some dd := by unfold dstOf; rw [Nat.zero_add, ho]; exact hd
     refine ⟨vs[i], dd, hd, putv_at vs 0 _ i _ dd hv hdi hdn (fun m h1 h2 e => ?_), fun τ d' => evals_at vs 0 i _ o (hval τ d') hv (by rw [Nat.zero_add]; exact ho)⟩
     have := hk.apart m i (by omega) (by omega)
     rw [Nat.zero_add] at hdi
     exact this (by rw [e, hdi])
   · unfold left
     have : ((Array.replicate ops.size false).toList.filter (! ·)).length ≤ (Array.replicate ops.size false).toList.length := List.length_filter_le _ _
     simpa using this
   · intro i o e hi ho hl
     have : i < ops.size := by rw [hk.size]; exact hi
     simp [this] at hl
   · refine ⟨(putv_size vs 0 _).symm, fun i t hi hl => ?_, fun t _ => rfl⟩
     have : i < ops.size := by rw [hk.size]; omega
     simp [this] at hl
end
section
variable {P : Program} {main : Bool} {Kc : Addr → Option Value} {γ : Type} {J : γ → Goroutine → World → Prop}
theorem at_store {b : Frame} {k : List Item} {cs : List Frame} (hb : b.kind ≠ .early) (hJ : JS P main Kc J) {ops : Array Oper} {i : Nat} {rest : List Nat} {o : Oper} {s : γ} {a : Act} {w : World} {t : TypeId} {pa pv : Operand} {ad : Addr}
 (ho : ops[i]? = some o) (hop : o.op = .store t pa pv) (ha : a.eval pa = .pointer (some ad)) (hK : ∀ j, j < (a.eval pv).cells.size → Kc (ad.add j) = none) (hbk : ∃ c e f, w.heap[ad.block]? = some (.cells c e f))
 (h : ∀ τ d, wpList P ops (contAt J ops rest b k cs s) [o] a (re w τ d)) : J s (G (b.at a (.inRegion ops (i :: rest) :: k)) cs) w := by
 have hok : okOp P (fun _ => false) o.op = true := by rw [hop]; rfl
 refine at_one hb (l := []) hJ (rows0_none P) ho hok (fun _ τ d => evs_store hop ha hK hbk) (contAt J ops rest b k cs s .normal) (fun a w τ τ' d d' hτ h => contAt_still hJ _ _ _ _ _ _ _ h) (fun a w h => h w.tape w.drawn) (contAt J ops rest b k cs s) (fun ch a w h => h w.tape w.drawn) fun τ d => ?_
 have := h τ d
 simp only [wpList] at this
 split at this
 · rename_i hw; rw [if_pos hw]; exact this.elim id (fun ⟨_, a, w, h⟩ => h.elim)
 · rename_i hw; rw [if_neg hw]; exact this
theorem free_block {ad : Addr} (h : ∀ y : Addr, y.block = ad.block → Kc y = none) (j : Nat) : Kc (ad.add j) = none := h _ (add_block ad j)
theorem free_cell {ad : Addr} (h : Kc ad = none) {j : Nat} (hj : j < 1) : Kc (ad.add j) = none := by
 obtain rfl : j = 0 := by omega
 exact h
theorem at_call {b : Frame} {k : List Item} {cs : List Frame} (hb : b.kind ≠ .early) (hJ : JS P main Kc J) {ops : Array Oper} {i : Nat} {rest : List Nat} {o : Oper} {s : γ} {a : Act} {w : World} {f : FuncId} {args : Array Value}
 (ho : ops[i]? = some o) (hw : Region.wanted o (yielded ops a.tmps) = true) (hr : ∀ τ d, (execOp a.eval o).run P (re w τ d) = .ok (.enter f args) (re w τ d)) (hev : ∀ τ d, ∀ e ∈ ((execOp a.eval o).runT P (re w τ d) #[]).2, EvOk Kc e)
 (h : J s (G (Frame.enter P f args .normal) (b.at a (.inRegion ops (i :: rest) :: k) :: cs)) w) : J s (G (b.at a (.inRegion ops (i :: rest) :: k)) cs) w := by
 refine hJ.step _ _ _ rfl fun τ d => ?_
 have hkb : (b.kind == CallKind.early) = false := by simpa using hb
 have hke : ((b.at a (.inRegion ops (i :: rest) :: k)).kind == CallKind.early) = false := hkb
 have h1 : ((execOp a.eval o).runT P (re w τ d) #[]).1 = .ok (.enter f args) (re w τ d) := by rw [Sem.runT_eq]; exact hr τ d
 have h2 := hev τ d
 rw [stepG_oper ho hw, stepG.apply]
 simp only [if_true]
 generalize (execOp a.eval o).runT P (re w τ d) #[] = r at h1 h2
 obtain ⟨r, es⟩ := r
 simp only at h1
 subst h1
 refine ⟨_, _, seen P b.fn es, by simp only [hke, Bool.false_eq_true, if_false, GStep.after, Array.append_empty]; rfl, OkD.refl _ _ _, fun e he => h2 e (mem_seen he), hJ.re' _ _ _ _ _ h⟩
theorem at_defer {b : Frame} {k : List Item} {cs : List Frame} (hb : b.kind ≠ .early) (hJ : JS P main Kc J) {ops : Array Oper} {i : Nat} {rest : List Nat} {o : Oper} {s : γ} {a : Act} {w : World} {d : Deferred}
 (ho : ops[i]? = some o) (hw : Region.wanted o (yielded ops a.tmps) = true) (hr : ∀ w, (execOp a.eval o).run P w = .ok (.defer d) w) (he : ∀ w, (execOp a.eval o).events P w #[] = #[])
 (h : J s (G (b.at (({ a with defers := d :: a.defers } : Act).put o.dst undef) (.inRegion ops rest :: k)) cs) w) : J s (G (b.at a (.inRegion ops (i :: rest) :: k)) cs) w := by
 refine at_cons hb hJ ho hw fun τ dd => ⟨?_, ?_, ?_⟩
 · rw [Sem.runT_eq, he]; simp
 · rw [hr]; exact OkD.refl _ _ _
 · rw [hr]; exact hJ.re' _ _ _ τ dd h
def botF (P : Program) : Frame := { (default : Frame) with fn := P.funcs.size, defers := [], mode := .panicking [goexitEntry] }
end
theorem zqa (w : World) (o : Obj) (b : Nat) : (w.alloc o).heap[b]? = if b = w.heap.size then some o else w.heap[b]? := by
 show (w.heap.push o)[b]? = _
 rw [Array.getElem?_push]
theorem zq6 (w : World) (o : Obj) : (w.alloc o).heap.size = w.heap.size + 1 := by
 show (w.heap.push o).size = _
 simp
theorem zqi (w : World) (a : Addr) (v : Value) : (w.setCell a v).heap.size = w.heap.size := by
 show (w.heap.modify _ _).size = _
 simp
theorem zq3 (w : World) (a : Addr) (v : Value) (b : Nat) (h : b ≠ a.block) : (w.setCell a v).heap[b]? = w.heap[b]? := by
 show (w.heap.modify _ _)[b]? = _
 rw [Array.getElem?_modify, if_neg (fun e => h e.symm)]
theorem zqh (w : World) (b off : Nat) (v : Value) {c : Array Value} {e : TypeId} {f : Nat × Nat} (h : w.heap[b]? = some (.cells c e f)) : (w.setCell ⟨b, off, none⟩ v).heap[b]? = some (.cells (c.setIfInBounds off v) e f) := by
 show (w.heap.modify _ _)[b]? = _
 rw [Array.getElem?_modify, if_pos rfl, h]
 rfl
theorem zq0 {w : World} {b off : Nat} {c : Array Value} {e : TypeId} {f : Nat × Nat} (h : w.heap[b]? = some (.cells c e f)) : w.cell? ⟨b, off, none⟩ = c[off]? := by
 simp [World.cell?, h]
theorem zqg {w : World} {b off : Nat} {c : Array Value} {e : TypeId} (h : w.heap[b]? = some (.cells c e)) : w.frozen? ⟨b, off, none⟩ = false := by
 simp [World.frozen?, h]
theorem zqf {w w' : World} {a : Addr} (h : w'.heap[a.block]? = w.heap[a.block]?) : w'.cell? a = w.cell? a := by
 simp [World.cell?, h]
theorem frozen_of_same {w w' : World} {a : Addr} (h : w'.heap[a.block]? = w.heap[a.block]?) : w'.frozen? a = w.frozen? a := by
 simp [World.frozen?, h]
theorem zq4 {w : World} {b : Nat} {o : Obj} (h : w.heap[b]? = some o) : b < w.heap.size := (Array.getElem?_eq_some_iff.1 h).1
theorem heap_setChan_ne (w : World) (c cap : Nat) (buf : Array Value) (cl : Bool) (s r : Nat) (tm : Bool) (b : Nat) (h : b ≠ c) : (w.setChan c cap buf cl s r tm).heap[b]? = w.heap[b]? := by
 show (w.heap.setIfInBounds _ _)[b]? = _
 rw [al_gn (fun e => h e.symm)]
theorem size_setChan (w : World) (c cap : Nat) (buf : Array Value) (cl : Bool) (s r : Nat) (tm : Bool) : (w.setChan c cap buf cl s r tm).heap.size = w.heap.size := by
 show (w.heap.setIfInBounds _ _).size = _
 simp
end Go.Car
set_option maxHeartbeats 1000000
set_option maxRecDepth 100000
namespace Go.Proofs
open Go Go.Conc Go.RowKit Go.Car
open Go.ConcN (upd upd_ne upd_same)
noncomputable def bot : Frame := botF Try.prog
def callRun (bT i : Nat) (tv : Value) : Deferred := { target := .fn (.func 34) #[], args := #[.pointer (some ⟨bT, 0, none⟩), .int .i64 i, tv] }
theorem born_run (bT i : Nat) (tv : Value) (w : World) : stepG Try.prog false (born Try.prog (callRun bT i tv)) w =
 .go (G ((baseD 34).at (enterAct Try.f34 #[.pointer (some ⟨bT, 0, none⟩), .int .i64 i, tv]) [.code (Try.f34.body.getD .skip)]) [bot]) w #[] := by
 simp [born, callRun, stepG, unwind, callDeferred, invoke, callFunc, Try.func34, Try.f34, seen, GStep.after, G, Frame.enter, Frame.at, baseD, bot, botF, enterAct]
structure RunW (n bT i : Nat) (whole : Bool) (w : World) : Prop where
 t : w.heap[n]? = some (.cells #[.pointer (some ⟨bT, 0, none⟩)] 91)
 i : w.heap[n + 1]? = some (.cells #[.int .i64 i] 3)
 whole : w.heap[n + 2]? = some (.cells #[.bool whole] 4)
def run1 (n : Nat) : Deferred := { target := .fn (.func 46) #[.pointer (some ⟨n, 0, none⟩), .pointer (some ⟨n + 2, 0, none⟩), .pointer (some ⟨n + 1, 0, none⟩)], args := #[] }
noncomputable def runAt (n bT i : Nat) (tv : Value) (todo : List Item) : Frame :=
 (baseD 34).at ⟨#[.pointer (some ⟨bT, 0, none⟩), .int .i64 i, tv, .pointer (some ⟨n, 0, none⟩), .pointer (some ⟨n + 1, 0, none⟩), undef, .pointer (some ⟨n + 2, 0, none⟩), .func (.func 46) #[] #[.pointer (some ⟨n, 0, none⟩), .pointer (some ⟨n + 2, 0, none⟩), .pointer (some ⟨n + 1, 0, none⟩)], undef, undef, undef, undef, undef, undef, undef, undef, undef, undef, undef, undef], [run1 n]⟩ todo
noncomputable def runRest : Code := match Try.f34.body with | some (.seq _ (.seq _ (.seq _ c))) => c | _ => .skip
theorem run_starts {Kc : Addr → Option Value} {J : Goroutine → World → Prop} (hJ : JX Try.prog Kc J) {bT i : Nat} {tv : Value} {w : World}
 (hK : ∀ a v, Kc a = some v → a.block < w.heap.size)
 (hnext : ∀ w', RunW w.heap.size bT i false w' → w'.heap.size = w.heap.size + 3 → (∀ b, b < w.heap.size → w'.heap[b]? = w.heap[b]?) → J (G (runAt w.heap.size bT i tv [.code runRest]) [bot]) w') : J (born Try.prog (callRun bT i tv)) w := by
 refine hJ.step () _ w rfl fun τ d => ⟨_, _, #[], born_run bT i tv _, OkD.refl _ _ _, by simp, ?_⟩
 refine hJ.re' () _ w τ d ?_
 simp only [Try.f34, enterAct, al_od, List.size_toArray, List.length_cons, List.length_nil, Nat.reduceAdd, Nat.reduceSub, Array.replicate_succ, Array.replicate_zero, List.push_toArray, List.append_toArray, List.nil_append, List.cons_append]
 refine hJ.ctl (s := ()) (fun w => stepG_seq) ?_
 refine hJ.ctl (s := ()) (fun w => stepG_region) ?_
 refine at_piece (J := fun (_ : Unit) => J) (s := ()) (by decide) hJ (rows0_none _) true (.inl rfl) 0 2 0 rfl rfl rfl (by rfl) ?_
 intro τ d
 simp only [List.drop_zero, List.drop_succ_cons, List.take_succ_cons, List.take_zero]
 go_wp2
 simp only [contAt, re_alloc]
 refine hJ.re' () _ _ τ d ?_
 simp only [List.range'_zero]
 refine hJ.ctl (s := ()) (fun w => stepG_region_end) ?_
 refine hJ.ctl (s := ()) (fun w => stepG_seq) ?_
 refine hJ.ctl (s := ()) (fun w => stepG_region) ?_
 refine at_piece (J := fun (_ : Unit) => J) (s := ()) (by decide) hJ (rows0_none _) true (.inl rfl) 0 1 1 rfl rfl rfl (by rfl) ?_
 intro τ d
 simp only [List.drop_zero, List.drop_succ_cons, List.take_succ_cons, List.take_zero]
 go_wp2
 simp only [contAt, re_alloc]
 refine hJ.re' () _ _ τ d ?_
 generalize hw1 : (((w.alloc (Obj.cells #[Value.pointer (some { block := bT, off := 0 })] 91)).alloc (Obj.cells #[Value.int IntKind.i64 i] 3))).alloc (Obj.cells #[Value.bool false] 4) = w1
 have f0 : w1.heap[w.heap.size]? = some (.cells #[.pointer (some ⟨bT, 0, none⟩)] 91) := by subst hw1; simp only [zqa, zq6]; rw [if_neg (by omega), if_neg (by omega), if_pos trivial]
 have f1 : w1.heap[w.heap.size + 1]? = some (.cells #[.int .i64 i] 3) := by subst hw1; simp only [zqa, zq6]; rw [if_neg (by omega), if_pos trivial]
 have f2 : w1.heap[w.heap.size + 1 + 1]? = some (.cells #[.bool false] 4) := by subst hw1; simp only [zqa, zq6]; rw [if_pos trivial]
 have f3 : w1.heap.size = w.heap.size + 3 := by subst hw1; simp only [zq6]
 have f4 : ∀ b, b < w.heap.size → w1.heap[b]? = w.heap[b]? := fun b hb => by subst hw1; simp only [zqa, zq6]; rw [if_neg (by omega), if_neg (by omega), if_neg (by omega)]
 refine at_store (J := fun (_ : Unit) => J) (s := ()) (i := 1) (rest := []) (by decide) hJ rfl rfl (ad := ⟨w.heap.size + 1 + 1, 0, none⟩) rfl (fun j _ => free_block (fun y hy => ?_) j) ⟨_, _, _, f2⟩ ?_
 · cases hky : Kc y with
   | none => rfl
   | some v => have := hK y v hky; have hy' : y.block = w.heap.size + 1 + 1 := hy; omega
 intro τ d
 have g1 : w1.cell? ⟨w.heap.size + 1 + 1, 0, none⟩ = some (.bool false) := by exact (zq0 f2).trans rfl
 have g2 : w1.frozen? ⟨w.heap.size + 1 + 1, 0, none⟩ = false := zqg f2
 go_wp2
 simp only [contAt, re_setCell]
 refine hJ.re' () _ _ τ d ?_
 have g3 := zqh w1 (w.heap.size + 1 + 1) 0 (Value.bool false) f2
 have g4 : ∀ b, b ≠ w.heap.size + 1 + 1 → (w1.setCell ⟨w.heap.size + 1 + 1, 0, none⟩ (.bool false)).heap[b]? = w1.heap[b]? := fun b hb => zq3 _ _ _ _ hb
 have g5 : (w1.setCell ⟨w.heap.size + 1 + 1, 0, none⟩ (.bool false)).heap.size = w.heap.size + 3 := by rw [zqi, f3]
 generalize w1.setCell ⟨w.heap.size + 1 + 1, 0, none⟩ (.bool false) = w2 at g3 g4 g5 ⊢
 refine hJ.ctl (s := ()) (fun w => stepG_region_end) ?_
 refine hJ.ctl (s := ()) (fun w => stepG_seq) ?_
 refine hJ.ctl (s := ()) (fun w => stepG_region) ?_
 refine at_piece (J := fun (_ : Unit) => J) (s := ()) (by decide) hJ (rows0_none _) true (.inl rfl) 0 1 1 rfl rfl rfl (by rfl) ?_
 intro τ d
 simp only [List.drop_zero, List.drop_succ_cons, List.take_succ_cons, List.take_zero]
 go_wp2
 simp only [contAt, re_alloc]
 refine hJ.re' () _ _ τ d ?_
 refine at_defer (J := fun (_ : Unit) => J) (s := ()) (i := 1) (rest := []) (d := run1 w.heap.size) (by decide) hJ rfl rfl (fun w => by simp [go_sem, execOp, Act.eval, run1]) (fun w => by simp [go_sem, execOp, Act.eval]) ?_
 refine hJ.ctl (s := ()) (fun w => stepG_region_end) ?_
 refine hnext w2 ⟨?_, ?_, g3⟩ g5 fun b hb => ?_
 · rw [g4 _ (by omega)]; exact f0
 · rw [g4 _ (by omega)]; exact f1
 · rw [g4 _ (by omega)]; exact f4 b hb
@[go_sem] theorem neq_func (f : Fn) (a b : Array Value) (w : World) : (binOp .neq 60 (.func f a b) .nilFunc).run Try.prog w = .ok (.bool true) w := by rfl
@[go_sem] theorem neq_nil (w : World) : (binOp .neq 60 .nilFunc .nilFunc).run Try.prog w = .ok (.bool false) w := by rfl
structure StandW (bT bS N cap i st : Nat) (w : World) : Prop where
 stands : w.cell? ⟨bT, 1, none⟩ = some (.slice (some ⟨bS, 0, none⟩) N cap)
 lt : i < N
 stand : w.cell? ⟨bS, i, none⟩ = some (.pointer (some ⟨st, 0, none⟩))
noncomputable def runCall (n bT bS N cap i st : Nat) (tv : Value) (todo : List Item) : Frame :=
 (baseD 34).at ⟨#[.pointer (some ⟨bT, 0, none⟩), .int .i64 i, tv, .pointer (some ⟨n, 0, none⟩), .pointer (some ⟨n + 1, 0, none⟩), undef, .pointer (some ⟨n + 2, 0, none⟩), .func (.func 46) #[] #[.pointer (some ⟨n, 0, none⟩), .pointer (some ⟨n + 2, 0, none⟩), .pointer (some ⟨n + 1, 0, none⟩)],
  tv, .bool true, tv, .pointer (some ⟨bT, 0, none⟩), .pointer (some ⟨bT, 0, none⟩), .pointer (some ⟨bT, 1, none⟩), .slice (some ⟨bS, 0, none⟩) N cap, .int .i64 i, .pointer (some ⟨bS, i, none⟩), .pointer (some ⟨st, 0, none⟩), .iface 96 (.pointer (some ⟨st, 0, none⟩)), undef], [run1 n]⟩ todo
noncomputable def ops4 : Array Oper := match Try.f34.body with | some (.seq _ (.seq _ (.seq _ (.seq (.seq _ (.cond _ (.region _ ops _) _)) _)))) => ops | _ => #[]
noncomputable def code5 : Code := match Try.f34.body with | some (.seq _ (.seq _ (.seq _ (.seq _ c)))) => c | _ => .skip
theorem run_calls {Kc : Addr → Option Value} {J : Goroutine → World → Prop} (hJ : JX Try.prog Kc J) {n bT bS N cap i st : Nat} {f : FuncId} {fn : Func} {c : Code} {first caps : Array Value} {w : World}
 (hf : Try.prog.funcs[f]? = some fn) (hb : fn.body = some c) (hnm : (fn.name == "runtime.NumGoroutine") = false)
 (hR : RunW n bT i false w) (hS : StandW bT bS N cap i st w)
 (hnext : J (G (Frame.enter Try.prog f (first ++ #[.iface 96 (.pointer (some ⟨st, 0, none⟩))] ++ caps) .normal) [runCall n bT bS N cap i st (.func (.func f) first caps) [.inRegion ops4 [9], .code code5], bot]) w) :
 J (G (runAt n bT i (.func (.func f) first caps) [.code runRest]) [bot]) w := by
 obtain ⟨r1, r2, r3⟩ := hR
 obtain ⟨s1, s2, s3⟩ := hS
 simp only [runAt, runRest, Try.f34]
 refine hJ.ctl (s := ()) (fun w => stepG_seq) ?_
 refine hJ.ctl (s := ()) (fun w => stepG_seq) ?_
 refine hJ.ctl (s := ()) (fun w => stepG_region) ?_
 refine at_piece (J := fun (_ : Unit) => J) (s := ()) (by decide) hJ (rows0_none _) true (.inl rfl) 0 2 0 rfl rfl rfl (by rfl) ?_
 intro τ d
 simp only [List.drop_zero, List.drop_succ_cons, List.take_succ_cons, List.take_zero]
 go_wp2
 simp only [contAt]
 refine hJ.re' () _ _ τ d ?_
 refine hJ.ctl (s := ()) (fun w => stepG_region_end) ?_
 refine hJ.ctl (s := ()) (fun w => stepG_cond (t := true) rfl) ?_
 simp only [if_true]
 refine at_draw (J := fun (_ : Unit) => J) (s := ()) hJ (by decide) (by rfl) [.func (.func f) first caps, .pointer (some ⟨bT, 0, none⟩), .pointer (some ⟨bT, 0, none⟩), .pointer (some ⟨bT, 1, none⟩), .slice (some ⟨bS, 0, none⟩) N cap, .int .i64 i, .pointer (some ⟨bS, i, none⟩), .pointer (some ⟨st, 0, none⟩), .iface 96 (.pointer (some ⟨st, 0, none⟩))] (by kernel_rfl) ?_ ?_
 · intro τ d
   have hi' : (i : Int) < N := by omega
   have hi0 : (0 : Int) ≤ i := by omega
   have c1 := (zq0 (off := 0) r1).trans rfl
   have c2 := (zq0 (off := 0) r2).trans rfl
   have z1 : w.frozen? ⟨n, 0, none⟩ = false := zqg r1
   simp only [evals, putv, dstOf, al_gl, al_g0, al_g1, al_ob, al_g2, List.set_cons_succ, List.set_cons_zero]
   refine ⟨?_, ?_, ?_, ?_, ?_, ?_, ?_, ?_, ?_, trivial⟩ <;> (intro o ho; simp only [al_oi] at ho; subst ho)
   all_goals (simp only [execOp, Act.eval, al_gd, al_gl, al_g0, al_g1, al_od])
   all_goals (try go_simp)
 · simp only [putv, dstOf, al_gl, al_g0, al_g1, al_ob, al_g2, List.set_cons_succ, List.set_cons_zero, Nat.reduceAdd, Nat.zero_add, List.length_cons, List.length_nil]
   refine at_call (J := fun (_ : Unit) => J) (s := ()) (by decide) hJ rfl rfl (f := f) (args := first ++ #[.iface 96 (.pointer (some ⟨st, 0, none⟩))] ++ caps) (fun τ d => ?_) (fun τ d => ?_) ?_
   · have hnm' : ¬ fn.name = "runtime.NumGoroutine" := by simpa using hnm
     simp [go_sem, execOp, Act.eval, resolve, Deferred.ofValue, invoke, callFunc, hf, hb, hnm']
   · have hnm' : ¬ fn.name = "runtime.NumGoroutine" := by simpa using hnm
     intro e he
     simp [go_sem, execOp, Act.eval, resolve, Deferred.ofValue, invoke, callFunc, hf, hb, hnm', Sem.runT_eq] at he
   · exact hnext
end Go.Proofs
set_option maxHeartbeats 1000000
namespace Go.Car
open Go Go.Conc Go.RowKit
section
variable {P : Program} {main : Bool} {Kc : Addr → Option Value} {γ : Type} {J : γ → Goroutine → World → Prop}
theorem at_recover_none {b : Frame} {k : List Item} {c : Frame} {cs : List Frame} (hb : b.kind = .deferred) (hc : c.mode = .returning) (hJ : JS P main Kc J) {ops : Array Oper} {i : Nat} {rest : List Nat} {o : Oper} {s : γ} {a : Act} {w : World}
 (ho : ops[i]? = some o) (hw : Region.wanted o (yielded ops a.tmps) = true) (hr : ∀ w, (execOp a.eval o).run P w = .ok .recover w) (he : ∀ w, (execOp a.eval o).events P w #[] = #[])
 (h : J s (G (b.at (a.put o.dst .nilIface) (.inRegion ops rest :: k)) (c :: cs)) w) : J s (G (b.at a (.inRegion ops (i :: rest) :: k)) (c :: cs)) w := by
 have hfin : ∀ v, (b.at a (.inRegion ops (i :: rest) :: k)).finish v = b.at (a.put o.dst v) (.inRegion ops rest :: k) := fun v => by rw [Frame.finish_at, ho]; rfl
 refine hJ.step _ _ _ rfl fun τ d => ⟨G (b.at (a.put o.dst .nilIface) (.inRegion ops rest :: k)) (c :: cs), re w τ d, #[], ?_, OkD.refl _ _ _, by simp, hJ.re' _ _ _ τ d h⟩
 rw [stepG_oper ho hw, ← hfin]
 simp [stepG.apply, hr, he, G, Frame.at, hb, GStep.after, seen_none, tryRecover, hc, Sem.runT_eq]
theorem at_recover_some {b : Frame} {k : List Item} {c : Frame} {cs : List Frame} {v : Value} {older : List PanicEntry} (hb : b.kind = .deferred) (hc : c.mode = .panicking ({ v, recovered := false } :: older)) (hJ : JS P main Kc J) {ops : Array Oper} {i : Nat} {rest : List Nat} {o : Oper} {s : γ} {a : Act} {w : World}
 (ho : ops[i]? = some o) (hw : Region.wanted o (yielded ops a.tmps) = true) (hr : ∀ w, (execOp a.eval o).run P w = .ok .recover w) (he : ∀ w, (execOp a.eval o).events P w #[] = #[])
 (h : J s (G (b.at (a.put o.dst v) (.inRegion ops rest :: k)) ({ c with mode := .panicking ({ v, recovered := true } :: older) } :: cs)) w) : J s (G (b.at a (.inRegion ops (i :: rest) :: k)) (c :: cs)) w := by
 have hfin : ∀ v, (b.at a (.inRegion ops (i :: rest) :: k)).finish v = b.at (a.put o.dst v) (.inRegion ops rest :: k) := fun v => by rw [Frame.finish_at, ho]; rfl
 refine hJ.step _ _ _ rfl fun τ d => ⟨G (b.at (a.put o.dst v) (.inRegion ops rest :: k)) ({ c with mode := .panicking ({ v, recovered := true } :: older) } :: cs), re w τ d, #[], ?_, OkD.refl _ _ _, by simp, hJ.re' _ _ _ τ d h⟩
 rw [stepG_oper ho hw, ← hfin]
 simp [stepG.apply, hr, he, G, Frame.at, hb, GStep.after, seen_none, tryRecover, hc, Sem.runT_eq]
theorem at_unwind {b : Frame} {a : Act} {todo : List Item} {cs : List Frame} {md : FrameMode} {f : FuncId} {fn : Func} {c : Code} {args caps : Array Value} {ds : List Deferred} {s : γ} {w : World} (hJ : JS P main Kc J)
 (hm : md = .returning ∨ ∃ ch, md = .panicking ch) (hd : a.defers = { target := .fn (.func f) caps, args := args } :: ds) (hf : P.funcs[f]? = some fn) (hn : (fn.name == "runtime.NumGoroutine") = false) (hb : fn.body = some c)
 (h : J s (G ((baseD f).at (enterAct fn (args ++ caps)) [.code c]) ({ b.at ⟨a.tmps, ds⟩ todo with mode := md } :: cs)) w) : J s (G { b.at a todo with mode := md } cs) w := by
 have hn' : ¬ fn.name = "runtime.NumGoroutine" := by simpa using hn
 have e : (baseD f).at (enterAct fn (args ++ caps)) [.code c] = Frame.enter P f (args ++ caps) .deferred := (enter_atD _ hf hb).symm
 rw [e] at h
 refine hJ.step _ _ _ rfl fun τ d => ⟨_, re w τ d, #[], ?_, OkD.refl _ _ _, by simp, hJ.re' _ _ _ τ d h⟩
 rcases hm with rfl | ⟨ch, rfl⟩ <;> simp [G, stepG, unwind, callDeferred, Frame.at, hd, invoke, callFunc, hf, hn', hb, GStep.after, seen_none, Sem.runT_eq]
end
end Go.Car
