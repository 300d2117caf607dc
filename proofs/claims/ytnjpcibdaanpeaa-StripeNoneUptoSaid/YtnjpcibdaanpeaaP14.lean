/- YtnjpcibdaanpeaaSNone6: part 14 of the proof (the texts behind it, in order). -/
import Derived.Test.YtnjpcibdaanpeaaP13
set_option linter.unusedSimpArgs false
set_option linter.unusedVariables false
set_option linter.unusedSectionVars false
set_option linter.unnecessarySimpa false
set_option maxHeartbeats 1000000
namespace Go.Car
open Go Go.Conc Go.RowKit
open Go.ConcN (upd upd_ne upd_same)
def chkW (ops : Array Oper) (n : Nat) : Bool :=
 (List.range ops.size).all (fun i => match ops[i]? with
  | some o => o.guard.isNone && (match o.dst with | some d => decide (d < n) | none => true)
  | none => false) &&
 (List.range ops.size).all (fun i => (List.range i).all fun j => (dstOf ops i).isNone || dstOf ops i != dstOf ops j)
def noD (ops : Array Oper) (t : Tmp) : Bool := ops.all fun o => o.dst != some t
theorem noD_iff {ops : Array Oper} {t : Tmp} (h : noD ops t = true) : ∀ j, dstOf ops j ≠ some t := fun j hd => by
 unfold dstOf at hd
 cases ho : ops[j]? with
 | none => rw [ho] at hd; cases hd
 | some o =>
  rw [ho] at hd
  simp only [al_ob] at hd
  unfold noD at h
  rw [Array.all_eq_true_iff_forall_mem] at h
  have := h o (Array.mem_of_getElem? ho)
  simp [hd] at this
section
variable {P : Program} {main : Bool} {γ : Type} {J : γ → Goroutine → World → Prop}
def DrawS (P : Program) (J : γ → Goroutine → World → Prop) (s : γ) (T : Array Value) (o : Oper) (w : World) (K : Value → World → Prop) (K0 : World → Prop) : Prop :=
 (okOp P (fun _ => false) o.op = true ∧ ((∃ d v w', o.dst = some d ∧ (execOp (Act.mk T []).eval o).run P w = .ok (.value v) w' ∧ K v w') ∨ (o.dst = none ∧ ∃ w', (execOp (Act.mk T []).eval o).run P w = .ok .skip w' ∧ K0 w'))) ∨
 (∃ d f args, o.dst = some d ∧ (∀ w, (execOp (Act.mk T []).eval o).run P w = .ok (.enter f args) w) ∧ (∀ w, (execOp (Act.mk T []).eval o).events P w #[] = #[]) ∧ CallsJ P J f args (fun s' e w' => s' = s ∧ ∃ v, e = .returned v ∧ K v w') s w)
theorem at_drawsV (hJ : JS P main (fun _ => none) J) {b : Frame} {k : List Item} {cs : List Frame} (hb : b.kind ≠ .early) (hm : P.follows .mixedOrders = true) {id : Nat} {ops : Array Oper} {T₀ : Array Value} {ds : List Deferred} {s : γ} {w : World} (hback : backOkJ ops = true) (hchk : chkW ops T₀.size = true)
 (W : (Nat → Bool) → List Value → World → Prop) (hWre : ∀ L v w τ d, W L v w → W L v (re w τ d)) (v₀ : List Value) (hv₀ : v₀.length = ops.size) (hW : W (fun _ => false) v₀ w)
 (hstep : ∀ (L : Nat → Bool) (vals : List Value) (T : Array Value) (w : World) (i : Nat) (o : Oper), vals.length = ops.size → W L vals w → L i = false → ops[i]? = some o → (∀ e ∈ o.after, Region.binds .any e = true → L e.on = true) →
  (∀ j t, dstOf ops j = some t → L j = true → T[t]? = vals[j]?) → (∀ t, noD ops t = true → T[t]? = T₀[t]?) →
  DrawS P J s T o w (fun v w' => W (upd L i true) (vals.set i v) w') (fun w' => W (upd L i true) vals w'))
 (hend : ∀ L vals w, (∀ i, i < ops.size → L i = true) → vals.length = ops.size → W L vals w → J s (G (b.at ⟨putv ops vals 0 T₀, ds⟩ (.inRegion ops [] :: k)) cs) w) : J s (G (b.at ⟨T₀, ds⟩ (.code (.region id ops true) :: k)) cs) w := by
 unfold chkW at hchk
 simp only [Bool.and_eq_true, List.all_eq_true, List.mem_range] at hchk
 obtain ⟨h1, h2⟩ := hchk
 have plain : ∀ (i : Nat) (o : Oper), ops[i]? = some o → o.guard = none ∧ (∀ d, o.dst = some d → d < T₀.size) := fun i o ho => by
  have := h1 i (Array.getElem?_eq_some_iff.1 ho).1
  rw [ho] at this
  simp only [Bool.and_eq_true] at this
  obtain ⟨a1, a2⟩ := this
  refine ⟨Option.isNone_iff_eq_none.1 a1, fun d hd => ?_⟩
  rw [hd] at a2; simpa using a2
 have dlt : ∀ i d, dstOf ops i = some d → i < ops.size ∧ d < T₀.size := fun i d hd => by
  unfold dstOf at hd
  cases ho : ops[i]? with
  | none => rw [ho] at hd; cases hd
  | some o => rw [ho] at hd; exact ⟨(Array.getElem?_eq_some_iff.1 ho).1, (plain i o ho).2 d hd⟩
 have apart : ∀ (i j : Nat) (d : Tmp), dstOf ops i = some d → dstOf ops j = some d → i = j := fun i j d hd hd' => by
  rcases Nat.lt_trichotomy i j with h | h | h
  · have := h2 j (dlt j d hd').1 i h; rw [hd, hd'] at this; simp at this
  · exact h
  · have := h2 i (dlt i d hd).1 j h; rw [hd, hd'] at this; simp at this
 have final : ∀ (vals : List Value), vals.length = ops.size → ∀ i x, dstOf ops i = some x → (putv ops vals 0 T₀)[x]? = vals[i]? := fun vals hlen i x hd => by
  obtain ⟨hi, hlt⟩ := dlt i x hd
  rw [List.getElem?_eq_getElem (by omega)]
  refine putv_at vals 0 _ i _ x (List.getElem?_eq_getElem (by omega)) (by rw [Nat.zero_add]; exact hd) hlt fun m a b e => ?_
  have := apart m i x e hd
  omega
 let I : (Nat → Bool) → Array Value → World → Prop := fun L T w => ∃ vals : List Value, vals.length = ops.size ∧ W L vals w ∧ T.size = T₀.size ∧ (∀ t, (∀ j, dstOf ops j ≠ some t) → T[t]? = T₀[t]?) ∧ ∀ j t, dstOf ops j = some t → L j = true → T[t]? = vals[j]?
 refine at_drawsJ hJ hb hm I hback (fun L T w τ d ⟨vals, a1, a2, a3⟩ => ⟨vals, a1, hWre _ _ _ _ _ a2, a3⟩) ⟨v₀, hv₀, hW, rfl, fun _ _ => rfl, fun _ _ _ h => (by cases h)⟩ ?_ ?_
 · rintro L T w i o ⟨vals, hlen, hw, hsz, hout, hin⟩ hLi ho hdep rest hnext
   obtain ⟨hg, hdo⟩ := plain i o ho
   have hil : i < ops.size := (Array.getElem?_eq_some_iff.1 ho).1
   have hst0 := fun w hw => hstep L vals T w i o hlen hw hLi ho hdep hin fun t ht => hout t (noD_iff ht)
   have hwan : Region.wanted o (yielded ops T) = true := by simp [Region.wanted, hg]
   have value : ∀ d v w', o.dst = some d → W (upd L i true) (vals.set i v) w' → I (upd L i true) (T.setIfInBounds d v) w' := fun d v w' hd hW' => by
    have hdi : dstOf ops i = some d := by unfold dstOf; rw [ho]; exact hd
    refine ⟨vals.set i v, by simpa using hlen, hW', by simpa using hsz, fun t ht => ?_, fun j t hdj hl => ?_⟩
    · have : d ≠ t := fun e => ht i (e ▸ hdi)
      rw [al_gn this]; exact hout t ht
    · by_cases e : j = i
      · subst e
        rw [hdi] at hdj
        obtain rfl := Option.some.inj hdj
        have : d < T.size := by rw [hsz]; exact hdo d hd
        have hjl : j < vals.length := by omega
        simp [this, hjl]
      · have hdt : d ≠ t := fun e2 => by subst e2; exact e (apart j i d hdj hdi)
        rw [upd_ne _ _ e] at hl
        rw [al_gn hdt, List.getElem?_set_ne (fun e2 => e e2.symm), hin j t hdj hl]
   have skip : ∀ w', o.dst = none → W (upd L i true) vals w' → I (upd L i true) T w' := fun w' hd hW' => by
    refine ⟨vals, hlen, hW', hsz, hout, fun j t hdj hl => ?_⟩
    have e : j ≠ i := fun e => by
     subst e
     unfold dstOf at hdj; rw [ho] at hdj; simp only [al_ob] at hdj; rw [hd] at hdj; cases hdj
    rw [upd_ne _ _ e] at hl
    exact hin j t hdj hl
   rcases hst0 w hw with ⟨hok, hpl⟩ | ⟨d, f, args, hd, hrun, hev, hcall⟩
   · have hst := fun τ dd => hst0 (re w τ dd) (hWre _ _ _ τ dd hw)
     cases hdst : o.dst with
     | some d =>
      refine at_opF hJ hb ho hok hwan hdst fun τ dd => ?_
      rcases hst τ dd with ⟨_, ⟨d', v, w', hd', hr, hI'⟩ | ⟨hd', _⟩⟩ | ⟨d', f, args, hd', hrun, hev, hcall⟩
      · exact ⟨v, w', hr, hnext _ _ (value d v w' hdst hI')⟩
      · rw [hdst] at hd'; cases hd'
      · exfalso
        rcases hpl with ⟨_, v, w', _, hr, _⟩ | ⟨hd', _⟩
        · rw [hrun] at hr; cases hr
        · rw [hdst] at hd'; cases hd'
     | none =>
      refine at_skipF hJ hb ho hok hwan hdst fun τ dd => ?_
      rcases hst τ dd with ⟨_, ⟨d', v, w', hd', _⟩ | ⟨hd', w', hr, hI'⟩⟩ | ⟨d', f, args, hd', _⟩
      · rw [hdst] at hd'; cases hd'
      · exact ⟨w', hr, hnext _ _ (skip w' hdst hI')⟩
      · rw [hdst] at hd'; cases hd'
   · have hrun' : ∀ w, (execOp (Act.mk T ds).eval o).run P w = .ok (.enter f args) w := hrun
     refine at_call hb hJ ho hwan (fun τ dd => hrun' (re w τ dd)) (fun τ dd e he => ?_) ?_
     · rw [Sem.runT_eq, show (execOp (Act.mk T ds).eval o).events P (re w τ dd) #[] = #[] from hev _] at he
       simp at he
     · refine hcall _ _ ?_ ?_
       · rintro s' v w' ⟨rfl, v', e, hW'⟩
         cases e
         rw [Frame.finish_at, ho]
         have hp : (Act.mk T ds).put o.dst v = ⟨T.setIfInBounds d v, ds⟩ := by rw [hd]; rfl
         simp only [al_ob]
         have := hnext _ _ (value d v w' hd hW')
         simpa [hp] using this
       · rintro s' ch w' ⟨_, v, e, _⟩
         cases e
 · rintro L T w hall ⟨vals, hlen, hw, hsz, hout, hin⟩
   have : T = putv ops vals 0 T₀ := by
    apply Array.ext_getElem?
    intro x
    by_cases hx : ∃ j, dstOf ops j = some x
    · obtain ⟨j, hdj⟩ := hx
      rw [hin j x hdj (hall j (dlt j x hdj).1), final vals hlen j x hdj]
    · have hno : ∀ j, dstOf ops j ≠ some x := fun j hd => hx ⟨j, hd⟩
      rw [hout x hno]
      exact (putv_out vals 0 _ x fun j _ _ => hno j).symm
   rw [this]
   exact hend L vals w hall hlen hw
end
end Go.Car
set_option maxHeartbeats 1000000
set_option maxRecDepth 100000
namespace Go.Proofs
open Go Go.Conc Go.RowKit Go.Car
section
variable {Ml S α : Type} {C : Core Ml S} {ro : Nat → Option Obj} {i : Nat}
theorem seq_callsR {main : Bool} {Kc : Addr → Option Value} {J : Goroutine → World → Prop} (hJ : JS Try.prog main Kc (fun (_ : Unit) => J)) (hC : CalmJ Try.prog main (fun (_ : Unit) => J)) {f : FuncId} {args : Array Value} {p : Proc S α} {rel : α → Value → (Nat → Option Obj) → Prop} {m₀ : BM Ml} {w₀ : World} (hrep : BRep C ro m₀ w₀) (hT : ∃ a, (p.run (C.st m₀.l)).2.1 = some a) (cf : Nat)
 (hspec : SpecR (seqSys plainM hJ hC C ro i cf m₀ w₀ (p.run (C.st m₀.l))) f args p rel) {cl : Frame} {cs : List Frame}
 (hq : ∀ a v X m' w', rel a v X → m'.box i = orB X (m₀.box i) → LoneAt C ro i cf m₀ w₀ (p.run (C.st m₀.l)) m' w' (C.st m'.l, .ret a) → J (G (cl.finish v) cs) w') : J (G (Frame.enter Try.prog f args .normal) (cl :: cs)) w₀ := by
 have h0 : LoneAt C ro i cf m₀ w₀ (p.run (C.st m₀.l)) m₀ w₀ (p.bind Proc.ret (C.st m₀.l)) := by
  rw [Proc.bind_pure]
  exact ⟨hrep, Nat.le_refl _, fun _ _ _ => rfl, fun _ h => .inl h, ⟨_, rfl, hT, rfl⟩, fun _ _ => rfl⟩
 refine hspec Proc.ret () (m₀.box i) w₀ (fun _ => trivial) ⟨m₀, rfl, h0, trivial⟩ cl cs ?_ ?_
 · rintro s' v w' ⟨a, X, hr, _, m', hb, hL, _⟩
   exact hq a v X m' w' hr hb hL
 · intro s' ch w' hf
   exact hf.elim
end
theorem j0_JU {Fin : Machine → Trace → Prop} (hFin : Back Try.prog Fin) (n : Nat) : JS Try.prog true (fun _ => none) (fun (_ : Unit) => J0 Try.prog Fin n) := ⟨fun _ g w τ d h => (j0_JS hFin).re' n g w τ d h, fun _ g w h1 h2 => (j0_JS hFin).step n g w h1 h2⟩
theorem j0_CU {Fin : Machine → Trace → Prop} (hFin : Back Try.prog Fin) (n : Nat) : CalmJ Try.prog true (fun (_ : Unit) => J0 Try.prog Fin n) := fun _ fr cs w h => j0_calm hFin n fr cs w h
def doA (N : Nat) (op : OpX) (l : List Int) : Ans := ((doP N op : Proc (List Int × Unit) Ans).run (l, ())).2.1.getD Ans.none
def doL (N : Nat) (op : OpX) (l : List Int) : List Int := ((doP N op : Proc (List Int × Unit) Ans).run (l, ())).1.1
theorem Tree.run_deep {σ α : Type} : ∀ (t : Tree σ α) (s : σ), (∀ k, t.Deep k) → ∃ a, (t.run s).2.1 = some a := by
 intro t
 induction t with
 | ret a => intro s _; exact ⟨a, rfl⟩
 | out => intro s h; exact (h 1).elim
 | step u k ih => intro s h; exact ih s (u s) fun n => h (n + 1) s
theorem do_some (N : Nat) (op : OpX) (l : List Int) : ((doP N op : Proc (List Int × Unit) Ans).run (l, ())).2.1 = some (doA N op l) := by
 obtain ⟨a, h⟩ := Tree.run_deep ((doP N op : Proc (List Int × Unit) Ans) (l, ())).2 _ (fun k => doP_deep N k op (l, ()))
 unfold doA
 have h' : ((doP N op : Proc (List Int × Unit) Ans).run (l, ())).2.1 = some a := h
 rw [h']
 rfl
def ansPV (a : Ans) : Value := .agg #[.bool a.ok, .int .i64 a.n, .slice none 0 0]
theorem call_cntJ {Fin : Machine → Trace → Prop} (hFin : Back Try.prog Fin) {n cb : Nat} {z : Option Nat} {N : Nat} {l : List Int} {w : World} (op : OpX) (h : StrRep cb z N l w) {cl : Frame} {cs : List Frame}
 (hq : ∀ w', (doA N op l).l = [] → StrAft cb z N (doL N op l) w w' → J0 Try.prog Fin n (G (cl.finish (ansPV (doA N op l))) cs) w') : J0 Try.prog Fin n (G (Frame.enter Try.prog 14 #[.pointer (some ⟨cb, 0, none⟩), .nilIface, op.val] .normal) (cl :: cs)) w := by
 have hJ := j0_JU hFin n
 have hC := j0_CU hFin n
 have hpos := h.pos
 have hle := h.le
 refine seq_callsR (J := J0 Try.prog Fin n) (C := prodCore (strCore cb z N) unitCore) (ro := fun _ => none) (i := 0) (p := doP N op) (m₀ := ⟨(l, ()), fun _ _ => none⟩) (rel := AnsP) hJ hC ⟨⟨h, trivial, fun b _ hb => hb⟩, fun i b o h => (by cases h), fun b o h => (by cases h), fun i b h => absurd rfl h, fun i j b _ h => absurd rfl h, fun b h => absurd rfl h, fun i b h => rfl⟩ ⟨_, do_some N op l⟩ 0 ?_ ?_
 · have hat : StrAtoms (seqSys plainM hJ hC (prodCore (strCore cb z N) unitCore) (fun _ => none) 0 0 ⟨(l, ()), fun _ _ => none⟩ w ((doP N op : Proc (List Int × Unit) Ans).run ((prodCore (strCore cb z N) unitCore).st (l, ())))) .nilIface := atoms_of_alone _ (fun _ _ _ _ => trivial) (fun _ _ _ => trivial) hpos hle (step_nil _ _ _ _ _)
   exact call_spec _ (pA := addP N) (pS := sumP N) (pT := takeP N) (pM := moveP N) (pE := evenP N) (fun a v => (add_spec _ hat a v).spec) (sum_spec _ hat).spec (take_spec _ hat).spec (fun a b v => (move_spec _ hat a b v).spec) (even_spec _ hat).spec op
 · rintro a v X m' w' ⟨rfl, hl, rfl⟩ _ hL
   obtain ⟨n', h1, _, _⟩ := hL.run
   simp only [Tree.run, Prod.mk.injEq] at h1
   obtain ⟨h1, h2, rfl⟩ := h1
   have e1 : a = doA N op l := Option.some.inj (h2.trans (do_some N op l))
   subst e1
   have e2 : m'.l.1 = doL N op l := congrArg Prod.fst h1
   refine hq w' hl ⟨e2 ▸ hL.rep.core.1, hL.size, fun b hb h6 h7 => hL.old b hb ?_⟩
   rintro (((h8 | h8) | h8) | h9 | h9)
   · exact h6 h8
   · exact h7 h8
   · exact h8.elim
   · exact h9.elim fun i h => absurd rfl h
   · exact absurd rfl h9
section
variable {Fin : Machine → Trace → Prop} {n : Nat} {w : World}
theorem unit_rep (w : World) : BRep unitCore (fun _ => none) ⟨(), fun _ _ => none⟩ w := ⟨trivial, fun i b o h => (by cases h), fun b o h => (by cases h), fun i b h => absurd rfl h, fun i j b _ h => absurd rfl h, fun b h => absurd rfl h, fun i b h => rfl⟩
theorem unit_foot (b : Nat) : ¬ BM.foot unitCore (fun _ => none) ⟨(), fun _ _ => none⟩ b := by
 rintro (h | h | h)
 · exact h
 · exact h.elim fun i h => absurd rfl h
 · exact absurd rfl h
theorem call_nonJ (hFin : Back Try.prog Fin) (op : OpX) {cl : Frame} {cs : List Frame} (hq : ∀ v w', Beyond w w' → J0 Try.prog Fin n (G (cl.finish v) cs) w') : J0 Try.prog Fin n (G (Frame.enter Try.prog 14 #[.pointer none, .nilIface, op.val] .normal) (cl :: cs)) w := by
 have hJ := j0_JU hFin n
 have hC := j0_CU hFin n
 refine seq_callsR (J := J0 Try.prog Fin n) (C := unitCore) (ro := fun _ => none) (i := 0) (p := callP (fun _ _ => Proc.ret 0) (Proc.ret 0) (Proc.ret 0) (fun _ _ _ => Proc.ret ()) (Proc.ret (0, false)) op) (m₀ := ⟨(), fun _ _ => none⟩) (rel := AnsP) hJ hC (unit_rep w) ?_ 0 (call_spec _ (fun a v => (add_none _ _ a v).spec) (sum_none _ _).spec (take_none _ _).spec (fun a b v => (move_none _ _ a b v).spec) (even_none _ _).spec op) ?_
 · unfold callP
   repeat' split
   all_goals exact ⟨_, rfl⟩
 · rintro a v X m' w' _ _ hL
   exact hq v w' ⟨hL.size, fun b hb => hL.old b hb (unit_foot b)⟩
theorem nonJ (hFin : Back Try.prog Fin) {α : Type} {f : FuncId} {args : Array Value} {val : α → Value} {a : α} (hspec : ∀ Y : YSys Try.prog aM unitCore (fun _ => none) 0 α, SpecB Y f args (Proc.ret a) val) {cl : Frame} {cs : List Frame} (hq : ∀ w', Beyond w w' → J0 Try.prog Fin n (G (cl.finish (val a)) cs) w') : J0 Try.prog Fin n (G (Frame.enter Try.prog f args .normal) (cl :: cs)) w := by
 refine seq_calls (C := unitCore) (ro := fun _ => none) (i := 0) (p := Proc.ret a) (val := val) (m₀ := ⟨(), fun _ _ => none⟩) plainM (j0_JU hFin n) (j0_CU hFin n) (unit_rep w) ⟨_, rfl⟩ 0 (hspec _).spec ?_
 intro a' m' w' _ hL
 obtain ⟨n', h1, _, _⟩ := hL.run
 simp only [Tree.run, Prod.mk.injEq] at h1
 obtain ⟨h1, h2, rfl⟩ := h1
 have e1 : a' = a := Option.some.inj h2
 subst e1
 exact hq w' ⟨hL.size, fun b hb => hL.old b hb (unit_foot b)⟩
end
end Go.Proofs
set_option maxHeartbeats 8000000
set_option maxRecDepth 100000
namespace Go.Proofs
open Go Go.Conc Go.RowKit Go.Car
open Go.ConcN (upd upd_ne upd_same)
def OpsIn (w : World) (v : Value) (ops : List OpX) : Prop := ∃ p C, v = .slice p ops.length C ∧ (ops ≠ [] → ∃ b o, p = some ⟨b, o, none⟩ ∧ ∀ k op, ops[k]? = some op → ∀ j x, op.cells[j]? = some x → w.cell? ⟨b, o + k * 4 + j, none⟩ = some x)
noncomputable def snT (n : Nat) : Code := tailN n (Try.f6.body.getD .skip)
structure SnF (W : World) (S0 c0 c1 mb : Nat) (l : List Int) (w : World) : Prop where
 be : Beyond W w
 zero : StrRep c0 none 1 l w
 one : StrRep c1 (some mb) 1 l w
 lo : W.heap.size ≤ c0 ∧ W.heap.size ≤ c1 ∧ W.heap.size ≤ mb
 hi : c0 < S0 ∧ c1 < S0 ∧ mb < S0 ∧ S0 ≤ w.heap.size
 ne : c0 ≠ c1 ∧ c0 ≠ mb
theorem SnF.re {W : World} {S0 c0 c1 mb : Nat} {l : List Int} {w : World} (h : SnF W S0 c0 c1 mb l w) (τ : Nat → Question → Nat) (d : Nat) : SnF W S0 c0 c1 mb l (Go.Car.re w τ d) := ⟨h.be.trans (Beyond.re _ _ _), (strCore _ _ _).frame _ _ _ h.zero fun _ _ => rfl, (strCore _ _ _).frame _ _ _ h.one fun _ _ => rfl, h.lo, h.hi, h.ne⟩
theorem SnF.beyond {W : World} {S0 c0 c1 mb : Nat} {l : List Int} {w w' : World} (h : SnF W S0 c0 c1 mb l w) (hb : Beyond w w') : SnF W S0 c0 c1 mb l w' :=
 ⟨h.be.trans hb, (strCore _ _ _).frame _ _ _ h.zero fun b hf => hb.2 b ((strCore _ _ _).lt _ _ _ h.zero hf), (strCore _ _ _).frame _ _ _ h.one fun b hf => hb.2 b ((strCore _ _ _).lt _ _ _ h.one hf), h.lo, ⟨h.hi.1, h.hi.2.1, h.hi.2.2.1, Nat.le_trans h.hi.2.2.2 hb.1⟩, h.ne⟩
def cSeqL : Code → Code
 | .seq a _ => a
 | c => c
def cSeqR : Code → Code
 | .seq _ a => a
 | c => c
def cBlk : Code → Code
 | .block _ a => a
 | c => c
def cLoop : Code → Code
 | .loop a => a
 | c => c
noncomputable def snB : Code := cLoop (cBlk (cSeqR (headC (snT 4))))
noncomputable def snI : Code := cBlk (cSeqL (cSeqR snB))
noncomputable def snU (n : Nat) : Code := tailN n snI
theorem sn0 : Try.f6.body.getD .skip = .seq (headC (snT 0)) (.seq (headC (snT 1)) (.seq (headC (snT 2)) (.seq (headC (snT 3)) (.seq (headC (snT 4)) (snT 5))))) := by kernel_rfl
theorem snI0 : snI = .seq (headC (snU 0)) (.seq (headC (snU 1)) (.seq (headC (snU 2)) (.seq (headC (snU 3)) (snU 4)))) := by kernel_rfl
theorem sn_nil {Fin : Machine → Trace → Prop} (hFin : Back Try.prog Fin) {s : Nat} {b : Frame} (hb : b.kind ≠ .early) {k : List Item} {cs : List Frame} {W w : World} {S0 K g go L C j : Nat} {l : List Int} {op : OpX} {x1 x7 x8 x9 x10 x11 x12 x13 x14 x15 x20 x21 x22 x23 x24 x25 x26 x27 x28 x29 x30 x31 x32 x33 x34 x35 x36 x37 x38 x39 x40 x41 x42 x43 x44 x45 x46 x47 x48 x49 x50 x51 x52 x53 x54 x55 x56 x57 x58 x59 x60 x61 x62 x63 x64 x65 x66 x67 x68 x69 x70 x71 x72 x73 x74 x75 x76 x77 x78 x79 x80 x81 x82 x83 x84 x85 x86 x87 x88 x89 x90 x91 x92 x93 x94 x95 x96 x97 x98 x99 : Value}
 (hF : SnF W S0 K (K + 2) (K + 1) l w) (HO : RowKit.Hid (j < L ∧ L ≤ 4611686018427387904 ∧ ∀ w', Beyond W w' → ∀ i x, op.cells[i]? = some x → w'.cell? ⟨g, go + j * 4 + i, none⟩ = some x))
 (hq : ∀ (y1 y7 y8 y9 y10 y11 y12 y13 y14 y15 y16 y17 y18 y19 y20 y21 y22 y23 y24 y25 y26 y27 y28 y29 y30 y31 y32 y33 y34 y35 y36 y37 y38 y39 y40 y41 y42 y43 y44 y45 y46 y47 y48 y49 y50 y51 y52 y53 y54 y55 y56 y57 y58 y59 y60 y61 y62 y63 y64 y65 y66 y67 y68 y69 y70 y71 y72 y73 y74 y75 y76 y77 y78 y79 y80 y81 y82 y83 y84 y85 y86 y87 y88 y89 y90 y91 y92 y93 y94 y95 y96 y97 y98 y99 : Value) w', SnF W S0 K (K + 2) (K + 1) l w' → J0 Try.prog Fin s (G (b.at ⟨#[.slice (some ⟨g, go, none⟩) L C, y1, .bool false, .pointer none, .pointer (some ⟨K, 0, none⟩), .pointer (some ⟨K + 2, 0, none⟩), .int .i64 j, y7, y8, y9, y10, y11, y12, y13, y14, y15, y16, y17, y18, y19, y20, y21, y22, y23, y24, y25, y26, y27, y28, y29, y30, y31, y32, y33, y34, y35, y36, y37, y38, y39, y40, y41, y42, y43, y44, y45, y46, y47, y48, y49, y50, y51, y52, y53, y54, y55, y56, y57, y58, y59, y60, y61, y62, y63, y64, y65, y66, y67, y68, y69, y70, y71, y72, y73, y74, y75, y76, y77, y78, y79, y80, y81, y82, y83, y84, y85, y86, y87, y88, y89, y90, y91, y92, y93, y94, y95, y96, y97, y98, y99], []⟩ (.code (.seq (headC (snU 3)) (snU 4)) :: k)) cs) w') :
 J0 Try.prog Fin s (G (b.at ⟨#[.slice (some ⟨g, go, none⟩) L C, x1, .bool false, .pointer none, .pointer (some ⟨K, 0, none⟩), .pointer (some ⟨K + 2, 0, none⟩), .int .i64 j, x7, x8, x9, x10, x11, x12, x13, x14, x15, .int .i64 j, .slice (some ⟨g, go, none⟩) L C, .int .i64 L, .bool true, x20, x21, x22, x23, x24, x25, x26, x27, x28, x29, x30, x31, x32, x33, x34, x35, x36, x37, x38, x39, x40, x41, x42, x43, x44, x45, x46, x47, x48, x49, x50, x51, x52, x53, x54, x55, x56, x57, x58, x59, x60, x61, x62, x63, x64, x65, x66, x67, x68, x69, x70, x71, x72, x73, x74, x75, x76, x77, x78, x79, x80, x81, x82, x83, x84, x85, x86, x87, x88, x89, x90, x91, x92, x93, x94, x95, x96, x97, x98, x99], []⟩ (.code snI :: k)) cs) w := by
 have hJ := j0_JS hFin
 have hC := j0_calm hFin
 have HQ := Lib.hid hq
 clear hq
 rw [snI0]
 have hlt' : (j : Int) < (L : Int) := by have := HO.out.1; omega
 have hj0 : (0 : Int) ≤ j := by omega
 refine hJ.ctl (s := s) (fun w => stepG_seq) ?_
 obtain ⟨u0, hu0⟩ : ∃ c, headC (snU 0) = c := ⟨_, rfl⟩
 have eu0 := hu0
 rw [hu0]
 simp only [snU, snI, cSeqL, cSeqR, cBlk, cLoop, snT, headC, tailN, Try.f6, al_od] at eu0
 subst eu0
 clear hu0
 refine hJ.ctl (s := s) (fun w => stepG_region) ?_
 refine at_piece (s := s) hb hJ (zqe _) false (.inr rfl) 0 5 1 rfl rfl rfl (by rfl) ?_
 intro τ d
 simp only [List.drop_succ_cons, List.drop_zero, List.take_succ_cons, List.take_zero]
 have k0 : (re w τ d).cell? ⟨g, go + j * 4, none⟩ = some (.int .i64 op.k) := HO.out.2.2 w hF.be 0 _ rfl
 have k1 : (re w τ d).cell? ⟨g, go + j * 4 + 1, none⟩ = some (.int .i64 op.a) := HO.out.2.2 w hF.be 1 _ rfl
 have k2 : (re w τ d).cell? ⟨g, go + j * 4 + 2, none⟩ = some (.int .i64 op.b) := HO.out.2.2 w hF.be 2 _ rfl
 have k3 : (re w τ d).cell? ⟨g, go + j * 4 + 3, none⟩ = some (.int .i64 op.c) := HO.out.2.2 w hF.be 3 _ rfl
 go_wp2
 simp only [contAt]
 refine hJ.re' s _ _ τ d ?_
 clear k0 k1 k2 k3 hlt' hj0
 refine at_call hb hJ (s := s) rfl rfl (f := 14) (args := #[.pointer none, .nilIface, op.val]) (fun τ d => ?_) (fun τ d => ?_) ?_
 · simp [go_sem, execOp, Act.eval, resolve, Deferred.ofValue, invoke, callFunc, Try.func14, Try.f14, OpX.val]
 · intro e he
   simp [go_sem, execOp, Act.eval, resolve, Deferred.ofValue, invoke, callFunc, Try.func14, Try.f14, OpX.val, Sem.runT_eq] at he
 refine call_nonJ hFin op ?_
 intro v27 w' hb'
 replace hF := hF.beyond hb'
 clear hb'
 clear w
 rename World => w
 rw [Frame.finish_at]
 walk_nrm
 refine hJ.ctl (s := s) (fun w => stepG_region_end) ?_
 refine hJ.ctl (s := s) (fun w => stepG_seq) ?_
 obtain ⟨u1, hu1⟩ : ∃ c, headC (snU 1) = c := ⟨_, rfl⟩
 have eu1 := hu1
 rw [hu1]
 simp only [snU, snI, cSeqL, cSeqR, cBlk, cLoop, snT, headC, tailN, Try.f6, al_od] at eu1
 subst eu1
 clear hu1
 refine hJ.ctl (s := s) (fun w => stepG_region) ?_
 refine at_piece (s := s) hb hJ (zqe _) false (.inr rfl) 0 1 6 rfl rfl rfl (by rfl) ?_
 intro τ d
 simp only [List.drop_succ_cons, List.drop_zero, List.take_succ_cons, List.take_zero]
 go_wp2
 simp only [contAt]
 refine hJ.re' s _ _ τ d ?_
 refine at_call hb hJ (s := s) rfl rfl (f := 20) (args := #[.pointer none, .nilIface]) (fun τ d => ?_) (fun τ d => ?_) ?_
 · simp [go_sem, execOp, Act.eval, resolve, Deferred.ofValue, invoke, callFunc, Try.func20, Try.f20, OpX.val]
 · intro e he
   simp [go_sem, execOp, Act.eval, resolve, Deferred.ofValue, invoke, callFunc, Try.func20, Try.f20, OpX.val, Sem.runT_eq] at he
 refine nonJ hFin (a := ((0 : Int), false)) (fun Y => even_none Y .nilIface) ?_
 intro w' hb'
 replace hF := hF.beyond hb'
 clear hb'
 clear w
 rename World => w
 unfold evenV
 rw [Frame.finish_at]
 walk_nrm
 refine at_piece (s := s) hb hJ (zqe _) false (.inr rfl) 2 5 0 rfl rfl rfl (by rfl) ?_
 intro τ d
 simp only [List.drop_succ_cons, List.drop_zero, List.take_succ_cons, List.take_zero]
 go_wp2
 simp only [contAt]
 refine hJ.re' s _ _ τ d ?_
 refine hJ.ctl (s := s) (fun w => stepG_region_end) ?_
 refine hJ.ctl (s := s) (fun w => stepG_seq) ?_
 obtain ⟨u2, hu2⟩ : ∃ c, headC (snU 2) = c := ⟨_, rfl⟩
 have eu2 := hu2
 rw [hu2]
 simp only [snU, snI, cSeqL, cSeqR, cBlk, cLoop, snT, headC, tailN, Try.f6, al_od] at eu2
 subst eu2
 clear hu2
 refine hJ.ctl (s := s) (fun w => stepG_seq) ?_
 refine hJ.ctl (s := s) (fun w => stepG_region) ?_
 refine at_piece (s := s) hb hJ (zqe _) false (.inr rfl) 0 7 29 rfl rfl rfl (by rfl) ?_
 intro τ d
 simp only [List.drop_succ_cons, List.drop_zero, List.take_succ_cons, List.take_zero]
 go_wp2
 simp only [contAt]
 refine hJ.re' s _ _ τ d ?_
 refine at_call hb hJ (s := s) rfl rfl (f := 21) (args := #[.pointer none, .nilIface, .int .i64 0, .int .i64 5]) (fun τ d => ?_) (fun τ d => ?_) ?_
 · simp [go_sem, execOp, Act.eval, resolve, Deferred.ofValue, invoke, callFunc, Try.func21, Try.f21, OpX.val]
 · intro e he
   simp [go_sem, execOp, Act.eval, resolve, Deferred.ofValue, invoke, callFunc, Try.func21, Try.f21, OpX.val, Sem.runT_eq] at he
 refine nonJ hFin (fun Y => add_none Y .nilIface 0 5) ?_
 intro w' hb'
 replace hF := hF.beyond hb'
 clear hb'
 clear w
 rename World => w
 rw [Frame.finish_at]
 walk_nrm
 refine at_piece (s := s) hb hJ (zqe _) false (.inr rfl) 8 4 24 rfl rfl rfl (by rfl) ?_
 intro τ d
 simp only [List.drop_succ_cons, List.drop_zero, List.take_succ_cons, List.take_zero]
 go_wp2
 simp only [contAt]
 refine hJ.re' s _ _ τ d ?_
 refine at_call hb hJ (s := s) rfl rfl (f := 22) (args := #[.pointer none, .nilIface]) (fun τ d => ?_) (fun τ d => ?_) ?_
 · simp [go_sem, execOp, Act.eval, resolve, Deferred.ofValue, invoke, callFunc, Try.func22, Try.f22, OpX.val]
 · intro e he
   simp [go_sem, execOp, Act.eval, resolve, Deferred.ofValue, invoke, callFunc, Try.func22, Try.f22, OpX.val, Sem.runT_eq] at he
 refine nonJ hFin (fun Y => sum_none Y .nilIface) ?_
 intro w' hb'
 replace hF := hF.beyond hb'
 clear hb'
 clear w
 rename World => w
 rw [Frame.finish_at]
 walk_nrm
 refine at_piece (s := s) hb hJ (zqe _) false (.inr rfl) 13 4 19 rfl rfl rfl (by rfl) ?_
 intro τ d
 simp only [List.drop_succ_cons, List.drop_zero, List.take_succ_cons, List.take_zero]
 go_wp2
 simp only [contAt]
 refine hJ.re' s _ _ τ d ?_
 refine at_call hb hJ (s := s) rfl rfl (f := 23) (args := #[.pointer none, .nilIface]) (fun τ d => ?_) (fun τ d => ?_) ?_
 · simp [go_sem, execOp, Act.eval, resolve, Deferred.ofValue, invoke, callFunc, Try.func23, Try.f23, OpX.val]
 · intro e he
   simp [go_sem, execOp, Act.eval, resolve, Deferred.ofValue, invoke, callFunc, Try.func23, Try.f23, OpX.val, Sem.runT_eq] at he
 refine nonJ hFin (fun Y => take_none Y .nilIface) ?_
 intro w' hb'
 replace hF := hF.beyond hb'
 clear hb'
 clear w
 rename World => w
 rw [Frame.finish_at]
 walk_nrm
 refine at_piece (s := s) hb hJ (zqe _) false (.inr rfl) 18 4 14 rfl rfl rfl (by rfl) ?_
 intro τ d
 simp only [List.drop_succ_cons, List.drop_zero, List.take_succ_cons, List.take_zero]
 go_wp2
 simp only [contAt]
 refine hJ.re' s _ _ τ d ?_
 refine at_call hb hJ (s := s) rfl rfl (f := 13) (args := #[.pointer none]) (fun τ d => ?_) (fun τ d => ?_) ?_
 · simp [go_sem, execOp, Act.eval, resolve, Deferred.ofValue, invoke, callFunc, Try.func13, Try.f13, OpX.val]
 · intro e he
   simp [go_sem, execOp, Act.eval, resolve, Deferred.ofValue, invoke, callFunc, Try.func13, Try.f13, OpX.val, Sem.runT_eq] at he
 refine at_calls_lone hJ hC plainM Try.func13 rfl (by kernel_rfl) (R := fun v w' => v = .int .i64 0 ∧ SnF W S0 K (K + 2) (K + 1) l w') (fun v w' τ d h => ⟨h.1, h.2.re τ d⟩) (fun τ d => Calls.mono (stripes_none _) ?_) ?_
 · rintro e w' ⟨rfl, rfl⟩
   exact ⟨_, rfl, rfl, hF.re τ d⟩
 clear hF
 clear w
 rintro _ w ⟨rfl, hF⟩
 rw [Frame.finish_at]
 walk_nrm
 refine at_piece (s := s) hb hJ (zqe _) false (.inr rfl) 23 4 9 rfl rfl rfl (by rfl) ?_
 intro τ d
 simp only [List.drop_succ_cons, List.drop_zero, List.take_succ_cons, List.take_zero]
 go_wp2
 simp only [contAt]
 refine hJ.re' s _ _ τ d ?_
 refine at_call hb hJ (s := s) rfl rfl (f := 18) (args := #[.pointer none]) (fun τ d => ?_) (fun τ d => ?_) ?_
 · simp [go_sem, execOp, Act.eval, resolve, Deferred.ofValue, invoke, callFunc, Try.func18, Try.f18, OpX.val]
 · intro e he
   simp [go_sem, execOp, Act.eval, resolve, Deferred.ofValue, invoke, callFunc, Try.func18, Try.f18, OpX.val, Sem.runT_eq] at he
 refine at_calls_lone hJ hC plainM Try.func18 rfl (by kernel_rfl) (R := fun v w' => v = .int .i64 0 ∧ SnF W S0 K (K + 2) (K + 1) l w') (fun v w' τ d h => ⟨h.1, h.2.re τ d⟩) (fun τ d => Calls.mono (total_none _) ?_) ?_
 · rintro e w' ⟨rfl, rfl⟩
   exact ⟨_, rfl, rfl, hF.re τ d⟩
 clear hF
 clear w
 rintro _ w ⟨rfl, hF⟩
 rw [Frame.finish_at]
 walk_nrm
 refine at_piece (s := s) hb hJ (zqe _) false (.inr rfl) 28 4 4 rfl rfl rfl (by rfl) ?_
 intro τ d
 simp only [List.drop_succ_cons, List.drop_zero, List.take_succ_cons, List.take_zero]
 go_wp2
 simp only [contAt]
 refine hJ.re' s _ _ τ d ?_
 refine at_call hb hJ (s := s) rfl rfl (f := 17) (args := #[.pointer none]) (fun τ d => ?_) (fun τ d => ?_) ?_
 · simp [go_sem, execOp, Act.eval, resolve, Deferred.ofValue, invoke, callFunc, Try.func17, Try.f17, OpX.val]
 · intro e he
   simp [go_sem, execOp, Act.eval, resolve, Deferred.ofValue, invoke, callFunc, Try.func17, Try.f17, OpX.val, Sem.runT_eq] at he
 refine at_calls_lone hJ hC plainM Try.func17 rfl (by kernel_rfl) (R := fun v w' => v = .slice none 0 0 ∧ SnF W S0 K (K + 2) (K + 1) l w') (fun v w' τ d h => ⟨h.1, h.2.re τ d⟩) (fun τ d => Calls.mono (all_none _) ?_) ?_
 · rintro e w' ⟨rfl, rfl⟩
   exact ⟨_, rfl, rfl, hF.re τ d⟩
 clear hF
 clear w
 rintro _ w ⟨rfl, hF⟩
 rw [Frame.finish_at]
 walk_nrm
 refine at_piece (s := s) hb hJ (zqe _) false (.inr rfl) 33 3 0 rfl rfl rfl (by rfl) ?_
 intro τ d
 simp only [List.drop_succ_cons, List.drop_zero, List.take_succ_cons, List.take_zero]
 go_wp2
 simp only [contAt]
 refine hJ.re' s _ _ τ d ?_
 refine hJ.ctl (s := s) (fun w => stepG_region_end) ?_
 refine hJ.ctl (s := s) (fun w => stepG_cond (t := false) rfl) ?_
 rw [if_neg (by decide)]
 refine hJ.ctl (s := s) (fun w => stepG_skip) ?_
 exact HQ.out _ _ _ _ _ _ _ _ _ _ _ _ _ _ _ _ _ _ _ _ _ _ _ _ _ _ _ _ _ _ _ _ _ _ _ _ _ _ _ _ _ _ _ _ _ _ _ _ _ _ _ _ _ _ _ _ _ _ _ _ _ _ _ _ _ _ _ _ _ _ _ _ _ _ _ _ _ _ _ _ _ _ _ _ _ _ _ _ _ _ _ _ _ _ w hF
def snSp (K : Nat) (ops el : Value) (j : Int) (opv av : Value) (b9 b10 : Nat) : Nat → Value
 | 0 => .pointer (some ⟨K, 0, none⟩)
 | 1 => ops
 | 2 => .int .i64 j
 | 3 => el
 | 4 => opv
 | 5 => av
 | 6 => .pointer (some ⟨K + 2, 0, none⟩)
 | 7 => ops
 | 8 => .int .i64 j
 | 9 => el
 | 10 => opv
 | 11 => av
 | 12 => .pointer (some ⟨b9, 0, none⟩)
 | 13 => .pointer (some ⟨b10, 0, none⟩)
 | _ => undef
def ansCs (t : Bool) (a : Ans) : Array Value := if t then #[.bool a.ok, .int .i64 a.n, .slice none 0 0] else #[.bool false, .int .i64 0, .slice none 0 0]
structure SnM (W : World) (S0 K : Nat) (l l' : List Int) (a : Ans) (L : Nat → Bool) (b9 b10 : Nat) (w : World) : Prop where
 be : Beyond W w
 zero : StrRep K none 1 (if L 5 = true then l' else l) w
 one : StrRep (K + 2) (some (K + 1)) 1 (if L 11 = true then l' else l) w
 lo : W.heap.size ≤ K ∧ K + 2 < S0 ∧ S0 ≤ w.heap.size
 m9 : L 12 = true → S0 ≤ b9 ∧ w.heap[b9]? = some (.cells (ansCs (L 14) a) 43)
 m10 : L 13 = true → S0 ≤ b10 ∧ w.heap[b10]? = some (.cells (ansCs (L 15) a) 43)
 ne : L 12 = true → L 13 = true → b9 ≠ b10
 d14 : L 14 = true → L 12 = true
 d15 : L 15 = true → L 13 = true
theorem upd_keep {L : Nat → Bool} {i a b : Nat} (h : L a = true → L b = true) (hi : i ≠ a) (x : upd L i true a = true) : upd L i true b = true := by
 by_cases e : b = i
 · subst e; exact upd_same _ _ _
 · rw [upd_ne _ _ (fun y => hi y.symm)] at x
   rw [upd_ne _ _ e]; exact h x
def SnW (W : World) (S0 K : Nat) (ops el : Value) (j : Int) (opv av : Value) (l l' : List Int) (a : Ans) (L : Nat → Bool) (vals : List Value) (w : World) : Prop :=
 ∃ b9 b10, (∀ i, i < 14 → L i = true → vals[i]? = some (snSp K ops el j opv av b9 b10 i)) ∧ SnM W S0 K l l' a L b9 b10 w
section
variable {W w w' : World} {S0 K b9 b10 : Nat} {ops el opv av : Value} {j : Int} {l l' : List Int} {a : Ans} {L : Nat → Bool} {vals : List Value}
theorem SnM.re (h : SnM W S0 K l l' a L b9 b10 w) (τ : Nat → Question → Nat) (d : Nat) : SnM W S0 K l l' a L b9 b10 (Go.Car.re w τ d) :=
 ⟨h.be.trans (Beyond.re _ _ _), (strCore _ _ _).frame _ _ _ h.zero fun _ _ => rfl, (strCore _ _ _).frame _ _ _ h.one fun _ _ => rfl, h.lo, h.m9, h.m10, h.ne, h.d14, h.d15⟩
theorem SnW.re (h : SnW W S0 K ops el j opv av l l' a L vals w) (τ : Nat → Question → Nat) (d : Nat) : SnW W S0 K ops el j opv av l l' a L vals (Go.Car.re w τ d) := by
 obtain ⟨b9, b10, h1, h2⟩ := h
 exact ⟨b9, b10, h1, h2.re τ d⟩
theorem sp_set (hlen : vals.length = 16) (hv : ∀ i, i < 14 → L i = true → vals[i]? = some (snSp K ops el j opv av b9 b10 i)) {i : Nat} (hi : i < 14) {v : Value} {c9 c10 : Nat} (hs : v = snSp K ops el j opv av c9 c10 i) (h9 : i = 12 ∨ c9 = b9) (h10 : i = 13 ∨ c10 = b10) (hL : L i = false) :
 ∀ m, m < 14 → upd L i true m = true → (vals.set i v)[m]? = some (snSp K ops el j opv av c9 c10 m) := fun m hm hl => by
 by_cases e : m = i
 · subst e
   rw [List.getElem?_set_self (by omega), hs]
 · rw [upd_ne _ _ e] at hl
   rw [List.getElem?_set_ne (fun e2 => e e2.symm), hv m hm hl]
   congr 1
   rcases h9 with rfl | rfl
   · rcases h10 with h | rfl
     · omega
     · match m, e with
       | 0, _ => rfl
       | 1, _ => rfl
       | 2, _ => rfl
       | 3, _ => rfl
       | 4, _ => rfl
       | 5, _ => rfl
       | 6, _ => rfl
       | 7, _ => rfl
       | 8, _ => rfl
       | 9, _ => rfl
       | 10, _ => rfl
       | 11, _ => rfl
       | 12, e => exact absurd rfl e
       | 13, _ => rfl
       | n + 14, _ => rfl
   · rcases h10 with rfl | rfl
     · match m, e with
       | 0, _ => rfl
       | 1, _ => rfl
       | 2, _ => rfl
       | 3, _ => rfl
       | 4, _ => rfl
       | 5, _ => rfl
       | 6, _ => rfl
       | 7, _ => rfl
       | 8, _ => rfl
       | 9, _ => rfl
       | 10, _ => rfl
       | 11, _ => rfl
       | 12, _ => rfl
       | 13, e => exact absurd rfl e
       | n + 14, _ => rfl
     · rfl
theorem SnW.read (hlen : vals.length = 16) (hv : ∀ i, i < 14 → L i = true → vals[i]? = some (snSp K ops el j opv av b9 b10 i)) (hM : SnM W S0 K l l' a L b9 b10 w) {i : Nat} (hi : i < 14) (h5 : i ≠ 5) (h11 : i ≠ 11) (h12 : i ≠ 12) (h13 : i ≠ 13) (hL : L i = false) {v : Value} (hs : v = snSp K ops el j opv av b9 b10 i) : SnW W S0 K ops el j opv av l l' a (upd L i true) (vals.set i v) w := by
 refine ⟨b9, b10, sp_set hlen hv hi hs (.inr rfl) (.inr rfl) hL, ?_⟩
 have e : ∀ m, m ≠ i → upd L i true m = L m := fun m hm => upd_ne _ _ hm
 refine ⟨hM.be, ?_, ?_, hM.lo, ?_, ?_, ?_, fun x => ?_, fun x => ?_⟩
 · rw [e 5 (fun x => h5 x.symm)]; exact hM.zero
 · rw [e 11 (fun x => h11 x.symm)]; exact hM.one
 · rw [e 12 (fun x => h12 x.symm), e 14 (by omega)]; exact hM.m9
 · rw [e 13 (fun x => h13 x.symm), e 15 (by omega)]; exact hM.m10
 · rw [e 12 (fun x => h12 x.symm), e 13 (fun x => h13 x.symm)]; exact hM.ne
 · exact upd_keep hM.d14 (by omega) x
 · exact upd_keep hM.d15 (by omega) x
theorem SnW.call0 (hlen : vals.length = 16) (hv : ∀ i, i < 14 → L i = true → vals[i]? = some (snSp K ops el j opv av b9 b10 i)) (hM : SnM W S0 K l l' a L b9 b10 w) (hL : L 5 = false) (hA : StrAft K none 1 l' w w') : SnW W S0 K ops el j opv av l l' a (upd L 5 true) (vals.set 5 av) w' := by
 refine ⟨b9, b10, sp_set hlen hv (by decide) rfl (.inr rfl) (.inr rfl) hL, ?_⟩
 have e : ∀ m, m ≠ 5 → upd L 5 true m = L m := fun m hm => upd_ne _ _ hm
 have hlo := hM.lo
 have old : ∀ b, b < w.heap.size → b ≠ K → w'.heap[b]? = w.heap[b]? := fun b hb hne => hA.old b hb hne (by simp)
 refine ⟨⟨Nat.le_trans hM.be.1 hA.size, fun b hb => (old b (Nat.lt_of_lt_of_le hb hM.be.1) (by omega)).trans (hM.be.2 b hb)⟩, ?_, ?_, ⟨hlo.1, hlo.2.1, Nat.le_trans hlo.2.2 hA.size⟩, ?_, ?_, ?_, fun x => upd_keep hM.d14 (by decide) x, fun x => upd_keep hM.d15 (by decide) x⟩
 · rw [upd_same, if_pos rfl]; exact hA.rep
 · rw [e 11 (by decide)]
   refine (strCore _ _ _).frame _ _ _ hM.one fun b hb => old b ((strCore _ _ _).lt _ _ _ hM.one hb) ?_
   rcases hb with rfl | hb
   · omega
   · injection hb with hb; omega
 · rw [e 12 (by decide), e 14 (by decide)]
   intro h
   obtain ⟨h1, h2⟩ := hM.m9 h
   exact ⟨h1, (old b9 (heap_lt h2) (by omega)).trans h2⟩
 · rw [e 13 (by decide), e 15 (by decide)]
   intro h
   obtain ⟨h1, h2⟩ := hM.m10 h
   exact ⟨h1, (old b10 (heap_lt h2) (by omega)).trans h2⟩
 · rw [e 12 (by decide), e 13 (by decide)]; exact hM.ne
theorem SnW.call1 (hlen : vals.length = 16) (hv : ∀ i, i < 14 → L i = true → vals[i]? = some (snSp K ops el j opv av b9 b10 i)) (hM : SnM W S0 K l l' a L b9 b10 w) (hL : L 11 = false) (hA : StrAft (K + 2) (some (K + 1)) 1 l' w w') : SnW W S0 K ops el j opv av l l' a (upd L 11 true) (vals.set 11 av) w' := by
 refine ⟨b9, b10, sp_set hlen hv (by decide) rfl (.inr rfl) (.inr rfl) hL, ?_⟩
 have e : ∀ m, m ≠ 11 → upd L 11 true m = L m := fun m hm => upd_ne _ _ hm
 have hlo := hM.lo
 have old : ∀ b, b < w.heap.size → b ≠ K + 2 → b ≠ K + 1 → w'.heap[b]? = w.heap[b]? := fun b hb hne hn2 => hA.old b hb hne (fun e => by injection e with e; exact hn2 e.symm)
 refine ⟨⟨Nat.le_trans hM.be.1 hA.size, fun b hb => (old b (Nat.lt_of_lt_of_le hb hM.be.1) (by omega) (by omega)).trans (hM.be.2 b hb)⟩, ?_, ?_, ⟨hlo.1, hlo.2.1, Nat.le_trans hlo.2.2 hA.size⟩, ?_, ?_, ?_, fun x => upd_keep hM.d14 (by decide) x, fun x => upd_keep hM.d15 (by decide) x⟩
 · rw [e 5 (by decide)]
   refine (strCore _ _ _).frame _ _ _ hM.zero fun b hb => old b ((strCore _ _ _).lt _ _ _ hM.zero hb) ?_ ?_
   · rcases hb with rfl | hb
     · omega
     · cases hb
   · rcases hb with rfl | hb
     · omega
     · cases hb
 · rw [upd_same, if_pos rfl]; exact hA.rep
 · rw [e 12 (by decide), e 14 (by decide)]
   intro h
   obtain ⟨h1, h2⟩ := hM.m9 h
   exact ⟨h1, (old b9 (heap_lt h2) (by omega) (by omega)).trans h2⟩
 · rw [e 13 (by decide), e 15 (by decide)]
   intro h
   obtain ⟨h1, h2⟩ := hM.m10 h
   exact ⟨h1, (old b10 (heap_lt h2) (by omega) (by omega)).trans h2⟩
 · rw [e 12 (by decide), e 13 (by decide)]; exact hM.ne
theorem SnW.new9 (hlen : vals.length = 16) (hv : ∀ i, i < 14 → L i = true → vals[i]? = some (snSp K ops el j opv av b9 b10 i)) (hM : SnM W S0 K l l' a L b9 b10 w) (hL : L 12 = false) (h14 : L 14 = false) : SnW W S0 K ops el j opv av l l' a (upd L 12 true) (vals.set 12 (.pointer (some ⟨w.heap.size, 0, none⟩))) (w.alloc (.cells #[.bool false, .int .i64 0, .slice none 0 0] 43)) := by
 refine ⟨w.heap.size, b10, sp_set hlen hv (by decide) rfl (.inl rfl) (.inr rfl) hL, ?_⟩
 have e : ∀ m, m ≠ 12 → upd L 12 true m = L m := fun m hm => upd_ne _ _ hm
 have hlo := hM.lo
 have hb := Beyond.alloc w (.cells #[.bool false, .int .i64 0, .slice none 0 0] 43)
 refine ⟨hM.be.trans hb, ?_, ?_, ⟨hlo.1, hlo.2.1, Nat.le_trans hlo.2.2 hb.1⟩, fun _ => ⟨hlo.2.2, ?_⟩, ?_, ?_, fun x => upd_keep hM.d14 (by decide) x, fun x => upd_keep hM.d15 (by decide) x⟩
 · rw [e 5 (by decide)]; exact (strCore _ _ _).frame _ _ _ hM.zero fun b h => hb.2 b ((strCore _ _ _).lt _ _ _ hM.zero h)
 · rw [e 11 (by decide)]; exact (strCore _ _ _).frame _ _ _ hM.one fun b h => hb.2 b ((strCore _ _ _).lt _ _ _ hM.one h)
 · rw [e 14 (by decide), h14]; exact al_new _ _
 · rw [e 13 (by decide), e 15 (by decide)]
   intro h
   obtain ⟨h1, h2⟩ := hM.m10 h
   exact ⟨h1, hb.heap h2⟩
 · rw [e 13 (by decide)]
   intro _ h
   obtain ⟨h1, h2⟩ := hM.m10 h
   have := heap_lt h2
   omega
theorem SnW.new10 (hlen : vals.length = 16) (hv : ∀ i, i < 14 → L i = true → vals[i]? = some (snSp K ops el j opv av b9 b10 i)) (hM : SnM W S0 K l l' a L b9 b10 w) (hL : L 13 = false) (h15 : L 15 = false) : SnW W S0 K ops el j opv av l l' a (upd L 13 true) (vals.set 13 (.pointer (some ⟨w.heap.size, 0, none⟩))) (w.alloc (.cells #[.bool false, .int .i64 0, .slice none 0 0] 43)) := by
 refine ⟨b9, w.heap.size, sp_set hlen hv (by decide) rfl (.inr rfl) (.inl rfl) hL, ?_⟩
 have e : ∀ m, m ≠ 13 → upd L 13 true m = L m := fun m hm => upd_ne _ _ hm
 have hlo := hM.lo
 have hb := Beyond.alloc w (.cells #[.bool false, .int .i64 0, .slice none 0 0] 43)
 refine ⟨hM.be.trans hb, ?_, ?_, ⟨hlo.1, hlo.2.1, Nat.le_trans hlo.2.2 hb.1⟩, ?_, fun _ => ⟨hlo.2.2, ?_⟩, ?_, fun x => upd_keep hM.d14 (by decide) x, fun x => upd_keep hM.d15 (by decide) x⟩
 · rw [e 5 (by decide)]; exact (strCore _ _ _).frame _ _ _ hM.zero fun b h => hb.2 b ((strCore _ _ _).lt _ _ _ hM.zero h)
 · rw [e 11 (by decide)]; exact (strCore _ _ _).frame _ _ _ hM.one fun b h => hb.2 b ((strCore _ _ _).lt _ _ _ hM.one h)
 · rw [e 12 (by decide), e 14 (by decide)]
   intro h
   obtain ⟨h1, h2⟩ := hM.m9 h
   exact ⟨h1, hb.heap h2⟩
 · rw [e 15 (by decide), h15]; exact al_new _ _
 · rw [e 12 (by decide)]
   intro h _
   obtain ⟨h1, h2⟩ := hM.m9 h
   have := heap_lt h2
   omega
theorem SnW.put (hlen : vals.length = 16) (hv : ∀ i, i < 14 → L i = true → vals[i]? = some (snSp K ops el j opv av b9 b10 i)) (hM : SnM W S0 K l l' a L b9 b10 w) {i bb : Nat} (hi : (i = 14 ∧ bb = b9 ∧ L 12 = true) ∨ (i = 15 ∧ bb = b10 ∧ L 13 = true)) (hL : L i = false) :
 SnW W S0 K ops el j opv av l l' a (upd L i true) vals (((w.setCell ⟨bb, 0, none⟩ (.bool a.ok)).setCell ⟨bb, 1, none⟩ (.int .i64 a.n)).setCell ⟨bb, 2, none⟩ (.slice none 0 0)) := by
 refine ⟨b9, b10, fun m hm hl => hv m hm (by rwa [upd_ne _ _ (by omega)] at hl), ?_⟩
 have e : ∀ m, m ≠ i → upd L i true m = L m := fun m hm => upd_ne _ _ hm
 have hlo := hM.lo
 have hbb : S0 ≤ bb ∧ w.heap[bb]? = some (.cells #[.bool false, .int .i64 0, .slice none 0 0] 43) := by
  rcases hi with ⟨rfl, rfl, h⟩ | ⟨rfl, rfl, h⟩
  · obtain ⟨h1, h2⟩ := hM.m9 h; rw [hL] at h2; exact ⟨h1, h2⟩
  · obtain ⟨h1, h2⟩ := hM.m10 h; rw [hL] at h2; exact ⟨h1, h2⟩
 have old : ∀ b, b ≠ bb → (((w.setCell ⟨bb, 0, none⟩ (.bool a.ok)).setCell ⟨bb, 1, none⟩ (.int .i64 a.n)).setCell ⟨bb, 2, none⟩ (.slice none 0 0)).heap[b]? = w.heap[b]? := fun b hb => by
  rw [hp_set_ne _ _ _ _ hb, hp_set_ne _ _ _ _ hb, hp_set_ne _ _ _ _ hb]
 have hsz : (((w.setCell ⟨bb, 0, none⟩ (.bool a.ok)).setCell ⟨bb, 1, none⟩ (.int .i64 a.n)).setCell ⟨bb, 2, none⟩ (.slice none 0 0)).heap.size = w.heap.size := by simp only [hp_size_set]
 have new : (((w.setCell ⟨bb, 0, none⟩ (.bool a.ok)).setCell ⟨bb, 1, none⟩ (.int .i64 a.n)).setCell ⟨bb, 2, none⟩ (.slice none 0 0)).heap[bb]? = some (.cells (ansCs true a) 43) :=
  zqf _ _ _ _ (zqf _ _ _ _ (zqf _ _ _ _ hbb.2))
 refine ⟨⟨by rw [hsz]; exact hM.be.1, fun b hb => (old b (by omega)).trans (hM.be.2 b hb)⟩, ?_, ?_, ⟨hlo.1, hlo.2.1, by rw [hsz]; exact hlo.2.2⟩, ?_, ?_, ?_, fun x => ?_, fun x => ?_⟩
 · rw [e 5 (by omega)]
   refine (strCore _ _ _).frame _ _ _ hM.zero fun b h => old b ?_
   rcases h with rfl | h
   · omega
   · cases h
 · rw [e 11 (by omega)]
   refine (strCore _ _ _).frame _ _ _ hM.one fun b h => old b ?_
   rcases h with rfl | h
   · omega
   · injection h with h; omega
 · rw [e 12 (by omega)]
   intro h
   obtain ⟨h1, h2⟩ := hM.m9 h
   refine ⟨h1, ?_⟩
   rcases hi with ⟨rfl, rfl, h3⟩ | ⟨rfl, rfl, h3⟩
   · rw [upd_same]; exact new
   · rw [e 14 (by decide), old _ (hM.ne h h3)]; exact h2
 · rw [e 13 (by omega)]
   intro h
   obtain ⟨h1, h2⟩ := hM.m10 h
   refine ⟨h1, ?_⟩
   rcases hi with ⟨rfl, rfl, h3⟩ | ⟨rfl, rfl, h3⟩
   · rw [e 15 (by decide), old _ (fun x => hM.ne h3 h x.symm)]; exact h2
   · rw [upd_same]; exact new
 · rw [e 12 (by omega), e 13 (by omega)]; exact hM.ne
 · rcases hi with ⟨rfl, _, h3⟩ | ⟨rfl, _, h3⟩
   · rw [e 12 (by decide)]; exact h3
   · exact upd_keep hM.d14 (by decide) x
 · rcases hi with ⟨rfl, _, h3⟩ | ⟨rfl, _, h3⟩
   · exact upd_keep hM.d15 (by decide) x
   · rw [e 13 (by decide)]; exact h3
end
noncomputable def snR : Array Oper := match headC (snU 3) with
 | .region _ ops _ => ops
 | _ => #[]
theorem snR0 : headC (snU 3) = .region 12 snR true := by kernel_rfl
theorem sn_draw {Fin : Machine → Trace → Prop} (hFin : Back Try.prog Fin) {s : Nat} {W : World} {S0 K g go L' C j : Nat} {l : List Int} {op : OpX} {x1 x7 x8 x9 x10 x11 x12 x13 x14 x15 x16 x17 x18 x19 x20 x21 x22 x23 x24 x25 x26 x27 x28 x29 x30 x31 x32 x33 x34 x35 x36 x37 x38 x39 x40 x41 x42 x43 x44 x45 x46 x47 x48 x49 x50 x51 x52 x53 x54 x55 x56 x57 x58 x59 x60 x61 x62 x63 x64 x65 x66 x67 x68 x69 x70 x71 x72 x73 x74 x75 x76 x77 x78 x79 x80 x81 x82 x83 x84 x85 x86 x87 x88 x89 x90 x91 x92 x93 x94 x95 x96 x97 x98 x99 : Value}
 (HO : RowKit.Hid (j < L' ∧ L' ≤ 4611686018427387904 ∧ ∀ w', Beyond W w' → ∀ i x, op.cells[i]? = some x → w'.cell? ⟨g, go + j * 4 + i, none⟩ = some x)) :
 ∀ (L : Nat → Bool) (vals : List Value) (T : Array Value) (w : World) (i : Nat) (o : Oper), vals.length = snR.size → SnW W S0 K (.slice (some ⟨g, go, none⟩) L' C) (.pointer (some ⟨g, go + j * 4, none⟩)) (j : Int) op.val (ansPV (doA 1 op l)) l (doL 1 op l) (doA 1 op l) L vals w → L i = false → snR[i]? = some o → (∀ e ∈ o.after, Region.binds .any e = true → L e.on = true) →
  (∀ j t, dstOf snR j = some t → L j = true → T[t]? = vals[j]?) → (∀ t, noD snR t = true → T[t]? = (#[.slice (some ⟨g, go, none⟩) L' C, x1, .bool false, .pointer none, .pointer (some ⟨K, 0, none⟩), .pointer (some ⟨K + 2, 0, none⟩), .int .i64 j, x7, x8, x9, x10, x11, x12, x13, x14, x15, x16, x17, x18, x19, x20, x21, x22, x23, x24, x25, x26, x27, x28, x29, x30, x31, x32, x33, x34, x35, x36, x37, x38, x39, x40, x41, x42, x43, x44, x45, x46, x47, x48, x49, x50, x51, x52, x53, x54, x55, x56, x57, x58, x59, x60, x61, x62, x63, x64, x65, x66, x67, x68, x69, x70, x71, x72, x73, x74, x75, x76, x77, x78, x79, x80, x81, x82, x83, x84, x85, x86, x87, x88, x89, x90, x91, x92, x93, x94, x95, x96, x97, x98, x99] : Array Value)[t]?) →
  DrawS Try.prog (J0 Try.prog Fin) s T o w (fun v w' => SnW W S0 K (.slice (some ⟨g, go, none⟩) L' C) (.pointer (some ⟨g, go + j * 4, none⟩)) (j : Int) op.val (ansPV (doA 1 op l)) l (doL 1 op l) (doA 1 op l) (upd L i true) (vals.set i v) w') (fun w' => SnW W S0 K (.slice (some ⟨g, go, none⟩) L' C) (.pointer (some ⟨g, go + j * 4, none⟩)) (j : Int) op.val (ansPV (doA 1 op l)) l (doL 1 op l) (doA 1 op l) (upd L i true) vals w') := by
 rintro L vals T w i o hlen ⟨b9, b10, hv, hM⟩ hLi ho hdep hT hT0
 have hi : i < 16 := (Array.getElem?_eq_some_iff.1 ho).1
 replace hlen : vals.length = 16 := hlen
 obtain ⟨u3, hu3⟩ : ∃ c, snR = c := ⟨_, rfl⟩
 have eu3 := hu3
 simp only [snR, snU, snI, cSeqL, cSeqR, cBlk, cLoop, snB, snT, headC, tailN, Try.f6, al_od] at eu3
 rw [hu3, ← eu3] at ho
 clear eu3 hu3
 obtain rfl | rfl | rfl | rfl | rfl | rfl | rfl | rfl | rfl | rfl | rfl | rfl | rfl | rfl | rfl | rfl : i = 0 ∨ i = 1 ∨ i = 2 ∨ i = 3 ∨ i = 4 ∨ i = 5 ∨ i = 6 ∨ i = 7 ∨ i = 8 ∨ i = 9 ∨ i = 10 ∨ i = 11 ∨ i = 12 ∨ i = 13 ∨ i = 14 ∨ i = 15 := by omega
 ·
  simp only [al_gl, al_g0, al_g1, al_oi] at ho
  subst ho
  have e4 : T[4]? = some (.pointer (some ⟨K, 0, none⟩)) := (hT0 4 (by kernel_rfl)).trans rfl
  refine .inl ⟨rfl, .inl ⟨69, .pointer (some ⟨K, 0, none⟩), w, rfl, ?_, SnW.read hlen hv hM (i := 0) (by decide) (by decide) (by decide) (by decide) (by decide) hLi rfl⟩⟩
  simp only [execOp, Act.eval, al_gd, e4, al_od]
  go_simp
 ·
  simp only [al_gl, al_g0, al_g1, al_oi] at ho
  subst ho
  have e0 : T[0]? = some (.slice (some ⟨g, go, none⟩) L' C) := (hT0 0 (by kernel_rfl)).trans rfl
  refine .inl ⟨rfl, .inl ⟨70, .slice (some ⟨g, go, none⟩) L' C, w, rfl, ?_, SnW.read hlen hv hM (i := 1) (by decide) (by decide) (by decide) (by decide) (by decide) hLi rfl⟩⟩
  simp only [execOp, Act.eval, al_gd, e0, al_od]
  go_simp
 ·
  simp only [al_gl, al_g0, al_g1, al_oi] at ho
  subst ho
  have e6 : T[6]? = some (.int .i64 j) := (hT0 6 (by kernel_rfl)).trans rfl
  refine .inl ⟨rfl, .inl ⟨71, .int .i64 (j : Int), w, rfl, ?_, SnW.read hlen hv hM (i := 2) (by decide) (by decide) (by decide) (by decide) (by decide) hLi rfl⟩⟩
  simp only [execOp, Act.eval, al_gd, e6, al_od]
  go_simp
 ·
  simp only [al_gl, al_g0, al_g1, al_oi] at ho
  subst ho
  have hlt' : (j : Int) < (L' : Int) := by have := HO.out.1; omega
  have hj0 : (0 : Int) ≤ j := by omega
  have e70 : T[70]? = some (.slice (some ⟨g, go, none⟩) L' C) := (hT 1 70 rfl (hdep ⟨1, .data⟩ (by simp) rfl)).trans (hv 1 (by decide) (hdep ⟨1, .data⟩ (by simp) rfl))
  have e71 : T[71]? = some (.int .i64 j) := (hT 2 71 rfl (hdep ⟨2, .data⟩ (by simp) rfl)).trans (hv 2 (by decide) (hdep ⟨2, .data⟩ (by simp) rfl))
  refine .inl ⟨rfl, .inl ⟨72, .pointer (some ⟨g, go + j * 4, none⟩), w, rfl, ?_, SnW.read hlen hv hM (i := 3) (by decide) (by decide) (by decide) (by decide) (by decide) hLi rfl⟩⟩
  simp only [execOp, Act.eval, al_gd, e70, e71, al_od]
  go_simp
 ·
  simp only [al_gl, al_g0, al_g1, al_oi] at ho
  subst ho
  have k0 : w.cell? ⟨g, go + j * 4, none⟩ = some (.int .i64 op.k) := HO.out.2.2 w hM.be 0 _ rfl
  have k1 : w.cell? ⟨g, go + j * 4 + 1, none⟩ = some (.int .i64 op.a) := HO.out.2.2 w hM.be 1 _ rfl
  have k2 : w.cell? ⟨g, go + j * 4 + 2, none⟩ = some (.int .i64 op.b) := HO.out.2.2 w hM.be 2 _ rfl
  have k3 : w.cell? ⟨g, go + j * 4 + 3, none⟩ = some (.int .i64 op.c) := HO.out.2.2 w hM.be 3 _ rfl
  have e72 : T[72]? = some (.pointer (some ⟨g, go + j * 4, none⟩)) := (hT 3 72 rfl (hdep ⟨3, .data⟩ (by simp) rfl)).trans (hv 3 (by decide) (hdep ⟨3, .data⟩ (by simp) rfl))
  refine .inl ⟨rfl, .inl ⟨73, op.val, w, rfl, ?_, SnW.read hlen hv hM (i := 4) (by decide) (by decide) (by decide) (by decide) (by decide) hLi rfl⟩⟩
  simp only [execOp, Act.eval, al_gd, e72, al_od]
  go_simp
  rfl
 ·
  simp only [al_gl, al_g0, al_g1, al_oi] at ho
  subst ho
  have e69 : T[69]? = some (.pointer (some ⟨K, 0, none⟩)) := (hT 0 69 rfl (hdep ⟨0, .data⟩ (by simp) rfl)).trans (hv 0 (by decide) (hdep ⟨0, .data⟩ (by simp) rfl))
  have e73 : T[73]? = some (op.val) := (hT 4 73 rfl (hdep ⟨4, .data⟩ (by simp) rfl)).trans (hv 4 (by decide) (hdep ⟨4, .data⟩ (by simp) rfl))
  refine .inr ⟨74, 14, #[.pointer (some ⟨K, 0, none⟩), .nilIface, op.val], rfl, fun w => ?_, fun w => ?_, ?_⟩
  · simp only [execOp, Act.eval, al_gd, e69, e73, al_od, List.map_toArray, List.map_cons, List.map_nil]
    simp [go_sem, execOp, Act.eval, resolve, Deferred.ofValue, invoke, callFunc, Try.func14, Try.f14, e69, e73]
  · simp only [execOp, Act.eval, al_gd, e69, e73, al_od, List.map_toArray, List.map_cons, List.map_nil]
    simp [go_sem, execOp, Act.eval, resolve, Deferred.ofValue, invoke, callFunc, Try.func14, Try.f14, e69, e73]
  · intro cl cs' h1 _
    have hz := hM.zero
    rw [if_neg (by rw [hLi]; decide)] at hz
    refine call_cntJ hFin op hz ?_
    intro w' _ hA
    exact h1 s _ w' ⟨rfl, _, rfl, SnW.call0 hlen hv hM hLi hA⟩
 ·
  simp only [al_gl, al_g0, al_g1, al_oi] at ho
  subst ho
  have e5 : T[5]? = some (.pointer (some ⟨K + 2, 0, none⟩)) := (hT0 5 (by kernel_rfl)).trans rfl
  refine .inl ⟨rfl, .inl ⟨75, .pointer (some ⟨K + 2, 0, none⟩), w, rfl, ?_, SnW.read hlen hv hM (i := 6) (by decide) (by decide) (by decide) (by decide) (by decide) hLi rfl⟩⟩
  simp only [execOp, Act.eval, al_gd, e5, al_od]
  go_simp
 ·
  simp only [al_gl, al_g0, al_g1, al_oi] at ho
  subst ho
  have e0 : T[0]? = some (.slice (some ⟨g, go, none⟩) L' C) := (hT0 0 (by kernel_rfl)).trans rfl
  refine .inl ⟨rfl, .inl ⟨76, .slice (some ⟨g, go, none⟩) L' C, w, rfl, ?_, SnW.read hlen hv hM (i := 7) (by decide) (by decide) (by decide) (by decide) (by decide) hLi rfl⟩⟩
  simp only [execOp, Act.eval, al_gd, e0, al_od]
  go_simp
 ·
  simp only [al_gl, al_g0, al_g1, al_oi] at ho
  subst ho
  have e6 : T[6]? = some (.int .i64 j) := (hT0 6 (by kernel_rfl)).trans rfl
  refine .inl ⟨rfl, .inl ⟨77, .int .i64 (j : Int), w, rfl, ?_, SnW.read hlen hv hM (i := 8) (by decide) (by decide) (by decide) (by decide) (by decide) hLi rfl⟩⟩
  simp only [execOp, Act.eval, al_gd, e6, al_od]
  go_simp
 ·
  simp only [al_gl, al_g0, al_g1, al_oi] at ho
  subst ho
  have hlt' : (j : Int) < (L' : Int) := by have := HO.out.1; omega
  have hj0 : (0 : Int) ≤ j := by omega
  have e76 : T[76]? = some (.slice (some ⟨g, go, none⟩) L' C) := (hT 7 76 rfl (hdep ⟨7, .data⟩ (by simp) rfl)).trans (hv 7 (by decide) (hdep ⟨7, .data⟩ (by simp) rfl))
  have e77 : T[77]? = some (.int .i64 j) := (hT 8 77 rfl (hdep ⟨8, .data⟩ (by simp) rfl)).trans (hv 8 (by decide) (hdep ⟨8, .data⟩ (by simp) rfl))
  refine .inl ⟨rfl, .inl ⟨78, .pointer (some ⟨g, go + j * 4, none⟩), w, rfl, ?_, SnW.read hlen hv hM (i := 9) (by decide) (by decide) (by decide) (by decide) (by decide) hLi rfl⟩⟩
  simp only [execOp, Act.eval, al_gd, e76, e77, al_od]
  go_simp
 ·
  simp only [al_gl, al_g0, al_g1, al_oi] at ho
  subst ho
  have k0 : w.cell? ⟨g, go + j * 4, none⟩ = some (.int .i64 op.k) := HO.out.2.2 w hM.be 0 _ rfl
  have k1 : w.cell? ⟨g, go + j * 4 + 1, none⟩ = some (.int .i64 op.a) := HO.out.2.2 w hM.be 1 _ rfl
  have k2 : w.cell? ⟨g, go + j * 4 + 2, none⟩ = some (.int .i64 op.b) := HO.out.2.2 w hM.be 2 _ rfl
  have k3 : w.cell? ⟨g, go + j * 4 + 3, none⟩ = some (.int .i64 op.c) := HO.out.2.2 w hM.be 3 _ rfl
  have e78 : T[78]? = some (.pointer (some ⟨g, go + j * 4, none⟩)) := (hT 9 78 rfl (hdep ⟨9, .data⟩ (by simp) rfl)).trans (hv 9 (by decide) (hdep ⟨9, .data⟩ (by simp) rfl))
  refine .inl ⟨rfl, .inl ⟨79, op.val, w, rfl, ?_, SnW.read hlen hv hM (i := 10) (by decide) (by decide) (by decide) (by decide) (by decide) hLi rfl⟩⟩
  simp only [execOp, Act.eval, al_gd, e78, al_od]
  go_simp
  rfl
 ·
  simp only [al_gl, al_g0, al_g1, al_oi] at ho
  subst ho
  have e75 : T[75]? = some (.pointer (some ⟨K + 2, 0, none⟩)) := (hT 6 75 rfl (hdep ⟨6, .data⟩ (by simp) rfl)).trans (hv 6 (by decide) (hdep ⟨6, .data⟩ (by simp) rfl))
  have e79 : T[79]? = some (op.val) := (hT 10 79 rfl (hdep ⟨10, .data⟩ (by simp) rfl)).trans (hv 10 (by decide) (hdep ⟨10, .data⟩ (by simp) rfl))
  refine .inr ⟨80, 14, #[.pointer (some ⟨K + 2, 0, none⟩), .nilIface, op.val], rfl, fun w => ?_, fun w => ?_, ?_⟩
  · simp only [execOp, Act.eval, al_gd, e75, e79, al_od, List.map_toArray, List.map_cons, List.map_nil]
    simp [go_sem, execOp, Act.eval, resolve, Deferred.ofValue, invoke, callFunc, Try.func14, Try.f14, e75, e79]
  · simp only [execOp, Act.eval, al_gd, e75, e79, al_od, List.map_toArray, List.map_cons, List.map_nil]
    simp [go_sem, execOp, Act.eval, resolve, Deferred.ofValue, invoke, callFunc, Try.func14, Try.f14, e75, e79]
  · intro cl cs' h1 _
    have hz := hM.one
    rw [if_neg (by rw [hLi]; decide)] at hz
    refine call_cntJ hFin op hz ?_
    intro w' _ hA
    exact h1 s _ w' ⟨rfl, _, rfl, SnW.call1 hlen hv hM hLi hA⟩
 ·
  simp only [al_gl, al_g0, al_g1, al_oi] at ho
  subst ho
  have h14 : L 14 = false := by
   cases h : L 14 with
   | false => rfl
   | true => have := hM.d14 h; rw [hLi] at this; cases this
  refine .inl ⟨rfl, .inl ⟨9, .pointer (some ⟨w.heap.size, 0, none⟩), _, rfl, ?_, SnW.new9 hlen hv hM hLi h14⟩⟩
  simp only [execOp]
  go_simp
 ·
  simp only [al_gl, al_g0, al_g1, al_oi] at ho
  subst ho
  have h14 : L 15 = false := by
   cases h : L 15 with
   | false => rfl
   | true => have := hM.d15 h; rw [hLi] at this; cases this
  refine .inl ⟨rfl, .inl ⟨10, .pointer (some ⟨w.heap.size, 0, none⟩), _, rfl, ?_, SnW.new10 hlen hv hM hLi h14⟩⟩
  simp only [execOp]
  go_simp
 ·
  simp only [al_gl, al_g0, al_g1, al_oi] at ho
  subst ho
  have e9 : T[9]? = some (.pointer (some ⟨b9, 0, none⟩)) := (hT 12 9 rfl (hdep ⟨12, .data⟩ (by simp) rfl)).trans (hv 12 (by decide) (hdep ⟨12, .data⟩ (by simp) rfl))
  have e74 : T[74]? = some (ansPV (doA 1 op l)) := (hT 5 74 rfl (hdep ⟨5, .data⟩ (by simp) rfl)).trans (hv 5 (by decide) (hdep ⟨5, .data⟩ (by simp) rfl))
  refine .inl ⟨rfl, .inr ⟨rfl, _, ?_, SnW.put hlen hv hM (i := 14) (bb := b9) (by first | exact .inl ⟨rfl, rfl, (hdep ⟨12, .data⟩ (by simp) rfl)⟩ | exact .inr ⟨rfl, rfl, (hdep ⟨12, .data⟩ (by simp) rfl)⟩) hLi⟩⟩
  obtain ⟨_, m9⟩ := hM.m9 (hdep ⟨12, .data⟩ (by simp) rfl)
  rw [hLi] at m9
  replace m9 : w.heap[b9]? = some (.cells #[.bool false, .int .i64 0, .slice none 0 0] 43) := m9
  have c0 := (zq1 (off := 0) m9).trans rfl
  have c1 := (zq1 (off := 1) m9).trans rfl
  have c2 := (zq1 (off := 2) m9).trans rfl
  have z0 := zqb (off := 0) m9
  have z1 := zqb (off := 1) m9
  have z2 := zqb (off := 2) m9
  simp only [execOp, Act.eval, al_gd, e9, e74, al_od, ansPV]
  go_simp
 ·
  simp only [al_gl, al_g0, al_g1, al_oi] at ho
  subst ho
  have e10 : T[10]? = some (.pointer (some ⟨b10, 0, none⟩)) := (hT 13 10 rfl (hdep ⟨13, .data⟩ (by simp) rfl)).trans (hv 13 (by decide) (hdep ⟨13, .data⟩ (by simp) rfl))
  have e80 : T[80]? = some (ansPV (doA 1 op l)) := (hT 11 80 rfl (hdep ⟨11, .data⟩ (by simp) rfl)).trans (hv 11 (by decide) (hdep ⟨11, .data⟩ (by simp) rfl))
  refine .inl ⟨rfl, .inr ⟨rfl, _, ?_, SnW.put hlen hv hM (i := 15) (bb := b10) (by first | exact .inl ⟨rfl, rfl, (hdep ⟨13, .data⟩ (by simp) rfl)⟩ | exact .inr ⟨rfl, rfl, (hdep ⟨13, .data⟩ (by simp) rfl)⟩) hLi⟩⟩
  obtain ⟨_, m9⟩ := hM.m10 (hdep ⟨13, .data⟩ (by simp) rfl)
  rw [hLi] at m9
  replace m9 : w.heap[b10]? = some (.cells #[.bool false, .int .i64 0, .slice none 0 0] 43) := m9
  have c0 := (zq1 (off := 0) m9).trans rfl
  have c1 := (zq1 (off := 1) m9).trans rfl
  have c2 := (zq1 (off := 2) m9).trans rfl
  have z0 := zqb (off := 0) m9
  have z1 := zqb (off := 1) m9
  have z2 := zqb (off := 2) m9
  simp only [execOp, Act.eval, al_gd, e10, e80, al_od, ansPV]
  go_simp
theorem ans_one {w : World} {P : Nat} {a : Ans} (h : w.heap[P]? = some (.cells #[.bool a.ok, .int .i64 a.n, .slice none 0 0] 43)) (hl : a.l = []) : AnsAt w (.slice (some ⟨P, 0, none⟩) 1 1) [a] := by
 refine ⟨_, _, rfl, fun _ => ⟨P, 0, rfl, fun i a' hi => ?_⟩⟩
 have hi1 := (List.getElem?_eq_some_iff.1 hi).1
 obtain rfl : i = 0 := by simp at hi1; omega
 simp only [al_g0, al_oi] at hi
 subst hi
 refine ⟨(zq1 h).trans rfl, (zq1 h).trans rfl, .slice none 0 0, (zq1 h).trans rfl, none, 0, by rw [hl]; rfl, fun e => absurd hl e⟩
def SnOut (W : World) (S0 K g go L' C j : Nat) (l : List Int) (t : Array Value) (w' : World) : Prop := ∃ z1 z7 z8 z9 z10 z11 z12 z13 z14 z15 z16 z17 z18 z19 z20 z21 z22 z23 z24 z25 z26 z27 z28 z29 z30 z31 z32 z33 z34 z35 z36 z37 z38 z39 z40 z41 z42 z43 z44 z45 z46 z47 z48 z49 z50 z51 z52 z53 z54 z55 z56 z57 z58 z59 z60 z61 z62 z63 z64 z65 z66 z67 z68 z69 z70 z71 z72 z73 z74 z75 z76 z77 z78 z79 z80 z81 z82 z83 z84 z85 z86 z87 z88 z89 z90 z91 z92 z93 z94 z95 z96 z97 z98 : Value, t = #[.slice (some ⟨g, go, none⟩) L' C, z1, .bool false, .pointer none, .pointer (some ⟨K, 0, none⟩), .pointer (some ⟨K + 2, 0, none⟩), .int .i64 j, z7, z8, z9, z10, z11, z12, z13, z14, z15, z16, z17, z18, z19, z20, z21, z22, z23, z24, z25, z26, z27, z28, z29, z30, z31, z32, z33, z34, z35, z36, z37, z38, z39, z40, z41, z42, z43, z44, z45, z46, z47, z48, z49, z50, z51, z52, z53, z54, z55, z56, z57, z58, z59, z60, z61, z62, z63, z64, z65, z66, z67, z68, z69, z70, z71, z72, z73, z74, z75, z76, z77, z78, z79, z80, z81, z82, z83, z84, z85, z86, z87, z88, z89, z90, z91, z92, z93, z94, z95, z96, z97, z98, .bool false] ∧ SnF W S0 K (K + 2) (K + 1) l w'
theorem sn_cnt {Fin : Machine → Trace → Prop} (hFin : Back Try.prog Fin) {s : Nat} {b : Frame} (hb : b.kind ≠ .early) {k : List Item} {cs : List Frame} {W w : World} {S0 K g go L' C j : Nat} {l : List Int} {op : OpX} {x1 x7 x8 x9 x10 x11 x12 x13 x14 x15 x16 x17 x18 x19 x20 x21 x22 x23 x24 x25 x26 x27 x28 x29 x30 x31 x32 x33 x34 x35 x36 x37 x38 x39 x40 x41 x42 x43 x44 x45 x46 x47 x48 x49 x50 x51 x52 x53 x54 x55 x56 x57 x58 x59 x60 x61 x62 x63 x64 x65 x66 x67 x68 x69 x70 x71 x72 x73 x74 x75 x76 x77 x78 x79 x80 x81 x82 x83 x84 x85 x86 x87 x88 x89 x90 x91 x92 x93 x94 x95 x96 x97 x98 x99 : Value}
 (hF : SnF W S0 K (K + 2) (K + 1) l w) (HO : RowKit.Hid (j < L' ∧ L' ≤ 4611686018427387904 ∧ ∀ w', Beyond W w' → ∀ i x, op.cells[i]? = some x → w'.cell? ⟨g, go + j * 4 + i, none⟩ = some x)) (hal : (doA 1 op l).l = [])
 (hq : ∀ (y1 y7 y8 y9 y10 y11 y12 y13 y14 y15 y16 y17 y18 y19 y20 y21 y22 y23 y24 y25 y26 y27 y28 y29 y30 y31 y32 y33 y34 y35 y36 y37 y38 y39 y40 y41 y42 y43 y44 y45 y46 y47 y48 y49 y50 y51 y52 y53 y54 y55 y56 y57 y58 y59 y60 y61 y62 y63 y64 y65 y66 y67 y68 y69 y70 y71 y72 y73 y74 y75 y76 y77 y78 y79 y80 y81 y82 y83 y84 y85 y86 y87 y88 y89 y90 y91 y92 y93 y94 y95 y96 y97 y98 y99 : Value) w', SnF W S0 K (K + 2) (K + 1) (doL 1 op l) w' → J0 Try.prog Fin s (G (b.at ⟨#[.slice (some ⟨g, go, none⟩) L' C, y1, .bool false, .pointer none, .pointer (some ⟨K, 0, none⟩), .pointer (some ⟨K + 2, 0, none⟩), .int .i64 j, y7, y8, y9, y10, y11, y12, y13, y14, y15, y16, y17, y18, y19, y20, y21, y22, y23, y24, y25, y26, y27, y28, y29, y30, y31, y32, y33, y34, y35, y36, y37, y38, y39, y40, y41, y42, y43, y44, y45, y46, y47, y48, y49, y50, y51, y52, y53, y54, y55, y56, y57, y58, y59, y60, y61, y62, y63, y64, y65, y66, y67, y68, y69, y70, y71, y72, y73, y74, y75, y76, y77, y78, y79, y80, y81, y82, y83, y84, y85, y86, y87, y88, y89, y90, y91, y92, y93, y94, y95, y96, y97, y98, y99], []⟩ k) cs) w') :
 J0 Try.prog Fin s (G (b.at ⟨#[.slice (some ⟨g, go, none⟩) L' C, x1, .bool false, .pointer none, .pointer (some ⟨K, 0, none⟩), .pointer (some ⟨K + 2, 0, none⟩), .int .i64 j, x7, x8, x9, x10, x11, x12, x13, x14, x15, x16, x17, x18, x19, x20, x21, x22, x23, x24, x25, x26, x27, x28, x29, x30, x31, x32, x33, x34, x35, x36, x37, x38, x39, x40, x41, x42, x43, x44, x45, x46, x47, x48, x49, x50, x51, x52, x53, x54, x55, x56, x57, x58, x59, x60, x61, x62, x63, x64, x65, x66, x67, x68, x69, x70, x71, x72, x73, x74, x75, x76, x77, x78, x79, x80, x81, x82, x83, x84, x85, x86, x87, x88, x89, x90, x91, x92, x93, x94, x95, x96, x97, x98, x99], []⟩ (.code (.seq (headC (snU 3)) (snU 4)) :: k)) cs) w := by
 have hJ := j0_JS hFin
 have hC := j0_calm hFin
 have HQ := Lib.hid hq
 clear hq
 refine hJ.ctl (s := s) (fun w => stepG_seq) ?_
 rw [snR0]
 refine at_drawsV hJ hb (by kernel_rfl) (by kernel_rfl) (by kernel_rfl) (SnW W S0 K (.slice (some ⟨g, go, none⟩) L' C) (.pointer (some ⟨g, go + j * 4, none⟩)) (j : Int) op.val (ansPV (doA 1 op l)) l (doL 1 op l) (doA 1 op l)) (fun L v w τ d h => h.re τ d) (List.replicate 16 undef) (by kernel_rfl) ⟨0, 0, fun i _ h => (by cases h), ⟨hF.be, hF.zero, hF.one, ⟨hF.lo.1, hF.hi.2.1, hF.hi.2.2.2⟩, fun h => (by cases h), fun h => (by cases h), fun h => (by cases h), fun h => (by cases h), fun h => (by cases h)⟩⟩ (sn_draw hFin HO) ?_
 rintro L vals w2 hall hlen ⟨b9, b10, hv, hM⟩
 replace hlen : vals.length = 16 := hlen
 obtain ⟨v0, v1, v2, v3, v4, v5, v6, v7, v8, v9, v10, v11, v12, v13, v14, v15, rfl⟩ : ∃ v0 v1 v2 v3 v4 v5 v6 v7 v8 v9 v10 v11 v12 v13 v14 v15, vals = [v0, v1, v2, v3, v4, v5, v6, v7, v8, v9, v10, v11, v12, v13, v14, v15] := by
  match vals, hlen with
  | [v0, v1, v2, v3, v4, v5, v6, v7, v8, v9, v10, v11, v12, v13, v14, v15], _ => exact ⟨_, _, _, _, _, _, _, _, _, _, _, _, _, _, _, _, rfl⟩
 have hall' : ∀ i, i < 16 → L i = true := hall
 have q0 : v0 = .pointer (some ⟨K, 0, none⟩) := by
  have := hv 0 (by decide) (hall' 0 (by decide))
  simpa only [al_g0, al_g1, al_oi, snSp] using this
 have q1 : v1 = .slice (some ⟨g, go, none⟩) L' C := by
  have := hv 1 (by decide) (hall' 1 (by decide))
  simpa only [al_g0, al_g1, al_oi, snSp] using this
 have q2 : v2 = .int .i64 j := by
  have := hv 2 (by decide) (hall' 2 (by decide))
  simpa only [al_g0, al_g1, al_oi, snSp] using this
 have q3 : v3 = .pointer (some ⟨g, go + j * 4, none⟩) := by
  have := hv 3 (by decide) (hall' 3 (by decide))
  simpa only [al_g0, al_g1, al_oi, snSp] using this
 have q4 : v4 = op.val := by
  have := hv 4 (by decide) (hall' 4 (by decide))
  simpa only [al_g0, al_g1, al_oi, snSp] using this
 have q5 : v5 = ansPV (doA 1 op l) := by
  have := hv 5 (by decide) (hall' 5 (by decide))
  simpa only [al_g0, al_g1, al_oi, snSp] using this
 have q6 : v6 = .pointer (some ⟨K + 2, 0, none⟩) := by
  have := hv 6 (by decide) (hall' 6 (by decide))
  simpa only [al_g0, al_g1, al_oi, snSp] using this
 have q7 : v7 = .slice (some ⟨g, go, none⟩) L' C := by
  have := hv 7 (by decide) (hall' 7 (by decide))
  simpa only [al_g0, al_g1, al_oi, snSp] using this
 have q8 : v8 = .int .i64 j := by
  have := hv 8 (by decide) (hall' 8 (by decide))
  simpa only [al_g0, al_g1, al_oi, snSp] using this
 have q9 : v9 = .pointer (some ⟨g, go + j * 4, none⟩) := by
  have := hv 9 (by decide) (hall' 9 (by decide))
  simpa only [al_g0, al_g1, al_oi, snSp] using this
 have q10 : v10 = op.val := by
  have := hv 10 (by decide) (hall' 10 (by decide))
  simpa only [al_g0, al_g1, al_oi, snSp] using this
 have q11 : v11 = ansPV (doA 1 op l) := by
  have := hv 11 (by decide) (hall' 11 (by decide))
  simpa only [al_g0, al_g1, al_oi, snSp] using this
 have q12 : v12 = .pointer (some ⟨b9, 0, none⟩) := by
  have := hv 12 (by decide) (hall' 12 (by decide))
  simpa only [al_g0, al_g1, al_oi, snSp] using this
 have q13 : v13 = .pointer (some ⟨b10, 0, none⟩) := by
  have := hv 13 (by decide) (hall' 13 (by decide))
  simpa only [al_g0, al_g1, al_oi, snSp] using this
 subst q0 q1 q2 q3 q4 q5 q6 q7 q8 q9 q10 q11 q12 q13
 have d0 : dstOf snR 0 = some 69 := by kernel_rfl
 have d1 : dstOf snR 1 = some 70 := by kernel_rfl
 have d2 : dstOf snR 2 = some 71 := by kernel_rfl
 have d3 : dstOf snR 3 = some 72 := by kernel_rfl
 have d4 : dstOf snR 4 = some 73 := by kernel_rfl
 have d5 : dstOf snR 5 = some 74 := by kernel_rfl
 have d6 : dstOf snR 6 = some 75 := by kernel_rfl
 have d7 : dstOf snR 7 = some 76 := by kernel_rfl
 have d8 : dstOf snR 8 = some 77 := by kernel_rfl
 have d9 : dstOf snR 9 = some 78 := by kernel_rfl
 have d10 : dstOf snR 10 = some 79 := by kernel_rfl
 have d11 : dstOf snR 11 = some 80 := by kernel_rfl
 have d12 : dstOf snR 12 = some 9 := by kernel_rfl
 have d13 : dstOf snR 13 = some 10 := by kernel_rfl
 have d14 : dstOf snR 14 = none := by kernel_rfl
 have d15 : dstOf snR 15 = none := by kernel_rfl
 simp only [putv, Nat.zero_add, Nat.reduceAdd, d0, d1, d2, d3, d4, d5, d6, d7, d8, d9, d10, d11, d12, d13, d14, d15, al_g2, List.set_cons_succ, List.set_cons_zero]
 clear d0 d1 d2 d3 d4 d5 d6 d7 d8 d9 d10 d11 d12 d13 d14 d15 hv
 have m9 := (hM.m9 (hall' 12 (by decide))).2
 have m10 := (hM.m10 (hall' 13 (by decide))).2
 rw [hall' 14 (by decide)] at m9
 rw [hall' 15 (by decide)] at m10
 replace m9 : w2.heap[b9]? = some (.cells #[.bool (doA 1 op l).ok, .int .i64 (doA 1 op l).n, .slice none 0 0] 43) := m9
 replace m10 : w2.heap[b10]? = some (.cells #[.bool (doA 1 op l).ok, .int .i64 (doA 1 op l).n, .slice none 0 0] 43) := m10
 have hz := hM.zero
 have ho := hM.one
 rw [if_pos (hall' 5 (by decide))] at hz
 rw [if_pos (hall' 11 (by decide))] at ho
 have hF2 : SnF W S0 K (K + 2) (K + 1) (doL 1 op l) w2 := ⟨hM.be, hz, ho, hF.lo, ⟨hF.hi.1, hF.hi.2.1, hF.hi.2.2.1, hM.lo.2.2⟩, hF.ne⟩
 clear hM hz ho hF hall hall' hlen
 refine hJ.ctl (s := s) (fun w => stepG_region_end) ?_
 rw [show snU 4 = .seq (headC (snU 4)) (cSeqR (snU 4)) by kernel_rfl]
 refine hJ.ctl (s := s) (fun w => stepG_seq) ?_
 have H9 := Lib.hid (And.intro m9 (And.intro m10 (And.intro hF2 hal)))
 clear m9 m10 hF2 hal
 refine at_lone hJ hC plainM (by kernel_rfl) (SnOut W S0 K g go L' C j (doL 1 op l)) (fun t w' τ d ⟨z1, z7, z8, z9, z10, z11, z12, z13, z14, z15, z16, z17, z18, z19, z20, z21, z22, z23, z24, z25, z26, z27, z28, z29, z30, z31, z32, z33, z34, z35, z36, z37, z38, z39, z40, z41, z42, z43, z44, z45, z46, z47, z48, z49, z50, z51, z52, z53, z54, z55, z56, z57, z58, z59, z60, z61, z62, z63, z64, z65, z66, z67, z68, z69, z70, z71, z72, z73, z74, z75, z76, z77, z78, z79, z80, z81, z82, z83, z84, z85, z86, z87, z88, z89, z90, z91, z92, z93, z94, z95, z96, z97, z98, h1, h2⟩ => ⟨_, _, _, _, _, _, _, _, _, _, _, _, _, _, _, _, _, _, _, _, _, _, _, _, _, _, _, _, _, _, _, _, _, _, _, _, _, _, _, _, _, _, _, _, _, _, _, _, _, _, _, _, _, _, _, _, _, _, _, _, _, _, _, _, _, _, _, _, _, _, _, _, _, _, _, _, _, _, _, _, _, _, _, _, _, _, _, _, _, _, _, _, _, h1, h2.re τ d⟩) hb (fun τ d => ?_) ?_
 · obtain ⟨u4, hu4⟩ : ∃ c, headC (snU 4) = c := ⟨_, rfl⟩
   have eu4 := hu4
   rw [hu4]
   simp only [snU, snI, cSeqL, cSeqR, cBlk, cLoop, snB, snT, headC, tailN, Try.f6, al_od] at eu4
   subst eu4
   clear hu4
   obtain ⟨m9, m10, hF2, hal⟩ := H9.out
   replace m9 : (re w2 τ d).heap[b9]? = some (.cells #[.bool (doA 1 op l).ok, .int .i64 (doA 1 op l).n, .slice none 0 0] 43) := m9
   replace m10 : (re w2 τ d).heap[b10]? = some (.cells #[.bool (doA 1 op l).ok, .int .i64 (doA 1 op l).n, .slice none 0 0] 43) := m10
   replace hF2 := hF2.re τ d
   generalize re w2 τ d = w3 at m9 m10 hF2 ⊢
   clear H9
   have HF2 := Lib.hid hF2
   clear hF2
   have hP : w3.heap.size = w3.heap.size := rfl
   have HW : RowKit.Hid (∀ W2, W2 = (w3.alloc (.cells #[.bool (doA 1 op l).ok, .int .i64 (doA 1 op l).n, .slice none 0 0] 43)).alloc (.cells #[.bool (doA 1 op l).ok, .int .i64 (doA 1 op l).n, .slice none 0 0] 43) → Beyond w3 W2 ∧ Calls Try.prog 15 #[.slice (some ⟨w3.heap.size, 0, none⟩) 1 1, .slice (some ⟨w3.heap.size + 1, 0, none⟩) 1 1] W2 fun e w' => e = .returned (.bool true) ∧ ∃ n, w' = W2.drewN n) := Lib.hid fun W2 hW => by
    have e1 : W2.heap[w3.heap.size]? = some (.cells #[.bool (doA 1 op l).ok, .int .i64 (doA 1 op l).n, .slice none 0 0] 43) := by rw [hW]; exact al_old (al_new _ _)
    have e2 : W2.heap[w3.heap.size + 1]? = some (.cells #[.bool (doA 1 op l).ok, .int .i64 (doA 1 op l).n, .slice none 0 0] 43) := by rw [hW, zq9, if_pos (by rw [zqc])]
    exact ⟨by rw [hW]; exact (Beyond.alloc _ _).trans (Beyond.alloc _ _), answers_same (l := [doA 1 op l]) (by simp) (fun a ha => by simp only [List.mem_singleton] at ha; subst ha; rw [hal]; decide) (ans_one e1 hal) (ans_one e2 hal)⟩
   have c0 := (zq1 (off := 0) m9).trans rfl
   have c1 := (zq1 (off := 1) m9).trans rfl
   have c2 := (zq1 (off := 2) m9).trans rfl
   have g0 := (zq1 (off := 0) m10).trans rfl
   have g1 := (zq1 (off := 1) m10).trans rfl
   have g2 := (zq1 (off := 2) m10).trans rfl
   have m11 : (w3.alloc (.cells #[.bool (doA 1 op l).ok, .int .i64 (doA 1 op l).n, .slice none 0 0] 43)).heap[b10]? = some (.cells #[.bool (doA 1 op l).ok, .int .i64 (doA 1 op l).n, .slice none 0 0] 43) := al_old m10
   have r0 := (zq1 (off := 0) m11).trans rfl
   have r1 := (zq1 (off := 1) m11).trans rfl
   have r2 := (zq1 (off := 2) m11).trans rfl
   clear m11
   clear m9 m10 hP
   generalize (doA 1 op l).ok = ok at c0 g0 r0 r1 r2 HW ⊢
   generalize (doA 1 op l).n = nn at c1 g1 r0 r1 r2 HW ⊢
   go_wp2_with (fail)
   refine Calls.mono (HW.out _ rfl).2 ?_
   rintro e w4 ⟨rfl, n1, hw4⟩
   have hF4 : SnF W S0 K (K + 2) (K + 1) (doL 1 op l) w4 := by
    rw [hw4]
    exact (HF2.out.beyond (HW.out _ rfl).1).re _ _
   clear hw4 c0 c1 c2 g0 g1 g2 r0 r1 r2
   have H4 := Lib.hid hF4
   clear hF4
   go_wp2_with (fail)
   refine Calls.mono (stripes_lone H4.out.zero.head) ?_
   rintro e w5 ⟨rfl, rfl⟩
   go_wp2_with (fail)
   refine Calls.mono (all_lone H4.out.zero) ?_
   rintro e w6 ⟨sa, rfl, hI6⟩
   have hb6 : Beyond w5 w6 := ⟨hI6.size, hI6.old⟩
   have H6 := Lib.hid (And.intro (H4.out.beyond hb6) (ints_of_row hI6.row))
   obtain ⟨pa, ca, rfl, -, -⟩ := own_slice hI6.row
   generalize (doL 1 op l).length = la at hI6 H6 ⊢
   clear hI6 hb6
   go_wp2_with (fail)
   refine Calls.mono (all_lone H6.out.1.one) ?_
   rintro e w7 ⟨sb, rfl, hI7⟩
   have hb7 : Beyond w6 w7 := ⟨hI7.size, hI7.old⟩
   have H7 := Lib.hid (And.intro (H6.out.1.beyond hb7) (And.intro (H6.out.2.beyond hb7) (ints_of_row hI7.row)))
   obtain ⟨pb, cb, rfl, -, -⟩ := own_slice hI7.row
   generalize (doL 1 op l).length = lb at hI7 H7 ⊢
   clear hI7 hb7
   go_wp2_with (fail)
   refine Calls.mono (numbers_same (by have := H7.out.1.zero.len; omega) H7.out.2.1 H7.out.2.2) ?_
   rintro e w8 ⟨rfl, n8, hw8⟩
   have H8 : RowKit.Hid (SnF W S0 K (K + 2) (K + 1) (doL 1 op l) w8) := Lib.hid (by rw [hw8]; exact H7.out.1.re _ _)
   clear hw8
   go_wp2
   exact ⟨rfl, _, _, _, _, _, _, _, _, _, _, _, _, _, _, _, _, _, _, _, _, _, _, _, _, _, _, _, _, _, _, _, _, _, _, _, _, _, _, _, _, _, _, _, _, _, _, _, _, _, _, _, _, _, _, _, _, _, _, _, _, _, _, _, _, _, _, _, _, _, _, _, _, _, _, _, _, _, _, _, _, _, _, _, _, _, _, _, _, _, _, _, _, _, rfl, H8.out⟩
 rintro t w' ⟨z1, z7, z8, z9, z10, z11, z12, z13, z14, z15, z16, z17, z18, z19, z20, z21, z22, z23, z24, z25, z26, z27, z28, z29, z30, z31, z32, z33, z34, z35, z36, z37, z38, z39, z40, z41, z42, z43, z44, z45, z46, z47, z48, z49, z50, z51, z52, z53, z54, z55, z56, z57, z58, z59, z60, z61, z62, z63, z64, z65, z66, z67, z68, z69, z70, z71, z72, z73, z74, z75, z76, z77, z78, z79, z80, z81, z82, z83, z84, z85, z86, z87, z88, z89, z90, z91, z92, z93, z94, z95, z96, z97, z98, rfl, hF⟩
 refine hJ.ctl (s := s) (fun w => stepG_cond (t := false) rfl) ?_
 rw [if_neg (by decide)]
 refine hJ.ctl (s := s) (fun w => stepG_skip) ?_
 exact HQ.out _ _ _ _ _ _ _ _ _ _ _ _ _ _ _ _ _ _ _ _ _ _ _ _ _ _ _ _ _ _ _ _ _ _ _ _ _ _ _ _ _ _ _ _ _ _ _ _ _ _ _ _ _ _ _ _ _ _ _ _ _ _ _ _ _ _ _ _ _ _ _ _ _ _ _ _ _ _ _ _ _ _ _ _ _ _ _ _ _ _ _ _ _ _ w' hF
end Go.Proofs
set_option maxHeartbeats 8000000
set_option maxRecDepth 100000
namespace Go.Proofs
open Go Go.Conc Go.RowKit Go.Car
theorem do_nolist (N : Nat) (op : OpX) (l : List Int) : (doA N op l).l = [] := by
 have key : ∀ {α : Type} (p : Proc (List Int × Unit) α) (f : α → Ans), (∀ x, (f x).l = []) → (((p.bind fun x => Proc.ret (f x)).run (l, ())).2.1.getD Ans.none).l = [] := fun p f hf => by
  rw [Proc.run_bind]
  obtain ⟨s1, o, n⟩ := p.run (l, ())
  cases o with
  | none => rfl
  | some a => exact hf a
 unfold doA doP
 repeat' split
 · exact key _ _ (fun _ => rfl)
 · exact key _ _ (fun _ => rfl)
 · exact key _ _ (fun _ => rfl)
 · exact key _ _ (fun _ => rfl)
 · exact key _ _ (fun _ => rfl)
 · rfl
theorem snT4 : headC (snT 4) = .seq (cSeqL (headC (snT 4))) (.block 0 (.loop snB)) := by kernel_rfl
theorem snB0 : snB = .seq (.seq (cSeqL (cSeqL snB)) (.cond (.tmp 19) .skip (.exit 0))) (.seq (.block 1 snI) (cSeqR (cSeqR snB))) := by kernel_rfl
def SnH (W : World) (S0 K : Nat) (p : Option Addr) (C : Nat) (ops : List OpX) (j : Nat) (a : Act) (w : World) : Prop := ∃ (x1 x7 x8 x9 x10 x11 x12 x13 x14 x15 x16 x17 x18 x19 x20 x21 x22 x23 x24 x25 x26 x27 x28 x29 x30 x31 x32 x33 x34 x35 x36 x37 x38 x39 x40 x41 x42 x43 x44 x45 x46 x47 x48 x49 x50 x51 x52 x53 x54 x55 x56 x57 x58 x59 x60 x61 x62 x63 x64 x65 x66 x67 x68 x69 x70 x71 x72 x73 x74 x75 x76 x77 x78 x79 x80 x81 x82 x83 x84 x85 x86 x87 x88 x89 x90 x91 x92 x93 x94 x95 x96 x97 x98 x99 : Value) (l : List Int), a = ⟨#[.slice p ops.length C, x1, .bool false, .pointer none, .pointer (some ⟨K, 0, none⟩), .pointer (some ⟨K + 2, 0, none⟩), .int .i64 j, x7, x8, x9, x10, x11, x12, x13, x14, x15, x16, x17, x18, x19, x20, x21, x22, x23, x24, x25, x26, x27, x28, x29, x30, x31, x32, x33, x34, x35, x36, x37, x38, x39, x40, x41, x42, x43, x44, x45, x46, x47, x48, x49, x50, x51, x52, x53, x54, x55, x56, x57, x58, x59, x60, x61, x62, x63, x64, x65, x66, x67, x68, x69, x70, x71, x72, x73, x74, x75, x76, x77, x78, x79, x80, x81, x82, x83, x84, x85, x86, x87, x88, x89, x90, x91, x92, x93, x94, x95, x96, x97, x98, x99], []⟩ ∧ SnF W S0 K (K + 2) (K + 1) l w
def Sn6 (W : World) (S0 K : Nat) (p : Option Addr) (C : Nat) (ops : List OpX) (j : Nat) (a : Act) (w : World) : Prop := ∃ (x1 x7 x8 x9 x10 x11 x12 x13 x14 x15 x20 x21 x22 x23 x24 x25 x26 x27 x28 x29 x30 x31 x32 x33 x34 x35 x36 x37 x38 x39 x40 x41 x42 x43 x44 x45 x46 x47 x48 x49 x50 x51 x52 x53 x54 x55 x56 x57 x58 x59 x60 x61 x62 x63 x64 x65 x66 x67 x68 x69 x70 x71 x72 x73 x74 x75 x76 x77 x78 x79 x80 x81 x82 x83 x84 x85 x86 x87 x88 x89 x90 x91 x92 x93 x94 x95 x96 x97 x98 x99 : Value) (l : List Int), a = ⟨#[.slice p ops.length C, x1, .bool false, .pointer none, .pointer (some ⟨K, 0, none⟩), .pointer (some ⟨K + 2, 0, none⟩), .int .i64 j, x7, x8, x9, x10, x11, x12, x13, x14, x15, .int .i64 j, .slice p ops.length C, .int .i64 ops.length, .bool (decide (j < ops.length)), x20, x21, x22, x23, x24, x25, x26, x27, x28, x29, x30, x31, x32, x33, x34, x35, x36, x37, x38, x39, x40, x41, x42, x43, x44, x45, x46, x47, x48, x49, x50, x51, x52, x53, x54, x55, x56, x57, x58, x59, x60, x61, x62, x63, x64, x65, x66, x67, x68, x69, x70, x71, x72, x73, x74, x75, x76, x77, x78, x79, x80, x81, x82, x83, x84, x85, x86, x87, x88, x89, x90, x91, x92, x93, x94, x95, x96, x97, x98, x99], []⟩ ∧ SnF W S0 K (K + 2) (K + 1) l w
theorem sn_r6 {W : World} {S0 K j : Nat} {p : Option Addr} {C : Nat} {ops : List OpX} {a : Act} {w : World} (hl : ops.length ≤ 4611686018427387904) (hj : j ≤ ops.length) (hH : SnH W S0 K p C ops j a w) (τ : Nat → Question → Nat) (d : Nat) :
 Code.wp Try.prog (cSeqL (cSeqL snB)) (ends (fun a' w' => Sn6 W S0 K p C ops j a' w') (fun _ _ => False)) ⟨a.tmps, []⟩ (re w τ d) := by
 obtain ⟨x1, x7, x8, x9, x10, x11, x12, x13, x14, x15, x16, x17, x18, x19, x20, x21, x22, x23, x24, x25, x26, x27, x28, x29, x30, x31, x32, x33, x34, x35, x36, x37, x38, x39, x40, x41, x42, x43, x44, x45, x46, x47, x48, x49, x50, x51, x52, x53, x54, x55, x56, x57, x58, x59, x60, x61, x62, x63, x64, x65, x66, x67, x68, x69, x70, x71, x72, x73, x74, x75, x76, x77, x78, x79, x80, x81, x82, x83, x84, x85, x86, x87, x88, x89, x90, x91, x92, x93, x94, x95, x96, x97, x98, x99, l, rfl, hF⟩ := hH
 obtain ⟨u, hu⟩ : ∃ c, cSeqL (cSeqL snB) = c := ⟨_, rfl⟩
 have eu := hu
 rw [hu]
 simp only [cSeqL, cSeqR, cBlk, cLoop, snB, snT, headC, tailN, Try.f6, al_od] at eu
 subst eu
 clear hu
 have HF := Lib.hid (hF.re τ d)
 clear hF
 have HX : RowKit.Hid (∀ x, x = decide ((j : Int) < (ops.length : Int)) → x = decide (j < ops.length)) := Lib.hid fun x hx => by rw [hx]; simp
 go_wp2
 exact ⟨rfl, _, _, _, _, _, _, _, _, _, _, _, _, _, _, _, _, _, _, _, _, _, _, _, _, _, _, _, _, _, _, _, _, _, _, _, _, _, _, _, _, _, _, _, _, _, _, _, _, _, _, _, _, _, _, _, _, _, _, _, _, _, _, _, _, _, _, _, _, _, _, _, _, _, _, _, _, _, _, _, _, _, _, _, _, _, _, _, _, _, _, l, rfl, HF.out⟩
theorem sn_r7 {W : World} {S0 K j : Nat} {p : Option Addr} {C : Nat} {ops : List OpX} {a : Act} {w : World} (hl : ops.length ≤ 4611686018427387904) (hj : j < ops.length) (hH : SnH W S0 K p C ops j a w) (τ : Nat → Question → Nat) (d : Nat) :
 Code.wp Try.prog (cSeqR (cSeqR snB)) (ends (fun a' w' => SnH W S0 K p C ops (j + 1) a' w') (fun _ _ => False)) ⟨a.tmps, []⟩ (re w τ d) := by
 obtain ⟨x1, x7, x8, x9, x10, x11, x12, x13, x14, x15, x16, x17, x18, x19, x20, x21, x22, x23, x24, x25, x26, x27, x28, x29, x30, x31, x32, x33, x34, x35, x36, x37, x38, x39, x40, x41, x42, x43, x44, x45, x46, x47, x48, x49, x50, x51, x52, x53, x54, x55, x56, x57, x58, x59, x60, x61, x62, x63, x64, x65, x66, x67, x68, x69, x70, x71, x72, x73, x74, x75, x76, x77, x78, x79, x80, x81, x82, x83, x84, x85, x86, x87, x88, x89, x90, x91, x92, x93, x94, x95, x96, x97, x98, x99, l, rfl, hF⟩ := hH
 obtain ⟨u, hu⟩ : ∃ c, cSeqR (cSeqR snB) = c := ⟨_, rfl⟩
 have eu := hu
 rw [hu]
 simp only [cSeqL, cSeqR, cBlk, cLoop, snB, snT, headC, tailN, Try.f6, al_od] at eu
 subst eu
 clear hu
 have HF := Lib.hid (hF.re τ d)
 clear hF
 have e1 : IntKind.i64.wrap ((j : Int) + 1) = ((j + 1 : Nat) : Int) := by rw [IntWalk.i64_in _ (by omega)]; omega
 have HL := Lib.hid (And.intro hl hj)
 clear hl hj
 go_wp2
 exact ⟨rfl, _, _, _, _, _, _, _, _, _, _, _, _, _, _, _, _, _, _, _, _, _, _, _, _, _, _, _, _, _, _, _, _, _, _, _, _, _, _, _, _, _, _, _, _, _, _, _, _, _, _, _, _, _, _, _, _, _, _, _, _, _, _, _, _, _, _, _, _, _, _, _, _, _, _, _, _, _, _, _, _, _, _, _, _, _, _, _, _, _, _, _, _, _, _, l, rfl, HF.out⟩
theorem sn_loop {Fin : Machine → Trace → Prop} (hFin : Back Try.prog Fin) {s : Nat} {W w : World} {S0 K C : Nat} {p : Option Addr} {ops : List OpX} {a : Act} (hl : ops.length ≤ 4611686018427387904) (hO : OpsIn W (.slice p ops.length C) ops) (hH : SnH W S0 K p C ops 0 a w) :
 wpJ (J0 Try.prog Fin) (.block 0 (.loop snB)) (fun s' e a' w' => s' = s ∧ e = .normal ∧ SnH W S0 K p C ops ops.length a' w') s a w := by
 have hJ := j0_JS hFin
 have hC := j0_calm hFin
 have hJC := hJ.jc
 refine wpY_block hJC (wpY_loop hJC (fun s' a' w' m => s' = s ∧ ∃ j, j + m = ops.length ∧ SnH W S0 K p C ops j a' w') ops.length ⟨rfl, 0, by omega, hH⟩ ?_)
 rintro _ a w m ⟨rfl, j, hjm, hH⟩
 rw [snB0]
 refine wpY_seq hJC (wpY_seq hJC ?_)
 have hde : a.defers = [] := by obtain ⟨x1, x7, x8, x9, x10, x11, x12, x13, x14, x15, x16, x17, x18, x19, x20, x21, x22, x23, x24, x25, x26, x27, x28, x29, x30, x31, x32, x33, x34, x35, x36, x37, x38, x39, x40, x41, x42, x43, x44, x45, x46, x47, x48, x49, x50, x51, x52, x53, x54, x55, x56, x57, x58, x59, x60, x61, x62, x63, x64, x65, x66, x67, x68, x69, x70, x71, x72, x73, x74, x75, x76, x77, x78, x79, x80, x81, x82, x83, x84, x85, x86, x87, x88, x89, x90, x91, x92, x93, x94, x95, x96, x97, x98, x99, l, rfl, _⟩ := hH; rfl
 refine wpJ_lone hJ hC plainM (by kernel_rfl) (Sn6 W S0 K p C ops j) (fun _ _ => False) (fun a w τ d h => ?_) (fun _ _ _ _ h => h) (sn_r6 hl (by omega) hH) (fun t w h6 => ?_) (fun _ _ h => h.elim)
 · obtain ⟨x1, x7, x8, x9, x10, x11, x12, x13, x14, x15, x20, x21, x22, x23, x24, x25, x26, x27, x28, x29, x30, x31, x32, x33, x34, x35, x36, x37, x38, x39, x40, x41, x42, x43, x44, x45, x46, x47, x48, x49, x50, x51, x52, x53, x54, x55, x56, x57, x58, x59, x60, x61, x62, x63, x64, x65, x66, x67, x68, x69, x70, x71, x72, x73, x74, x75, x76, x77, x78, x79, x80, x81, x82, x83, x84, x85, x86, x87, x88, x89, x90, x91, x92, x93, x94, x95, x96, x97, x98, x99, l, h1, h2⟩ := h
   exact ⟨_, _, _, _, _, _, _, _, _, _, _, _, _, _, _, _, _, _, _, _, _, _, _, _, _, _, _, _, _, _, _, _, _, _, _, _, _, _, _, _, _, _, _, _, _, _, _, _, _, _, _, _, _, _, _, _, _, _, _, _, _, _, _, _, _, _, _, _, _, _, _, _, _, _, _, _, _, _, _, _, _, _, _, _, _, _, _, _, _, _, l, h1, h2.re τ d⟩
 obtain ⟨x1, x7, x8, x9, x10, x11, x12, x13, x14, x15, x20, x21, x22, x23, x24, x25, x26, x27, x28, x29, x30, x31, x32, x33, x34, x35, x36, x37, x38, x39, x40, x41, x42, x43, x44, x45, x46, x47, x48, x49, x50, x51, x52, x53, x54, x55, x56, x57, x58, x59, x60, x61, x62, x63, x64, x65, x66, x67, x68, x69, x70, x71, x72, x73, x74, x75, x76, x77, x78, x79, x80, x81, x82, x83, x84, x85, x86, x87, x88, x89, x90, x91, x92, x93, x94, x95, x96, x97, x98, x99, l, e6, hF⟩ := h6
 obtain rfl : t = #[.slice p ops.length C, x1, .bool false, .pointer none, .pointer (some ⟨K, 0, none⟩), .pointer (some ⟨K + 2, 0, none⟩), .int .i64 j, x7, x8, x9, x10, x11, x12, x13, x14, x15, .int .i64 j, .slice p ops.length C, .int .i64 ops.length, .bool (decide (j < ops.length)), x20, x21, x22, x23, x24, x25, x26, x27, x28, x29, x30, x31, x32, x33, x34, x35, x36, x37, x38, x39, x40, x41, x42, x43, x44, x45, x46, x47, x48, x49, x50, x51, x52, x53, x54, x55, x56, x57, x58, x59, x60, x61, x62, x63, x64, x65, x66, x67, x68, x69, x70, x71, x72, x73, x74, x75, x76, x77, x78, x79, x80, x81, x82, x83, x84, x85, x86, x87, x88, x89, x90, x91, x92, x93, x94, x95, x96, x97, x98, x99] := congrArg Act.tmps e6
 clear e6
 rw [hde]
 show wpJ _ _ _ _ _ _
 refine wpY_cond hJC (t := decide (j < ops.length)) rfl ?_
 by_cases hlt : j < ops.length
 · rw [if_pos (by simpa using hlt)]
   refine wpY_skip hJC ?_
   show wpJ _ _ _ _ _ _
   refine wpY_seq hJC (wpY_block hJC ?_)
   intro b k cs hb hk
   have hne : ops ≠ [] := fun e => by rw [e] at hlt; exact absurd hlt (Nat.not_lt_zero _)
   obtain ⟨p', C', e, hc⟩ := hO
   cases e
   obtain ⟨g, go, rfl, hcell⟩ := hc hne
   obtain ⟨op, hop⟩ : ∃ op, ops[j]? = some op := ⟨_, List.getElem?_eq_getElem hlt⟩
   have HO : RowKit.Hid (j < ops.length ∧ ops.length ≤ 4611686018427387904 ∧ ∀ w', Beyond W w' → ∀ i x, op.cells[i]? = some x → w'.cell? ⟨g, go + j * 4 + i, none⟩ = some x) := Lib.hid ⟨hlt, hl, fun w' hb i x hx => hb.cell (hcell j op hop i x hx)⟩
   have e19 : decide (j < ops.length) = true := by simpa using hlt
   rw [e19]
   refine sn_nil hFin hb hF HO ?_
   intro y1 y7 y8 y9 y10 y11 y12 y13 y14 y15 y16 y17 y18 y19 y20 y21 y22 y23 y24 y25 y26 y27 y28 y29 y30 y31 y32 y33 y34 y35 y36 y37 y38 y39 y40 y41 y42 y43 y44 y45 y46 y47 y48 y49 y50 y51 y52 y53 y54 y55 y56 y57 y58 y59 y60 y61 y62 y63 y64 y65 y66 y67 y68 y69 y70 y71 y72 y73 y74 y75 y76 y77 y78 y79 y80 y81 y82 y83 y84 y85 y86 y87 y88 y89 y90 y91 y92 y93 y94 y95 y96 y97 y98 y99 w' hF'
   refine sn_cnt hFin hb hF' HO (do_nolist 1 op l) ?_
   intro q1 q7 q8 q9 q10 q11 q12 q13 q14 q15 q16 q17 q18 q19 q20 q21 q22 q23 q24 q25 q26 q27 q28 q29 q30 q31 q32 q33 q34 q35 q36 q37 q38 q39 q40 q41 q42 q43 q44 q45 q46 q47 q48 q49 q50 q51 q52 q53 q54 q55 q56 q57 q58 q59 q60 q61 q62 q63 q64 q65 q66 q67 q68 q69 q70 q71 q72 q73 q74 q75 q76 q77 q78 q79 q80 q81 q82 q83 q84 q85 q86 q87 q88 q89 q90 q91 q92 q93 q94 q95 q96 q97 q98 q99 w'' hF''
   refine hk _ .normal ⟨#[.slice (some ⟨g, go, none⟩) ops.length C, q1, .bool false, .pointer none, .pointer (some ⟨K, 0, none⟩), .pointer (some ⟨K + 2, 0, none⟩), .int .i64 j, q7, q8, q9, q10, q11, q12, q13, q14, q15, q16, q17, q18, q19, q20, q21, q22, q23, q24, q25, q26, q27, q28, q29, q30, q31, q32, q33, q34, q35, q36, q37, q38, q39, q40, q41, q42, q43, q44, q45, q46, q47, q48, q49, q50, q51, q52, q53, q54, q55, q56, q57, q58, q59, q60, q61, q62, q63, q64, q65, q66, q67, q68, q69, q70, q71, q72, q73, q74, q75, q76, q77, q78, q79, q80, q81, q82, q83, q84, q85, q86, q87, q88, q89, q90, q91, q92, q93, q94, q95, q96, q97, q98, q99], []⟩ w'' ?_
   show wpJ _ _ _ _ _ _
   refine wpJ_lone hJ hC plainM (by kernel_rfl) (SnH W S0 K (some ⟨g, go, none⟩) C ops (j + 1)) (fun _ _ => False) (fun a w τ d h => ?_) (fun _ _ _ _ h => h) (sn_r7 (a := ⟨#[.slice (some ⟨g, go, none⟩) ops.length C, q1, .bool false, .pointer none, .pointer (some ⟨K, 0, none⟩), .pointer (some ⟨K + 2, 0, none⟩), .int .i64 j, q7, q8, q9, q10, q11, q12, q13, q14, q15, q16, q17, q18, q19, q20, q21, q22, q23, q24, q25, q26, q27, q28, q29, q30, q31, q32, q33, q34, q35, q36, q37, q38, q39, q40, q41, q42, q43, q44, q45, q46, q47, q48, q49, q50, q51, q52, q53, q54, q55, q56, q57, q58, q59, q60, q61, q62, q63, q64, q65, q66, q67, q68, q69, q70, q71, q72, q73, q74, q75, q76, q77, q78, q79, q80, q81, q82, q83, q84, q85, q86, q87, q88, q89, q90, q91, q92, q93, q94, q95, q96, q97, q98, q99], []⟩) hl hlt ⟨_, _, _, _, _, _, _, _, _, _, _, _, _, _, _, _, _, _, _, _, _, _, _, _, _, _, _, _, _, _, _, _, _, _, _, _, _, _, _, _, _, _, _, _, _, _, _, _, _, _, _, _, _, _, _, _, _, _, _, _, _, _, _, _, _, _, _, _, _, _, _, _, _, _, _, _, _, _, _, _, _, _, _, _, _, _, _, _, _, _, _, _, _, _, _, rfl, hF''⟩) (fun t w h7 => ?_) (fun _ _ h => h.elim)
   · obtain ⟨x1, x7, x8, x9, x10, x11, x12, x13, x14, x15, x16, x17, x18, x19, x20, x21, x22, x23, x24, x25, x26, x27, x28, x29, x30, x31, x32, x33, x34, x35, x36, x37, x38, x39, x40, x41, x42, x43, x44, x45, x46, x47, x48, x49, x50, x51, x52, x53, x54, x55, x56, x57, x58, x59, x60, x61, x62, x63, x64, x65, x66, x67, x68, x69, x70, x71, x72, x73, x74, x75, x76, x77, x78, x79, x80, x81, x82, x83, x84, x85, x86, x87, x88, x89, x90, x91, x92, x93, x94, x95, x96, x97, x98, x99, l, h1, h2⟩ := h
     exact ⟨_, _, _, _, _, _, _, _, _, _, _, _, _, _, _, _, _, _, _, _, _, _, _, _, _, _, _, _, _, _, _, _, _, _, _, _, _, _, _, _, _, _, _, _, _, _, _, _, _, _, _, _, _, _, _, _, _, _, _, _, _, _, _, _, _, _, _, _, _, _, _, _, _, _, _, _, _, _, _, _, _, _, _, _, _, _, _, _, _, _, _, _, _, _, l, h1, h2.re τ d⟩
   · exact ⟨m - 1, by omega, rfl, j + 1, by omega, h7⟩
 · rw [if_neg (by simpa using hlt)]
   refine wpY_exit hJC ?_
   have e19 : decide (j < ops.length) = false := by simpa using hlt
   obtain rfl : j = ops.length := by omega
   exact ⟨rfl, rfl, _, _, _, _, _, _, _, _, _, _, _, _, _, _, _, _, _, _, _, _, _, _, _, _, _, _, _, _, _, _, _, _, _, _, _, _, _, _, _, _, _, _, _, _, _, _, _, _, _, _, _, _, _, _, _, _, _, _, _, _, _, _, _, _, _, _, _, _, _, _, _, _, _, _, _, _, _, _, _, _, _, _, _, _, _, _, _, _, _, _, _, _, _, _, l, rfl, hF⟩
end Go.Proofs
