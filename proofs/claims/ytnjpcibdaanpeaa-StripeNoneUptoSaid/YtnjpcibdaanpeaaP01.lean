/- YtnjpcibdaanpeaaSNone6: part 1 of the proof (the texts behind it, in order). -/
import Derived.Test.YtnjpcibdaanpeaaP00
set_option linter.unusedSimpArgs false
set_option linter.unusedVariables false
set_option linter.unusedSectionVars false
set_option linter.unnecessarySimpa false
set_option maxHeartbeats 1000000
namespace Go.Car
open Go Go.Conc Go.RowKit
def trap : Frame := { fn := 0, tmps := #[], todo := [.code (.refuse "")], defers := [{ target := .nil, args := #[] }], mode := .run, kind := .normal }
section
variable {P : Program} {A : FuncId → Bool}
theorem lone_inj {fr fr' : Frame} {cs cs' : List Frame} {w w' : World} (h : lone fr cs w = lone fr' cs' w') : fr = fr' ∧ cs = cs' ∧ w = w' := by
 simp only [lone, Machine.mk.injEq, Array.mk.injEq, List.cons.injEq, Goroutine.mk.injEq, and_true, true_and] at h
 exact ⟨h.2.1, h.2.2, h.1⟩
theorem runN_go {fr fr' : Frame} {cs cs' : List Frame} {w w' : World} {es : Array Event} (h : stepG P true (G fr cs) w = .go (G fr' cs') w' es) (n : Nat) : runN P (n + 1) (lone fr cs w) = runN P n (lone fr' cs' w') := by
 have : step P (lone fr cs w) = .next (lone fr' cs' w') := step_lone_go (by
  have h' : stepG P true { frame := fr, callers := cs, status := .running, dying := none } w = .go (G fr' cs') w' es := h
  rw [h']; rfl)
 simp only [runN, this]
theorem runN_ended {fr : Frame} {cs : List Frame} {w w' : World} {o : Outcome} {es : Array Event} (h : stepG P true (G fr cs) w = .ended o w' es) (n : Nat) (m : Machine) : runN P (n + 1) (lone fr cs w) ≠ .next m := by
 have : step P (lone fr cs w) = .ended o w' := step_lone_ended (by
  have h' : stepG P true { frame := fr, callers := cs, status := .running, dying := none } w = .ended o w' es := h
  rw [h']; rfl)
 simp [runN, this]
theorem trap_run (k : Nat) (v : Value) (w : World) {frf : Frame} {wf : World} : runN P k (lone (trap.finish v) [] w) ≠ .next (lone frf [trap] wf) := by
 cases k with
 | zero =>
  intro h
  simp only [runN, Stepped.next.injEq] at h
  have := (lone_inj h).2.1
  cases this
 | succ k =>
  have h : ∃ o w' es, stepG P true (G (trap.finish v) []) w = .ended o w' es := by simp [G, stepG, stepG.exec, trap, Frame.finish]
  obtain ⟨o, w', es, h⟩ := h
  exact runN_ended h k _
theorem doomed (k : Nat) : ∀ (fr : Frame) (above : List Frame) (w : World) (ch : List PanicEntry), fr.mode = .panicking ch → fr.defers = [] → (∀ c ∈ above, Fine P A c) →
 ∀ {frf : Frame} {wf : World}, (∀ ch, frf.mode ≠ .panicking ch) → runN P k (lone fr (above ++ [trap]) w) ≠ .next (lone frf [trap] wf) := by
 induction k with
 | zero =>
  intro fr above w ch hm _ _ frf wf hf h
  simp only [runN, Stepped.next.injEq] at h
  rw [(lone_inj h).1] at hm
  exact hf _ hm
 | succ k ih =>
  intro fr above w ch hm hd ha frf wf hf
  by_cases hcat : fr.catches P = true
  · have h : ∃ o w' es, stepG P true (G fr (above ++ [trap])) w = .ended o w' es := by cases above <;> simp [G, stepG, unwind, hm, hd, hcat]
    obtain ⟨o, w', es, h⟩ := h
    exact runN_ended h k _
  · cases above with
    | nil =>
     have h1 : stepG P true (G fr ([] ++ [trap])) w = .go (G (trap.raise ch) []) w := by simp [G, stepG, unwind, hm, hd, hcat]
     rw [runN_go h1]
     cases k with
     | zero =>
      intro h
      simp only [runN, Stepped.next.injEq] at h
      have := (lone_inj h).2.1
      cases this
     | succ k =>
      have h : ∃ o w' es, stepG P true (G (trap.raise ch) []) w = .ended o w' es := ⟨_, _, _, by simp [G, stepG, unwind, trap, Frame.raise, callDeferred]; exact ⟨rfl, rfl, rfl⟩⟩
      obtain ⟨o, w', es, h⟩ := h
      exact runN_ended h k _
    | cons c r =>
     have hc := ha c (by simp)
     have h1 : stepG P true (G fr (c :: r ++ [trap])) w = .go (G (c.raise ch) (r ++ [trap])) w := by simp [G, stepG, unwind, hm, hd, hcat]
     rw [runN_go h1]
     have hrm : (c.raise ch).mode = .panicking ch := by
      unfold Frame.raise
      rcases hc.mode with h | h <;> rw [h]
     have hrd : (c.raise ch).defers = [] := by
      unfold Frame.raise
      rcases hc.mode with h | h <;> rw [h] <;> exact hc.defers
     exact ih (c.raise ch) r w ch hrm hrd (fun x hx => ha x (by simp [hx])) hf
structure St where
 fr : Frame
 ab : List Frame
 w : World
 deriving Inhabited
def NextTo (P : Program) (A : FuncId → Bool) (s : St) (τ0 : Nat → Question → Nat) (d n : Nat) (s' : St) (es : Array Event) : Prop :=
 Fine P A s'.fr ∧ (∀ c ∈ s'.ab, Fine P A c) ∧ s'.w.tape = τ0 ∧ (∀ e ∈ es, calmEv true e) ∧ s'.w.drawn = d + n ∧
 ∀ main cs τ e, (∀ j, j < n → τ (e + j) = τ0 (d + j)) → stepG P main (G s.fr (s.ab ++ cs)) (re s.w τ e) = .go (G s'.fr (s'.ab ++ cs)) (re s'.w τ (e + n)) es
def Halts (P : Program) (s : St) (τ0 : Nat → Question → Nat) (d n : Nat) : Prop :=
 (s.ab = [] ∧ s.fr.mode = .returning) ∨ ∀ main cs τ e, (∀ j, j < n → τ (e + j) = τ0 (d + j)) → Bad (stepG P main (G s.fr (s.ab ++ cs)) (re s.w τ e)) s.ab cs
theorem way_alt (hP : Plain P A) (s : St) (hf : Fine P A s.fr) (ha : ∀ c ∈ s.ab, Fine P A c) (τ0 : Nat → Question → Nat) (d : Nat) : (∃ n s' es, NextTo P A s τ0 d n s' es) ∨ ∃ n, Halts P s τ0 d n := by
 cases way hP s.fr s.ab (re s.w τ0 d) hf ha with
 | pop h hm => exact .inr ⟨0, .inl ⟨h, hm⟩⟩
 | on fr' above' w' es hf' ha' hd ht he hs =>
  have hd' : d ≤ w'.drawn := hd
  refine .inl ⟨w'.drawn - d, ⟨fr', above', w'⟩, es, hf', ha', ht, he, by show w'.drawn = _; omega, fun main cs τ e hag => ?_⟩
  exact hs main cs τ e fun j hj => hag j (by have : d + j < w'.drawn := hj; omega)
 | bad w' hd hs =>
  have hd' : d ≤ w'.drawn := hd
  exact .inr ⟨w'.drawn - d, .inr fun main cs τ e hag => hs main cs τ e fun j hj => hag j (by have : d + j < w'.drawn := hj; omega)⟩
theorem lift (hP : Plain P A) {main : Bool} {J : Goroutine → World → Prop} {cs : List Frame}
 (hJ : ∀ fr cs' w, Top P A fr → (∀ τ d, ∃ fr' cs'' w' es, stepG P main (G fr cs') (re w τ d) = .go (G fr' cs'') w' es ∧ (∀ e ∈ es, calmEv true e) ∧ J (G fr' cs'') w') → J (G fr cs') w)
 {fr₀ : Frame} {w : World} (hfine : Fine P A fr₀) {Φ : Frame → World → Prop} (hΦr : ∀ fr w τ d, Φ fr w → Φ fr (re w τ d)) (hΦm : ∀ fr w, Φ fr w → fr.mode = .returning)
 (alone : ∀ τ d, ∃ k frf wf, runN P k (lone fr₀ [trap] (re w τ d)) = .next (lone frf [trap] wf) ∧ Φ frf wf)
 (after : ∀ fr w, Φ fr w → J (G fr cs) w) : J (G fr₀ cs) w := by
 classical
 refine Classical.byContradiction fun hnot => ?_
 let bad : St → Prop := fun s => Fine P A s.fr ∧ (∀ c ∈ s.ab, Fine P A c) ∧ ¬ J (G s.fr (s.ab ++ cs)) s.w
 have alt : ∀ s, bad s → ∃ τ d n, (∃ s' es, NextTo P A s τ d n s' es ∧ bad s') ∨ Halts P s τ d n := by
  intro s ⟨hf, ha, hj⟩
  have : ¬ ∀ τ d, ∃ fr' cs'' w' es, stepG P main (G s.fr (s.ab ++ cs)) (re s.w τ d) = .go (G fr' cs'') w' es ∧ (∀ e ∈ es, calmEv true e) ∧ J (G fr' cs'') w' := fun h => hj (hJ _ _ _ hf.top h)
  obtain ⟨τ, hd⟩ := Classical.not_forall.1 this
  obtain ⟨d, hd⟩ := Classical.not_forall.1 hd
  rcases way_alt hP s hf ha τ d with ⟨n, s', es, hn⟩ | ⟨n, hn⟩
  · refine ⟨τ, d, n, .inl ⟨s', es, hn, hn.1, hn.2.1, fun hj' => hd ?_⟩⟩
    have hst := hn.2.2.2.2.2 main cs τ d (fun j _ => rfl)
    have e2 : re s'.w τ (d + n) = s'.w := by rw [← hn.2.2.2.2.1, ← hn.2.2.1]; rfl
    rw [e2] at hst
    exact ⟨_, _, _, _, hst, hn.2.2.2.1, hj'⟩
  · exact ⟨τ, d, n, .inr hn⟩
 let tt : St → Nat → Question → Nat := fun s => if h : bad s then (alt s h).choose else fun _ _ => 0
 let dd : St → Nat := fun s => if h : bad s then (alt s h).choose_spec.choose else 0
 let nn : St → Nat := fun s => if h : bad s then (alt s h).choose_spec.choose_spec.choose else 0
 have hdn : ∀ s (h : bad s), (∃ s' es, NextTo P A s (tt s) (dd s) (nn s) s' es ∧ bad s') ∨ Halts P s (tt s) (dd s) (nn s) := by
  intro s h
  simp only [tt, dd, nn, dif_pos h]
  exact (alt s h).choose_spec.choose_spec.choose_spec
 let nx : St → St := fun s => if h : ∃ s' es, NextTo P A s (tt s) (dd s) (nn s) s' es ∧ bad s' then h.choose else s
 let sq : Nat → St := fun k => Nat.rec ⟨fr₀, [], w⟩ (fun _ s => nx s) k
 let D : Nat → Nat := fun k => Nat.rec 0 (fun k x => x + nn (sq k)) k
 have sq0 : sq 0 = ⟨fr₀, [], w⟩ := rfl
 have sqS : ∀ k, sq (k + 1) = nx (sq k) := fun k => rfl
 have DS : ∀ k, D (k + 1) = D k + nn (sq k) := fun k => rfl
 have Dmono : ∀ k m, k ≤ m → D k ≤ D m := by
  intro k m h
  induction h with
  | refl => exact Nat.le_refl _
  | step _ ih => exact Nat.le_trans ih (by rw [DS]; exact Nat.le_add_right _ _)
 let τ : Nat → Question → Nat := fun i => if h : ∃ k, D k ≤ i ∧ i < D (k + 1) then tt (sq h.choose) (dd (sq h.choose) + (i - D h.choose)) else fun _ => 0
 have hτ : ∀ k j, j < nn (sq k) → τ (D k + j) = tt (sq k) (dd (sq k) + j) := by
  intro k j hj
  have hex : ∃ k', D k' ≤ D k + j ∧ D k + j < D (k' + 1) := ⟨k, Nat.le_add_right _ _, by rw [DS]; omega⟩
  have hk : hex.choose = k := by
   obtain ⟨h1, h2⟩ := hex.choose_spec
   rcases Nat.lt_trichotomy hex.choose k with h | h | h
   · have := Dmono (hex.choose + 1) k h; omega
   · exact h
   · have := Dmono (k + 1) hex.choose h; rw [DS] at this; omega
  simp only [τ, dif_pos hex]
  rw [hk]
  congr 1
  omega
 obtain ⟨N, frf, wf, hrun, hΦ⟩ := alone τ 0
 have hbad0 : bad (sq 0) := ⟨hfine, fun c hc => (by cases hc), hnot⟩
 have main' : ∀ k, k ≤ N → bad (sq k) ∧ runN P (N - k) (lone (sq k).fr ((sq k).ab ++ [trap]) (re (sq k).w τ (D k))) = .next (lone frf [trap] wf) := by
  intro k
  induction k with
  | zero => exact fun _ => ⟨hbad0, hrun⟩
  | succ k ih =>
   intro hk
   obtain ⟨hb, hr⟩ := ih (by omega)
   obtain ⟨m, hm⟩ : ∃ m, N - k = m + 1 := ⟨N - k - 1, by omega⟩
   rw [hm] at hr
   have hag : ∀ j, j < nn (sq k) → τ (D k + j) = tt (sq k) (dd (sq k) + j) := fun j hj => hτ k j hj
   rcases hdn _ hb with hex | hh
   · have e : sq (k + 1) = hex.choose := by rw [sqS]; simp only [nx, dif_pos hex]
     obtain ⟨es, hn, hb'⟩ := hex.choose_spec
     rw [← e] at hn hb'
     refine ⟨hb', ?_⟩
     have hst := hn.2.2.2.2.2 true [trap] τ (D k) hag
     rw [runN_go hst] at hr
     rw [show N - (k + 1) = m by omega, DS]
     exact hr
   · exfalso
     rcases hh with ⟨h1, h2⟩ | hh
     ·
      rw [h1] at hr
      simp only [List.nil_append] at hr
      have hf := hb.1
      generalize (sq k).fr = fr at hr hf h2
      generalize re (sq k).w τ (D k) = W at hr
      have hend : (∃ v w', ∃ es, stepG P true (G fr [trap]) W = .go (G (trap.finish v) []) w' es) ∨ ∃ o w' es, stepG P true (G fr [trap]) W = .ended o w' es := by
       cases hfn : P.funcs[fr.fn]? with
       | none => exact .inl ⟨_, _, _, by simp [G, stepG, unwind, doReturn, h2, hf.defers, hf.kind, hfn]; exact ⟨rfl, rfl, rfl⟩⟩
       | some fn =>
        have hst : stepG P true (G fr [trap]) W = GStep.after (seen P fr.fn ((results fn fr.tmps).runT P W #[]).2) (match ((results fn fr.tmps).runT P W #[]).1 with
         | .ok v w => doReturn P true fr [trap] none v w
         | .halt (.stuck s) w => .ended (.stuck s (fr.pos P)) w
         | .halt _ w => .ended (.stuck "return: the result variables cannot be read" (fr.pos P)) w) := by
         simp only [G, stepG, unwind, h2, hf.defers, hfn]
         cases (Sem.runT P (results fn fr.tmps) W #[]).fst with
         | ok v w => rfl
         | halt h w => cases h <;> rfl
        rw [hst]
        generalize (Sem.runT P (results fn fr.tmps) W #[]).fst = rr
        cases rr with
        | ok v w => exact .inl ⟨v, w, _, by simp only [doReturn, hf.kind, GStep.after]; rfl⟩
        | halt h w => cases h <;> exact .inr ⟨_, _, _, rfl⟩
      rcases hend with ⟨v, w', es, h⟩ | ⟨o, w', es, h⟩
      · rw [runN_go h] at hr; exact trap_run _ _ _ hr
      · exact runN_ended h _ _ hr
     · rcases hh true [trap] τ (D k) hag with ⟨o, w', es, h⟩ | ⟨fr', ch, w', es, h, hm', hd'⟩
       · exact runN_ended h _ _ hr
       · rw [runN_go h] at hr
         exact doomed _ fr' (sq k).ab w' ch hm' hd' hb.2.1 (fun ch h => by rw [hΦm _ _ hΦ] at h; cases h) hr
 obtain ⟨hb, hr⟩ := main' N (Nat.le_refl _)
 simp only [Nat.sub_self, runN, Stepped.next.injEq] at hr
 obtain ⟨e1, e2, e3⟩ := lone_inj hr
 have hab : (sq N).ab = [] := by
  cases h : (sq N).ab with
  | nil => rfl
  | cons c r =>
   rw [h] at e2
   have := congrArg List.length e2
   simp at this
 refine hb.2.2 ?_
 rw [hab, e1]
 refine after _ _ ?_
 have hw : (sq N).w = re wf (sq N).w.tape (sq N).w.drawn := by rw [← e3]; rfl
 rw [hw]
 exact hΦr _ _ _ _ hΦ
end
def KK (Kc : Addr → Option Value) (w : World) : Prop := ∀ a v, Kc a = some v → w.cell? a = some v ∧ w.frozen? a = false
def StillK (Kc : Addr → Option Value) (l : Loc) : Prop := ∃ a v, l = .cell a ∧ Kc a = some v
def EvOk (Kc : Addr → Option Value) (e : Event) : Prop := (∀ x, (MemAct.ofEvent e).touch? = some x → StillK Kc x.loc → x.write = false) ∧ e.loc ≠ .mark .disable ∧ e.loc ≠ .mark .enable
def OkD (Kc : Addr → Option Value) (Pb : Nat → Prop) (w w' : World) : Prop :=
 ((KK Kc w → KK Kc w') ∧ w'.os = w.os ∧ w'.output = w.output) ∧ ∀ c, Pb c → (∃ cap k, w.heap[c]? = some (.chan cap #[] false k k false)) → w'.heap[c]? = w.heap[c]?
theorem OkD.refl (Kc : Addr → Option Value) (Pb : Nat → Prop) (w : World) : OkD Kc Pb w w := ⟨⟨id, rfl, rfl⟩, fun _ _ _ => rfl⟩
theorem OkD.trans {Kc : Addr → Option Value} {Pb : Nat → Prop} {a b c : World} (h : OkD Kc Pb a b) (k : OkD Kc Pb b c) : OkD Kc Pb a c :=
 ⟨⟨fun x => k.1.1 (h.1.1 x), k.1.2.1.trans h.1.2.1, k.1.2.2.trans h.1.2.2⟩, fun c' hc hx => by
   have e := h.2 c' hc hx
   rw [k.2 c' hc (by rw [e]; exact hx), e]⟩
theorem cell_lt {w : World} {a : Addr} {v : Value} (h : w.cell? a = some v) : a.block < w.heap.size := by
 refine Classical.byContradiction fun hn => ?_
 have : w.heap[a.block]? = none := Array.getElem?_eq_none (by omega)
 simp [World.cell?, this] at h
theorem OkD.of_below {Kc : Addr → Option Value} {Pb : Nat → Prop} {w w' : World} (h : Below w.heap.size w w') : OkD Kc Pb w w' := by
 refine ⟨⟨fun hK a v e => ?_, h.os, h.output⟩, fun c _ ⟨cap, k, hx⟩ => h.block c ?_⟩
 · obtain ⟨h1, h2⟩ := hK a v e
   have hlt := cell_lt h1
   exact ⟨by rw [← h1]; simp only [World.cell?, h.block _ hlt], by rw [← h2]; simp only [World.frozen?, h.block _ hlt]⟩
 · refine Classical.byContradiction fun hn => ?_
   rw [Array.getElem?_eq_none (by omega)] at hx
   cases hx
theorem touch_write {e : Event} (hm : ∀ m, e.loc = .mark m → okMark m) {x : Touch} (hx : (MemAct.ofEvent e).touch? = some x) : x.write = e.write ∧ x.loc = e.loc := by
 obtain ⟨loc, wr, sy⟩ := e
 cases loc with
 | mark m =>
  have := hm m rfl
  cases m <;> first | exact this.elim | simp [MemAct.ofEvent, MemAct.touch?] at hx
 | cell a => simp only [MemAct.ofEvent, MemAct.touch?, al_oi] at hx; rw [← hx]; exact ⟨rfl, rfl⟩
 | obj r => cases wr <;> cases sy <;> simp only [MemAct.ofEvent, MemAct.touch?, al_oi, reduceCtorEq] at hx <;> (rw [← hx]; exact ⟨rfl, rfl⟩)
 | output => simp only [MemAct.ofEvent, MemAct.touch?, al_oi] at hx; rw [← hx]; exact ⟨rfl, rfl⟩
 | goroutines => simp only [MemAct.ofEvent, MemAct.touch?, al_oi] at hx; rw [← hx]; exact ⟨rfl, rfl⟩
theorem calm_marks {st : Bool} {e : Event} (h : calmEv st e) : e.loc ≠ .mark .disable ∧ e.loc ≠ .mark .enable :=
 ⟨fun hx => h.1 _ hx, fun hx => h.1 _ hx⟩
theorem evOk_calm {Kc : Addr → Option Value} {e : Event} (h : calmEv false e) : EvOk Kc e :=
 ⟨fun x hx _ => by rw [(touch_write h.1 hx).1]; exact h.2 rfl, calm_marks h⟩
theorem evOk_none {e : Event} (h : calmEv true e) : EvOk (fun _ => none) e := ⟨fun x _ ⟨a, v, _, hv⟩ => (by cases hv), calm_marks h⟩
theorem evOk_write {Kc : Addr → Option Value} (a : Addr) (s : Bool) (h : Kc a = none) : EvOk Kc ⟨.cell a, true, s⟩ := by
 refine ⟨fun x hx ⟨b, v, hb, hv⟩ => ?_, by simp, by simp⟩
 simp only [MemAct.ofEvent, MemAct.touch?, al_oi] at hx
 rw [← hx] at hb
 simp only [Loc.cell.injEq] at hb
 rw [← hb, h] at hv
 cases hv
theorem evOk_read {Kc : Addr → Option Value} (a : Addr) (s : Bool) : EvOk Kc ⟨.cell a, false, s⟩ := evOk_calm ⟨by simp, fun _ => rfl⟩
theorem low_one (x : MemAct) : ∃ B, x.low B := by
 cases x with
 | access e =>
  obtain ⟨loc, wr, sy⟩ := e
  cases loc with
  | cell a => exact ⟨a.block + 1, Nat.lt_succ_self _⟩
  | obj r => exact ⟨r + 1, Nat.lt_succ_self _⟩
  | _ => exact ⟨0, trivial⟩
 | mark m => cases m <;> first | exact ⟨_, Nat.lt_succ_self _⟩ | exact ⟨0, trivial⟩
 | go _ => exact ⟨0, trivial⟩
 | start => exact ⟨0, trivial⟩
 | send c _ => exact ⟨c + 1, Nat.lt_succ_self _⟩
 | sendDone c _ => exact ⟨c + 1, Nat.lt_succ_self _⟩
 | recv c _ _ => exact ⟨c + 1, Nat.lt_succ_self _⟩
 | recvDone c _ => exact ⟨c + 1, Nat.lt_succ_self _⟩
 | close c => exact ⟨c + 1, Nat.lt_succ_self _⟩
 | recvClosed c => exact ⟨c + 1, Nat.lt_succ_self _⟩
theorem low_exists (es : Array Event) : ∃ B, ∀ e ∈ es, (MemAct.ofEvent e).low B := by
 have : ∀ l : List Event, ∃ B, ∀ e ∈ l, (MemAct.ofEvent e).low B := by
  intro l
  induction l with
  | nil => exact ⟨0, fun e he => by cases he⟩
  | cons x l ih =>
   obtain ⟨B, hB⟩ := ih
   obtain ⟨B', hB'⟩ := low_one (MemAct.ofEvent x)
   refine ⟨max B B', fun e he => ?_⟩
   rcases List.mem_cons.1 he with rfl | he
   · exact MemAct.low_mono (Nat.le_max_right _ _) hB'
   · exact MemAct.low_mono (Nat.le_max_left _ _) (hB e he)
 obtain ⟨B, hB⟩ := this es.toList
 exact ⟨B, fun e he => hB e (Array.mem_toList_iff.2 he)⟩
section
variable {P : Program}
theorem goes_mono {main : Bool} {R : World → World → Prop} {D D' : World → World → Array Event → Prop} {S S' : Goroutine → World → Prop} (hD : ∀ w w' es, D w w' es → D' w w' es) (hS : ∀ g w, S g w → S' g w) :
 ∀ (n : Nat) (g : Goroutine) (w : World), Goes P main R D S n g w → Goes P main R D' S' n g w := by
 intro n
 induction n with
 | zero => exact fun g w h w₁ h₁ => hS _ _ (h w₁ h₁)
 | succ n ih =>
  intro g w h
  rcases h with h | ⟨hr, h⟩
  · exact .inl fun w₁ h₁ => hS _ _ (h w₁ h₁)
  · refine .inr ⟨hr, fun w₁ h₁ => ?_⟩
    have := h w₁ h₁
    revert this
    cases stepG P main g w₁ <;> simp only [GStep.goes, imp_self]
    exact fun ⟨d, x⟩ => ⟨hD _ _ _ d, ih _ _ x⟩
theorem evC_mono {Still : Loc → Prop} {B B' : Nat} (hB : B ≤ B') {e : Event} (h : EvC Still B e) : EvC Still B' e := by
 obtain ⟨a, h1, h2, h3⟩ := h; exact ⟨a, h1, h2, by omega⟩
theorem sits_mono {main : Bool} {K : World → Prop} {Still : Loc → Prop} {B B' : Nat} (hB : B ≤ B') {s : Seat} {n : Nat} {g : Goroutine} (h : Sits P main K Still B s n g) : Sits P main K Still B' s n g := by
 have hat : ∀ g g₂, AtIn P main K Still B s g g₂ → AtIn P main K Still B' s g g₂ := fun g g₂ ⟨a, b, c, d, e, es, hes, hst⟩ => ⟨a, b, c, d, e, es, fun x hx => evC_mono hB (hes x hx), hst⟩
 rcases h with ⟨k, w, hn, hg⟩ | ⟨hn, g₀, g₂, hg, ha⟩
 · exact .inl ⟨k, w, hn, goes_mono (fun w w' es h => ⟨h.1, fun e he => evC_mono hB (h.2 e he)⟩) (fun g w ⟨g₂, h⟩ => ⟨g₂, hat g g₂ h⟩) _ _ _ hg⟩
 · exact .inr ⟨hn, g₀, g₂, hg, hat _ _ ha⟩
theorem idle_mono {K : World → Prop} {Still : Loc → Prop} {B B' : Nat} (hB : B ≤ B') {T : Trace} {i n : Nat} {g : Goroutine} : ∀ {o : Option Seat}, Idle P K Still B T i n g o → Idle P K Still B' T i n g o
 | none, h => h
 | some _, h => sits_mono hB h
theorem ring_mono {K : World → Prop} {Still : Loc → Prop} {B B' : Nat} (hB : B ≤ B') {Mem : Nat → Prop} {Inb : Nat → Option Seat} {h : Nat} {T : Trace} {gs : Array Goroutine} {w : World} {q : Nat → Nat} (C : Ring P K Still B Mem Inb h T gs w q) : Ring P K Still B' Mem Inb h T gs w q :=
 Ring.mono C hB fun i g hi hg => idle_mono hB (C.idle i g hi hg)
def Back (P : Program) (Fin : Machine → Trace → Prop) : Prop := ∀ N m T m' T', runNT P N m T = (.next m', T') → m'.world.os = m.world.os → m'.world.output = m.world.output → Fin m' T' → Fin m T
def Hold (P : Program) (Fin : Machine → Trace → Prop) (Kc : Addr → Option Value) (Inb : Nat → Option Seat) (h n : Nat) (g : Goroutine) (w : World) : Prop :=
 ∀ (d : Nat) (Mem : Nat → Prop) (B : Nat) (gs : Array Goroutine) (sl : Option (Nat × Nat)) (T : Trace) (q : Nat → Nat), Mem h → gs.size = n → gs[h]? = some g →
  Ring P (KK Kc) (StillK Kc) B Mem Inb h T gs (w.at d) q → Fin (crowd gs (w.at d) sl) T
def Seats (Inb : Nat → Option Seat) (c : Nat) : Prop := ∃ i s, Inb i = some s ∧ s.has c
theorem hold_at {Fin : Machine → Trace → Prop} {Kc : Addr → Option Value} {Inb : Nat → Option Seat} {h n : Nat} {g : Goroutine} {w : World} (H : Hold P Fin Kc Inb h n g w) (d : Nat) : Hold P Fin Kc Inb h n g (w.at d) := fun e => H e
theorem hold_step {Fin : Machine → Trace → Prop} (hFin : Back P Fin) {Kc : Addr → Option Value} {Inb : Nat → Option Seat} {h n : Nat} {g : Goroutine} {w : World} (hrun : g.status = .running)
 (hs : ∀ d, ∃ g' w' es, stepG P (h == 0) g (w.at d) = .go g' w' es ∧ OkD Kc (Seats Inb) (w.at d) w' ∧ (∀ e ∈ es, EvOk Kc e) ∧ Hold P Fin Kc Inb h n g' w') : Hold P Fin Kc Inb h n g w := by
 intro d Mem B gs sl T q hM hn hg C
 obtain ⟨N, gs₁, d₁, d₂, sl₁, sl₂, T₁, q₁, hr, hst, hsz, hg₁, C₁⟩ := picked (sl := sl) (fun w d h => h) hg hrun C
 obtain ⟨g', w', es, hgo, hd, he, hH⟩ := hs d₂
 obtain ⟨B', hB'⟩ := low_exists es
 have C₂ := ring_mono (Nat.le_max_left B B') C₁
 have hdh : DH (KK Kc) (StillK Kc) (max B B') Inb (w.at d₂) w' es := by
  refine ⟨hd.1.1, fun i s c hi hc => hd.2 c ⟨i, s, hi, hc⟩ ?_, fun e hx => ⟨(he e hx).1, (he e hx).2.1, (he e hx).2.2, MemAct.low_mono (Nat.le_max_right _ _) (hB' e hx)⟩⟩
  exact C₁.chans i s c (fun z => z) hi hc
 obtain ⟨C₃, hg₃⟩ := C₂.own (a' := g') hg₁ hdh
 have hrt := runT_crowd_go (P := P) (sl := sl₂) hg₁ hgo
 refine hFin (N + 1) _ _ _ _ (runNT_succ_of hr (hst.trans hrt)) hd.1.2.1 hd.1.2.2 ?_
 have e : w' = w'.at w'.drawn := rfl
 rw [e]
 exact hH w'.drawn Mem _ _ sl₂ _ _ hM (by simp; omega) hg₃ C₃
end
def Chans (w w' : World) : Prop := (∀ (c : Nat) (o : Obj), w.heap[c]? = some o → (∀ x e f, o ≠ Obj.cells x e f) → w'.heap[c]? = some o) ∧ w'.os = w.os ∧ w'.output = w.output
theorem Chans.refl (w : World) : Chans w w := ⟨fun _ _ h _ => h, rfl, rfl⟩
theorem Chans.trans {a b c : World} (h : Chans a b) (k : Chans b c) : Chans a c := ⟨fun x o hx ho => k.1 x o (h.1 x o hx ho) ho, k.2.1.trans h.2.1, k.2.2.trans h.2.2⟩
theorem chans_setCell (w : World) (a : Addr) (v : Value) : Chans w (w.setCell a v) := by
 refine ⟨fun c o hc ho => ?_, rfl, rfl⟩
 simp only [World.setCell]
 rw [Array.getElem?_modify]
 split
 · rw [hc]
   cases o <;> first | rfl | exact absurd rfl (ho _ _ _)
 · exact hc
theorem chans_push (w : World) (o : Obj) : Chans w { w with heap := w.heap.push o } := by
 refine ⟨fun c x hc _ => ?_, rfl, rfl⟩
 have hlt : c < w.heap.size := (Array.getElem?_eq_some_iff.1 hc).1
 show (w.heap.push o)[c]? = _
 rw [Array.getElem?_push, if_neg (by omega)]; exact hc
theorem seen_cells {P : Program} {w : World} {a k : Addr} {t : TypeId} {b : Bool} {x} (h : w.seen P a t k b = .ok x) : ∃ c e f, w.heap[a.block]? = some (.cells c e f) := by
 unfold World.seen at h
 simp only [bind, Except.bind, pure, Except.pure, throw, throwThe, MonadExceptOf.throw] at h
 repeat' (first | cases h; done | split at h)
 all_goals first | exact ⟨_, _, _, ‹_›⟩ | cases h
theorem chans_viewStore {P : Program} {w w' : World} {a k : Addr} {t : TypeId} {v : Value} {b : Bool} {l : List Addr} (h : w.viewStore P a t k v b = .ok (w', l)) : Chans w w' := by
 unfold World.viewStore at h
 simp only [bind, Except.bind, pure, Except.pure, throw, throwThe, MonadExceptOf.throw] at h
 cases ht : tight P P.depth t <;> simp only [ht, Bool.not_true, Bool.not_false, Bool.false_eq_true, if_true, if_false, reduceIte] at h
 · cases h
 cases hs : w.seen P a t k b with
 | error e => simp only [hs] at h; cases h
 | ok x =>
  obtain ⟨cc, ee, ff, hc⟩ := seen_cells hs
  simp only [hs] at h
  obtain ⟨c, e, fr, first, like, cells⟩ := x
  simp only [] at h
  cases hb : v.bytes? with
  | none => simp only [hb] at h; cases h
  | some bytes =>
   simp only [hb] at h
   by_cases hl : some bytes.length ≠ Option.map (fun x => x.length) like.bytes?
   · simp only [if_pos hl] at h; cases h
   · simp only [if_neg hl] at h
     generalize (List.foldlM (m := Except String) _ _ _ : Except String (Array Value)) = X at h
     cases X with
     | error _ => cases h
     | ok X =>
      simp only [Except.ok.injEq, Prod.mk.injEq] at h
      obtain ⟨rfl, _⟩ := h
      refine ⟨fun c o hco ho => ?_, rfl, rfl⟩
      show (w.heap.setIfInBounds a.block _)[c]? = _
      by_cases e : a.block = c
      · subst e; rw [hc] at hco; cases hco; exact absurd rfl (ho _ _ _)
      · rw [al_gn e]; exact hco
theorem chans_farStore {P : Program} {w w' : World} {a : Addr} {v : Value} {b : Bool} {l : List Addr} (h : w.farStore P a v b = .ok (w', l)) : Chans w w' := by
 unfold World.farStore at h
 split at h
 · split at h
   · rename_i hh; cases h; exact chans_viewStore hh
   · cases h
 · cases h
theorem runT_chans {α : Type} {P : Program} (s : Sem α) (hs : tame P true s) : ∀ (w : World) (es : Array Event), Chans w (resW (s.runT P w es).1) := by
 induction s with
 | pure a => intro w es; exact Chans.refl _
 | load m a k ih =>
  intro w es
  simp only [Sem.runT]
  split
  · exact ih _ (hs _) w _
  · split
    · exact ih _ (hs _) w _
    · exact Chans.refl _
 | store m a v k ih =>
  intro w es
  by_cases hagg : (∃ c, v = .agg c) ∨ ∃ c, v = .tuple c
  · rcases hagg with ⟨c, rfl⟩ | ⟨c, rfl⟩ <;> exact Chans.refl _
  · rw [runT_store hagg]
    split
    · split
      · exact Chans.refl _
      · exact (chans_setCell w a v).trans (ih hs.2 _ _)
    · split
      · rename_i hh; exact (chans_farStore hh).trans (ih hs.2 _ _)
      · exact Chans.refl _
 | new o k ih => intro w es; exact (chans_push w o).trans (ih _ (hs _) _ es)
 | shape r k ih => intro w es; exact ih _ (hs _) w es
 | freeze a n k ih => exact hs.elim
 | frozen a k ih => intro w es; exact ih _ (hs _) w es
 | getObj r k ih =>
  intro w es
  simp only [Sem.runT]
  split
  · exact Chans.refl _
  · exact ih _ (hs _) w _
  · exact Chans.refl _
 | setObj r o k ih => exact hs.elim
 | choose q k ih =>
  intro w es
  simp only [Sem.runT]
  split
  · exact ih _ (hs _) w _
  · exact Chans.trans (b := w.drew) ⟨fun _ _ h _ => h, rfl, rfl⟩ (ih _ (hs _) _ es)
 | sys c k ih => exact hs.elim
 | program k ih => intro w es; exact ih P hs w es
 | mark m k ih => intro w es; exact ih hs.2 w _
 | halt h => intro w es; exact Chans.refl _
theorem okD_none {w w' : World} (h : Chans w w') : OkD (fun _ => none) (fun _ => True) w w' :=
 ⟨⟨fun _ a v e => (by cases e), h.2.1, h.2.2⟩, fun c _ ⟨cap, k, hx⟩ => by rw [h.1 c _ hx (by simp), hx]⟩
set_option maxHeartbeats 1000000
structure JS (P : Program) (main : Bool) (Kc : Addr → Option Value) {γ : Type} (J : γ → Goroutine → World → Prop) : Prop where
 re' : ∀ s g w τ d, J s g w → J s g (re w τ d)
 step : ∀ s g w, g.status = .running → (∀ τ d, ∃ g' w' es, stepG P main g (re w τ d) = .go g' w' es ∧ OkD Kc (fun _ => True) (re w τ d) w' ∧ (∀ e ∈ es, EvOk Kc e) ∧ J s g' w') → J s g w
section
variable {P : Program} {main : Bool} {Kc : Addr → Option Value} {γ : Type} {J : γ → Goroutine → World → Prop}
theorem JS.ctl (hJ : JS P main Kc J) {s : γ} {fr fr' : Frame} {cs cs' : List Frame} {w : World} (h : ∀ w, stepG P main (G fr cs) w = .go (G fr' cs') w) (hj : J s (G fr' cs') w) : J s (G fr cs) w :=
 hJ.step s _ w rfl fun τ d => ⟨_, _, #[], h _, OkD.refl _ _ _, by simp, hJ.re' s _ w τ d hj⟩
def AfterJ (J : γ → Goroutine → World → Prop) (b : Frame) (k : List Item) (cs : List Frame) (s : γ) : Exit → Act → World → Prop
 | .normal, a, w => J s (G (b.at a k) cs) w
 | .exit id, a, w => ∃ k', exitTo id k = some k' ∧ J s (G (b.at a k') cs) w
 | .ret, a, w => ∀ todo, J s (G { b.at a todo with mode := .returning } cs) w
 | .panic ch, a, w => ∀ todo, J s (G { b.at a todo with mode := .panicking ch } cs) w
 | _, _, _ => False
theorem AfterJ.push {b : Frame} {x : Item} {k : List Item} {cs : List Frame} {s : γ} {e : Exit} {a : Act} {w : World} (hx : x.plain = true) (he : e ≠ .normal) (h : AfterJ J b k cs s e a w) : AfterJ J b (x :: k) cs s e a w := by
 cases e with
 | normal => exact absurd rfl he
 | exit id => obtain ⟨k', hk, hg⟩ := h; exact ⟨k', by cases x <;> simp_all [exitTo, Item.plain], hg⟩
 | ret => exact h
 | goto l => exact h
 | panic ch => exact h
 | outgrown => exact h
def wpJ (J : γ → Goroutine → World → Prop) (c : Code) (Q : γ → Exit → Act → World → Prop) (s : γ) (a : Act) (w : World) : Prop :=
 ∀ (b : Frame) (k : List Item) (cs : List Frame), b.kind ≠ .early → (∀ s' e a' w', Q s' e a' w' → AfterJ J b k cs s' e a' w') → J s (G (b.at a (.code c :: k)) cs) w
def opsJ (J : γ → Goroutine → World → Prop) (ops : Array Oper) (todo : List Nat) (Q : γ → Exit → Act → World → Prop) (s : γ) (a : Act) (w : World) : Prop :=
 ∀ (b : Frame) (k : List Item) (cs : List Frame), b.kind ≠ .early → (∀ s' e a' w', Q s' e a' w' → AfterJ J b k cs s' e a' w') → J s (G (b.at a (.inRegion ops todo :: k)) cs) w
def thenJ (M : γ → Act → World → Prop) (Q : γ → Exit → Act → World → Prop) (s : γ) (e : Exit) (a : Act) (w : World) : Prop :=
 match e with
 | .normal => M s a w
 | e => Q s e a w
def inBlockJ (id : Nat) (Q : γ → Exit → Act → World → Prop) (s : γ) (e : Exit) (a : Act) (w : World) : Prop :=
 match e with
 | .exit id' => if id' = id then Q s .normal a w else Q s (.exit id') a w
 | e => Q s e a w
section rules
variable {Q : γ → Exit → Act → World → Prop} {s : γ} {a : Act} {w : World}
theorem wpJ_mono {c : Code} {Q' : γ → Exit → Act → World → Prop} (h : wpJ J c Q s a w) (hq : ∀ s e a w, Q s e a w → Q' s e a w) : wpJ J c Q' s a w :=
 fun b k cs hb hk => h b k cs hb fun s' e a' w' q => hk s' e a' w' (hq _ _ _ _ q)
def uponJ (o : Oper) (a : Act) (K : Act → World → Prop) (Kp : List PanicEntry → World → Prop) (Ke : FuncId → Array Value → World → Prop) : Result Next → Prop
 | .ok (.value v) w' => K (a.put o.dst v) w'
 | .ok .skip w' => K (a.put o.dst undef) w'
 | .ok (.defer d) w' => K ({ a with defers := d :: a.defers }.put o.dst undef) w'
 | .ok (.enter f args) w' => Ke f args w'
 | .halt (.panic v) w' => Kp [{ v, recovered := false }] w'
 | _ => False
def CallsJ (P : Program) (J : γ → Goroutine → World → Prop) (f : FuncId) (args : Array Value) (Post : γ → Ending → World → Prop) (s : γ) (w : World) : Prop :=
 ∀ (c : Frame) (cs : List Frame), (∀ s' v w', Post s' (.returned v) w' → J s' (G (c.finish v) cs) w') → (∀ s' ch w', Post s' (.panicked ch) w' → J s' (G (c.raise ch) cs) w') →
  J s (G (Frame.enter P f args .normal) (c :: cs)) w
end rules
end
def readOp (P : Program) : Op → Bool
 | .move _ | .assign _ | .pick .. | .alloc _ | .box .. | .build .. | .buildSlice .. | .load .. | .nilCheck _ | .binOp .. | .unOp .. | .makeInterface .. | .makeFunc .. => true
 | .makeChan .. | .makeSlice .. | .slice .. | .fieldAddr .. | .field .. | .indexAddr .. | .index .. | .typeAssert .. | .extract .. => true
 | .convert s d _ => (match P.underlying s with | some (.int _) => true | _ => false) && (match P.underlying d with | some (.int _) => true | _ => false)
 | .call c => match c.callee with
  | .builtin .len | .builtin .min | .builtin .max => true
  | _ => false
 | _ => false
theorem execOp_read {P : Program} (o : Oper) (ho : readOp P o.op = true) (ρ : Operand → Value) : tame P false (execOp ρ o) := by
 obtain ⟨dst, op, type, pos, after, guard⟩ := o
 simp only at ho
 unfold execOp
 cases op <;> simp only [readOp, Bool.false_eq_true] at ho
 case move => trivial
 case assign => trivial
 case pick => exact zq0 (tame_asBool _) fun _ => trivial
 case alloc => exact tame_v (tame_alloc _)
 case box => exact tame_v (tame_box _ _)
 case build => exact tame_v (tame_build _ _)
 case buildSlice => exact tame_v (tame_buildSlice _ _ _)
 case load => exact tame_v (tame_loadAt _ _)
 case nilCheck x =>
  simp only []
  repeat' (first | exact zq7 _ | exact tame_runtimePanic _ | exact tame_program | exact tame_nilAhead _ _ _ _ | exact tame_u2 _ | refine zq0 ?_ (fun _ => ?_) | split | simp only [])
 case binOp => exact tame_v (zq0 (tame_eqGuard _ _ _ _ _ _) fun _ => tame_binOp _ _ _ _)
 case unOp => exact tame_v (tame_unary _ _)
 case convert s d x =>
  have : ∃ k k', P.underlying s = some (.int k) ∧ P.underlying d = some (.int k') := by
   simp only [Bool.and_eq_true] at ho
   obtain ⟨h1, h2⟩ := ho
   split at h1
   · split at h2
     · exact ⟨_, _, ‹_›, ‹_›⟩
     · cases h2
   · cases h1
  obtain ⟨k, k', hs, hd⟩ := this
  exact tame_v (tame_convert hs hd _)
 case makeInterface => exact tame_v (tame_makeInterface _ _)
 case makeFunc => exact tame_v (tame_makeFunc _ _ _)
 case makeChan => exact tame_v (tame_makeChan _ _)
 case makeSlice => exact tame_v (tame_makeSlice _ _ _)
 case slice => exact tame_v (tame_sliceAt _ _ _ _ _)
 case fieldAddr => exact tame_v (tame_fieldAt _ _ _)
 case field => exact tame_v (tame_field _ _ _)
 case indexAddr => exact tame_v (tame_indexAt _ _ _)
 case index => exact tame_v (tame_index _ _ _)
 case typeAssert => exact tame_v (tame_typeAssert _ _ _ _)
 case extract => exact tame_v (tame_extract _ _)
 case call c =>
  obtain ⟨callee, args, argTypes⟩ := c
  simp only at ho
  cases callee with
  | invoke r m => simp at ho
  | value f => simp at ho
  | builtin b =>
   cases b <;> simp at ho
   case len => exact tame_v (tame_len _ _ _)
   case max => exact tame_v (tame_max _ _ _)
   case min => exact tame_v (tame_min _ _ _)
structure Rows0 (P : Program) (A : FuncId → Bool) : Prop where
 ok : ∀ f, A f = true → okFn P A f
 bare : ∀ f fn, A f = true → P.funcs[f]? = some fn → fn.body = none
theorem zqe (P : Program) : Rows0 P (fun _ => false) := ⟨fun _ h => (by cases h), fun _ _ h => (by cases h)⟩
theorem act_func (a : Act) (f : FuncId) : a.eval (.func f) = .func (.func f) #[] #[] := rfl
theorem list_run {P : Program} {A : FuncId → Bool} (hA : Rows0 P A) {o : Oper} (ho : okOp P A o.op = true) (a : Act) (w : World) :
 (∃ v w', (execOp a.eval o).run P w = .ok (.value v) w') ∨ (∃ w', (execOp a.eval o).run P w = .ok .skip w') ∨ (∃ h w', (execOp a.eval o).run P w = .halt h w') := by
 obtain ⟨ht, hl⟩ := execOp_ok hA.ok o ho a.eval (act_func a)
 have := leaf_runT _ ht hl w #[]
 rw [Sem.runT_eq] at this
 cases hr : (execOp a.eval o).run P w with
 | halt h w' => exact .inr (.inr ⟨h, w', rfl⟩)
 | ok n w' =>
  rw [hr] at this
  cases n with
  | value v => exact .inl ⟨v, w', rfl⟩
  | skip => exact .inr (.inl ⟨w', rfl⟩)
  | enter f args =>
   obtain ⟨hf, fn, c, h1, h2, _⟩ := this
   rw [hA.bare f fn hf h1] at h2; cases h2
  | _ => exact this.elim
theorem run_re {α : Type} {P : Program} (s : Sem α) (hs : tame P true s) (w : World) (τ τ' : Nat → Question → Nat) (d d' : Nat) (h : ∀ j, τ' (d' + j) = τ (d + j)) :
 s.run P (re w τ' d') = resRe (s.run P (re w τ d)) τ' (d' + ((resW (s.run P (re w τ d))).drawn - d)) ∧ d ≤ (resW (s.run P (re w τ d))).drawn ∧ (resW (s.run P (re w τ d))).tape = τ := by
 obtain ⟨h1, h2, h3⟩ := runT_re s hs (re w τ d) #[]
 rw [Sem.runT_eq] at h1 h2 h3
 have := h3 τ' d' fun j _ => h j
 rw [Sem.runT_eq] at this
 exact ⟨(Prod.mk.inj this).1, h1, h2⟩
def Still' (C : Exit → Act → World → Prop) : Prop := ∀ e a w τ d τ' d', C e a (re w τ d) → C e a (re w τ' d')
theorem wpList_shift {P : Program} {A : FuncId → Bool} (hA : Rows0 P A) {ops : Array Oper} {C : Exit → Act → World → Prop} (hC : Still' C) (ho : ∀ a w, ¬ C .outgrown a w) :
 ∀ (l : List Oper) (a : Act) (w : World) (τ τ' : Nat → Question → Nat) (d d' : Nat), (∀ o ∈ l, okOp P A o.op = true) → (∀ j, τ' (d' + j) = τ (d + j)) → wpList P ops C l a (re w τ d) → wpList P ops C l a (re w τ' d') := by
 intro l
 induction l with
 | nil => exact fun a w τ τ' d d' _ _ h => hC _ _ _ _ _ _ _ h
 | cons o l ih =>
  intro a w τ τ' d d' hl hτ h
  unfold wpList at h ⊢
  split at h
  · rename_i hw
    rw [if_pos hw]
    rcases h with h | ⟨_, a, w, h⟩
    · refine .inl ?_
      unfold Oper.wp at h ⊢
      have hol := hl o (by simp)
      have ht := (execOp_ok hA.ok o hol a.eval (act_func a)).1
      obtain ⟨h1, h2, h3⟩ := run_re _ ht w τ τ' d d' hτ
      have hlr := list_run hA hol a (re w τ d)
      rw [h1]
      generalize (execOp a.eval o).run P (re w τ d) = r at *
      have key : ∀ w₁ a', w₁.tape = τ → d ≤ w₁.drawn → wpList P ops C l a' w₁ → wpList P ops C l a' (re w₁ τ' (d' + (w₁.drawn - d))) := by
       intro w₁ a' ht hd hw1
       have e : w₁ = re w₁ τ w₁.drawn := by rw [← ht]; rfl
       rw [e] at hw1
       exact ih a' w₁ τ τ' w₁.drawn (d' + (w₁.drawn - d)) (fun o ho => hl o (by simp [ho])) (fun j => by
        have := hτ ((w₁.drawn - d) + j)
        rw [← Nat.add_assoc] at this
        rw [this]; congr 1; omega) hw1
      rcases hlr with ⟨v, w', rfl⟩ | ⟨w', rfl⟩ | ⟨hh, w', rfl⟩
      · exact key _ _ h3 h2 h
      · exact key _ _ h3 h2 h
      · cases hh with
        | panic v =>
         have e : w' = re w' τ w'.drawn := by rw [← (show w'.tape = τ from h3)]; rfl
         have h' : C (.panic [{ v, recovered := false }]) a w' := h
         rw [e] at h'
         exact hC _ _ _ _ _ _ _ h'
        | _ => exact h.elim
    · exact absurd h (ho a w)
  · rename_i hw
    rw [if_neg hw]
    exact ih _ _ _ _ _ _ (fun o ho => hl o (by simp [ho])) hτ h
section
variable {P : Program} {main : Bool} {Kc : Addr → Option Value} {γ : Type} {J : γ → Goroutine → World → Prop} {A : FuncId → Bool}
theorem evs_read {s : Sem Next} (ht : tame P false s) (w : World) : (∀ e ∈ (s.runT P w #[]).2, EvOk Kc e) ∧ OkD Kc (fun _ => True) w (resW (s.run P w)) := by
 refine ⟨fun e he => evOk_calm ((runT_calm s ht w #[] e he).resolve_left (by simp)), ?_⟩
 have := runT_below s ht w #[]
 rw [Sem.runT_eq] at this
 exact OkD.of_below this
theorem evs_free {s : Sem Next} (ht : tame P true s) (hK : Kc = fun _ => none) (w : World) : (∀ e ∈ (s.runT P w #[]).2, EvOk Kc e) ∧ OkD Kc (fun _ => True) w (resW (s.run P w)) := by
 subst hK
 refine ⟨fun e he => evOk_none ((runT_calm s ht w #[] e he).resolve_left (by simp)), ?_⟩
 have := runT_chans s ht w #[]
 rw [Sem.runT_eq] at this
 exact okD_none this
end
section
variable {P : Program} {main : Bool} {Kc : Addr → Option Value} {γ : Type} {J : γ → Goroutine → World → Prop} {A : FuncId → Bool}
theorem kk_setCell {w : World} {a : Addr} {v : Value} (hK : Kc a = none) : OkD Kc (fun _ => True) w (w.setCell a v) := by
 refine ⟨⟨fun h b u hb => ?_, rfl, rfl⟩, fun c _ ⟨cap, k, hx⟩ => by rw [(chans_setCell w a v).1 c _ hx (by simp), hx]⟩
 obtain ⟨h1, h2⟩ := h b u hb
 constructor
 · rw [← h1]
   unfold World.cell? World.setCell
   simp only [Array.getElem?_modify]
   by_cases hab : a.block = b.block
   · simp only [hab, if_true]
     cases ho : w.heap[b.block]? with
     | none => rfl
     | some o =>
      cases o <;> try rfl
      simp only [Option.map_some]
      by_cases hs : b.spot.isSome = true
      · simp [hs]
      · simp only [hs]
        by_cases has : a.spot.isSome = true
        · simp [has]
        · simp only [has, Bool.false_eq_true, if_false]
          by_cases hoff : a.off = b.off
          · have : a = b := by
             obtain ⟨ab, ao, asp⟩ := a
             obtain ⟨bb, bo, bsp⟩ := b
             simp only at hab hoff has hs
             subst hab hoff
             cases asp <;> simp_all
            rw [this, hb] at hK; cases hK
          · rw [al_gn hoff]
   · simp only [hab, if_false]
 · rw [← h2]
   unfold World.frozen? World.setCell
   simp only [Array.getElem?_modify]
   by_cases hab : a.block = b.block
   · simp only [hab, if_true]
     cases ho : w.heap[b.block]? with
     | none => rfl
     | some o => cases o <;> rfl
   · simp only [hab, if_false]
theorem setCell_cells {w : World} {a : Addr} {v : Value} {b : Nat} (h : ∃ c e f, w.heap[b]? = some (.cells c e f)) : ∃ c e f, (w.setCell a v).heap[b]? = some (.cells c e f) := by
 obtain ⟨c, e, f, h⟩ := h
 unfold World.setCell
 simp only [Array.getElem?_modify, h]
 split <;> simp
theorem add_block (a : Addr) (i : Nat) : (a.add i).block = a.block := by unfold Addr.add; split <;> rfl
theorem runT_bind_ok {α β : Type} (s : Sem α) (f : α → Sem β) : ∀ (w : World) (es : Array Event), (s.bind f).runT P w es = match s.runT P w es with
 | (.ok a w', es') => (f a).runT P w' es'
 | (.halt h w', es') => (.halt h w', es') := by
 induction s with
 | pure a => intro w es; rfl
 | load m a k ih =>
  intro w es
  simp only [Sem.bind, Sem.runT]
  split
  · exact ih _ _ _
  · split
    · exact ih _ _ _
    · rfl
 | store m a v k ih =>
  intro w es
  by_cases hagg : (∃ c, v = .agg c) ∨ ∃ c, v = .tuple c
  · rcases hagg with ⟨c, rfl⟩ | ⟨c, rfl⟩ <;> rfl
  · rw [show (Sem.store m a v k).bind f = Sem.store m a v (k.bind f) from rfl, runT_store hagg, runT_store hagg]
    split
    · split
      · rfl
      · exact ih _ _
    · split
      · exact ih _ _
      · rfl
 | new o k ih => intro w es; exact ih _ _ _
 | shape r k ih => intro w es; exact ih _ _ _
 | freeze a n k ih => intro w es; exact ih _ _
 | frozen a k ih => intro w es; exact ih _ _ _
 | getObj r k ih =>
  intro w es
  simp only [Sem.bind, Sem.runT]
  split
  · rfl
  · exact ih _ _ _
  · rfl
 | setObj r o k ih =>
  intro w es
  simp only [Sem.bind, Sem.runT]
  split <;> first | rfl | exact ih _ _
 | choose q k ih =>
  intro w es
  simp only [Sem.bind, Sem.runT]
  split
  · exact ih _ _ _
  · exact ih _ _ _
 | sys c k ih => intro w es; exact ih _ _ _
 | program k ih => intro w es; exact ih P _ _
 | mark m k ih => intro w es; exact ih _ _
 | halt h => intro w es; rfl
theorem evs_storeCells {a : Addr} : ∀ (vs : List Value) (i : Nat) (w : World) (es : Array Event), (∀ j, i ≤ j → j < i + vs.length → Kc (a.add j) = none) → (∃ c e f, w.heap[a.block]? = some (.cells c e f)) →
 (∀ e ∈ ((storeCells a vs i).runT P w es).2, e ∈ es ∨ EvOk Kc e) ∧ OkD Kc (fun _ => True) w (resW ((storeCells a vs i).runT P w es).1)
 | [], i, w, es, _, _ => ⟨fun e he => .inl he, OkD.refl _ _ _⟩
 | v :: r, i, w, es, hK, hb => by
  have hs : storeCells a (v :: r) i = (Sem.store .plain (a.add i) v (.pure ())).bind fun _ => storeCells a r (i + 1) := rfl
  rw [hs, runT_bind_ok]
  by_cases hagg : (∃ c, v = .agg c) ∨ ∃ c, v = .tuple c
  · rcases hagg with ⟨c, rfl⟩ | ⟨c, rfl⟩ <;> exact ⟨fun e he => .inl he, OkD.refl _ _ _⟩
  · rw [runT_store hagg]
    cases hc : w.cell? (a.add i) with
    | some x =>
     simp only []
     by_cases hf : w.frozen? (a.add i) = true
     · simp only [hf, if_true]; exact ⟨fun e he => .inl he, OkD.refl _ _ _⟩
     · simp only [hf, Bool.false_eq_true, if_false, Sem.runT]
       have hKa := hK i (Nat.le_refl _) (by simp)
       obtain ⟨h1, h2⟩ := evs_storeCells r (i + 1) (w.setCell (a.add i) v) (es.push ⟨.cell (a.add i), true, Mode.plain == .atomic⟩) (fun j h1 h2 => hK j (by omega) (by simp; omega)) (setCell_cells hb)
       refine ⟨fun e he => ?_, (kk_setCell hKa).trans h2⟩
       rcases h1 e he with h | h
       · rcases Array.mem_push.1 h with h | rfl
         · exact .inl h
         · exact .inr (evOk_write _ _ hKa)
       · exact .inr h
    | none =>
     obtain ⟨c, e, f, hb⟩ := hb
     have hfar : w.farStore P (a.add i) v (Mode.plain == .atomic) = .error (w.noCell (a.add i) "store: no such cell") := by
      unfold World.farStore
      rw [add_block, hb]
     simp only [hfar]
     exact ⟨fun e he => .inl he, OkD.refl _ _ _⟩
theorem evs_store {ρ : Operand → Value} {o : Oper} {t : TypeId} {pa pv : Operand} {a : Addr} {w : World} (hop : o.op = .store t pa pv) (ha : ρ pa = .pointer (some a)) (hK : ∀ j, j < (ρ pv).cells.size → Kc (a.add j) = none) (hb : ∃ c e f, w.heap[a.block]? = some (.cells c e f)) :
 (∀ e ∈ ((execOp ρ o).runT P w #[]).2, EvOk Kc e) ∧ OkD Kc (fun _ => True) w (resW ((execOp ρ o).run P w)) := by
 have key : (∀ e ∈ ((execOp ρ o).runT P w #[]).2, EvOk Kc e) ∧ OkD Kc (fun _ => True) w (resW ((execOp ρ o).runT P w #[]).1) := by
  have e1 : execOp ρ o = (Instr.storeAt t (ρ pa) (ρ pv)).bind fun _ => .pure .skip := by
   unfold execOp; rw [hop]; rfl
  have e2 : Instr.storeAt t (ρ pa) (ρ pv) = storeVar t a (ρ pv) := by rw [ha]; rfl
  rw [e1, runT_bind_ok, e2]
  have e3 : storeVar t a (ρ pv) = (sizeOf t).bind fun n => if (ρ pv).cells.size ≠ n then (stuck "storeVar: the value has not the size of the variable" : Sem Unit).bind fun _ => storeCells a (ρ pv).cells.toList else storeCells a (ρ pv).cells.toList := by
   unfold storeVar
   show (sizeOf t).bind _ = _
   congr 1
  rw [e3, runT_bind_ok]
  have hsz := runT_calm (P := P) (sizeOf t) (zq8 (st := false) t) w #[]
  have hbl := runT_below (P := P) (sizeOf t) (zq8 (st := false) t) w #[]
  generalize (sizeOf t).runT P w #[] = r at hsz hbl
  obtain ⟨r, es⟩ := r
  have hes : ∀ e ∈ es, EvOk Kc e := fun e he => evOk_calm ((hsz e he).resolve_left (by simp))
  cases r with
  | halt h w' => exact ⟨hes, OkD.of_below hbl⟩
  | ok n w' =>
   have hb' : ∃ c e f, w'.heap[a.block]? = some (.cells c e f) := by
    obtain ⟨c, e, f, hb⟩ := hb
    exact ⟨c, e, f, by rw [← hb]; exact hbl.block _ ((Array.getElem?_eq_some_iff.1 hb).1)⟩
   simp only []
   by_cases hne : (ρ pv).cells.size ≠ n
   · simp only [if_pos hne]
     exact ⟨hes, OkD.of_below hbl⟩
   · simp only [if_neg hne]
     obtain ⟨h1, h2⟩ := evs_storeCells (P := P) (ρ pv).cells.toList 0 w' es (fun j _ h2 => hK j (by simpa using h2)) hb'
     generalize (storeCells a (ρ pv).cells.toList).runT P w' es = q at h1 h2
     obtain ⟨q, es'⟩ := q
     have h3 : ∀ e ∈ es', EvOk Kc e := fun e he => (h1 e he).elim (hes e) id
     cases q with
     | halt h w'' => exact ⟨h3, (OkD.of_below hbl).trans h2⟩
     | ok x w'' => exact ⟨h3, (OkD.of_below hbl).trans h2⟩
 rw [Sem.runT_eq] at key
 exact ⟨by rw [Sem.runT_eq]; exact key.1, key.2⟩
theorem leaveJ (hJ : JS P main Kc J) {b : Frame} {a : Act} {todo : List Item} {c : Frame} {cs : List Frame} {s : γ} {w : World} {fn : Func} {v : Value} (hn : b.kind = .normal) (hd : a.defers = []) (hf : P.funcs[b.fn]? = some fn)
 (hr : ∀ τ d, (results fn a.tmps).run P (re w τ d) = .ok v (re w τ d)) (h : J s (G (c.finish v) cs) w) : J s (G { b.at a todo with mode := .returning } (c :: cs)) w := by
 refine hJ.step _ _ _ rfl fun τ d => ?_
 obtain ⟨he, hD⟩ := evs_read (Kc := Kc) (P := P) (s := (results fn a.tmps).bind fun _ => .pure .skip) (zq0 (tame_results fn a.tmps) fun _ => trivial) (re w τ d)
 have hev : ∀ e ∈ ((results fn a.tmps).runT P (re w τ d) #[]).2, EvOk Kc e := fun e he => evOk_calm ((runT_calm _ (tame_results fn a.tmps) _ #[] e he).resolve_left (by simp))
 refine ⟨G (c.finish v) cs, re w τ d, seen P b.fn ((results fn a.tmps).runT P (re w τ d) #[]).2, ?_, OkD.refl _ _ _, fun e he => hev e (mem_seen he), hJ.re' _ _ _ _ _ h⟩
 have h1 : ((results fn a.tmps).runT P (re w τ d) #[]).1 = .ok v (re w τ d) := by rw [Sem.runT_eq]; exact hr τ d
 simp only [G, stepG, unwind, Frame.at, hd, hf]
 generalize (results fn a.tmps).runT P (re w τ d) #[] = r at h1
 obtain ⟨r, es⟩ := r
 simp only at h1
 subst h1
 simp only [doReturn, hn, GStep.after, Array.append_empty]
theorem raiseJ (hJ : JS P main Kc J) {b : Frame} {a : Act} {todo : List Item} {c : Frame} {cs : List Frame} {s : γ} {w : World} {fn : Func} {ch : List PanicEntry} (hd : a.defers = []) (hf : P.funcs[b.fn]? = some fn)
 (h : J s (G (c.raise ch) cs) w) : J s (G { b.at a todo with mode := .panicking ch } (c :: cs)) w := by
 refine hJ.step _ _ _ rfl fun τ d => ⟨_, _, #[], ?_, OkD.refl _ _ _, by simp, hJ.re' _ _ _ τ d h⟩
 simp [G, stepG, unwind, Frame.catches, Frame.at, hd, hf]
end
section
variable {P : Program} {A : FuncId → Bool}
theorem doReturn_go {main : Bool} {fr : Frame} {cs : List Frame} {v : Value} {w1 w' : World} {g' : Goroutine} {es : Array Event} (h : doReturn P main fr cs none v w1 = .go g' w' es) :
 w' = w1 ∧ es = #[] ∧ ∀ w2, doReturn P main fr cs none v w2 = .go g' w2 #[] := by
 unfold doReturn at h ⊢
 cases cs with
 | cons c r =>
  simp only [] at h ⊢
  cases hk : fr.kind <;> simp only [hk, GStep.go.injEq] at h ⊢ <;> exact ⟨h.2.1.symm, h.2.2.symm, fun w2 => ⟨h.1, trivial, trivial⟩⟩
 | nil =>
  simp only [] at h ⊢
  have key : ∀ X : GStep, X = (if (!main) = true then .go { frame := fr, callers := [], status := .finished, dying := none } w1 else match P.inits.idxOf? fr.fn with
   | some k => .go { frame := Frame.enter P (P.initFrom (k + 1)) #[] .normal, callers := [], status := .running, dying := none } w1
   | none => .ended (.done v) w1) → X = .go g' w' es → w' = w1 ∧ es = #[] ∧ ∀ w2, (if (!main) = true then .go { frame := fr, callers := [], status := .finished, dying := none } w2 else match P.inits.idxOf? fr.fn with
   | some k => .go { frame := Frame.enter P (P.initFrom (k + 1)) #[] .normal, callers := [], status := .running, dying := none } w2
   | none => .ended (.done v) w2 : GStep) = .go g' w2 #[] := by
   rintro X rfl h
   cases main with
   | false => simp only [Bool.not_false, if_true, GStep.go.injEq] at h ⊢; exact ⟨h.2.1.symm, h.2.2.symm, fun w2 => ⟨h.1, trivial, trivial⟩⟩
   | true =>
    simp only [Bool.not_true, Bool.false_eq_true, if_false] at h ⊢
    cases hi : P.inits.idxOf? fr.fn with
    | some k => simp only [hi, GStep.go.injEq] at h ⊢; exact ⟨h.2.1.symm, h.2.2.symm, fun w2 => ⟨h.1, trivial, trivial⟩⟩
    | none => rw [hi] at h; cases h
  cases hk : fr.kind <;> simp only [hk] at h ⊢ <;> first | exact key _ rfl h | cases h
theorem chans_apply (hP : Plain P A) {main : Bool} {fr : Frame} {cs : List Frame} {s : Sem Next} {wc wc' : World} {fr' : Frame} {cs' : List Frame} {es : Array Event} (hk : fr.kind ≠ .early)
 (hl : leaf P (okNext P A) s) (ht : tame P true s) (hs : stepG.apply P true fr cs none s wc = .go (G fr' cs') wc' es) : Chans wc wc' := by
 have hg := leaf_runT s ht hl wc #[]
 have hch := runT_chans s ht wc #[]
 have hke : (fr.kind == CallKind.early) = false := by simpa using hk
 unfold stepG.apply at hs
 simp only [if_true, hke, Bool.false_eq_true, if_false] at hs
 generalize hr : s.runT P wc #[] = r at hg hs hch
 obtain ⟨r, es'⟩ := r
 simp only at hg hs hch
 cases r with
 | ok nx w1 =>
  have hnx : okNext P A nx := hg
  cases nx with
  | value v => simp only [GStep.after, GStep.go.injEq] at hs; obtain ⟨_, rfl, _⟩ := hs; exact hch
  | skip => simp only [GStep.after, GStep.go.injEq] at hs; obtain ⟨_, rfl, _⟩ := hs; exact hch
  | enter f args => simp only [GStep.after, GStep.go.injEq] at hs; obtain ⟨_, rfl, _⟩ := hs; exact hch
  | _ => exact hnx.elim
 | halt x w1 =>
  rcases hg with hg | ⟨b, rfl⟩
  · cases x with
    | panic v => simp only [GStep.after, GStep.go.injEq] at hs; obtain ⟨_, rfl, _⟩ := hs; exact hch
    | stuck s => simp only [GStep.after] at hs; cases hs
    | unsupported u => cases u <;> first | (simp only [GStep.after] at hs; cases hs) | exact hg.elim
    | _ => exact hg.elim
  · obtain ⟨o, w'', es'', he⟩ := early_ended hP fr cs none b w1
    simp only [he, GStep.after] at hs
    cases hs
theorem chans_ctl {main : Bool} {fr : Frame} {cs : List Frame} {wc wc' : World} {fr' : Frame} {cs' : List Frame} {es : Array Event}
 (hc : (∃ g : Goroutine, ∀ w, stepG P main (G fr cs) w = .go g w) ∨ ∀ w, ∃ o w' es, stepG P main (G fr cs) w = .ended o w' es) (hs : stepG P main (G fr cs) wc = .go (G fr' cs') wc' es) : Chans wc wc' := by
 rcases hc with ⟨g, hc⟩ | hc
 · rw [hc] at hs; cases hs; exact Chans.refl _
 · obtain ⟨o, w', es', he⟩ := hc wc
   rw [he] at hs; cases hs
theorem step_chans (hP : Plain P A) {main : Bool} {fr : Frame} {cs : List Frame} {wc wc' : World} {fr' : Frame} {cs' : List Frame} {es : Array Event} (ht : Top P A fr)
 (hs : stepG P main (G fr cs) wc = .go (G fr' cs') wc' es) : Chans wc wc' := by
 obtain ⟨fn, tmps, todo, defers, mode, kind, round⟩ := fr
 have hrd := ht.round
 have hkd := ht.kind
 have hhd := ht.head
 simp only at hrd hkd hhd
 subst hrd
 rcases hhd with ⟨rfl, i, t, rfl, hi⟩ | ⟨rfl, rfl⟩ | ⟨rfl, rfl⟩
 · cases i with
   | code c =>
    have hc : okCode P A c = true := hi
    cases c with
    | skip => exact chans_ctl (.inl ⟨_, fun w => by simp only [G, stepG, stepG.exec]; rfl⟩) hs
    | exit id =>
     refine chans_ctl ?_ hs
     cases hx : exitTo id t with
     | some k' => exact .inl ⟨_, fun w => by simp only [G, stepG, stepG.exec, hx, Option.elim]; rfl⟩
     | none => exact .inr fun w => by simp [G, stepG, stepG.exec, hx]
    | ret => exact chans_ctl (.inl ⟨_, fun w => by simp only [G, stepG, stepG.exec]; rfl⟩) hs
    | refuse why => exact chans_ctl (.inr fun w => by simp [G, stepG, stepG.exec]) hs
    | region id ops draw =>
     cases draw with
     | false => exact chans_ctl (.inl ⟨_, fun w => by simp only [G, stepG, stepG.exec, Bool.not_false, if_true]; rfl⟩) hs
     | true =>
      have e : ∀ w : World, stepG P main (G ⟨fn, tmps, .code (.region id ops true) :: t, defers, .run, kind, none⟩ cs) w = .go (G ⟨fn, tmps, .inRegion ops (Region.schedule (P.follows .mixedOrders) ops (w.tape w.drawn (.order fn id))) :: t, defers, .run, kind, none⟩ cs) w.drew #[] := by
       intro w
       have := stepG_region_draw (P := P) (main := main) (b := ⟨fn, tmps, [], [], .run, kind, none⟩) (a := ⟨tmps, defers⟩) (k := t) (cs := cs) (w := w) (id := id) (ops := ops)
       exact this
      rw [e wc] at hs
      cases hs
      exact ⟨fun _ _ h _ => h, rfl, rfl⟩
    | seq a b => exact chans_ctl (.inl ⟨_, fun w => by simp only [G, stepG, stepG.exec]; rfl⟩) hs
    | cond c a b =>
     refine chans_ctl ?_ hs
     cases hb : (⟨fn, tmps, .code (.cond c a b) :: t, defers, .run, kind, none⟩ : Frame).eval c with
     | bool x => exact .inl ⟨_, fun w => by simp only [G, stepG, stepG.exec, hb]; rfl⟩
     | _ => exact .inr fun w => by simp [G, stepG, stepG.exec, hb]
    | block id c => exact chans_ctl (.inl ⟨_, fun w => by simp only [G, stepG, stepG.exec]; rfl⟩) hs
    | loop c => exact chans_ctl (.inl ⟨_, fun w => by simp only [G, stepG, stepG.exec]; rfl⟩) hs
    | _ => simp [okCode] at hc
   | inBlock id => exact chans_ctl (.inl ⟨_, fun w => by simp only [G, stepG, stepG.exec]; rfl⟩) hs
   | inLoop c => exact chans_ctl (.inl ⟨_, fun w => by simp only [G, stepG, stepG.exec]; rfl⟩) hs
   | inRegion ops l =>
    cases l with
    | nil => exact chans_ctl (.inl ⟨_, fun w => by simp only [G, stepG, stepG.exec]; rfl⟩) hs
    | cons j r =>
     cases hj : ops[j]? with
     | none =>
      refine chans_ctl (.inl ⟨G (Frame.finish ⟨fn, tmps, .inRegion ops (j :: r) :: t, defers, .run, kind, none⟩ undef) cs, fun w => ?_⟩) hs
      simp only [G, stepG, stepG.exec, hj, Option.map_none, Option.getD_none, Bool.false_eq_true, if_false]
     | some o =>
      cases hw : Region.wanted o (yielded ops tmps) with
      | false =>
       refine chans_ctl (.inl ⟨G (Frame.finish ⟨fn, tmps, .inRegion ops (j :: r) :: t, defers, .run, kind, none⟩ undef) cs, fun w => ?_⟩) hs
       simp only [G, stepG, stepG.exec, hj, Option.map_some, al_od, hw, Bool.false_eq_true, if_false]
      | true =>
       have e : ∀ w, stepG P main (G ⟨fn, tmps, .inRegion ops (j :: r) :: t, defers, .run, kind, none⟩ cs) w = stepG.apply P true ⟨fn, tmps, .inRegion ops (j :: r) :: t, defers, .run, kind, none⟩ cs none (execOp (Frame.eval ⟨fn, tmps, .inRegion ops (j :: r) :: t, defers, .run, kind, none⟩) o) w := by
        intro w
        have := stepG_oper (P := P) (main := main) (b := ⟨fn, tmps, [], [], .run, kind, none⟩) (a := ⟨tmps, defers⟩) (k := t) (cs := cs) (w := w) (ops := ops) (i := j) (rest := r) hj hw
        exact this
       rw [e wc] at hs
       have hop : okOp P A o.op = true := okItem_head hi hj
       obtain ⟨k1, k2⟩ := execOp_ok hP.fns o hop (Frame.eval ⟨fn, tmps, .inRegion ops (j :: r) :: t, defers, .run, kind, none⟩) (fun f => rfl)
       exact chans_apply (main := main) hP (fr := ⟨fn, tmps, .inRegion ops (j :: r) :: t, defers, .run, kind, none⟩) hkd k2 k1 hs
   | _ => simp [okItem] at hi
 · exact chans_ctl (.inl ⟨_, fun w => by simp only [G, stepG, stepG.exec]; rfl⟩) hs
 · simp only [G, stepG, unwind] at hs
   cases hf : P.funcs[fn]? with
   | none =>
    rw [hf] at hs
    obtain ⟨rfl, rfl, h3⟩ := doReturn_go hs
    exact Chans.refl _
   | some f =>
    rw [hf] at hs
    simp only [] at hs
    have h1 := runT_chans (P := P) (results f tmps) (tame_more _ (tame_results f tmps)) wc #[]
    generalize (results f tmps).runT P wc #[] = r at h1 hs
    obtain ⟨r, es'⟩ := r
    cases r with
    | halt x w1 => cases x <;> (simp only [GStep.after] at hs; cases hs)
    | ok v w1 =>
     simp only [resW] at h1 hs
     generalize hd : doReturn P main ⟨fn, tmps, todo, [], .returning, kind, none⟩ cs none v w1 = S at hs
     cases S <;> simp only [GStep.after, GStep.go.injEq, reduceCtorEq] at hs
     rename_i g w2 es2
     obtain ⟨rfl, rfl, rfl⟩ := hs
     obtain ⟨rfl, _, _⟩ := doReturn_go hd
     exact h1
end
section
variable {P : Program} {main : Bool} {Kc : Addr → Option Value} {γ : Type} {J : γ → Goroutine → World → Prop} {A : FuncId → Bool}
def enterAct (fn : Func) (args : Array Value) : Act := { tmps := args ++ Array.replicate (fn.ntmps - args.size) undef, defers := [] }
def CalmJ (P : Program) (main : Bool) {γ : Type} (J : γ → Goroutine → World → Prop) : Prop :=
 ∀ s fr cs w, (∀ τ d, ∃ fr' cs' w' es, stepG P main (G fr cs) (re w τ d) = .go (G fr' cs') w' es ∧ (∀ e ∈ es, calmEv true e) ∧ Chans w w' ∧ J s (G fr' cs') w') → J s (G fr cs) w
theorem calmJ_top (hcalm : CalmJ P main J) (hP : Plain P A) {s : γ} {fr : Frame} {cs : List Frame} {w : World} (ht : Top P A fr)
 (h : ∀ τ d, ∃ fr' cs' w' es, stepG P main (G fr cs) (re w τ d) = .go (G fr' cs') w' es ∧ (∀ e ∈ es, calmEv true e) ∧ J s (G fr' cs') w') : J s (G fr cs) w :=
 hcalm s fr cs w fun τ d => by
  obtain ⟨fr', cs', w', es, h1, h2, h3⟩ := h τ d
  have hc := step_chans hP ht h1
  exact ⟨fr', cs', w', es, h1, h2, ⟨hc.1, hc.2⟩, h3⟩
theorem results_re {fn : Func} {tmps : Array Value} {w : World} {v : Value} (h : (results fn tmps).run P w = .ok v w) (τ : Nat → Question → Nat) (d : Nat) : (results fn tmps).run P (re w τ d) = .ok v (re w τ d) := by
 obtain ⟨_, _, h3⟩ := runT_re _ (tame_more _ (tame_results (P := P) fn tmps)) w #[]
 rw [Sem.runT_eq] at h3
 have := h3 τ d (fun j hj => by simp only [h, resW] at hj; omega)
 rw [Sem.runT_eq] at this
 have := (Prod.mk.inj this).1
 rw [h] at this
 simpa [resRe, resW] using this
def onlyRet (R : Value → World → Prop) : Ending → World → Prop
 | .returned v, w => R v w
 | _, _ => False
def onlyRetJ (R : Value → World → Prop) (s : γ) (s' : γ) : Ending → World → Prop
 | .returned v, w => s' = s ∧ R v w
 | _, _ => False
theorem callsJ_lone (hJ : JS P main Kc J) (hcalm : CalmJ P main J) (hP : Plain P A) {f : FuncId} {fn : Func} {c : Code} {args : Array Value} {s : γ} {w : World} (hf : P.funcs[f]? = some fn) (hb : fn.body = some c) (hc : okCode P A c = true)
 {R : Value → World → Prop} (hR : ∀ v w τ d, R v w → R v (re w τ d)) (h : ∀ τ d, Calls P f args (re w τ d) (onlyRet R)) : CallsJ P J f args (fun s' => onlyRetJ R s s') s w := by
 intro cl cs h1 h2
 let Φ : Frame → World → Prop := fun fr w => fr.mode = .returning ∧ fr.defers = [] ∧ fr.kind = .normal ∧ fr.fn = f ∧ ∃ v, (results fn fr.tmps).run P w = .ok v w ∧ R v w
 refine lift hP (J := fun g w => J s g w) (main := main) (cs := cl :: cs) (fun fr cs' w ht h => calmJ_top hcalm hP ht h) (fine_enter args hf hb hc) (Φ := Φ) ?_ (fun fr w h => h.1) ?_ ?_
 · rintro fr w τ d ⟨a, b, c, e, v, hv, hr⟩
   exact ⟨a, b, c, e, v, results_re hv τ d, hR _ _ _ _ hr⟩
 · intro τ d
   obtain ⟨e, w', fr, hRe, hcm, hfn, hl⟩ := h τ d [trap]
   cases e with
   | returned v =>
    obtain ⟨n, hn⟩ := hcm
    obtain ⟨hm, hd, hk, fn', hf', hr⟩ := hl
    rw [hfn, hf] at hf'
    obtain rfl := Option.some.inj hf'
    exact ⟨n, fr, w', hn, hm, hd, hk, hfn, v, hr, hRe⟩
   | _ => exact hRe.elim
 · rintro fr w ⟨hm, hd, hk, hfn, v, hv, hr⟩
   have e : fr = { (fr.at ⟨fr.tmps, []⟩ fr.todo) with mode := .returning, roundOf := fr.roundOf } := by
    obtain ⟨fn', tmps, todo, defers, mode, kind, round⟩ := fr
    simp only at hm hd
    subst hm hd
    rfl
   have hj := h1 s v w ⟨rfl, hr⟩
   refine hJ.step _ _ _ rfl fun τ d => ?_
   have hev : ∀ e ∈ ((results fn fr.tmps).runT P (re w τ d) #[]).2, EvOk Kc e := fun e he => evOk_calm ((runT_calm _ (tame_results fn fr.tmps) _ #[] e he).resolve_left (by simp))
   refine ⟨G (cl.finish v) cs, re w τ d, seen P fr.fn ((results fn fr.tmps).runT P (re w τ d) #[]).2, ?_, OkD.refl _ _ _, fun e he => hev e (mem_seen he), hJ.re' _ _ _ _ _ hj⟩
   have h1 : ((results fn fr.tmps).runT P (re w τ d) #[]).1 = .ok v (re w τ d) := by rw [Sem.runT_eq]; exact results_re hv τ d
   rw [← hfn] at hf
   simp only [G, stepG, unwind, hm, hd, hf]
   generalize (results fn fr.tmps).runT P (re w τ d) #[] = r at h1
   obtain ⟨r, es⟩ := r
   simp only at h1
   subst h1
   simp only [doReturn, hk, GStep.after, Array.append_empty]
def HoldR (P : Program) (Fin : Machine → Trace → Prop) (Kc : Addr → Option Value) (Inb : Nat → Option Seat) (h n : Nat) (g : Goroutine) (w : World) : Prop := ∀ τ, Hold P Fin Kc Inb h n g (re w τ 0)
theorem holdR_re {Fin : Machine → Trace → Prop} {Kc : Addr → Option Value} {Inb : Nat → Option Seat} {h n : Nat} {g : Goroutine} {w : World} (H : HoldR P Fin Kc Inb h n g w) (τ : Nat → Question → Nat) (d : Nat) : Hold P Fin Kc Inb h n g (re w τ d) := hold_at (H τ) d
theorem okD_less {Kc : Addr → Option Value} {Pb Pb' : Nat → Prop} (hp : ∀ c, Pb' c → Pb c) {w w' : World} (h : OkD Kc Pb w w') : OkD Kc Pb' w w' := ⟨h.1, fun c hc => h.2 c (hp c hc)⟩
theorem holdR_step {Fin : Machine → Trace → Prop} (hFin : Back P Fin) {Kc : Addr → Option Value} {Inb : Nat → Option Seat} {h n : Nat} {g : Goroutine} {w : World} (hrun : g.status = .running)
 (hs : ∀ τ d, ∃ g' w' es, stepG P (h == 0) g (re w τ d) = .go g' w' es ∧ OkD Kc (Seats Inb) (re w τ d) w' ∧ (∀ e ∈ es, EvOk Kc e) ∧ HoldR P Fin Kc Inb h n g' w') : HoldR P Fin Kc Inb h n g w :=
 fun τ => hold_step hFin hrun fun d => by
  obtain ⟨g', w', es, h1, h2, h3, h4⟩ := hs τ d
  exact ⟨g', w', es, h1, h2, h3, holdR_re h4 w'.tape w'.drawn⟩
theorem holdR_JS {Fin : Machine → Trace → Prop} (hFin : Back P Fin) (Kc : Addr → Option Value) (Inb : Nat → Option Seat) (h n : Nat) : JS P (h == 0) Kc (fun (_ : Unit) => HoldR P Fin Kc Inb h n) :=
 ⟨fun _ g w τ d H τ' => holdR_re H τ' 0, fun _ g w hr hs => holdR_step hFin hr fun τ d => by
  obtain ⟨g', w', es, h1, h2, h3, h4⟩ := hs τ d
  exact ⟨g', w', es, h1, okD_less (fun _ _ => trivial) h2, h3, h4⟩⟩
theorem holdR_calm {Fin : Machine → Trace → Prop} (hFin : Back P Fin) {Inb : Nat → Option Seat} (hI : ∀ i, Inb i = none) (h n : Nat) : CalmJ P (h == 0) (fun (_ : Unit) => HoldR P Fin (fun _ => none) Inb h n) :=
 fun _ fr cs w hs => holdR_step hFin rfl fun τ d => by
  obtain ⟨fr', cs', w', es, h1, h2, hch, h3⟩ := hs τ d
  exact ⟨_, w', es, h1, ⟨⟨fun _ a v e => (by cases e), hch.2.1, hch.2.2⟩, fun c ⟨i, s, hi, _⟩ => by rw [hI] at hi; cases hi⟩, fun e he => evOk_none (h2 e he), h3⟩
end
section
variable {P : Program} {main : Bool} {Kc : Addr → Option Value} {γ : Type} {J : γ → Goroutine → World → Prop}
end
end Go.Car
set_option maxHeartbeats 1000000
namespace Go.Car
open Go Go.Conc Go.RowKit
open Go.ConcN (upd upd_ne upd_same)
section
variable {P : Program}
inductive Behind (P : Program) (Kc : Addr → Option Value) (Inb : Nat → Option Seat) (h : Nat) (w : World) (g : Goroutine) : Option Seat → Prop
 | sits (cb : Nat) (z : Value) (ok : Bool) (home : Goroutine → Prop) (hfresh : ∀ i s, i ≠ h → Inb i = some s → ¬ s.has cb) (hc : ∃ cap k, w.heap[cb]? = some (.chan cap #[] false k k false))
  (hs : ∃ B nh, Sits P (h == 0) (KK Kc) (StillK Kc) B (Seat.one cb z ok home) nh g) : Behind P Kc Inb h w g (some (Seat.one cb z ok home))
 | leaves (h0 : 0 < h) (hq : ∃ nh, QuitsD P nh 0 g) : Behind P Kc Inb h w g none
theorem evHd_of {Kc : Addr → Option Value} {B : Nat} {e : Event} (h : EvOk Kc e) (hl : (MemAct.ofEvent e).low B) : EvHd (StillK Kc) B e := ⟨h.1, h.2.1, h.2.2, hl⟩
theorem KK_setChan {Kc : Addr → Option Value} {Inb : Nat → Option Seat} {w : World} (hch : ∀ i s c, Inb i = some s → s.has c → ∃ cap k, w.heap[c]? = some (.chan cap #[] false k k false)) (hK : KK Kc w) :
 ∀ (w' : World) (i : Nat) (s : Seat) (c cap : Nat) (buf : Array Value) (cl : Bool) (a b : Nat) (tm : Bool), Inb i = some s → s.has c → KK Kc w' → KK Kc (w'.setChan c cap buf cl a b tm) := by
 intro w' i s c cap buf cl a b tm hi hc hK' x v hx
 have hne : x.block ≠ c := by
  intro e
  obtain ⟨cap, k, hh⟩ := hch i s c hi hc
  have := (hK x v hx).1
  rw [← e] at hh
  simp [World.cell?, hh] at this
 obtain ⟨h1, h2⟩ := hK' x v hx
 have : (w'.setChan c cap buf cl a b tm).heap[x.block]? = w'.heap[x.block]? := by
  show (w'.heap.setIfInBounds c _)[x.block]? = _
  rw [al_gn (fun e => hne e.symm)]
 exact ⟨by rw [← h1]; simp only [World.cell?, this], by rw [← h2]; simp only [World.frozen?, this]⟩
theorem give_hold {Fin : Machine → Trace → Prop} (hFin : Back P Fin) {Kc : Addr → Option Value} {Inb : Nat → Option Seat} {h j n c : Nat} {z v z' : Value} {ok : Bool} {home : Goroutine → Prop} {a a₂ : Goroutine} {w : World} {es : Array Event} {new : Option Seat}
 (hjh : j ≠ h) (hjn : j < n) (hj : Inb j = some (Seat.one c z ok home)) (hrun : a.status = .running)
 (hsend : ∀ τ d, stepG P (h == 0) a (re w τ d) = .comm a₂ #[scase c v z'] true .send (re w τ d) es) (hes : ∀ e ∈ es, EvOk Kc e)
 (hb : Behind P Kc Inb h w (Conc.served a₂ undef) new)
 (hnext : ∀ g₂ k cap, home g₂ → w.heap[c]? = some (.chan cap #[] false k k false) → HoldR P Fin Kc (upd Inb h new) j n (Conc.served g₂ (recvd ok v true)) (w.setChan c cap #[] false (k + 1) (k + 1) false)) : HoldR P Fin Kc Inb h n a w := by
 intro τ d Mem B gs sl T q hM hsz hg C
 have hsend' : ∀ d', stepG P (h == 0) a (((re w τ 0).at d).at d') = .comm a₂ #[scase c v z'] true .send (((re w τ 0).at d).at d') es := fun d' => hsend τ d'
 obtain ⟨B₁, hB₁⟩ := low_exists es
 have fin : ∀ (B' : Nat) (Mem' : Nat → Prop) (Inb' : Nat → Option Seat) (hInb : Inb' = upd Inb h new) (m' : Machine) (T' : Trace) (N : Nat), (Mem' h → True) → Mem j →
  runNT P N (crowd gs ((re w τ 0).at d) sl) T = (.next m', T') → Given P (KK Kc) (StillK Kc) B' Mem Inb' j (Seat.one c z ok home) c 0 gs.size ((re w τ 0).at d) v m' T' → Fin (crowd gs ((re w τ 0).at d) sl) T := by
  intro B' Mem' Inb' hInb m' T' N _ hMj hr ⟨gs', g₂, d', k, cap, sl', q', hm, hsz', hgj, hhome, hheap, R⟩
  subst hm
  refine hFin N _ _ _ _ hr rfl rfl ?_
  have hcr : commResult (Seat.one c z ok home).cases (Seat.one c z ok home).shape ((0 : Nat) : Int) v true = recvd ok v true := commResult_one c z ok _ v true
  rw [hcr] at hgj
  have := hnext g₂ k cap hhome hheap
  subst hInb
  exact holdR_re this τ d' 0 |> fun H => by
   have e : ((re w τ 0).at d).at d' = re w τ d' := rfl
   have H' := this τ
   exact H' d' _ _ gs' sl' _ _ ⟨hMj, .inr rfl⟩ (by omega) hgj R
 have hchans : ∀ i s c, Inb i = some s → s.has c → ∃ cap k, ((re w τ 0).at d).heap[c]? = some (.chan cap #[] false k k false) := fun i s c hi hc => C.chans i s c (fun z => z) hi hc
 cases hb with
 | leaves h0 hq =>
  obtain ⟨nh, hq⟩ := hq
  let B' := max B B₁
  have C' := ring_mono (Nat.le_max_left B B₁) C
  obtain ⟨N, m', T', hr, hG⟩ := give (fun w d h => h) (KK_setChan hchans C.keep) (sl := sl) hjh (by omega) hj (kk := 0) (z := z) rfl hM hg hrun hsend' (fun e he => evHd_of (hes e he) (MemAct.low_mono (Nat.le_max_right _ _) (hB₁ e he))) C'
   (Inb' := upd Inb h none) (fun x hx => upd_ne Inb _ hx) (.inr (upd_same Inb h none)) (nh := nh) (fun T' hD => by rw [upd_same]; exact ⟨h0, by rw [hD]; exact hq⟩)
  exact fin B' Mem _ rfl m' T' N (fun _ => trivial) ((C'.mem j _ hj).1) hr hG
 | sits cb zb okb homeb hfresh hc hs =>
  obtain ⟨B₂, nh, hs⟩ := hs
  let B' := max B (max B₁ (max B₂ (cb + 1)))
  have hBB : B ≤ B' := Nat.le_max_left _ _
  have hB1 : B₁ ≤ B' := Nat.le_trans (Nat.le_max_left _ _) (Nat.le_max_right _ _)
  have hB2 : B₂ ≤ B' := Nat.le_trans (Nat.le_trans (Nat.le_max_left _ _) (Nat.le_max_right _ _)) (Nat.le_max_right _ _)
  have hB3 : cb < B' := Nat.lt_of_lt_of_le (Nat.lt_succ_self cb) (Nat.le_trans (Nat.le_trans (Nat.le_max_right B₂ (cb + 1)) (Nat.le_max_right _ _)) (Nat.le_max_right _ _))
  have C' := ring_mono hBB C
  have C₁ := C'.reseat hM (Seat.one cb zb okb homeb) (Seat.one_wf _ _ _ _) (fun i s' c' hi hI hc' hcc => by rw [Seat.one_has] at hcc; subst hcc; exact hfresh i s' hi hI hc') (fun c' hcc => by rw [Seat.one_has] at hcc; subst hcc; exact hc) (fun c' hcc => by rw [Seat.one_has] at hcc; subst hcc; exact hB3)
  have hj₁ : upd Inb h (some (Seat.one cb zb okb homeb)) j = some (Seat.one c z ok home) := by rw [upd_ne Inb _ hjh]; exact hj
  have hchans₁ : ∀ i s c, upd Inb h (some (Seat.one cb zb okb homeb)) i = some s → s.has c → ∃ cap k, ((re w τ 0).at d).heap[c]? = some (.chan cap #[] false k k false) := fun i s c hi hc => C₁.chans i s c (fun z => z) hi hc
  obtain ⟨N, m', T', hr, hG⟩ := give (fun w d h => h) (KK_setChan hchans₁ C.keep) (sl := sl) hjh (by omega) hj₁ (kk := 0) (z := z) rfl hM hg hrun hsend' (fun e he => evHd_of (hes e he) (MemAct.low_mono hB1 (hB₁ e he))) C₁
   (Inb' := upd Inb h (some (Seat.one cb zb okb homeb))) (fun x hx => rfl) (.inl rfl) (nh := nh) (fun T' hD => by rw [upd_same]; exact sits_mono hB2 hs)
  exact fin B' Mem _ rfl m' T' N (fun _ => trivial) ((C'.mem j _ hj).1) hr hG
theorem hire_hold {Fin : Machine → Trace → Prop} (hFin : Back P Fin) {Kc : Addr → Option Value} {Inb : Nat → Option Seat} {h n : Nat} {a a' child : Goroutine} {w : World} {es : Array Event} {new : Option Seat}
 (hrun : a.status = .running) (hgo : ∀ τ d, stepG P (h == 0) a (re w τ d) = .spawn a' child (re w τ d) es) (hes : ∀ e ∈ es, EvOk Kc e) (hnew : Inb n = none) (hn : h ≠ n)
 (hb : Behind P Kc Inb h w a' new)
 (hnext : HoldR P Fin Kc (upd Inb h new) n (n + 1) child w) : HoldR P Fin Kc Inb h n a w := by
 intro τ d Mem B gs sl T q hM hsz hg C
 have hgo' : ∀ d', stepG P (h == 0) a (((re w τ 0).at d).at d') = .spawn a' child (((re w τ 0).at d).at d') es := fun d' => hgo τ d'
 obtain ⟨B₁, hB₁⟩ := low_exists es
 subst hsz
 cases hb with
 | leaves h0 hq =>
  obtain ⟨nh, hq⟩ := hq
  have C' := ring_mono (Nat.le_max_left B B₁) C
  obtain ⟨N, gs', d', sl', T', q', hr, hsz', hgc, R⟩ := hire_give (fun w d h => h) (sl := sl) hM hg hrun hgo' (fun e he => evHd_of (hes e he) (MemAct.low_mono (Nat.le_max_right _ _) (hB₁ e he))) C' hnew
   (Inb' := upd Inb h none) (fun x hx => upd_ne Inb _ hx) (.inr (upd_same Inb h none)) (nh := nh) (fun T' hD => by rw [upd_same]; exact ⟨h0, by rw [hD]; exact hq⟩)
  exact hFin N _ _ _ _ hr rfl rfl (hnext τ d' _ _ gs' sl' _ _ (.inr rfl) hsz' hgc R)
 | sits cb zb okb homeb hfresh hc hs =>
  obtain ⟨B₂, nh, hs⟩ := hs
  let B' := max B (max B₁ (max B₂ (cb + 1)))
  have hBB : B ≤ B' := Nat.le_max_left _ _
  have hB1 : B₁ ≤ B' := Nat.le_trans (Nat.le_max_left _ _) (Nat.le_max_right _ _)
  have hB2 : B₂ ≤ B' := Nat.le_trans (Nat.le_trans (Nat.le_max_left _ _) (Nat.le_max_right _ _)) (Nat.le_max_right _ _)
  have hB3 : cb < B' := Nat.lt_of_lt_of_le (Nat.lt_succ_self cb) (Nat.le_trans (Nat.le_trans (Nat.le_max_right B₂ (cb + 1)) (Nat.le_max_right _ _)) (Nat.le_max_right _ _))
  have C' := ring_mono hBB C
  have C₁ := C'.reseat hM (Seat.one cb zb okb homeb) (Seat.one_wf _ _ _ _) (fun i s' c' hi hI hc' hcc => by rw [Seat.one_has] at hcc; subst hcc; exact hfresh i s' hi hI hc') (fun c' hcc => by rw [Seat.one_has] at hcc; subst hcc; exact hc) (fun c' hcc => by rw [Seat.one_has] at hcc; subst hcc; exact hB3)
  obtain ⟨N, gs', d', sl', T', q', hr, hsz', hgc, R⟩ := hire_give (fun w d h => h) (sl := sl) hM hg hrun hgo' (fun e he => evHd_of (hes e he) (MemAct.low_mono hB1 (hB₁ e he))) C₁ (by rw [upd_ne Inb _ (fun e => hn e.symm)]; exact hnew)
   (Inb' := upd Inb h (some (Seat.one cb zb okb homeb))) (fun x hx => rfl) (.inl rfl) (nh := nh) (fun T' hD => by rw [upd_same]; exact sits_mono hB2 hs)
  exact hFin N _ _ _ _ hr rfl rfl (hnext τ d' _ _ gs' sl' _ _ (.inr rfl) hsz' hgc R)
end
end Go.Car
set_option maxHeartbeats 1000000
namespace Go.Car
open Go Go.Conc Go.RowKit
section
variable {P : Program} {main : Bool} {Kc : Addr → Option Value} {γ : Type} {J : γ → Goroutine → World → Prop} {A : FuncId → Bool}
def contAt (J : γ → Goroutine → World → Prop) (ops : Array Oper) (rest : List Nat) (b : Frame) (k : List Item) (cs : List Frame) (s : γ) : Exit → Act → World → Prop
 | .normal, a, w => J s (G (b.at a (.inRegion ops rest :: k)) cs) w
 | .panic ch, a, w => ∀ τ d todo, J s (G { b.at a todo with mode := .panicking ch } cs) (re w τ d)
 | _, _, _ => False
theorem contAt_still (hJ : JS P main Kc J) {ops : Array Oper} {rest : List Nat} {b : Frame} {k : List Item} {cs : List Frame} {s : γ} : Still' (contAt J ops rest b k cs s) := by
 intro e a w τ d τ' d' h
 cases e with
 | normal => have := hJ.re' _ _ _ τ' d' h; exact this
 | panic ch => exact fun τ d => h τ d
 | _ => exact h
theorem at_cons {b : Frame} {k : List Item} {cs : List Frame} (hb : b.kind ≠ .early) (hJ : JS P main Kc J) {ops : Array Oper} {i : Nat} {rest : List Nat} {o : Oper} {s : γ} {a : Act} {w : World} (ho : ops[i]? = some o) (hw : Region.wanted o (yielded ops a.tmps) = true)
 (h : ∀ τ d, (∀ e ∈ ((execOp a.eval o).runT P (re w τ d) #[]).2, EvOk Kc e) ∧ OkD Kc (fun _ => True) (re w τ d) (resW ((execOp a.eval o).run P (re w τ d))) ∧
  uponJ o a (fun a' w' => J s (G (b.at a' (.inRegion ops rest :: k)) cs) w') (fun ch w' => ∀ todo, J s (G { b.at a todo with mode := .panicking ch } cs) w')
   (fun f args w' => False) ((execOp a.eval o).run P (re w τ d))) : J s (G (b.at a (.inRegion ops (i :: rest) :: k)) cs) w := by
 refine hJ.step _ _ _ rfl fun τ d => ?_
 obtain ⟨h1, h2, h3⟩ := h τ d
 have hfin : ∀ v, (b.at a (.inRegion ops (i :: rest) :: k)).finish v = b.at (a.put o.dst v) (.inRegion ops rest :: k) := fun v => by rw [Frame.finish_at, ho]; rfl
 have hk' : (b.kind == CallKind.early) = false := by simpa using hb
 have hrun : ((execOp a.eval o).runT P (re w τ d) #[]).1 = (execOp a.eval o).run P (re w τ d) := by rw [Sem.runT_eq]
 have hev : ∀ fn, ∀ e ∈ seen P fn ((execOp a.eval o).runT P (re w τ d) #[]).2, EvOk Kc e := fun fn e he => h1 e (mem_seen he)
 rw [stepG_oper ho hw, stepG.apply]
 simp only [if_true]
 generalize hr : (execOp a.eval o).runT P (re w τ d) #[] = r at hrun hev
 obtain ⟨res, es⟩ := r
 simp only at hrun hev
 subst hrun
 generalize hres : (execOp a.eval o).run P (re w τ d) = res at h2 h3
 have hke : ((b.at a (.inRegion ops (i :: rest) :: k)).kind == CallKind.early) = false := hk'
 cases res with
 | ok nx w' =>
  cases nx with
  | value v => exact ⟨G ((b.at a (.inRegion ops (i :: rest) :: k)).finish v) cs, w', seen P b.fn es, by simp only [hke, Bool.false_eq_true, if_false, GStep.after, Array.append_empty]; rfl, h2, hev _, by rw [hfin]; exact h3⟩
  | skip => exact ⟨G ((b.at a (.inRegion ops (i :: rest) :: k)).finish undef) cs, w', seen P b.fn es, by simp only [hke, Bool.false_eq_true, if_false, GStep.after, Array.append_empty]; rfl, h2, hev _, by rw [hfin]; exact h3⟩
  | defer dd =>
   refine ⟨G (b.at (({ a with defers := dd :: a.defers } : Act).put o.dst undef) (.inRegion ops rest :: k)) cs, w', seen P b.fn es, ?_, h2, hev _, (show J s (G (b.at (({ a with defers := dd :: a.defers } : Act).put o.dst undef) (.inRegion ops rest :: k)) cs) w' from h3)⟩
   simp only [hke, Bool.false_eq_true, if_false, GStep.after, Array.append_empty]
   have : (b.at { a with defers := dd :: a.defers } (.inRegion ops (i :: rest) :: k)).finish undef = b.at ({ a with defers := dd :: a.defers }.put o.dst undef) (.inRegion ops rest :: k) := by rw [Frame.finish_at, ho]; rfl
   rw [← this]
   rfl
  | _ => exact h3.elim
 | halt hh w' =>
  cases hh with
  | panic v =>
   refine ⟨G { b.at a (.inRegion ops (i :: rest) :: k) with mode := .panicking [{ v, recovered := false }] } cs, w', seen P b.fn es, ?_, h2, hev _, h3 _⟩
   simp only [hke, Bool.false_eq_true, if_false, GStep.after, Array.append_empty]; rfl
  | _ => exact h3.elim
theorem at_one {b : Frame} {k : List Item} {cs : List Frame} (hb : b.kind ≠ .early) (hJ : JS P main Kc J) (hA : Rows0 P A) {ops : Array Oper} {i : Nat} {rest l : List Nat} {o : Oper} {s : γ} {a : Act} {w : World} (ho : ops[i]? = some o) (hok : okOp P A o.op = true)
 (hev : Region.wanted o (yielded ops a.tmps) = true → ∀ τ d, (∀ e ∈ ((execOp a.eval o).runT P (re w τ d) #[]).2, EvOk Kc e) ∧ OkD Kc (fun _ => True) (re w τ d) (resW ((execOp a.eval o).run P (re w τ d))))
 (L : Act → World → Prop) (hL : ∀ a w τ τ' d d', (∀ j, τ' (d' + j) = τ (d + j)) → L a (re w τ d) → L a (re w τ' d')) (hrest : ∀ a w, (∀ τ d, L a (re w τ d)) → J s (G (b.at a (.inRegion ops rest :: k)) cs) w) (C : Exit → Act → World → Prop) (hp : ∀ ch a w, C (.panic ch) a w → ∀ todo, J s (G { b.at a todo with mode := .panicking ch } cs) w)
 (h : ∀ τ d, if Region.wanted o (yielded ops a.tmps) = true then o.wp P a (re w τ d) L C else L (a.put o.dst undef) (re w τ d)) : J s (G (b.at a (.inRegion ops (i :: rest) :: k)) cs) w := by
 by_cases hw : Region.wanted o (yielded ops a.tmps) = true
 · simp only [hw, if_true] at h
   refine at_cons hb hJ ho hw fun τ d => ?_
   obtain ⟨he, hD⟩ := hev hw τ d
   refine ⟨he, hD, ?_⟩
   have ht := (execOp_ok hA.ok o hok a.eval (act_func a)).1
   have hlr := list_run hA hok a (re w τ d)
   obtain ⟨_, h2, h3⟩ := run_re _ ht w τ τ d d fun _ => rfl
   have hyp := h τ d
   unfold Oper.wp at hyp
   have key : ∀ w₁ a', (∀ τ' d', (∀ j, j < w₁.drawn - d → τ' (d' + j) = τ (d + j)) → L a' (re w₁ τ' (d' + (w₁.drawn - d)))) → J s (G (b.at a' (.inRegion ops rest :: k)) cs) w₁ := by
    intro w₁ a' hk
    refine hrest a' w₁ fun τ' d' => ?_
    let n := w₁.drawn - d
    let τs : Nat → Question → Nat := fun j => if j < n then τ (d + j) else τ' (d' + (j - n))
    have := hk τs 0 (fun j hj => by simp only [τs, Nat.zero_add]; rw [if_pos hj])
    refine hL a' w₁ τs τ' (0 + n) d' (fun j => ?_) this
    simp only [τs]
    rw [if_neg (by omega)]
    congr 1; omega
   have again : ∀ τ' d', (∀ j, j < (resW ((execOp a.eval o).run P (re w τ d))).drawn - d → τ' (d' + j) = τ (d + j)) → (execOp a.eval o).run P (re w τ' d') = resRe ((execOp a.eval o).run P (re w τ d)) τ' (d' + ((resW ((execOp a.eval o).run P (re w τ d))).drawn - d)) := by
    intro τ' d' hag
    obtain ⟨_, _, h3⟩ := runT_re _ ht (re w τ d) #[]
    rw [Sem.runT_eq] at h3
    have := h3 τ' d' fun j hj => hag j (by have hj' : d + j < (resW ((execOp a.eval o).run P (re w τ d))).drawn := hj; omega)
    rw [Sem.runT_eq] at this
    exact (Prod.mk.inj this).1
   rcases hlr with ⟨v, w', hr⟩ | ⟨w', hr⟩ | ⟨hh, w', hr⟩
   · rw [hr] at again ⊢
     refine key w' _ fun τ' d' hag => ?_
     have h1 := h τ' d'
     unfold Oper.wp at h1
     rw [again τ' d' hag] at h1
     exact h1
   · rw [hr] at again ⊢
     refine key w' _ fun τ' d' hag => ?_
     have h1 := h τ' d'
     unfold Oper.wp at h1
     rw [again τ' d' hag] at h1
     exact h1
   · rw [hr] at hyp ⊢
     cases hh with
     | panic v => exact hp _ _ _ hyp
     | _ => exact hyp.elim
 · simp only [hw] at h
   exact hJ.ctl (fun w => stepG_unwanted ho (by simpa using hw)) (hrest _ _ fun τ d => h τ d)
theorem at_list {b : Frame} {k : List Item} {cs : List Frame} (hb : b.kind ≠ .early) (hJ : JS P main Kc J) (hA : Rows0 P A) {ops : Array Oper} {rest : List Nat} {s : γ} :
 ∀ (l : List (Nat × Oper)) (a : Act) (w : World), (∀ x ∈ l, ops[x.1]? = some x.2 ∧ okOp P A x.2.op = true ∧ (readOp P x.2.op = true ∨ Kc = fun _ => none)) →
  (∀ τ d, wpList P ops (contAt J ops rest b k cs s) (l.map (·.2)) a (re w τ d)) → J s (G (b.at a (.inRegion ops (l.map (·.1) ++ rest) :: k)) cs) w := by
 intro l
 induction l with
 | nil => exact fun a w _ h => h w.tape w.drawn
 | cons x l ih =>
  intro a w hl h
  obtain ⟨i, o⟩ := x
  obtain ⟨ho, hok, hk⟩ := hl (i, o) (by simp)
  refine at_one hb (rest := l.map (·.1) ++ rest) (l := []) hJ hA ho hok (fun _ τ d => ?_) (wpList P ops (contAt J ops rest b k cs s) (l.map (·.2))) (fun a w τ τ' d d' hτ => wpList_shift hA (contAt_still hJ) (fun _ _ h => h) _ a w τ τ' d d' (fun o ho => ?_) hτ)
   (fun a w h => ih a w (fun x hx => hl x (by simp [hx])) h) (contAt J ops rest b k cs s) (fun ch a w h => h w.tape w.drawn) fun τ d => ?_
  · rcases hk with hk | hk
    · exact evs_read (execOp_read o hk a.eval) _
    · exact evs_free (execOp_ok hA.ok o hok a.eval (act_func a)).1 hk _
  · obtain ⟨x, hx, rfl⟩ := List.mem_map.1 ho
    exact (hl x (by simp [hx])).2.1
  · have := h τ d
    simp only [List.map_cons, wpList] at this
    split at this
    · rename_i hw
      rw [if_pos hw]
      exact this.elim id (fun ⟨_, a, w, h⟩ => h.elim)
    · rename_i hw; rw [if_neg hw]; exact this
end
def chk (P : Program) (A : FuncId → Bool) (kc : Bool) (ops : Array Oper) (p m : Nat) : Bool :=
 ((ops.toList.drop p).take m).all fun o => okOp P A o.op && (!kc || readOp P o.op)
def pairs (p : Nat) : List Oper → List (Nat × Oper)
 | [] => []
 | o :: l => (p, o) :: pairs (p + 1) l
theorem pairs_snd (l : List Oper) : ∀ p, (pairs p l).map (·.2) = l := by
 induction l with
 | nil => intro p; rfl
 | cons o l ih => intro p; simp [pairs, ih]
theorem pairs_fst (l : List Oper) : ∀ p, (pairs p l).map (·.1) = List.range' p l.length := by
 induction l with
 | nil => intro p; rfl
 | cons o l ih => intro p; simp [pairs, ih, List.range'_succ]
theorem pairs_mem (l : List Oper) : ∀ p (x : Nat × Oper), x ∈ pairs p l → ∃ j, x.1 = p + j ∧ l[j]? = some x.2 := by
 induction l with
 | nil => intro p x h; cases h
 | cons o l ih =>
  intro p x h
  rcases List.mem_cons.1 h with rfl | h
  · exact ⟨0, rfl, rfl⟩
  · obtain ⟨j, h1, h2⟩ := ih (p + 1) x h
    exact ⟨j + 1, by omega, by simpa using h2⟩
section
variable {P : Program} {main : Bool} {Kc : Addr → Option Value} {γ : Type} {J : γ → Goroutine → World → Prop} {A : FuncId → Bool}
theorem mid_ok {ops : Array Oper} {kc : Bool} {p m : Nat} (hk : kc = true ∨ Kc = fun _ => none) (hc : chk P A kc ops p m = true) :
 ∀ x ∈ pairs p ((ops.toList.drop p).take m), ops[x.1]? = some x.2 ∧ okOp P A x.2.op = true ∧ (readOp P x.2.op = true ∨ Kc = fun _ => none) := by
 intro x hx
 obtain ⟨j, h1, h2⟩ := pairs_mem _ _ x hx
 have hmem : x.2 ∈ (ops.toList.drop p).take m := List.mem_of_getElem? h2
 have := List.all_eq_true.1 hc x.2 hmem
 simp only [Bool.and_eq_true] at this
 refine ⟨?_, this.1, ?_⟩
 · rw [h1]
   have h3 : (ops.toList.drop p)[j]? = some x.2 := by
    rw [List.getElem?_take] at h2
    split at h2
    · exact h2
    · cases h2
   rw [List.getElem?_drop] at h3
   simpa using h3
 · rcases hk with rfl | hk
   · exact .inl (by simpa using this.2)
   · exact .inr hk
theorem mid_len {ops : Array Oper} {p m r : Nat} (h : p + m + r = ops.size) : ((ops.toList.drop p).take m).length = m := by
 simp; omega
theorem at_mid {b : Frame} {k : List Item} {cs : List Frame} (hb : b.kind ≠ .early) (hJ : JS P main Kc J) (hA : Rows0 P A) (kc : Bool) (hk : kc = true ∨ Kc = fun _ => none) {ops : Array Oper} (p m r : Nat) {s : γ} {a : Act} {w : World}
 (hsz : p + m + r = ops.size) (hc : chk P A kc ops p m = true)
 (h : ∀ τ d, wpList P ops (contAt J ops (List.range' (p + m) r) b k cs s) ((ops.toList.drop p).take m) a (re w τ d)) : J s (G (b.at a (.inRegion ops (List.range' p (m + r)) :: k)) cs) w := by
 have := at_list (k := k) (cs := cs) hb hJ hA (rest := List.range' (p + m) r) (pairs p ((ops.toList.drop p).take m)) a w (mid_ok hk hc) (fun τ d => by rw [pairs_snd]; exact h τ d)
 rw [pairs_fst, mid_len hsz] at this
 rw [List.range'_append_1] at this
 exact this
end
@[go_sem] theorem re_cell? (w : World) (τ : Nat → Question → Nat) (d : Nat) (a : Addr) : (re w τ d).cell? a = w.cell? a := rfl
@[go_sem] theorem re_frozen? (w : World) (τ : Nat → Question → Nat) (d : Nat) (a : Addr) : (re w τ d).frozen? a = w.frozen? a := rfl
@[go_sem] theorem re_size (w : World) (τ : Nat → Question → Nat) (d : Nat) : (re w τ d).heap.size = w.heap.size := rfl
theorem re_setCell (w : World) (τ : Nat → Question → Nat) (d : Nat) (a : Addr) (v : Value) : (re w τ d).setCell a v = re (w.setCell a v) τ d := rfl
theorem re_alloc (w : World) (τ : Nat → Question → Nat) (d : Nat) (o : Obj) : (re w τ d).alloc o = re (w.alloc o) τ d := rfl
end Go.Car
namespace Go.Car
open Go Go.Conc Go.RowKit
section
variable {P : Program} {main : Bool} {b : Frame} {a : Act} {k : List Item} {cs : List Frame} {ops : Array Oper} {i : Nat} {rest : List Nat} {o : Oper}
def JX (P : Program) (Kc : Addr → Option Value) (J : Goroutine → World → Prop) : Prop := JS P false Kc (fun (_ : Unit) => J)
theorem send_at {c : Nat} {v z' : Value} (ho : ops[i]? = some o) (hw : Region.wanted o (yielded ops a.tmps) = true) (hk : b.kind ≠ .early)
 (hr : ∀ w, (execOp a.eval o).run P w = .ok (.comm #[scase c v z'] true .send) w) (he : ∀ w, (execOp a.eval o).events P w #[] = #[]) (w : World) :
 ∀ τ d, stepG P main (G (b.at a (.inRegion ops (i :: rest) :: k)) cs) (re w τ d) = .comm (G (b.at a (.inRegion ops (i :: rest) :: k)) cs) #[scase c v z'] true .send (re w τ d) #[] :=
 fun τ d => by rw [stepG_comm ho hw hk (hr _), listed_none (he _)]
theorem spawn_at {d : Deferred} {f : Fn} {c : Array Value} (ho : ops[i]? = some o) (hw : Region.wanted o (yielded ops a.tmps) = true) (hk : b.kind ≠ .early)
 (hr : ∀ w, (execOp a.eval o).run P w = .ok (.spawn d) w) (hd : d.target = .fn f c) (he : ∀ w, (execOp a.eval o).events P w #[] = #[]) (w : World) :
 ∀ τ dd, stepG P main (G (b.at a (.inRegion ops (i :: rest) :: k)) cs) (re w τ dd) = .spawn (G (b.at (a.put o.dst undef) (.inRegion ops rest :: k)) cs) (born P d) (re w τ dd) #[] :=
 fun τ dd => by rw [stepG_spawn ho hw hk (hr _) hd, listed_none (he _)]
end
end Go.Car
namespace Go.Car
open Go Go.Conc Go.RowKit
section
variable {P : Program} {main : Bool} {Kc : Addr → Option Value} {γ : Type} {J : γ → Goroutine → World → Prop} {A : FuncId → Bool}
theorem at_piece {b : Frame} {k : List Item} {cs : List Frame} (hb : b.kind ≠ .early) (hJ : JS P main Kc J) (hA : Rows0 P A) (kc : Bool) (hk : kc = true ∨ Kc = fun _ => none) {ops : Array Oper} (p m r : Nat) {todo rest : List Nat} {s : γ} {a : Act} {w : World}
 (hsz : p + m + r = ops.size) (ht : todo = List.range' p (m + r)) (hr : rest = List.range' (p + m) r) (hc : chk P A kc ops p m = true)
 (h : ∀ τ d, wpList P ops (contAt J ops rest b k cs s) ((ops.toList.drop p).take m) a (re w τ d)) : J s (G (b.at a (.inRegion ops todo :: k)) cs) w := by
 subst ht hr; exact at_mid hb hJ hA kc hk p m r hsz hc h
theorem at_panic {b : Frame} {k : List Item} {cs : List Frame} (hb : b.kind ≠ .early) (hJ : JS P main Kc J) {ops : Array Oper} {i : Nat} {rest : List Nat} {o : Oper} {s : γ} {a : Act} {w : World} {v : Value} (ho : ops[i]? = some o) (hw : Region.wanted o (yielded ops a.tmps) = true)
 (hr : ∀ w, (execOp a.eval o).run P w = .halt (.panic v) w) (he : ∀ w, (execOp a.eval o).events P w #[] = #[])
 (h : ∀ todo, J s (G { b.at a todo with mode := .panicking [{ v, recovered := false }] } cs) w) : J s (G (b.at a (.inRegion ops (i :: rest) :: k)) cs) w := by
 refine at_cons hb hJ ho hw fun τ d => ⟨?_, ?_, ?_⟩
 · rw [Sem.runT_eq, he]; simp
 · rw [hr]; exact OkD.refl _ _ _
 · rw [hr]; exact fun todo => hJ.re' _ _ _ τ d (h todo)
end
end Go.Car
