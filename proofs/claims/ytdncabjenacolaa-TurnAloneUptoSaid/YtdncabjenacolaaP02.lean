/- YtdncabjenacolaaTAlone9: part 2 of the proof (the texts behind it, in order). -/
import Derived.Test.YtdncabjenacolaaP01
set_option linter.unusedSimpArgs false
set_option linter.unusedVariables false
set_option linter.unusedSectionVars false
set_option linter.unnecessarySimpa false
set_option maxHeartbeats 2000000
namespace Go.Car
open Go Go.Conc Go.RowKit
structure Sb where
 fr : Frame
 ab : List Frame
 bot : Option Frame
 w : World
 deriving Inhabited
def Sb.fs (k : List Item) (ds : List Deferred) (kd : CallKind) (s : Sb) : List Frame :=
 match s.bot with
 | some b => s.ab ++ [sfx k ds kd b]
 | none => []
def Sb.tp (k : List Item) (ds : List Deferred) (kd : CallKind) (s : Sb) : Frame :=
 match s.bot with
 | some _ => s.fr
 | none => sfx k ds kd s.fr
def Sb.real (k : List Item) (ds : List Deferred) (kd : CallKind) (cs : List Frame) (s : Sb) : Goroutine := G (s.tp k ds kd) (s.fs k ds kd ++ cs)
section
variable {P : Program} {A : FuncId → Bool}
structure Sb.Ok (P : Program) (A : FuncId → Bool) (s : Sb) : Prop where
 top : Fine P A s.fr
 mid : ∀ c ∈ s.ab, Fine P A c
 bot : ∀ b, s.bot = some b → Fine P A b ∧ b.todo ≠ []
 none : s.bot = none → s.ab = []
def Sb.Done (s : Sb) : Prop := s.bot = none ∧ (s.fr.mode = .returning ∨ s.fr.todo = [])
def NextB (P : Program) (A : FuncId → Bool) (s : Sb) (τ0 : Nat → Question → Nat) (d n : Nat) (s' : Sb) (es : Array Event) : Prop :=
 s'.Ok P A ∧ s'.w.tape = τ0 ∧ (∀ e ∈ es, calmEv true e) ∧ s'.w.drawn = d + n ∧
 ∀ main k ds kd cs, kd ≠ CallKind.early → ∀ τ e, (∀ j, j < n → τ (e + j) = τ0 (d + j)) → stepG P main (s.real k ds kd cs) (re s.w τ e) = .go (s'.real k ds kd cs) (re s'.w τ (e + n)) es
def BadB (st : GStep) (fs cs : List Frame) : Prop := (∃ o w' es, st = .ended o w' es) ∨ ∃ fr' ch w' es, st = .go (G fr' (fs ++ cs)) w' es ∧ fr'.mode = .panicking ch ∧ fr'.defers = []
def HaltB (P : Program) (s : Sb) (τ0 : Nat → Question → Nat) (d n : Nat) : Prop :=
 s.Done ∨ ∀ main k cs, (∀ id, exitTo id k = none) → ∀ τ e, (∀ j, j < n → τ (e + j) = τ0 (d + j)) → BadB (stepG P main (s.real k [] .normal cs) (re s.w τ e)) (s.fs k [] .normal) cs
theorem fine_run {fr : Frame} (h : Fine P A fr) (hm : fr.mode = .run) (hne : fr.todo ≠ []) : ∃ i t, fr = Fr fr.fn fr.tmps (i :: t) := by
 have e := fr_of_fine h hm
 cases ht : fr.todo with
 | nil => exact absurd ht hne
 | cons i t => rw [ht] at e; exact ⟨i, t, e⟩
theorem wayB (hP : Plain P A) (s : Sb) (hs : s.Ok P A) (τ0 : Nat → Question → Nat) (d : Nat) :
 (∃ n s' es, NextB P A s τ0 d n s' es) ∨ ∃ n, HaltB P s τ0 d n := by
 by_cases hdone : s.Done
 · exact .inr ⟨0, .inl hdone⟩
 obtain ⟨fr, ab, bot, w⟩ := s
 obtain ⟨h1, h2, h3, h4⟩ := hs
 simp only at h1 h2 h3 h4
 cases bot with
 | none =>
  have hab := h4 rfl
  subst hab
  have hmode : fr.mode = .run := by
   rcases h1.mode with h | h
   · exact h
   · exact absurd ⟨rfl, .inl h⟩ hdone
  have hne : fr.todo ≠ [] := fun h => hdone ⟨rfl, .inr h⟩
  obtain ⟨i, t, he⟩ := fine_run h1 hmode hne
  have tl : ∀ main k ds kd cs cs' w, kd ≠ CallKind.early → Told P main k ds kd fr cs cs' w (stepG P main (G fr cs) w) := fun main k ds kd cs cs' w hkd => by
   have h1' := h1
   rw [he] at h1' ⊢
   exact told hP hkd h1'
  cases way hP fr [] (re w τ0 d) h1 (by simp) with
  | pop _ hm => rw [hmode] at hm; cases hm
  | bad w' hd hst =>
   have hd' : d ≤ w'.drawn := hd
   refine .inr ⟨w'.drawn - d, .inr fun main k cs hk τ e hag => ?_⟩
   have hb := hst main [] τ e fun j hj => hag j (by have : d + j < w'.drawn := hj; omega)
   have tl' := tl main k [] .normal [] cs (re w τ e) (by decide)
   have hb' : Bad (stepG P main (G fr []) (re w τ e)) [] [] := hb
   generalize stepG P main (G fr []) (re w τ e) = gs at tl' hb'
   cases tl' with
   | same fr'' w'' es'' h hr hnm =>
    rcases hb' with ⟨o, w', es, h'⟩ | ⟨fr', ch, w', es, h', hm, _⟩
    · cases h'
    · simp only [GStep.go.injEq, G, Goroutine.mk.injEq] at h'
      obtain ⟨⟨e1, _⟩, _⟩ := h'
      subst e1
      exact absurd hm (hnm ch)
   | enter g w'' es'' h =>
    rcases hb' with ⟨o, w', es, h'⟩ | ⟨fr', ch, w', es, h', hm, _⟩
    · cases h'
    · simp [G] at h'
   | panics fr'' ch w'' es'' h hk' =>
    obtain ⟨f2, w2, e2, h2, h3, h4⟩ := hk'
    exact .inr ⟨f2, ch, w2, e2, h2, h3, h4⟩
   | ends o w' es hk' => exact .inl (hk' hk)
  | on fr' above' w' es hf' ha' hd ht hev hst =>
   have hd' : d ≤ w'.drawn := hd
   have ht' : w'.tape = τ0 := ht
   have hstep : ∀ main cs τ e, (∀ j, j < w'.drawn - d → τ (e + j) = τ0 (d + j)) → stepG P main (G fr cs) (re w τ e) = .go (G fr' (above' ++ cs)) (re w' τ (e + (w'.drawn - d))) es := fun main cs τ e hag =>
    hst main cs τ e fun j hj => hag j (by have : d + j < w'.drawn := hj; omega)
   cases above' with
   | nil =>
    refine .inl ⟨w'.drawn - d, ⟨fr', [], none, w'⟩, es, ⟨hf', by simp, by simp, fun _ => rfl⟩, ht', hev, (by show w'.drawn = _; omega), fun main k ds kd cs hkd τ e hag => ?_⟩
    have tl' := tl main k ds kd cs cs (re w τ e) hkd
    rw [hstep main cs τ e hag] at tl'
    generalize hgen : GStep.go (G fr' ([] ++ cs)) (re w' τ (e + (w'.drawn - d))) es = gs at tl'
    cases tl' with
    | same fr'' w'' es'' h hr hnm =>
     simp only [GStep.go.injEq, G, Goroutine.mk.injEq] at hgen
     obtain ⟨⟨e1, e2, _⟩, e3, e4⟩ := hgen
     subst e1 e3 e4
     exact h
    | enter g w'' es'' h =>
     simp only [GStep.go.injEq, G, Goroutine.mk.injEq] at hgen
     obtain ⟨⟨e1, e2, _⟩, e3, e4⟩ := hgen
     have := congrArg List.length e2
     simp at this
    | panics fr'' ch w'' es'' h hk' =>
     simp only [GStep.go.injEq, G, Goroutine.mk.injEq] at hgen
     obtain ⟨⟨e1, _⟩, _⟩ := hgen
     subst e1
     rcases hf'.mode with h' | h' <;> rw [h'] at h <;> cases h
    | ends => cases hgen
   | cons c r =>
    have hcr : c = fr ∧ r = [] := by
     have tl' := tl true [] [] .normal [] [] (re w τ0 d) (by decide)
     rw [hstep true [] τ0 d (fun _ _ => rfl)] at tl'
     generalize hgen : GStep.go (G fr' (c :: r ++ [])) (re w' τ0 (d + (w'.drawn - d))) es = gs at tl'
     cases tl' with
     | same fr'' w'' es'' h hr hnm => simp [G] at hgen
     | enter g w'' es'' h =>
      simp only [GStep.go.injEq, G, Goroutine.mk.injEq] at hgen
      obtain ⟨⟨e1, e2, _⟩, e3, e4⟩ := hgen
      simp at e2
      exact e2
     | panics fr'' ch w'' es'' h hk' => simp [G] at hgen
     | ends => cases hgen
    obtain ⟨rfl, rfl⟩ := hcr
    refine .inl ⟨w'.drawn - d, ⟨fr', [], some c, w'⟩, es, ⟨hf', by simp, fun b hb => by cases hb; exact ⟨h1, hne⟩, by simp⟩, ht', hev, (by show w'.drawn = _; omega), fun main k ds kd cs hkd τ e hag => ?_⟩
    have tl' := tl main k ds kd cs cs (re w τ e) hkd
    rw [hstep main cs τ e hag] at tl'
    generalize hgen : GStep.go (G fr' ([c] ++ cs)) (re w' τ (e + (w'.drawn - d))) es = gs at tl'
    cases tl' with
    | same fr'' w'' es'' h hr hnm =>
     simp only [GStep.go.injEq, G, Goroutine.mk.injEq] at hgen
     obtain ⟨⟨e1, e2, _⟩, e3, e4⟩ := hgen
     have := congrArg List.length e2
     simp at this
    | enter g w'' es'' h =>
     simp only [GStep.go.injEq, G, Goroutine.mk.injEq] at hgen
     obtain ⟨⟨e1, e2, _⟩, e3, e4⟩ := hgen
     subst e1 e3 e4
     exact h
    | panics fr'' ch w'' es'' h hk' =>
     simp only [GStep.go.injEq, G, Goroutine.mk.injEq] at hgen
     obtain ⟨⟨e1, _⟩, _⟩ := hgen
     subst e1
     rcases hf'.mode with h' | h' <;> rw [h'] at h <;> cases h
    | ends => cases hgen
 | some b =>
  obtain ⟨hb, hbne⟩ := h3 b rfl
  cases way hP fr ab (re w τ0 d) h1 h2 with
  | bad w' hd hst =>
   have hd' : d ≤ w'.drawn := hd
   refine .inr ⟨w'.drawn - d, .inr fun main k cs hk τ e hag => ?_⟩
   have := hst main (sfx k [] .normal b :: cs) τ e fun j hj => hag j (by have : d + j < w'.drawn := hj; omega)
   have e1 : (⟨fr, ab, some b, w⟩ : Sb).real k [] .normal cs = G fr (ab ++ sfx k [] .normal b :: cs) := by simp [Sb.real, Sb.tp, Sb.fs]
   rw [e1]
   rcases this with h | ⟨fr', ch, w'', es, h, hm, hdd⟩
   · exact .inl h
   · exact .inr ⟨fr', ch, w'', es, h.trans (by simp [Sb.fs]), hm, hdd⟩
  | on fr' above' w' es hf' ha' hd ht hev hst =>
   have hd' : d ≤ w'.drawn := hd
   have ht' : w'.tape = τ0 := ht
   refine .inl ⟨w'.drawn - d, ⟨fr', above', some b, w'⟩, es, ⟨hf', ha', fun b' hb' => by cases hb'; exact ⟨hb, hbne⟩, by simp⟩, ht', hev, (by show w'.drawn = _; omega), fun main k ds kd cs hkd τ e hag => ?_⟩
   have := hst main (sfx k ds kd b :: cs) τ e fun j hj => hag j (by have : d + j < w'.drawn := hj; omega)
   have e1 : ∀ fr ab w, (⟨fr, ab, some b, w⟩ : Sb).real k ds kd cs = G fr (ab ++ sfx k ds kd b :: cs) := fun _ _ _ => by simp [Sb.real, Sb.tp, Sb.fs]
   rw [e1, e1]
   exact this
  | pop hab hm =>
   subst hab
   have hfin : ∀ k ds kd v, (sfx k ds kd b).finish v = sfx k ds kd (b.finish v) := fun k ds kd v => sfx_finish hb.round hbne v
   have hfb : ∀ v, Fine P A (b.finish v) := fun v => fine_finish hb v
   have e1 : ∀ k ds kd cs, (⟨fr, [], some b, w⟩ : Sb).real k ds kd cs = G fr (sfx k ds kd b :: cs) := fun _ _ _ _ => by simp [Sb.real, Sb.tp, Sb.fs]
   have e2 : ∀ k ds kd cs v w, (⟨b.finish v, [], none, w⟩ : Sb).real k ds kd cs = G ((sfx k ds kd b).finish v) cs := fun _ _ _ _ _ _ => by rw [hfin]; simp [Sb.real, Sb.tp, Sb.fs]
   cases hf : P.funcs[fr.fn]? with
   | none =>
    refine .inl ⟨0, ⟨b.finish (fr.tmps.getD 0 undef), [], none, re w τ0 d⟩, #[], ⟨hfb _, by simp, by simp, fun _ => rfl⟩, rfl, by simp, rfl, fun main k ds kd cs hkd τ e hag => ?_⟩
    rw [e1, e2]
    simp [G, stepG, unwind, doReturn, hm, h1.defers, h1.kind, hf]
    rfl
   | some fn =>
    obtain ⟨r1, r2, r3⟩ := runT_re (P := P) (results fn fr.tmps) (tame_more _ (tame_results fn fr.tmps)) (re w τ0 d) #[]
    have hcalm := runT_calm (P := P) (results fn fr.tmps) (tame_more _ (tame_results fn fr.tmps)) (re w τ0 d) #[]
    have hst : ∀ main c cs w, stepG P main (G fr (c :: cs)) w = GStep.after (seen P fr.fn ((results fn fr.tmps).runT P w #[]).2) (match ((results fn fr.tmps).runT P w #[]).1 with
     | .ok v w => .go (G (c.finish v) cs) w
     | .halt (.stuck s) w => .ended (.stuck s (fr.pos P)) w
     | .halt _ w => .ended (.stuck "return: the result variables cannot be read" (fr.pos P)) w) := fun main c cs w => by
     simp only [G, stepG, unwind, hm, h1.defers, hf]
     cases (Sem.runT P (results fn fr.tmps) w #[]).fst with
     | ok v w => simp [doReturn, h1.kind]
     | halt h w => cases h <;> rfl
    generalize hrr : (results fn fr.tmps).runT P (re w τ0 d) #[] = rr at r1 r2 r3 hcalm
    obtain ⟨res, es⟩ := rr
    simp only at r1 r2 r3 hcalm
    have hev : ∀ fn, ∀ e ∈ seen P fn es, calmEv true e := fun fn e he => (hcalm e (mem_seen he)).resolve_left (by simp)
    have e3 : ∀ τ e, re (re w τ0 d) τ e = re w τ e := fun _ _ => rfl
    cases res with
    | ok v w' =>
     have hd' : d ≤ w'.drawn := r1
     refine .inl ⟨w'.drawn - d, ⟨b.finish v, [], none, w'⟩, seen P fr.fn es, ⟨hfb _, by simp, by simp, fun _ => rfl⟩, r2, hev _, (by show w'.drawn = _; omega), fun main k ds kd cs hkd τ e hag => ?_⟩
     have := r3 τ e fun j hj => hag j (by have : d + j < w'.drawn := hj; omega)
     rw [e3] at this
     rw [e1, e2, hst, this]
     simp only [resRe, resW, GStep.after, Array.append_empty]
     rfl
    | halt h w' =>
     have hd' : d ≤ w'.drawn := r1
     refine .inr ⟨w'.drawn - d, .inr fun main k cs hk τ e hag => .inl ?_⟩
     have := r3 τ e fun j hj => hag j (by have : d + j < w'.drawn := hj; omega)
     rw [e3] at this
     rw [e1, hst, this]
     simp only [resRe]
     cases h <;> exact ⟨_, _, _, rfl⟩
end
def wall : List Item := [.code (.refuse "")]
section
variable {P : Program} {A : FuncId → Bool} {k : List Item} {ds : List Deferred} {kd : CallKind}
theorem from_return {n : Nat} {fr : Frame} {W : World} (hdf : fr.defers = []) (hkk : fr.kind = .normal) (h2 : fr.mode = .returning) {frf : Frame} {wf : World} (hn : n ≠ 0) : runN P n (Go.lone fr [trap] W) ≠ .next (Go.lone frf [trap] wf) := by
 intro hr
 obtain ⟨m, rfl⟩ : ∃ m, n = m + 1 := ⟨n - 1, by omega⟩
 have hend : (∃ v w', ∃ es, stepG P true (G fr [trap]) W = .go (G (trap.finish v) []) w' es) ∨ ∃ o w' es, stepG P true (G fr [trap]) W = .ended o w' es := by
  cases hfn : P.funcs[fr.fn]? with
  | none => exact .inl ⟨_, _, _, by simp [G, stepG, unwind, doReturn, h2, hdf, hkk, hfn]; exact ⟨rfl, rfl, rfl⟩⟩
  | some fn =>
   have hst : stepG P true (G fr [trap]) W = GStep.after (seen P fr.fn ((results fn fr.tmps).runT P W #[]).2) (match ((results fn fr.tmps).runT P W #[]).1 with
    | .ok v w => doReturn P true fr [trap] none v w
    | .halt (.stuck s) w => .ended (.stuck s (fr.pos P)) w
    | .halt _ w => .ended (.stuck "return: the result variables cannot be read" (fr.pos P)) w) := by
    simp only [G, stepG, unwind, h2, hdf, hfn]
    cases (Sem.runT P (results fn fr.tmps) W #[]).fst with
    | ok v w => rfl
    | halt h w => cases h <;> rfl
   rw [hst]
   generalize (Sem.runT P (results fn fr.tmps) W #[]).fst = rr
   cases rr with
   | ok v w => exact .inl ⟨v, w, _, by simp only [doReturn, hkk, GStep.after]; rfl⟩
   | halt h w => cases h <;> exact .inr ⟨_, _, _, rfl⟩
 rcases hend with ⟨v, w', es, h⟩ | ⟨o, w', es, h⟩
 · rw [runN_go h] at hr; exact trap_run _ _ _ hr
 · exact runN_ended h _ _ hr
theorem fine_sfx {fr : Frame} (hf : Fine P A fr) : Fine P A (sfx wall [] .normal fr) :=
 ⟨fun i hi => by
  rcases List.mem_append.1 hi with h | h
  · exact hf.todo i h
  · rw [List.mem_singleton.1 h]; rfl, rfl, rfl, rfl, hf.mode⟩
theorem fine_fs {s : Sb} (hs : s.Ok P A) : ∀ c ∈ s.fs wall [] .normal, Fine P A c := by
 intro c hc
 unfold Sb.fs at hc
 cases hb : s.bot with
 | none => rw [hb] at hc; cases hc
 | some b =>
  rw [hb] at hc
  rcases List.mem_append.1 hc with h | h
  · exact hs.mid c h
  · rw [List.mem_singleton.1 h]; exact fine_sfx (hs.bot b hb).1
theorem real_G (s : Sb) (k : List Item) (ds : List Deferred) (kd : CallKind) (cs : List Frame) : s.real k ds kd cs = G (s.tp k ds kd) (s.fs k ds kd ++ cs) := rfl
theorem top_tp {s : Sb} (hok : s.Ok P A) (hd : ¬ s.Done) (hkd : kd ≠ .early) : Top P A (s.tp k ds kd) := by
 unfold Sb.tp
 cases hb : s.bot with
 | some b => exact hok.top.top
 | none =>
  have hm : s.fr.mode = .run := hok.top.mode.resolve_right fun h => hd ⟨hb, .inl h⟩
  cases ht : s.fr.todo with
  | nil => exact absurd ⟨hb, .inr ht⟩ hd
  | cons i t => exact ⟨rfl, hkd, .inl ⟨hm, i, t ++ k, by show s.fr.todo ++ k = _; rw [ht]; rfl, hok.top.todo i (by rw [ht]; simp)⟩⟩
theorem chunk (hP : Plain P A) (hkd : kd ≠ .early) {main : Bool} {J : Goroutine → World → Prop} {cs : List Frame}
 (hJ : ∀ fr cs' w, Top P A fr → (∀ τ d, ∃ fr' cs'' w' es, stepG P main (G fr cs') (re w τ d) = .go (G fr' cs'') w' es ∧ (∀ e ∈ es, calmEv true e) ∧ J (G fr' cs'') w') → J (G fr cs') w)
 {fr₀ : Frame} {w : World} (hfine : Fine P A fr₀) {Φ : Frame → World → Prop} (hΦr : ∀ fr w τ d, Φ fr w → Φ fr (re w τ d)) (hΦm : ∀ fr w, Φ fr w → ∀ ch, fr.mode ≠ .panicking ch)
 (alone : ∀ τ d, ∃ n frf wf, runN P n (Go.lone (sfx wall [] .normal fr₀) [trap] (re w τ d)) = .next (Go.lone frf [trap] wf) ∧ Φ frf wf)
 (after : ∀ fr w, Φ (sfx wall [] .normal fr) w → J (G (sfx k ds kd fr) cs) w) : J (G (sfx k ds kd fr₀) cs) w := by
 classical
 refine Classical.byContradiction fun hnot => ?_
 let bad : Sb → Prop := fun s => s.Ok P A ∧ ¬ J (s.real k ds kd cs) s.w
 have alt : ∀ s, bad s → ∃ τ d n, (∃ s' es, NextB P A s τ d n s' es ∧ bad s') ∨ HaltB P s τ d n := by
  intro s ⟨hok, hj⟩
  by_cases hdone : s.Done
  · exact ⟨fun _ _ => 0, 0, 0, .inr (.inl hdone)⟩
  have : ¬ ∀ τ d, ∃ fr' cs'' w' es, stepG P main (s.real k ds kd cs) (re s.w τ d) = .go (G fr' cs'') w' es ∧ (∀ e ∈ es, calmEv true e) ∧ J (G fr' cs'') w' := fun h => hj (hJ _ _ _ (top_tp hok hdone hkd) h)
  obtain ⟨τ, hd⟩ := Classical.not_forall.1 this
  obtain ⟨d, hd⟩ := Classical.not_forall.1 hd
  rcases wayB hP s hok τ d with ⟨n, s', es, hn⟩ | ⟨n, hn⟩
  · refine ⟨τ, d, n, .inl ⟨s', es, hn, hn.1, fun hj' => hd ?_⟩⟩
    have h6 := hn.2.2.2.2 main k ds kd cs hkd τ d (fun _ _ => rfl)
    have e2 : re s'.w τ (d + n) = s'.w := by rw [← hn.2.2.2.1, ← hn.2.1]; rfl
    rw [e2] at h6
    exact ⟨_, _, _, _, h6, hn.2.2.1, hj'⟩
  · exact ⟨τ, d, n, .inr hn⟩
 let tt : Sb → Nat → Question → Nat := fun s => if h : bad s then (alt s h).choose else fun _ _ => 0
 let dd : Sb → Nat := fun s => if h : bad s then (alt s h).choose_spec.choose else 0
 let nn : Sb → Nat := fun s => if h : bad s then (alt s h).choose_spec.choose_spec.choose else 0
 have hdn : ∀ s (h : bad s), (∃ s' es, NextB P A s (tt s) (dd s) (nn s) s' es ∧ bad s') ∨ HaltB P s (tt s) (dd s) (nn s) := by
  intro s h
  simp only [tt, dd, nn, dif_pos h]
  exact (alt s h).choose_spec.choose_spec.choose_spec
 let nx : Sb → Sb := fun s => if h : ∃ s' es, NextB P A s (tt s) (dd s) (nn s) s' es ∧ bad s' then h.choose else s
 let sq : Nat → Sb := fun m => Nat.rec ⟨fr₀, [], none, w⟩ (fun _ s => nx s) m
 let D : Nat → Nat := fun m => Nat.rec 0 (fun m x => x + nn (sq m)) m
 have sqS : ∀ m, sq (m + 1) = nx (sq m) := fun m => rfl
 have DS : ∀ m, D (m + 1) = D m + nn (sq m) := fun m => rfl
 have Dmono : ∀ m m', m ≤ m' → D m ≤ D m' := by
  intro m m' h
  induction h with
  | refl => exact Nat.le_refl _
  | step _ ih => exact Nat.le_trans ih (by rw [DS]; exact Nat.le_add_right _ _)
 let τ : Nat → Question → Nat := fun i => if h : ∃ m, D m ≤ i ∧ i < D (m + 1) then tt (sq h.choose) (dd (sq h.choose) + (i - D h.choose)) else fun _ => 0
 have hτ : ∀ m j, j < nn (sq m) → τ (D m + j) = tt (sq m) (dd (sq m) + j) := by
  intro m j hj
  have hex : ∃ m', D m' ≤ D m + j ∧ D m + j < D (m' + 1) := ⟨m, Nat.le_add_right _ _, by rw [DS]; omega⟩
  have hm : hex.choose = m := by
   obtain ⟨h1, h2⟩ := hex.choose_spec
   rcases Nat.lt_trichotomy hex.choose m with h | h | h
   · have := Dmono (hex.choose + 1) m h; omega
   · exact h
   · have := Dmono (m + 1) hex.choose h; rw [DS] at this; omega
  simp only [τ, dif_pos hex]
  rw [hm]
  congr 1
  omega
 obtain ⟨N, frf, wf, hrun, hΦ⟩ := alone τ 0
 have hbad0 : bad (sq 0) := ⟨⟨hfine, fun c hc => (by cases hc), fun b hb => (by cases hb), fun _ => rfl⟩, hnot⟩
 let LN : Sb → World → Machine := fun s w => Go.lone (s.tp wall [] .normal) (s.fs wall [] .normal ++ [trap]) w
 have main' : ∀ m, m ≤ N → bad (sq m) ∧ runN P (N - m) (LN (sq m) (re (sq m).w τ (D m))) = .next (Go.lone frf [trap] wf) := by
  intro m
  induction m with
  | zero => exact fun _ => ⟨hbad0, hrun⟩
  | succ m ih =>
   intro hm
   obtain ⟨hb, hr⟩ := ih (by omega)
   obtain ⟨p, hp⟩ : ∃ p, N - m = p + 1 := ⟨N - m - 1, by omega⟩
   rw [hp] at hr
   have hag : ∀ j, j < nn (sq m) → τ (D m + j) = tt (sq m) (dd (sq m) + j) := fun j hj => hτ m j hj
   rcases hdn _ hb with hex | hh
   · have e : sq (m + 1) = hex.choose := by rw [sqS]; simp only [nx, dif_pos hex]
     obtain ⟨es, hn, hb'⟩ := hex.choose_spec
     rw [← e] at hn hb'
     refine ⟨hb', ?_⟩
     have hst := hn.2.2.2.2 true wall [] .normal [trap] (by decide) τ (D m) hag
     rw [real_G, real_G] at hst
     rw [runN_go hst] at hr
     rw [show N - (m + 1) = p by omega, DS]
     exact hr
   · exfalso
     rcases hh with ⟨h1, h2⟩ | hh
     · have hab := hb.1.none h1
       have hfs : (sq m).fs wall [] .normal = [] := by unfold Sb.fs; rw [h1]
       have htp : (sq m).tp wall [] .normal = sfx wall [] .normal (sq m).fr := by unfold Sb.tp; rw [h1]
       simp only [LN, hfs, htp, List.nil_append] at hr
       have hf := hb.1.top
       rcases h2 with h2 | h2
       · exact from_return (fr := sfx wall [] .normal (sq m).fr) rfl rfl h2 (Nat.succ_ne_zero p) hr
       · rcases hf.mode with hmr | hmr
         · have hst : ∃ o w' es, stepG P true (G (sfx wall [] .normal (sq m).fr) [trap]) (re (sq m).w τ (D m)) = .ended o w' es := by
            simp [sfx, wall, h2, hmr, G, stepG, stepG.exec]
           obtain ⟨o, w', es, hst⟩ := hst
           exact runN_ended hst _ _ hr
         · exact from_return (fr := sfx wall [] .normal (sq m).fr) rfl rfl hmr (Nat.succ_ne_zero p) hr
     · have hbb := hh true wall [trap] (by intro id; rfl) τ (D m) hag
       rw [real_G] at hbb
       rcases hbb with ⟨o, w', es, h⟩ | ⟨fr', ch, w', es, h, hm', hd'⟩
       · exact runN_ended h _ _ hr
       · simp only [LN] at hr
         rw [runN_go h] at hr
         exact doomed _ fr' _ w' ch hm' hd' (fine_fs hb.1) (hΦm _ _ hΦ) hr
 obtain ⟨hb, hr⟩ := main' N (Nat.le_refl _)
 simp only [Nat.sub_self, runN, Stepped.next.injEq, LN] at hr
 obtain ⟨e1, e2, e3⟩ := lone_inj hr
 have hbot : (sq N).bot = none := by
  cases h : (sq N).bot with
  | none => rfl
  | some b =>
   unfold Sb.fs at e2
   rw [h] at e2
   have := congrArg List.length e2
   simp at this
 have htp : (sq N).tp wall [] .normal = sfx wall [] .normal (sq N).fr := by unfold Sb.tp; rw [hbot]
 rw [htp] at e1
 refine hb.2 ?_
 have hreal : (sq N).real k ds kd cs = G (sfx k ds kd (sq N).fr) cs := by unfold Sb.real Sb.tp Sb.fs; rw [hbot]; rfl
 rw [hreal]
 refine after _ _ ?_
 rw [e1]
 have hw : (sq N).w = re wf (sq N).w.tape (sq N).w.drawn := by rw [← e3]; rfl
 rw [hw]
 exact hΦr _ _ _ _ hΦ
end
set_option maxHeartbeats 1000000
section
variable {P : Program} {main : Bool} {Kc : Addr → Option Value} {γ : Type} {J : γ → Goroutine → World → Prop} {A : FuncId → Bool}
def ends (C R : Act → World → Prop) : Exit → Act → World → Prop
 | .normal, a, w => a.defers = [] ∧ C a w
 | .ret, a, w => a.defers = [] ∧ R a w
 | _, _, _ => False
theorem wpJ_lone (hJ : JS P main Kc J) (hcalm : CalmJ P main J) (hP : Plain P A) {c : Code} (hc : okCode P A c = true) (C R : Act → World → Prop)
 (hC : ∀ a w τ d, C a w → C a (re w τ d)) (hR : ∀ a w τ d, R a w → R a (re w τ d)) {Q : γ → Exit → Act → World → Prop} {s : γ} {a : Act} {w : World}
 (h : ∀ τ d, Code.wp P c (ends C R) ⟨a.tmps, []⟩ (re w τ d))
 (hq : ∀ t w, C ⟨t, []⟩ w → Q s .normal ⟨t, a.defers⟩ w) (hr : ∀ t w, R ⟨t, []⟩ w → Q s .ret ⟨t, a.defers⟩ w) : wpJ J c Q s a w := by
 intro b k cs hb hk
 let b₀ : Frame := { (default : Frame) with fn := b.fn, kind := .normal }
 let Φ : Frame → World → Prop := fun fr w => (∃ t, fr = b₀.at ⟨t, []⟩ wall ∧ C ⟨t, []⟩ w) ∨ (fr.mode = .returning ∧ fr.fn = b.fn ∧ R ⟨fr.tmps, []⟩ w)
 have hsfx : b.at a (.code c :: k) = sfx k a.defers b.kind (Fr b.fn a.tmps [.code c]) := rfl
 have hwall : sfx wall [] .normal (Fr b.fn a.tmps [.code c]) = b₀.at ⟨a.tmps, []⟩ (.code c :: wall) := rfl
 rw [hsfx]
 refine chunk (J := fun g w => J s g w) hP hb (fun fr cs' w ht h => calmJ_top hcalm hP ht h) (fine_fr (fun i hi => by rw [List.mem_singleton.1 hi]; exact hc)) (Φ := Φ) ?_ ?_ ?_ ?_
 · rintro fr w τ d (⟨t, h1, h2⟩ | ⟨h1, h2, h3⟩)
   · exact .inl ⟨t, h1, hC _ _ _ _ h2⟩
   · exact .inr ⟨h1, h2, hR _ _ _ _ h3⟩
 · rintro fr w (⟨t, h1, h2⟩ | ⟨h1, h2, h3⟩) ch hm
   · rw [h1] at hm; cases hm
   · rw [h1] at hm; cases hm
 · intro τ d
   rw [hwall]
   obtain ⟨e, a', w', hC', harr⟩ := h τ d b₀ wall [trap]
   cases e with
   | normal =>
    obtain ⟨t, dd⟩ := a'
    obtain ⟨hd, hC'⟩ := hC'
    simp only at hd
    subst hd
    obtain ⟨n, hn⟩ := harr
    exact ⟨n, _, _, hn, .inl ⟨t, rfl, hC'⟩⟩
   | ret =>
    obtain ⟨t, dd⟩ := a'
    obtain ⟨hd, hC'⟩ := hC'
    simp only at hd
    subst hd
    obtain ⟨todo, n, hn⟩ := harr
    exact ⟨n, _, _, hn, .inr ⟨rfl, rfl, hC'⟩⟩
   | _ => exact hC'.elim
 · rintro fr w (⟨t, h1, h2⟩ | ⟨h1, h2, h3⟩)
   · have e1 : fr.fn = b.fn := by have := congrArg Frame.fn h1; exact this
     have e2 : fr.tmps = t := by have := congrArg Frame.tmps h1; exact this
     have e3 : fr.todo ++ wall = wall := by have := congrArg Frame.todo h1; exact this
     have e4 : fr.mode = .run := by have := congrArg Frame.mode h1; exact this
     have e5 : fr.todo = [] := by
      have := congrArg List.length e3
      simp at this
      exact this
     have : sfx k a.defers b.kind fr = b.at ⟨t, a.defers⟩ k := by
      simp only [sfx, Frame.at, e1, e2, e4, e5, List.nil_append]
     rw [this]
     exact hk s .normal _ _ (hq _ _ h2)
   · have h1' : fr.mode = .returning := h1
     have h2' : fr.fn = b.fn := h2
     have : sfx k a.defers b.kind fr = { b.at ⟨fr.tmps, a.defers⟩ (fr.todo ++ k) with mode := .returning } := by
      simp only [sfx, Frame.at, h1', h2']
     rw [this]
     exact hk s .ret _ _ (hr _ _ h3) _
end
def dstOf (ops : Array Oper) (i : Nat) : Option Tmp := (ops[i]?).bind (·.dst)
def tmpOf : Operand → Option Tmp
 | .tmp t => some t
 | _ => none
def waits (ops : Array Oper) (j i : Nat) : Bool := match ops[j]? with
 | some o => o.after.any fun e => Region.binds .any e && e.on == i
 | none => false
def drawOk (P : Program) (ops : Array Oper) (l n : Nat) : Bool :=
 ops.size == l + 1 &&
 (List.range l).all (fun i => match ops[i]? with
  | some o => readOp P o.op && o.guard.isNone && (match o.dst with | some d => decide (d < n) | none => false)
  | none => false) &&
 (List.range l).all (fun i => (List.range i).all fun j => dstOf ops i != dstOf ops j) &&
 (List.range (l + 1)).all (fun i => match ops[i]? with
  | some o => o.after.all (fun e => !Region.binds .any e || decide (e.on < i)) &&
   o.op.operands.all (fun x => match tmpOf x with
    | some t => (List.range l).all fun j => dstOf ops j != some t || waits ops i j
    | none => true)
  | none => false) &&
 (List.range l).all (fun i => (List.range (l + 1)).any fun j => decide (i < j) && waits ops j i)
def putv (ops : Array Oper) : List Value → Nat → Array Value → Array Value
 | [], _, t => t
 | v :: vs, i, t => putv ops vs (i + 1) (match dstOf ops i with | some d => t.setIfInBounds d v | none => t)
def evals (P : Program) (ops : Array Oper) (T : Array Value) (w : World) : List Value → Nat → Prop
 | [], _ => True
 | v :: vs, i => (∀ o, ops[i]? = some o → (execOp (Act.mk T []).eval o).run P w = .ok (.value v) w) ∧ evals P ops T w vs (i + 1)
section
variable {P : Program} {ops : Array Oper}
theorem putv_size (vs : List Value) : ∀ i t, (putv ops vs i t).size = t.size := by
 induction vs with
 | nil => intro i t; rfl
 | cons v vs ih => intro i t; simp only [putv]; rw [ih]; split <;> simp
theorem putv_out (vs : List Value) : ∀ i (t : Array Value) x, (∀ j, i ≤ j → j < i + vs.length → dstOf ops j ≠ some x) → (putv ops vs i t)[x]? = t[x]? := by
 induction vs with
 | nil => intro i t x _; rfl
 | cons v vs ih =>
  intro i t x h
  simp only [putv]
  rw [ih (i + 1) _ x (fun j h1 h2 => h j (by omega) (by simp; omega))]
  have := h i (Nat.le_refl _) (by simp)
  split
  · rename_i d hd
    rw [al_gn (fun e => this (by rw [hd, e]))]
  · rfl
theorem putv_at (vs : List Value) : ∀ i (t : Array Value) j v x, vs[j]? = some v → dstOf ops (i + j) = some x → x < t.size → (∀ m, i + j < m → m < i + vs.length → dstOf ops m ≠ some x) → (putv ops vs i t)[x]? = some v := by
 induction vs with
 | nil => intro i t j v x h; cases h
 | cons u vs ih =>
  intro i t j v x hv hx hlt hlater
  cases j with
  | zero =>
   simp only [al_g0, al_oi] at hv
   subst hv
   simp only [Nat.add_zero] at hx hlater
   simp only [putv, hx]
   rw [putv_out vs (i + 1) _ x (fun m h1 h2 => hlater m (by omega) (by simp; omega))]
   simp [hlt]
  | succ j =>
   simp only [putv]
   refine ih (i + 1) _ j v x (by simpa using hv) (by rw [show i + 1 + j = i + (j + 1) by omega]; exact hx) ?_ (fun m h1 h2 => hlater m (by omega) (by simp; omega))
   split <;> simp [hlt]
theorem evals_at {T : Array Value} {w : World} (vs : List Value) : ∀ i j v o, evals P ops T w vs i → vs[j]? = some v → ops[i + j]? = some o → (execOp (Act.mk T []).eval o).run P w = .ok (.value v) w := by
 induction vs with
 | nil => intro i j v o _ h; cases h
 | cons u vs ih =>
  intro i j v o h hv ho
  cases j with
  | zero =>
   simp only [al_g0, al_oi] at hv
   subst hv
   exact h.1 o ho
  | succ j => exact ih (i + 1) j v o h.2 (by simpa using hv) (by rw [show i + 1 + j = i + (j + 1) by omega]; exact ho)
def left (listed : Array Bool) : Nat := (listed.toList.filter (! ·)).length
theorem left_list : ∀ (l : List Bool) (i : Nat), l[i]? = some false → ((l.set i true).filter (! ·)).length + 1 = (l.filter (! ·)).length
 | [], _, h => by cases h
 | x :: l, 0, h => by
  simp only [al_g0, al_oi] at h
  subst h
  simp
 | x :: l, i + 1, h => by
  have := left_list l i (by simpa using h)
  cases x <;> simp [List.filter_cons] <;> omega
theorem getD_lt {listed : Array Bool} {i : Nat} (h : listed.getD i true = false) : i < listed.size := by
 rcases Nat.lt_or_ge i listed.size with h' | h'
 · exact h'
 · simp [Array.getElem?_eq_none h'] at h
theorem left_set {listed : Array Bool} {i : Nat} (h : listed.getD i true = false) : left (listed.setIfInBounds i true) + 1 = left listed := by
 unfold left
 have hlt := getD_lt h
 have hv : listed.toList[i]? = some false := by
  simp [hlt] at h ⊢
  exact h
 rw [Array.toList_setIfInBounds]
 exact left_list _ _ hv
theorem left_pos {listed : Array Bool} {i : Nat} (h : listed.getD i true = false) : 0 < left listed := by
 have := left_set h; omega
theorem waits_iff {j i : Nat} : waits ops j i = true ↔ ∃ o, ops[j]? = some o ∧ ∃ e ∈ o.after, Region.binds .any e = true ∧ e.on = i := by
 unfold waits
 cases ops[j]? with
 | none => simp
 | some o =>
  simp only [al_oi, exists_eq_left', Array.any_eq_true]
  constructor
  · rintro ⟨m, hm, h⟩
    simp only [Bool.and_eq_true, beq_iff_eq] at h
    exact ⟨_, Array.getElem_mem hm, h.1, h.2⟩
  · rintro ⟨e, he, h1, h2⟩
    obtain ⟨m, hm, rfl⟩ := Array.mem_iff_getElem.1 he
    exact ⟨m, hm, by simp [h1, h2]⟩
structure DrawOk (P : Program) (ops : Array Oper) (l n : Nat) : Prop where
 size : ops.size = l + 1
 reads : ∀ i, i < l → ∃ o d, ops[i]? = some o ∧ readOp P o.op = true ∧ o.guard = none ∧ o.dst = some d ∧ d < n
 apart : ∀ i j, i < l → j < i → dstOf ops i ≠ dstOf ops j
 back : ∀ i o e, i < l + 1 → ops[i]? = some o → e ∈ o.after → Region.binds .any e = true → e.on < i
 looks : ∀ i o x t j, i < l + 1 → ops[i]? = some o → x ∈ o.op.operands → tmpOf x = some t → j < l → dstOf ops j = some t → waits ops i j = true
 leads : ∀ i, i < l → ∃ j, j < l + 1 ∧ i < j ∧ waits ops j i = true
theorem drawOk_spec {l n : Nat} (h : drawOk P ops l n = true) : DrawOk P ops l n := by
 unfold drawOk at h
 simp only [Bool.and_eq_true, beq_iff_eq, List.all_eq_true, List.mem_range, List.any_eq_true, decide_eq_true_eq] at h
 obtain ⟨⟨⟨⟨h1, h2⟩, h3⟩, h4⟩, h5⟩ := h
 refine ⟨h1, fun i hi => ?_, fun i j hi hj => by have := h3 i hi j hj; simpa using this, fun i o e hi ho he hb => ?_, fun i o x t j hi ho hx ht hj hd => ?_, fun i hi => ?_⟩
 · have := h2 i hi
   cases ho : ops[i]? with
   | none => rw [ho] at this; cases this
   | some o =>
    rw [ho] at this
    simp only [Bool.and_eq_true, Option.isNone_iff_eq_none] at this
    obtain ⟨⟨a1, a2⟩, a3⟩ := this
    cases hd : o.dst with
    | none => rw [hd] at a3; cases a3
    | some d => rw [hd] at a3; exact ⟨o, d, rfl, a1, a2, hd, by simpa using a3⟩
 · have := h4 i hi
   rw [ho] at this
   simp only [Bool.and_eq_true, Array.all_eq_true_iff_forall_mem] at this
   have := this.1 e he
   simpa [hb] using this
 · have := h4 i hi
   rw [ho] at this
   simp only [Bool.and_eq_true, Array.all_eq_true_iff_forall_mem] at this
   have := this.2 x hx
   rw [ht] at this
   simp only [List.all_eq_true, List.mem_range] at this
   have := this j hj
   simpa [hd] using this
 · obtain ⟨j, hj, h⟩ := h5 i hi
   exact ⟨j, hj, h.1, h.2⟩
structure Agree (ops : Array Oper) (l : Nat) (T a₀ : Array Value) (listed : Array Bool) (tm : Array Value) : Prop where
 size : tm.size = T.size
 on : ∀ i t, i < l → listed.getD i false = true → dstOf ops i = some t → tm[t]? = T[t]?
 off : ∀ t, (∀ i, i < l → listed.getD i false = true → dstOf ops i ≠ some t) → tm[t]? = a₀[t]?
theorem eval_agree {ρ ρ' : Array Value} {ds ds' : List Deferred} {x : Operand} (h : ∀ t, tmpOf x = some t → ρ[t]? = ρ'[t]?) : (Act.mk ρ ds).eval x = (Act.mk ρ' ds').eval x := by
 cases x with
 | tmp t =>
  have := h t rfl
  simp [Act.eval, Frame.eval, al_gd, this]
 | _ => rfl
end
section
variable {P : Program} {main : Bool} {Kc : Addr → Option Value} {γ : Type} {J : γ → Goroutine → World → Prop}
theorem draw_go (hJ : JS P main Kc J) {b : Frame} {k : List Item} {cs : List Frame} (hb : b.kind ≠ .early) {ops : Array Oper} {l n : Nat} (hok : DrawOk P ops l n) {T a₀ : Array Value} {ds : List Deferred} {s : γ} {w : World} (hT : T.size = n)
 (hout : ∀ t, (∀ i, i < l → dstOf ops i ≠ some t) → T[t]? = a₀[t]?)
 (hval : ∀ i o, i < l → ops[i]? = some o → ∃ v d, o.dst = some d ∧ T[d]? = some v ∧ ∀ τ dd, (execOp (Act.mk T []).eval o).run P (re w τ dd) = .ok (.value v) (re w τ dd))
 (hlast : J s (G (b.at ⟨T, ds⟩ (.inRegion ops [l] :: k)) cs) w) :
 ∀ (fuel t : Nat) (listed : Array Bool) (tm : Array Value), listed.size = l + 1 → left listed ≤ fuel → listed.getD l true = false →
  (∀ i o e, i < l + 1 → ops[i]? = some o → listed.getD i false = true → e ∈ o.after → Region.binds .any e = true → listed.getD e.on false = true) → Agree ops l T a₀ listed tm →
  J s (G (b.at ⟨tm, ds⟩ (.inRegion ops (Region.linearise.go .any ops fuel t listed []) :: k)) cs) w := by
 intro fuel
 induction fuel with
 | zero => intro t listed tm hsz hl hlast' _ _; have := left_pos hlast'; omega
 | succ fuel ih =>
  intro t listed tm hsz hl hlast' hclosed hag
  simp only [Region.linearise.go]
  change J s (G (b.at ⟨tm, ds⟩ (.inRegion ops (match (Region.ready .any ops listed)[t % (Region.ready .any ops listed).length]? with
   | some i => Region.linearise.go .any ops fuel (t / (Region.ready .any ops listed).length) (listed.setIfInBounds i true) [i]
   | none => [].reverse) :: k)) cs) w
  have hready : ∃ i, i ∈ Region.ready .any ops listed := by
   have : ∀ m i, m = i → listed.getD i true = false → ∃ j, j ∈ Region.ready .any ops listed := by
    intro m
    induction m using Nat.strongRecOn with
    | _ m ihm =>
     intro i hi hun
     subst hi
     have hlt : m < l + 1 := by have := getD_lt hun; omega
     have hops : m < ops.size := by rw [hok.size]; exact hlt
     by_cases hall : ∀ e ∈ (ops[m]'hops).after, Region.binds .any e = true → listed.getD e.on false = true
     · exact ⟨m, mem_ready.2 ⟨hun, _, Array.getElem?_eq_getElem hops, hall⟩⟩
     · obtain ⟨e, he⟩ := Classical.not_forall.1 hall
       obtain ⟨h1, he⟩ := Classical.not_imp.1 he
       obtain ⟨h2, he⟩ := Classical.not_imp.1 he
       have hlt' := hok.back m _ e hlt (Array.getElem?_eq_getElem hops) h1 h2
       refine ihm e.on hlt' e.on rfl ?_
       have : e.on < listed.size := by omega
       simp [this] at he ⊢
       exact he
   exact this l l rfl hlast'
  cases hi : (Region.ready .any ops listed)[t % (Region.ready .any ops listed).length]? with
  | none =>
   exfalso
   obtain ⟨i, hi'⟩ := hready
   have hpos : 0 < (Region.ready .any ops listed).length := List.length_pos_of_mem hi'
   have hlt := Nat.mod_lt t hpos
   rw [List.getElem?_eq_none_iff] at hi
   omega
  | some i =>
   have hmem := List.mem_of_getElem? hi
   obtain ⟨hun, o, ho, hall⟩ := mem_ready.1 hmem
   have hilt : i < l + 1 := by have := getD_lt hun; omega
   simp only []
   rw [linearise_go_acc, List.reverse_singleton, List.singleton_append]
   by_cases hil : i = l
   ·
    subst hil
    have hall' : ∀ m j, i - j = m → j < i → listed.getD j false = true := by
     intro m
     induction m using Nat.strongRecOn with
     | _ m ihm =>
      intro j hm hj
      obtain ⟨q, hq1, hq2, hq3⟩ := hok.leads j hj
      obtain ⟨oq, hoq, e, he1, he2, he3⟩ := waits_iff.1 hq3
      subst he3
      by_cases hqi : q = i
      · subst hqi
        rw [ho] at hoq
        obtain rfl := Option.some.inj hoq
        exact hall e he1 he2
      · have := ihm (i - q) (by omega) q rfl (by omega)
        exact hclosed q oq e hq1 hoq this he1 he2
    have hnil : Region.linearise.go .any ops fuel (t / (Region.ready .any ops listed).length) (listed.setIfInBounds i true) [] = [] := by
     cases fuel with
     | zero => rfl
     | succ fuel =>
      simp only [Region.linearise.go]
      have hr : Region.ready .any ops (listed.setIfInBounds i true) = [] := by
       refine List.eq_nil_iff_forall_not_mem.2 fun j hj => ?_
       obtain ⟨hju, _⟩ := mem_ready.1 hj
       have hjlt := getD_lt hju
       simp at hjlt
       by_cases hji : i = j
       · subst hji
         simp [hjlt] at hju
       · rw [getD_set_ne true hji] at hju
         have := hall' _ j rfl (by omega)
         simp [hjlt] at hju this
         rw [hju] at this; cases this
      have e1 : ((List.range ops.size).filter fun i_1 => !(listed.setIfInBounds i true).getD i_1 true && ((ops[i_1]?).map (·.after.all fun e => !Region.binds .any e || (listed.setIfInBounds i true).getD e.on false)).getD false) = [] := hr
      rw [e1]
      rfl
    rw [hnil]
    have htm : tm = T := by
     apply Array.ext_getElem?
     intro x
     by_cases hx : ∃ j, j < i ∧ dstOf ops j = some x
     · obtain ⟨j, hj, hd⟩ := hx
       exact hag.on j x hj (hall' _ j rfl hj) hd
     · rw [hag.off x (fun j hj _ hd => hx ⟨j, hj, hd⟩), hout x fun j hj hd => hx ⟨j, hj, hd⟩]
    rw [htm]
    exact hlast
   · have hi' : i < l := by omega
     obtain ⟨o', d, ho', hread, hguard, hdst, hdn⟩ := hok.reads i hi'
     rw [ho] at ho'
     obtain rfl := Option.some.inj ho'
     obtain ⟨v, d', hd', hTv, hrun⟩ := hval i o hi' ho
     rw [hdst] at hd'
     obtain rfl := Option.some.inj hd'
     have hdi : dstOf ops i = some d := by unfold dstOf; rw [ho]; exact hdst
     have hex : execOp (Act.mk tm ds).eval o = execOp (Act.mk T []).eval o := by
      refine execOp_congr o (fun cs b h => by rw [h] at hread; cases hread) fun x hx => eval_agree fun t ht => ?_
      by_cases hxt : ∃ j, j < l ∧ dstOf ops j = some t
      · obtain ⟨j, hj, hd⟩ := hxt
        obtain ⟨oi, hoi, e, he1, he2, he3⟩ := waits_iff.1 (hok.looks i o x t j hilt ho hx ht hj hd)
        rw [ho] at hoi
        obtain rfl := Option.some.inj hoi
        subst he3
        exact hag.on e.on t hj (hall e he1 he2) hd
      · rw [hag.off t (fun j hj _ hd => hxt ⟨j, hj, hd⟩), hout t fun j hj hd => hxt ⟨j, hj, hd⟩]
     have hw : Region.wanted o (yielded ops (Act.mk tm ds).tmps) = true := by simp [Region.wanted, hguard]
     refine at_cons hb hJ ho hw fun τ dd => ?_
     rw [hex]
     obtain ⟨h1, h2⟩ := evs_read (Kc := Kc) (execOp_read o hread (Act.mk T []).eval) (re w τ dd)
     refine ⟨h1, h2, ?_⟩
     rw [hrun]
     show J s (G (b.at (Act.put ⟨tm, ds⟩ o.dst v) _) cs) (re w τ dd)
     rw [hdst]
     refine hJ.re' _ _ _ _ _ ?_
     show J s (G (b.at ⟨tm.setIfInBounds d v, ds⟩ _) cs) w
     have hld : left (listed.setIfInBounds i true) + 1 = left listed := left_set hun
     refine ih _ _ _ (by simpa using hsz) (by omega) (by rw [getD_set_ne true hil]; exact hlast') ?_ ?_
     · intro j oj e hj hoj hlj he hbe
       refine getD_set_true ?_
       by_cases hji : i = j
       · subst hji
         rw [ho] at hoj
         obtain rfl := Option.some.inj hoj
         exact hall e he hbe
       · rw [getD_set_ne false hji] at hlj
         exact hclosed j oj e hj hoj hlj he hbe
     · refine ⟨by simpa using hag.size, fun j t hj hlj hd => ?_, fun t ht => ?_⟩
       · by_cases htd : d = t
         · subst htd
           have : d < tm.size := by rw [hag.size, hT]; exact hdn
           simp [this, hTv]
         · rw [al_gn htd]
           by_cases hji : i = j
           · subst hji; rw [hdi] at hd; exact absurd (Option.some.inj hd) htd
           · rw [getD_set_ne false hji] at hlj
             exact hag.on j t hj hlj hd
       · have htd : d ≠ t := by
          intro e
          subst e
          refine ht i hi' ?_ hdi
          have := getD_lt hun
          simp [this]
         rw [al_gn htd]
         refine hag.off t fun j hj hlj => ?_
         exact ht j hj (getD_set_true hlj)
theorem at_draw (hJ : JS P main Kc J) {b : Frame} {k : List Item} {cs : List Frame} (hb : b.kind ≠ .early) (hm : P.follows .mixedOrders = true) {id : Nat} {ops : Array Oper} {a : Act} {s : γ} {w : World} (vs : List Value)
 (hok : drawOk P ops vs.length a.tmps.size = true) (hval : ∀ τ d, evals P ops (putv ops vs 0 a.tmps) (re w τ d) vs 0)
 (hlast : J s (G (b.at ⟨putv ops vs 0 a.tmps, a.defers⟩ (.inRegion ops [vs.length] :: k)) cs) w) : J s (G (b.at a (.code (.region id ops true) :: k)) cs) w := by
 have hk := drawOk_spec hok
 refine hJ.step _ _ _ rfl fun τ d => ⟨_, _, #[], stepG_region_draw, ?_, by simp, ?_⟩
 · exact OkD.refl _ _ _
 · refine hJ.re' s _ w τ (d + 1) ?_
   simp only [Region.schedule, hm, Bool.true_or, if_true, Region.linearise]
   refine draw_go hJ hb hk (a₀ := a.tmps) (T := putv ops vs 0 a.tmps) (putv_size vs 0 _) (fun t h => putv_out vs 0 _ t (fun j _ hj => h j (by omega))) ?_ hlast _ _ _ _ (by simp [hk.size]) ?_ (by simp [hk.size]) ?_ ?_
   · intro i o hi ho
     obtain ⟨o', dd, ho', _, _, hd, hdn⟩ := hk.reads i hi
     rw [ho] at ho'
     obtain rfl := Option.some.inj ho'
     have hv : vs[i]? = some vs[i] := List.getElem?_eq_getElem hi
     have hdi : dstOf ops (0 + i) = some dd := by unfold dstOf; rw [Nat.zero_add, ho]; exact hd
     refine ⟨vs[i], dd, hd, putv_at vs 0 _ i _ dd hv hdi hdn (fun m h1 h2 e => ?_), fun τ d' => evals_at vs 0 i _ o (hval τ d') hv (by rw [Nat.zero_add]; exact ho)⟩
     have := hk.apart m i (by omega) (by omega)
     rw [Nat.zero_add] at hdi
     exact this (by rw [e, hdi])
   · unfold left
     have : ((Array.replicate ops.size false).toList.filter (! ·)).length ≤ (Array.replicate ops.size false).toList.length := List.length_filter_le _ _
     simpa using this
   · intro i o e hi ho hl
     have : i < ops.size := by rw [hk.size]; exact hi
     simp [this] at hl
   · refine ⟨(putv_size vs 0 _).symm, fun i t hi hl => ?_, fun t _ => rfl⟩
     have : i < ops.size := by rw [hk.size]; omega
     simp [this] at hl
end
section
variable {P : Program} {main : Bool} {Kc : Addr → Option Value} {γ : Type} {J : γ → Goroutine → World → Prop}
theorem at_store {b : Frame} {k : List Item} {cs : List Frame} (hb : b.kind ≠ .early) (hJ : JS P main Kc J) {ops : Array Oper} {i : Nat} {rest : List Nat} {o : Oper} {s : γ} {a : Act} {w : World} {t : TypeId} {pa pv : Operand} {ad : Addr}
 (ho : ops[i]? = some o) (hop : o.op = .store t pa pv) (ha : a.eval pa = .pointer (some ad)) (hK : ∀ j, j < (a.eval pv).cells.size → Kc (ad.add j) = none) (hbk : ∃ c e f, w.heap[ad.block]? = some (.cells c e f))
 (h : ∀ τ d, wpList P ops (contAt J ops rest b k cs s) [o] a (re w τ d)) : J s (G (b.at a (.inRegion ops (i :: rest) :: k)) cs) w := by
 have hok : okOp P (fun _ => false) o.op = true := by rw [hop]; rfl
 refine at_one hb (l := []) hJ (zqg P) ho hok (fun _ τ d => evs_store hop ha hK hbk) (contAt J ops rest b k cs s .normal) (fun a w τ τ' d d' hτ h => contAt_still hJ _ _ _ _ _ _ _ h) (fun a w h => h w.tape w.drawn) (contAt J ops rest b k cs s) (fun ch a w h => h w.tape w.drawn) fun τ d => ?_
 have := h τ d
 simp only [wpList] at this
 split at this
 · rename_i hw; rw [if_pos hw]; exact this.elim id (fun ⟨_, a, w, h⟩ => h.elim)
 · rename_i hw; rw [if_neg hw]; exact this
theorem free_block {ad : Addr} (h : ∀ y : Addr, y.block = ad.block → Kc y = none) (j : Nat) : Kc (ad.add j) = none := h _ (add_block ad j)
theorem free_cell {ad : Addr} (h : Kc ad = none) {j : Nat} (hj : j < 1) : Kc (ad.add j) = none := by
 obtain rfl : j = 0 := by omega
 exact h
theorem at_call {b : Frame} {k : List Item} {cs : List Frame} (hb : b.kind ≠ .early) (hJ : JS P main Kc J) {ops : Array Oper} {i : Nat} {rest : List Nat} {o : Oper} {s : γ} {a : Act} {w : World} {f : FuncId} {args : Array Value}
 (ho : ops[i]? = some o) (hw : Region.wanted o (yielded ops a.tmps) = true) (hr : ∀ τ d, (execOp a.eval o).run P (re w τ d) = .ok (.enter f args) (re w τ d)) (hev : ∀ τ d, ∀ e ∈ ((execOp a.eval o).runT P (re w τ d) #[]).2, EvOk Kc e)
 (h : J s (G (Frame.enter P f args .normal) (b.at a (.inRegion ops (i :: rest) :: k) :: cs)) w) : J s (G (b.at a (.inRegion ops (i :: rest) :: k)) cs) w := by
 refine hJ.step _ _ _ rfl fun τ d => ?_
 have hkb : (b.kind == CallKind.early) = false := by simpa using hb
 have hke : ((b.at a (.inRegion ops (i :: rest) :: k)).kind == CallKind.early) = false := hkb
 have h1 : ((execOp a.eval o).runT P (re w τ d) #[]).1 = .ok (.enter f args) (re w τ d) := by rw [Sem.runT_eq]; exact hr τ d
 have h2 := hev τ d
 rw [stepG_oper ho hw, stepG.apply]
 simp only [if_true]
 generalize (execOp a.eval o).runT P (re w τ d) #[] = r at h1 h2
 obtain ⟨r, es⟩ := r
 simp only at h1
 subst h1
 refine ⟨_, _, seen P b.fn es, by simp only [hke, Bool.false_eq_true, if_false, GStep.after, Array.append_empty]; rfl, OkD.refl _ _ _, fun e he => h2 e (mem_seen he), hJ.re' _ _ _ _ _ h⟩
theorem at_defer {b : Frame} {k : List Item} {cs : List Frame} (hb : b.kind ≠ .early) (hJ : JS P main Kc J) {ops : Array Oper} {i : Nat} {rest : List Nat} {o : Oper} {s : γ} {a : Act} {w : World} {d : Deferred}
 (ho : ops[i]? = some o) (hw : Region.wanted o (yielded ops a.tmps) = true) (hr : ∀ w, (execOp a.eval o).run P w = .ok (.defer d) w) (he : ∀ w, (execOp a.eval o).events P w #[] = #[])
 (h : J s (G (b.at (({ a with defers := d :: a.defers } : Act).put o.dst undef) (.inRegion ops rest :: k)) cs) w) : J s (G (b.at a (.inRegion ops (i :: rest) :: k)) cs) w := by
 refine at_cons hb hJ ho hw fun τ dd => ⟨?_, ?_, ?_⟩
 · rw [Sem.runT_eq, he]; simp
 · rw [hr]; exact OkD.refl _ _ _
 · rw [hr]; exact hJ.re' _ _ _ τ dd h
def botF (P : Program) : Frame := { (default : Frame) with fn := P.funcs.size, defers := [], mode := .panicking [goexitEntry] }
end
theorem zqc (w : World) (o : Obj) (b : Nat) : (w.alloc o).heap[b]? = if b = w.heap.size then some o else w.heap[b]? := by
 show (w.heap.push o)[b]? = _
 rw [Array.getElem?_push]
theorem zq8 (w : World) (o : Obj) : (w.alloc o).heap.size = w.heap.size + 1 := by
 show (w.heap.push o).size = _
 simp
theorem hp_size_set (w : World) (a : Addr) (v : Value) : (w.setCell a v).heap.size = w.heap.size := by
 show (w.heap.modify _ _).size = _
 simp
theorem zqa (w : World) (a : Addr) (v : Value) (b : Nat) (h : b ≠ a.block) : (w.setCell a v).heap[b]? = w.heap[b]? := by
 show (w.heap.modify _ _)[b]? = _
 rw [Array.getElem?_modify, if_neg (fun e => h e.symm)]
theorem zqh (w : World) (b off : Nat) (v : Value) {c : Array Value} {e : TypeId} {f : Nat × Nat} (h : w.heap[b]? = some (.cells c e f)) : (w.setCell ⟨b, off, none⟩ v).heap[b]? = some (.cells (c.setIfInBounds off v) e f) := by
 show (w.heap.modify _ _)[b]? = _
 rw [Array.getElem?_modify, if_pos rfl, h]
 rfl
theorem zq1 {w : World} {b off : Nat} {c : Array Value} {e : TypeId} {f : Nat × Nat} (h : w.heap[b]? = some (.cells c e f)) : w.cell? ⟨b, off, none⟩ = c[off]? := by
 simp [World.cell?, h]
theorem zqf {w : World} {b off : Nat} {c : Array Value} {e : TypeId} (h : w.heap[b]? = some (.cells c e)) : w.frozen? ⟨b, off, none⟩ = false := by
 simp [World.frozen?, h]
theorem zqe {w w' : World} {a : Addr} (h : w'.heap[a.block]? = w.heap[a.block]?) : w'.cell? a = w.cell? a := by
 simp [World.cell?, h]
theorem frozen_of_same {w w' : World} {a : Addr} (h : w'.heap[a.block]? = w.heap[a.block]?) : w'.frozen? a = w.frozen? a := by
 simp [World.frozen?, h]
theorem zq4 {w : World} {b : Nat} {o : Obj} (h : w.heap[b]? = some o) : b < w.heap.size := (Array.getElem?_eq_some_iff.1 h).1
theorem heap_setChan_ne (w : World) (c cap : Nat) (buf : Array Value) (cl : Bool) (s r : Nat) (tm : Bool) (b : Nat) (h : b ≠ c) : (w.setChan c cap buf cl s r tm).heap[b]? = w.heap[b]? := by
 show (w.heap.setIfInBounds _ _)[b]? = _
 rw [al_gn (fun e => h e.symm)]
theorem size_setChan (w : World) (c cap : Nat) (buf : Array Value) (cl : Bool) (s r : Nat) (tm : Bool) : (w.setChan c cap buf cl s r tm).heap.size = w.heap.size := by
 show (w.heap.setIfInBounds _ _).size = _
 simp
end Go.Car
set_option maxHeartbeats 1000000
set_option maxRecDepth 100000
namespace Go.Proofs
open Go Go.Conc Go.RowKit Go.Car
open Go.ConcN (upd upd_ne upd_same)
noncomputable def bot : Frame := botF Try.prog
def callRun (bT i : Nat) (tv : Value) : Deferred := { target := .fn (.func 34) #[], args := #[.pointer (some ⟨bT, 0, none⟩), .int .i64 i, tv] }
theorem born_run (bT i : Nat) (tv : Value) (w : World) : stepG Try.prog false (born Try.prog (callRun bT i tv)) w =
 .go (G ((baseD 34).at (enterAct Try.f34 #[.pointer (some ⟨bT, 0, none⟩), .int .i64 i, tv]) [.code (Try.f34.body.getD .skip)]) [bot]) w #[] := by
 simp [born, callRun, stepG, unwind, callDeferred, invoke, callFunc, Try.func34, Try.f34, seen, GStep.after, G, Frame.enter, Frame.at, baseD, bot, botF, enterAct]
structure RunW (n bT i : Nat) (whole : Bool) (w : World) : Prop where
 t : w.heap[n]? = some (.cells #[.pointer (some ⟨bT, 0, none⟩)] 91)
 i : w.heap[n + 1]? = some (.cells #[.int .i64 i] 3)
 whole : w.heap[n + 2]? = some (.cells #[.bool whole] 4)
def run1 (n : Nat) : Deferred := { target := .fn (.func 46) #[.pointer (some ⟨n, 0, none⟩), .pointer (some ⟨n + 2, 0, none⟩), .pointer (some ⟨n + 1, 0, none⟩)], args := #[] }
noncomputable def runAt (n bT i : Nat) (tv : Value) (todo : List Item) : Frame :=
 (baseD 34).at ⟨#[.pointer (some ⟨bT, 0, none⟩), .int .i64 i, tv, .pointer (some ⟨n, 0, none⟩), .pointer (some ⟨n + 1, 0, none⟩), undef, .pointer (some ⟨n + 2, 0, none⟩), .func (.func 46) #[] #[.pointer (some ⟨n, 0, none⟩), .pointer (some ⟨n + 2, 0, none⟩), .pointer (some ⟨n + 1, 0, none⟩)], undef, undef, undef, undef, undef, undef, undef, undef, undef, undef, undef, undef], [run1 n]⟩ todo
noncomputable def runRest : Code := match Try.f34.body with | some (.seq _ (.seq _ (.seq _ c))) => c | _ => .skip
theorem run_starts {Kc : Addr → Option Value} {J : Goroutine → World → Prop} (hJ : JX Try.prog Kc J) {bT i : Nat} {tv : Value} {w : World}
 (hK : ∀ a v, Kc a = some v → a.block < w.heap.size)
 (hnext : ∀ w', RunW w.heap.size bT i false w' → w'.heap.size = w.heap.size + 3 → (∀ b, b < w.heap.size → w'.heap[b]? = w.heap[b]?) → J (G (runAt w.heap.size bT i tv [.code runRest]) [bot]) w') : J (born Try.prog (callRun bT i tv)) w := by
 refine hJ.step () _ w rfl fun τ d => ⟨_, _, #[], born_run bT i tv _, OkD.refl _ _ _, by simp, ?_⟩
 refine hJ.re' () _ w τ d ?_
 simp only [Try.f34, enterAct, al_od, List.size_toArray, List.length_cons, List.length_nil, Nat.reduceAdd, Nat.reduceSub, Array.replicate_succ, Array.replicate_zero, List.push_toArray, List.append_toArray, List.nil_append, List.cons_append]
 refine hJ.ctl (s := ()) (fun w => stepG_seq) ?_
 refine hJ.ctl (s := ()) (fun w => stepG_region) ?_
 refine at_piece (J := fun (_ : Unit) => J) (s := ()) (by decide) hJ (zqg _) true (.inl rfl) 0 2 0 rfl rfl rfl (by rfl) ?_
 intro τ d
 simp only [List.drop_zero, List.drop_succ_cons, List.take_succ_cons, List.take_zero]
 go_wp2
 simp only [contAt, re_alloc]
 refine hJ.re' () _ _ τ d ?_
 simp only [List.range'_zero]
 refine hJ.ctl (s := ()) (fun w => stepG_region_end) ?_
 refine hJ.ctl (s := ()) (fun w => stepG_seq) ?_
 refine hJ.ctl (s := ()) (fun w => stepG_region) ?_
 refine at_piece (J := fun (_ : Unit) => J) (s := ()) (by decide) hJ (zqg _) true (.inl rfl) 0 1 1 rfl rfl rfl (by rfl) ?_
 intro τ d
 simp only [List.drop_zero, List.drop_succ_cons, List.take_succ_cons, List.take_zero]
 go_wp2
 simp only [contAt, re_alloc]
 refine hJ.re' () _ _ τ d ?_
 generalize hw1 : (((w.alloc (Obj.cells #[Value.pointer (some { block := bT, off := 0 })] 91)).alloc (Obj.cells #[Value.int IntKind.i64 i] 3))).alloc (Obj.cells #[Value.bool false] 4) = w1
 have f0 : w1.heap[w.heap.size]? = some (.cells #[.pointer (some ⟨bT, 0, none⟩)] 91) := by subst hw1; simp only [zqc, zq8]; rw [if_neg (by omega), if_neg (by omega), if_pos trivial]
 have f1 : w1.heap[w.heap.size + 1]? = some (.cells #[.int .i64 i] 3) := by subst hw1; simp only [zqc, zq8]; rw [if_neg (by omega), if_pos trivial]
 have f2 : w1.heap[w.heap.size + 1 + 1]? = some (.cells #[.bool false] 4) := by subst hw1; simp only [zqc, zq8]; rw [if_pos trivial]
 have f3 : w1.heap.size = w.heap.size + 3 := by subst hw1; simp only [zq8]
 have f4 : ∀ b, b < w.heap.size → w1.heap[b]? = w.heap[b]? := fun b hb => by subst hw1; simp only [zqc, zq8]; rw [if_neg (by omega), if_neg (by omega), if_neg (by omega)]
 refine at_store (J := fun (_ : Unit) => J) (s := ()) (i := 1) (rest := []) (by decide) hJ rfl rfl (ad := ⟨w.heap.size + 1 + 1, 0, none⟩) rfl (fun j _ => free_block (fun y hy => ?_) j) ⟨_, _, _, f2⟩ ?_
 · cases hky : Kc y with
   | none => rfl
   | some v => have := hK y v hky; have hy' : y.block = w.heap.size + 1 + 1 := hy; omega
 intro τ d
 have g1 : w1.cell? ⟨w.heap.size + 1 + 1, 0, none⟩ = some (.bool false) := by exact (zq1 f2).trans rfl
 have g2 : w1.frozen? ⟨w.heap.size + 1 + 1, 0, none⟩ = false := zqf f2
 go_wp2
 simp only [contAt, re_setCell]
 refine hJ.re' () _ _ τ d ?_
 have g3 := zqh w1 (w.heap.size + 1 + 1) 0 (Value.bool false) f2
 have g4 : ∀ b, b ≠ w.heap.size + 1 + 1 → (w1.setCell ⟨w.heap.size + 1 + 1, 0, none⟩ (.bool false)).heap[b]? = w1.heap[b]? := fun b hb => zqa _ _ _ _ hb
 have g5 : (w1.setCell ⟨w.heap.size + 1 + 1, 0, none⟩ (.bool false)).heap.size = w.heap.size + 3 := by rw [hp_size_set, f3]
 generalize w1.setCell ⟨w.heap.size + 1 + 1, 0, none⟩ (.bool false) = w2 at g3 g4 g5 ⊢
 refine hJ.ctl (s := ()) (fun w => stepG_region_end) ?_
 refine hJ.ctl (s := ()) (fun w => stepG_seq) ?_
 refine hJ.ctl (s := ()) (fun w => stepG_region) ?_
 refine at_piece (J := fun (_ : Unit) => J) (s := ()) (by decide) hJ (zqg _) true (.inl rfl) 0 1 1 rfl rfl rfl (by rfl) ?_
 intro τ d
 simp only [List.drop_zero, List.drop_succ_cons, List.take_succ_cons, List.take_zero]
 go_wp2
 simp only [contAt, re_alloc]
 refine hJ.re' () _ _ τ d ?_
 refine at_defer (J := fun (_ : Unit) => J) (s := ()) (i := 1) (rest := []) (d := run1 w.heap.size) (by decide) hJ rfl rfl (fun w => by simp [go_sem, execOp, Act.eval, run1]) (fun w => by simp [go_sem, execOp, Act.eval]) ?_
 refine hJ.ctl (s := ()) (fun w => stepG_region_end) ?_
 refine hnext w2 ⟨?_, ?_, g3⟩ g5 fun b hb => ?_
 · rw [g4 _ (by omega)]; exact f0
 · rw [g4 _ (by omega)]; exact f1
 · rw [g4 _ (by omega)]; exact f4 b hb
@[go_sem] theorem neq_func (f : Fn) (a b : Array Value) (w : World) : (binOp .neq 60 (.func f a b) .nilFunc).run Try.prog w = .ok (.bool true) w := by rfl
@[go_sem] theorem neq_nil (w : World) : (binOp .neq 60 .nilFunc .nilFunc).run Try.prog w = .ok (.bool false) w := by rfl
structure StandW (bT bS N cap i st : Nat) (w : World) : Prop where
 stands : w.cell? ⟨bT, 1, none⟩ = some (.slice (some ⟨bS, 0, none⟩) N cap)
 lt : i < N
 stand : w.cell? ⟨bS, i, none⟩ = some (.pointer (some ⟨st, 0, none⟩))
noncomputable def runCall (n bT bS N cap i st : Nat) (tv : Value) (todo : List Item) : Frame :=
 (baseD 34).at ⟨#[.pointer (some ⟨bT, 0, none⟩), .int .i64 i, tv, .pointer (some ⟨n, 0, none⟩), .pointer (some ⟨n + 1, 0, none⟩), undef, .pointer (some ⟨n + 2, 0, none⟩), .func (.func 46) #[] #[.pointer (some ⟨n, 0, none⟩), .pointer (some ⟨n + 2, 0, none⟩), .pointer (some ⟨n + 1, 0, none⟩)],
  tv, .bool true, tv, .pointer (some ⟨bT, 0, none⟩), .pointer (some ⟨bT, 0, none⟩), .pointer (some ⟨bT, 1, none⟩), .slice (some ⟨bS, 0, none⟩) N cap, .int .i64 i, .pointer (some ⟨bS, i, none⟩), .pointer (some ⟨st, 0, none⟩), .iface 96 (.pointer (some ⟨st, 0, none⟩)), undef], [run1 n]⟩ todo
noncomputable def ops4 : Array Oper := match Try.f34.body with | some (.seq _ (.seq _ (.seq _ (.seq (.seq _ (.cond _ (.region _ ops _) _)) _)))) => ops | _ => #[]
noncomputable def code5 : Code := match Try.f34.body with | some (.seq _ (.seq _ (.seq _ (.seq _ c)))) => c | _ => .skip
theorem run_calls {Kc : Addr → Option Value} {J : Goroutine → World → Prop} (hJ : JX Try.prog Kc J) {n bT bS N cap i st : Nat} {f : FuncId} {fn : Func} {c : Code} {first caps : Array Value} {w : World}
 (hf : Try.prog.funcs[f]? = some fn) (hb : fn.body = some c) (hnm : (fn.name == "runtime.NumGoroutine") = false)
 (hR : RunW n bT i false w) (hS : StandW bT bS N cap i st w)
 (hnext : J (G (Frame.enter Try.prog f (first ++ #[.iface 96 (.pointer (some ⟨st, 0, none⟩))] ++ caps) .normal) [runCall n bT bS N cap i st (.func (.func f) first caps) [.inRegion ops4 [9], .code code5], bot]) w) :
 J (G (runAt n bT i (.func (.func f) first caps) [.code runRest]) [bot]) w := by
 obtain ⟨r1, r2, r3⟩ := hR
 obtain ⟨s1, s2, s3⟩ := hS
 simp only [runAt, runRest, Try.f34]
 refine hJ.ctl (s := ()) (fun w => stepG_seq) ?_
 refine hJ.ctl (s := ()) (fun w => stepG_seq) ?_
 refine hJ.ctl (s := ()) (fun w => stepG_region) ?_
 refine at_piece (J := fun (_ : Unit) => J) (s := ()) (by decide) hJ (zqg _) true (.inl rfl) 0 2 0 rfl rfl rfl (by rfl) ?_
 intro τ d
 simp only [List.drop_zero, List.drop_succ_cons, List.take_succ_cons, List.take_zero]
 go_wp2
 simp only [contAt]
 refine hJ.re' () _ _ τ d ?_
 refine hJ.ctl (s := ()) (fun w => stepG_region_end) ?_
 refine hJ.ctl (s := ()) (fun w => stepG_cond (t := true) rfl) ?_
 simp only [if_true]
 refine at_draw (J := fun (_ : Unit) => J) (s := ()) hJ (by decide) (by rfl) [.func (.func f) first caps, .pointer (some ⟨bT, 0, none⟩), .pointer (some ⟨bT, 0, none⟩), .pointer (some ⟨bT, 1, none⟩), .slice (some ⟨bS, 0, none⟩) N cap, .int .i64 i, .pointer (some ⟨bS, i, none⟩), .pointer (some ⟨st, 0, none⟩), .iface 96 (.pointer (some ⟨st, 0, none⟩))] (by kernel_rfl) ?_ ?_
 · intro τ d
   have hi' : (i : Int) < N := by omega
   have hi0 : (0 : Int) ≤ i := by omega
   have c1 := (zq1 (off := 0) r1).trans rfl
   have c2 := (zq1 (off := 0) r2).trans rfl
   have z1 : w.frozen? ⟨n, 0, none⟩ = false := zqf r1
   simp only [evals, putv, dstOf, al_gl, al_g0, al_g1, al_ob, al_g2, List.set_cons_succ, List.set_cons_zero]
   refine ⟨?_, ?_, ?_, ?_, ?_, ?_, ?_, ?_, ?_, trivial⟩ <;> (intro o ho; simp only [al_oi] at ho; subst ho)
   all_goals (simp only [execOp, Act.eval, al_gd, al_gl, al_g0, al_g1, al_od])
   all_goals (try go_simp)
 · simp only [putv, dstOf, al_gl, al_g0, al_g1, al_ob, al_g2, List.set_cons_succ, List.set_cons_zero, Nat.reduceAdd, Nat.zero_add, List.length_cons, List.length_nil]
   refine at_call (J := fun (_ : Unit) => J) (s := ()) (by decide) hJ rfl rfl (f := f) (args := first ++ #[.iface 96 (.pointer (some ⟨st, 0, none⟩))] ++ caps) (fun τ d => ?_) (fun τ d => ?_) ?_
   · have hnm' : ¬ fn.name = "runtime.NumGoroutine" := by simpa using hnm
     simp [go_sem, execOp, Act.eval, resolve, Deferred.ofValue, invoke, callFunc, hf, hb, hnm']
   · have hnm' : ¬ fn.name = "runtime.NumGoroutine" := by simpa using hnm
     intro e he
     simp [go_sem, execOp, Act.eval, resolve, Deferred.ofValue, invoke, callFunc, hf, hb, hnm', Sem.runT_eq] at he
   · exact hnext
end Go.Proofs
set_option maxHeartbeats 1000000
namespace Go.Car
open Go Go.Conc Go.RowKit
section
variable {P : Program} {main : Bool} {Kc : Addr → Option Value} {γ : Type} {J : γ → Goroutine → World → Prop}
theorem at_recover_none {b : Frame} {k : List Item} {c : Frame} {cs : List Frame} (hb : b.kind = .deferred) (hc : c.mode = .returning) (hJ : JS P main Kc J) {ops : Array Oper} {i : Nat} {rest : List Nat} {o : Oper} {s : γ} {a : Act} {w : World}
 (ho : ops[i]? = some o) (hw : Region.wanted o (yielded ops a.tmps) = true) (hr : ∀ w, (execOp a.eval o).run P w = .ok .recover w) (he : ∀ w, (execOp a.eval o).events P w #[] = #[])
 (h : J s (G (b.at (a.put o.dst .nilIface) (.inRegion ops rest :: k)) (c :: cs)) w) : J s (G (b.at a (.inRegion ops (i :: rest) :: k)) (c :: cs)) w := by
 have hfin : ∀ v, (b.at a (.inRegion ops (i :: rest) :: k)).finish v = b.at (a.put o.dst v) (.inRegion ops rest :: k) := fun v => by rw [Frame.finish_at, ho]; rfl
 refine hJ.step _ _ _ rfl fun τ d => ⟨G (b.at (a.put o.dst .nilIface) (.inRegion ops rest :: k)) (c :: cs), re w τ d, #[], ?_, OkD.refl _ _ _, by simp, hJ.re' _ _ _ τ d h⟩
 rw [stepG_oper ho hw, ← hfin]
 simp [stepG.apply, hr, he, G, Frame.at, hb, GStep.after, seen_none, tryRecover, hc, Sem.runT_eq]
theorem at_recover_some {b : Frame} {k : List Item} {c : Frame} {cs : List Frame} {v : Value} {older : List PanicEntry} (hb : b.kind = .deferred) (hc : c.mode = .panicking ({ v, recovered := false } :: older)) (hJ : JS P main Kc J) {ops : Array Oper} {i : Nat} {rest : List Nat} {o : Oper} {s : γ} {a : Act} {w : World}
 (ho : ops[i]? = some o) (hw : Region.wanted o (yielded ops a.tmps) = true) (hr : ∀ w, (execOp a.eval o).run P w = .ok .recover w) (he : ∀ w, (execOp a.eval o).events P w #[] = #[])
 (h : J s (G (b.at (a.put o.dst v) (.inRegion ops rest :: k)) ({ c with mode := .panicking ({ v, recovered := true } :: older) } :: cs)) w) : J s (G (b.at a (.inRegion ops (i :: rest) :: k)) (c :: cs)) w := by
 have hfin : ∀ v, (b.at a (.inRegion ops (i :: rest) :: k)).finish v = b.at (a.put o.dst v) (.inRegion ops rest :: k) := fun v => by rw [Frame.finish_at, ho]; rfl
 refine hJ.step _ _ _ rfl fun τ d => ⟨G (b.at (a.put o.dst v) (.inRegion ops rest :: k)) ({ c with mode := .panicking ({ v, recovered := true } :: older) } :: cs), re w τ d, #[], ?_, OkD.refl _ _ _, by simp, hJ.re' _ _ _ τ d h⟩
 rw [stepG_oper ho hw, ← hfin]
 simp [stepG.apply, hr, he, G, Frame.at, hb, GStep.after, seen_none, tryRecover, hc, Sem.runT_eq]
theorem at_unwind {b : Frame} {a : Act} {todo : List Item} {cs : List Frame} {md : FrameMode} {f : FuncId} {fn : Func} {c : Code} {args caps : Array Value} {ds : List Deferred} {s : γ} {w : World} (hJ : JS P main Kc J)
 (hm : md = .returning ∨ ∃ ch, md = .panicking ch) (hd : a.defers = { target := .fn (.func f) caps, args := args } :: ds) (hf : P.funcs[f]? = some fn) (hn : (fn.name == "runtime.NumGoroutine") = false) (hb : fn.body = some c)
 (h : J s (G ((baseD f).at (enterAct fn (args ++ caps)) [.code c]) ({ b.at ⟨a.tmps, ds⟩ todo with mode := md } :: cs)) w) : J s (G { b.at a todo with mode := md } cs) w := by
 have hn' : ¬ fn.name = "runtime.NumGoroutine" := by simpa using hn
 have e : (baseD f).at (enterAct fn (args ++ caps)) [.code c] = Frame.enter P f (args ++ caps) .deferred := (enter_atD _ hf hb).symm
 rw [e] at h
 refine hJ.step _ _ _ rfl fun τ d => ⟨_, re w τ d, #[], ?_, OkD.refl _ _ _, by simp, hJ.re' _ _ _ τ d h⟩
 rcases hm with rfl | ⟨ch, rfl⟩ <;> simp [G, stepG, unwind, callDeferred, Frame.at, hd, invoke, callFunc, hf, hn', hb, GStep.after, seen_none, Sem.runT_eq]
end
end Go.Car
set_option maxHeartbeats 1000000
set_option maxRecDepth 100000
namespace Go.Proofs
open Go Go.Conc Go.RowKit Go.Car
open Go.ConcN (upd upd_ne upd_same)
theorem assert_nil (w : World) : (Instr.typeAssert .nilIface 20 109 true).run Try.prog w = .ok (.tuple #[.agg #[.nilIface], .bool false]) w := by kernel_rfl
theorem assert_end (x : Value) (w : World) : (Instr.typeAssert (.iface 109 x) 20 109 true).run Try.prog w = .ok (.tuple #[x, .bool true]) w := by rfl
theorem assert_other (T : TypeId) (x : Value) (h : T ≠ 109) (w : World) : (Instr.typeAssert (.iface T x) 20 109 true).run Try.prog w = .ok (.tuple #[.agg #[.nilIface], .bool false]) w := by
 have e : (Instr.typeAssert (.iface T x) 20 109 true).run Try.prog w = (if T = 109 then (.ok (.tuple #[x, .bool true]) w : Result Value) else .ok (.tuple #[.agg #[.nilIface], .bool false]) w) := by
  by_cases hT : T = 109
  · subst hT; rfl
  · rw [if_neg hT]
    have : (if T = 109 then (pure (.tuple #[x, .bool true]) : Sem Value) else (do pure (.tuple #[← zeroValue 109, .bool false]))).run Try.prog w = .ok (.tuple #[.agg #[.nilIface], .bool false]) w := by
     rw [if_neg hT]; kernel_rfl
    exact this
 rw [e, if_neg h]
@[go_sem] theorem neq_same (a : Addr) (w : World) : (binOp .neq 20 (.iface 91 (.pointer (some a))) (.iface 91 (.pointer (some a)))).run Try.prog w = .ok (.bool false) w := by
 simp only [binOp]
 simp [Op.equal, Op.maxDepth, run_equalIn_iface_ptr_same (P := Try.prog) w 9998 a (ti := 20) (tp := 91) rfl rfl rfl rfl rfl]
structure TW (bT bS bB N cap capB i st back pass : Nat) (sr br : Array Value) (ov : Bool) (w : World) : Prop where
 ts : w.heap[bT]? = some (.cells #[.chan (some back), .slice (some ⟨bS, 0, none⟩) N cap, .slice (some ⟨bB, 0, none⟩) N capB] 95)
 sts : w.heap[bS]? = some (.cells sr 96)
 brs : w.heap[bB]? = some (.cells br 4)
 std : w.heap[st]? = some (.cells #[.pointer (some ⟨bT, 0, none⟩), .chan (some pass), .bool ov] 99)
 lt : i < N
 s : sr[i]? = some (.pointer (some ⟨st, 0, none⟩))
 b : ∃ x, br[i]? = some (.bool x)
theorem run1_tail {Kc : Addr → Option Value} {J : Goroutine → World → Prop} (hJ : JX Try.prog Kc J) {n bT i : Nat} {whole : Bool} {c : Frame} {cs : List Frame} {w : World} {x3 x4 x5 x6 x7 x8 x9 x10 x11 x12 x13 x14 x15 x16 x17 x18 x19 x20 x21 x22 x23 x24 x25 x26 x27 x28 x29 x30 x31 x32 x33 x34 x35 x36 x37 x38 x39 x40 x41 x42 : Value}
 (hR : RunW n bT i whole w) {bS bB N cap capB st back pass : Nat} {sr br : Array Value} {ov : Bool} (hT : TW bT bS bB N cap capB i st back pass sr br ov w) (hne : bT ≠ st ∧ n ≠ st)
 (hKs : Kc ⟨st, 2, none⟩ = none)
 (hnext : ∀ T w', T[41]? = some (.chan (some back)) → T[42]? = some (.agg #[]) → w'.heap.size = w.heap.size → (∀ b, b ≠ st → w'.heap[b]? = w.heap[b]?) →
  w'.heap[st]? = some (.cells #[.pointer (some ⟨bT, 0, none⟩), .chan (some pass), .bool true] 99) →
  J (G ((baseD 46).at ⟨T, []⟩ [.inRegion (match Try.f46.body with | some (.seq _ (.seq _ (.seq _ (.region _ ops _)))) => ops | _ => #[]) [5]]) (c :: cs)) w') :
 J (G ((baseD 46).at ⟨#[.pointer (some ⟨n, 0, none⟩), .pointer (some ⟨n + 2, 0, none⟩), .pointer (some ⟨n + 1, 0, none⟩), x3, x4, x5, x6, x7, x8, x9, x10, x11, x12, x13, x14, x15, x16, x17, x18, x19, x20, x21, x22, x23, x24, x25, x26, x27, x28, x29, x30, x31, x32, x33, x34, x35, x36, x37, x38, x39, x40, x41, x42], []⟩ [.code (match Try.f46.body with | some (.seq _ (.seq _ c)) => c | _ => .skip)]) (c :: cs)) w := by
 obtain ⟨r1, r2, r3⟩ := hR
 obtain ⟨t1, t2, t3, t4, t5, t6, t7⟩ := hT
 have c1 := (zq1 (off := 0) r1).trans rfl
 have c2 := (zq1 (off := 0) r2).trans rfl
 have z1 : w.frozen? ⟨n, 0, none⟩ = false := zqf r1
 have z2 : w.frozen? ⟨n + 1, 0, none⟩ = false := zqf r2
 have d1 := (zq1 (off := 1) t1).trans rfl
 have d2 := (zq1 (off := i) t2).trans t6
 have d4 := (zq1 (off := 2) t4).trans rfl
 have y4 : w.frozen? ⟨st, 2, none⟩ = false := zqf t4
 have hi' : (i : Int) < N := by omega
 have hi0 : (0 : Int) ≤ i := by omega
 simp only [Try.f46]
 refine hJ.ctl (s := ()) (fun w => stepG_seq) ?_
 refine at_draw (J := fun (_ : Unit) => J) (s := ()) hJ (by decide) (by rfl) [.pointer (some ⟨bT, 0, none⟩), .pointer (some ⟨bT, 0, none⟩), .pointer (some ⟨bT, 1, none⟩), .slice (some ⟨bS, 0, none⟩) N cap, .int .i64 i, .pointer (some ⟨bS, i, none⟩), .pointer (some ⟨st, 0, none⟩), .pointer (some ⟨st, 0, none⟩), .pointer (some ⟨st, 2, none⟩)] (by kernel_rfl) ?_ ?_
 · intro τ d
   simp only [evals, putv, dstOf, al_gl, al_g0, al_g1, al_ob, al_g2, List.set_cons_succ, List.set_cons_zero]
   refine ⟨?_, ?_, ?_, ?_, ?_, ?_, ?_, ?_, ?_, trivial⟩ <;> (intro o ho; simp only [al_oi] at ho; subst ho)
   all_goals (simp only [execOp, Act.eval, al_gd, al_gl, al_g0, al_g1, al_od])
   all_goals (try go_simp)
 · simp only [putv, dstOf, al_gl, al_g0, al_g1, al_ob, al_g2, List.set_cons_succ, List.set_cons_zero, Nat.reduceAdd, Nat.zero_add, List.length_cons, List.length_nil]
   refine at_store (J := fun (_ : Unit) => J) (s := ()) (i := 9) (rest := []) (by decide) hJ rfl rfl (ad := ⟨st, 2, none⟩) rfl (fun j hj => free_cell hKs hj) ⟨_, _, _, t4⟩ ?_
   intro τ d
   go_wp2
   simp only [contAt, re_setCell]
   refine hJ.re' () _ _ τ d ?_
   have g3 := zqh w st 2 (Value.bool true) t4
   have g4 : ∀ b, b ≠ st → (w.setCell ⟨st, 2, none⟩ (Value.bool true)).heap[b]? = w.heap[b]? := fun b hb => zqa _ _ _ _ hb
   have g5 : (w.setCell ⟨st, 2, none⟩ (Value.bool true)).heap.size = w.heap.size := hp_size_set _ _ _
   generalize w.setCell ⟨st, 2, none⟩ (Value.bool true) = w2 at g3 g4 g5 ⊢
   refine hJ.ctl (s := ()) (fun w => stepG_region_end) ?_
   refine hJ.ctl (s := ()) (fun w => stepG_region) ?_
   refine at_piece (J := fun (_ : Unit) => J) (s := ()) (by decide) hJ (zqg _) true (.inl rfl) 0 5 1 rfl rfl rfl (by rfl) ?_
   intro τ d
   have e1 : w2.cell? ⟨n, 0, none⟩ = some (.pointer (some ⟨bT, 0, none⟩)) := (zqe (g4 n hne.2)).trans c1
   have e2 : w2.cell? ⟨bT, 0, none⟩ = some (.chan (some back)) := (zqe (g4 bT hne.1)).trans ((zq1 (off := 0) t1).trans rfl)
   simp only [List.drop_zero, List.drop_succ_cons, List.take_succ_cons, List.take_zero]
   go_wp2
   simp only [contAt]
   refine hJ.re' () _ _ τ d ?_
   refine hnext _ w2 (by rfl) (by rfl) g5 g4 (g3.trans (by rfl))
theorem run1_body {Kc : Addr → Option Value} {J : Goroutine → World → Prop} (hJ : JX Try.prog Kc J) {n bT i : Nat} {whole ok : Bool} {r x : Value} {c : Frame} {cs : List Frame} {w : World} {a : Act}
 (ha : a = ⟨#[.pointer (some ⟨n, 0, none⟩), .pointer (some ⟨n + 2, 0, none⟩), .pointer (some ⟨n + 1, 0, none⟩), r, undef, undef, r, undef, undef, undef, undef, undef, undef, undef, undef, undef, undef, undef, undef, undef, undef, undef, undef, undef, undef, undef, undef, undef, undef, undef, undef, undef, undef, undef, undef, undef, undef, undef, undef, undef, undef, undef, undef], []⟩)
 (hassert : ∀ w, (Instr.typeAssert r 20 109 true).run Try.prog w = .ok (.tuple #[.agg #[x], .bool ok]) w) (hcase : (ok = false ∧ x = .nilIface) ∨ (ok = true ∧ x = .iface 91 (.pointer (some ⟨bT, 0, none⟩))))
 (hR : RunW n bT i whole w) (hK : ∀ a v, Kc a = some v → a.block < w.heap.size)
 {bS bB N cap capB st back pass : Nat} {sr br : Array Value} {ov : Bool} (hT : TW bT bS bB N cap capB i st back pass sr br ov w) (hlt : bT < n ∧ bS < n ∧ bB < n ∧ st < n) (hne : bT ≠ bB ∧ bS ≠ bB ∧ st ≠ bB ∧ bT ≠ st ∧ bS ≠ st)
 (hKB : ∀ y : Addr, y.block = bB → Kc y = none) (hKs : Kc ⟨st, 2, none⟩ = none)
 (hnext : ∀ T w', T[41]? = some (.chan (some back)) → T[42]? = some (.agg #[]) → w'.heap.size = w.heap.size + 1 → (∀ b, b < w.heap.size → b ≠ bB → b ≠ st → w'.heap[b]? = w.heap[b]?) →
  w'.heap[st]? = some (.cells #[.pointer (some ⟨bT, 0, none⟩), .chan (some pass), .bool true] 99) → w'.heap[bB]? = some (.cells (if ok = true then br else br.setIfInBounds i (.bool (!whole))) 4) →
  J (G ((baseD 46).at ⟨T, []⟩ [.inRegion (match Try.f46.body with | some (.seq _ (.seq _ (.seq _ (.region _ ops _)))) => ops | _ => #[]) [5]]) (c :: cs)) w') :
 J (G ((baseD 46).at a [.code (match Try.f46.body with | some (.seq _ c) => c | _ => .skip)]) (c :: cs)) w := by
 obtain ⟨r1, r2, r3⟩ := hR
 have c1 := (zq1 (off := 0) r1).trans rfl
 have c2 := (zq1 (off := 0) r2).trans rfl
 have c3 := (zq1 (off := 0) r3).trans rfl
 have z1 : w.frozen? ⟨n, 0, none⟩ = false := zqf r1
 have z2 : w.frozen? ⟨n + 1, 0, none⟩ = false := zqf r2
 have z3 : w.frozen? ⟨n + 2, 0, none⟩ = false := zqf r3
 subst ha
 simp only [Try.f46]
 refine hJ.ctl (s := ()) (fun w => stepG_seq) ?_
 refine hJ.ctl (s := ()) (fun w => stepG_seq) ?_
 refine hJ.ctl (s := ()) (fun w => stepG_region) ?_
 refine at_piece (J := fun (_ : Unit) => J) (s := ()) (by decide) hJ (zqg _) true (.inl rfl) 0 6 2 rfl rfl rfl (by rfl) ?_
 intro τ d
 simp only [List.drop_zero, List.drop_succ_cons, List.take_succ_cons, List.take_zero]
 go_wp2
 simp only [contAt, re_alloc]
 refine hJ.re' () _ _ τ d ?_
 generalize hw1 : w.alloc (Obj.cells #[Value.nilIface] 109) = w1
 have f0 : w1.heap[w.heap.size]? = some (.cells #[.nilIface] 109) := by subst hw1; rw [zqc, if_pos rfl]
 have f1 : ∀ b, b ≠ w.heap.size → w1.heap[b]? = w.heap[b]? := fun b hb => by subst hw1; rw [zqc, if_neg hb]
 have hfree : ∀ y : Addr, y.block = w.heap.size → Kc y = none := fun y hy => by
  cases hky : Kc y with
  | none => rfl
  | some v => have := hK y v hky; omega
 have g1 : w1.cell? ⟨w.heap.size, 0, none⟩ = some .nilIface := (zq1 f0).trans rfl
 have g2 : w1.frozen? ⟨w.heap.size, 0, none⟩ = false := zqf f0
 refine at_store (J := fun (_ : Unit) => J) (s := ()) (i := 6) (rest := [7]) (by decide) hJ rfl rfl (ad := ⟨w.heap.size, 0, none⟩) rfl (fun j _ => free_block hfree j) ⟨_, _, _, f0⟩ ?_
 intro τ d
 rcases hcase with ⟨rfl, rfl⟩ | ⟨rfl, rfl⟩
 · go_wp2
   simp only [contAt, re_setCell]
   refine hJ.re' () _ _ τ d ?_
   have g3 := zqh w1 w.heap.size 0 Value.nilIface f0
   have g4 : ∀ b, b ≠ w.heap.size → (w1.setCell ⟨w.heap.size, 0, none⟩ Value.nilIface).heap[b]? = w1.heap[b]? := fun b hb => zqa _ _ _ _ hb
   have g5 : (w1.setCell ⟨w.heap.size, 0, none⟩ Value.nilIface).heap.size = w.heap.size + 1 := by rw [hp_size_set, ← hw1, zq8]
   generalize w1.setCell ⟨w.heap.size, 0, none⟩ Value.nilIface = w2 at g3 g4 g5 ⊢
   refine at_piece (J := fun (_ : Unit) => J) (s := ()) (by decide) hJ (zqg _) true (.inl rfl) 7 1 0 rfl rfl rfl (by rfl) ?_
   intro τ d
   simp only [List.drop_zero, List.drop_succ_cons, List.take_succ_cons, List.take_zero]
   go_wp2
   simp only [contAt]
   refine hJ.re' () _ _ τ d ?_
   refine hJ.ctl (s := ()) (fun w => stepG_region_end) ?_
   refine hJ.ctl (s := ()) (fun w => stepG_seq) ?_
   refine hJ.ctl (s := ()) (fun w => stepG_region) ?_
   refine at_piece (J := fun (_ : Unit) => J) (s := ()) (by decide) hJ (zqg _) true (.inl rfl) 0 9 0 rfl rfl rfl (by rfl) ?_
   intro τ d
   simp only [List.drop_zero, List.drop_succ_cons, List.take_succ_cons, List.take_zero]
   go_wp2
   simp only [contAt]
   refine hJ.re' () _ _ τ d ?_
   refine hJ.ctl (s := ()) (fun w => stepG_region_end) ?_
   refine hJ.ctl (s := ()) (fun w => stepG_cond (t := true) rfl) ?_
   simp only [if_true]
   obtain ⟨t1, t2, t3, t4, t5, t6, ⟨bx, t7⟩⟩ := hT
   have lt1 := zq4 t1
   have lt2 := zq4 t2
   have lt3 := zq4 t3
   have lt4 := zq4 t4
   have lt5 := zq4 r1
   have lt6 := zq4 r2
   have lt7 := zq4 r3
   have o : ∀ b, b < w.heap.size → w2.heap[b]? = w.heap[b]? := fun b hb => (g4 b (by omega)).trans (f1 b (by omega))
   have k1 : w2.cell? ⟨n, 0, none⟩ = some (.pointer (some ⟨bT, 0, none⟩)) := (zq1 ((o n lt5).trans r1)).trans rfl
   have k2 : w2.cell? ⟨n + 1, 0, none⟩ = some (.int .i64 i) := (zq1 ((o (n + 1) lt6).trans r2)).trans rfl
   have k3 : w2.cell? ⟨n + 2, 0, none⟩ = some (.bool whole) := (zq1 ((o (n + 2) lt7).trans r3)).trans rfl
   have k4 : w2.cell? ⟨bT, 2, none⟩ = some (.slice (some ⟨bB, 0, none⟩) N capB) := (zq1 ((o bT lt1).trans t1)).trans rfl
   have k5 : w2.cell? ⟨bB, i, none⟩ = some (.bool bx) := (zq1 ((o bB lt3).trans t3)).trans t7
   have k6 : w2.frozen? ⟨bB, i, none⟩ = false := zqf ((o bB lt3).trans t3)
   have hi' : (i : Int) < N := by omega
   have hi0 : (0 : Int) ≤ i := by omega
   refine at_draw (J := fun (_ : Unit) => J) (s := ()) hJ (by decide) (by rfl) [.pointer (some ⟨bT, 0, none⟩), .pointer (some ⟨bT, 0, none⟩), .pointer (some ⟨bT, 2, none⟩), .slice (some ⟨bB, 0, none⟩) N capB, .int .i64 i, .bool whole, .bool (!whole), .pointer (some ⟨bB, i, none⟩)] (by kernel_rfl) ?_ ?_
   · intro τ d
     simp only [evals, putv, dstOf, al_gl, al_g0, al_g1, al_ob, al_g2, List.set_cons_succ, List.set_cons_zero]
     refine ⟨?_, ?_, ?_, ?_, ?_, ?_, ?_, ?_, trivial⟩ <;> (intro o ho; simp only [al_oi] at ho; subst ho)
     all_goals (simp only [execOp, Act.eval, al_gd, al_gl, al_g0, al_g1, al_od])
     all_goals (try go_simp)
   · simp only [putv, dstOf, al_gl, al_g0, al_g1, al_ob, al_g2, List.set_cons_succ, List.set_cons_zero, Nat.reduceAdd, Nat.zero_add, List.length_cons, List.length_nil]
     refine at_store (J := fun (_ : Unit) => J) (s := ()) (i := 8) (rest := []) (by decide) hJ rfl rfl (ad := ⟨bB, i, none⟩) rfl (fun j _ => free_block hKB j) ⟨_, _, _, (o bB lt3).trans t3⟩ ?_
     intro τ d
     go_wp2
     simp only [contAt, re_setCell]
     refine hJ.re' () _ _ τ d ?_
     have m3 := zqh w2 bB i (Value.bool (!whole)) ((o bB lt3).trans t3)
     have m4 : ∀ b, b ≠ bB → (w2.setCell ⟨bB, i, none⟩ (Value.bool (!whole))).heap[b]? = w2.heap[b]? := fun b hb => zqa _ _ _ _ hb
     have m5 : (w2.setCell ⟨bB, i, none⟩ (Value.bool (!whole))).heap.size = w2.heap.size := hp_size_set _ _ _
     generalize w2.setCell ⟨bB, i, none⟩ (Value.bool (!whole)) = w3 at m3 m4 m5 ⊢
     refine hJ.ctl (s := ()) (fun w => stepG_region_end) ?_
     have o3 : ∀ b, b < w.heap.size → b ≠ bB → w3.heap[b]? = w.heap[b]? := fun b hb h => (m4 b h).trans (o b hb)
     have hbi : i < br.size := (Array.getElem?_eq_some_iff.1 t7).1
     refine run1_tail hJ (n := n) (i := i) (whole := whole) ⟨(o3 n lt5 (by omega)).trans r1, (o3 (n + 1) lt6 (by omega)).trans r2, (o3 (n + 2) lt7 (by omega)).trans r3⟩
      (bB := bB) (br := br.setIfInBounds i (.bool (!whole))) ⟨(o3 bT lt1 hne.1).trans t1, (o3 bS lt2 hne.2.1).trans t2, m3, (o3 st lt4 hne.2.2.1).trans t4, t5, t6, ⟨!whole, by simp [hbi]⟩⟩ ⟨hne.2.2.2.1, by omega⟩ hKs ?_
     intro T w' hT1 hT2 hsz hold hst
     refine hnext T w' hT1 hT2 (by rw [hsz, m5, g5]) (fun b hb h1 h2 => (hold b h2).trans (o3 b hb h1)) hst ?_
     rw [hold bB hne.2.2.1.symm, m3]
     simp
 · go_wp2
   simp only [contAt, re_setCell]
   refine hJ.re' () _ _ τ d ?_
   have g3 := zqh w1 w.heap.size 0 (Value.iface 91 (.pointer (some ⟨bT, 0, none⟩))) f0
   have g4 : ∀ b, b ≠ w.heap.size → (w1.setCell ⟨w.heap.size, 0, none⟩ (Value.iface 91 (.pointer (some ⟨bT, 0, none⟩)))).heap[b]? = w1.heap[b]? := fun b hb => zqa _ _ _ _ hb
   have g5 : (w1.setCell ⟨w.heap.size, 0, none⟩ (Value.iface 91 (.pointer (some ⟨bT, 0, none⟩)))).heap.size = w.heap.size + 1 := by rw [hp_size_set, ← hw1, zq8]
   generalize w1.setCell ⟨w.heap.size, 0, none⟩ (Value.iface 91 (.pointer (some ⟨bT, 0, none⟩))) = w2 at g3 g4 g5 ⊢
   obtain ⟨t1, t2, t3, t4, t5, t6, ⟨bx, t7⟩⟩ := hT
   have lt1 := zq4 t1
   have lt2 := zq4 t2
   have lt3 := zq4 t3
   have lt4 := zq4 t4
   have lt5 := zq4 r1
   have lt6 := zq4 r2
   have lt7 := zq4 r3
   have o : ∀ b, b < w.heap.size → w2.heap[b]? = w.heap[b]? := fun b hb => (g4 b (by omega)).trans (f1 b (by omega))
   have k0 : w2.cell? ⟨w.heap.size, 0, none⟩ = some (Value.iface 91 (.pointer (some ⟨bT, 0, none⟩))) := (zq1 g3).trans rfl
   have k1 : w2.cell? ⟨n, 0, none⟩ = some (.pointer (some ⟨bT, 0, none⟩)) := (zq1 ((o n lt5).trans r1)).trans rfl
   refine at_piece (J := fun (_ : Unit) => J) (s := ()) (by decide) hJ (zqg _) true (.inl rfl) 7 1 0 rfl rfl rfl (by rfl) ?_
   intro τ d
   simp only [List.drop_zero, List.drop_succ_cons, List.take_succ_cons, List.take_zero]
   go_wp2
   simp only [contAt]
   refine hJ.re' () _ _ τ d ?_
   refine hJ.ctl (s := ()) (fun w => stepG_region_end) ?_
   refine hJ.ctl (s := ()) (fun w => stepG_seq) ?_
   refine hJ.ctl (s := ()) (fun w => stepG_region) ?_
   refine at_piece (J := fun (_ : Unit) => J) (s := ()) (by decide) hJ (zqg _) true (.inl rfl) 0 9 0 rfl rfl rfl (by rfl) ?_
   intro τ d
   simp only [List.drop_zero, List.drop_succ_cons, List.take_succ_cons, List.take_zero]
   go_wp2
   simp only [contAt]
   refine hJ.re' () _ _ τ d ?_
   refine hJ.ctl (s := ()) (fun w => stepG_region_end) ?_
   refine hJ.ctl (s := ()) (fun w => stepG_cond (t := false) rfl) ?_
   simp only [Bool.false_eq_true, if_false]
   refine hJ.ctl (s := ()) (fun w => stepG_skip) ?_
   refine run1_tail hJ (n := n) (i := i) (whole := whole) ⟨(o n lt5).trans r1, (o (n + 1) lt6).trans r2, (o (n + 2) lt7).trans r3⟩
    (bB := bB) (br := br) ⟨(o bT lt1).trans t1, (o bS lt2).trans t2, (o bB lt3).trans t3, (o st lt4).trans t4, t5, t6, ⟨_, t7⟩⟩ ⟨hne.2.2.2.1, by omega⟩ hKs ?_
   intro T w' hT1 hT2 hsz hold hst
   refine hnext T w' hT1 hT2 (by rw [hsz, g5]) (fun b hb h1 h2 => (hold b h2).trans (o b hb)) hst ?_
   rw [hold bB hne.2.2.1.symm, o bB lt3, t3]
   simp
def Leaving (c : Frame) : Prop := c.fn = 34 ∧ c.defers = [] ∧ c.kind = .deferred ∧ (c.mode = .returning ∨ ∃ v, c.mode = .panicking [{ v, recovered := true }])
noncomputable def sendAt (T : Array Value) : Frame := (baseD 46).at ⟨T, []⟩ [.inRegion (match Try.f46.body with | some (.seq _ (.seq _ (.seq _ (.region _ ops _)))) => ops | _ => #[]) [5]]
theorem quits_bot : QuitsD Try.prog 1 0 (G bot []) := by
 refine QuitsD.ctl (g' := { G bot [] with status := .finished }) rfl (fun w => ?_) ⟨rfl, rfl⟩
 simp [G, bot, botF, stepG, unwind, goexitEntry, Frame.catches]
 rfl
theorem quits_run (c : Frame) (h1 : c.fn = 34) (h2 : c.defers = []) (h3 : c.kind = .deferred) (h4 : c.mode = .returning) : QuitsD Try.prog 2 0 (G c [bot]) := by
 refine QuitsD.ctl (g' := G bot []) rfl (fun w => ?_) quits_bot
 have hr : (results Try.f34 c.tmps).run Try.prog w = .ok (.tuple #[]) w := by simp [results, Try.f34]
 have he : (results Try.f34 c.tmps).events Try.prog w #[] = #[] := by simp [results, Try.f34]
 simp [G, stepG, unwind, h1, h2, h3, h4, Try.func34, Sem.runT_eq, hr, he, seen, GStep.after, doReturn, bot, botF, goexitEntry]
theorem leaves (T : Array Value) (c : Frame) (hc : Leaving c) : QuitsD Try.prog 5 0 (Conc.served (G (sendAt T) [c, bot]) undef) := by
 obtain ⟨h1, h2, h3, h4⟩ := hc
 simp only [sendAt, Try.f46]
 rw [served_fr, Frame.finish_at]
 have ep : ∀ a : Act, a.put none undef = a := fun a => rfl
 simp only [al_gl, al_g0, al_g1, al_ob, ep]
 refine QuitsD.ctl rfl (fun w => stepG_region_end) ?_
 refine QuitsD.ctl rfl (fun w => stepG_end) ?_
 refine QuitsD.ctl (g' := G { c with mode := .returning } [bot]) rfl (fun w => ?_) (quits_run _ h1 h2 h3 rfl)
 have hr : ∀ t, (results Try.f46 t).run Try.prog w = .ok (.tuple #[]) w := fun t => by simp [results, Try.f46]
 have he : ∀ t, (results Try.f46 t).events Try.prog w #[] = #[] := fun t => by simp [results, Try.f46]
 rcases h4 with h4 | ⟨v, h4⟩
 · have e : { c with mode := .returning } = c := by cases c; simp only at h4; subst h4; rfl
   rw [e]
   simp [G, stepG, unwind, Frame.at, baseD, Try.func46, Sem.runT_eq, hr, he, seen, GStep.after, doReturn, h4]
 · simp [G, stepG, unwind, Frame.at, baseD, Try.func46, Sem.runT_eq, hr, he, seen, GStep.after, doReturn, h4]
theorem send_leaves {Fin : Machine → Trace → Prop} (hFin : Back Try.prog Fin) {Kc : Addr → Option Value} {Inb : Nat → Option Seat} {j n back : Nat} {T : Array Value} {c : Frame} {w : World} (hj : 0 < j) (hn : 0 < n)
 {zb : Value} {okb : Bool} {homeb : Goroutine → Prop} (h0 : Inb 0 = some (Seat.one back zb okb homeb)) (h1 : T[41]? = some (.chan (some back))) (h2 : T[42]? = some (.agg #[])) (hc : Leaving c)
 (hnext : ∀ g₂ k cap, homeb g₂ → w.heap[back]? = some (.chan cap #[] false k k false) → HoldR Try.prog Fin Kc (upd Inb j none) 0 n (Conc.served g₂ (recvd okb (.agg #[]) true)) (w.setChan back cap #[] false (k + 1) (k + 1) false)) :
 HoldR Try.prog Fin Kc Inb j n (G (sendAt T) [c, bot]) w := by
 have hl := leaves T c hc
 simp only [sendAt, Try.f46] at hl ⊢
 refine give_hold hFin (by omega) hn h0 rfl (send_at (c := back) (v := .agg #[]) (z' := .tuple #[]) rfl rfl (by decide) (fun w => ?_) (fun w => ?_) w) (by simp) (.leaves hj ⟨5, hl⟩) hnext
 · simp [execOp, scase, Act.eval, al_gd, h1, h2]
 · simp [go_sem, execOp, Act.eval]
structure EndIn (Kc : Addr → Option Value) (n bT bS bB N cap capB i st back pass : Nat) (sr br : Array Value) (ov : Bool) (w : World) : Prop where
 kept : ∀ a v, Kc a = some v → a.block < w.heap.size
 tw : TW bT bS bB N cap capB i st back pass sr br ov w
 lt : bT < n ∧ bS < n ∧ bB < n ∧ st < n
 ne : bT ≠ bB ∧ bS ≠ bB ∧ st ≠ bB ∧ bT ≠ st ∧ bS ≠ st
 kb : ∀ y : Addr, y.block = bB → Kc y = none
 ks : Kc ⟨st, 2, none⟩ = none
structure EndOut (bB st bT pass i : Nat) (br : Array Value) (brk : Option Bool) (w w' : World) : Prop where
 size : w.heap.size ≤ w'.heap.size
 old : ∀ b, b < w.heap.size → b ≠ bB → b ≠ st → w'.heap[b]? = w.heap[b]?
 std : w'.heap[st]? = some (.cells #[.pointer (some ⟨bT, 0, none⟩), .chan (some pass), .bool true] 99)
 brs : w'.heap[bB]? = some (.cells (match brk with | some x => br.setIfInBounds i (.bool x) | none => br) 4)
theorem run1_all {Kc : Addr → Option Value} {J : Goroutine → World → Prop} (hJ : JX Try.prog Kc J) {n bT bS bB N cap capB i st back pass : Nat} {sr br : Array Value} {ov whole : Bool} {w : World} {b : Frame} {a : Act} {todo : List Item} {md : FrameMode} {r : Value} {ok : Bool} {x : Value}
 (hb : b = baseD 34) (hd : a.defers = [run1 n]) (hmd : (md = .returning ∧ r = .nilIface) ∨ md = .panicking [{ v := r, recovered := false }])
 (hassert : ∀ w, (Instr.typeAssert r 20 109 true).run Try.prog w = .ok (.tuple #[.agg #[x], .bool ok]) w) (hcase : (ok = false ∧ x = .nilIface) ∨ (ok = true ∧ x = .iface 91 (.pointer (some ⟨bT, 0, none⟩))))
 (hR : RunW n bT i whole w) (hE : EndIn Kc n bT bS bB N cap capB i st back pass sr br ov w)
 (hnext : ∀ T c w', Leaving c → T[41]? = some (.chan (some back)) → T[42]? = some (.agg #[]) → EndOut bB st bT pass i br (if ok = true then none else some (!whole)) w w' → J (G (sendAt T) [c, bot]) w') :
 J (G { b.at a todo with mode := md } [bot]) w := by
 subst hb
 refine at_unwind (J := fun (_ : Unit) => J) (s := ()) (f := 46) (fn := Try.f46) (c := Try.f46.body.getD .skip) (args := #[]) (caps := #[.pointer (some ⟨n, 0, none⟩), .pointer (some ⟨n + 2, 0, none⟩), .pointer (some ⟨n + 1, 0, none⟩)]) (ds := []) hJ ?_ hd Try.func46 rfl rfl ?_
 · rcases hmd with ⟨h, _⟩ | h
   · exact .inl h
   · exact .inr ⟨_, h⟩
 have body : ∀ (c : Frame), Leaving c → J (G ((baseD 46).at ⟨#[.pointer (some ⟨n, 0, none⟩), .pointer (some ⟨n + 2, 0, none⟩), .pointer (some ⟨n + 1, 0, none⟩), r, undef, undef, r, undef, undef, undef, undef, undef, undef, undef, undef, undef, undef, undef, undef, undef, undef, undef, undef, undef, undef, undef, undef, undef, undef, undef, undef, undef, undef, undef, undef, undef, undef, undef, undef, undef, undef, undef, undef], []⟩ [.code (match Try.f46.body with | some (.seq _ c) => c | _ => .skip)]) [c, bot]) w := by
  intro c hc
  refine run1_body hJ rfl hassert hcase hR hE.kept hE.tw hE.lt hE.ne hE.kb hE.ks ?_
  intro T w' h1 h2 h3 h4 h5 h6
  refine hnext T c w' hc h1 h2 ⟨by omega, h4, h5, ?_⟩
  rw [h6]
  cases ok <;> rfl
 simp only [Try.f46, enterAct, al_od, List.size_toArray, List.length_cons, List.length_nil, Nat.reduceAdd, Nat.reduceSub, Array.replicate_succ, Array.replicate_zero, List.push_toArray, List.append_toArray, List.nil_append, List.cons_append] at body ⊢
 refine hJ.ctl (s := ()) (fun w => stepG_seq) ?_
 refine hJ.ctl (s := ()) (fun w => stepG_region) ?_
 rcases hmd with ⟨rfl, rfl⟩ | rfl
 · refine at_recover_none (J := fun (_ : Unit) => J) (s := ()) (i := 0) (rest := [1]) rfl rfl hJ rfl rfl (fun w => by simp [go_sem, execOp, Act.eval]) (fun w => by simp [go_sem, execOp, Act.eval]) ?_
   walk_nrm
   refine at_piece (J := fun (_ : Unit) => J) (s := ()) (by decide) hJ (zqg _) true (.inl rfl) 1 1 0 rfl rfl rfl (by rfl) ?_
   intro τ d
   simp only [List.drop_zero, List.drop_succ_cons, List.take_succ_cons, List.take_zero]
   go_wp2
   simp only [contAt]
   refine hJ.re' () _ _ τ d ?_
   refine hJ.ctl (s := ()) (fun w => stepG_region_end) ?_
   exact body _ ⟨rfl, rfl, rfl, .inl rfl⟩
 · refine at_recover_some (J := fun (_ : Unit) => J) (s := ()) (i := 0) (rest := [1]) (v := r) (older := []) rfl rfl hJ rfl rfl (fun w => by simp [go_sem, execOp, Act.eval]) (fun w => by simp [go_sem, execOp, Act.eval]) ?_
   walk_nrm
   refine at_piece (J := fun (_ : Unit) => J) (s := ()) (by decide) hJ (zqg _) true (.inl rfl) 1 1 0 rfl rfl rfl (by rfl) ?_
   intro τ d
   simp only [List.drop_zero, List.drop_succ_cons, List.take_succ_cons, List.take_zero]
   go_wp2
   simp only [contAt]
   refine hJ.re' () _ _ τ d ?_
   refine hJ.ctl (s := ()) (fun w => stepG_region_end) ?_
   exact body _ ⟨rfl, rfl, rfl, .inr ⟨r, rfl⟩⟩
theorem TW.of_same {bT bS bB N cap capB i st back pass : Nat} {sr br : Array Value} {ov : Bool} {w w' : World} (h : TW bT bS bB N cap capB i st back pass sr br ov w)
 (h1 : w'.heap[bT]? = w.heap[bT]?) (h2 : w'.heap[bS]? = w.heap[bS]?) (h3 : w'.heap[bB]? = w.heap[bB]?) (h4 : w'.heap[st]? = w.heap[st]?) : TW bT bS bB N cap capB i st back pass sr br ov w' :=
 ⟨h1.trans h.ts, h2.trans h.sts, h3.trans h.brs, h4.trans h.std, h.lt, h.s, h.b⟩
theorem run_whole {Kc : Addr → Option Value} {J : Goroutine → World → Prop} (hJ : JX Try.prog Kc J) {n bT bS bB N cap capB i st back pass : Nat} {sr br : Array Value} {ov : Bool} {w : World} {T : Array Value}
 (hT6 : T[6]? = some (.pointer (some ⟨n + 2, 0, none⟩))) (hR : RunW n bT i false w) (hE : EndIn Kc n bT bS bB N cap capB i st back pass sr br ov w) (hKn : ∀ y : Addr, y.block = n + 2 → Kc y = none)
 (hnext : ∀ T c w', Leaving c → T[41]? = some (.chan (some back)) → T[42]? = some (.agg #[]) → w.heap.size ≤ w'.heap.size → (∀ b, b < w.heap.size → b ≠ bB → b ≠ st → b ≠ n + 2 → w'.heap[b]? = w.heap[b]?) →
  w'.heap[st]? = some (.cells #[.pointer (some ⟨bT, 0, none⟩), .chan (some pass), .bool true] 99) → w'.heap[bB]? = some (.cells (br.setIfInBounds i (.bool false)) 4) → J (G (sendAt T) [c, bot]) w') :
 J (G ((baseD 34).at ⟨T, [run1 n]⟩ [.code code5]) [bot]) w := by
 simp only [code5, Try.f34]
 have l1 := hE.lt
 refine hJ.ctl (s := ()) (fun w => stepG_region) ?_
 have k1 : w.cell? ⟨n + 2, 0, none⟩ = some (.bool false) := (zq1 hR.whole).trans rfl
 have k2 : w.frozen? ⟨n + 2, 0, none⟩ = false := zqf hR.whole
 refine at_store (J := fun (_ : Unit) => J) (s := ()) (i := 0) (rest := []) (by decide) hJ rfl rfl (ad := ⟨n + 2, 0, none⟩) (by simp [Act.eval, al_gd, hT6]) (fun j _ => free_block hKn j) ⟨_, _, _, hR.whole⟩ ?_
 intro τ d
 go_wp2
 simp only [contAt, re_setCell]
 refine hJ.re' () _ _ τ d ?_
 have m3 := zqh w (n + 2) 0 (Value.bool true) hR.whole
 have m4 : ∀ b, b ≠ n + 2 → (w.setCell ⟨n + 2, 0, none⟩ (Value.bool true)).heap[b]? = w.heap[b]? := fun b hb => zqa _ _ _ _ hb
 have m5 : (w.setCell ⟨n + 2, 0, none⟩ (Value.bool true)).heap.size = w.heap.size := hp_size_set _ _ _
 generalize w.setCell ⟨n + 2, 0, none⟩ (Value.bool true) = w3 at m3 m4 m5 ⊢
 refine hJ.ctl (s := ()) (fun w => stepG_region_end) ?_
 refine hJ.ctl (s := ()) (fun w => stepG_end) ?_
 refine run1_all hJ (whole := true) (r := .nilIface) (ok := false) (x := .nilIface) (md := .returning) rfl rfl (.inl ⟨rfl, rfl⟩) assert_nil (.inl ⟨rfl, rfl⟩) ⟨(m4 n (by omega)).trans hR.t, (m4 (n + 1) (by omega)).trans hR.i, m3⟩
  ⟨fun a v h => by rw [m5]; exact hE.kept a v h, hE.tw.of_same (m4 _ (by omega)) (m4 _ (by omega)) (m4 _ (by omega)) (m4 _ (by omega)), hE.lt, hE.ne, hE.kb, hE.ks⟩ ?_
 intro T c w' hc h1 h2 ho
 refine hnext T c w' hc h1 h2 (by have := ho.size; omega) (fun b hb h3 h4 h5 => (ho.old b (by omega) h3 h4).trans (m4 b h5)) ho.std ho.brs
theorem run_back {Kc : Addr → Option Value} {J : Goroutine → World → Prop} (hJ : JX Try.prog Kc J) {n bT bS bB N cap capB i st back pass : Nat} {sr br : Array Value} {ov : Bool} {w : World} {tv v : Value}
 (hR : RunW n bT i false w) (hE : EndIn Kc n bT bS bB N cap capB i st back pass sr br ov w) (hKn : ∀ y : Addr, y.block = n + 2 → Kc y = none)
 (hnext : ∀ T c w', Leaving c → T[41]? = some (.chan (some back)) → T[42]? = some (.agg #[]) → w.heap.size ≤ w'.heap.size → (∀ b, b < w.heap.size → b ≠ bB → b ≠ st → b ≠ n + 2 → w'.heap[b]? = w.heap[b]?) →
  w'.heap[st]? = some (.cells #[.pointer (some ⟨bT, 0, none⟩), .chan (some pass), .bool true] 99) → w'.heap[bB]? = some (.cells (br.setIfInBounds i (.bool false)) 4) → J (G (sendAt T) [c, bot]) w') :
 J (G ((runCall n bT bS N cap i st tv [.inRegion ops4 [9], .code code5]).finish v) [bot]) w := by
 simp only [runCall]
 rw [Frame.finish_at]
 refine hJ.ctl (s := ()) (fun w => stepG_region_end) ?_
 refine run_whole hJ (by simp [Act.put, ops4, Try.f34]) hR hE hKn hnext
theorem run_nil {Kc : Addr → Option Value} {J : Goroutine → World → Prop} (hJ : JX Try.prog Kc J) {n bT bS bB N cap capB i st back pass : Nat} {sr br : Array Value} {ov : Bool} {w : World}
 (hR : RunW n bT i false w) (hE : EndIn Kc n bT bS bB N cap capB i st back pass sr br ov w) (hKn : ∀ y : Addr, y.block = n + 2 → Kc y = none)
 (hnext : ∀ T c w', Leaving c → T[41]? = some (.chan (some back)) → T[42]? = some (.agg #[]) → w.heap.size ≤ w'.heap.size → (∀ b, b < w.heap.size → b ≠ bB → b ≠ st → b ≠ n + 2 → w'.heap[b]? = w.heap[b]?) →
  w'.heap[st]? = some (.cells #[.pointer (some ⟨bT, 0, none⟩), .chan (some pass), .bool true] 99) → w'.heap[bB]? = some (.cells (br.setIfInBounds i (.bool false)) 4) → J (G (sendAt T) [c, bot]) w') :
 J (G (runAt n bT i .nilFunc [.code runRest]) [bot]) w := by
 simp only [runAt, runRest, Try.f34]
 refine hJ.ctl (s := ()) (fun w => stepG_seq) ?_
 refine hJ.ctl (s := ()) (fun w => stepG_seq) ?_
 refine hJ.ctl (s := ()) (fun w => stepG_region) ?_
 refine at_piece (J := fun (_ : Unit) => J) (s := ()) (by decide) hJ (zqg _) true (.inl rfl) 0 2 0 rfl rfl rfl (by rfl) ?_
 intro τ d
 simp only [List.drop_zero, List.drop_succ_cons, List.take_succ_cons, List.take_zero]
 go_wp2
 simp only [contAt]
 refine hJ.re' () _ _ τ d ?_
 refine hJ.ctl (s := ()) (fun w => stepG_region_end) ?_
 refine hJ.ctl (s := ()) (fun w => stepG_cond (t := false) rfl) ?_
 simp only [Bool.false_eq_true, if_false]
 refine hJ.ctl (s := ()) (fun w => stepG_skip) ?_
 have := @run_whole Kc J hJ n bT bS bB N cap capB i st back pass sr br ov w
 refine this (T := _) ?_ hR hE hKn hnext
 rfl
theorem run_raised {Kc : Addr → Option Value} {J : Goroutine → World → Prop} (hJ : JX Try.prog Kc J) {n bT bS bB N cap capB i st back pass : Nat} {sr br : Array Value} {ov : Bool} {w : World} {tv r x : Value} {ok : Bool}
 (hassert : ∀ w, (Instr.typeAssert r 20 109 true).run Try.prog w = .ok (.tuple #[.agg #[x], .bool ok]) w) (hcase : (ok = false ∧ x = .nilIface) ∨ (ok = true ∧ x = .iface 91 (.pointer (some ⟨bT, 0, none⟩))))
 (hR : RunW n bT i false w) (hE : EndIn Kc n bT bS bB N cap capB i st back pass sr br ov w)
 (hnext : ∀ T c w', Leaving c → T[41]? = some (.chan (some back)) → T[42]? = some (.agg #[]) → EndOut bB st bT pass i br (if ok = true then none else some true) w w' → J (G (sendAt T) [c, bot]) w') :
 J (G ((runCall n bT bS N cap i st tv [.inRegion ops4 [9], .code code5]).raise [{ v := r, recovered := false }]) [bot]) w := by
 simp only [runCall]
 rw [Frame.raise_at]
 exact run1_all hJ (whole := false) rfl rfl (.inr rfl) hassert hcase hR hE hnext
end Go.Proofs
set_option maxHeartbeats 1000000
namespace Go.Car
open Go Go.Conc Go.RowKit
section
variable {P : Program}
theorem hold_keep {Fin : Machine → Trace → Prop} {Kc Kc' : Addr → Option Value} {Inb : Nat → Option Seat} {n : Nat} {g : Goroutine} {w : World} (hI : ∀ i, i ≠ 0 → Inb i = none) (hK : KK Kc' w)
 (h : HoldR P Fin Kc' (fun _ => none) 0 n g w) : HoldR P Fin Kc Inb 0 n g w := by
 intro τ d Mem B gs sl T q hM hsz hg C
 obtain ⟨hL, hP⟩ := ring_end C hM hI
 exact h τ d (fun g => g = 0) B gs sl T q rfl hsz hg (ring_begin (Still := StillK Kc') (fun l (hl : StillK Kc' l) => by obtain ⟨a, v, rfl, _⟩ := hl; rfl) hL hP hK)
theorem KK_none (w : World) : KK (fun _ => none) w := fun a v h => by cases h
structure Mc where
 n : Nat
 inb : Nat → Option Seat
def JMain (P : Program) (Fin : Machine → Trace → Prop) (Kc : Addr → Option Value) (s : Mc) (g : Goroutine) (w : World) : Prop := HoldR P Fin Kc s.inb 0 s.n g w
def J0 (P : Program) (Fin : Machine → Trace → Prop) (n : Nat) (g : Goroutine) (w : World) : Prop := HoldR P Fin (fun _ => none) (fun _ => none) 0 n g w
theorem j0_JS {Fin : Machine → Trace → Prop} (hFin : Back P Fin) : JS P true (fun _ => none) (J0 P Fin) :=
 ⟨fun s g w τ d h => (holdR_JS hFin _ (fun _ => none) 0 s).re' () g w τ d h, fun s g w hr hs => (holdR_JS hFin _ (fun _ => none) 0 s).step () g w hr hs⟩
theorem j0_calm {Fin : Machine → Trace → Prop} (hFin : Back P Fin) : CalmJ P true (J0 P Fin) :=
 fun s fr cs w hs => holdR_calm hFin (Inb := fun _ => none) (fun _ => rfl) 0 s () fr cs w hs
theorem j0_of_main {Fin : Machine → Trace → Prop} {Kc : Addr → Option Value} {n : Nat} {g : Goroutine} {w : World} (hK : KK Kc w) (h : JMain P Fin Kc ⟨n, fun _ => none⟩ g w) : J0 P Fin n g w := hold_keep (fun _ _ => rfl) hK h
theorem main_of_j0 {Fin : Machine → Trace → Prop} {Kc : Addr → Option Value} {s : Mc} {g : Goroutine} {w : World} (hI : ∀ i, i ≠ 0 → s.inb i = none) (h : J0 P Fin s.n g w) : JMain P Fin Kc s g w := hold_keep hI (KK_none w) h
end
end Go.Car
