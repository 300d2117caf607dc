/- YtdncabjenacolaaTAlone9: part 10 of the proof (the texts behind it, in order). -/
import Derived.Test.YtdncabjenacolaaP09
set_option linter.unusedSimpArgs false
set_option linter.unusedVariables false
set_option linter.unusedSectionVars false
set_option linter.unnecessarySimpa false
set_option maxHeartbeats 1000000
set_option maxRecDepth 100000
namespace Go.Proofs
open Go Go.Conc Go.RowKit Go.Car
def aL : List FuncId := [10, 11, 12, 13, 15, 16, 17, 18, 19, 22, 23, 24, 25, 26, 27, 28, 29, 30, 31, 32, 33, 39, 42, 43, 44, 45, 49, 50, 52, 53, 54, 55].append [51, 48, 56, 57, 58]
def aM (f : FuncId) : Bool := aL.contains f
theorem okf0 : okFn Try.prog aM 10 := .text _ _ Try.func10 rfl (by kernel_rfl) (by kernel_rfl)
theorem okf1 : okFn Try.prog aM 11 := .text _ _ Try.func11 rfl (by kernel_rfl) (by kernel_rfl)
theorem okf2 : okFn Try.prog aM 12 := .text _ _ Try.func12 rfl (by kernel_rfl) (by kernel_rfl)
theorem okf3 : okFn Try.prog aM 13 := .text _ _ Try.func13 rfl (by kernel_rfl) (by kernel_rfl)
theorem okf4 : okFn Try.prog aM 15 := .text _ _ Try.func15 rfl (by kernel_rfl) (by kernel_rfl)
theorem okf5 : okFn Try.prog aM 16 := .text _ _ Try.func16 rfl (by kernel_rfl) (by kernel_rfl)
theorem okf6 : okFn Try.prog aM 17 := .text _ _ Try.func17 rfl (by kernel_rfl) (by kernel_rfl)
theorem okf7 : okFn Try.prog aM 18 := .text _ _ Try.func18 rfl (by kernel_rfl) (by kernel_rfl)
theorem okf8 : okFn Try.prog aM 19 := .text _ _ Try.func19 rfl (by kernel_rfl) (by kernel_rfl)
theorem okf9 : okFn Try.prog aM 22 := .text _ _ Try.func22 rfl (by kernel_rfl) (by kernel_rfl)
theorem okf10 : okFn Try.prog aM 23 := .text _ _ Try.func23 rfl (by kernel_rfl) (by kernel_rfl)
theorem okf11 : okFn Try.prog aM 24 := .text _ _ Try.func24 rfl (by kernel_rfl) (by kernel_rfl)
theorem okf12 : okFn Try.prog aM 25 := .text _ _ Try.func25 rfl (by kernel_rfl) (by kernel_rfl)
theorem okf13 : okFn Try.prog aM 26 := .text _ _ Try.func26 rfl (by kernel_rfl) (by kernel_rfl)
theorem okf14 : okFn Try.prog aM 27 := .text _ _ Try.func27 rfl (by kernel_rfl) (by kernel_rfl)
theorem okf15 : okFn Try.prog aM 28 := .text _ _ Try.func28 rfl (by kernel_rfl) (by kernel_rfl)
theorem okf16 : okFn Try.prog aM 29 := .text _ _ Try.func29 rfl (by kernel_rfl) (by kernel_rfl)
theorem okf17 : okFn Try.prog aM 30 := .text _ _ Try.func30 rfl (by kernel_rfl) (by kernel_rfl)
theorem okf18 : okFn Try.prog aM 31 := .text _ _ Try.func31 rfl (by kernel_rfl) (by kernel_rfl)
theorem okf19 : okFn Try.prog aM 32 := .text _ _ Try.func32 rfl (by kernel_rfl) (by kernel_rfl)
theorem okf20 : okFn Try.prog aM 33 := .text _ _ Try.func33 rfl (by kernel_rfl) (by kernel_rfl)
theorem okf21 : okFn Try.prog aM 39 := .text _ _ Try.func39 rfl (by kernel_rfl) (by kernel_rfl)
theorem okf22 : okFn Try.prog aM 42 := .text _ _ Try.func42 rfl (by kernel_rfl) (by kernel_rfl)
theorem okf23 : okFn Try.prog aM 43 := .text _ _ Try.func43 rfl (by kernel_rfl) (by kernel_rfl)
theorem okf24 : okFn Try.prog aM 44 := .text _ _ Try.func44 rfl (by kernel_rfl) (by kernel_rfl)
theorem okf25 : okFn Try.prog aM 45 := .text _ _ Try.func45 rfl (by kernel_rfl) (by kernel_rfl)
theorem okf26 : okFn Try.prog aM 49 := .text _ _ Try.func49 rfl (by kernel_rfl) (by kernel_rfl)
theorem okf27 : okFn Try.prog aM 50 := .text _ _ Try.func50 rfl (by kernel_rfl) (by kernel_rfl)
theorem okf28 : okFn Try.prog aM 52 := .text _ _ Try.func52 rfl (by kernel_rfl) (by kernel_rfl)
theorem okf29 : okFn Try.prog aM 53 := .text _ _ Try.func53 rfl (by kernel_rfl) (by kernel_rfl)
theorem okf30 : okFn Try.prog aM 54 := .text _ _ Try.func54 rfl (by kernel_rfl) (by kernel_rfl)
theorem okf31 : okFn Try.prog aM 55 := .text _ _ Try.func55 rfl (by kernel_rfl) (by kernel_rfl)
theorem okr0 : okFn Try.prog aM 51 := .row _ (Extern.Atomic.loadT (.int .i64)) Try.func51 rfl (by kernel_rfl) (by kernel_rfl) (by kernel_rfl) (fun _ => tame_loadT _ _)
theorem okr1 : okFn Try.prog aM 48 := .row _ (Extern.Atomic.storeT) Try.func48 rfl (by kernel_rfl) (by kernel_rfl) (by kernel_rfl) (fun _ => tame_storeT _)
theorem okr2 : okFn Try.prog aM 56 := .row _ (Extern.Atomic.update (Op.intArith .add) .i64 true) Try.func56 rfl (by kernel_rfl) (by kernel_rfl) (by kernel_rfl) (fun _ => tame_update _ _ _)
theorem okr3 : okFn Try.prog aM 57 := .row _ (Extern.Atomic.swapT (.int .i64)) Try.func57 rfl (by kernel_rfl) (by kernel_rfl) (by kernel_rfl) (fun _ => tame_swapT _ _)
theorem okr4 : okFn Try.prog aM 58 := .row _ (Extern.Atomic.casT (.int .i64)) Try.func58 rfl (by kernel_rfl) (by kernel_rfl) (by kernel_rfl) (fun _ => tame_casT _ _)
theorem noReady : (Try.prog.funcs.toList.all fun f => match f.body with | some c => (readies c).isEmpty | none => true) = true := by kernel_rfl
theorem stepOf_none (g : Nat) : Try.prog.stepOf g = none := by
 unfold Program.stepOf
 rw [Array.findIdx?_eq_none_iff]
 intro f hf
 have h := noReady
 rw [List.all_eq_true] at h
 have := h f (by simpa using hf)
 cases hb : f.body with
 | none => rfl
 | some c => rw [hb] at this; simp only [List.isEmpty_iff] at this; simp [this]
theorem plainM : Plain Try.prog aM := by
 refine ⟨fun f hf => ?_, by kernel_rfl, stepOf_none⟩
 have hf' : f ∈ aL := by simpa [aM] using hf
 simp only [aL, List.append_eq, List.cons_append, List.nil_append, List.mem_cons, List.not_mem_nil, or_false] at hf'
 rcases hf' with rfl | rfl | rfl | rfl | rfl | rfl | rfl | rfl | rfl | rfl | rfl | rfl | rfl | rfl | rfl | rfl | rfl | rfl | rfl | rfl | rfl | rfl | rfl | rfl | rfl | rfl | rfl | rfl | rfl | rfl | rfl | rfl | rfl | rfl | rfl | rfl | rfl
 · exact okf0
 · exact okf1
 · exact okf2
 · exact okf3
 · exact okf4
 · exact okf5
 · exact okf6
 · exact okf7
 · exact okf8
 · exact okf9
 · exact okf10
 · exact okf11
 · exact okf12
 · exact okf13
 · exact okf14
 · exact okf15
 · exact okf16
 · exact okf17
 · exact okf18
 · exact okf19
 · exact okf20
 · exact okf21
 · exact okf22
 · exact okf23
 · exact okf24
 · exact okf25
 · exact okf26
 · exact okf27
 · exact okf28
 · exact okf29
 · exact okf30
 · exact okf31
 · exact okr0
 · exact okr1
 · exact okr2
 · exact okr3
 · exact okr4
theorem rowsM : RowsS Try.prog aM := by
 intro f hf fn e h1 h2 h3 args
 have hf' : f ∈ aL := by simpa [aM] using hf
 simp only [aL, List.append_eq, List.cons_append, List.nil_append, List.mem_cons, List.not_mem_nil, or_false] at hf'
 rcases hf' with rfl | rfl | rfl | rfl | rfl | rfl | rfl | rfl | rfl | rfl | rfl | rfl | rfl | rfl | rfl | rfl | rfl | rfl | rfl | rfl | rfl | rfl | rfl | rfl | rfl | rfl | rfl | rfl | rfl | rfl | rfl | rfl | rfl | rfl | rfl | rfl | rfl
 · rw [Try.func10] at h1; cases h1; cases h2
 · rw [Try.func11] at h1; cases h1; cases h2
 · rw [Try.func12] at h1; cases h1; cases h2
 · rw [Try.func13] at h1; cases h1; cases h2
 · rw [Try.func15] at h1; cases h1; cases h2
 · rw [Try.func16] at h1; cases h1; cases h2
 · rw [Try.func17] at h1; cases h1; cases h2
 · rw [Try.func18] at h1; cases h1; cases h2
 · rw [Try.func19] at h1; cases h1; cases h2
 · rw [Try.func22] at h1; cases h1; cases h2
 · rw [Try.func23] at h1; cases h1; cases h2
 · rw [Try.func24] at h1; cases h1; cases h2
 · rw [Try.func25] at h1; cases h1; cases h2
 · rw [Try.func26] at h1; cases h1; cases h2
 · rw [Try.func27] at h1; cases h1; cases h2
 · rw [Try.func28] at h1; cases h1; cases h2
 · rw [Try.func29] at h1; cases h1; cases h2
 · rw [Try.func30] at h1; cases h1; cases h2
 · rw [Try.func31] at h1; cases h1; cases h2
 · rw [Try.func32] at h1; cases h1; cases h2
 · rw [Try.func33] at h1; cases h1; cases h2
 · rw [Try.func39] at h1; cases h1; cases h2
 · rw [Try.func42] at h1; cases h1; cases h2
 · rw [Try.func43] at h1; cases h1; cases h2
 · rw [Try.func44] at h1; cases h1; cases h2
 · rw [Try.func45] at h1; cases h1; cases h2
 · rw [Try.func49] at h1; cases h1; cases h2
 · rw [Try.func50] at h1; cases h1; cases h2
 · rw [Try.func52] at h1; cases h1; cases h2
 · rw [Try.func53] at h1; cases h1; cases h2
 · rw [Try.func54] at h1; cases h1; cases h2
 · rw [Try.func55] at h1; cases h1; cases h2
 · rw [Try.func51] at h1; cases h1
   have h4 : Extern.find Try.f51 = some (Extern.Atomic.loadT (.int .i64)) := by kernel_rfl
   rw [h4] at h3; cases h3; exact steady_loadT _ _
 · rw [Try.func48] at h1; cases h1
   have h4 : Extern.find Try.f48 = some (Extern.Atomic.storeT) := by kernel_rfl
   rw [h4] at h3; cases h3; exact steady_storeT _
 · rw [Try.func56] at h1; cases h1
   have h4 : Extern.find Try.f56 = some (Extern.Atomic.update (Op.intArith .add) .i64 true) := by kernel_rfl
   rw [h4] at h3; cases h3; exact steady_update _ _ _
 · rw [Try.func57] at h1; cases h1
   have h4 : Extern.find Try.f57 = some (Extern.Atomic.swapT (.int .i64)) := by kernel_rfl
   rw [h4] at h3; cases h3; exact steady_swapT _ _
 · rw [Try.func58] at h1; cases h1
   have h4 : Extern.find Try.f58 = some (Extern.Atomic.casT (.int .i64)) := by kernel_rfl
   rw [h4] at h3; cases h3; exact steady_casT _ _
def MM.put (m : MM) (i : Nat) (ws : List Int) (x : Mch) (v : Value) (c : Option Nat) : MM :=
 { m with ws := ws, th := fun j => if j = i then x else m.th j, tv := fun j => if j = i then v else m.tv j, cb := fun j => if j = i then c else m.cb j }
theorem heap_type {w : World} {b : Nat} {c c' : Array Value} {T T' : TypeId} {f f' : Nat × Nat} (h : w.heap[b]? = some (.cells c T f)) (h' : w.heap[b]? = some (.cells c' T' f')) : T = T' := by
 rw [h] at h'; simp only [al_oi, Obj.cells.injEq] at h'; exact h'.2.1
theorem heap_ne {w : World} {b b' : Nat} {c c' : Array Value} {T T' : TypeId} {f f' : Nat × Nat} (h : w.heap[b]? = some (.cells c T f)) (h' : w.heap[b']? = some (.cells c' T' f')) (hne : T ≠ T') : b ≠ b' := fun e => by subst e; exact hne (heap_type h h')
theorem MS.Body.step {S : MS} {m : MM} {w w' : World} (h : S.Body m w) {i : Nat} (hi : i < S.N) {ws' : List Int} {x : Mch} {v : Value} {c : Option Nat} (hlen : ws'.length = S.W) (hw : w'.heap[S.bw]? = some (.cells (ws'.map (Value.int .i64)).toArray 114)) (hm : w'.heap[S.mb i]? = some (.cells (machC S x v) 118))
 (ht : w'.ownsRow S.base 38 3 v x.told.length (toldL x.told)) (hc : ∀ b, c = some b → w.heap.size ≤ b ∧ ∃ cd, atC (S.prog i) x = some cd ∧ isStep S.W cd = true ∧ w'.heap[b]? = some (.cells (cdL cd).toArray 74))
 (hold : ∀ b, b < w.heap.size → b ≠ S.bw → b ≠ S.mb i → (m.tv i).ownBlock ≠ some b → w'.heap[b]? = w.heap[b]?) (hsz : w.heap.size ≤ w'.heap.size) (htv : ∀ g, v.ownBlock = some g → (m.tv i).ownBlock = some g ∨ w.heap.size ≤ g) :
 S.Body (m.put i ws' x v c) w' ∧ Grow S.thr m w (m.put i ws' x v c) w' := by
 have hbm : ∀ j, j < S.N → S.mb j ≠ S.bw := fun j hj => heap_ne (h.mach j hj) h.words (by decide)
 have htb : ∀ j g, j < S.N → (m.tv j).ownBlock = some g → g ≠ S.bw ∧ (∀ k, k < S.N → g ≠ S.mb k) ∧ g < w.heap.size := fun j g hj hg => by
  obtain ⟨cc, hcc⟩ := h.block hj hg
  exact ⟨heap_ne hcc h.words (by decide), fun k hk => heap_ne hcc (h.mach k hk) (by decide), zq4 hcc⟩
 have hcb : ∀ j g, j < S.N → m.cb j = some g → g ≠ S.bw ∧ (∀ k, k < S.N → g ≠ S.mb k) ∧ (∀ k g', k < S.N → (m.tv k).ownBlock = some g' → g' ≠ g) ∧ g < w.heap.size := fun j g hj hg => by
  obtain ⟨cd, _, _, hcc⟩ := h.code j g hj hg
  refine ⟨heap_ne hcc h.words (by decide), fun k hk => heap_ne hcc (h.mach k hk) (by decide), fun k g' hk hg' => ?_, zq4 hcc⟩
  obtain ⟨c2, hc2⟩ := h.block hk hg'
  exact heap_ne hc2 hcc (by decide)
 have hro : ∀ b o, S.ro b = some o → b < w.heap.size ∧ b ≠ S.bw ∧ (∀ k, k < S.N → b ≠ S.mb k) ∧ ∀ k, k < S.N → (m.tv k).ownBlock ≠ some b := fun b o ho => by
  refine ⟨zq4 (h.ro b o ho), fun e => ?_, fun k hk e => ?_, fun k hk e => ?_⟩
  · rw [e, h.rofree.1] at ho; cases ho
  · rw [e, h.rofree.2.1 k hk] at ho; cases ho
  · rw [h.rofree.2.2.1 k b hk e] at ho; cases ho
 have tvi : (m.put i ws' x v c).tv i = v := by simp [MM.put]
 have tvj : ∀ j, j ≠ i → (m.put i ws' x v c).tv j = m.tv j := fun j hj => by simp [MM.put, hj]
 have thi : (m.put i ws' x v c).th i = x := by simp [MM.put]
 have thj : ∀ j, j ≠ i → (m.put i ws' x v c).th j = m.th j := fun j hj => by simp [MM.put, hj]
 have cbi : (m.put i ws' x v c).cb i = c := by simp [MM.put]
 have cbj : ∀ j, j ≠ i → (m.put i ws' x v c).cb j = m.cb j := fun j hj => by simp [MM.put, hj]
 refine ⟨⟨hlen, hw, fun j hj => ?_, fun j hj => ?_, fun j b hj hb => ?_, fun b o ho => ?_, h.inj, ⟨h.rofree.1, h.rofree.2.1, fun j g hj hg => ?_, fun j g hj hg => ?_⟩, fun j k g hj hk hjk hg => ?_, h.lo, fun j k g hj hk hjk hg => ?_⟩, ⟨hsz, fun b hb hf => ?_, fun b hb => ?_⟩⟩
 · by_cases e : j = i
   · subst e; rw [thi, tvi]; exact hm
   · rw [thj j e, tvj j e, hold _ (zq4 (h.mach j hj)) (hbm j hj) (fun e2 => e (h.inj j i hj hi e2)) (fun e2 => (htb i _ hi e2).2.1 j hj rfl)]
     exact h.mach j hj
 · by_cases e : j = i
   · subst e; rw [thi, tvi]; exact ht
   · rw [thj j e, tvj j e]
     refine ownsRow_of (h.told j hj) fun g hg => ?_
     obtain ⟨h1, h2, h3⟩ := htb j g hj hg
     exact hold g h3 h1 (h2 i hi) (fun e2 => h.sep j i g hj hi e hg e2)
 · by_cases e : j = i
   · subst e; rw [cbi] at hb; rw [thi]; exact (hc b hb).2
   · rw [cbj j e] at hb; rw [thj j e]
     obtain ⟨cd, h1, h0, h2⟩ := h.code j b hj hb
     obtain ⟨k1, k2, k3, k4⟩ := hcb j b hj hb
     exact ⟨cd, h1, h0, (hold b k4 k1 (k2 i hi) (fun e2 => k3 i b hi e2 rfl)).trans h2⟩
 · obtain ⟨k1, k2, k3, k4⟩ := hro b o ho
   exact (hold b k1 k2 (k3 i hi) (k4 i hi)).trans (h.ro b o ho)
 · by_cases e : j = i
   · subst e; rw [tvi] at hg
     rcases htv g hg with h1 | h1
     · exact h.rofree.2.2.1 j g hj h1
     · cases ho : S.ro g with
       | none => rfl
       | some o => have := (hro g o ho).1; omega
   · rw [tvj j e] at hg; exact h.rofree.2.2.1 j g hj hg
 · by_cases e : j = i
   · subst e; rw [cbi] at hg
     have h1 := (hc g hg).1
     cases ho : S.ro g with
     | none => rfl
     | some o => have := (hro g o ho).1; omega
   · rw [cbj j e] at hg; exact h.rofree.2.2.2 j g hj hg
 · by_cases e : j = i
   · subst e; rw [tvi] at hg; rw [tvj k (Ne.symm hjk)]
     intro hk2
     rcases htv g hg with h1 | h1
     · exact h.sep j k g hj hk hjk h1 hk2
     · have := (htb k g hk hk2).2.2; omega
   · rw [tvj j e] at hg
     by_cases e2 : k = i
     · subst e2; rw [tvi]
       intro hk2
       rcases htv g hk2 with h1 | h1
       · exact h.sep j k g hj hk hjk hg h1
       · have := (htb j g hj hg).2.2; omega
     · rw [tvj k e2]; exact h.sep j k g hj hk hjk hg
 · by_cases e : j = i
   · subst e; rw [cbi] at hg; rw [cbj k (Ne.symm hjk)]
     intro hk2
     have := (hc g hg).1
     have := (hcb k g hk hk2).2.2.2; omega
   · rw [cbj j e] at hg
     by_cases e2 : k = i
     · subst e2; rw [cbi]
       intro hk2
       have := (hc g hk2).1
       have := (hcb j g hj hg).2.2.2; omega
     · rw [cbj k e2]; exact h.csep j k g hj hk hjk hg
 · refine hold b hb (fun e => hf (.inl e)) (fun e => hf (.inr (.inl ⟨i, hi, .inl e⟩))) (fun e => hf (.inr (.inl ⟨i, hi, .inr (.inl e)⟩)))
 · rcases hb with e | ⟨j, hj, e | e | e⟩ | e
   · exact .inl (.inl e)
   · exact .inl (.inr (.inl ⟨j, hj, .inl e⟩))
   · by_cases e2 : j = i
     · subst e2; rw [tvi] at e
       rcases htv b e with h1 | h1
       · exact .inl (.inr (.inl ⟨j, hj, .inr (.inl h1)⟩))
       · exact .inr h1
     · rw [tvj j e2] at e; exact .inl (.inr (.inl ⟨j, hj, .inr (.inl e)⟩))
   · by_cases e2 : j = i
     · subst e2; rw [cbi] at e; exact .inr (hc b e).1
     · rw [cbj j e2] at e; exact .inl (.inr (.inl ⟨j, hj, .inr (.inr e)⟩))
   · exact .inl (.inr (.inr e))
theorem MS.Body.machB {S : MS} {m : MM} {w : World} (h : S.Body m w) {i : Nat} (hi : i < S.N) : MachB (S.mb i) S.bw S.W (m.tv i) m.ws (m.th i) w :=
 ⟨heap_ne (h.mach i hi) h.words (by decide), h.len, h.mach i hi, h.words⟩
section
variable {S : MS} {m : MM} {w : World} {Kc : Addr → Option Value} {X : Snap} {J : Goroutine → World → Prop} {i : Nat}
theorem cut_block {X : Snap} {w wc w' wc' : World} (h : Cut X w wc) (h' : Cut X w' wc') {b : Nat} (hb : wc'.heap[b]? = wc.heap[b]?) : w'.heap[b]? = w.heap[b]? := by
 cases hx : X b with
 | none => rw [← h.no b hx, ← h'.no b hx]; exact hb
 | some p => obtain ⟨c, e⟩ := p; rw [(h.is b c e hx).1, (h'.is b c e hx).1]
theorem step_env (hE : Env Try.prog S.thr Kc X J m w) (hB : S.Body m w) (hi : i < S.N) {c : Cd} (hc : isStep S.W c = true) {cl : Frame} {cs : List Frame}
 (h : ∀ w', S.Body (m.put i (stepC c m.ws (m.th i)).1 (stepC c m.ws (m.th i)).2 (m.tv i) none) w' → Grow S.thr m w (m.put i (stepC c m.ws (m.th i)).1 (stepC c m.ws (m.th i)).2 (m.tv i) none) w' → J (G (cl.finish (.tuple #[])) cs) w') :
 J (G (Frame.enter Try.prog 49 #[.pointer (some ⟨S.mb i, 0, none⟩), cdV c] .normal) (cl :: cs)) w := by
 have hX : ∀ b, S.foot m b → X b = none := fun b hb => by
  cases hx : X b with
  | none => rfl
  | some p => exact absurd hb (hE.free b p hx)
 have hfm : S.foot m (S.mb i) := .inr (.inl ⟨i, hi, .inl rfl⟩)
 have hfw : S.foot m S.bw := .inl rfl
 refine callsJ_cut (J := fun (_ : Unit) => J) (s := ()) hE.js hE.calm plainM rowsM Try.func49 rfl (by kernel_rfl) (R := fun v wc' => ∃ wc, (∃ τ d, Cut X (re w τ d) wc) ∧ StepPost (S.mb i) S.bw S.W (m.tv i) m.ws (m.th i) c wc (.returned v) wc') ?_ hE.rows ?_
  (Post := fun _ e w' => e = .returned (.tuple #[]) ∧ S.Body (m.put i (stepC c m.ws (m.th i)).1 (stepC c m.ws (m.th i)).2 (m.tv i) none) w' ∧ Grow S.thr m w (m.put i (stepC c m.ws (m.th i)).1 (stepC c m.ws (m.th i)).2 (m.tv i) none) w') ?_ cl cs ?_ ?_
 · rintro v wc' τ d ⟨wc, h1, h2, h3, h4⟩
   exact ⟨wc, h1, h2, h3.same rfl rfl, ⟨h4.size, h4.old⟩⟩
 · rintro wc ⟨τ, d, hcut⟩
   have hb : MachB (S.mb i) S.bw S.W (m.tv i) m.ws (m.th i) wc := (hB.machB hi).same (hcut.no _ (hX _ hfm)) (hcut.no _ (hX _ hfw))
   refine Calls.mono (step_lone _ _ _ _ _ _ _ _ hb hc) ?_
   rintro e w' h2
   have he := h2.1
   subst he
   exact ⟨wc, ⟨τ, d, hcut⟩, h2⟩
 · rintro v wc' w' ⟨wc, ⟨τ, d, hcut⟩, h1, h2, h3⟩ hcut' hch
   cases h1
   have hsize : w.heap.size ≤ w'.heap.size := by have := h3.size; have e1 := hcut.size; have e2 := hcut'.size; have e3 : (re w τ d).heap.size = w.heap.size := rfl; omega
   have hsw : w'.heap[S.bw]? = _ := (hcut'.no _ (hX _ hfw)).symm.trans h2.hw
   have hsm : w'.heap[S.mb i]? = _ := (hcut'.no _ (hX _ hfm)).symm.trans h2.hm
   have hold : ∀ b, b < w.heap.size → b ≠ S.mb i → b ≠ S.bw → w'.heap[b]? = w.heap[b]? := fun b hb h1 h2 => by
    have hbc : b < wc.heap.size := by rw [hcut.size]; exact hb
    exact cut_block hcut hcut' (h3.old b hbc h1 h2)
   refine ⟨rfl, hB.step hi h2.len hsw hsm ?_ (fun b hb => by cases hb) (fun b hb h1 h2 _ => hold b hb h2 h1) hsize (fun g hg => .inl hg)⟩
   rw [stepC_told]
   refine ownsRow_of (hB.told i hi) fun g hg => ?_
   obtain ⟨cc, hcc⟩ := hB.block hi hg
   exact hold g (zq4 hcc) (heap_ne hcc (hB.mach i hi) (by decide)) (heap_ne hcc hB.words (by decide))
 · rintro _ v w' ⟨h1, h2, h3⟩
   cases h1
   exact h w' h2 h3
 · rintro _ ch w' ⟨h1, _⟩
   cases h1
theorem own_env (hE : Env Try.prog S.thr Kc X J m w) (hB : S.Body m w) (hi : i < S.N) (hlen : (m.th i).told.length < 8589934592) {c : Cd} {cl : Frame} {cs : List Frame}
 (h : ∀ v' w', S.Body (m.put i m.ws (ownC c (m.th i)) v' none) w' → Grow S.thr m w (m.put i m.ws (ownC c (m.th i)) v' none) w' → J (G (cl.finish (.tuple #[])) cs) w') :
 J (G (Frame.enter Try.prog 50 #[.pointer (some ⟨S.mb i, 0, none⟩), cdV c] .normal) (cl :: cs)) w := by
 have hX : ∀ b, S.foot m b → X b = none := fun b hb => by
  cases hx : X b with
  | none => rfl
  | some p => exact absurd hb (hE.free b p hx)
 have hfm : S.foot m (S.mb i) := .inr (.inl ⟨i, hi, .inl rfl⟩)
 have hfw : S.foot m S.bw := .inl rfl
 have hft : ∀ g, (m.tv i).ownBlock = some g → S.foot m g := fun g hg => .inr (.inl ⟨i, hi, .inr (.inl hg)⟩)
 have hbase : S.base ≤ w.heap.size := Nat.le_trans hB.lo (Nat.le_of_lt (zq4 hB.words))
 refine callsJ_cut (J := fun (_ : Unit) => J) (s := ()) hE.js hE.calm plainM rowsM Try.func50 rfl (by kernel_rfl) (R := fun v wc' => ∃ wc, (∃ τ d, Cut X (re w τ d) wc) ∧ OwnPost (S.mb i) S.bw S.W S.base (m.tv i) m.ws (m.th i) c wc (.returned v) wc') ?_ hE.rows ?_
  (Post := fun _ e w' => e = .returned (.tuple #[]) ∧ ∃ v', S.Body (m.put i m.ws (ownC c (m.th i)) v' none) w' ∧ Grow S.thr m w (m.put i m.ws (ownC c (m.th i)) v' none) w') ?_ cl cs ?_ ?_
 · rintro v wc' τ d ⟨wc, h1, h2, tv', h3, h4, h5, h6⟩
   exact ⟨wc, h1, h2, tv', h3.same rfl rfl, ownsRow_of h4 (fun _ _ => rfl), ⟨h5.size, h5.old⟩, h6⟩
 · rintro wc ⟨τ, d, hcut⟩
   have hb : MachB (S.mb i) S.bw S.W (m.tv i) m.ws (m.th i) wc := (hB.machB hi).same (hcut.no _ (hX _ hfm)) (hcut.no _ (hX _ hfw))
   refine Calls.mono (own_lone _ _ _ S.base _ _ _ c _ hb (ownsRow_of (hB.told i hi) fun g hg => hcut.no _ (hX _ (hft g hg))) hlen (by rw [hcut.size]; exact hbase)) ?_
   rintro e w' h2
   have he := h2.1
   subst he
   exact ⟨wc, ⟨τ, d, hcut⟩, h2⟩
 · rintro v wc' w' ⟨wc, ⟨τ, d, hcut⟩, h1, tv', h2, h3, h4, h5⟩ hcut' hch
   cases h1
   have e1 : wc.heap.size = w.heap.size := hcut.size
   have e2 := hcut'.size
   have hsize : w.heap.size ≤ w'.heap.size := by have := h4.size; omega
   have hsw : w'.heap[S.bw]? = _ := (hcut'.no _ (hX _ hfw)).symm.trans h2.hw
   have hsm : w'.heap[S.mb i]? = _ := (hcut'.no _ (hX _ hfm)).symm.trans h2.hm
   have hold : ∀ b, b < w.heap.size → b ≠ S.mb i → (m.tv i).ownBlock ≠ some b → w'.heap[b]? = w.heap[b]? := fun b hb h1 h2 => by
    have hbc : b < wc.heap.size := by rw [hcut.size]; exact hb
    exact cut_block hcut hcut' (h4.old b hbc h1 h2)
   have hlt : ∀ b p, X b = some p → b < w.heap.size := fun b p hx => by obtain ⟨cc, ee⟩ := p; exact zq4 (hE.rows b cc ee hx)
   refine ⟨rfl, tv', hB.step hi h2.len hsw hsm ?_ (fun b hb => by cases hb) (fun b hb _ h1 h2 => hold b hb h1 h2) hsize (fun g hg => ?_)⟩
   · refine ownsRow_of h3 fun g hg => ?_
     have hXg : X g = none := by
      cases hx : X g with
      | none => rfl
      | some p =>
       exfalso
       have hg2 := hlt g p hx
       rcases h5 with h5 | ⟨g', cap, h5, h6 | h6, _⟩
       · rw [h5] at hg; exact hE.free g p hx (hft g hg)
       · rw [h5] at hg; simp only [Value.ownBlock, al_oi] at hg; subst hg; exact hE.free g' p hx (hft g' h6)
       · rw [h5] at hg; simp only [Value.ownBlock, al_oi] at hg; subst hg; omega
     exact (hcut'.no _ hXg).symm
   · rcases h5 with h5 | ⟨g', cap, h5, h6 | h6, _⟩
     · rw [h5] at hg; exact .inl hg
     · rw [h5] at hg; simp only [Value.ownBlock, al_oi] at hg; subst hg; exact .inl h6
     · rw [h5] at hg; simp only [Value.ownBlock, al_oi] at hg; subst hg; right; omega
 · rintro _ v w' ⟨h1, v', h2, h3⟩
   cases h1
   exact h v' w' h2 h3
 · rintro _ ch w' ⟨h1, _⟩
   cases h1
end
noncomputable def rL : Code := match Try.f41.body.getD .skip with | .seq _ (.block _ (.loop c)) => c | _ => .skip
noncomputable def rB : Code := match rL with | .seq _ (.block _ c) => c | _ => .skip
noncomputable def rS : Code := match headC (tailN 1 rB) with | .seq _ (.cond _ c _) => c | _ => .skip
noncomputable def rR : Code := tailN 2 rB
noncomputable def m1c : Code := headC (headC rL)
noncomputable def m2c : Code := headC rB
noncomputable def m3c : Code := headC (headC (tailN 1 rB))
noncomputable def m4c : Code := headC (headC rS)
noncomputable def m5c : Code := headC (tailN 1 rS)
noncomputable def m6c : Code := headC (headC (tailN 2 rS))
noncomputable def m7c : Code := match headC (tailN 2 rS) with | .seq _ (.cond _ c _) => c | _ => .skip
noncomputable def m8c : Code := headC (tailN 3 rS)
noncomputable def m9c : Code := headC (tailN 4 rS)
noncomputable def m10c : Code := headC (headC rR)
noncomputable def m11c : Code := headC (tailN 1 rR)
noncomputable def m12c : Code := tailN 2 rR
theorem rL_eq : rL = .seq (.seq m1c (.cond (.tmp 23) .skip (.exit 0))) (.block 1 rB) := by kernel_rfl
theorem rB_eq : rB = .seq m2c (.seq (.seq m3c (.cond (.tmp 53) rS .skip)) rR) := by kernel_rfl
theorem rS_eq : rS = .seq (.seq m4c (.cond (.tmp 55) .ret .skip)) (.seq m5c (.seq (.seq m6c (.cond (.tmp 59) m7c .skip)) (.seq m8c (.seq m9c (.exit 1))))) := by kernel_rfl
theorem rR_eq : rR = .seq (.seq m10c (.cond (.tmp 66) .ret .skip)) (.seq m11c m12c) := by kernel_rfl
structure FrR (mb : Nat) (pv iv : Value) (most own : Int) (T : Array Value) : Prop where
 size : T.size = 72
 t0 : T[0]? = some (.pointer (some ⟨mb, 0, none⟩))
 t1 : T[1]? = some pv
 t2 : T[2]? = some iv
 t3 : T[3]? = some (.int .i64 most)
 t8 : T[8]? = some (.int .i64 own)
theorem run_inn {Kc : Addr → Option Value} {J : Goroutine → World → Prop} (hJ : JX Try.prog Kc J) {mb : Nat} {pv iv : Value} {most own : Int} {T : Array Value} {w : World} {K : List Item} {cs : List Frame} (hF : FrR mb pv iv most own T) {p : Option Addr} {L C : Nat} (hpv : pv = .slice p L C) {next : Int} (cn : w.cell? ⟨mb, 6, none⟩ = some (.int .i64 next)) (h0 : 0 ≤ next) (h1 : next < L)
 (hmain : ∀ T', FrR mb pv iv most own T' → J (G ((bN 41).at ⟨T', []⟩ (.code rB :: .inBlock 1 :: K)) cs) w) : J (G ((bN 41).at ⟨T, []⟩ (.code rL :: K)) cs) w := by
 subst hpv
 have d0 : decide (next ≥ 0) = true := by simpa using h0
 have d1 : decide (next < (L : Int)) = true := by simpa using h1
 obtain ⟨hsz, f0, f1, f2, f3, f8⟩ := hF
 have hm := Lib.hid hmain
 clear hmain
 refine code_eq (J := fun (_ : Unit) => J) (s := ()) rL_eq ?_
 obtain ⟨u0, hu0⟩ : ∃ c, m1c = c := ⟨_, rfl⟩
 have eu0 := hu0
 rw [hu0]
 simp only [rL, rB, rS, rR, m1c, m2c, m3c, m4c, m5c, m6c, m7c, m8c, m9c, m10c, m11c, m12c, headC, tailN, Try.f41, al_od] at eu0
 subst eu0
 clear hu0
 refine hJ.ctl (s := ()) (fun w => stepG_seq) ?_
 refine hJ.ctl (s := ()) (fun w => stepG_seq) ?_
 refine hJ.ctl (s := ()) (fun w => stepG_region) ?_
 refine at_evalG (J := fun (_ : Unit) => J) (s := ()) hJ (by decide) 0 [some (.pointer (some ⟨mb, 0, none⟩)), some (.pointer (some ⟨mb, 0, none⟩)), some (.pointer (some ⟨mb, 6, none⟩)), some (.int .i64 next), some (.bool true), some (.bool true), some (.pointer (some ⟨mb, 0, none⟩)), some (.pointer (some ⟨mb, 0, none⟩)), some (.pointer (some ⟨mb, 6, none⟩)), some (.int .i64 next), some (.slice p L C), some (.int .i64 L), some (.bool true), some (.bool true)] [] rfl (by simp) (by rfl) ?_ ?_
 · intro τ d
   simp only [evalsG, dstOf, al_gl, al_g0, al_g1, al_ob]
   refine ⟨?_, ?_, ?_, ?_, ?_, ?_, ?_, ?_, ?_, ?_, ?_, ?_, ?_, ?_, trivial⟩ <;> (intro o ho; simp only [al_oi] at ho; subst ho)
   all_goals (first | refine ⟨by simp [Region.wanted, yielded, al_gs, hsz, f0, f1, f2, f3, f8], ?_⟩ | (simp [Region.wanted, yielded, al_gs, hsz, f0, f1, f2, f3, f8]; done))
   all_goals (try simp only [execOp, Act.eval, List.map_toArray, List.map_cons, List.map_nil, al_gd])
   all_goals (try simp only [al_gs, al_gz, hsz, f0, f1, f2, f3, f8, Nat.reduceEqDiff, Nat.reduceLT, ↓reduceIte, al_od])
   all_goals (have hlt : ∀ i, i < 72 → i < (T).size := fun i hi => (by rw [hsz]; exact hi))
   all_goals (clear hsz f0 f1 f2 f3 f8)
   all_goals (try go_simp)
   all_goals (try omega)
 simp only [putG, dstOf, al_gl, al_g0, al_g1, al_ob, al_od, Option.getD_none]
 obtain ⟨T1, hT⟩ : ∃ X, X = ((((((((((((((T).setIfInBounds 10 (.pointer (some ⟨mb, 0, none⟩))).setIfInBounds 11 (.pointer (some ⟨mb, 0, none⟩))).setIfInBounds 12 (.pointer (some ⟨mb, 6, none⟩))).setIfInBounds 13 (.int .i64 next)).setIfInBounds 14 (.bool true)).setIfInBounds 15 (.bool true)).setIfInBounds 16 (.pointer (some ⟨mb, 0, none⟩))).setIfInBounds 17 (.pointer (some ⟨mb, 0, none⟩))).setIfInBounds 18 (.pointer (some ⟨mb, 6, none⟩))).setIfInBounds 19 (.int .i64 next)).setIfInBounds 20 (.slice p L C)).setIfInBounds 21 (.int .i64 L)).setIfInBounds 22 (.bool true)).setIfInBounds 23 (.bool true) := ⟨_, rfl⟩
 rw [← hT]
 have hT1 : T1.size = 72 := by rw [hT]; simp [hsz]
 have T1_0 := sg14 hT f0
 have T1_1 := sg14 hT f1
 have T1_2 := sg14 hT f2
 have T1_3 := sg14 hT f3
 have T1_8 := sg14 hT f8
 have T1_23 : T1[23]? = some (.bool true) := by rw [hT]; simp [al_gs, hsz]
 clear hT f0 f1 f2 f3 f8 hsz
 refine hJ.ctl (s := ()) (fun w => stepG_region_end) ?_
 refine hJ.ctl (s := ()) (fun w => stepG_cond (t := true) (by simp [Act.eval, al_gd, T1_23])) ?_
 simp only [if_true]
 refine hJ.ctl (s := ()) (fun w => stepG_skip) ?_
 refine hJ.ctl (s := ()) (fun w => stepG_block) ?_
 exact hm.out _ ⟨hT1, T1_0, T1_1, T1_2, T1_3, T1_8⟩
theorem run_out_neg {Kc : Addr → Option Value} {J : Goroutine → World → Prop} (hJ : JX Try.prog Kc J) {mb : Nat} {pv iv : Value} {most own : Int} {T : Array Value} {w : World} {K : List Item} {cs : List Frame} (hF : FrR mb pv iv most own T) {p : Option Addr} {L C : Nat} (hpv : pv = .slice p L C) {next : Int} (cn : w.cell? ⟨mb, 6, none⟩ = some (.int .i64 next)) (h0 : next < 0)
 (hmain : ∀ T', FrR mb pv iv most own T' → J (G ((bN 41).at ⟨T', []⟩ K) cs) w) : J (G ((bN 41).at ⟨T, []⟩ (.code rL :: .inLoop rL :: .inBlock 0 :: K)) cs) w := by
 subst hpv
 have d0 : decide (next ≥ 0) = false := by simpa using h0
 obtain ⟨hsz, f0, f1, f2, f3, f8⟩ := hF
 have hm := Lib.hid hmain
 clear hmain
 refine code_eq (J := fun (_ : Unit) => J) (s := ()) rL_eq ?_
 obtain ⟨u0, hu0⟩ : ∃ c, m1c = c := ⟨_, rfl⟩
 have eu0 := hu0
 rw [hu0]
 simp only [rL, rB, rS, rR, m1c, m2c, m3c, m4c, m5c, m6c, m7c, m8c, m9c, m10c, m11c, m12c, headC, tailN, Try.f41, al_od] at eu0
 subst eu0
 clear hu0
 refine hJ.ctl (s := ()) (fun w => stepG_seq) ?_
 refine hJ.ctl (s := ()) (fun w => stepG_seq) ?_
 refine hJ.ctl (s := ()) (fun w => stepG_region) ?_
 refine at_evalG (J := fun (_ : Unit) => J) (s := ()) hJ (by decide) 0 [some (.pointer (some ⟨mb, 0, none⟩)), some (.pointer (some ⟨mb, 0, none⟩)), some (.pointer (some ⟨mb, 6, none⟩)), some (.int .i64 next), some (.bool false), some (.bool false), none, none, none, none, none, none, none, some (.bool false)] [] rfl (by simp) (by rfl) ?_ ?_
 · intro τ d
   simp only [evalsG, dstOf, al_gl, al_g0, al_g1, al_ob]
   refine ⟨?_, ?_, ?_, ?_, ?_, ?_, ?_, ?_, ?_, ?_, ?_, ?_, ?_, ?_, trivial⟩ <;> (intro o ho; simp only [al_oi] at ho; subst ho)
   all_goals (first | refine ⟨by simp [Region.wanted, yielded, al_gs, hsz, f0, f1, f2, f3, f8], ?_⟩ | (simp [Region.wanted, yielded, al_gs, hsz, f0, f1, f2, f3, f8]; done))
   all_goals (try simp only [execOp, Act.eval, List.map_toArray, List.map_cons, List.map_nil, al_gd])
   all_goals (try simp only [al_gs, al_gz, hsz, f0, f1, f2, f3, f8, Nat.reduceEqDiff, Nat.reduceLT, ↓reduceIte, al_od])
   all_goals (have hlt : ∀ i, i < 72 → i < (T).size := fun i hi => (by rw [hsz]; exact hi))
   all_goals (clear hsz f0 f1 f2 f3 f8)
   all_goals (try go_simp)
   all_goals (try omega)
 simp only [putG, dstOf, al_gl, al_g0, al_g1, al_ob, al_od, Option.getD_none]
 obtain ⟨T1, hT⟩ : ∃ X, X = ((((((((((((((T).setIfInBounds 10 (.pointer (some ⟨mb, 0, none⟩))).setIfInBounds 11 (.pointer (some ⟨mb, 0, none⟩))).setIfInBounds 12 (.pointer (some ⟨mb, 6, none⟩))).setIfInBounds 13 (.int .i64 next)).setIfInBounds 14 (.bool false)).setIfInBounds 15 (.bool false)).setIfInBounds 16 (undef)).setIfInBounds 17 (undef)).setIfInBounds 18 (undef)).setIfInBounds 19 (undef)).setIfInBounds 20 (undef)).setIfInBounds 21 (undef)).setIfInBounds 22 (undef)).setIfInBounds 23 (.bool false) := ⟨_, rfl⟩
 rw [← hT]
 have hT1 : T1.size = 72 := by rw [hT]; simp [hsz]
 have T1_0 := sg14 hT f0
 have T1_1 := sg14 hT f1
 have T1_2 := sg14 hT f2
 have T1_3 := sg14 hT f3
 have T1_8 := sg14 hT f8
 have T1_23 : T1[23]? = some (.bool false) := by rw [hT]; simp [al_gs, hsz]
 clear hT f0 f1 f2 f3 f8 hsz
 refine hJ.ctl (s := ()) (fun w => stepG_region_end) ?_
 refine hJ.ctl (s := ()) (fun w => stepG_cond (t := false) (by simp [Act.eval, al_gd, T1_23])) ?_
 simp only [Bool.false_eq_true, if_false]
 refine hJ.ctl (s := ()) (fun w => stepG_exit (k' := K) rfl) ?_
 exact hm.out _ ⟨hT1, T1_0, T1_1, T1_2, T1_3, T1_8⟩
theorem run_out_big {Kc : Addr → Option Value} {J : Goroutine → World → Prop} (hJ : JX Try.prog Kc J) {mb : Nat} {pv iv : Value} {most own : Int} {T : Array Value} {w : World} {K : List Item} {cs : List Frame} (hF : FrR mb pv iv most own T) {p : Option Addr} {L C : Nat} (hpv : pv = .slice p L C) {next : Int} (cn : w.cell? ⟨mb, 6, none⟩ = some (.int .i64 next)) (h0 : 0 ≤ next) (h1 : ¬ next < L)
 (hmain : ∀ T', FrR mb pv iv most own T' → J (G ((bN 41).at ⟨T', []⟩ K) cs) w) : J (G ((bN 41).at ⟨T, []⟩ (.code rL :: .inLoop rL :: .inBlock 0 :: K)) cs) w := by
 subst hpv
 have d0 : decide (next ≥ 0) = true := by simpa using h0
 have d1 : decide (next < (L : Int)) = false := by simpa using h1
 obtain ⟨hsz, f0, f1, f2, f3, f8⟩ := hF
 have hm := Lib.hid hmain
 clear hmain
 refine code_eq (J := fun (_ : Unit) => J) (s := ()) rL_eq ?_
 obtain ⟨u0, hu0⟩ : ∃ c, m1c = c := ⟨_, rfl⟩
 have eu0 := hu0
 rw [hu0]
 simp only [rL, rB, rS, rR, m1c, m2c, m3c, m4c, m5c, m6c, m7c, m8c, m9c, m10c, m11c, m12c, headC, tailN, Try.f41, al_od] at eu0
 subst eu0
 clear hu0
 refine hJ.ctl (s := ()) (fun w => stepG_seq) ?_
 refine hJ.ctl (s := ()) (fun w => stepG_seq) ?_
 refine hJ.ctl (s := ()) (fun w => stepG_region) ?_
 refine at_evalG (J := fun (_ : Unit) => J) (s := ()) hJ (by decide) 0 [some (.pointer (some ⟨mb, 0, none⟩)), some (.pointer (some ⟨mb, 0, none⟩)), some (.pointer (some ⟨mb, 6, none⟩)), some (.int .i64 next), some (.bool true), some (.bool true), some (.pointer (some ⟨mb, 0, none⟩)), some (.pointer (some ⟨mb, 0, none⟩)), some (.pointer (some ⟨mb, 6, none⟩)), some (.int .i64 next), some (.slice p L C), some (.int .i64 L), some (.bool false), some (.bool false)] [] rfl (by simp) (by rfl) ?_ ?_
 · intro τ d
   simp only [evalsG, dstOf, al_gl, al_g0, al_g1, al_ob]
   refine ⟨?_, ?_, ?_, ?_, ?_, ?_, ?_, ?_, ?_, ?_, ?_, ?_, ?_, ?_, trivial⟩ <;> (intro o ho; simp only [al_oi] at ho; subst ho)
   all_goals (first | refine ⟨by simp [Region.wanted, yielded, al_gs, hsz, f0, f1, f2, f3, f8], ?_⟩ | (simp [Region.wanted, yielded, al_gs, hsz, f0, f1, f2, f3, f8]; done))
   all_goals (try simp only [execOp, Act.eval, List.map_toArray, List.map_cons, List.map_nil, al_gd])
   all_goals (try simp only [al_gs, al_gz, hsz, f0, f1, f2, f3, f8, Nat.reduceEqDiff, Nat.reduceLT, ↓reduceIte, al_od])
   all_goals (have hlt : ∀ i, i < 72 → i < (T).size := fun i hi => (by rw [hsz]; exact hi))
   all_goals (clear hsz f0 f1 f2 f3 f8)
   all_goals (try go_simp)
   all_goals (try omega)
 simp only [putG, dstOf, al_gl, al_g0, al_g1, al_ob, al_od, Option.getD_none]
 obtain ⟨T1, hT⟩ : ∃ X, X = ((((((((((((((T).setIfInBounds 10 (.pointer (some ⟨mb, 0, none⟩))).setIfInBounds 11 (.pointer (some ⟨mb, 0, none⟩))).setIfInBounds 12 (.pointer (some ⟨mb, 6, none⟩))).setIfInBounds 13 (.int .i64 next)).setIfInBounds 14 (.bool true)).setIfInBounds 15 (.bool true)).setIfInBounds 16 (.pointer (some ⟨mb, 0, none⟩))).setIfInBounds 17 (.pointer (some ⟨mb, 0, none⟩))).setIfInBounds 18 (.pointer (some ⟨mb, 6, none⟩))).setIfInBounds 19 (.int .i64 next)).setIfInBounds 20 (.slice p L C)).setIfInBounds 21 (.int .i64 L)).setIfInBounds 22 (.bool false)).setIfInBounds 23 (.bool false) := ⟨_, rfl⟩
 rw [← hT]
 have hT1 : T1.size = 72 := by rw [hT]; simp [hsz]
 have T1_0 := sg14 hT f0
 have T1_1 := sg14 hT f1
 have T1_2 := sg14 hT f2
 have T1_3 := sg14 hT f3
 have T1_8 := sg14 hT f8
 have T1_23 : T1[23]? = some (.bool false) := by rw [hT]; simp [al_gs, hsz]
 clear hT f0 f1 f2 f3 f8 hsz
 refine hJ.ctl (s := ()) (fun w => stepG_region_end) ?_
 refine hJ.ctl (s := ()) (fun w => stepG_cond (t := false) (by simp [Act.eval, al_gd, T1_23])) ?_
 simp only [Bool.false_eq_true, if_false]
 refine hJ.ctl (s := ()) (fun w => stepG_exit (k' := K) rfl) ?_
 exact hm.out _ ⟨hT1, T1_0, T1_1, T1_2, T1_3, T1_8⟩
theorem run_copy {Kc : Addr → Option Value} {J : Goroutine → World → Prop} (hJ : JX Try.prog Kc J) {mb : Nat} {pv iv : Value} {most own : Int} {T : Array Value} {w : World} {K : List Item} {cs : List Frame} (hF : FrR mb pv iv most own T) {g L C : Nat} (hpv : pv = .slice (some ⟨g, 0, none⟩) L C) {next d r a b v : Int} (cn : w.cell? ⟨mb, 6, none⟩ = some (.int .i64 next)) (h0 : 0 ≤ next) (h1 : next < L)
 (e0 : w.cell? ⟨g, next.toNat * 5, none⟩ = some (.int .i64 d)) (e1 : w.cell? ⟨g, next.toNat * 5 + 1, none⟩ = some (.int .i64 r)) (e2 : w.cell? ⟨g, next.toNat * 5 + 2, none⟩ = some (.int .i64 a)) (e3 : w.cell? ⟨g, next.toNat * 5 + 3, none⟩ = some (.int .i64 b)) (e4 : w.cell? ⟨g, next.toNat * 5 + 4, none⟩ = some (.int .i64 v)) (hK : ∀ y : Addr, w.heap.size ≤ y.block → Kc y = none)
 (hmain : ∀ T' w', FrR mb pv iv most own T' → T'[9]? = some (.pointer (some ⟨w.heap.size, 0, none⟩)) → w'.heap[w.heap.size]? = some (.cells #[.int .i64 d, .int .i64 r, .int .i64 a, .int .i64 b, .int .i64 v] 74) → w'.heap.size = w.heap.size + 1 → (∀ b, b < w.heap.size → w'.heap[b]? = w.heap[b]?) → J (G ((bN 41).at ⟨T', []⟩ K) cs) w') : J (G ((bN 41).at ⟨T, []⟩ (.code m2c :: K)) cs) w := by
 subst hpv
 obtain ⟨hsz, f0, f1, f2, f3, f8⟩ := hF
 have hm := Lib.hid hmain
 clear hmain
 obtain ⟨u0, hu0⟩ : ∃ c, m2c = c := ⟨_, rfl⟩
 have eu0 := hu0
 rw [hu0]
 simp only [rL, rB, rS, rR, m1c, m2c, m3c, m4c, m5c, m6c, m7c, m8c, m9c, m10c, m11c, m12c, headC, tailN, Try.f41, al_od] at eu0
 subst eu0
 clear hu0
 refine hJ.ctl (s := ()) (fun w => stepG_region) ?_
 refine at_eval (J := fun (_ : Unit) => J) (s := ()) hJ (by decide) 0 [.slice (some ⟨g, 0, none⟩) L C, .pointer (some ⟨mb, 0, none⟩), .pointer (some ⟨mb, 0, none⟩), .pointer (some ⟨mb, 6, none⟩), .int .i64 next, .pointer (some ⟨g, next.toNat * 5, none⟩), .agg #[.int .i64 d, .int .i64 r, .int .i64 a, .int .i64 b, .int .i64 v]] [7, 8] rfl (by simp) (by rfl) ?_ ?_
 · intro τ d
   simp only [evalsO, dstOf, al_gl, al_g0, al_g1, al_ob]
   refine ⟨?_, ?_, ?_, ?_, ?_, ?_, ?_, trivial⟩ <;> (intro o ho; simp only [al_oi] at ho; subst ho)
   all_goals (try simp only [execOp, Act.eval, List.map_toArray, List.map_cons, List.map_nil, al_gd])
   all_goals (try simp only [al_gs, al_gz, hsz, f0, f1, f2, f3, f8, Nat.reduceEqDiff, Nat.reduceLT, ↓reduceIte, al_od])
   all_goals (have hlt : ∀ i, i < 72 → i < (T).size := fun i hi => (by rw [hsz]; exact hi))
   all_goals (clear hsz f0 f1 f2 f3 f8)
   all_goals (try go_simp)
   all_goals (try omega)
 simp only [putv, dstOf, al_gl, al_g0, al_g1, al_ob]
 obtain ⟨T1, hT⟩ : ∃ X, X = (((((((T).setIfInBounds 24 (.slice (some ⟨g, 0, none⟩) L C)).setIfInBounds 25 (.pointer (some ⟨mb, 0, none⟩))).setIfInBounds 26 (.pointer (some ⟨mb, 0, none⟩))).setIfInBounds 27 (.pointer (some ⟨mb, 6, none⟩))).setIfInBounds 28 (.int .i64 next)).setIfInBounds 29 (.pointer (some ⟨g, next.toNat * 5, none⟩))).setIfInBounds 30 (.agg #[.int .i64 d, .int .i64 r, .int .i64 a, .int .i64 b, .int .i64 v]) := ⟨_, rfl⟩
 rw [← hT]
 have hT1 : T1.size = 72 := by rw [hT]; simp [hsz]
 have T1_0 := sg7 hT f0
 have T1_1 := sg7 hT f1
 have T1_2 := sg7 hT f2
 have T1_3 := sg7 hT f3
 have T1_8 := sg7 hT f8
 have T1_30 : T1[30]? = some (.agg #[.int .i64 d, .int .i64 r, .int .i64 a, .int .i64 b, .int .i64 v]) := by rw [hT]; simp [al_gs, hsz]
 clear hT f0 f1 f2 f3 f8 hsz
 refine at_opK (J := fun (_ : Unit) => J) (s := ()) hJ (by decide) (i := 7) (rest := [8]) rfl rfl rfl rfl fun τ dd => ?_
 refine ⟨.pointer (some ⟨w.heap.size, 0, none⟩), re (w.alloc (.cells #[.int .i64 0, .int .i64 0, .int .i64 0, .int .i64 0, .int .i64 0] 74)) τ dd, ?_, ?_⟩
 · simp only [List.getElem_toArray, List.getElem_cons_zero, List.getElem_cons_succ, execOp, Act.eval, List.map_toArray, List.map_cons, List.map_nil, al_gd, hT1, T1_0, T1_1, T1_2, T1_3, T1_8, T1_30, al_od]
   clear hT1 T1_0 T1_1 T1_2 T1_3 T1_8 T1_30
   go_simp
   all_goals rfl
 refine hJ.re' () _ _ τ dd ?_
 obtain ⟨B, hB⟩ : ∃ B, w.heap.size = B := ⟨_, rfl⟩
 rw [hB] at hK hm ⊢
 obtain ⟨T2, hT⟩ : ∃ X, X = (T1).setIfInBounds 9 (.pointer (some ⟨B, 0, none⟩)) := ⟨_, rfl⟩
 rw [← hT]
 have hT2 : T2.size = 72 := by rw [hT]; simp [hT1]
 have T2_0 := sg1 hT T1_0
 have T2_1 := sg1 hT T1_1
 have T2_2 := sg1 hT T1_2
 have T2_3 := sg1 hT T1_3
 have T2_8 := sg1 hT T1_8
 have T2_30 := sg1 hT T1_30
 have T2_9 : T2[9]? = some (.pointer (some ⟨B, 0, none⟩)) := by rw [hT]; simp [al_gs, hT1]
 clear hT T1_0 T1_1 T1_2 T1_3 T1_8 T1_30 hT1
 have hw2 := fun (b : Nat) (hb : b < B) => (show (w.alloc (.cells #[.int .i64 0, .int .i64 0, .int .i64 0, .int .i64 0, .int .i64 0] 74)).heap[b]? = w.heap[b]? from by rw [zqc, if_neg (by omega)])
 have hw3 : (w.alloc (.cells #[.int .i64 0, .int .i64 0, .int .i64 0, .int .i64 0, .int .i64 0] 74)).heap[B]? = some (.cells #[.int .i64 0, .int .i64 0, .int .i64 0, .int .i64 0, .int .i64 0] 74) := hB ▸ al_new w _
 have hw4 : (w.alloc (.cells #[.int .i64 0, .int .i64 0, .int .i64 0, .int .i64 0, .int .i64 0] 74)).heap.size = B + 1 := by rw [zq8, hB]
 generalize w.alloc (.cells #[.int .i64 0, .int .i64 0, .int .i64 0, .int .i64 0, .int .i64 0] 74) = w2 at *
 refine at_storeK (J := fun (_ : Unit) => J) (s := ()) hJ (by decide) (i := 8) (rest := []) rfl rfl rfl rfl (ad := ⟨B, 0, none⟩) (by simp [Act.eval, al_gd, T2_9]) (fun j _ => hK _ (by rw [add_block]; exact Nat.le_refl _)) ⟨_, _, _, hw3⟩ fun τ dd => ?_
 have z0 := zqf (off := 0) hw3
 have z1 := zqf (off := 1) hw3
 have z2 := zqf (off := 2) hw3
 have z3 := zqf (off := 3) hw3
 have z4 := zqf (off := 4) hw3
 have y0 := (zq1 (off := 0) hw3).trans rfl
 have y1 := (zq1 (off := 1) hw3).trans rfl
 have y2 := (zq1 (off := 2) hw3).trans rfl
 have y3 := (zq1 (off := 3) hw3).trans rfl
 have y4 := (zq1 (off := 4) hw3).trans rfl
 refine ⟨re (((((w2.setCell ⟨B, 0, none⟩ (.int .i64 d)).setCell ⟨B, 1, none⟩ (.int .i64 r)).setCell ⟨B, 2, none⟩ (.int .i64 a)).setCell ⟨B, 3, none⟩ (.int .i64 b)).setCell ⟨B, 4, none⟩ (.int .i64 v)) τ dd, ?_, ?_⟩
 · simp only [List.getElem_toArray, List.getElem_cons_zero, List.getElem_cons_succ, execOp, Act.eval, List.map_toArray, List.map_cons, List.map_nil, al_gd, hT2, T2_0, T2_1, T2_2, T2_3, T2_8, T2_30, T2_9, al_od]
   clear hT2 T2_0 T2_1 T2_2 T2_3 T2_8 T2_30 T2_9
   go_simp
   all_goals (simp only [re_setCell])
 refine hJ.re' () _ _ τ dd ?_
 have s1 := zqh w2 B 0 (.int .i64 d) hw3
 have s2 := zqh _ B 1 (.int .i64 r) s1
 have s3 := zqh _ B 2 (.int .i64 a) s2
 have s4 := zqh _ B 3 (.int .i64 b) s3
 have s5 := zqh _ B 4 (.int .i64 v) s4
 refine hJ.ctl (s := ()) (fun w => stepG_region_end) ?_
 refine hm.out _ _ ⟨hT2, T2_0, T2_1, T2_2, T2_3, T2_8⟩ T2_9 s5 ?_ fun b hb => ?_
 · simp only [hp_size_set]; exact hw4
 · have hne : b ≠ B := by omega
   rw [zqa _ _ _ _ hne, zqa _ _ _ _ hne, zqa _ _ _ _ hne, zqa _ _ _ _ hne, zqa _ _ _ _ hne]; exact hw2 b hb
theorem run_what1 {Kc : Addr → Option Value} {J : Goroutine → World → Prop} (hJ : JX Try.prog Kc J) {mb : Nat} {pv iv : Value} {most own : Int} {T : Array Value} {w : World} {K : List Item} {cs : List Frame} (hF : FrR mb pv iv most own T) {B bw W : Nat} {d a : Int} (f9 : T[9]? = some (.pointer (some ⟨B, 0, none⟩))) (b0 : w.cell? ⟨B, 0, none⟩ = some (.int .i64 d)) (b2 : w.cell? ⟨B, 2, none⟩ = some (.int .i64 a)) (c0 : w.cell? ⟨mb, 0, none⟩ = some (.slice (some ⟨bw, 0, none⟩) W W)) (k1 : ¬ 7 ≤ d)
 (hmain : ∀ T', FrR mb pv iv most own T' → T'[9]? = some (.pointer (some ⟨B, 0, none⟩)) → J (G ((bN 41).at ⟨T', []⟩ (.code rR :: K)) cs) w) : J (G ((bN 41).at ⟨T, []⟩ (.code (.seq (.seq m3c (.cond (.tmp 53) rS .skip)) rR) :: K)) cs) w := by
 have d1 : decide (d ≥ 7) = false := by simpa using k1
 obtain ⟨hsz, f0, f1, f2, f3, f8⟩ := hF
 have hm := Lib.hid hmain
 clear hmain
 obtain ⟨u0, hu0⟩ : ∃ c, m3c = c := ⟨_, rfl⟩
 have eu0 := hu0
 rw [hu0]
 simp only [rL, rB, rS, rR, m1c, m2c, m3c, m4c, m5c, m6c, m7c, m8c, m9c, m10c, m11c, m12c, headC, tailN, Try.f41, al_od] at eu0
 subst eu0
 clear hu0
 refine hJ.ctl (s := ()) (fun w => stepG_seq) ?_
 refine hJ.ctl (s := ()) (fun w => stepG_seq) ?_
 refine at_evalGd (J := fun (_ : Unit) => J) (s := ()) hJ (by decide) (by rfl) [some (.pointer (some ⟨B, 0, none⟩)), some (.int .i64 d), some (.bool false), some (.bool false), none, none, none, some (.bool false), some (.bool false), none, none, none, some (.bool false), some (.bool false), none, none, none, none, none, none, none, none, some (.bool false)] (by rfl) (by rw [hsz]; kernel_rfl) ?_ ?_
 · intro τ d
   simp only [evalsG, dstOf, al_gl, al_g0, al_g1, al_ob]
   refine ⟨?_, ?_, ?_, ?_, ?_, ?_, ?_, ?_, ?_, ?_, ?_, ?_, ?_, ?_, ?_, ?_, ?_, ?_, ?_, ?_, ?_, ?_, ?_, trivial⟩ <;> (intro o ho; simp only [al_oi] at ho; subst ho)
   all_goals (first | refine ⟨by simp [Region.wanted, yielded, al_gs, hsz, f0, f1, f2, f3, f8, f9], ?_⟩ | (simp [Region.wanted, yielded, al_gs, hsz, f0, f1, f2, f3, f8, f9]; done))
   all_goals (try simp only [execOp, Act.eval, List.map_toArray, List.map_cons, List.map_nil, al_gd])
   all_goals (try simp only [al_gs, al_gz, hsz, f0, f1, f2, f3, f8, f9, Nat.reduceEqDiff, Nat.reduceLT, ↓reduceIte, al_od])
   all_goals (have hlt : ∀ i, i < 72 → i < (T).size := fun i hi => (by rw [hsz]; exact hi))
   all_goals (clear hsz f0 f1 f2 f3 f8 f9)
   all_goals (try go_simp)
   all_goals (try omega)
 simp only [putG, dstOf, al_gl, al_g0, al_g1, al_ob, al_od, Option.getD_none]
 obtain ⟨T1, hT⟩ : ∃ X, X = (((((((((((((((((((((((T).setIfInBounds 31 (.pointer (some ⟨B, 0, none⟩))).setIfInBounds 32 (.int .i64 d)).setIfInBounds 33 (.bool false)).setIfInBounds 34 (.bool false)).setIfInBounds 35 (undef)).setIfInBounds 36 (undef)).setIfInBounds 37 (undef)).setIfInBounds 38 (.bool false)).setIfInBounds 39 (.bool false)).setIfInBounds 40 (undef)).setIfInBounds 41 (undef)).setIfInBounds 42 (undef)).setIfInBounds 43 (.bool false)).setIfInBounds 44 (.bool false)).setIfInBounds 45 (undef)).setIfInBounds 46 (undef)).setIfInBounds 47 (undef)).setIfInBounds 48 (undef)).setIfInBounds 49 (undef)).setIfInBounds 50 (undef)).setIfInBounds 51 (undef)).setIfInBounds 52 (undef)).setIfInBounds 53 (.bool false) := ⟨_, rfl⟩
 rw [← hT]
 have hT1 : T1.size = 72 := by rw [hT]; simp [hsz]
 have T1_0 := sg23 hT f0
 have T1_1 := sg23 hT f1
 have T1_2 := sg23 hT f2
 have T1_3 := sg23 hT f3
 have T1_8 := sg23 hT f8
 have T1_9 := sg23 hT f9
 have T1_53 : T1[53]? = some (.bool false) := by rw [hT]; simp [al_gs, hsz]
 clear hT f0 f1 f2 f3 f8 f9 hsz
 refine hJ.ctl (s := ()) (fun w => stepG_region_end) ?_
 refine hJ.ctl (s := ()) (fun w => stepG_cond (t := false) (by simp [Act.eval, al_gd, T1_53])) ?_
 simp only [Bool.false_eq_true, if_false]
 refine hJ.ctl (s := ()) (fun w => stepG_skip) ?_
 exact hm.out _ ⟨hT1, T1_0, T1_1, T1_2, T1_3, T1_8⟩ T1_9
theorem run_what2 {Kc : Addr → Option Value} {J : Goroutine → World → Prop} (hJ : JX Try.prog Kc J) {mb : Nat} {pv iv : Value} {most own : Int} {T : Array Value} {w : World} {K : List Item} {cs : List Frame} (hF : FrR mb pv iv most own T) {B bw W : Nat} {d a : Int} (f9 : T[9]? = some (.pointer (some ⟨B, 0, none⟩))) (b0 : w.cell? ⟨B, 0, none⟩ = some (.int .i64 d)) (b2 : w.cell? ⟨B, 2, none⟩ = some (.int .i64 a)) (c0 : w.cell? ⟨mb, 0, none⟩ = some (.slice (some ⟨bw, 0, none⟩) W W)) (k1 : 7 ≤ d) (k2 : ¬ d ≤ 11)
 (hmain : ∀ T', FrR mb pv iv most own T' → T'[9]? = some (.pointer (some ⟨B, 0, none⟩)) → J (G ((bN 41).at ⟨T', []⟩ (.code rR :: K)) cs) w) : J (G ((bN 41).at ⟨T, []⟩ (.code (.seq (.seq m3c (.cond (.tmp 53) rS .skip)) rR) :: K)) cs) w := by
 have d1 : decide (d ≥ 7) = true := by simpa using k1
 have d2 : decide (d ≤ 11) = false := by simpa using k2
 obtain ⟨hsz, f0, f1, f2, f3, f8⟩ := hF
 have hm := Lib.hid hmain
 clear hmain
 obtain ⟨u0, hu0⟩ : ∃ c, m3c = c := ⟨_, rfl⟩
 have eu0 := hu0
 rw [hu0]
 simp only [rL, rB, rS, rR, m1c, m2c, m3c, m4c, m5c, m6c, m7c, m8c, m9c, m10c, m11c, m12c, headC, tailN, Try.f41, al_od] at eu0
 subst eu0
 clear hu0
 refine hJ.ctl (s := ()) (fun w => stepG_seq) ?_
 refine hJ.ctl (s := ()) (fun w => stepG_seq) ?_
 refine at_evalGd (J := fun (_ : Unit) => J) (s := ()) hJ (by decide) (by rfl) [some (.pointer (some ⟨B, 0, none⟩)), some (.int .i64 d), some (.bool true), some (.bool true), some (.pointer (some ⟨B, 0, none⟩)), some (.int .i64 d), some (.bool false), some (.bool false), some (.bool false), none, none, none, some (.bool false), some (.bool false), none, none, none, none, none, none, none, none, some (.bool false)] (by rfl) (by rw [hsz]; kernel_rfl) ?_ ?_
 · intro τ d
   simp only [evalsG, dstOf, al_gl, al_g0, al_g1, al_ob]
   refine ⟨?_, ?_, ?_, ?_, ?_, ?_, ?_, ?_, ?_, ?_, ?_, ?_, ?_, ?_, ?_, ?_, ?_, ?_, ?_, ?_, ?_, ?_, ?_, trivial⟩ <;> (intro o ho; simp only [al_oi] at ho; subst ho)
   all_goals (first | refine ⟨by simp [Region.wanted, yielded, al_gs, hsz, f0, f1, f2, f3, f8, f9], ?_⟩ | (simp [Region.wanted, yielded, al_gs, hsz, f0, f1, f2, f3, f8, f9]; done))
   all_goals (try simp only [execOp, Act.eval, List.map_toArray, List.map_cons, List.map_nil, al_gd])
   all_goals (try simp only [al_gs, al_gz, hsz, f0, f1, f2, f3, f8, f9, Nat.reduceEqDiff, Nat.reduceLT, ↓reduceIte, al_od])
   all_goals (have hlt : ∀ i, i < 72 → i < (T).size := fun i hi => (by rw [hsz]; exact hi))
   all_goals (clear hsz f0 f1 f2 f3 f8 f9)
   all_goals (try go_simp)
   all_goals (try omega)
 simp only [putG, dstOf, al_gl, al_g0, al_g1, al_ob, al_od, Option.getD_none]
 obtain ⟨T1, hT⟩ : ∃ X, X = (((((((((((((((((((((((T).setIfInBounds 31 (.pointer (some ⟨B, 0, none⟩))).setIfInBounds 32 (.int .i64 d)).setIfInBounds 33 (.bool true)).setIfInBounds 34 (.bool true)).setIfInBounds 35 (.pointer (some ⟨B, 0, none⟩))).setIfInBounds 36 (.int .i64 d)).setIfInBounds 37 (.bool false)).setIfInBounds 38 (.bool false)).setIfInBounds 39 (.bool false)).setIfInBounds 40 (undef)).setIfInBounds 41 (undef)).setIfInBounds 42 (undef)).setIfInBounds 43 (.bool false)).setIfInBounds 44 (.bool false)).setIfInBounds 45 (undef)).setIfInBounds 46 (undef)).setIfInBounds 47 (undef)).setIfInBounds 48 (undef)).setIfInBounds 49 (undef)).setIfInBounds 50 (undef)).setIfInBounds 51 (undef)).setIfInBounds 52 (undef)).setIfInBounds 53 (.bool false) := ⟨_, rfl⟩
 rw [← hT]
 have hT1 : T1.size = 72 := by rw [hT]; simp [hsz]
 have T1_0 := sg23 hT f0
 have T1_1 := sg23 hT f1
 have T1_2 := sg23 hT f2
 have T1_3 := sg23 hT f3
 have T1_8 := sg23 hT f8
 have T1_9 := sg23 hT f9
 have T1_53 : T1[53]? = some (.bool false) := by rw [hT]; simp [al_gs, hsz]
 clear hT f0 f1 f2 f3 f8 f9 hsz
 refine hJ.ctl (s := ()) (fun w => stepG_region_end) ?_
 refine hJ.ctl (s := ()) (fun w => stepG_cond (t := false) (by simp [Act.eval, al_gd, T1_53])) ?_
 simp only [Bool.false_eq_true, if_false]
 refine hJ.ctl (s := ()) (fun w => stepG_skip) ?_
 exact hm.out _ ⟨hT1, T1_0, T1_1, T1_2, T1_3, T1_8⟩ T1_9
theorem run_what3 {Kc : Addr → Option Value} {J : Goroutine → World → Prop} (hJ : JX Try.prog Kc J) {mb : Nat} {pv iv : Value} {most own : Int} {T : Array Value} {w : World} {K : List Item} {cs : List Frame} (hF : FrR mb pv iv most own T) {B bw W : Nat} {d a : Int} (f9 : T[9]? = some (.pointer (some ⟨B, 0, none⟩))) (b0 : w.cell? ⟨B, 0, none⟩ = some (.int .i64 d)) (b2 : w.cell? ⟨B, 2, none⟩ = some (.int .i64 a)) (c0 : w.cell? ⟨mb, 0, none⟩ = some (.slice (some ⟨bw, 0, none⟩) W W)) (k1 : 7 ≤ d) (k2 : d ≤ 11) (k3 : ¬ 0 ≤ a)
 (hmain : ∀ T', FrR mb pv iv most own T' → T'[9]? = some (.pointer (some ⟨B, 0, none⟩)) → J (G ((bN 41).at ⟨T', []⟩ (.code rR :: K)) cs) w) : J (G ((bN 41).at ⟨T, []⟩ (.code (.seq (.seq m3c (.cond (.tmp 53) rS .skip)) rR) :: K)) cs) w := by
 have d1 : decide (d ≥ 7) = true := by simpa using k1
 have d2 : decide (d ≤ 11) = true := by simpa using k2
 have d3 : decide (a ≥ 0) = false := by simpa using k3
 obtain ⟨hsz, f0, f1, f2, f3, f8⟩ := hF
 have hm := Lib.hid hmain
 clear hmain
 obtain ⟨u0, hu0⟩ : ∃ c, m3c = c := ⟨_, rfl⟩
 have eu0 := hu0
 rw [hu0]
 simp only [rL, rB, rS, rR, m1c, m2c, m3c, m4c, m5c, m6c, m7c, m8c, m9c, m10c, m11c, m12c, headC, tailN, Try.f41, al_od] at eu0
 subst eu0
 clear hu0
 refine hJ.ctl (s := ()) (fun w => stepG_seq) ?_
 refine hJ.ctl (s := ()) (fun w => stepG_seq) ?_
 refine at_evalGd (J := fun (_ : Unit) => J) (s := ()) hJ (by decide) (by rfl) [some (.pointer (some ⟨B, 0, none⟩)), some (.int .i64 d), some (.bool true), some (.bool true), some (.pointer (some ⟨B, 0, none⟩)), some (.int .i64 d), some (.bool true), some (.bool true), some (.bool true), some (.pointer (some ⟨B, 2, none⟩)), some (.int .i64 a), some (.bool false), some (.bool false), some (.bool false), none, none, none, none, none, none, none, none, some (.bool false)] (by rfl) (by rw [hsz]; kernel_rfl) ?_ ?_
 · intro τ d
   simp only [evalsG, dstOf, al_gl, al_g0, al_g1, al_ob]
   refine ⟨?_, ?_, ?_, ?_, ?_, ?_, ?_, ?_, ?_, ?_, ?_, ?_, ?_, ?_, ?_, ?_, ?_, ?_, ?_, ?_, ?_, ?_, ?_, trivial⟩ <;> (intro o ho; simp only [al_oi] at ho; subst ho)
   all_goals (first | refine ⟨by simp [Region.wanted, yielded, al_gs, hsz, f0, f1, f2, f3, f8, f9], ?_⟩ | (simp [Region.wanted, yielded, al_gs, hsz, f0, f1, f2, f3, f8, f9]; done))
   all_goals (try simp only [execOp, Act.eval, List.map_toArray, List.map_cons, List.map_nil, al_gd])
   all_goals (try simp only [al_gs, al_gz, hsz, f0, f1, f2, f3, f8, f9, Nat.reduceEqDiff, Nat.reduceLT, ↓reduceIte, al_od])
   all_goals (have hlt : ∀ i, i < 72 → i < (T).size := fun i hi => (by rw [hsz]; exact hi))
   all_goals (clear hsz f0 f1 f2 f3 f8 f9)
   all_goals (try go_simp)
   all_goals (try omega)
 simp only [putG, dstOf, al_gl, al_g0, al_g1, al_ob, al_od, Option.getD_none]
 obtain ⟨T1, hT⟩ : ∃ X, X = (((((((((((((((((((((((T).setIfInBounds 31 (.pointer (some ⟨B, 0, none⟩))).setIfInBounds 32 (.int .i64 d)).setIfInBounds 33 (.bool true)).setIfInBounds 34 (.bool true)).setIfInBounds 35 (.pointer (some ⟨B, 0, none⟩))).setIfInBounds 36 (.int .i64 d)).setIfInBounds 37 (.bool true)).setIfInBounds 38 (.bool true)).setIfInBounds 39 (.bool true)).setIfInBounds 40 (.pointer (some ⟨B, 2, none⟩))).setIfInBounds 41 (.int .i64 a)).setIfInBounds 42 (.bool false)).setIfInBounds 43 (.bool false)).setIfInBounds 44 (.bool false)).setIfInBounds 45 (undef)).setIfInBounds 46 (undef)).setIfInBounds 47 (undef)).setIfInBounds 48 (undef)).setIfInBounds 49 (undef)).setIfInBounds 50 (undef)).setIfInBounds 51 (undef)).setIfInBounds 52 (undef)).setIfInBounds 53 (.bool false) := ⟨_, rfl⟩
 rw [← hT]
 have hT1 : T1.size = 72 := by rw [hT]; simp [hsz]
 have T1_0 := sg23 hT f0
 have T1_1 := sg23 hT f1
 have T1_2 := sg23 hT f2
 have T1_3 := sg23 hT f3
 have T1_8 := sg23 hT f8
 have T1_9 := sg23 hT f9
 have T1_53 : T1[53]? = some (.bool false) := by rw [hT]; simp [al_gs, hsz]
 clear hT f0 f1 f2 f3 f8 f9 hsz
 refine hJ.ctl (s := ()) (fun w => stepG_region_end) ?_
 refine hJ.ctl (s := ()) (fun w => stepG_cond (t := false) (by simp [Act.eval, al_gd, T1_53])) ?_
 simp only [Bool.false_eq_true, if_false]
 refine hJ.ctl (s := ()) (fun w => stepG_skip) ?_
 exact hm.out _ ⟨hT1, T1_0, T1_1, T1_2, T1_3, T1_8⟩ T1_9
theorem run_what4 {Kc : Addr → Option Value} {J : Goroutine → World → Prop} (hJ : JX Try.prog Kc J) {mb : Nat} {pv iv : Value} {most own : Int} {T : Array Value} {w : World} {K : List Item} {cs : List Frame} (hF : FrR mb pv iv most own T) {B bw W : Nat} {d a : Int} (f9 : T[9]? = some (.pointer (some ⟨B, 0, none⟩))) (b0 : w.cell? ⟨B, 0, none⟩ = some (.int .i64 d)) (b2 : w.cell? ⟨B, 2, none⟩ = some (.int .i64 a)) (c0 : w.cell? ⟨mb, 0, none⟩ = some (.slice (some ⟨bw, 0, none⟩) W W)) (k1 : 7 ≤ d) (k2 : d ≤ 11) (k3 : 0 ≤ a) (k4 : ¬ a < W)
 (hmain : ∀ T', FrR mb pv iv most own T' → T'[9]? = some (.pointer (some ⟨B, 0, none⟩)) → J (G ((bN 41).at ⟨T', []⟩ (.code rR :: K)) cs) w) : J (G ((bN 41).at ⟨T, []⟩ (.code (.seq (.seq m3c (.cond (.tmp 53) rS .skip)) rR) :: K)) cs) w := by
 have d1 : decide (d ≥ 7) = true := by simpa using k1
 have d2 : decide (d ≤ 11) = true := by simpa using k2
 have d3 : decide (a ≥ 0) = true := by simpa using k3
 have d4 : decide (a < (W : Int)) = false := by simpa using k4
 obtain ⟨hsz, f0, f1, f2, f3, f8⟩ := hF
 have hm := Lib.hid hmain
 clear hmain
 obtain ⟨u0, hu0⟩ : ∃ c, m3c = c := ⟨_, rfl⟩
 have eu0 := hu0
 rw [hu0]
 simp only [rL, rB, rS, rR, m1c, m2c, m3c, m4c, m5c, m6c, m7c, m8c, m9c, m10c, m11c, m12c, headC, tailN, Try.f41, al_od] at eu0
 subst eu0
 clear hu0
 refine hJ.ctl (s := ()) (fun w => stepG_seq) ?_
 refine hJ.ctl (s := ()) (fun w => stepG_seq) ?_
 refine at_evalGd (J := fun (_ : Unit) => J) (s := ()) hJ (by decide) (by rfl) [some (.pointer (some ⟨B, 0, none⟩)), some (.int .i64 d), some (.bool true), some (.bool true), some (.pointer (some ⟨B, 0, none⟩)), some (.int .i64 d), some (.bool true), some (.bool true), some (.bool true), some (.pointer (some ⟨B, 2, none⟩)), some (.int .i64 a), some (.bool true), some (.bool true), some (.bool true), some (.pointer (some ⟨B, 2, none⟩)), some (.int .i64 a), some (.pointer (some ⟨mb, 0, none⟩)), some (.pointer (some ⟨mb, 0, none⟩)), some (.pointer (some ⟨mb, 0, none⟩)), some (.slice (some ⟨bw, 0, none⟩) W W), some (.int .i64 W), some (.bool false), some (.bool false)] (by rfl) (by rw [hsz]; kernel_rfl) ?_ ?_
 · intro τ d
   simp only [evalsG, dstOf, al_gl, al_g0, al_g1, al_ob]
   refine ⟨?_, ?_, ?_, ?_, ?_, ?_, ?_, ?_, ?_, ?_, ?_, ?_, ?_, ?_, ?_, ?_, ?_, ?_, ?_, ?_, ?_, ?_, ?_, trivial⟩ <;> (intro o ho; simp only [al_oi] at ho; subst ho)
   all_goals (first | refine ⟨by simp [Region.wanted, yielded, al_gs, hsz, f0, f1, f2, f3, f8, f9], ?_⟩ | (simp [Region.wanted, yielded, al_gs, hsz, f0, f1, f2, f3, f8, f9]; done))
   all_goals (try simp only [execOp, Act.eval, List.map_toArray, List.map_cons, List.map_nil, al_gd])
   all_goals (try simp only [al_gs, al_gz, hsz, f0, f1, f2, f3, f8, f9, Nat.reduceEqDiff, Nat.reduceLT, ↓reduceIte, al_od])
   all_goals (have hlt : ∀ i, i < 72 → i < (T).size := fun i hi => (by rw [hsz]; exact hi))
   all_goals (clear hsz f0 f1 f2 f3 f8 f9)
   all_goals (try go_simp)
   all_goals (try omega)
 simp only [putG, dstOf, al_gl, al_g0, al_g1, al_ob, al_od, Option.getD_none]
 obtain ⟨T1, hT⟩ : ∃ X, X = (((((((((((((((((((((((T).setIfInBounds 31 (.pointer (some ⟨B, 0, none⟩))).setIfInBounds 32 (.int .i64 d)).setIfInBounds 33 (.bool true)).setIfInBounds 34 (.bool true)).setIfInBounds 35 (.pointer (some ⟨B, 0, none⟩))).setIfInBounds 36 (.int .i64 d)).setIfInBounds 37 (.bool true)).setIfInBounds 38 (.bool true)).setIfInBounds 39 (.bool true)).setIfInBounds 40 (.pointer (some ⟨B, 2, none⟩))).setIfInBounds 41 (.int .i64 a)).setIfInBounds 42 (.bool true)).setIfInBounds 43 (.bool true)).setIfInBounds 44 (.bool true)).setIfInBounds 45 (.pointer (some ⟨B, 2, none⟩))).setIfInBounds 46 (.int .i64 a)).setIfInBounds 47 (.pointer (some ⟨mb, 0, none⟩))).setIfInBounds 48 (.pointer (some ⟨mb, 0, none⟩))).setIfInBounds 49 (.pointer (some ⟨mb, 0, none⟩))).setIfInBounds 50 (.slice (some ⟨bw, 0, none⟩) W W)).setIfInBounds 51 (.int .i64 W)).setIfInBounds 52 (.bool false)).setIfInBounds 53 (.bool false) := ⟨_, rfl⟩
 rw [← hT]
 have hT1 : T1.size = 72 := by rw [hT]; simp [hsz]
 have T1_0 := sg23 hT f0
 have T1_1 := sg23 hT f1
 have T1_2 := sg23 hT f2
 have T1_3 := sg23 hT f3
 have T1_8 := sg23 hT f8
 have T1_9 := sg23 hT f9
 have T1_53 : T1[53]? = some (.bool false) := by rw [hT]; simp [al_gs, hsz]
 clear hT f0 f1 f2 f3 f8 f9 hsz
 refine hJ.ctl (s := ()) (fun w => stepG_region_end) ?_
 refine hJ.ctl (s := ()) (fun w => stepG_cond (t := false) (by simp [Act.eval, al_gd, T1_53])) ?_
 simp only [Bool.false_eq_true, if_false]
 refine hJ.ctl (s := ()) (fun w => stepG_skip) ?_
 exact hm.out _ ⟨hT1, T1_0, T1_1, T1_2, T1_3, T1_8⟩ T1_9
theorem run_what5 {Kc : Addr → Option Value} {J : Goroutine → World → Prop} (hJ : JX Try.prog Kc J) {mb : Nat} {pv iv : Value} {most own : Int} {T : Array Value} {w : World} {K : List Item} {cs : List Frame} (hF : FrR mb pv iv most own T) {B bw W : Nat} {d a : Int} (f9 : T[9]? = some (.pointer (some ⟨B, 0, none⟩))) (b0 : w.cell? ⟨B, 0, none⟩ = some (.int .i64 d)) (b2 : w.cell? ⟨B, 2, none⟩ = some (.int .i64 a)) (c0 : w.cell? ⟨mb, 0, none⟩ = some (.slice (some ⟨bw, 0, none⟩) W W)) (k1 : 7 ≤ d) (k2 : d ≤ 11) (k3 : 0 ≤ a) (k4 : a < W)
 (hmain : ∀ T', FrR mb pv iv most own T' → T'[9]? = some (.pointer (some ⟨B, 0, none⟩)) → J (G ((bN 41).at ⟨T', []⟩ (.code rS :: .code rR :: K)) cs) w) : J (G ((bN 41).at ⟨T, []⟩ (.code (.seq (.seq m3c (.cond (.tmp 53) rS .skip)) rR) :: K)) cs) w := by
 have d1 : decide (d ≥ 7) = true := by simpa using k1
 have d2 : decide (d ≤ 11) = true := by simpa using k2
 have d3 : decide (a ≥ 0) = true := by simpa using k3
 have d4 : decide (a < (W : Int)) = true := by simpa using k4
 obtain ⟨hsz, f0, f1, f2, f3, f8⟩ := hF
 have hm := Lib.hid hmain
 clear hmain
 obtain ⟨u0, hu0⟩ : ∃ c, m3c = c := ⟨_, rfl⟩
 have eu0 := hu0
 rw [hu0]
 simp only [rL, rB, rS, rR, m1c, m2c, m3c, m4c, m5c, m6c, m7c, m8c, m9c, m10c, m11c, m12c, headC, tailN, Try.f41, al_od] at eu0
 subst eu0
 clear hu0
 refine hJ.ctl (s := ()) (fun w => stepG_seq) ?_
 refine hJ.ctl (s := ()) (fun w => stepG_seq) ?_
 refine at_evalGd (J := fun (_ : Unit) => J) (s := ()) hJ (by decide) (by rfl) [some (.pointer (some ⟨B, 0, none⟩)), some (.int .i64 d), some (.bool true), some (.bool true), some (.pointer (some ⟨B, 0, none⟩)), some (.int .i64 d), some (.bool true), some (.bool true), some (.bool true), some (.pointer (some ⟨B, 2, none⟩)), some (.int .i64 a), some (.bool true), some (.bool true), some (.bool true), some (.pointer (some ⟨B, 2, none⟩)), some (.int .i64 a), some (.pointer (some ⟨mb, 0, none⟩)), some (.pointer (some ⟨mb, 0, none⟩)), some (.pointer (some ⟨mb, 0, none⟩)), some (.slice (some ⟨bw, 0, none⟩) W W), some (.int .i64 W), some (.bool true), some (.bool true)] (by rfl) (by rw [hsz]; kernel_rfl) ?_ ?_
 · intro τ d
   simp only [evalsG, dstOf, al_gl, al_g0, al_g1, al_ob]
   refine ⟨?_, ?_, ?_, ?_, ?_, ?_, ?_, ?_, ?_, ?_, ?_, ?_, ?_, ?_, ?_, ?_, ?_, ?_, ?_, ?_, ?_, ?_, ?_, trivial⟩ <;> (intro o ho; simp only [al_oi] at ho; subst ho)
   all_goals (first | refine ⟨by simp [Region.wanted, yielded, al_gs, hsz, f0, f1, f2, f3, f8, f9], ?_⟩ | (simp [Region.wanted, yielded, al_gs, hsz, f0, f1, f2, f3, f8, f9]; done))
   all_goals (try simp only [execOp, Act.eval, List.map_toArray, List.map_cons, List.map_nil, al_gd])
   all_goals (try simp only [al_gs, al_gz, hsz, f0, f1, f2, f3, f8, f9, Nat.reduceEqDiff, Nat.reduceLT, ↓reduceIte, al_od])
   all_goals (have hlt : ∀ i, i < 72 → i < (T).size := fun i hi => (by rw [hsz]; exact hi))
   all_goals (clear hsz f0 f1 f2 f3 f8 f9)
   all_goals (try go_simp)
   all_goals (try omega)
 simp only [putG, dstOf, al_gl, al_g0, al_g1, al_ob, al_od, Option.getD_none]
 obtain ⟨T1, hT⟩ : ∃ X, X = (((((((((((((((((((((((T).setIfInBounds 31 (.pointer (some ⟨B, 0, none⟩))).setIfInBounds 32 (.int .i64 d)).setIfInBounds 33 (.bool true)).setIfInBounds 34 (.bool true)).setIfInBounds 35 (.pointer (some ⟨B, 0, none⟩))).setIfInBounds 36 (.int .i64 d)).setIfInBounds 37 (.bool true)).setIfInBounds 38 (.bool true)).setIfInBounds 39 (.bool true)).setIfInBounds 40 (.pointer (some ⟨B, 2, none⟩))).setIfInBounds 41 (.int .i64 a)).setIfInBounds 42 (.bool true)).setIfInBounds 43 (.bool true)).setIfInBounds 44 (.bool true)).setIfInBounds 45 (.pointer (some ⟨B, 2, none⟩))).setIfInBounds 46 (.int .i64 a)).setIfInBounds 47 (.pointer (some ⟨mb, 0, none⟩))).setIfInBounds 48 (.pointer (some ⟨mb, 0, none⟩))).setIfInBounds 49 (.pointer (some ⟨mb, 0, none⟩))).setIfInBounds 50 (.slice (some ⟨bw, 0, none⟩) W W)).setIfInBounds 51 (.int .i64 W)).setIfInBounds 52 (.bool true)).setIfInBounds 53 (.bool true) := ⟨_, rfl⟩
 rw [← hT]
 have hT1 : T1.size = 72 := by rw [hT]; simp [hsz]
 have T1_0 := sg23 hT f0
 have T1_1 := sg23 hT f1
 have T1_2 := sg23 hT f2
 have T1_3 := sg23 hT f3
 have T1_8 := sg23 hT f8
 have T1_9 := sg23 hT f9
 have T1_53 : T1[53]? = some (.bool true) := by rw [hT]; simp [al_gs, hsz]
 clear hT f0 f1 f2 f3 f8 f9 hsz
 refine hJ.ctl (s := ()) (fun w => stepG_region_end) ?_
 refine hJ.ctl (s := ()) (fun w => stepG_cond (t := true) (by simp [Act.eval, al_gd, T1_53])) ?_
 simp only [if_true]
 exact hm.out _ ⟨hT1, T1_0, T1_1, T1_2, T1_3, T1_8⟩ T1_9
noncomputable def yieldAt (T : Array Value) (K : List Item) : Frame := (bN 41).at ⟨T, []⟩ (.inRegion (match m7c with | .region _ ops _ => ops | _ => #[]) [1] :: .code (.seq m8c (.seq m9c (.exit 1))) :: K)
def conv (f : FuncId) (args : Array Value) : Prop := ∀ (w : World), (callFunc f args).run Try.prog w = .ok (.enter f args) w
theorem run_own {Kc : Addr → Option Value} {J : Goroutine → World → Prop} (hJ : JX Try.prog Kc J) {mb : Nat} {pv iv : Value} {most own : Int} {T : Array Value} {w : World} {K : List Item} {cs : List Frame} (hF : FrR mb pv iv most own T) {B : Nat} {d r a b v : Int} (f9 : T[9]? = some (.pointer (some ⟨B, 0, none⟩))) (e0 : w.cell? ⟨B, 0, none⟩ = some (.int .i64 d)) (e1 : w.cell? ⟨B, 1, none⟩ = some (.int .i64 r)) (e2 : w.cell? ⟨B, 2, none⟩ = some (.int .i64 a)) (e3 : w.cell? ⟨B, 3, none⟩ = some (.int .i64 b)) (e4 : w.cell? ⟨B, 4, none⟩ = some (.int .i64 v))
 (ho0 : 0 ≤ own) (ho1 : own < 4096)
 (hmain : ∀ (c : Frame) (T' : Array Value), FrR mb pv iv most (own + 1) T' → (∀ w', J (G ((bN 41).at ⟨T', []⟩ K) cs) w' → J (G (c.finish (.tuple #[])) cs) w') → J (G (Frame.enter Try.prog 50 #[.pointer (some ⟨mb, 0, none⟩), .agg #[.int .i64 d, .int .i64 r, .int .i64 a, .int .i64 b, .int .i64 v]] .normal) (c :: cs)) w) : J (G ((bN 41).at ⟨T, []⟩ (.code rR :: K)) cs) w := by
 have d0 : decide (own = 4096) = false := by simp; omega
 have d1 : IntKind.i64.wrap (own + 1) = own + 1 := IntWalk.i64_in _ (by omega)
 obtain ⟨hsz, f0, f1, f2, f3, f8⟩ := hF
 have hm := Lib.hid hmain
 clear hmain
 refine code_eq (J := fun (_ : Unit) => J) (s := ()) rR_eq ?_
 obtain ⟨u0, hu0⟩ : ∃ c, m10c = c := ⟨_, rfl⟩
 have eu0 := hu0
 rw [hu0]
 simp only [rL, rB, rS, rR, m1c, m2c, m3c, m4c, m5c, m6c, m7c, m8c, m9c, m10c, m11c, m12c, headC, tailN, Try.f41, al_od] at eu0
 subst eu0
 clear hu0
 obtain ⟨u1, hu1⟩ : ∃ c, m11c = c := ⟨_, rfl⟩
 have eu1 := hu1
 rw [hu1]
 simp only [rL, rB, rS, rR, m1c, m2c, m3c, m4c, m5c, m6c, m7c, m8c, m9c, m10c, m11c, m12c, headC, tailN, Try.f41, al_od] at eu1
 subst eu1
 clear hu1
 obtain ⟨u2, hu2⟩ : ∃ c, m12c = c := ⟨_, rfl⟩
 have eu2 := hu2
 rw [hu2]
 simp only [rL, rB, rS, rR, m1c, m2c, m3c, m4c, m5c, m6c, m7c, m8c, m9c, m10c, m11c, m12c, headC, tailN, Try.f41, al_od] at eu2
 subst eu2
 clear hu2
 refine hJ.ctl (s := ()) (fun w => stepG_seq) ?_
 refine hJ.ctl (s := ()) (fun w => stepG_seq) ?_
 refine hJ.ctl (s := ()) (fun w => stepG_region) ?_
 refine at_eval (J := fun (_ : Unit) => J) (s := ()) hJ (by decide) 0 [.int .i64 own, .bool false] [] rfl (by simp) (by rfl) ?_ ?_
 · intro τ d
   simp only [evalsO, dstOf, al_gl, al_g0, al_g1, al_ob]
   refine ⟨?_, ?_, trivial⟩ <;> (intro o ho; simp only [al_oi] at ho; subst ho)
   all_goals (try simp only [execOp, Act.eval, List.map_toArray, List.map_cons, List.map_nil, al_gd])
   all_goals (try simp only [al_gs, al_gz, hsz, f0, f1, f2, f3, f8, f9, Nat.reduceEqDiff, Nat.reduceLT, ↓reduceIte, al_od])
   all_goals (have hlt : ∀ i, i < 72 → i < (T).size := fun i hi => (by rw [hsz]; exact hi))
   all_goals (clear hsz f0 f1 f2 f3 f8 f9)
   all_goals (try go_simp)
   all_goals (try omega)
 simp only [putv, dstOf, al_gl, al_g0, al_g1, al_ob]
 obtain ⟨T1, hT⟩ : ∃ X, X = ((T).setIfInBounds 65 (.int .i64 own)).setIfInBounds 66 (.bool false) := ⟨_, rfl⟩
 rw [← hT]
 have hT1 : T1.size = 72 := by rw [hT]; simp [hsz]
 have T1_0 := sg2 hT f0
 have T1_1 := sg2 hT f1
 have T1_2 := sg2 hT f2
 have T1_3 := sg2 hT f3
 have T1_8 := sg2 hT f8
 have T1_9 := sg2 hT f9
 have T1_66 : T1[66]? = some (.bool false) := by rw [hT]; simp [al_gs, hsz]
 clear hT f0 f1 f2 f3 f8 f9 hsz
 refine hJ.ctl (s := ()) (fun w => stepG_region_end) ?_
 refine hJ.ctl (s := ()) (fun w => stepG_cond (t := false) (by simp [Act.eval, al_gd, T1_66])) ?_
 simp only [Bool.false_eq_true, if_false]
 refine hJ.ctl (s := ()) (fun w => stepG_skip) ?_
 refine hJ.ctl (s := ()) (fun w => stepG_seq) ?_
 refine hJ.ctl (s := ()) (fun w => stepG_region) ?_
 refine at_eval (J := fun (_ : Unit) => J) (s := ()) hJ (by decide) 0 [.int .i64 own, .int .i64 (own + 1), .int .i64 (own + 1)] [] rfl (by simp) (by rfl) ?_ ?_
 · intro τ d
   simp only [evalsO, dstOf, al_gl, al_g0, al_g1, al_ob]
   refine ⟨?_, ?_, ?_, trivial⟩ <;> (intro o ho; simp only [al_oi] at ho; subst ho)
   all_goals (try simp only [execOp, Act.eval, List.map_toArray, List.map_cons, List.map_nil, al_gd])
   all_goals (try simp only [al_gs, al_gz, hT1, T1_0, T1_1, T1_2, T1_3, T1_8, T1_9, T1_66, Nat.reduceEqDiff, Nat.reduceLT, ↓reduceIte, al_od])
   all_goals (have hlt : ∀ i, i < 72 → i < (T1).size := fun i hi => (by rw [hT1]; exact hi))
   all_goals (clear hT1 T1_0 T1_1 T1_2 T1_3 T1_8 T1_9 T1_66)
   all_goals (try go_simp)
   all_goals (try omega)
 simp only [putv, dstOf, al_gl, al_g0, al_g1, al_ob]
 obtain ⟨T2, hT⟩ : ∃ X, X = (((T1).setIfInBounds 67 (.int .i64 own)).setIfInBounds 68 (.int .i64 (own + 1))).setIfInBounds 8 (.int .i64 (own + 1)) := ⟨_, rfl⟩
 rw [← hT]
 have hT2 : T2.size = 72 := by rw [hT]; simp [hT1]
 have T2_0 := sg3 hT T1_0
 have T2_1 := sg3 hT T1_1
 have T2_2 := sg3 hT T1_2
 have T2_3 := sg3 hT T1_3
 have T2_9 := sg3 hT T1_9
 have T2_8 : T2[8]? = some (.int .i64 (own + 1)) := by rw [hT]; simp [al_gs, hT1]
 clear hT T1_0 T1_1 T1_2 T1_3 T1_8 T1_9 T1_66 hT1
 refine hJ.ctl (s := ()) (fun w => stepG_region_end) ?_
 refine hJ.ctl (s := ()) (fun w => stepG_region) ?_
 refine at_eval (J := fun (_ : Unit) => J) (s := ()) hJ (by decide) 0 [.pointer (some ⟨mb, 0, none⟩), .agg #[.int .i64 d, .int .i64 r, .int .i64 a, .int .i64 b, .int .i64 v]] [2] rfl (by simp) (by rfl) ?_ ?_
 · intro τ d
   simp only [evalsO, dstOf, al_gl, al_g0, al_g1, al_ob]
   refine ⟨?_, ?_, trivial⟩ <;> (intro o ho; simp only [al_oi] at ho; subst ho)
   all_goals (try simp only [execOp, Act.eval, List.map_toArray, List.map_cons, List.map_nil, al_gd])
   all_goals (try simp only [al_gs, al_gz, hT2, T2_0, T2_1, T2_2, T2_3, T2_9, T2_8, Nat.reduceEqDiff, Nat.reduceLT, ↓reduceIte, al_od])
   all_goals (have hlt : ∀ i, i < 72 → i < (T2).size := fun i hi => (by rw [hT2]; exact hi))
   all_goals (clear hT2 T2_0 T2_1 T2_2 T2_3 T2_9 T2_8)
   all_goals (try go_simp)
   all_goals (try omega)
 simp only [putv, dstOf, al_gl, al_g0, al_g1, al_ob]
 obtain ⟨T3, hT⟩ : ∃ X, X = ((T2).setIfInBounds 69 (.pointer (some ⟨mb, 0, none⟩))).setIfInBounds 70 (.agg #[.int .i64 d, .int .i64 r, .int .i64 a, .int .i64 b, .int .i64 v]) := ⟨_, rfl⟩
 rw [← hT]
 have hT3 : T3.size = 72 := by rw [hT]; simp [hT2]
 have T3_0 := sg2 hT T2_0
 have T3_1 := sg2 hT T2_1
 have T3_2 := sg2 hT T2_2
 have T3_3 := sg2 hT T2_3
 have T3_9 := sg2 hT T2_9
 have T3_8 := sg2 hT T2_8
 have T3_69 : T3[69]? = some (.pointer (some ⟨mb, 0, none⟩)) := by rw [hT]; simp [al_gs, hT2]
 have T3_70 : T3[70]? = some (.agg #[.int .i64 d, .int .i64 r, .int .i64 a, .int .i64 b, .int .i64 v]) := by rw [hT]; simp [al_gs, hT2]
 clear hT T2_0 T2_1 T2_2 T2_3 T2_9 T2_8 hT2
 refine at_call (J := fun (_ : Unit) => J) (s := ()) (by decide) hJ (i := 2) (rest := []) rfl rfl (f := 50) (args := #[.pointer (some ⟨mb, 0, none⟩), .agg #[.int .i64 d, .int .i64 r, .int .i64 a, .int .i64 b, .int .i64 v]]) (fun τ d => ?_) (fun τ d => ?_) ?_
 · simp [go_sem, execOp, Act.eval, resolve, Deferred.ofValue, invoke, callFunc, Try.func50, Try.f50, al_gd, T3_69, T3_70]
 · intro e he
   simp [go_sem, execOp, Act.eval, resolve, Deferred.ofValue, invoke, callFunc, Try.func50, Try.f50, Sem.runT_eq, al_gd, T3_69, T3_70] at he
 have g9 : FrR mb pv iv most (own + 1) (T3.setIfInBounds 71 (.tuple #[])) := by
  refine ⟨by simp [hT3], ?_, ?_, ?_, ?_, ?_⟩ <;> rw [al_gn (by decide)] <;> assumption
 refine hm.out _ _ g9 (fun w' h => ?_)
 rw [Frame.finish_at]
 try walk_nrm
 refine hJ.ctl (s := ()) (fun w => stepG_region_end) ?_
 exact h
theorem run_most {Kc : Addr → Option Value} {J : Goroutine → World → Prop} (hJ : JX Try.prog Kc J) {mb : Nat} {pv iv : Value} {most own : Int} {T : Array Value} {w : World} {K : List Item} {cl : Frame} {cs : List Frame} (hF : FrR mb pv iv most own T) (ho : own = 4096) (hmain : J (G (cl.finish (.tuple #[])) cs) w) : J (G ((bN 41).at ⟨T, []⟩ (.code rR :: K)) (cl :: cs)) w := by
 subst ho
 obtain ⟨hsz, f0, f1, f2, f3, f8⟩ := hF
 have hm := Lib.hid hmain
 clear hmain
 refine code_eq (J := fun (_ : Unit) => J) (s := ()) rR_eq ?_
 obtain ⟨u0, hu0⟩ : ∃ c, m10c = c := ⟨_, rfl⟩
 have eu0 := hu0
 rw [hu0]
 simp only [rL, rB, rS, rR, m1c, m2c, m3c, m4c, m5c, m6c, m7c, m8c, m9c, m10c, m11c, m12c, headC, tailN, Try.f41, al_od] at eu0
 subst eu0
 clear hu0
 refine hJ.ctl (s := ()) (fun w => stepG_seq) ?_
 refine hJ.ctl (s := ()) (fun w => stepG_seq) ?_
 refine hJ.ctl (s := ()) (fun w => stepG_region) ?_
 refine at_eval (J := fun (_ : Unit) => J) (s := ()) hJ (by decide) 0 [.int .i64 4096, .bool true] [] rfl (by simp) (by rfl) ?_ ?_
 · intro τ d
   simp only [evalsO, dstOf, al_gl, al_g0, al_g1, al_ob]
   refine ⟨?_, ?_, trivial⟩ <;> (intro o ho; simp only [al_oi] at ho; subst ho)
   all_goals (try simp only [execOp, Act.eval, List.map_toArray, List.map_cons, List.map_nil, al_gd])
   all_goals (try simp only [al_gs, al_gz, hsz, f0, f1, f2, f3, f8, Nat.reduceEqDiff, Nat.reduceLT, ↓reduceIte, al_od])
   all_goals (have hlt : ∀ i, i < 72 → i < (T).size := fun i hi => (by rw [hsz]; exact hi))
   all_goals (clear hsz f0 f1 f2 f3 f8)
   all_goals (try go_simp)
   all_goals (try omega)
 simp only [putv, dstOf, al_gl, al_g0, al_g1, al_ob]
 obtain ⟨T1, hT⟩ : ∃ X, X = ((T).setIfInBounds 65 (.int .i64 4096)).setIfInBounds 66 (.bool true) := ⟨_, rfl⟩
 rw [← hT]
 have hT1 : T1.size = 72 := by rw [hT]; simp [hsz]
 have T1_0 := sg2 hT f0
 have T1_66 : T1[66]? = some (.bool true) := by rw [hT]; simp [al_gs, hsz]
 clear hT f0 f1 f2 f3 f8 hsz
 refine hJ.ctl (s := ()) (fun w => stepG_region_end) ?_
 refine hJ.ctl (s := ()) (fun w => stepG_cond (t := true) (by simp [Act.eval, al_gd, T1_66])) ?_
 simp only [if_true]
 refine hJ.ctl (s := ()) (fun w => stepG_ret') ?_
 refine leaveJ (s := ()) hJ (b := bN 41) rfl rfl Try.func41 (fun τ d => ?_) hm.out
 simp only [results, Try.f41]
 simp [go_sem]
theorem run_stop {Kc : Addr → Option Value} {J : Goroutine → World → Prop} (hJ : JX Try.prog Kc J) {mb : Nat} {pv iv : Value} {most own : Int} {T : Array Value} {w : World} {K : List Item} {cl : Frame} {cs : List Frame} (hF : FrR mb pv iv most own T) (ho : most = 0) (hmain : J (G (cl.finish (.tuple #[])) cs) w) : J (G ((bN 41).at ⟨T, []⟩ (.code rS :: K)) (cl :: cs)) w := by
 subst ho
 obtain ⟨hsz, f0, f1, f2, f3, f8⟩ := hF
 have hm := Lib.hid hmain
 clear hmain
 refine code_eq (J := fun (_ : Unit) => J) (s := ()) rS_eq ?_
 obtain ⟨u0, hu0⟩ : ∃ c, m4c = c := ⟨_, rfl⟩
 have eu0 := hu0
 rw [hu0]
 simp only [rL, rB, rS, rR, m1c, m2c, m3c, m4c, m5c, m6c, m7c, m8c, m9c, m10c, m11c, m12c, headC, tailN, Try.f41, al_od] at eu0
 subst eu0
 clear hu0
 refine hJ.ctl (s := ()) (fun w => stepG_seq) ?_
 refine hJ.ctl (s := ()) (fun w => stepG_seq) ?_
 refine hJ.ctl (s := ()) (fun w => stepG_region) ?_
 refine at_eval (J := fun (_ : Unit) => J) (s := ()) hJ (by decide) 0 [.int .i64 0, .bool true] [] rfl (by simp) (by rfl) ?_ ?_
 · intro τ d
   simp only [evalsO, dstOf, al_gl, al_g0, al_g1, al_ob]
   refine ⟨?_, ?_, trivial⟩ <;> (intro o ho; simp only [al_oi] at ho; subst ho)
   all_goals (try simp only [execOp, Act.eval, List.map_toArray, List.map_cons, List.map_nil, al_gd])
   all_goals (try simp only [al_gs, al_gz, hsz, f0, f1, f2, f3, f8, Nat.reduceEqDiff, Nat.reduceLT, ↓reduceIte, al_od])
   all_goals (have hlt : ∀ i, i < 72 → i < (T).size := fun i hi => (by rw [hsz]; exact hi))
   all_goals (clear hsz f0 f1 f2 f3 f8)
   all_goals (try go_simp)
   all_goals (try omega)
 simp only [putv, dstOf, al_gl, al_g0, al_g1, al_ob]
 obtain ⟨T1, hT⟩ : ∃ X, X = ((T).setIfInBounds 54 (.int .i64 0)).setIfInBounds 55 (.bool true) := ⟨_, rfl⟩
 rw [← hT]
 have hT1 : T1.size = 72 := by rw [hT]; simp [hsz]
 have T1_0 := sg2 hT f0
 have T1_55 : T1[55]? = some (.bool true) := by rw [hT]; simp [al_gs, hsz]
 clear hT f0 f1 f2 f3 f8 hsz
 refine hJ.ctl (s := ()) (fun w => stepG_region_end) ?_
 refine hJ.ctl (s := ()) (fun w => stepG_cond (t := true) (by simp [Act.eval, al_gd, T1_55])) ?_
 simp only [if_true]
 refine hJ.ctl (s := ()) (fun w => stepG_ret') ?_
 refine leaveJ (s := ()) hJ (b := bN 41) rfl rfl Try.func41 (fun τ d => ?_) hm.out
 simp only [results, Try.f41]
 simp [go_sem]
theorem run_yield {Kc : Addr → Option Value} {J : Goroutine → World → Prop} (hJ : JX Try.prog Kc J) {mb : Nat} {pv iv : Value} {most own : Int} {T : Array Value} {w : World} {K : List Item} {cs : List Frame} (hF : FrR mb pv iv most own T) {B : Nat} {ti : TypeId} {sx : Value} (hiv : iv = .iface ti sx) (f9 : T[9]? = some (.pointer (some ⟨B, 0, none⟩))) (ho : ¬ most = 0)
 (hcall : ∀ (o : Oper) (a : Act), o.op = .call { callee := .invoke (.tmp 60) "Step", args := #[], argTypes := #[] } → a.eval (.tmp 60) = .iface ti sx → ∀ w, (execOp a.eval o).run Try.prog w = .ok (.enter 74 #[sx]) w)
 (hev : ∀ (o : Oper) (a : Act), o.op = .call { callee := .invoke (.tmp 60) "Step", args := #[], argTypes := #[] } → a.eval (.tmp 60) = .iface ti sx → ∀ w, ∀ e ∈ ((execOp a.eval o).runT Try.prog w #[]).2, EvOk Kc e)
 (hmain : ∀ T', FrR mb pv iv (IntKind.i64.wrap (most - 1)) own T' → T'[9]? = some (.pointer (some ⟨B, 0, none⟩)) → J (G (Frame.enter Try.prog 74 #[sx] .normal) (yieldAt T' K :: cs)) w) : J (G ((bN 41).at ⟨T, []⟩ (.code rS :: K)) cs) w := by
 subst hiv
 have d0 : decide (most = 0) = false := by simp; omega
 obtain ⟨hsz, f0, f1, f2, f3, f8⟩ := hF
 have hm := Lib.hid hmain
 clear hmain
 refine code_eq (J := fun (_ : Unit) => J) (s := ()) rS_eq ?_
 obtain ⟨u0, hu0⟩ : ∃ c, m4c = c := ⟨_, rfl⟩
 have eu0 := hu0
 rw [hu0]
 simp only [rL, rB, rS, rR, m1c, m2c, m3c, m4c, m5c, m6c, m7c, m8c, m9c, m10c, m11c, m12c, headC, tailN, Try.f41, al_od] at eu0
 subst eu0
 clear hu0
 obtain ⟨u1, hu1⟩ : ∃ c, m5c = c := ⟨_, rfl⟩
 have eu1 := hu1
 rw [hu1]
 simp only [rL, rB, rS, rR, m1c, m2c, m3c, m4c, m5c, m6c, m7c, m8c, m9c, m10c, m11c, m12c, headC, tailN, Try.f41, al_od] at eu1
 subst eu1
 clear hu1
 obtain ⟨u2, hu2⟩ : ∃ c, m6c = c := ⟨_, rfl⟩
 have eu2 := hu2
 rw [hu2]
 simp only [rL, rB, rS, rR, m1c, m2c, m3c, m4c, m5c, m6c, m7c, m8c, m9c, m10c, m11c, m12c, headC, tailN, Try.f41, al_od] at eu2
 subst eu2
 clear hu2
 refine hJ.ctl (s := ()) (fun w => stepG_seq) ?_
 refine hJ.ctl (s := ()) (fun w => stepG_seq) ?_
 refine hJ.ctl (s := ()) (fun w => stepG_region) ?_
 refine at_eval (J := fun (_ : Unit) => J) (s := ()) hJ (by decide) 0 [.int .i64 most, .bool false] [] rfl (by simp) (by rfl) ?_ ?_
 · intro τ d
   simp only [evalsO, dstOf, al_gl, al_g0, al_g1, al_ob]
   refine ⟨?_, ?_, trivial⟩ <;> (intro o ho; simp only [al_oi] at ho; subst ho)
   all_goals (try simp only [execOp, Act.eval, List.map_toArray, List.map_cons, List.map_nil, al_gd])
   all_goals (try simp only [al_gs, al_gz, hsz, f0, f1, f2, f3, f8, f9, Nat.reduceEqDiff, Nat.reduceLT, ↓reduceIte, al_od])
   all_goals (have hlt : ∀ i, i < 72 → i < (T).size := fun i hi => (by rw [hsz]; exact hi))
   all_goals (clear hsz f0 f1 f2 f3 f8 f9)
   all_goals (try go_simp)
   all_goals (try omega)
 simp only [putv, dstOf, al_gl, al_g0, al_g1, al_ob]
 obtain ⟨T1, hT⟩ : ∃ X, X = ((T).setIfInBounds 54 (.int .i64 most)).setIfInBounds 55 (.bool false) := ⟨_, rfl⟩
 rw [← hT]
 have hT1 : T1.size = 72 := by rw [hT]; simp [hsz]
 have T1_0 := sg2 hT f0
 have T1_1 := sg2 hT f1
 have T1_2 := sg2 hT f2
 have T1_3 := sg2 hT f3
 have T1_8 := sg2 hT f8
 have T1_9 := sg2 hT f9
 have T1_55 : T1[55]? = some (.bool false) := by rw [hT]; simp [al_gs, hsz]
 clear hT f0 f1 f2 f3 f8 f9 hsz
 refine hJ.ctl (s := ()) (fun w => stepG_region_end) ?_
 refine hJ.ctl (s := ()) (fun w => stepG_cond (t := false) (by simp [Act.eval, al_gd, T1_55])) ?_
 simp only [Bool.false_eq_true, if_false]
 refine hJ.ctl (s := ()) (fun w => stepG_skip) ?_
 refine hJ.ctl (s := ()) (fun w => stepG_seq) ?_
 refine hJ.ctl (s := ()) (fun w => stepG_region) ?_
 refine at_eval (J := fun (_ : Unit) => J) (s := ()) hJ (by decide) 0 [.int .i64 most, .int .i64 (IntKind.i64.wrap (most - 1)), .int .i64 (IntKind.i64.wrap (most - 1))] [] rfl (by simp) (by rfl) ?_ ?_
 · intro τ d
   simp only [evalsO, dstOf, al_gl, al_g0, al_g1, al_ob]
   refine ⟨?_, ?_, ?_, trivial⟩ <;> (intro o ho; simp only [al_oi] at ho; subst ho)
   all_goals (try simp only [execOp, Act.eval, List.map_toArray, List.map_cons, List.map_nil, al_gd])
   all_goals (try simp only [al_gs, al_gz, hT1, T1_0, T1_1, T1_2, T1_3, T1_8, T1_9, T1_55, Nat.reduceEqDiff, Nat.reduceLT, ↓reduceIte, al_od])
   all_goals (have hlt : ∀ i, i < 72 → i < (T1).size := fun i hi => (by rw [hT1]; exact hi))
   all_goals (clear hT1 T1_0 T1_1 T1_2 T1_3 T1_8 T1_9 T1_55)
   all_goals (try go_simp)
   all_goals (try omega)
 simp only [putv, dstOf, al_gl, al_g0, al_g1, al_ob]
 obtain ⟨T2, hT⟩ : ∃ X, X = (((T1).setIfInBounds 56 (.int .i64 most)).setIfInBounds 57 (.int .i64 (IntKind.i64.wrap (most - 1)))).setIfInBounds 3 (.int .i64 (IntKind.i64.wrap (most - 1))) := ⟨_, rfl⟩
 rw [← hT]
 have hT2 : T2.size = 72 := by rw [hT]; simp [hT1]
 have T2_0 := sg3 hT T1_0
 have T2_1 := sg3 hT T1_1
 have T2_2 := sg3 hT T1_2
 have T2_8 := sg3 hT T1_8
 have T2_9 := sg3 hT T1_9
 have T2_3 : T2[3]? = some (.int .i64 (IntKind.i64.wrap (most - 1))) := by rw [hT]; simp [al_gs, hT1]
 clear hT T1_0 T1_1 T1_2 T1_3 T1_8 T1_9 T1_55 hT1
 refine hJ.ctl (s := ()) (fun w => stepG_region_end) ?_
 refine hJ.ctl (s := ()) (fun w => stepG_seq) ?_
 refine hJ.ctl (s := ()) (fun w => stepG_seq) ?_
 refine hJ.ctl (s := ()) (fun w => stepG_region) ?_
 refine at_eval (J := fun (_ : Unit) => J) (s := ()) hJ (by decide) 0 [.iface ti sx, .bool true] [] rfl (by simp) (by rfl) ?_ ?_
 · intro τ d
   simp only [evalsO, dstOf, al_gl, al_g0, al_g1, al_ob]
   refine ⟨?_, ?_, trivial⟩ <;> (intro o ho; simp only [al_oi] at ho; subst ho)
   all_goals (try simp only [execOp, Act.eval, List.map_toArray, List.map_cons, List.map_nil, al_gd])
   all_goals (try simp only [al_gs, al_gz, hT2, T2_0, T2_1, T2_2, T2_8, T2_9, T2_3, Nat.reduceEqDiff, Nat.reduceLT, ↓reduceIte, al_od])
   all_goals (have hlt : ∀ i, i < 72 → i < (T2).size := fun i hi => (by rw [hT2]; exact hi))
   all_goals (clear hT2 T2_0 T2_1 T2_2 T2_8 T2_9 T2_3)
   all_goals (try go_simp)
   all_goals (try omega)
 simp only [putv, dstOf, al_gl, al_g0, al_g1, al_ob]
 obtain ⟨T3, hT⟩ : ∃ X, X = ((T2).setIfInBounds 58 (.iface ti sx)).setIfInBounds 59 (.bool true) := ⟨_, rfl⟩
 rw [← hT]
 have hT3 : T3.size = 72 := by rw [hT]; simp [hT2]
 have T3_0 := sg2 hT T2_0
 have T3_1 := sg2 hT T2_1
 have T3_2 := sg2 hT T2_2
 have T3_8 := sg2 hT T2_8
 have T3_9 := sg2 hT T2_9
 have T3_3 := sg2 hT T2_3
 have T3_59 : T3[59]? = some (.bool true) := by rw [hT]; simp [al_gs, hT2]
 clear hT T2_0 T2_1 T2_2 T2_8 T2_9 T2_3 hT2
 refine hJ.ctl (s := ()) (fun w => stepG_region_end) ?_
 refine hJ.ctl (s := ()) (fun w => stepG_cond (t := true) (by simp [Act.eval, al_gd, T3_59])) ?_
 simp only [if_true]
 obtain ⟨u9, hu9⟩ : ∃ c, m7c = c := ⟨_, rfl⟩
 have eu9 := hu9
 simp only [yieldAt] at hm
 rw [hu9] at hm ⊢
 simp only [rL, rB, rS, rR, m7c, headC, tailN, Try.f41, al_od] at eu9
 subst eu9
 clear hu9
 refine hJ.ctl (s := ()) (fun w => stepG_region) ?_
 refine at_eval (J := fun (_ : Unit) => J) (s := ()) hJ (by decide) 0 [.iface ti sx] [1] rfl (by simp) (by rfl) ?_ ?_
 · intro τ d
   simp only [evalsO, dstOf, al_gl, al_g0, al_g1, al_ob]
   refine ⟨?_, trivial⟩ <;> (intro o ho; simp only [al_oi] at ho; subst ho)
   all_goals (try simp only [execOp, Act.eval, List.map_toArray, List.map_cons, List.map_nil, al_gd])
   all_goals (try simp only [al_gs, al_gz, hT3, T3_0, T3_1, T3_2, T3_8, T3_9, T3_3, T3_59, Nat.reduceEqDiff, Nat.reduceLT, ↓reduceIte, al_od])
   all_goals (have hlt : ∀ i, i < 72 → i < (T3).size := fun i hi => (by rw [hT3]; exact hi))
   all_goals (clear hT3 T3_0 T3_1 T3_2 T3_8 T3_9 T3_3 T3_59)
   all_goals (try go_simp)
   all_goals (try omega)
 simp only [putv, dstOf, al_gl, al_g0, al_g1, al_ob]
 obtain ⟨T4, hT⟩ : ∃ X, X = (T3).setIfInBounds 60 (.iface ti sx) := ⟨_, rfl⟩
 rw [← hT]
 have hT4 : T4.size = 72 := by rw [hT]; simp [hT3]
 have T4_0 := sg1 hT T3_0
 have T4_1 := sg1 hT T3_1
 have T4_2 := sg1 hT T3_2
 have T4_8 := sg1 hT T3_8
 have T4_9 := sg1 hT T3_9
 have T4_3 := sg1 hT T3_3
 have T4_60 : T4[60]? = some (.iface ti sx) := by rw [hT]; simp [al_gs, hT3]
 clear hT T3_0 T3_1 T3_2 T3_8 T3_9 T3_3 T3_59 hT3
 refine at_call (J := fun (_ : Unit) => J) (s := ()) (by decide) hJ (i := 1) (rest := []) rfl rfl (f := 74) (args := #[sx]) (fun τ d => ?_) (fun τ d => ?_) ?_
 · exact hcall _ _ rfl (by simp [Act.eval, al_gd, T4_60]) _
 · exact hev _ _ rfl (by simp [Act.eval, al_gd, T4_60]) _
 exact hm.out _ ⟨hT4, T4_0, T4_1, T4_2, T4_3, T4_8⟩ T4_9
theorem run_step {Kc : Addr → Option Value} {J : Goroutine → World → Prop} (hJ : JX Try.prog Kc J) {mb : Nat} {pv iv : Value} {most own : Int} {T : Array Value} {w : World} {K : List Item} {cs : List Frame} (hF : FrR mb pv iv most own T) {B : Nat} {d r a b v : Int} (f9 : T[9]? = some (.pointer (some ⟨B, 0, none⟩))) (e0 : w.cell? ⟨B, 0, none⟩ = some (.int .i64 d)) (e1 : w.cell? ⟨B, 1, none⟩ = some (.int .i64 r)) (e2 : w.cell? ⟨B, 2, none⟩ = some (.int .i64 a)) (e3 : w.cell? ⟨B, 3, none⟩ = some (.int .i64 b)) (e4 : w.cell? ⟨B, 4, none⟩ = some (.int .i64 v))
 (hmain : ∀ (c : Frame) (T' : Array Value), FrR mb pv iv most 0 T' → (∀ w', J (G ((bN 41).at ⟨T', []⟩ K) cs) w' → J (G (c.finish (.tuple #[])) cs) w') → J (G (Frame.enter Try.prog 49 #[.pointer (some ⟨mb, 0, none⟩), .agg #[.int .i64 d, .int .i64 r, .int .i64 a, .int .i64 b, .int .i64 v]] .normal) (c :: cs)) w) : J (G ((bN 41).at ⟨T, []⟩ (.code (.seq m8c (.seq m9c (.exit 1))) :: .code rR :: .inBlock 1 :: K)) cs) w := by
 obtain ⟨hsz, f0, f1, f2, f3, f8⟩ := hF
 have hm := Lib.hid hmain
 clear hmain
 obtain ⟨u0, hu0⟩ : ∃ c, m8c = c := ⟨_, rfl⟩
 have eu0 := hu0
 rw [hu0]
 simp only [rL, rB, rS, rR, m1c, m2c, m3c, m4c, m5c, m6c, m7c, m8c, m9c, m10c, m11c, m12c, headC, tailN, Try.f41, al_od] at eu0
 subst eu0
 clear hu0
 obtain ⟨u1, hu1⟩ : ∃ c, m9c = c := ⟨_, rfl⟩
 have eu1 := hu1
 rw [hu1]
 simp only [rL, rB, rS, rR, m1c, m2c, m3c, m4c, m5c, m6c, m7c, m8c, m9c, m10c, m11c, m12c, headC, tailN, Try.f41, al_od] at eu1
 subst eu1
 clear hu1
 refine hJ.ctl (s := ()) (fun w => stepG_seq) ?_
 refine hJ.ctl (s := ()) (fun w => stepG_region) ?_
 refine at_eval (J := fun (_ : Unit) => J) (s := ()) hJ (by decide) 0 [.pointer (some ⟨mb, 0, none⟩), .agg #[.int .i64 d, .int .i64 r, .int .i64 a, .int .i64 b, .int .i64 v]] [2] rfl (by simp) (by rfl) ?_ ?_
 · intro τ d
   simp only [evalsO, dstOf, al_gl, al_g0, al_g1, al_ob]
   refine ⟨?_, ?_, trivial⟩ <;> (intro o ho; simp only [al_oi] at ho; subst ho)
   all_goals (try simp only [execOp, Act.eval, List.map_toArray, List.map_cons, List.map_nil, al_gd])
   all_goals (try simp only [al_gs, al_gz, hsz, f0, f1, f2, f3, f8, f9, Nat.reduceEqDiff, Nat.reduceLT, ↓reduceIte, al_od])
   all_goals (have hlt : ∀ i, i < 72 → i < (T).size := fun i hi => (by rw [hsz]; exact hi))
   all_goals (clear hsz f0 f1 f2 f3 f8 f9)
   all_goals (try go_simp)
   all_goals (try omega)
 simp only [putv, dstOf, al_gl, al_g0, al_g1, al_ob]
 obtain ⟨T1, hT⟩ : ∃ X, X = ((T).setIfInBounds 62 (.pointer (some ⟨mb, 0, none⟩))).setIfInBounds 63 (.agg #[.int .i64 d, .int .i64 r, .int .i64 a, .int .i64 b, .int .i64 v]) := ⟨_, rfl⟩
 rw [← hT]
 have hT1 : T1.size = 72 := by rw [hT]; simp [hsz]
 have T1_0 := sg2 hT f0
 have T1_1 := sg2 hT f1
 have T1_2 := sg2 hT f2
 have T1_3 := sg2 hT f3
 have T1_8 := sg2 hT f8
 have T1_9 := sg2 hT f9
 have T1_62 : T1[62]? = some (.pointer (some ⟨mb, 0, none⟩)) := by rw [hT]; simp [al_gs, hsz]
 have T1_63 : T1[63]? = some (.agg #[.int .i64 d, .int .i64 r, .int .i64 a, .int .i64 b, .int .i64 v]) := by rw [hT]; simp [al_gs, hsz]
 clear hT f0 f1 f2 f3 f8 f9 hsz
 refine at_call (J := fun (_ : Unit) => J) (s := ()) (by decide) hJ (i := 2) (rest := []) rfl rfl (f := 49) (args := #[.pointer (some ⟨mb, 0, none⟩), .agg #[.int .i64 d, .int .i64 r, .int .i64 a, .int .i64 b, .int .i64 v]]) (fun τ d => ?_) (fun τ d => ?_) ?_
 · simp [go_sem, execOp, Act.eval, resolve, Deferred.ofValue, invoke, callFunc, Try.func49, Try.f49, al_gd, T1_62, T1_63]
 · intro e he
   simp [go_sem, execOp, Act.eval, resolve, Deferred.ofValue, invoke, callFunc, Try.func49, Try.f49, Sem.runT_eq, al_gd, T1_62, T1_63] at he
 obtain ⟨T9, hT9⟩ : ∃ X, X = (T1.setIfInBounds 64 (.tuple #[])).setIfInBounds 8 (.int .i64 0) := ⟨_, rfl⟩
 have g9 : FrR mb pv iv most 0 T9 := by
  rw [hT9]
  refine ⟨by simp [hT1], ?_, ?_, ?_, ?_, by simp [hT1]⟩ <;> rw [al_gn (by decide), al_gn (by decide)] <;> assumption
 refine hm.out _ T9 g9 (fun w' h => ?_)
 rw [Frame.finish_at]
 try walk_nrm
 refine hJ.ctl (s := ()) (fun w => stepG_region_end) ?_
 refine hJ.ctl (s := ()) (fun w => stepG_seq) ?_
 refine hJ.ctl (s := ()) (fun w => stepG_region) ?_
 refine at_eval (J := fun (_ : Unit) => J) (s := ()) hJ (by decide) 0 [.int .i64 0] [] rfl (by simp) (by rfl) ?_ ?_
 · intro τ d
   simp only [evalsO, dstOf, al_gl, al_g0, al_ob]
   refine ⟨?_, trivial⟩
   intro o ho; simp only [al_oi] at ho; subst ho
   rfl
 simp only [putv, dstOf, al_gl, al_g0, al_g1, al_ob]
 rw [← hT9]
 refine hJ.ctl (s := ()) (fun w => stepG_region_end) ?_
 refine hJ.ctl (s := ()) (fun w => stepG_exit (k' := K) rfl) ?_
 exact h
end Go.Proofs
