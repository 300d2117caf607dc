/- YtdncabjenacolaaTAlone9: part 14 of the proof (the texts behind it, in order). -/
import Derived.Test.YtdncabjenacolaaP13
set_option linter.unusedSimpArgs false
set_option linter.unusedVariables false
set_option linter.unusedSectionVars false
set_option linter.unnecessarySimpa false
set_option maxHeartbeats 4000000
set_option maxRecDepth 100000
namespace Go.Proofs
open Go Go.Conc Go.RowKit Go.Car
theorem walk_stepC {Kc : Addr → Option Value} {main : Bool} {J : Goroutine → World → Prop} (hJ : JS Try.prog main Kc (fun (_ : Unit) => J)) {wb : Nat} {iv : Value} {i : Int} {T : Array Value} {w : World} {K : List Item} {cs : List Frame} (hF : FrW wb iv i T) {a : Int} {ti : TypeId} {sx : Value} (hiv : iv = .iface ti sx) (ca : w.cell? ⟨wb, 3, none⟩ = some (.int .i64 a)) (ha : ¬ i = a)
 (hcall : ∀ (o : Oper) (a : Act), o.op = .call { callee := .invoke (.tmp 29) "Step", args := #[], argTypes := #[] } → a.eval (.tmp 29) = .iface ti sx → ∀ w, (execOp a.eval o).run Try.prog w = .ok (.enter 21 #[sx]) w)
 (hev : ∀ (o : Oper) (a : Act), o.op = .call { callee := .invoke (.tmp 29) "Step", args := #[], argTypes := #[] } → a.eval (.tmp 29) = .iface ti sx → ∀ w, ∀ e ∈ ((execOp a.eval o).runT Try.prog w #[]).2, EvOk Kc e)
 (hmain : ∀ T', FrW wb iv i T' → J (G (Frame.enter Try.prog 21 #[sx] .normal) (stepAt T' K :: cs)) w) : J (G ((bN 37).at ⟨T, []⟩ (.code wkB :: K)) cs) w := by
 subst hiv
 have d0 : decide (i = a) = false := by simpa using ha
 obtain ⟨hsz, f0, f1, f4⟩ := hF
 have hm := Lib.hid hmain
 clear hmain
 refine code_eq (J := fun (_ : Unit) => J) (s := ()) wkB_eq ?_
 obtain ⟨u0, hu0⟩ : ∃ c, k3c = c := ⟨_, rfl⟩
 have eu0 := hu0
 rw [hu0]
 simp only [wkL, wkB, wkT, wkS, k1c, k2c, k3c, k4c, k5c, k6c, k7c, k8c, k9c, headC, tailN, Try.f37, al_od] at eu0
 subst eu0
 clear hu0
 obtain ⟨u1, hu1⟩ : ∃ c, k5c = c := ⟨_, rfl⟩
 have eu1 := hu1
 rw [hu1]
 simp only [wkL, wkB, wkT, wkS, k1c, k2c, k3c, k4c, k5c, k6c, k7c, k8c, k9c, headC, tailN, Try.f37, al_od] at eu1
 subst eu1
 clear hu1
 refine hJ.ctl (s := ()) (fun w => stepG_seq) ?_
 refine hJ.ctl (s := ()) (fun w => stepG_seq) ?_
 refine hJ.ctl (s := ()) (fun w => stepG_region) ?_
 refine at_eval (J := fun (_ : Unit) => J) (s := ()) hJ (by decide) 0 [.int .i64 i, .pointer (some ⟨wb, 0, none⟩), .pointer (some ⟨wb, 0, none⟩), .pointer (some ⟨wb, 3, none⟩), .int .i64 a, .bool false] [] rfl (by simp) (by rfl) ?_ ?_
 · intro τ d
   simp only [evalsO, dstOf, al_gl, al_g0, al_g1, al_ob]
   refine ⟨?_, ?_, ?_, ?_, ?_, ?_, trivial⟩ <;> (intro o ho; simp only [al_oi] at ho; subst ho)
   all_goals (try simp only [execOp, Act.eval, List.map_toArray, List.map_cons, List.map_nil, al_gd])
   all_goals (try simp only [al_gs, al_gz, hsz, f0, f1, f4, Nat.reduceEqDiff, Nat.reduceLT, ↓reduceIte, al_od])
   all_goals (have hlt : ∀ i, i < 67 → i < (T).size := fun i hi => (by rw [hsz]; exact hi))
   all_goals (clear hsz f0 f1 f4)
   all_goals (try go_simp)
   all_goals (try omega)
 simp only [putv, dstOf, al_gl, al_g0, al_g1, al_ob]
 obtain ⟨T1, hT⟩ : ∃ X, X = ((((((T).setIfInBounds 13 (.int .i64 i)).setIfInBounds 14 (.pointer (some ⟨wb, 0, none⟩))).setIfInBounds 15 (.pointer (some ⟨wb, 0, none⟩))).setIfInBounds 16 (.pointer (some ⟨wb, 3, none⟩))).setIfInBounds 17 (.int .i64 a)).setIfInBounds 18 (.bool false) := ⟨_, rfl⟩
 rw [← hT]
 have hT1 : T1.size = 67 := by rw [hT]; simp [hsz]
 have T1_0 : T1[0]? = some (.pointer (some ⟨wb, 0, none⟩)) := by rw [hT]; simp only [al_gs, Nat.reduceEqDiff, ↓reduceIte]; exact f0
 have T1_1 : T1[1]? = some (.iface ti sx) := by rw [hT]; simp only [al_gs, Nat.reduceEqDiff, ↓reduceIte]; exact f1
 have T1_4 : T1[4]? = some (.int .i64 i) := by rw [hT]; simp only [al_gs, Nat.reduceEqDiff, ↓reduceIte]; exact f4
 have T1_18 : T1[18]? = some (.bool false) := by rw [hT]; simp [al_gs, hsz]
 clear hT f0 f1 f4 hsz
 refine hJ.ctl (s := ()) (fun w => stepG_region_end) ?_
 refine hJ.ctl (s := ()) (fun w => stepG_cond (t := false) (by simp [Act.eval, al_gd, T1_18])) ?_
 simp only [Bool.false_eq_true, if_false]
 refine hJ.ctl (s := ()) (fun w => stepG_skip) ?_
 refine hJ.ctl (s := ()) (fun w => stepG_seq) ?_
 refine hJ.ctl (s := ()) (fun w => stepG_region) ?_
 refine at_eval (J := fun (_ : Unit) => J) (s := ()) hJ (by decide) 0 [.iface ti sx, .bool true] [] rfl (by simp) (by rfl) ?_ ?_
 · intro τ d
   simp only [evalsO, dstOf, al_gl, al_g0, al_g1, al_ob]
   refine ⟨?_, ?_, trivial⟩ <;> (intro o ho; simp only [al_oi] at ho; subst ho)
   all_goals (try simp only [execOp, Act.eval, List.map_toArray, List.map_cons, List.map_nil, al_gd])
   all_goals (try simp only [al_gs, al_gz, hT1, T1_0, T1_1, T1_4, T1_18, Nat.reduceEqDiff, Nat.reduceLT, ↓reduceIte, al_od])
   all_goals (have hlt : ∀ i, i < 67 → i < (T1).size := fun i hi => (by rw [hT1]; exact hi))
   all_goals (clear hT1 T1_0 T1_1 T1_4 T1_18)
   all_goals (try go_simp)
   all_goals (try omega)
 simp only [putv, dstOf, al_gl, al_g0, al_g1, al_ob]
 obtain ⟨T2, hT⟩ : ∃ X, X = ((T1).setIfInBounds 27 (.iface ti sx)).setIfInBounds 28 (.bool true) := ⟨_, rfl⟩
 rw [← hT]
 have hT2 : T2.size = 67 := by rw [hT]; simp [hT1]
 have T2_0 : T2[0]? = some (.pointer (some ⟨wb, 0, none⟩)) := by rw [hT]; simp only [al_gs, Nat.reduceEqDiff, ↓reduceIte]; exact T1_0
 have T2_1 : T2[1]? = some (.iface ti sx) := by rw [hT]; simp only [al_gs, Nat.reduceEqDiff, ↓reduceIte]; exact T1_1
 have T2_4 : T2[4]? = some (.int .i64 i) := by rw [hT]; simp only [al_gs, Nat.reduceEqDiff, ↓reduceIte]; exact T1_4
 have T2_28 : T2[28]? = some (.bool true) := by rw [hT]; simp [al_gs, hT1]
 clear hT T1_0 T1_1 T1_4 T1_18 hT1
 refine hJ.ctl (s := ()) (fun w => stepG_region_end) ?_
 refine hJ.ctl (s := ()) (fun w => stepG_cond (t := true) (by simp [Act.eval, al_gd, T2_28])) ?_
 simp only [if_true]
 refine code_eq (J := fun (_ : Unit) => J) (s := ()) wkS_eq ?_
 refine hJ.ctl (s := ()) (fun w => stepG_seq) ?_
 obtain ⟨u9, hu9⟩ : ∃ c, k6c = c := ⟨_, rfl⟩
 have eu9 := hu9
 simp only [stepAt] at hm
 rw [hu9] at hm ⊢
 simp only [wkL, wkB, wkT, wkS, k6c, headC, tailN, Try.f37, al_od] at eu9
 subst eu9
 clear hu9
 refine hJ.ctl (s := ()) (fun w => stepG_region) ?_
 refine at_eval (J := fun (_ : Unit) => J) (s := ()) hJ (by decide) 0 [.iface ti sx] [1] rfl (by simp) (by rfl) ?_ ?_
 · intro τ d
   simp only [evalsO, dstOf, al_gl, al_g0, al_g1, al_ob]
   refine ⟨?_, trivial⟩ <;> (intro o ho; simp only [al_oi] at ho; subst ho)
   all_goals (try simp only [execOp, Act.eval, List.map_toArray, List.map_cons, List.map_nil, al_gd])
   all_goals (try simp only [al_gs, al_gz, hT2, T2_0, T2_1, T2_4, T2_28, Nat.reduceEqDiff, Nat.reduceLT, ↓reduceIte, al_od])
   all_goals (have hlt : ∀ i, i < 67 → i < (T2).size := fun i hi => (by rw [hT2]; exact hi))
   all_goals (clear hT2 T2_0 T2_1 T2_4 T2_28)
   all_goals (try go_simp)
   all_goals (try omega)
 simp only [putv, dstOf, al_gl, al_g0, al_g1, al_ob]
 obtain ⟨T3, hT⟩ : ∃ X, X = (T2).setIfInBounds 29 (.iface ti sx) := ⟨_, rfl⟩
 rw [← hT]
 have hT3 : T3.size = 67 := by rw [hT]; simp [hT2]
 have T3_0 : T3[0]? = some (.pointer (some ⟨wb, 0, none⟩)) := by rw [hT]; simp only [al_gs, Nat.reduceEqDiff, ↓reduceIte]; exact T2_0
 have T3_1 : T3[1]? = some (.iface ti sx) := by rw [hT]; simp only [al_gs, Nat.reduceEqDiff, ↓reduceIte]; exact T2_1
 have T3_4 : T3[4]? = some (.int .i64 i) := by rw [hT]; simp only [al_gs, Nat.reduceEqDiff, ↓reduceIte]; exact T2_4
 have T3_29 : T3[29]? = some (.iface ti sx) := by rw [hT]; simp [al_gs, hT2]
 clear hT T2_0 T2_1 T2_4 T2_28 hT2
 refine at_call (J := fun (_ : Unit) => J) (s := ()) (by decide) hJ (i := 1) (rest := []) rfl rfl (f := 21) (args := #[sx]) (fun τ d => ?_) (fun τ d => ?_) ?_
 · exact hcall _ _ rfl (by simp [Act.eval, al_gd, T3_29]) _
 · exact hev _ _ rfl (by simp [Act.eval, al_gd, T3_29]) _
 exact hm.out _ ⟨hT3, T3_0, T3_1, T3_4⟩
theorem meth_cstep (n : Nat) (cb : Nat) (w : World) : (Go.method (n + 1) 56 (.pointer (some ⟨cb, 0, none⟩)) "Step").run Try.prog w = .ok (21, .pointer (some ⟨cb, 0, none⟩)) w := by kernel_rfl
theorem meth_cevents (n : Nat) (cb : Nat) (w : World) (es : Array Event) : (Go.method (n + 1) 56 (.pointer (some ⟨cb, 0, none⟩)) "Step").events Try.prog w es = es := by kernel_rfl
theorem count_enter (cb : Nat) (o : Oper) (a : Act) (ho : o.op = .call { callee := .invoke (.tmp 29) "Step", args := #[], argTypes := #[] }) (ha : a.eval (.tmp 29) = .iface 56 (.pointer (some ⟨cb, 0, none⟩))) (w : World) : (execOp a.eval o).run Try.prog w = .ok (.enter 21 #[.pointer (some ⟨cb, 0, none⟩)]) w := by
 unfold execOp
 simp only [ho, resolve, ha]
 simp [go_sem, invoke, callFunc, meth_cstep, Try.func21, Try.f21]
theorem count_events (cb : Nat) (o : Oper) (a : Act) (ho : o.op = .call { callee := .invoke (.tmp 29) "Step", args := #[], argTypes := #[] }) (ha : a.eval (.tmp 29) = .iface 56 (.pointer (some ⟨cb, 0, none⟩))) (w : World) : ((execOp a.eval o).runT Try.prog w #[]).2 = #[] := by
 unfold execOp
 simp only [ho, resolve, ha]
 simp [go_sem, invoke, callFunc, meth_cstep, Try.func21, Try.f21, Sem.runT_eq, meth_cevents]
structure WcI (w0 : World) (wb bB base cb nb : Nat) (steps : Nat) (aft : Int) (held L : Nat) (w : World) : Prop where
 walker : w.heap[wb]? = some (.cells #[.pointer (some ⟨bB, 0, none⟩), .int .i64 (0 : Nat), .int .i64 steps, .int .i64 aft] 105)
 board : ∃ bv bd, w.heap[bB]? = some (.cells #[bv] 43) ∧ w.ownsRow base 3 1 bv bd.length (intL bd) ∧ bd.length = L
 cnt : w.heap[cb]? = some (.cells #[.int .i64 held, .int .i64 L] 107)
 al : AlW nb cb false w
 lo : w0.heap.size ≤ base ∧ w0.heap.size ≤ bB ∧ w0.heap.size ≤ cb ∧ base ≤ bB
 size : w0.heap.size ≤ w.heap.size
 old : ∀ b, b < w0.heap.size → w.heap[b]? = w0.heap[b]?
theorem WcI.on {w0 w w1 w2 : World} {wb bB base cb nb steps held L : Nat} {aft : Int} {T : Array Value} {iv : Value} (h : WcI w0 wb bB base cb nb steps aft held L w) (h1 : w1.heap[cb]? = some (.cells #[.int .i64 held, .int .i64 ((L : Int) + 1)] 107)) (hz : w1.heap.size = w.heap.size) (ho : ∀ b, b ≠ cb → w1.heap[b]? = w.heap[b]?)
 {bv : Value} {bd : List Int} (hb : w.heap[bB]? = some (.cells #[bv] 43)) (hr : w.ownsRow base 3 1 bv bd.length (intL bd)) (hl : bd.length = L) {p : Int} (hP : PutP wb bB base iv p bv (bd ++ [((0 : Nat) : Int)]) T w1 w2) : WcI w0 wb bB base cb nb steps aft held (L + 1) w2 := by
 obtain ⟨v, k1, k2, k3⟩ := hP.put
 have hown := fun {b : Nat} {c : Array Value} {T' : TypeId} (hh : w.heap[b]? = some (.cells c T')) (hne : 3 ≠ T') => own_ne hr hh hne
 have h3 := hP.size
 have hold : ∀ b, b < w.heap.size → b ≠ cb → b ≠ bB → bv.ownBlock ≠ some b → w2.heap[b]? = w.heap[b]? := fun b hb h4 h5 h6 => (hP.old b (by omega) h5 h6).trans (ho b h4)
 refine ⟨?_, ⟨v, _, k1, k2, by simp [hl]⟩, ?_, ⟨?_, ?_⟩, h.lo, by have := h.size; omega, fun b hb' => ?_⟩
 · rw [hold wb (zq4 h.walker) (heap_ne h.walker h.cnt (by decide)) (heap_ne h.walker hb (by decide)) (hown h.walker (by decide))]; exact h.walker
 · rw [hP.old cb (zq4 h1) (heap_ne h.cnt hb (by decide)) (hown h.cnt (by decide)), h1]; simp
 · rw [hold nb (zq4 h.al.c) (heap_ne h.al.c h.cnt (by decide)) (heap_ne h.al.c hb (by decide)) (hown h.al.c (by decide))]; exact h.al.c
 · rw [hold (nb + 1) (zq4 h.al.whole) (heap_ne h.al.whole h.cnt (by decide)) (heap_ne h.al.whole hb (by decide)) (hown h.al.whole (by decide))]; exact h.al.whole
 · have hlo := h.lo
   rw [hold b (by have := h.size; omega) (by omega) (by omega) (fun e => by have := (own_lt hr e).2.1; omega)]
   exact h.old b hb'
section
variable {Kc : Addr → Option Value} {main : Bool} {J : Goroutine → World → Prop}
theorem walk_cnt (hJ : JS Try.prog main Kc (fun (_ : Unit) => J)) (hC : CalmJ Try.prog main (fun (_ : Unit) => J)) {w0 : World} {wb bB base cb nb steps held : Nat} {aft : Int} (hst : steps ≤ 31) (hh : held ≤ 1048576) {n : Nat} {bad : Bool} (hn : n = if 0 ≤ aft ∧ aft ≤ steps then aft.toNat else steps) (hbad : bad = decide (0 ≤ aft ∧ aft ≤ steps)) {cl : Frame} {cs : List Frame}
 (hd : bad = false → n ≤ held → ∀ w', WcI w0 wb bB base cb nb steps aft held n w' → J (G (cl.finish (.tuple #[])) cs) w')
 (hb : bad = true → n ≤ held → ∀ sg w', WcI w0 wb bB base cb nb steps aft held n w' → J (G (cl.raise [beyP (0 : Nat) sg]) cs) w')
 (hs : held < n → ∀ w', WcI w0 wb bB base cb nb steps aft held held w' → J (G (cl.raise [cntP cb]) cs) w') :
 ∀ (r p : Nat) (T : Array Value) (w : World), p + r = steps → p ≤ n → p ≤ held → FrW wb (.iface 56 (.pointer (some ⟨cb, 0, none⟩))) p T → WcI w0 wb bB base cb nb steps aft held p w → J (G ((bN 37).at ⟨T, []⟩ (.code wkL :: wkK)) (cl :: cs)) w := by
 intro r
 induction r with
 | zero =>
  intro p T w hpr hpn hph hF hI
  obtain rfl : p = steps := by omega
  have cx : w.cell? ⟨wb, 1, none⟩ = some (.int .i64 ((0 : Nat) : Int)) := (zq1 hI.walker).trans rfl
  have cn : w.cell? ⟨wb, 2, none⟩ = some (.int .i64 (p : Int)) := (zq1 hI.walker).trans rfl
  have ca : w.cell? ⟨wb, 3, none⟩ = some (.int .i64 aft) := (zq1 hI.walker).trans rfl
  refine walk_out hJ hF cn (by omega) fun T1 hF1 => ?_
  by_cases h2 : aft = p
  · have e1 : n = p := by rw [hn, if_pos ⟨by omega, by omega⟩]; omega
    refine walk_last hJ hF1 ca cn cx h2 (by omega) (by omega) fun sg => hb (by rw [hbad]; simp; omega) (by omega) sg w (by rw [e1]; exact hI)
  · have hne : ¬ (0 ≤ aft ∧ aft ≤ (p : Int)) := fun h => by rw [if_pos h] at hn; omega
    have e1 : n = p := by rw [hn, if_neg hne]
    exact walk_end hJ hF1 ca cn cx h2 (hd (by rw [hbad]; simp; omega) (by omega) w (by rw [e1]; exact hI))
 | succ r ih =>
  intro p T w hpr hpn hph hF hI
  have cx : w.cell? ⟨wb, 1, none⟩ = some (.int .i64 ((0 : Nat) : Int)) := (zq1 hI.walker).trans rfl
  have cn : w.cell? ⟨wb, 2, none⟩ = some (.int .i64 (steps : Int)) := (zq1 hI.walker).trans rfl
  have ca : w.cell? ⟨wb, 3, none⟩ = some (.int .i64 aft) := (zq1 hI.walker).trans rfl
  refine wlk_in hJ hF cn (by omega) fun T1 hF1 => ?_
  by_cases h2 : (p : Int) = aft
  · have e1 : n = p := by rw [hn, if_pos ⟨by omega, by omega⟩]; omega
    exact walk_bad hJ hF1 ca cx h2 (by omega) (by omega) fun sg => hb (by rw [hbad]; simp; omega) (by omega) sg w (by rw [e1]; exact hI)
  have hpn' : p < n := by
   rw [hn] at hpn ⊢
   split at hpn
   · rename_i h; rw [if_pos h]; omega
   · rename_i h; rw [if_neg h]; omega
  refine walk_stepC hJ hF1 (ti := 56) (sx := .pointer (some ⟨cb, 0, none⟩)) rfl ca h2 (fun o a ho ha w => count_enter cb o a ho ha w) (fun o a ho ha w e he => by rw [count_events cb o a ho ha w] at he; simp at he) fun T2 hF2 => ?_
  by_cases hlt : p < held
  · refine cstep_on hJ hC hI.cnt (by omega) (by omega) (by omega) fun w1 c1 c2 c3 => ?_
    refine stepAt_fin hJ ?_
    have hF3 : FrW wb (.iface 56 (.pointer (some ⟨cb, 0, none⟩))) p (T2.setIfInBounds 30 (.tuple #[])) := by
     obtain ⟨h1, h2, h3, h4⟩ := hF2
     refine ⟨by simp [h1], ?_, ?_, ?_⟩ <;> rw [al_gn (by decide)] <;> assumption
    obtain ⟨bv, bd, b1, b2, b3⟩ := hI.board
    have hw1 : w1.heap[wb]? = w.heap[wb]? := c3 _ (heap_ne hI.walker hI.cnt (by decide))
    have hb1 : w1.heap[bB]? = w.heap[bB]? := c3 _ (heap_ne b1 hI.cnt (by decide))
    have hr1 : w1.ownsRow base 3 1 bv bd.length (intL bd) := ownsRow_of b2 fun g hg => c3 g (fun e => by subst e; exact own_ne b2 hI.cnt (by decide) hg)
    refine at_lone (J := fun (_ : Unit) => J) (s := ()) hJ hC plainM (by kernel_rfl) (fun t w' => PutP wb bB base (.iface 56 (.pointer (some ⟨cb, 0, none⟩))) p bv (bd ++ [((0 : Nat) : Int)]) t w1 w') (fun t w' τ d h => ⟨h.fr, h.put, h.size, h.old⟩) (by decide) (fun τ d => ?_) ?_
    · refine put_lone hF3 (hb1.trans b1) hr1 (hw1.trans hI.walker) (by omega) hI.lo.2.2.2 fun T' w' hP => ⟨rfl, hP.fr, hP.put, hP.size, hP.old⟩
    intro T3 w2 hP
    refine hJ.ctl (s := ()) (fun w => stepG_inBlock) ?_
    refine walk_next hJ hP.fr (by omega) (by omega) fun T4 hF4 => ?_
    refine hJ.ctl (s := ()) (fun w => stepG_inLoop) ?_
    exact ih (p + 1) T4 w2 (by omega) (by omega) (by omega) (by rw [show ((p + 1 : Nat) : Int) = (p : Int) + 1 by omega]; exact hF4) (hI.on c1 c2 c3 b1 b2 b3 hP)
  · obtain rfl : p = held := by omega
    refine cstep_raise hJ hC hI.cnt (by omega) ?_
    exact stepAt_raise hJ (hs hpn' w hI)
end
section
variable {Kc : Addr → Option Value} {main : Bool} {J : Goroutine → World → Prop}
theorem alone_nil (hJ : JS Try.prog main Kc (fun (_ : Unit) => J)) (hC : CalmJ Try.prog main (fun (_ : Unit) => J)) {cb : Nat} {w : World} {cl : Frame} {cs : List Frame} (hmain : ∀ w', Beyond w w' → J (G (cl.finish (.bool true)) cs) w') :
 J (G (Frame.enter Try.prog 20 #[.pointer (some ⟨cb, 0, none⟩), .nilFunc] .normal) (cl :: cs)) w := by
 have hm := Lib.hid hmain
 clear hmain
 have e : Frame.enter Try.prog 20 #[.pointer (some ⟨cb, 0, none⟩), .nilFunc] .normal = (bN 20).at (enterAct Try.f20 #[.pointer (some ⟨cb, 0, none⟩), .nilFunc]) [.code ((Try.f20.body).getD .skip)] := rfl
 have ea : enterAct Try.f20 #[.pointer (some ⟨cb, 0, none⟩), .nilFunc] = ⟨#[.pointer (some ⟨cb, 0, none⟩), .nilFunc, undef, undef, undef, undef, undef, undef, undef, undef, undef, undef], []⟩ := by kernel_rfl
 rw [e, ea]
 obtain ⟨n, hn⟩ : ∃ n, w.heap.size = n := ⟨_, rfl⟩
 try rw [hn] at hm
 refine hJ.ctl (s := ()) (fun w => stepG_seq) ?_
 refine at_lone (J := fun (_ : Unit) => J) (s := ()) hJ hC plainM (by kernel_rfl) (fun t w' => t = #[.pointer (some ⟨cb, 0, none⟩), .nilFunc, .pointer (some ⟨n, 0, none⟩), undef, .pointer (some ⟨n + 1, 0, none⟩), undef, undef, undef, undef, undef, undef, undef] ∧ ∃ τ d, w' = re ((w.alloc (.cells #[.pointer (some ⟨cb, 0, none⟩)] 56)).alloc (.cells #[.bool false] 4)) τ d) (fun t w' τ d h => ⟨h.1, by obtain ⟨τ', d', rfl⟩ := h.2; exact ⟨τ, d, by rw [re_re]⟩⟩) (by decide) (fun τ d => ?_) ?_
 · subst hn
   go_wp2
   exact ⟨rfl, rfl, τ, d, rfl⟩
 rintro t w' ⟨rfl, τ, d, rfl⟩
 refine hJ.re' () _ _ τ d ?_
 have k0 : ((w.alloc (.cells #[.pointer (some ⟨cb, 0, none⟩)] 56)).alloc (.cells #[.bool false] 4)).heap[n]? = some (.cells #[.pointer (some ⟨cb, 0, none⟩)] 56) := al_old (by rw [← hn]; exact al_new _ _)
 have k1 : ((w.alloc (.cells #[.pointer (some ⟨cb, 0, none⟩)] 56)).alloc (.cells #[.bool false] 4)).heap[n + 1]? = some (.cells #[.bool false] 4) := by
  have := al_new (w.alloc (.cells #[.pointer (some ⟨cb, 0, none⟩)] 56)) (.cells #[.bool false] 4)
  rw [zq8, hn] at this
  exact this
 have hbe : Beyond w ((w.alloc (.cells #[.pointer (some ⟨cb, 0, none⟩)] 56)).alloc (.cells #[.bool false] 4)) := (Beyond.alloc _ _).trans (Beyond.alloc _ _)
 have hsz : ((w.alloc (.cells #[.pointer (some ⟨cb, 0, none⟩)] 56)).alloc (.cells #[.bool false] 4)).heap.size = n + 2 := by rw [zq8, zq8, hn]
 generalize (w.alloc (.cells #[.pointer (some ⟨cb, 0, none⟩)] 56)).alloc (.cells #[.bool false] 4) = w1 at k0 k1 hbe hsz ⊢
 have hA : AlW n cb false w1 := ⟨k0, k1⟩
 refine hJ.ctl (s := ()) (fun w => stepG_seq) ?_
 refine hJ.ctl (s := ()) (fun w => stepG_region) ?_
 refine at_piece (J := fun (_ : Unit) => J) (s := ()) (by decide) hJ (zqg _) true (.inl rfl) 0 1 1 rfl rfl rfl (by rfl) ?_
 intro τ d
 simp only [List.drop_zero, List.drop_succ_cons, List.take_succ_cons, List.take_zero]
 go_wp2
 simp only [contAt]
 refine hJ.re' () _ _ τ d ?_
 refine at_defer (J := fun (_ : Unit) => J) (s := ()) (i := 1) (rest := []) (d := alone1 n) (by decide) hJ rfl rfl (fun w => by simp [go_sem, execOp, Act.eval, alone1]) (fun w => by simp [go_sem, execOp, Act.eval]) ?_
 refine hJ.ctl (s := ()) (fun w => stepG_region_end) ?_
 refine hJ.ctl (s := ()) (fun w => stepG_seq) ?_
 refine hJ.ctl (s := ()) (fun w => stepG_seq) ?_
 refine at_lone (J := fun (_ : Unit) => J) (s := ()) hJ hC plainM (by kernel_rfl) (fun t w' => t = #[.pointer (some ⟨cb, 0, none⟩), .nilFunc, .pointer (some ⟨n, 0, none⟩), undef, .pointer (some ⟨n + 1, 0, none⟩), .func (.func 38) #[] #[.pointer (some ⟨n + 1, 0, none⟩), .pointer (some ⟨n, 0, none⟩)], .nilFunc, .bool false, undef, undef, undef, undef] ∧ ∃ τ d, w' = re w1 τ d) (fun t w' τ d h => ⟨h.1, by obtain ⟨τ', d', rfl⟩ := h.2; exact ⟨τ, d, by rw [re_re]⟩⟩) (by decide) (fun τ d => ?_) ?_
 · go_wp2
   exact ⟨rfl, rfl, τ, d, rfl⟩
 rintro t w' ⟨rfl, τ, d, rfl⟩
 refine hJ.re' () _ _ τ d ?_
 refine hJ.ctl (s := ()) (fun w => stepG_cond (t := false) rfl) ?_
 simp only [Bool.false_eq_true, if_false]
 refine hJ.ctl (s := ()) (fun w => stepG_skip) ?_
 refine hJ.ctl (s := ()) (fun w => stepG_seq) ?_
 refine at_lone (J := fun (_ : Unit) => J) (s := ()) hJ hC plainM (by kernel_rfl) (fun t w' => t[4]? = some (.pointer (some ⟨n + 1, 0, none⟩)) ∧ ∃ τ d, w' = re (w1.setCell ⟨n + 1, 0, none⟩ (.bool true)) τ d) (fun t w' τ d h => ⟨h.1, by obtain ⟨τ', d', rfl⟩ := h.2; exact ⟨τ, d, by rw [re_re]⟩⟩) (by decide) (fun τ d => ?_) ?_
 · have c1 := (zq1 (off := 0) hA.whole).trans rfl
   have z1 := zqf (off := 0) hA.whole
   go_wp2
   exact ⟨rfl, rfl, τ, d, rfl⟩
 rintro t w' ⟨h4, τ, d, rfl⟩
 refine hJ.re' () _ _ τ d ?_
 refine hJ.ctl (s := ()) (fun w => stepG_ret') ?_
 have m1 : AlW n cb true (w1.setCell ⟨n + 1, 0, none⟩ (.bool true)) := ⟨(zqa _ _ _ _ (by show n ≠ n + 1; omega)).trans hA.c, (zqh _ _ _ _ hA.whole).trans rfl⟩
 refine alone_ret hJ hC m1 h4 (hm.out _ ⟨?_, fun b hb => ?_⟩)
 · rw [hp_size_set]; exact hbe.1
 · rw [zqa _ _ _ _ (by show b ≠ n + 1; omega)]; exact hbe.2 b hb
theorem alone_call (hJ : JS Try.prog main Kc (fun (_ : Unit) => J)) (hC : CalmJ Try.prog main (fun (_ : Unit) => J)) {cb wb : Nat} {w : World} {cl : Frame} {cs : List Frame}
 (hmain : ∀ w1, Beyond w w1 → AlW w.heap.size cb false w1 → J (G (Frame.enter Try.prog 37 #[.pointer (some ⟨wb, 0, none⟩), .iface 56 (.pointer (some ⟨cb, 0, none⟩))] .normal) (alAt w.heap.size cb (.func (.func 37) #[.pointer (some ⟨wb, 0, none⟩)] #[]) :: cl :: cs)) w1) :
 J (G (Frame.enter Try.prog 20 #[.pointer (some ⟨cb, 0, none⟩), .func (.func 37) #[.pointer (some ⟨wb, 0, none⟩)] #[]] .normal) (cl :: cs)) w := by
 have hm := Lib.hid hmain
 clear hmain
 have e : Frame.enter Try.prog 20 #[.pointer (some ⟨cb, 0, none⟩), .func (.func 37) #[.pointer (some ⟨wb, 0, none⟩)] #[]] .normal = (bN 20).at (enterAct Try.f20 #[.pointer (some ⟨cb, 0, none⟩), .func (.func 37) #[.pointer (some ⟨wb, 0, none⟩)] #[]]) [.code ((Try.f20.body).getD .skip)] := rfl
 have ea : enterAct Try.f20 #[.pointer (some ⟨cb, 0, none⟩), .func (.func 37) #[.pointer (some ⟨wb, 0, none⟩)] #[]] = ⟨#[.pointer (some ⟨cb, 0, none⟩), .func (.func 37) #[.pointer (some ⟨wb, 0, none⟩)] #[], undef, undef, undef, undef, undef, undef, undef, undef, undef, undef], []⟩ := by kernel_rfl
 rw [e, ea]
 obtain ⟨n, hn⟩ : ∃ n, w.heap.size = n := ⟨_, rfl⟩
 try rw [hn] at hm
 refine hJ.ctl (s := ()) (fun w => stepG_seq) ?_
 refine at_lone (J := fun (_ : Unit) => J) (s := ()) hJ hC plainM (by kernel_rfl) (fun t w' => t = #[.pointer (some ⟨cb, 0, none⟩), .func (.func 37) #[.pointer (some ⟨wb, 0, none⟩)] #[], .pointer (some ⟨n, 0, none⟩), undef, .pointer (some ⟨n + 1, 0, none⟩), undef, undef, undef, undef, undef, undef, undef] ∧ ∃ τ d, w' = re ((w.alloc (.cells #[.pointer (some ⟨cb, 0, none⟩)] 56)).alloc (.cells #[.bool false] 4)) τ d) (fun t w' τ d h => ⟨h.1, by obtain ⟨τ', d', rfl⟩ := h.2; exact ⟨τ, d, by rw [re_re]⟩⟩) (by decide) (fun τ d => ?_) ?_
 · subst hn
   go_wp2
   exact ⟨rfl, rfl, τ, d, rfl⟩
 rintro t w' ⟨rfl, τ, d, rfl⟩
 refine hJ.re' () _ _ τ d ?_
 have k0 : ((w.alloc (.cells #[.pointer (some ⟨cb, 0, none⟩)] 56)).alloc (.cells #[.bool false] 4)).heap[n]? = some (.cells #[.pointer (some ⟨cb, 0, none⟩)] 56) := al_old (by rw [← hn]; exact al_new _ _)
 have k1 : ((w.alloc (.cells #[.pointer (some ⟨cb, 0, none⟩)] 56)).alloc (.cells #[.bool false] 4)).heap[n + 1]? = some (.cells #[.bool false] 4) := by
  have := al_new (w.alloc (.cells #[.pointer (some ⟨cb, 0, none⟩)] 56)) (.cells #[.bool false] 4)
  rw [zq8, hn] at this
  exact this
 have hbe : Beyond w ((w.alloc (.cells #[.pointer (some ⟨cb, 0, none⟩)] 56)).alloc (.cells #[.bool false] 4)) := (Beyond.alloc _ _).trans (Beyond.alloc _ _)
 have hsz : ((w.alloc (.cells #[.pointer (some ⟨cb, 0, none⟩)] 56)).alloc (.cells #[.bool false] 4)).heap.size = n + 2 := by rw [zq8, zq8, hn]
 generalize (w.alloc (.cells #[.pointer (some ⟨cb, 0, none⟩)] 56)).alloc (.cells #[.bool false] 4) = w1 at k0 k1 hbe hsz ⊢
 have hA : AlW n cb false w1 := ⟨k0, k1⟩
 refine hJ.ctl (s := ()) (fun w => stepG_seq) ?_
 refine hJ.ctl (s := ()) (fun w => stepG_region) ?_
 refine at_piece (J := fun (_ : Unit) => J) (s := ()) (by decide) hJ (zqg _) true (.inl rfl) 0 1 1 rfl rfl rfl (by rfl) ?_
 intro τ d
 simp only [List.drop_zero, List.drop_succ_cons, List.take_succ_cons, List.take_zero]
 go_wp2
 simp only [contAt]
 refine hJ.re' () _ _ τ d ?_
 refine at_defer (J := fun (_ : Unit) => J) (s := ()) (i := 1) (rest := []) (d := alone1 n) (by decide) hJ rfl rfl (fun w => by simp [go_sem, execOp, Act.eval, alone1]) (fun w => by simp [go_sem, execOp, Act.eval]) ?_
 refine hJ.ctl (s := ()) (fun w => stepG_region_end) ?_
 refine hJ.ctl (s := ()) (fun w => stepG_seq) ?_
 refine hJ.ctl (s := ()) (fun w => stepG_seq) ?_
 refine at_lone (J := fun (_ : Unit) => J) (s := ()) hJ hC plainM (by kernel_rfl) (fun t w' => t = #[.pointer (some ⟨cb, 0, none⟩), .func (.func 37) #[.pointer (some ⟨wb, 0, none⟩)] #[], .pointer (some ⟨n, 0, none⟩), undef, .pointer (some ⟨n + 1, 0, none⟩), .func (.func 38) #[] #[.pointer (some ⟨n + 1, 0, none⟩), .pointer (some ⟨n, 0, none⟩)], .func (.func 37) #[.pointer (some ⟨wb, 0, none⟩)] #[], .bool true, undef, undef, undef, undef] ∧ ∃ τ d, w' = re w1 τ d) (fun t w' τ d h => ⟨h.1, by obtain ⟨τ', d', rfl⟩ := h.2; exact ⟨τ, d, by rw [re_re]⟩⟩) (by decide) (fun τ d => ?_) ?_
 · go_wp2
   exact ⟨rfl, rfl, τ, d, rfl⟩
 rintro t w' ⟨rfl, τ, d, rfl⟩
 refine hJ.re' () _ _ τ d ?_
 refine hJ.ctl (s := ()) (fun w => stepG_cond (t := true) rfl) ?_
 simp only [if_true]
 refine hJ.ctl (s := ()) (fun w => stepG_region) ?_
 refine at_piece (J := fun (_ : Unit) => J) (s := ()) (by decide) hJ (zqg _) true (.inl rfl) 0 3 1 rfl rfl rfl (by rfl) ?_
 intro τ d
 have c0 := (zq1 (off := 0) hA.c).trans rfl
 simp only [List.drop_zero, List.drop_succ_cons, List.take_succ_cons, List.take_zero]
 go_wp2
 simp only [contAt]
 refine hJ.re' () _ _ τ d ?_
 refine at_call (J := fun (_ : Unit) => J) (by decide) hJ (s := ()) rfl rfl (f := 37) (args := #[.pointer (some ⟨wb, 0, none⟩), .iface 56 (.pointer (some ⟨cb, 0, none⟩))]) (fun τ d => ?_) (fun τ d => ?_) ?_
 · simp [go_sem, execOp, Act.eval, resolve, Deferred.ofValue, invoke, callFunc, Try.func37, Try.f37]
 · intro e he
   simp [go_sem, execOp, Act.eval, resolve, Deferred.ofValue, invoke, callFunc, Try.func37, Try.f37, Sem.runT_eq] at he
 exact hm.out w1 hbe hA
theorem alone_fin (hJ : JS Try.prog main Kc (fun (_ : Unit) => J)) (hC : CalmJ Try.prog main (fun (_ : Unit) => J)) {n cb wb : Nat} {w1 : World} (hA : AlW n cb false w1) {v : Value} {cl : Frame} {cs : List Frame} (hmain : ∀ w', w1.heap.size ≤ w'.heap.size → (∀ b, b ≠ n + 1 → b < w1.heap.size → w'.heap[b]? = w1.heap[b]?) → J (G (cl.finish (.bool true)) cs) w') :
 J (G ((alAt n cb (.func (.func 37) #[.pointer (some ⟨wb, 0, none⟩)] #[])).finish v) (cl :: cs)) w1 := by
 have hm := Lib.hid hmain
 clear hmain
 unfold alAt
 rw [Frame.finish_at]
 simp only [alOps, alTail, Try.f20]
 walk_nrm
 refine hJ.ctl (s := ()) (fun w => stepG_region_end) ?_
 refine hJ.ctl (s := ()) (fun w => stepG_seq) ?_
 refine at_lone (J := fun (_ : Unit) => J) (s := ()) hJ hC plainM (by kernel_rfl) (fun t w' => t[4]? = some (.pointer (some ⟨n + 1, 0, none⟩)) ∧ ∃ τ d, w' = re (w1.setCell ⟨n + 1, 0, none⟩ (.bool true)) τ d) (fun t w' τ d h => ⟨h.1, by obtain ⟨τ', d', rfl⟩ := h.2; exact ⟨τ, d, by rw [re_re]⟩⟩) (by decide) (fun τ d => ?_) ?_
 · have c1 := (zq1 (off := 0) hA.whole).trans rfl
   have z1 := zqf (off := 0) hA.whole
   go_wp2
   exact ⟨rfl, rfl, τ, d, rfl⟩
 rintro t w' ⟨h4, τ, d, rfl⟩
 refine hJ.re' () _ _ τ d ?_
 refine hJ.ctl (s := ()) (fun w => stepG_ret') ?_
 have m1 : AlW n cb true (w1.setCell ⟨n + 1, 0, none⟩ (.bool true)) := ⟨(zqa _ _ _ _ (by show n ≠ n + 1; omega)).trans hA.c, (zqh _ _ _ _ hA.whole).trans rfl⟩
 refine alone_ret hJ hC m1 h4 (hm.out _ ?_ fun b hb _ => ?_)
 · rw [hp_size_set]; exact Nat.le_refl _
 · exact zqa _ _ _ _ hb
theorem alone_raise (hJ : JS Try.prog main Kc (fun (_ : Unit) => J)) (hC : CalmJ Try.prog main (fun (_ : Unit) => J)) {n cb wb : Nat} {w1 : World} (hA : AlW n cb false w1) {r x : Value} {ok : Bool}
 (hassert : ∀ w, (Instr.typeAssert r 20 109 true).run Try.prog w = .ok (.tuple #[.agg #[x], .bool ok]) w) (hcase : (ok = false ∧ x = .nilIface) ∨ (ok = true ∧ x = .iface 56 (.pointer (some ⟨cb, 0, none⟩)))) {cl : Frame} {cs : List Frame} (hmain : ∀ w', AlE w1 w' → J (G (cl.finish (.bool false)) cs) w') :
 J (G ((alAt n cb (.func (.func 37) #[.pointer (some ⟨wb, 0, none⟩)] #[])).raise [{ v := r, recovered := false }]) (cl :: cs)) w1 := by
 unfold alAt
 rw [Frame.raise_at]
 exact alone_exc hJ hC hA rfl hassert hcase hmain
end
set_option maxHeartbeats 8000000
set_option maxRecDepth 100000
noncomputable def taT (k : Nat) : Code := tailN k (Try.f7.body.getD .skip)
theorem taT_eq (k : Nat) (hk : k < 14) : taT k = .seq (headC (taT k)) (taT (k + 1)) := by
 obtain rfl | rfl | rfl | rfl | rfl | rfl | rfl | rfl | rfl | rfl | rfl | rfl | rfl | rfl : k = 0 ∨ k = 1 ∨ k = 2 ∨ k = 3 ∨ k = 4 ∨ k = 5 ∨ k = 6 ∨ k = 7 ∨ k = 8 ∨ k = 9 ∨ k = 10 ∨ k = 11 ∨ k = 12 ∨ k = 13 := by omega
 all_goals kernel_rfl
theorem ta_tail {Post : Value → World → Prop} (hPost : ∀ v w τ d, Post v w → Post v (re w τ d)) {w : World} {bB cb L Cl n held : Nat} {lp : Option Addr} {bad done : Bool} {x0 x1 x2 x3 x13 x14 x15 x16 x17 x18 x19 x20 x21 x22 x23 x24 x25 x26 x27 x28 x29 x30 x31 x32 x33 x34 x35 x36 x37 x38 x39 x40 x41 x42 : Value} (hb : w.heap[bB]? = some (.cells #[.slice lp L Cl] 43)) (hc : w.heap[cb]? = some (.cells #[.int .i64 held, .int .i64 L] 107))
 (hcase : (bad = false ∧ n ≤ held ∧ done = true ∧ L = n) ∨ (bad = false ∧ held < n ∧ done = false ∧ L = held) ∨ (bad = true ∧ n ≤ held ∧ done = false ∧ L = n) ∨ (bad = true ∧ held < n ∧ done = false ∧ L = held)) (hend : ∀ w', Beyond w w' → Post (.bool true) w') :
 J0 Try.prog (FinOf Try.prog Post) 7 (G ((bN 7).at ⟨#[x0, x1, x2, x3, .bool false, .pointer (some ⟨bB, 0, none⟩), .pointer (some ⟨cb, 0, none⟩), .int .i64 n, .bool bad, .int .i64 held, .bool done, undef, undef, x13, x14, x15, x16, x17, x18, x19, x20, x21, x22, x23, x24, x25, x26, x27, x28, x29, x30, x31, x32, x33, x34, x35, x36, x37, x38, x39, x40, x41, x42, undef, undef, undef, undef, undef, undef, undef, undef, undef, undef, undef, undef, undef, undef, undef, undef, undef, undef, undef, undef, undef, undef, undef, undef, undef, undef, undef, undef, undef, undef, undef, undef, undef, undef, undef, undef, undef, undef, undef, undef, undef, undef, undef, undef, undef, undef, undef], []⟩ [.code (taT 9)]) []) w := by
 have hFin := back_fin (P := Try.prog) Post
 have hJ := j0_JS hFin
 have hC := j0_calm hFin
 have HE := Lib.hid hend
 clear hend
 rw [taT_eq 9 (by omega)]
 refine hJ.ctl (s := 7) (fun w => stepG_seq) ?_
 refine at_lone hJ hC plainM (by kernel_rfl) (fun t w' => (∃ y43 y44 y45 y46 y47 y48 y49 y50 y51 y52 y53 y54 y55 y56 y57 y58 y59 y60 y61 y62 y63 y64 y65 y66 y67 y68 y69, t = #[x0, x1, x2, x3, .bool false, .pointer (some ⟨bB, 0, none⟩), .pointer (some ⟨cb, 0, none⟩), .int .i64 n, .bool bad, .int .i64 held, .bool done, undef, undef, x13, x14, x15, x16, x17, x18, x19, x20, x21, x22, x23, x24, x25, x26, x27, x28, x29, x30, x31, x32, x33, x34, x35, x36, x37, x38, x39, x40, x41, x42, y43, y44, y45, y46, y47, y48, y49, y50, y51, y52, y53, y54, y55, y56, y57, y58, y59, y60, y61, y62, y63, y64, y65, y66, y67, y68, y69, .bool false, undef, undef, undef, undef, undef, undef, undef, undef, undef, undef, undef, undef, undef, undef, undef, undef, undef, undef, undef]) ∧ ∃ τ d, w' = re w τ d) (fun t w' τ d h => ⟨h.1, by obtain ⟨τ', d', rfl⟩ := h.2; exact ⟨τ, d, by rw [re_re]⟩⟩) (by decide) (fun τ d => ?_) ?_
 · have c0 := (zq1 (off := 0) hb).trans rfl
   obtain ⟨u9, hu9⟩ : ∃ c, headC (taT 9) = c := ⟨_, rfl⟩
   have eu9 := hu9
   rw [hu9]
   simp only [taT, headC, tailN, Try.f7, al_od] at eu9
   subst eu9
   clear hu9
   rcases hcase with ⟨rfl, h1, rfl, rfl⟩ | ⟨rfl, h1, rfl, rfl⟩ | ⟨rfl, h1, rfl, rfl⟩ | ⟨rfl, h1, rfl, rfl⟩
   · have h2 : (L : Int) ≤ (held : Int) := by omega
     go_wp2_with (fail)
     refine Calls.mono (csteps_lone (re w τ d) hc) ?_
     rintro e w' ⟨rfl, rfl⟩
     go_wp2
     exact ⟨rfl, ⟨_, _, _, _, _, _, _, _, _, _, _, _, _, _, _, _, _, _, _, _, _, _, _, _, _, _, _, rfl⟩, τ, d, rfl⟩
   · have h2 : ¬ (n : Int) ≤ (L : Int) := by omega
     go_wp2_with (fail)
     refine Calls.mono (csteps_lone (re w τ d) hc) ?_
     rintro e w' ⟨rfl, rfl⟩
     go_wp2
     exact ⟨rfl, ⟨_, _, _, _, _, _, _, _, _, _, _, _, _, _, _, _, _, _, _, _, _, _, _, _, _, _, _, rfl⟩, τ, d, rfl⟩
   · have h2 : (L : Int) ≤ (held : Int) := by omega
     go_wp2_with (fail)
     refine Calls.mono (csteps_lone (re w τ d) hc) ?_
     rintro e w' ⟨rfl, rfl⟩
     go_wp2
     exact ⟨rfl, ⟨_, _, _, _, _, _, _, _, _, _, _, _, _, _, _, _, _, _, _, _, _, _, _, _, _, _, _, rfl⟩, τ, d, rfl⟩
   · have h2 : ¬ (n : Int) ≤ (L : Int) := by omega
     go_wp2_with (fail)
     refine Calls.mono (csteps_lone (re w τ d) hc) ?_
     rintro e w' ⟨rfl, rfl⟩
     go_wp2
     exact ⟨rfl, ⟨_, _, _, _, _, _, _, _, _, _, _, _, _, _, _, _, _, _, _, _, _, _, _, _, _, _, _, rfl⟩, τ, d, rfl⟩
 rintro t w' ⟨⟨y43, y44, y45, y46, y47, y48, y49, y50, y51, y52, y53, y54, y55, y56, y57, y58, y59, y60, y61, y62, y63, y64, y65, y66, y67, y68, y69, rfl⟩, τ, d, rfl⟩
 refine hJ.re' 7 _ _ τ d ?_
 clear hcase hb hc
 rw [taT_eq 10 (by omega)]
 refine hJ.ctl (s := 7) (fun w => stepG_seq) ?_
 refine at_lone hJ hC plainM (by kernel_rfl) (fun t w' => t = #[x0, x1, x2, x3, .bool false, .pointer (some ⟨bB, 0, none⟩), .pointer (some ⟨cb, 0, none⟩), .int .i64 n, .bool bad, .int .i64 held, .bool done, .pointer none, undef, x13, x14, x15, x16, x17, x18, x19, x20, x21, x22, x23, x24, x25, x26, x27, x28, x29, x30, x31, x32, x33, x34, x35, x36, x37, x38, x39, x40, x41, x42, y43, y44, y45, y46, y47, y48, y49, y50, y51, y52, y53, y54, y55, y56, y57, y58, y59, y60, y61, y62, y63, y64, y65, y66, y67, y68, y69, .bool false, undef, undef, undef, undef, undef, undef, undef, undef, undef, undef, undef, undef, undef, undef, undef, undef, undef, undef, undef] ∧ ∃ τ d, w' = re w τ d) (fun t w' τ d h => ⟨h.1, by obtain ⟨τ', d', rfl⟩ := h.2; exact ⟨τ, d, by rw [re_re]⟩⟩) (by decide) (fun τ d => ?_) ?_
 ·
  obtain ⟨u10, hu10⟩ : ∃ c, headC (taT 10) = c := ⟨_, rfl⟩
  have eu10 := hu10
  rw [hu10]
  simp only [taT, headC, tailN, Try.f7, al_od] at eu10
  subst eu10
  clear hu10
  go_wp2
  exact ⟨rfl, rfl, τ, d, rfl⟩
 rintro t w' ⟨rfl, τ, d, rfl⟩
 refine hJ.re' 7 _ _ τ d ?_
 rw [taT_eq 11 (by omega)]
 refine hJ.ctl (s := 7) (fun w => stepG_seq) ?_
 obtain ⟨uv11, huv11⟩ : ∃ c, headC (taT 11) = c := ⟨_, rfl⟩
 have euv11 := huv11
 rw [huv11]
 simp only [taT, headC, tailN, Try.f7, al_od] at euv11
 subst euv11
 clear huv11
 refine hJ.ctl (s := 7) (fun w => stepG_region) ?_
 refine at_piece (s := 7) (by decide) hJ (zqg _) false (.inr rfl) 0 1 1 rfl rfl rfl (by rfl) ?_
 intro τ d
 simp only [List.drop_succ_cons, List.drop_zero, List.take_succ_cons, List.take_zero]
 go_wp2
 simp only [contAt]
 refine hJ.re' 7 _ _ τ d ?_
 refine at_call (by decide) hJ (s := 7) rfl rfl (f := 21) (args := #[.pointer none]) (fun τ d => ?_) (fun τ d => ?_) ?_
 · simp [go_sem, execOp, Act.eval, resolve, Deferred.ofValue, invoke, callFunc, Try.func21, Try.f21]
 · intro e he
   simp [go_sem, execOp, Act.eval, resolve, Deferred.ofValue, invoke, callFunc, Try.func21, Try.f21, Sem.runT_eq] at he
 refine cstep_none (js_at hFin 7) (cj_at hFin 7) ?_
 rw [Frame.finish_at]
 walk_nrm
 refine hJ.ctl (s := 7) (fun w => stepG_region_end) ?_
 rw [taT_eq 12 (by omega)]
 refine hJ.ctl (s := 7) (fun w => stepG_seq) ?_
 obtain ⟨c2, hc2⟩ : ∃ c2, w.heap.size = c2 := ⟨_, rfl⟩
 refine at_lone hJ hC plainM (by kernel_rfl) (fun t w' => t = #[x0, x1, x2, x3, .bool false, .pointer (some ⟨bB, 0, none⟩), .pointer (some ⟨cb, 0, none⟩), .int .i64 n, .bool bad, .int .i64 held, .bool done, .pointer none, .pointer (some ⟨c2, 0, none⟩), x13, x14, x15, x16, x17, x18, x19, x20, x21, x22, x23, x24, x25, x26, x27, x28, x29, x30, x31, x32, x33, x34, x35, x36, x37, x38, x39, x40, x41, x42, y43, y44, y45, y46, y47, y48, y49, y50, y51, y52, y53, y54, y55, y56, y57, y58, y59, y60, y61, y62, y63, y64, y65, y66, y67, y68, y69, .bool false, .pointer none, .tuple #[], .pointer (some ⟨c2, 0, none⟩), undef, undef, undef, undef, undef, undef, undef, undef, undef, undef, undef, undef, undef, undef, undef, undef] ∧ ∃ τ d, w' = re (w.alloc (.cells #[.int .i64 5, .int .i64 0] 107)) τ d) (fun t w' τ d h => ⟨h.1, by obtain ⟨τ', d', rfl⟩ := h.2; exact ⟨τ, d, by rw [re_re]⟩⟩) (by decide) (fun τ d => ?_) ?_
 ·
  obtain ⟨u12, hu12⟩ : ∃ c, headC (taT 12) = c := ⟨_, rfl⟩
  have eu12 := hu12
  rw [hu12]
  simp only [taT, headC, tailN, Try.f7, al_od] at eu12
  subst eu12
  clear hu12
  go_wp2_with (fail)
  refine Calls.mono (ncount_lone 5 (re w τ d)) ?_
  rintro e w' ⟨rfl, rfl⟩
  rw [show (re w τ d).heap.size = c2 from hc2]
  go_wp2
  exact ⟨rfl, rfl, τ, d, rfl⟩
 rintro t w' ⟨rfl, τ, d, rfl⟩
 refine hJ.re' 7 _ _ τ d ?_
 have hk : (w.alloc (.cells #[.int .i64 5, .int .i64 0] 107)).heap[c2]? = some (.cells #[.int .i64 5, .int .i64 0] 107) := by rw [← hc2]; exact al_new _ _
 have hbe := Beyond.alloc w (.cells #[.int .i64 5, .int .i64 0] 107)
 generalize w.alloc (.cells #[.int .i64 5, .int .i64 0] 107) = w1 at hk hbe ⊢
 rw [taT_eq 13 (by omega)]
 refine hJ.ctl (s := 7) (fun w => stepG_seq) ?_
 obtain ⟨uv13, huv13⟩ : ∃ c, headC (taT 13) = c := ⟨_, rfl⟩
 have euv13 := huv13
 rw [huv13]
 simp only [taT, headC, tailN, Try.f7, al_od] at euv13
 subst euv13
 clear huv13
 refine hJ.ctl (s := 7) (fun w => stepG_region) ?_
 refine at_piece (s := 7) (by decide) hJ (zqg _) false (.inr rfl) 0 1 16 rfl rfl rfl (by rfl) ?_
 intro τ d
 simp only [List.drop_succ_cons, List.drop_zero, List.take_succ_cons, List.take_zero]
 go_wp2
 simp only [contAt]
 refine hJ.re' 7 _ _ τ d ?_
 refine at_call (by decide) hJ (s := 7) rfl rfl (f := 19) (args := #[.pointer none]) (fun τ d => ?_) (fun τ d => ?_) ?_
 · simp [go_sem, execOp, Act.eval, resolve, Deferred.ofValue, invoke, callFunc, Try.func19, Try.f19]
 · intro e he
   simp [go_sem, execOp, Act.eval, resolve, Deferred.ofValue, invoke, callFunc, Try.func19, Try.f19, Sem.runT_eq] at he
 refine at_calls_lone hJ hC plainM Try.func19 rfl (by kernel_rfl) (R := fun v w' => v = .int .i64 0 ∧ ∃ τ d, w' = re w1 τ d) (fun v w' τ d h => ⟨h.1, by obtain ⟨τ', d', rfl⟩ := h.2; exact ⟨τ, d, by rw [re_re]⟩⟩) (fun τ d => Calls.mono (csteps_nil (re w1 τ d)) ?_) ?_
 · rintro e w' ⟨rfl, rfl⟩; exact ⟨_, rfl, rfl, τ, d, rfl⟩
 rintro v w' ⟨rfl, τ, d, rfl⟩
 refine hJ.re' 7 _ _ τ d ?_
 rw [Frame.finish_at]
 walk_nrm
 refine at_piece (s := 7) (by decide) hJ (zqg _) false (.inr rfl) 2 7 8 rfl rfl rfl (by rfl) ?_
 intro τ d
 simp only [List.drop_succ_cons, List.drop_zero, List.take_succ_cons, List.take_zero]
 go_wp2
 simp only [contAt]
 refine hJ.re' 7 _ _ τ d ?_
 refine at_call (by decide) hJ (s := 7) rfl rfl (f := 20) (args := #[.pointer (some ⟨c2, 0, none⟩), .nilFunc]) (fun τ d => ?_) (fun τ d => ?_) ?_
 · simp [go_sem, execOp, Act.eval, resolve, Deferred.ofValue, invoke, callFunc, Try.func20, Try.f20]
 · intro e he
   simp [go_sem, execOp, Act.eval, resolve, Deferred.ofValue, invoke, callFunc, Try.func20, Try.f20, Sem.runT_eq] at he
 refine alone_nil (js_at hFin 7) (cj_at hFin 7) fun w2 hb2 => ?_
 rw [Frame.finish_at]
 walk_nrm
 refine at_piece (s := 7) (by decide) hJ (zqg _) false (.inr rfl) 10 3 4 rfl rfl rfl (by rfl) ?_
 intro τ d
 simp only [List.drop_succ_cons, List.drop_zero, List.take_succ_cons, List.take_zero]
 go_wp2
 simp only [contAt]
 refine hJ.re' 7 _ _ τ d ?_
 refine at_call (by decide) hJ (s := 7) rfl rfl (f := 19) (args := #[.pointer (some ⟨c2, 0, none⟩)]) (fun τ d => ?_) (fun τ d => ?_) ?_
 · simp [go_sem, execOp, Act.eval, resolve, Deferred.ofValue, invoke, callFunc, Try.func19, Try.f19]
 · intro e he
   simp [go_sem, execOp, Act.eval, resolve, Deferred.ofValue, invoke, callFunc, Try.func19, Try.f19, Sem.runT_eq] at he
 refine at_calls_lone hJ hC plainM Try.func19 rfl (by kernel_rfl) (R := fun v w' => v = .int .i64 0 ∧ ∃ τ d, w' = re w2 τ d) (fun v w' τ d h => ⟨h.1, by obtain ⟨τ', d', rfl⟩ := h.2; exact ⟨τ, d, by rw [re_re]⟩⟩) (fun τ d => Calls.mono (csteps_lone (k := 0) (most := 5) (re w2 τ d) (hb2.heap hk)) ?_) ?_
 · rintro e w' ⟨rfl, rfl⟩; exact ⟨_, rfl, rfl, τ, d, rfl⟩
 rintro v w' ⟨rfl, τ, d, rfl⟩
 refine hJ.re' 7 _ _ τ d ?_
 rw [Frame.finish_at]
 walk_nrm
 refine at_piece (s := 7) (by decide) hJ (zqg _) false (.inr rfl) 14 3 0 rfl rfl rfl (by rfl) ?_
 intro τ d
 simp only [List.drop_succ_cons, List.drop_zero, List.take_succ_cons, List.take_zero]
 go_wp2
 simp only [contAt]
 refine hJ.re' 7 _ _ τ d ?_
 refine hJ.ctl (s := 7) (fun w => stepG_region_end) ?_
 have e14 : taT 14 = .ret := by kernel_rfl
 rw [e14]
 refine at_rest_end (P := Try.prog) hPost plainM (by kernel_rfl) rfl (by kernel_rfl) Try.func7 (fun τ d => ?_)
 go_wp2
 go_ret
 exact ⟨_, rfl, hPost _ _ _ _ (HE.out _ (hbe.trans hb2))⟩
theorem heldI_of (x : Int) : ∃ h : Nat, heldI x 1048576 = h ∧ h ≤ 1048576 := ⟨(heldI x 1048576).toNat, by unfold heldI; split <;> split <;> omega, by unfold heldI; split <;> split <;> omega⟩
theorem turnalone_run {Post : Value → World → Prop} (hPost : ∀ v w τ d, Post v w → Post v (re w τ d)) {W : World} {s a mo : Int} {nl : Bool}
 (hend : ∀ w', Beyond W w' → Post (.bool true) w') : FinOf Try.prog Post (solo (G (Frame.enter Try.prog 7 #[.agg #[.int .i64 s, .int .i64 a, .bool nl], .int .i64 mo] .normal) []) W) #[] := by
 refine j0_run Try.func7 rfl ?_
 have hFin := back_fin (P := Try.prog) Post
 have hJ := j0_JS hFin
 have hC := j0_calm hFin
 have e : Frame.enter Try.prog 7 #[.agg #[.int .i64 s, .int .i64 a, .bool nl], .int .i64 mo] .normal = (bN 7).at (enterAct Try.f7 #[.agg #[.int .i64 s, .int .i64 a, .bool nl], .int .i64 mo]) [.code ((Try.f7.body).getD .skip)] := by kernel_rfl
 have ea : enterAct Try.f7 #[.agg #[.int .i64 s, .int .i64 a, .bool nl], .int .i64 mo] = ⟨#[.agg #[.int .i64 s, .int .i64 a, .bool nl], .int .i64 mo, undef, undef, undef, undef, undef, undef, undef, undef, undef, undef, undef, undef, undef, undef, undef, undef, undef, undef, undef, undef, undef, undef, undef, undef, undef, undef, undef, undef, undef, undef, undef, undef, undef, undef, undef, undef, undef, undef, undef, undef, undef, undef, undef, undef, undef, undef, undef, undef, undef, undef, undef, undef, undef, undef, undef, undef, undef, undef, undef, undef, undef, undef, undef, undef, undef, undef, undef, undef, undef, undef, undef, undef, undef, undef, undef, undef, undef, undef, undef, undef, undef, undef, undef, undef, undef, undef, undef, undef], []⟩ := by kernel_rfl
 have eb : (Try.f7.body).getD .skip = taT 0 := rfl
 rw [e, ea, eb]
 clear e ea eb
 have HE := Lib.hid hend
 clear hend
 obtain ⟨X, hX⟩ : ∃ X, W.heap.size = X := ⟨_, rfl⟩
 rw [taT_eq 0 (by omega)]
 refine hJ.ctl (s := 1) (fun w => stepG_seq) ?_
 refine at_lone hJ hC plainM (by kernel_rfl) (fun t w' => t = #[.agg #[.int .i64 s, .int .i64 a, .bool nl], .int .i64 mo, .pointer (some ⟨X, 0, none⟩), undef, .bool false, undef, undef, undef, undef, undef, undef, undef, undef, undef, undef, undef, undef, undef, undef, undef, undef, undef, undef, undef, undef, undef, undef, undef, undef, undef, undef, undef, undef, undef, undef, undef, undef, undef, undef, undef, undef, undef, undef, undef, undef, undef, undef, undef, undef, undef, undef, undef, undef, undef, undef, undef, undef, undef, undef, undef, undef, undef, undef, undef, undef, undef, undef, undef, undef, undef, undef, undef, undef, undef, undef, undef, undef, undef, undef, undef, undef, undef, undef, undef, undef, undef, undef, undef, undef, undef] ∧ ∃ τ d, w' = re (W.alloc (.cells #[.int .i64 s, .int .i64 a, .bool nl] 53)) τ d) (fun t w' τ d h => ⟨h.1, by obtain ⟨τ', d', rfl⟩ := h.2; exact ⟨τ, d, by rw [re_re]⟩⟩) (by decide) (fun τ d => ?_) ?_
 · skip
   obtain ⟨u0, hu0⟩ : ∃ c, headC (taT 0) = c := ⟨_, rfl⟩
   have eu0 := hu0
   rw [hu0]
   simp only [taT, headC, tailN, Try.f7, al_od] at eu0
   subst eu0
   clear hu0
   subst hX
   go_wp2
   exact ⟨rfl, rfl, τ, d, rfl⟩
 rintro t w' ⟨rfl, τ, d, rfl⟩
 refine hJ.re' 1 _ _ τ d ?_
 have hx0 : (W.alloc (.cells #[.int .i64 s, .int .i64 a, .bool nl] 53)).heap[X]? = some (.cells #[.int .i64 s, .int .i64 a, .bool nl] 53) := by rw [← hX]; exact al_new _ _
 have hb0 : Beyond W (W.alloc (.cells #[.int .i64 s, .int .i64 a, .bool nl] 53)) := Beyond.alloc _ _
 generalize (W.alloc (.cells #[.int .i64 s, .int .i64 a, .bool nl] 53)) = w0 at hx0 hb0 ⊢
 rw [taT_eq 1 (by omega)]
 refine hJ.ctl (s := 1) (fun w => stepG_seq) ?_
 obtain ⟨uv1, huv1⟩ : ∃ c, headC (taT 1) = c := ⟨_, rfl⟩
 have euv1 := huv1
 rw [huv1]
 simp only [taT, headC, tailN, Try.f7, al_od] at euv1
 subst euv1
 clear huv1
 refine hJ.ctl (s := 1) (fun w => stepG_seq) ?_
 refine hJ.ctl (s := 1) (fun w => stepG_region) ?_
 refine at_call (by decide) hJ (s := 1) rfl rfl (f := 8) (args := #[]) (fun τ d => ?_) (fun τ d => ?_) ?_
 · simp [go_sem, execOp, Act.eval, resolve, Deferred.ofValue, invoke, callFunc, Try.func8, Try.f8]
 · intro e he
   simp [go_sem, execOp, Act.eval, resolve, Deferred.ofValue, invoke, callFunc, Try.func8, Try.f8, Sem.runT_eq] at he
 refine awake_calls hFin (n := 1) (by omega) ?_
 intro w1 hB1
 rw [Frame.finish_at]
 walk_nrm
 refine at_piece (s := 1 + 6) (by decide) hJ (zqg _) false (.inr rfl) 1 1 0 rfl rfl rfl (by rfl) ?_
 intro τ d
 simp only [List.drop_succ_cons, List.drop_zero, List.take_succ_cons, List.take_zero]
 go_wp2
 simp only [contAt]
 refine hJ.re' (1 + 6) _ _ τ d ?_
 refine hJ.ctl (s := 1 + 6) (fun w => stepG_region_end) ?_
 refine at_lone hJ hC plainM (by kernel_rfl) (fun t w' => t = #[.agg #[.int .i64 s, .int .i64 a, .bool nl], .int .i64 mo, .pointer (some ⟨X, 0, none⟩), undef, .bool false, undef, undef, undef, undef, undef, undef, undef, undef, .bool true, .bool false, undef, undef, undef, undef, undef, undef, undef, undef, undef, undef, undef, undef, undef, undef, undef, undef, undef, undef, undef, undef, undef, undef, undef, undef, undef, undef, undef, undef, undef, undef, undef, undef, undef, undef, undef, undef, undef, undef, undef, undef, undef, undef, undef, undef, undef, undef, undef, undef, undef, undef, undef, undef, undef, undef, undef, undef, undef, undef, undef, undef, undef, undef, undef, undef, undef, undef, undef, undef, undef, undef, undef, undef, undef, undef, undef] ∧ ∃ τ d, w' = re w1 τ d) (fun t w' τ d h => ⟨h.1, by obtain ⟨τ', d', rfl⟩ := h.2; exact ⟨τ, d, by rw [re_re]⟩⟩) (by decide) (fun τ d => ?_) ?_
 · go_wp2
   exact ⟨rfl, rfl, τ, d, rfl⟩
 rintro t w' ⟨rfl, τ, d, rfl⟩
 refine hJ.re' (1 + 6) _ _ τ d ?_
 have hx1 := hB1.heap hx0
 have hbW := hb0.trans hB1
 clear hx0 hb0 hB1
 show J0 Try.prog (FinOf Try.prog Post) 7 _ _
 rw [taT_eq 2 (by omega)]
 refine hJ.ctl (s := 7) (fun w => stepG_seq) ?_
 refine at_lone hJ hC plainM (by kernel_rfl) (fun t w' => t = #[.agg #[.int .i64 s, .int .i64 a, .bool nl], .int .i64 mo, .pointer (some ⟨X, 0, none⟩), undef, .bool false, undef, undef, undef, undef, undef, undef, undef, undef, .bool true, .bool false, .pointer (some ⟨X, 2, none⟩), undef, undef, undef, undef, undef, undef, undef, undef, undef, undef, undef, undef, undef, undef, undef, undef, undef, undef, undef, undef, undef, undef, undef, undef, undef, undef, undef, undef, undef, undef, undef, undef, undef, undef, undef, undef, undef, undef, undef, undef, undef, undef, undef, undef, undef, undef, undef, undef, undef, undef, undef, undef, undef, undef, undef, undef, undef, undef, undef, undef, undef, undef, undef, undef, undef, undef, undef, undef, undef, undef, undef, undef, undef, undef] ∧ ∃ τ d, w' = re (w1.setCell ⟨X, 2, none⟩ (.bool false)) τ d) (fun t w' τ d h => ⟨h.1, by obtain ⟨τ', d', rfl⟩ := h.2; exact ⟨τ, d, by rw [re_re]⟩⟩) (by decide) (fun τ d => ?_) ?_
 · skip
   obtain ⟨u2, hu2⟩ : ∃ c, headC (taT 2) = c := ⟨_, rfl⟩
   have eu2 := hu2
   rw [hu2]
   simp only [taT, headC, tailN, Try.f7, al_od] at eu2
   subst eu2
   clear hu2
   have x2 := (zq1 (off := 2) hx1).trans rfl
   have z2 := zqf (off := 2) hx1
   go_wp2
   exact ⟨rfl, rfl, τ, d, rfl⟩
 rintro t w' ⟨rfl, τ, d, rfl⟩
 refine hJ.re' 7 _ _ τ d ?_
 have hx2 : (w1.setCell ⟨X, 2, none⟩ (.bool false)).heap[X]? = some (.cells #[.int .i64 s, .int .i64 a, .bool false] 53) := (zqh _ _ _ _ hx1).trans rfl
 have hb2 : Beyond W (w1.setCell ⟨X, 2, none⟩ (.bool false)) := ⟨by rw [hp_size_set]; exact hbW.1, fun b hb => by rw [zqa _ _ _ _ (by show b ≠ X; omega)]; exact hbW.2 b hb⟩
 generalize w1.setCell ⟨X, 2, none⟩ (.bool false) = w2 at hx2 hb2 ⊢
 clear hx1 hbW
 obtain ⟨B, hB⟩ : ∃ B, w2.heap.size = B := ⟨_, rfl⟩
 rw [taT_eq 3 (by omega)]
 refine hJ.ctl (s := 7) (fun w => stepG_seq) ?_
 refine at_lone hJ hC plainM (by kernel_rfl) (fun t w' => t = #[.agg #[.int .i64 s, .int .i64 a, .bool nl], .int .i64 mo, .pointer (some ⟨X, 0, none⟩), undef, .bool false, .pointer (some ⟨B, 0, none⟩), undef, undef, undef, undef, undef, undef, undef, .bool true, .bool false, .pointer (some ⟨X, 2, none⟩), .agg #[.slice none 0 0], .pointer (some ⟨B, 0, none⟩), undef, undef, undef, undef, undef, undef, undef, undef, undef, undef, undef, undef, undef, undef, undef, undef, undef, undef, undef, undef, undef, undef, undef, undef, undef, undef, undef, undef, undef, undef, undef, undef, undef, undef, undef, undef, undef, undef, undef, undef, undef, undef, undef, undef, undef, undef, undef, undef, undef, undef, undef, undef, undef, undef, undef, undef, undef, undef, undef, undef, undef, undef, undef, undef, undef, undef, undef, undef, undef, undef, undef, undef] ∧ ∃ τ d, w' = re (w2.alloc (.cells #[.slice none 0 0] 43)) τ d) (fun t w' τ d h => ⟨h.1, by obtain ⟨τ', d', rfl⟩ := h.2; exact ⟨τ, d, by rw [re_re]⟩⟩) (by decide) (fun τ d => ?_) ?_
 · skip
   obtain ⟨u3, hu3⟩ : ∃ c, headC (taT 3) = c := ⟨_, rfl⟩
   have eu3 := hu3
   rw [hu3]
   simp only [taT, headC, tailN, Try.f7, al_od] at eu3
   subst eu3
   clear hu3
   subst hB
   go_wp2
   exact ⟨rfl, rfl, τ, d, rfl⟩
 rintro t w' ⟨rfl, τ, d, rfl⟩
 refine hJ.re' 7 _ _ τ d ?_
 have hx3 : (w2.alloc (.cells #[.slice none 0 0] 43)).heap[X]? = some (.cells #[.int .i64 s, .int .i64 a, .bool false] 53) := al_old hx2
 have hd3 : (w2.alloc (.cells #[.slice none 0 0] 43)).heap[B]? = some (.cells #[.slice none 0 0] 43) := by rw [← hB]; exact al_new _ _
 have hb3 : Beyond W (w2.alloc (.cells #[.slice none 0 0] 43)) := hb2.trans (Beyond.alloc _ _)
 have hz3 : (w2.alloc (.cells #[.slice none 0 0] 43)).heap.size = B + 1 := by rw [zq8, hB]
 have hWB : W.heap.size ≤ B := by rw [← hB]; exact hb2.1
 generalize w2.alloc (.cells #[.slice none 0 0] 43) = w3 at hx3 hd3 hb3 hz3 ⊢
 clear hx2 hb2 hB
 obtain ⟨C, hCe⟩ : ∃ C, w3.heap.size = C := ⟨_, rfl⟩
 rw [taT_eq 4 (by omega)]
 refine hJ.ctl (s := 7) (fun w => stepG_seq) ?_
 refine at_lone hJ hC plainM (by kernel_rfl) (fun t w' => t = #[.agg #[.int .i64 s, .int .i64 a, .bool nl], .int .i64 mo, .pointer (some ⟨X, 0, none⟩), undef, .bool false, .pointer (some ⟨B, 0, none⟩), .pointer (some ⟨C, 0, none⟩), undef, undef, undef, undef, undef, undef, .bool true, .bool false, .pointer (some ⟨X, 2, none⟩), .agg #[.slice none 0 0], .pointer (some ⟨B, 0, none⟩), .int .i64 mo, .pointer (some ⟨C, 0, none⟩), undef, undef, undef, undef, undef, undef, undef, undef, undef, undef, undef, undef, undef, undef, undef, undef, undef, undef, undef, undef, undef, undef, undef, undef, undef, undef, undef, undef, undef, undef, undef, undef, undef, undef, undef, undef, undef, undef, undef, undef, undef, undef, undef, undef, undef, undef, undef, undef, undef, undef, undef, undef, undef, undef, undef, undef, undef, undef, undef, undef, undef, undef, undef, undef, undef, undef, undef, undef, undef, undef] ∧ ∃ τ d, w' = re (w3.alloc (.cells #[.int .i64 (heldI mo 1048576), .int .i64 0] 107)) τ d) (fun t w' τ d h => ⟨h.1, by obtain ⟨τ', d', rfl⟩ := h.2; exact ⟨τ, d, by rw [re_re]⟩⟩) (by decide) (fun τ d => ?_) ?_
 · skip
   obtain ⟨u4, hu4⟩ : ∃ c, headC (taT 4) = c := ⟨_, rfl⟩
   have eu4 := hu4
   rw [hu4]
   simp only [taT, headC, tailN, Try.f7, al_od] at eu4
   subst eu4
   clear hu4
   go_wp2_with (fail)
   refine Calls.mono (ncount_lone mo (re w3 τ d)) ?_
   rintro e w' ⟨rfl, rfl⟩
   rw [show (re w3 τ d).heap.size = C from hCe]
   go_wp2
   exact ⟨rfl, rfl, τ, d, rfl⟩
 rintro t w' ⟨rfl, τ, d, rfl⟩
 refine hJ.re' 7 _ _ τ d ?_
 have hx4 : (w3.alloc (.cells #[.int .i64 (heldI mo 1048576), .int .i64 0] 107)).heap[X]? = some (.cells #[.int .i64 s, .int .i64 a, .bool false] 53) := al_old hx3
 have hd4 : (w3.alloc (.cells #[.int .i64 (heldI mo 1048576), .int .i64 0] 107)).heap[B]? = some (.cells #[.slice none 0 0] 43) := al_old hd3
 have hc4 : (w3.alloc (.cells #[.int .i64 (heldI mo 1048576), .int .i64 0] 107)).heap[C]? = some (.cells #[.int .i64 (heldI mo 1048576), .int .i64 0] 107) := by rw [← hCe]; exact al_new _ _
 have hb4 : Beyond W (w3.alloc (.cells #[.int .i64 (heldI mo 1048576), .int .i64 0] 107)) := hb3.trans (Beyond.alloc _ _)
 have hz4 : (w3.alloc (.cells #[.int .i64 (heldI mo 1048576), .int .i64 0] 107)).heap.size = C + 1 := by rw [zq8, hCe]
 generalize w3.alloc (.cells #[.int .i64 (heldI mo 1048576), .int .i64 0] 107) = w4 at hx4 hd4 hc4 hb4 hz4 ⊢
 have hBC : B < C := by omega
 clear hx3 hd3 hb3 hz3 hCe
 rw [taT_eq 5 (by omega)]
 refine hJ.ctl (s := 7) (fun w => stepG_seq) ?_
 refine at_lone hJ hC plainM (by kernel_rfl) (fun t w' => t = #[.agg #[.int .i64 s, .int .i64 a, .bool nl], .int .i64 mo, .pointer (some ⟨X, 0, none⟩), undef, .bool false, .pointer (some ⟨B, 0, none⟩), .pointer (some ⟨C, 0, none⟩), undef, undef, undef, undef, undef, undef, .bool true, .bool false, .pointer (some ⟨X, 2, none⟩), .agg #[.slice none 0 0], .pointer (some ⟨B, 0, none⟩), .int .i64 mo, .pointer (some ⟨C, 0, none⟩), .pointer (some ⟨C, 0, none⟩), .bool false, .bool false, .pointer (some ⟨C, 0, none⟩), .int .i64 0, .bool false, .bool false, undef, undef, undef, undef, undef, undef, undef, undef, undef, undef, undef, undef, undef, undef, undef, undef, undef, undef, undef, undef, undef, undef, undef, undef, undef, undef, undef, undef, undef, undef, undef, undef, undef, undef, undef, undef, undef, undef, undef, undef, undef, undef, undef, undef, undef, undef, undef, undef, undef, undef, undef, undef, undef, undef, undef, undef, undef, undef, undef, undef, undef, undef, undef] ∧ ∃ τ d, w' = re w4 τ d) (fun t w' τ d h => ⟨h.1, by obtain ⟨τ', d', rfl⟩ := h.2; exact ⟨τ, d, by rw [re_re]⟩⟩) (by decide) (fun τ d => ?_) ?_
 · skip
   obtain ⟨u5, hu5⟩ : ∃ c, headC (taT 5) = c := ⟨_, rfl⟩
   have eu5 := hu5
   rw [hu5]
   simp only [taT, headC, tailN, Try.f7, al_od] at eu5
   subst eu5
   clear hu5
   go_wp2_with (fail)
   refine Calls.mono (csteps_lone (re w4 τ d) hc4) ?_
   rintro e w' ⟨rfl, rfl⟩
   go_wp2
   exact ⟨rfl, rfl, τ, d, rfl⟩
 rintro t w' ⟨rfl, τ, d, rfl⟩
 refine hJ.re' 7 _ _ τ d ?_
 rw [taT_eq 6 (by omega)]
 refine hJ.ctl (s := 7) (fun w => stepG_seq) ?_
 refine at_lone hJ hC plainM (by kernel_rfl) (fun t w' => t = #[.agg #[.int .i64 s, .int .i64 a, .bool nl], .int .i64 mo, .pointer (some ⟨X, 0, none⟩), undef, .bool false, .pointer (some ⟨B, 0, none⟩), .pointer (some ⟨C, 0, none⟩), .int .i64 ((Wk.mk s a false).k : Int), .bool (Wk.mk s a false).bad, undef, undef, undef, undef, .bool true, .bool false, .pointer (some ⟨X, 2, none⟩), .agg #[.slice none 0 0], .pointer (some ⟨B, 0, none⟩), .int .i64 mo, .pointer (some ⟨C, 0, none⟩), .pointer (some ⟨C, 0, none⟩), .bool false, .bool false, .pointer (some ⟨C, 0, none⟩), .int .i64 0, .bool false, .bool false, .tuple #[.int .i64 ((Wk.mk s a false).k : Int), .bool (Wk.mk s a false).bad], .agg #[.int .i64 s, .int .i64 a, .bool false], .tuple #[.int .i64 ((Wk.mk s a false).k : Int), .bool (Wk.mk s a false).bad], .int .i64 ((Wk.mk s a false).k : Int), .bool (Wk.mk s a false).bad, undef, undef, undef, undef, undef, undef, undef, undef, undef, undef, undef, undef, undef, undef, undef, undef, undef, undef, undef, undef, undef, undef, undef, undef, undef, undef, undef, undef, undef, undef, undef, undef, undef, undef, undef, undef, undef, undef, undef, undef, undef, undef, undef, undef, undef, undef, undef, undef, undef, undef, undef, undef, undef, undef, undef, undef, undef, undef] ∧ Beyond w4 w') (fun t w' τ d h => ⟨h.1, h.2.1, h.2.2⟩) (by decide) (fun τ d => ?_) ?_
 · skip
   obtain ⟨u6, hu6⟩ : ∃ c, headC (taT 6) = c := ⟨_, rfl⟩
   have eu6 := hu6
   rw [hu6]
   simp only [taT, headC, tailN, Try.f7, al_od] at eu6
   subst eu6
   clear hu6
   have x0 := (zq1 (off := 0) hx4).trans rfl
   have x1 := (zq1 (off := 1) hx4).trans rfl
   have x2 := (zq1 (off := 2) hx4).trans rfl
   have z0 := zqf (off := 0) hx4
   go_wp2_with (fail)
   refine Calls.mono (does_lone (Wk.mk s a false) (re w4 τ d)) ?_
   rintro e w' ⟨rfl, hbq⟩
   go_wp2
   exact ⟨rfl, rfl, hbq.1, hbq.2⟩
 rintro t w4b ⟨rfl, hb4b⟩
 have hx4 := hb4b.heap hx4
 have hd4 := hb4b.heap hd4
 have hc4 := hb4b.heap hc4
 have hb4 := hb4.trans hb4b
 clear hz4 hb4b
 have HH := Lib.hid hc4
 clear hc4
 rw [taT_eq 7 (by omega)]
 refine hJ.ctl (s := 7) (fun w => stepG_seq) ?_
 refine at_lone hJ hC plainM (by kernel_rfl) (fun t w' => (∃ y, t = #[.agg #[.int .i64 s, .int .i64 a, .bool nl], .int .i64 mo, .pointer (some ⟨X, 0, none⟩), undef, .bool false, .pointer (some ⟨B, 0, none⟩), .pointer (some ⟨C, 0, none⟩), .int .i64 ((Wk.mk s a false).k : Int), .bool (Wk.mk s a false).bad, .int .i64 (heldI mo 1048576), undef, undef, undef, .bool true, .bool false, .pointer (some ⟨X, 2, none⟩), .agg #[.slice none 0 0], .pointer (some ⟨B, 0, none⟩), .int .i64 mo, .pointer (some ⟨C, 0, none⟩), .pointer (some ⟨C, 0, none⟩), .bool false, .bool false, .pointer (some ⟨C, 0, none⟩), .int .i64 0, .bool false, .bool false, .tuple #[.int .i64 ((Wk.mk s a false).k : Int), .bool (Wk.mk s a false).bad], .agg #[.int .i64 s, .int .i64 a, .bool false], .tuple #[.int .i64 ((Wk.mk s a false).k : Int), .bool (Wk.mk s a false).bad], .int .i64 ((Wk.mk s a false).k : Int), .bool (Wk.mk s a false).bad, .int .i64 mo, y, .int .i64 (heldI mo 1048576), undef, undef, undef, undef, undef, undef, undef, undef, undef, undef, undef, undef, undef, undef, undef, undef, undef, undef, undef, undef, undef, undef, undef, undef, undef, undef, undef, undef, undef, undef, undef, undef, undef, undef, undef, undef, undef, undef, undef, undef, undef, undef, undef, undef, undef, undef, undef, undef, undef, undef, undef, undef, undef, undef, undef]) ∧ Beyond w4b w') (fun t w' τ d h => ⟨h.1, h.2.1, h.2.2⟩) (by decide) (fun τ d => ?_) ?_
 · skip
   obtain ⟨u7, hu7⟩ : ∃ c, headC (taT 7) = c := ⟨_, rfl⟩
   have eu7 := hu7
   rw [hu7]
   simp only [taT, headC, tailN, Try.f7, al_od] at eu7
   subst eu7
   clear hu7
   unfold heldI
   by_cases h0 : mo < 0
   · rw [if_pos h0]
     go_wp2
     exact ⟨rfl, ⟨_, rfl⟩, ⟨Nat.le_refl _, fun _ _ => rfl⟩⟩
   · rw [if_neg h0]
     by_cases h1 : 1048576 < mo
     · rw [if_pos h1]
       go_wp2
       exact ⟨rfl, ⟨_, rfl⟩, ⟨Nat.le_refl _, fun _ _ => rfl⟩⟩
     · rw [if_neg h1]
       go_wp2
       exact ⟨rfl, ⟨_, rfl⟩, ⟨Nat.le_refl _, fun _ _ => rfl⟩⟩
 rintro t w4c ⟨⟨y, rfl⟩, hb4c⟩
 have hx4 := hb4c.heap hx4
 have hd4 := hb4c.heap hd4
 have hc5' := hb4c.heap HH.out
 have hb4 := hb4.trans hb4c
 clear HH
 obtain ⟨held, hheld, hh⟩ := heldI_of mo
 rw [hheld] at hc5' ⊢
 rw [taT_eq 8 (by omega)]
 refine hJ.ctl (s := 7) (fun w => stepG_seq) ?_
 obtain ⟨uv8, huv8⟩ : ∃ c, headC (taT 8) = c := ⟨_, rfl⟩
 have euv8 := huv8
 rw [huv8]
 simp only [taT, headC, tailN, Try.f7, al_od] at euv8
 subst euv8
 clear huv8
 refine hJ.ctl (s := 7) (fun w => stepG_region) ?_
 obtain ⟨S, hS⟩ : ∃ S, w4c.heap.size = S := ⟨_, rfl⟩
 refine at_piece (s := 7) (by decide) hJ (zqg _) false (.inr rfl) 0 4 5 rfl rfl rfl (by rfl) ?_
 intro τ d
 simp only [List.drop_succ_cons, List.drop_zero, List.take_succ_cons, List.take_zero]
 have x0 := (zq1 (off := 0) hx4).trans rfl
 have x1 := (zq1 (off := 1) hx4).trans rfl
 have x2 := (zq1 (off := 2) hx4).trans rfl
 have z0 := zqf (off := 0) hx4
 go_wp2
 simp only [contAt]
 rw [re_alloc]
 refine hJ.re' 7 _ _ τ d ?_
 try rw [show (re w4c τ d).heap.size = S from hS]
 try rw [hS]
 have hx5 : (w4c.alloc (.cells #[.int .i64 s, .int .i64 a, .bool false] 53)).heap[S]? = some (.cells #[.int .i64 s, .int .i64 a, .bool false] 53) := by rw [← hS]; exact al_new _ _
 have hd5 : (w4c.alloc (.cells #[.int .i64 s, .int .i64 a, .bool false] 53)).heap[B]? = some (.cells #[.slice none 0 0] 43) := al_old hd4
 have hc5 : (w4c.alloc (.cells #[.int .i64 s, .int .i64 a, .bool false] 53)).heap[C]? = some (.cells #[.int .i64 held, .int .i64 0] 107) := al_old hc5'
 have hb5 : Beyond W (w4c.alloc (.cells #[.int .i64 s, .int .i64 a, .bool false] 53)) := hb4.trans (Beyond.alloc _ _)
 generalize w4c.alloc (.cells #[.int .i64 s, .int .i64 a, .bool false] 53) = w5 at hx5 hd5 hc5 hb5 ⊢
 clear x0 x1 x2 z0 hx4 hd4 hc5' hb4
 refine at_call (by decide) hJ (s := 7) rfl rfl (f := 15) (args := #[.pointer (some ⟨B, 0, none⟩), .slice (some ⟨S, 0, none⟩) 1 1]) (fun τ d => ?_) (fun τ d => ?_) ?_
 · simp [go_sem, execOp, Act.eval, resolve, Deferred.ofValue, invoke, callFunc, Try.func15, Try.f15]
 · intro e he
   simp [go_sem, execOp, Act.eval, resolve, Deferred.ofValue, invoke, callFunc, Try.func15, Try.f15, Sem.runT_eq] at he
 refine at_calls_lone hJ hC plainM Try.func15 rfl (by kernel_rfl) (R := fun v w' => ∃ wb, WkO w5 B (fun _ => Wk.mk s a false) 1 v wb w') (fun v w' τ d h => ?_) (fun τ d => Calls.mono (walkers_lone (bB := B) (wk := fun _ => Wk.mk s a false) (n := 1) (C := 1) (re w5 τ d) (by omega) (fun _ => ⟨S, 0, rfl, fun i hi => ?_⟩)) ?_) ?_
 · obtain ⟨wb, h⟩ := h
   exact ⟨wb, h.to_re⟩
 · obtain rfl : i = 0 := by omega
   exact ⟨(zq1 hx5).trans rfl, (zq1 hx5).trans rfl, (zq1 hx5).trans rfl⟩
 · rintro e w' ⟨o, wb, he, h⟩
   exact ⟨o, he, wb, h.re⟩
 rintro v w6 ⟨wb, hO⟩
 obtain ⟨b0, hwb⟩ : ∃ b0, wb 0 = some b0 := by
  cases h : wb 0 with
  | none => have := (hO.nl 0 (by omega)).1 h; cases this
  | some b => exact ⟨b, rfl⟩
 obtain ⟨hk1, hk2⟩ := hO.blk 0 b0 (by omega) hwb
 obtain ⟨fp, Cf, rfl, _, hrow⟩ := row_form hO.orow
 obtain ⟨g, rfl, hg1, hg2⟩ := hrow (by omega)
 have hf0 : w6.cell? ⟨g, 0, none⟩ = some (wkV (some b0)) := by
  have := hg2 0 (wkV (some b0)) (by simp [hwb])
  simpa using this
 have hb56 : Beyond w5 w6 := ⟨hO.size, hO.old⟩
 have hd6 := hb56.heap hd5
 have hc6 := hb56.heap hc5
 have hb6 := hb5.trans hb56
 simp only [wkV] at hf0
 rw [Frame.finish_at]
 walk_nrm
 refine at_piece (s := 7) (by decide) hJ (zqg _) false (.inr rfl) 5 2 2 rfl rfl rfl (by rfl) ?_
 intro τ d
 simp only [List.drop_succ_cons, List.drop_zero, List.take_succ_cons, List.take_zero]
 go_wp2
 simp only [contAt]
 refine hJ.re' 7 _ _ τ d ?_
 refine at_call (by decide) hJ (s := 7) rfl rfl (f := 20) (args := #[.pointer (some ⟨C, 0, none⟩), .func (.func 37) #[.pointer (some ⟨b0, 0, none⟩)] #[]]) (fun τ d => ?_) (fun τ d => ?_) ?_
 · simp [go_sem, execOp, Act.eval, resolve, Deferred.ofValue, invoke, callFunc, Try.func20, Try.f20]
   try rfl
 · intro e he
   simp [go_sem, execOp, Act.eval, resolve, Deferred.ofValue, invoke, callFunc, Try.func20, Try.f20, Sem.runT_eq] at he
 refine alone_call (js_at hFin 7) (cj_at hFin 7) fun w7 hb67 hA => ?_
 refine walk_enter (js_at hFin 7) fun Tw hF => ?_
 have hlt5 : B < w5.heap.size ∧ C < w5.heap.size := ⟨zq4 hd5, zq4 hc5⟩
 have hI : WcI W b0 B W.heap.size C w6.heap.size (Wk.mk s a false).n a held 0 w7 := by
  refine ⟨?_, ⟨_, [], hb67.heap hd6, World.ownsRow_nil _ _ _ _, rfl⟩, hb67.heap hc6, hA, ⟨Nat.le_refl _, hWB, by omega, hWB⟩, Nat.le_trans hb6.1 hb67.1, fun b hb => (hb6.trans hb67).2 b hb⟩
  have := hb67.heap hk2
  simpa [wkC] using this
 have hkk : (Wk.mk s a false).k = if 0 ≤ a ∧ a ≤ (Wk.mk s a false).n then a.toNat else (Wk.mk s a false).n := by unfold Wk.k; simp
 have hbb : (Wk.mk s a false).bad = decide (0 ≤ a ∧ a ≤ (Wk.mk s a false).n) := by unfold Wk.bad; simp
 have hnle := (Wk.mk s a false).n_le
 generalize (Wk.mk s a false).n = steps at hI hkk hbb hnle
 generalize (Wk.mk s a false).k = n at hkk ⊢
 generalize (Wk.mk s a false).bad = bad at hbb ⊢
 have fin : ∀ (done : Bool) (L : Nat) (w8 w9 : World), WcI W b0 B W.heap.size C w6.heap.size steps a held L w8 → w8.heap.size ≤ w9.heap.size → (∀ b, b ≠ w6.heap.size + 1 → b < w8.heap.size → w9.heap[b]? = w8.heap[b]?) →
  ((bad = false ∧ n ≤ held ∧ done = true ∧ L = n) ∨ (bad = false ∧ held < n ∧ done = false ∧ L = held) ∨ (bad = true ∧ n ≤ held ∧ done = false ∧ L = n) ∨ (bad = true ∧ held < n ∧ done = false ∧ L = held)) →
  J0 Try.prog (FinOf Try.prog Post) 7 (G (((bN 7).at ⟨#[.agg #[.int .i64 s, .int .i64 a, .bool nl], .int .i64 mo, .pointer (some ⟨X, 0, none⟩), undef, .bool false, .pointer (some ⟨B, 0, none⟩), .pointer (some ⟨C, 0, none⟩), .int .i64 n, .bool bad, .int .i64 (held : Int), undef, undef, undef, .bool true, .bool false, .pointer (some ⟨X, 2, none⟩), .agg #[.slice none 0 0], .pointer (some ⟨B, 0, none⟩), .int .i64 mo, .pointer (some ⟨C, 0, none⟩), .pointer (some ⟨C, 0, none⟩), .bool false, .bool false, .pointer (some ⟨C, 0, none⟩), .int .i64 0, .bool false, .bool false, .tuple #[.int .i64 n, .bool bad], .agg #[.int .i64 s, .int .i64 a, .bool false], .tuple #[.int .i64 n, .bool bad], .int .i64 n, .bool bad, .int .i64 mo, y, .int .i64 (held : Int), .pointer (some ⟨C, 0, none⟩), .pointer (some ⟨B, 0, none⟩), .agg #[.int .i64 s, .int .i64 a, .bool false], .slice (some ⟨S, 0, none⟩) 1 1, .slice (some ⟨g, 0, none⟩) 1 Cf, .pointer (some ⟨g, 0, none⟩), .func (.func 37) #[.pointer (some ⟨b0, 0, none⟩)] #[], undef, undef, undef, undef, undef, undef, undef, undef, undef, undef, undef, undef, undef, undef, undef, undef, undef, undef, undef, undef, undef, undef, undef, undef, undef, undef, undef, undef, undef, undef, undef, undef, undef, undef, undef, undef, undef, undef, undef, undef, undef, undef, undef, undef, undef, undef, undef, undef], []⟩ [.inRegion (match headC (taT 8) with | .region _ ops _ => ops | _ => #[]) [7, 8], .code (taT 9)]).finish (.bool done)) []) w9 := by
  intro done L w8 w9 hI8 hz9 ho9 hcase
  obtain ⟨bv, bd, q1, q2, q3⟩ := hI8.board
  have hne : ∀ b, b < w6.heap.size → b ≠ w6.heap.size + 1 := fun b hb => by omega
  have hd9 : w9.heap[B]? = some (.cells #[bv] 43) := (ho9 B (by have := hb56.1; omega) (zq4 q1)).trans q1
  have hc9 := (ho9 C (by have := hb56.1; omega) (zq4 hI8.cnt)).trans hI8.cnt
  obtain ⟨lp, Cl, rfl, _, _⟩ := row_form q2
  rw [q3] at hd9
  rw [Frame.finish_at]
  simp only [taT, headC, tailN, Try.f7, al_od]
  walk_nrm
  refine at_piece (s := 7) (by decide) hJ (zqg _) false (.inr rfl) 8 1 0 rfl rfl rfl (by rfl) ?_
  intro τ d
  simp only [List.drop_succ_cons, List.drop_zero, List.take_succ_cons, List.take_zero]
  go_wp2
  simp only [contAt]
  refine hJ.re' 7 _ _ τ d ?_
  refine hJ.ctl (s := 7) (fun w => stepG_region_end) ?_
  refine ta_tail hPost hd9 hc9 hcase fun w' hb' => HE.out w' ?_
  have h8 : Beyond W w9 := ⟨Nat.le_trans hI8.size hz9, fun b hb => (ho9 b (by have := hb6.1; omega) (by have := hI8.size; omega)).trans (hI8.old b hb)⟩
  exact h8.trans hb'
 refine walk_cnt (js_at hFin 7) (cj_at hFin 7) hnle hh hkk hbb (fun h1 h2 w8 hI8 => ?_) (fun h1 h2 sg w8 hI8 => ?_) (fun h1 w8 hI8 => ?_) steps 0 Tw w7 (by omega) (by omega) (by omega) hF hI
 · refine alone_fin (js_at hFin 7) (cj_at hFin 7) hI8.al fun w9 hz ho => ?_
   exact fin true n w8 w9 hI8 hz ho (.inl ⟨h1, h2, rfl, rfl⟩)
 · refine alone_raise (js_at hFin 7) (cj_at hFin 7) hI8.al (x := .nilIface) (ok := false) (assert_other _ _ (by decide)) (.inl ⟨rfl, rfl⟩) fun w9 hE9 => ?_
   exact fin false n w8 w9 hI8 hE9.size (fun b _ hb => hE9.old b hb) (.inr (.inr (.inl ⟨h1, h2, rfl, rfl⟩)))
 · refine alone_raise (js_at hFin 7) (cj_at hFin 7) hI8.al (ok := true) (assert_end _) (.inr ⟨rfl, rfl⟩) fun w9 hE9 => ?_
   refine fin false held w8 w9 hI8 hE9.size (fun b _ hb => hE9.old b hb) ?_
   cases hbd : bad with
   | false => exact .inr (.inl ⟨rfl, h1, rfl, rfl⟩)
   | true => exact .inr (.inr (.inr ⟨rfl, h1, rfl, rfl⟩))
end Go.Proofs
set_option maxHeartbeats 4000000
set_option maxRecDepth 100000
namespace Go.Proofs.Ytdncabjenacolaa
open Go Go.Conc Go.RowKit Go.Car Go.ChangeShapes Go.WideShapes Go.ChangeAt
theorem walk_arg {H : Type} {enc : TypeId × Value → H} {W : World} {base : Nat} {v : Value} {d : DataW H} {p : List MemPlace} (hok : Value.okWide Try.prog W .any base 53 v)
 (h : DataW.Trod enc Try.prog W 0 (fun _ => true) true 53 v d p) : ∃ y : Wk, v = .agg #[.int .i64 y.s, .int .i64 y.a, .bool y.nl] := by
 obtain ⟨fs, k1, k2, k3⟩ := walk_fields
 obtain ⟨cs, rfl, hcs⟩ := okWide_struct k1 hok
 obtain ⟨fuel, hf⟩ := h
 have h3 : cs.size = 3 := by rw [hcs]; kernel_rfl
 obtain ⟨y, e0, e1, e2⟩ := walk_open (cs := cs.toList) k1 k3 k2 (by simpa [Value.cells] using hf)
 refine ⟨y, ?_⟩
 obtain ⟨l⟩ := cs
 simp only [List.size_toArray] at h3
 simp only at e0 e1 e2
 match l, h3 with
 | [a, b, c], _ =>
  simp only [al_g0, al_g1, al_oi] at e0 e1 e2
  subst e0 e1 e2
  rfl
theorem turnAlone_lifted (os : Os) (started : os.Started) (H : Type) (enc : TypeId × Value → H) (F : Stop.Interp) :
 ReturnsInLeavingWide {} Try.checked os 7 .any ((Rows.OpenSpec.upto Rows.turnAloneSpec).pre6 enc Try.prog Try.f7 Rows.turnAloneUptoRow.domain false) (((Rows.OpenSpec.upto Rows.turnAloneSpec).at F).post enc Try.prog Try.f7 false true false false) := by
 refine leaving_of_cond (C := Try.checked) (s := Rows.OpenSpec.upto Rows.turnAloneSpec) (k := Rows.uptoSmall) rfl own_knob started Try.func7
  (OpenSpec.witness (enc := enc) (C := Try.checked) (s := Rows.OpenSpec.upto Rows.turnAloneSpec) (k := Rows.uptoSmall) rfl false ⟨#[], #[.agg #[.int .i64 0, .int .i64 0, .bool false], .int .i64 0], []⟩ 8 (by kernel_rfl) (by kernel_rfl) (by kernel_rfl)
   (x := ([.agg [.lit (.int .i64 0), .lit (.int .i64 0), .lit (.bool false)], .lit (.int .i64 0)], [], [])) (by kernel_rfl) rfl (by kernel_rfl)) ?_
 intro W base args ds gs before hval0 hW hk
 have hval : ∀ (j : Nat) t v, Try.f7.params[j]? = some t → args[j]? = some v → Value.okWide Try.prog W .any base t v := hval0
 have hW' := hW
 obtain ⟨p, q, hA0, hV, rfl, _, _⟩ := hW
 have hA : DataW.TrodAll enc Try.prog W 0 (fun _ => true) true Try.f7.params.toList args.toList ds p := hA0
 rw [Try.params7] at hA hval
 obtain ⟨v0, v1, d0, d1, p0, p1, rfl, rfl, rfl, h0, h1⟩ := trodAll_two hA
 obtain ⟨rfl, rfl⟩ := trodVars_none hV
 clear hA0 hval0
 simp only [List.append_nil] at hW' hk
 have hlt : ∀ x ∈ p0 ++ p1, x.block < W.heap.size := fun x hx => by simpa using hW'.lt x hx
 obtain ⟨y, rfl⟩ := walk_arg (hval 0 _ v0 rfl rfl) h0
 obtain ⟨mo, rfl⟩ := okWide_int (k := .i64) (by kernel_rfl) (hval 1 _ v1 rfl rfl)
 obtain ⟨M, last, o, w', t', r1, r2, r3, r4⟩ := turnalone_run (Post := fun v w' => v = .bool true ∧ Beyond W w') (fun v w τ d h => ⟨h.1, h.2.1, h.2.2⟩) (s := y.s) (a := y.a) (nl := y.nl) (mo := mo) (fun w' h => ⟨rfl, h⟩)
 refine ⟨M, last, o, w', t', r1, r2, r3, r4.mono fun v hF => ?_⟩
 obtain ⟨⟨rfl, hb⟩, ho, hu⟩ := hF
 have same : ∀ {t : TypeId} (hr : Try.prog.readableRec t = true) (hrow : t < Try.prog.types.size) {v : Value} {d : DataW H} {ps : List MemPlace} (h : DataW.Trod enc Try.prog W 0 (fun _ => true) true t v d ps) (hlt : ∀ x ∈ ps, x.block < W.heap.size), DataW.Trod enc Try.prog w' 0 (fun b => decide (b < W.heap.size)) true t v d ps := fun hr hrow _ _ _ h hlt => reads_same hr hrow h hb hlt
 refine ⟨_, _, _, [], p0 ++ p1, [], hW', trodAll_mk1 (shut_bool Try.underlying4 true), ?_, rfl, kept_same hb ho hu _, fun h => by cases h⟩
 exact trodAll_mk2 (same (by kernel_rfl) (of_decide_eq_true (by kernel_rfl)) h0 fun x hx => hlt x (by simp [hx])) (same (by kernel_rfl) (of_decide_eq_true (by kernel_rfl)) h1 fun x hx => hlt x (by simp [hx]))
theorem turnAlone_upto : Rows.TurnAloneUptoSaid :=
 holds_leaving_cond 7 Try.f7 rfl rfl rfl rfl rfl rfl rfl ⟨rfl, rfl, rfl, rfl, rfl⟩ rfl rfl rfl rfl rfl (by kernel_rfl) Try.func7 (by kernel_rfl)
  (of_decide_eq_true (by kernel_rfl)) (by unfold Func.isWrapper; first | (rw [if_pos (by decide +kernel)]; kernel_rfl) | (rw [if_neg (by decide +kernel)]; exact ⟨rfl, rfl⟩))
  (fun os started H enc _ F => turnAlone_lifted os started H enc F)
end Go.Proofs.Ytdncabjenacolaa
