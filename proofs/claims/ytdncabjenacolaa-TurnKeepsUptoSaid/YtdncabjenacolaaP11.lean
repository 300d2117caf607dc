/- YtdncabjenacolaaTKeep4: part 11 of the proof (the texts behind it, in order). -/
import Derived.Test.YtdncabjenacolaaP10
set_option linter.unusedSimpArgs false
set_option linter.unusedVariables false
set_option linter.unusedSectionVars false
set_option linter.unnecessarySimpa false
set_option maxHeartbeats 1000000
set_option maxRecDepth 100000
namespace Go.Proofs
open Go Go.Conc Go.RowKit Go.Car
noncomputable def rL : Code := match Try.f41.body.getD .skip with | .seq _ (.block _ (.loop c)) => c | _ => .skip
noncomputable def rB : Code := match rL with | .seq _ (.block _ c) => c | _ => .skip
noncomputable def rS : Code := match headC (tailN 1 rB) with | .seq _ (.cond _ c _) => c | _ => .skip
noncomputable def rR : Code := tailN 2 rB
noncomputable def m1c : Code := headC (headC rL)
noncomputable def m2c : Code := headC rB
noncomputable def m3c : Code := headC (headC (tailN 1 rB))
noncomputable def m4c : Code := headC (headC rS)
noncomputable def m5c : Code := headC (tailN 1 rS)
noncomputable def m6c : Code := headC (headC (tailN 2 rS))
noncomputable def m7c : Code := match headC (tailN 2 rS) with | .seq _ (.cond _ c _) => c | _ => .skip
noncomputable def m8c : Code := headC (tailN 3 rS)
noncomputable def m9c : Code := headC (tailN 4 rS)
noncomputable def m10c : Code := headC (headC rR)
noncomputable def m11c : Code := headC (tailN 1 rR)
noncomputable def m12c : Code := tailN 2 rR
theorem rL_eq : rL = .seq (.seq m1c (.cond (.tmp 23) .skip (.exit 0))) (.block 1 rB) := by kernel_rfl
theorem rB_eq : rB = .seq m2c (.seq (.seq m3c (.cond (.tmp 53) rS .skip)) rR) := by kernel_rfl
theorem rS_eq : rS = .seq (.seq m4c (.cond (.tmp 55) .ret .skip)) (.seq m5c (.seq (.seq m6c (.cond (.tmp 59) m7c .skip)) (.seq m8c (.seq m9c (.exit 1))))) := by kernel_rfl
theorem rR_eq : rR = .seq (.seq m10c (.cond (.tmp 66) .ret .skip)) (.seq m11c m12c) := by kernel_rfl
structure FrR (mb : Nat) (pv iv : Value) (most own : Int) (T : Array Value) : Prop where
 size : T.size = 72
 t0 : T[0]? = some (.pointer (some ⟨mb, 0, none⟩))
 t1 : T[1]? = some pv
 t2 : T[2]? = some iv
 t3 : T[3]? = some (.int .i64 most)
 t8 : T[8]? = some (.int .i64 own)
theorem run_inn {Kc : Addr → Option Value} {J : Goroutine → World → Prop} (hJ : JX Try.prog Kc J) {mb : Nat} {pv iv : Value} {most own : Int} {T : Array Value} {w : World} {K : List Item} {cs : List Frame} (hF : FrR mb pv iv most own T) {p : Option Addr} {L C : Nat} (hpv : pv = .slice p L C) {next : Int} (cn : w.cell? ⟨mb, 6, none⟩ = some (.int .i64 next)) (h0 : 0 ≤ next) (h1 : next < L)
 (hmain : ∀ T', FrR mb pv iv most own T' → J (G ((bN 41).at ⟨T', []⟩ (.code rB :: .inBlock 1 :: K)) cs) w) : J (G ((bN 41).at ⟨T, []⟩ (.code rL :: K)) cs) w := by
 subst hpv
 have d0 : decide (next ≥ 0) = true := by simpa using h0
 have d1 : decide (next < (L : Int)) = true := by simpa using h1
 obtain ⟨hsz, f0, f1, f2, f3, f8⟩ := hF
 have hm := Lib.hid hmain
 clear hmain
 refine code_eq (J := fun (_ : Unit) => J) (s := ()) rL_eq ?_
 obtain ⟨u0, hu0⟩ : ∃ c, m1c = c := ⟨_, rfl⟩
 have eu0 := hu0
 rw [hu0]
 simp only [rL, rB, rS, rR, m1c, m2c, m3c, m4c, m5c, m6c, m7c, m8c, m9c, m10c, m11c, m12c, headC, tailN, Try.f41, al_od] at eu0
 subst eu0
 clear hu0
 refine hJ.ctl (s := ()) (fun w => stepG_seq) ?_
 refine hJ.ctl (s := ()) (fun w => stepG_seq) ?_
 refine hJ.ctl (s := ()) (fun w => stepG_region) ?_
 refine at_evalG (J := fun (_ : Unit) => J) (s := ()) hJ (by decide) 0 [some (.pointer (some ⟨mb, 0, none⟩)), some (.pointer (some ⟨mb, 0, none⟩)), some (.pointer (some ⟨mb, 6, none⟩)), some (.int .i64 next), some (.bool true), some (.bool true), some (.pointer (some ⟨mb, 0, none⟩)), some (.pointer (some ⟨mb, 0, none⟩)), some (.pointer (some ⟨mb, 6, none⟩)), some (.int .i64 next), some (.slice p L C), some (.int .i64 L), some (.bool true), some (.bool true)] [] rfl (by simp) (by rfl) ?_ ?_
 · intro τ d
   simp only [evalsG, dstOf, al_gl, al_g0, al_g1, al_ob]
   refine ⟨?_, ?_, ?_, ?_, ?_, ?_, ?_, ?_, ?_, ?_, ?_, ?_, ?_, ?_, trivial⟩ <;> (intro o ho; simp only [al_oi] at ho; subst ho)
   all_goals (first | refine ⟨by simp [Region.wanted, yielded, al_gs, hsz, f0, f1, f2, f3, f8], ?_⟩ | (simp [Region.wanted, yielded, al_gs, hsz, f0, f1, f2, f3, f8]; done))
   all_goals (try simp only [execOp, Act.eval, List.map_toArray, List.map_cons, List.map_nil, al_gd])
   all_goals (try simp only [al_gs, al_gz, hsz, f0, f1, f2, f3, f8, Nat.reduceEqDiff, Nat.reduceLT, ↓reduceIte, al_od])
   all_goals (have hlt : ∀ i, i < 72 → i < (T).size := fun i hi => (by rw [hsz]; exact hi))
   all_goals (clear hsz f0 f1 f2 f3 f8)
   all_goals (try go_simp)
   all_goals (try omega)
 simp only [putG, dstOf, al_gl, al_g0, al_g1, al_ob, al_od, Option.getD_none]
 obtain ⟨T1, hT⟩ : ∃ X, X = ((((((((((((((T).setIfInBounds 10 (.pointer (some ⟨mb, 0, none⟩))).setIfInBounds 11 (.pointer (some ⟨mb, 0, none⟩))).setIfInBounds 12 (.pointer (some ⟨mb, 6, none⟩))).setIfInBounds 13 (.int .i64 next)).setIfInBounds 14 (.bool true)).setIfInBounds 15 (.bool true)).setIfInBounds 16 (.pointer (some ⟨mb, 0, none⟩))).setIfInBounds 17 (.pointer (some ⟨mb, 0, none⟩))).setIfInBounds 18 (.pointer (some ⟨mb, 6, none⟩))).setIfInBounds 19 (.int .i64 next)).setIfInBounds 20 (.slice p L C)).setIfInBounds 21 (.int .i64 L)).setIfInBounds 22 (.bool true)).setIfInBounds 23 (.bool true) := ⟨_, rfl⟩
 rw [← hT]
 have hT1 : T1.size = 72 := by rw [hT]; simp [hsz]
 have T1_0 := sg14 hT f0
 have T1_1 := sg14 hT f1
 have T1_2 := sg14 hT f2
 have T1_3 := sg14 hT f3
 have T1_8 := sg14 hT f8
 have T1_23 : T1[23]? = some (.bool true) := by rw [hT]; simp [al_gs, hsz]
 clear hT f0 f1 f2 f3 f8 hsz
 refine hJ.ctl (s := ()) (fun w => stepG_region_end) ?_
 refine hJ.ctl (s := ()) (fun w => stepG_cond (t := true) (by simp [Act.eval, al_gd, T1_23])) ?_
 simp only [if_true]
 refine hJ.ctl (s := ()) (fun w => stepG_skip) ?_
 refine hJ.ctl (s := ()) (fun w => stepG_block) ?_
 exact hm.out _ ⟨hT1, T1_0, T1_1, T1_2, T1_3, T1_8⟩
theorem run_out_neg {Kc : Addr → Option Value} {J : Goroutine → World → Prop} (hJ : JX Try.prog Kc J) {mb : Nat} {pv iv : Value} {most own : Int} {T : Array Value} {w : World} {K : List Item} {cs : List Frame} (hF : FrR mb pv iv most own T) {p : Option Addr} {L C : Nat} (hpv : pv = .slice p L C) {next : Int} (cn : w.cell? ⟨mb, 6, none⟩ = some (.int .i64 next)) (h0 : next < 0)
 (hmain : ∀ T', FrR mb pv iv most own T' → J (G ((bN 41).at ⟨T', []⟩ K) cs) w) : J (G ((bN 41).at ⟨T, []⟩ (.code rL :: .inLoop rL :: .inBlock 0 :: K)) cs) w := by
 subst hpv
 have d0 : decide (next ≥ 0) = false := by simpa using h0
 obtain ⟨hsz, f0, f1, f2, f3, f8⟩ := hF
 have hm := Lib.hid hmain
 clear hmain
 refine code_eq (J := fun (_ : Unit) => J) (s := ()) rL_eq ?_
 obtain ⟨u0, hu0⟩ : ∃ c, m1c = c := ⟨_, rfl⟩
 have eu0 := hu0
 rw [hu0]
 simp only [rL, rB, rS, rR, m1c, m2c, m3c, m4c, m5c, m6c, m7c, m8c, m9c, m10c, m11c, m12c, headC, tailN, Try.f41, al_od] at eu0
 subst eu0
 clear hu0
 refine hJ.ctl (s := ()) (fun w => stepG_seq) ?_
 refine hJ.ctl (s := ()) (fun w => stepG_seq) ?_
 refine hJ.ctl (s := ()) (fun w => stepG_region) ?_
 refine at_evalG (J := fun (_ : Unit) => J) (s := ()) hJ (by decide) 0 [some (.pointer (some ⟨mb, 0, none⟩)), some (.pointer (some ⟨mb, 0, none⟩)), some (.pointer (some ⟨mb, 6, none⟩)), some (.int .i64 next), some (.bool false), some (.bool false), none, none, none, none, none, none, none, some (.bool false)] [] rfl (by simp) (by rfl) ?_ ?_
 · intro τ d
   simp only [evalsG, dstOf, al_gl, al_g0, al_g1, al_ob]
   refine ⟨?_, ?_, ?_, ?_, ?_, ?_, ?_, ?_, ?_, ?_, ?_, ?_, ?_, ?_, trivial⟩ <;> (intro o ho; simp only [al_oi] at ho; subst ho)
   all_goals (first | refine ⟨by simp [Region.wanted, yielded, al_gs, hsz, f0, f1, f2, f3, f8], ?_⟩ | (simp [Region.wanted, yielded, al_gs, hsz, f0, f1, f2, f3, f8]; done))
   all_goals (try simp only [execOp, Act.eval, List.map_toArray, List.map_cons, List.map_nil, al_gd])
   all_goals (try simp only [al_gs, al_gz, hsz, f0, f1, f2, f3, f8, Nat.reduceEqDiff, Nat.reduceLT, ↓reduceIte, al_od])
   all_goals (have hlt : ∀ i, i < 72 → i < (T).size := fun i hi => (by rw [hsz]; exact hi))
   all_goals (clear hsz f0 f1 f2 f3 f8)
   all_goals (try go_simp)
   all_goals (try omega)
 simp only [putG, dstOf, al_gl, al_g0, al_g1, al_ob, al_od, Option.getD_none]
 obtain ⟨T1, hT⟩ : ∃ X, X = ((((((((((((((T).setIfInBounds 10 (.pointer (some ⟨mb, 0, none⟩))).setIfInBounds 11 (.pointer (some ⟨mb, 0, none⟩))).setIfInBounds 12 (.pointer (some ⟨mb, 6, none⟩))).setIfInBounds 13 (.int .i64 next)).setIfInBounds 14 (.bool false)).setIfInBounds 15 (.bool false)).setIfInBounds 16 (undef)).setIfInBounds 17 (undef)).setIfInBounds 18 (undef)).setIfInBounds 19 (undef)).setIfInBounds 20 (undef)).setIfInBounds 21 (undef)).setIfInBounds 22 (undef)).setIfInBounds 23 (.bool false) := ⟨_, rfl⟩
 rw [← hT]
 have hT1 : T1.size = 72 := by rw [hT]; simp [hsz]
 have T1_0 := sg14 hT f0
 have T1_1 := sg14 hT f1
 have T1_2 := sg14 hT f2
 have T1_3 := sg14 hT f3
 have T1_8 := sg14 hT f8
 have T1_23 : T1[23]? = some (.bool false) := by rw [hT]; simp [al_gs, hsz]
 clear hT f0 f1 f2 f3 f8 hsz
 refine hJ.ctl (s := ()) (fun w => stepG_region_end) ?_
 refine hJ.ctl (s := ()) (fun w => stepG_cond (t := false) (by simp [Act.eval, al_gd, T1_23])) ?_
 simp only [Bool.false_eq_true, if_false]
 refine hJ.ctl (s := ()) (fun w => stepG_exit (k' := K) rfl) ?_
 exact hm.out _ ⟨hT1, T1_0, T1_1, T1_2, T1_3, T1_8⟩
theorem run_out_big {Kc : Addr → Option Value} {J : Goroutine → World → Prop} (hJ : JX Try.prog Kc J) {mb : Nat} {pv iv : Value} {most own : Int} {T : Array Value} {w : World} {K : List Item} {cs : List Frame} (hF : FrR mb pv iv most own T) {p : Option Addr} {L C : Nat} (hpv : pv = .slice p L C) {next : Int} (cn : w.cell? ⟨mb, 6, none⟩ = some (.int .i64 next)) (h0 : 0 ≤ next) (h1 : ¬ next < L)
 (hmain : ∀ T', FrR mb pv iv most own T' → J (G ((bN 41).at ⟨T', []⟩ K) cs) w) : J (G ((bN 41).at ⟨T, []⟩ (.code rL :: .inLoop rL :: .inBlock 0 :: K)) cs) w := by
 subst hpv
 have d0 : decide (next ≥ 0) = true := by simpa using h0
 have d1 : decide (next < (L : Int)) = false := by simpa using h1
 obtain ⟨hsz, f0, f1, f2, f3, f8⟩ := hF
 have hm := Lib.hid hmain
 clear hmain
 refine code_eq (J := fun (_ : Unit) => J) (s := ()) rL_eq ?_
 obtain ⟨u0, hu0⟩ : ∃ c, m1c = c := ⟨_, rfl⟩
 have eu0 := hu0
 rw [hu0]
 simp only [rL, rB, rS, rR, m1c, m2c, m3c, m4c, m5c, m6c, m7c, m8c, m9c, m10c, m11c, m12c, headC, tailN, Try.f41, al_od] at eu0
 subst eu0
 clear hu0
 refine hJ.ctl (s := ()) (fun w => stepG_seq) ?_
 refine hJ.ctl (s := ()) (fun w => stepG_seq) ?_
 refine hJ.ctl (s := ()) (fun w => stepG_region) ?_
 refine at_evalG (J := fun (_ : Unit) => J) (s := ()) hJ (by decide) 0 [some (.pointer (some ⟨mb, 0, none⟩)), some (.pointer (some ⟨mb, 0, none⟩)), some (.pointer (some ⟨mb, 6, none⟩)), some (.int .i64 next), some (.bool true), some (.bool true), some (.pointer (some ⟨mb, 0, none⟩)), some (.pointer (some ⟨mb, 0, none⟩)), some (.pointer (some ⟨mb, 6, none⟩)), some (.int .i64 next), some (.slice p L C), some (.int .i64 L), some (.bool false), some (.bool false)] [] rfl (by simp) (by rfl) ?_ ?_
 · intro τ d
   simp only [evalsG, dstOf, al_gl, al_g0, al_g1, al_ob]
   refine ⟨?_, ?_, ?_, ?_, ?_, ?_, ?_, ?_, ?_, ?_, ?_, ?_, ?_, ?_, trivial⟩ <;> (intro o ho; simp only [al_oi] at ho; subst ho)
   all_goals (first | refine ⟨by simp [Region.wanted, yielded, al_gs, hsz, f0, f1, f2, f3, f8], ?_⟩ | (simp [Region.wanted, yielded, al_gs, hsz, f0, f1, f2, f3, f8]; done))
   all_goals (try simp only [execOp, Act.eval, List.map_toArray, List.map_cons, List.map_nil, al_gd])
   all_goals (try simp only [al_gs, al_gz, hsz, f0, f1, f2, f3, f8, Nat.reduceEqDiff, Nat.reduceLT, ↓reduceIte, al_od])
   all_goals (have hlt : ∀ i, i < 72 → i < (T).size := fun i hi => (by rw [hsz]; exact hi))
   all_goals (clear hsz f0 f1 f2 f3 f8)
   all_goals (try go_simp)
   all_goals (try omega)
 simp only [putG, dstOf, al_gl, al_g0, al_g1, al_ob, al_od, Option.getD_none]
 obtain ⟨T1, hT⟩ : ∃ X, X = ((((((((((((((T).setIfInBounds 10 (.pointer (some ⟨mb, 0, none⟩))).setIfInBounds 11 (.pointer (some ⟨mb, 0, none⟩))).setIfInBounds 12 (.pointer (some ⟨mb, 6, none⟩))).setIfInBounds 13 (.int .i64 next)).setIfInBounds 14 (.bool true)).setIfInBounds 15 (.bool true)).setIfInBounds 16 (.pointer (some ⟨mb, 0, none⟩))).setIfInBounds 17 (.pointer (some ⟨mb, 0, none⟩))).setIfInBounds 18 (.pointer (some ⟨mb, 6, none⟩))).setIfInBounds 19 (.int .i64 next)).setIfInBounds 20 (.slice p L C)).setIfInBounds 21 (.int .i64 L)).setIfInBounds 22 (.bool false)).setIfInBounds 23 (.bool false) := ⟨_, rfl⟩
 rw [← hT]
 have hT1 : T1.size = 72 := by rw [hT]; simp [hsz]
 have T1_0 := sg14 hT f0
 have T1_1 := sg14 hT f1
 have T1_2 := sg14 hT f2
 have T1_3 := sg14 hT f3
 have T1_8 := sg14 hT f8
 have T1_23 : T1[23]? = some (.bool false) := by rw [hT]; simp [al_gs, hsz]
 clear hT f0 f1 f2 f3 f8 hsz
 refine hJ.ctl (s := ()) (fun w => stepG_region_end) ?_
 refine hJ.ctl (s := ()) (fun w => stepG_cond (t := false) (by simp [Act.eval, al_gd, T1_23])) ?_
 simp only [Bool.false_eq_true, if_false]
 refine hJ.ctl (s := ()) (fun w => stepG_exit (k' := K) rfl) ?_
 exact hm.out _ ⟨hT1, T1_0, T1_1, T1_2, T1_3, T1_8⟩
theorem run_copy {Kc : Addr → Option Value} {J : Goroutine → World → Prop} (hJ : JX Try.prog Kc J) {mb : Nat} {pv iv : Value} {most own : Int} {T : Array Value} {w : World} {K : List Item} {cs : List Frame} (hF : FrR mb pv iv most own T) {g L C : Nat} (hpv : pv = .slice (some ⟨g, 0, none⟩) L C) {next d r a b v : Int} (cn : w.cell? ⟨mb, 6, none⟩ = some (.int .i64 next)) (h0 : 0 ≤ next) (h1 : next < L)
 (e0 : w.cell? ⟨g, next.toNat * 5, none⟩ = some (.int .i64 d)) (e1 : w.cell? ⟨g, next.toNat * 5 + 1, none⟩ = some (.int .i64 r)) (e2 : w.cell? ⟨g, next.toNat * 5 + 2, none⟩ = some (.int .i64 a)) (e3 : w.cell? ⟨g, next.toNat * 5 + 3, none⟩ = some (.int .i64 b)) (e4 : w.cell? ⟨g, next.toNat * 5 + 4, none⟩ = some (.int .i64 v)) (hK : ∀ y : Addr, w.heap.size ≤ y.block → Kc y = none)
 (hmain : ∀ T' w', FrR mb pv iv most own T' → T'[9]? = some (.pointer (some ⟨w.heap.size, 0, none⟩)) → w'.heap[w.heap.size]? = some (.cells #[.int .i64 d, .int .i64 r, .int .i64 a, .int .i64 b, .int .i64 v] 74) → w'.heap.size = w.heap.size + 1 → (∀ b, b < w.heap.size → w'.heap[b]? = w.heap[b]?) → J (G ((bN 41).at ⟨T', []⟩ K) cs) w') : J (G ((bN 41).at ⟨T, []⟩ (.code m2c :: K)) cs) w := by
 subst hpv
 obtain ⟨hsz, f0, f1, f2, f3, f8⟩ := hF
 have hm := Lib.hid hmain
 clear hmain
 obtain ⟨u0, hu0⟩ : ∃ c, m2c = c := ⟨_, rfl⟩
 have eu0 := hu0
 rw [hu0]
 simp only [rL, rB, rS, rR, m1c, m2c, m3c, m4c, m5c, m6c, m7c, m8c, m9c, m10c, m11c, m12c, headC, tailN, Try.f41, al_od] at eu0
 subst eu0
 clear hu0
 refine hJ.ctl (s := ()) (fun w => stepG_region) ?_
 refine at_eval (J := fun (_ : Unit) => J) (s := ()) hJ (by decide) 0 [.slice (some ⟨g, 0, none⟩) L C, .pointer (some ⟨mb, 0, none⟩), .pointer (some ⟨mb, 0, none⟩), .pointer (some ⟨mb, 6, none⟩), .int .i64 next, .pointer (some ⟨g, next.toNat * 5, none⟩), .agg #[.int .i64 d, .int .i64 r, .int .i64 a, .int .i64 b, .int .i64 v]] [7, 8] rfl (by simp) (by rfl) ?_ ?_
 · intro τ d
   simp only [evalsO, dstOf, al_gl, al_g0, al_g1, al_ob]
   refine ⟨?_, ?_, ?_, ?_, ?_, ?_, ?_, trivial⟩ <;> (intro o ho; simp only [al_oi] at ho; subst ho)
   all_goals (try simp only [execOp, Act.eval, List.map_toArray, List.map_cons, List.map_nil, al_gd])
   all_goals (try simp only [al_gs, al_gz, hsz, f0, f1, f2, f3, f8, Nat.reduceEqDiff, Nat.reduceLT, ↓reduceIte, al_od])
   all_goals (have hlt : ∀ i, i < 72 → i < (T).size := fun i hi => (by rw [hsz]; exact hi))
   all_goals (clear hsz f0 f1 f2 f3 f8)
   all_goals (try go_simp)
   all_goals (try omega)
 simp only [putv, dstOf, al_gl, al_g0, al_g1, al_ob]
 obtain ⟨T1, hT⟩ : ∃ X, X = (((((((T).setIfInBounds 24 (.slice (some ⟨g, 0, none⟩) L C)).setIfInBounds 25 (.pointer (some ⟨mb, 0, none⟩))).setIfInBounds 26 (.pointer (some ⟨mb, 0, none⟩))).setIfInBounds 27 (.pointer (some ⟨mb, 6, none⟩))).setIfInBounds 28 (.int .i64 next)).setIfInBounds 29 (.pointer (some ⟨g, next.toNat * 5, none⟩))).setIfInBounds 30 (.agg #[.int .i64 d, .int .i64 r, .int .i64 a, .int .i64 b, .int .i64 v]) := ⟨_, rfl⟩
 rw [← hT]
 have hT1 : T1.size = 72 := by rw [hT]; simp [hsz]
 have T1_0 := sg7 hT f0
 have T1_1 := sg7 hT f1
 have T1_2 := sg7 hT f2
 have T1_3 := sg7 hT f3
 have T1_8 := sg7 hT f8
 have T1_30 : T1[30]? = some (.agg #[.int .i64 d, .int .i64 r, .int .i64 a, .int .i64 b, .int .i64 v]) := by rw [hT]; simp [al_gs, hsz]
 clear hT f0 f1 f2 f3 f8 hsz
 refine at_opK (J := fun (_ : Unit) => J) (s := ()) hJ (by decide) (i := 7) (rest := [8]) rfl rfl rfl rfl fun τ dd => ?_
 refine ⟨.pointer (some ⟨w.heap.size, 0, none⟩), re (w.alloc (.cells #[.int .i64 0, .int .i64 0, .int .i64 0, .int .i64 0, .int .i64 0] 74)) τ dd, ?_, ?_⟩
 · simp only [List.getElem_toArray, List.getElem_cons_zero, List.getElem_cons_succ, execOp, Act.eval, List.map_toArray, List.map_cons, List.map_nil, al_gd, hT1, T1_0, T1_1, T1_2, T1_3, T1_8, T1_30, al_od]
   clear hT1 T1_0 T1_1 T1_2 T1_3 T1_8 T1_30
   go_simp
   all_goals rfl
 refine hJ.re' () _ _ τ dd ?_
 obtain ⟨B, hB⟩ : ∃ B, w.heap.size = B := ⟨_, rfl⟩
 rw [hB] at hK hm ⊢
 obtain ⟨T2, hT⟩ : ∃ X, X = (T1).setIfInBounds 9 (.pointer (some ⟨B, 0, none⟩)) := ⟨_, rfl⟩
 rw [← hT]
 have hT2 : T2.size = 72 := by rw [hT]; simp [hT1]
 have T2_0 := sg1 hT T1_0
 have T2_1 := sg1 hT T1_1
 have T2_2 := sg1 hT T1_2
 have T2_3 := sg1 hT T1_3
 have T2_8 := sg1 hT T1_8
 have T2_30 := sg1 hT T1_30
 have T2_9 : T2[9]? = some (.pointer (some ⟨B, 0, none⟩)) := by rw [hT]; simp [al_gs, hT1]
 clear hT T1_0 T1_1 T1_2 T1_3 T1_8 T1_30 hT1
 have hw2 := fun (b : Nat) (hb : b < B) => (show (w.alloc (.cells #[.int .i64 0, .int .i64 0, .int .i64 0, .int .i64 0, .int .i64 0] 74)).heap[b]? = w.heap[b]? from by rw [zqa, if_neg (by omega)])
 have hw3 : (w.alloc (.cells #[.int .i64 0, .int .i64 0, .int .i64 0, .int .i64 0, .int .i64 0] 74)).heap[B]? = some (.cells #[.int .i64 0, .int .i64 0, .int .i64 0, .int .i64 0, .int .i64 0] 74) := hB ▸ al_new w _
 have hw4 : (w.alloc (.cells #[.int .i64 0, .int .i64 0, .int .i64 0, .int .i64 0, .int .i64 0] 74)).heap.size = B + 1 := by rw [zq6, hB]
 generalize w.alloc (.cells #[.int .i64 0, .int .i64 0, .int .i64 0, .int .i64 0, .int .i64 0] 74) = w2 at *
 refine at_storeK (J := fun (_ : Unit) => J) (s := ()) hJ (by decide) (i := 8) (rest := []) rfl rfl rfl rfl (ad := ⟨B, 0, none⟩) (by simp [Act.eval, al_gd, T2_9]) (fun j _ => hK _ (by rw [add_block]; exact Nat.le_refl _)) ⟨_, _, _, hw3⟩ fun τ dd => ?_
 have z0 := zqg (off := 0) hw3
 have z1 := zqg (off := 1) hw3
 have z2 := zqg (off := 2) hw3
 have z3 := zqg (off := 3) hw3
 have z4 := zqg (off := 4) hw3
 have y0 := (zq0 (off := 0) hw3).trans rfl
 have y1 := (zq0 (off := 1) hw3).trans rfl
 have y2 := (zq0 (off := 2) hw3).trans rfl
 have y3 := (zq0 (off := 3) hw3).trans rfl
 have y4 := (zq0 (off := 4) hw3).trans rfl
 refine ⟨re (((((w2.setCell ⟨B, 0, none⟩ (.int .i64 d)).setCell ⟨B, 1, none⟩ (.int .i64 r)).setCell ⟨B, 2, none⟩ (.int .i64 a)).setCell ⟨B, 3, none⟩ (.int .i64 b)).setCell ⟨B, 4, none⟩ (.int .i64 v)) τ dd, ?_, ?_⟩
 · simp only [List.getElem_toArray, List.getElem_cons_zero, List.getElem_cons_succ, execOp, Act.eval, List.map_toArray, List.map_cons, List.map_nil, al_gd, hT2, T2_0, T2_1, T2_2, T2_3, T2_8, T2_30, T2_9, al_od]
   clear hT2 T2_0 T2_1 T2_2 T2_3 T2_8 T2_30 T2_9
   go_simp
   all_goals (simp only [re_setCell])
 refine hJ.re' () _ _ τ dd ?_
 have s1 := zqh w2 B 0 (.int .i64 d) hw3
 have s2 := zqh _ B 1 (.int .i64 r) s1
 have s3 := zqh _ B 2 (.int .i64 a) s2
 have s4 := zqh _ B 3 (.int .i64 b) s3
 have s5 := zqh _ B 4 (.int .i64 v) s4
 refine hJ.ctl (s := ()) (fun w => stepG_region_end) ?_
 refine hm.out _ _ ⟨hT2, T2_0, T2_1, T2_2, T2_3, T2_8⟩ T2_9 s5 ?_ fun b hb => ?_
 · simp only [zqi]; exact hw4
 · have hne : b ≠ B := by omega
   rw [zq3 _ _ _ _ hne, zq3 _ _ _ _ hne, zq3 _ _ _ _ hne, zq3 _ _ _ _ hne, zq3 _ _ _ _ hne]; exact hw2 b hb
theorem run_what1 {Kc : Addr → Option Value} {J : Goroutine → World → Prop} (hJ : JX Try.prog Kc J) {mb : Nat} {pv iv : Value} {most own : Int} {T : Array Value} {w : World} {K : List Item} {cs : List Frame} (hF : FrR mb pv iv most own T) {B bw W : Nat} {d a : Int} (f9 : T[9]? = some (.pointer (some ⟨B, 0, none⟩))) (b0 : w.cell? ⟨B, 0, none⟩ = some (.int .i64 d)) (b2 : w.cell? ⟨B, 2, none⟩ = some (.int .i64 a)) (c0 : w.cell? ⟨mb, 0, none⟩ = some (.slice (some ⟨bw, 0, none⟩) W W)) (k1 : ¬ 7 ≤ d)
 (hmain : ∀ T', FrR mb pv iv most own T' → T'[9]? = some (.pointer (some ⟨B, 0, none⟩)) → J (G ((bN 41).at ⟨T', []⟩ (.code rR :: K)) cs) w) : J (G ((bN 41).at ⟨T, []⟩ (.code (.seq (.seq m3c (.cond (.tmp 53) rS .skip)) rR) :: K)) cs) w := by
 have d1 : decide (d ≥ 7) = false := by simpa using k1
 obtain ⟨hsz, f0, f1, f2, f3, f8⟩ := hF
 have hm := Lib.hid hmain
 clear hmain
 obtain ⟨u0, hu0⟩ : ∃ c, m3c = c := ⟨_, rfl⟩
 have eu0 := hu0
 rw [hu0]
 simp only [rL, rB, rS, rR, m1c, m2c, m3c, m4c, m5c, m6c, m7c, m8c, m9c, m10c, m11c, m12c, headC, tailN, Try.f41, al_od] at eu0
 subst eu0
 clear hu0
 refine hJ.ctl (s := ()) (fun w => stepG_seq) ?_
 refine hJ.ctl (s := ()) (fun w => stepG_seq) ?_
 refine at_evalGd (J := fun (_ : Unit) => J) (s := ()) hJ (by decide) (by rfl) [some (.pointer (some ⟨B, 0, none⟩)), some (.int .i64 d), some (.bool false), some (.bool false), none, none, none, some (.bool false), some (.bool false), none, none, none, some (.bool false), some (.bool false), none, none, none, none, none, none, none, none, some (.bool false)] (by rfl) (by rw [hsz]; kernel_rfl) ?_ ?_
 · intro τ d
   simp only [evalsG, dstOf, al_gl, al_g0, al_g1, al_ob]
   refine ⟨?_, ?_, ?_, ?_, ?_, ?_, ?_, ?_, ?_, ?_, ?_, ?_, ?_, ?_, ?_, ?_, ?_, ?_, ?_, ?_, ?_, ?_, ?_, trivial⟩ <;> (intro o ho; simp only [al_oi] at ho; subst ho)
   all_goals (first | refine ⟨by simp [Region.wanted, yielded, al_gs, hsz, f0, f1, f2, f3, f8, f9], ?_⟩ | (simp [Region.wanted, yielded, al_gs, hsz, f0, f1, f2, f3, f8, f9]; done))
   all_goals (try simp only [execOp, Act.eval, List.map_toArray, List.map_cons, List.map_nil, al_gd])
   all_goals (try simp only [al_gs, al_gz, hsz, f0, f1, f2, f3, f8, f9, Nat.reduceEqDiff, Nat.reduceLT, ↓reduceIte, al_od])
   all_goals (have hlt : ∀ i, i < 72 → i < (T).size := fun i hi => (by rw [hsz]; exact hi))
   all_goals (clear hsz f0 f1 f2 f3 f8 f9)
   all_goals (try go_simp)
   all_goals (try omega)
 simp only [putG, dstOf, al_gl, al_g0, al_g1, al_ob, al_od, Option.getD_none]
 obtain ⟨T1, hT⟩ : ∃ X, X = (((((((((((((((((((((((T).setIfInBounds 31 (.pointer (some ⟨B, 0, none⟩))).setIfInBounds 32 (.int .i64 d)).setIfInBounds 33 (.bool false)).setIfInBounds 34 (.bool false)).setIfInBounds 35 (undef)).setIfInBounds 36 (undef)).setIfInBounds 37 (undef)).setIfInBounds 38 (.bool false)).setIfInBounds 39 (.bool false)).setIfInBounds 40 (undef)).setIfInBounds 41 (undef)).setIfInBounds 42 (undef)).setIfInBounds 43 (.bool false)).setIfInBounds 44 (.bool false)).setIfInBounds 45 (undef)).setIfInBounds 46 (undef)).setIfInBounds 47 (undef)).setIfInBounds 48 (undef)).setIfInBounds 49 (undef)).setIfInBounds 50 (undef)).setIfInBounds 51 (undef)).setIfInBounds 52 (undef)).setIfInBounds 53 (.bool false) := ⟨_, rfl⟩
 rw [← hT]
 have hT1 : T1.size = 72 := by rw [hT]; simp [hsz]
 have T1_0 := sg23 hT f0
 have T1_1 := sg23 hT f1
 have T1_2 := sg23 hT f2
 have T1_3 := sg23 hT f3
 have T1_8 := sg23 hT f8
 have T1_9 := sg23 hT f9
 have T1_53 : T1[53]? = some (.bool false) := by rw [hT]; simp [al_gs, hsz]
 clear hT f0 f1 f2 f3 f8 f9 hsz
 refine hJ.ctl (s := ()) (fun w => stepG_region_end) ?_
 refine hJ.ctl (s := ()) (fun w => stepG_cond (t := false) (by simp [Act.eval, al_gd, T1_53])) ?_
 simp only [Bool.false_eq_true, if_false]
 refine hJ.ctl (s := ()) (fun w => stepG_skip) ?_
 exact hm.out _ ⟨hT1, T1_0, T1_1, T1_2, T1_3, T1_8⟩ T1_9
theorem run_what2 {Kc : Addr → Option Value} {J : Goroutine → World → Prop} (hJ : JX Try.prog Kc J) {mb : Nat} {pv iv : Value} {most own : Int} {T : Array Value} {w : World} {K : List Item} {cs : List Frame} (hF : FrR mb pv iv most own T) {B bw W : Nat} {d a : Int} (f9 : T[9]? = some (.pointer (some ⟨B, 0, none⟩))) (b0 : w.cell? ⟨B, 0, none⟩ = some (.int .i64 d)) (b2 : w.cell? ⟨B, 2, none⟩ = some (.int .i64 a)) (c0 : w.cell? ⟨mb, 0, none⟩ = some (.slice (some ⟨bw, 0, none⟩) W W)) (k1 : 7 ≤ d) (k2 : ¬ d ≤ 11)
 (hmain : ∀ T', FrR mb pv iv most own T' → T'[9]? = some (.pointer (some ⟨B, 0, none⟩)) → J (G ((bN 41).at ⟨T', []⟩ (.code rR :: K)) cs) w) : J (G ((bN 41).at ⟨T, []⟩ (.code (.seq (.seq m3c (.cond (.tmp 53) rS .skip)) rR) :: K)) cs) w := by
 have d1 : decide (d ≥ 7) = true := by simpa using k1
 have d2 : decide (d ≤ 11) = false := by simpa using k2
 obtain ⟨hsz, f0, f1, f2, f3, f8⟩ := hF
 have hm := Lib.hid hmain
 clear hmain
 obtain ⟨u0, hu0⟩ : ∃ c, m3c = c := ⟨_, rfl⟩
 have eu0 := hu0
 rw [hu0]
 simp only [rL, rB, rS, rR, m1c, m2c, m3c, m4c, m5c, m6c, m7c, m8c, m9c, m10c, m11c, m12c, headC, tailN, Try.f41, al_od] at eu0
 subst eu0
 clear hu0
 refine hJ.ctl (s := ()) (fun w => stepG_seq) ?_
 refine hJ.ctl (s := ()) (fun w => stepG_seq) ?_
 refine at_evalGd (J := fun (_ : Unit) => J) (s := ()) hJ (by decide) (by rfl) [some (.pointer (some ⟨B, 0, none⟩)), some (.int .i64 d), some (.bool true), some (.bool true), some (.pointer (some ⟨B, 0, none⟩)), some (.int .i64 d), some (.bool false), some (.bool false), some (.bool false), none, none, none, some (.bool false), some (.bool false), none, none, none, none, none, none, none, none, some (.bool false)] (by rfl) (by rw [hsz]; kernel_rfl) ?_ ?_
 · intro τ d
   simp only [evalsG, dstOf, al_gl, al_g0, al_g1, al_ob]
   refine ⟨?_, ?_, ?_, ?_, ?_, ?_, ?_, ?_, ?_, ?_, ?_, ?_, ?_, ?_, ?_, ?_, ?_, ?_, ?_, ?_, ?_, ?_, ?_, trivial⟩ <;> (intro o ho; simp only [al_oi] at ho; subst ho)
   all_goals (first | refine ⟨by simp [Region.wanted, yielded, al_gs, hsz, f0, f1, f2, f3, f8, f9], ?_⟩ | (simp [Region.wanted, yielded, al_gs, hsz, f0, f1, f2, f3, f8, f9]; done))
   all_goals (try simp only [execOp, Act.eval, List.map_toArray, List.map_cons, List.map_nil, al_gd])
   all_goals (try simp only [al_gs, al_gz, hsz, f0, f1, f2, f3, f8, f9, Nat.reduceEqDiff, Nat.reduceLT, ↓reduceIte, al_od])
   all_goals (have hlt : ∀ i, i < 72 → i < (T).size := fun i hi => (by rw [hsz]; exact hi))
   all_goals (clear hsz f0 f1 f2 f3 f8 f9)
   all_goals (try go_simp)
   all_goals (try omega)
 simp only [putG, dstOf, al_gl, al_g0, al_g1, al_ob, al_od, Option.getD_none]
 obtain ⟨T1, hT⟩ : ∃ X, X = (((((((((((((((((((((((T).setIfInBounds 31 (.pointer (some ⟨B, 0, none⟩))).setIfInBounds 32 (.int .i64 d)).setIfInBounds 33 (.bool true)).setIfInBounds 34 (.bool true)).setIfInBounds 35 (.pointer (some ⟨B, 0, none⟩))).setIfInBounds 36 (.int .i64 d)).setIfInBounds 37 (.bool false)).setIfInBounds 38 (.bool false)).setIfInBounds 39 (.bool false)).setIfInBounds 40 (undef)).setIfInBounds 41 (undef)).setIfInBounds 42 (undef)).setIfInBounds 43 (.bool false)).setIfInBounds 44 (.bool false)).setIfInBounds 45 (undef)).setIfInBounds 46 (undef)).setIfInBounds 47 (undef)).setIfInBounds 48 (undef)).setIfInBounds 49 (undef)).setIfInBounds 50 (undef)).setIfInBounds 51 (undef)).setIfInBounds 52 (undef)).setIfInBounds 53 (.bool false) := ⟨_, rfl⟩
 rw [← hT]
 have hT1 : T1.size = 72 := by rw [hT]; simp [hsz]
 have T1_0 := sg23 hT f0
 have T1_1 := sg23 hT f1
 have T1_2 := sg23 hT f2
 have T1_3 := sg23 hT f3
 have T1_8 := sg23 hT f8
 have T1_9 := sg23 hT f9
 have T1_53 : T1[53]? = some (.bool false) := by rw [hT]; simp [al_gs, hsz]
 clear hT f0 f1 f2 f3 f8 f9 hsz
 refine hJ.ctl (s := ()) (fun w => stepG_region_end) ?_
 refine hJ.ctl (s := ()) (fun w => stepG_cond (t := false) (by simp [Act.eval, al_gd, T1_53])) ?_
 simp only [Bool.false_eq_true, if_false]
 refine hJ.ctl (s := ()) (fun w => stepG_skip) ?_
 exact hm.out _ ⟨hT1, T1_0, T1_1, T1_2, T1_3, T1_8⟩ T1_9
theorem run_what3 {Kc : Addr → Option Value} {J : Goroutine → World → Prop} (hJ : JX Try.prog Kc J) {mb : Nat} {pv iv : Value} {most own : Int} {T : Array Value} {w : World} {K : List Item} {cs : List Frame} (hF : FrR mb pv iv most own T) {B bw W : Nat} {d a : Int} (f9 : T[9]? = some (.pointer (some ⟨B, 0, none⟩))) (b0 : w.cell? ⟨B, 0, none⟩ = some (.int .i64 d)) (b2 : w.cell? ⟨B, 2, none⟩ = some (.int .i64 a)) (c0 : w.cell? ⟨mb, 0, none⟩ = some (.slice (some ⟨bw, 0, none⟩) W W)) (k1 : 7 ≤ d) (k2 : d ≤ 11) (k3 : ¬ 0 ≤ a)
 (hmain : ∀ T', FrR mb pv iv most own T' → T'[9]? = some (.pointer (some ⟨B, 0, none⟩)) → J (G ((bN 41).at ⟨T', []⟩ (.code rR :: K)) cs) w) : J (G ((bN 41).at ⟨T, []⟩ (.code (.seq (.seq m3c (.cond (.tmp 53) rS .skip)) rR) :: K)) cs) w := by
 have d1 : decide (d ≥ 7) = true := by simpa using k1
 have d2 : decide (d ≤ 11) = true := by simpa using k2
 have d3 : decide (a ≥ 0) = false := by simpa using k3
 obtain ⟨hsz, f0, f1, f2, f3, f8⟩ := hF
 have hm := Lib.hid hmain
 clear hmain
 obtain ⟨u0, hu0⟩ : ∃ c, m3c = c := ⟨_, rfl⟩
 have eu0 := hu0
 rw [hu0]
 simp only [rL, rB, rS, rR, m1c, m2c, m3c, m4c, m5c, m6c, m7c, m8c, m9c, m10c, m11c, m12c, headC, tailN, Try.f41, al_od] at eu0
 subst eu0
 clear hu0
 refine hJ.ctl (s := ()) (fun w => stepG_seq) ?_
 refine hJ.ctl (s := ()) (fun w => stepG_seq) ?_
 refine at_evalGd (J := fun (_ : Unit) => J) (s := ()) hJ (by decide) (by rfl) [some (.pointer (some ⟨B, 0, none⟩)), some (.int .i64 d), some (.bool true), some (.bool true), some (.pointer (some ⟨B, 0, none⟩)), some (.int .i64 d), some (.bool true), some (.bool true), some (.bool true), some (.pointer (some ⟨B, 2, none⟩)), some (.int .i64 a), some (.bool false), some (.bool false), some (.bool false), none, none, none, none, none, none, none, none, some (.bool false)] (by rfl) (by rw [hsz]; kernel_rfl) ?_ ?_
 · intro τ d
   simp only [evalsG, dstOf, al_gl, al_g0, al_g1, al_ob]
   refine ⟨?_, ?_, ?_, ?_, ?_, ?_, ?_, ?_, ?_, ?_, ?_, ?_, ?_, ?_, ?_, ?_, ?_, ?_, ?_, ?_, ?_, ?_, ?_, trivial⟩ <;> (intro o ho; simp only [al_oi] at ho; subst ho)
   all_goals (first | refine ⟨by simp [Region.wanted, yielded, al_gs, hsz, f0, f1, f2, f3, f8, f9], ?_⟩ | (simp [Region.wanted, yielded, al_gs, hsz, f0, f1, f2, f3, f8, f9]; done))
   all_goals (try simp only [execOp, Act.eval, List.map_toArray, List.map_cons, List.map_nil, al_gd])
   all_goals (try simp only [al_gs, al_gz, hsz, f0, f1, f2, f3, f8, f9, Nat.reduceEqDiff, Nat.reduceLT, ↓reduceIte, al_od])
   all_goals (have hlt : ∀ i, i < 72 → i < (T).size := fun i hi => (by rw [hsz]; exact hi))
   all_goals (clear hsz f0 f1 f2 f3 f8 f9)
   all_goals (try go_simp)
   all_goals (try omega)
 simp only [putG, dstOf, al_gl, al_g0, al_g1, al_ob, al_od, Option.getD_none]
 obtain ⟨T1, hT⟩ : ∃ X, X = (((((((((((((((((((((((T).setIfInBounds 31 (.pointer (some ⟨B, 0, none⟩))).setIfInBounds 32 (.int .i64 d)).setIfInBounds 33 (.bool true)).setIfInBounds 34 (.bool true)).setIfInBounds 35 (.pointer (some ⟨B, 0, none⟩))).setIfInBounds 36 (.int .i64 d)).setIfInBounds 37 (.bool true)).setIfInBounds 38 (.bool true)).setIfInBounds 39 (.bool true)).setIfInBounds 40 (.pointer (some ⟨B, 2, none⟩))).setIfInBounds 41 (.int .i64 a)).setIfInBounds 42 (.bool false)).setIfInBounds 43 (.bool false)).setIfInBounds 44 (.bool false)).setIfInBounds 45 (undef)).setIfInBounds 46 (undef)).setIfInBounds 47 (undef)).setIfInBounds 48 (undef)).setIfInBounds 49 (undef)).setIfInBounds 50 (undef)).setIfInBounds 51 (undef)).setIfInBounds 52 (undef)).setIfInBounds 53 (.bool false) := ⟨_, rfl⟩
 rw [← hT]
 have hT1 : T1.size = 72 := by rw [hT]; simp [hsz]
 have T1_0 := sg23 hT f0
 have T1_1 := sg23 hT f1
 have T1_2 := sg23 hT f2
 have T1_3 := sg23 hT f3
 have T1_8 := sg23 hT f8
 have T1_9 := sg23 hT f9
 have T1_53 : T1[53]? = some (.bool false) := by rw [hT]; simp [al_gs, hsz]
 clear hT f0 f1 f2 f3 f8 f9 hsz
 refine hJ.ctl (s := ()) (fun w => stepG_region_end) ?_
 refine hJ.ctl (s := ()) (fun w => stepG_cond (t := false) (by simp [Act.eval, al_gd, T1_53])) ?_
 simp only [Bool.false_eq_true, if_false]
 refine hJ.ctl (s := ()) (fun w => stepG_skip) ?_
 exact hm.out _ ⟨hT1, T1_0, T1_1, T1_2, T1_3, T1_8⟩ T1_9
theorem run_what4 {Kc : Addr → Option Value} {J : Goroutine → World → Prop} (hJ : JX Try.prog Kc J) {mb : Nat} {pv iv : Value} {most own : Int} {T : Array Value} {w : World} {K : List Item} {cs : List Frame} (hF : FrR mb pv iv most own T) {B bw W : Nat} {d a : Int} (f9 : T[9]? = some (.pointer (some ⟨B, 0, none⟩))) (b0 : w.cell? ⟨B, 0, none⟩ = some (.int .i64 d)) (b2 : w.cell? ⟨B, 2, none⟩ = some (.int .i64 a)) (c0 : w.cell? ⟨mb, 0, none⟩ = some (.slice (some ⟨bw, 0, none⟩) W W)) (k1 : 7 ≤ d) (k2 : d ≤ 11) (k3 : 0 ≤ a) (k4 : ¬ a < W)
 (hmain : ∀ T', FrR mb pv iv most own T' → T'[9]? = some (.pointer (some ⟨B, 0, none⟩)) → J (G ((bN 41).at ⟨T', []⟩ (.code rR :: K)) cs) w) : J (G ((bN 41).at ⟨T, []⟩ (.code (.seq (.seq m3c (.cond (.tmp 53) rS .skip)) rR) :: K)) cs) w := by
 have d1 : decide (d ≥ 7) = true := by simpa using k1
 have d2 : decide (d ≤ 11) = true := by simpa using k2
 have d3 : decide (a ≥ 0) = true := by simpa using k3
 have d4 : decide (a < (W : Int)) = false := by simpa using k4
 obtain ⟨hsz, f0, f1, f2, f3, f8⟩ := hF
 have hm := Lib.hid hmain
 clear hmain
 obtain ⟨u0, hu0⟩ : ∃ c, m3c = c := ⟨_, rfl⟩
 have eu0 := hu0
 rw [hu0]
 simp only [rL, rB, rS, rR, m1c, m2c, m3c, m4c, m5c, m6c, m7c, m8c, m9c, m10c, m11c, m12c, headC, tailN, Try.f41, al_od] at eu0
 subst eu0
 clear hu0
 refine hJ.ctl (s := ()) (fun w => stepG_seq) ?_
 refine hJ.ctl (s := ()) (fun w => stepG_seq) ?_
 refine at_evalGd (J := fun (_ : Unit) => J) (s := ()) hJ (by decide) (by rfl) [some (.pointer (some ⟨B, 0, none⟩)), some (.int .i64 d), some (.bool true), some (.bool true), some (.pointer (some ⟨B, 0, none⟩)), some (.int .i64 d), some (.bool true), some (.bool true), some (.bool true), some (.pointer (some ⟨B, 2, none⟩)), some (.int .i64 a), some (.bool true), some (.bool true), some (.bool true), some (.pointer (some ⟨B, 2, none⟩)), some (.int .i64 a), some (.pointer (some ⟨mb, 0, none⟩)), some (.pointer (some ⟨mb, 0, none⟩)), some (.pointer (some ⟨mb, 0, none⟩)), some (.slice (some ⟨bw, 0, none⟩) W W), some (.int .i64 W), some (.bool false), some (.bool false)] (by rfl) (by rw [hsz]; kernel_rfl) ?_ ?_
 · intro τ d
   simp only [evalsG, dstOf, al_gl, al_g0, al_g1, al_ob]
   refine ⟨?_, ?_, ?_, ?_, ?_, ?_, ?_, ?_, ?_, ?_, ?_, ?_, ?_, ?_, ?_, ?_, ?_, ?_, ?_, ?_, ?_, ?_, ?_, trivial⟩ <;> (intro o ho; simp only [al_oi] at ho; subst ho)
   all_goals (first | refine ⟨by simp [Region.wanted, yielded, al_gs, hsz, f0, f1, f2, f3, f8, f9], ?_⟩ | (simp [Region.wanted, yielded, al_gs, hsz, f0, f1, f2, f3, f8, f9]; done))
   all_goals (try simp only [execOp, Act.eval, List.map_toArray, List.map_cons, List.map_nil, al_gd])
   all_goals (try simp only [al_gs, al_gz, hsz, f0, f1, f2, f3, f8, f9, Nat.reduceEqDiff, Nat.reduceLT, ↓reduceIte, al_od])
   all_goals (have hlt : ∀ i, i < 72 → i < (T).size := fun i hi => (by rw [hsz]; exact hi))
   all_goals (clear hsz f0 f1 f2 f3 f8 f9)
   all_goals (try go_simp)
   all_goals (try omega)
 simp only [putG, dstOf, al_gl, al_g0, al_g1, al_ob, al_od, Option.getD_none]
 obtain ⟨T1, hT⟩ : ∃ X, X = (((((((((((((((((((((((T).setIfInBounds 31 (.pointer (some ⟨B, 0, none⟩))).setIfInBounds 32 (.int .i64 d)).setIfInBounds 33 (.bool true)).setIfInBounds 34 (.bool true)).setIfInBounds 35 (.pointer (some ⟨B, 0, none⟩))).setIfInBounds 36 (.int .i64 d)).setIfInBounds 37 (.bool true)).setIfInBounds 38 (.bool true)).setIfInBounds 39 (.bool true)).setIfInBounds 40 (.pointer (some ⟨B, 2, none⟩))).setIfInBounds 41 (.int .i64 a)).setIfInBounds 42 (.bool true)).setIfInBounds 43 (.bool true)).setIfInBounds 44 (.bool true)).setIfInBounds 45 (.pointer (some ⟨B, 2, none⟩))).setIfInBounds 46 (.int .i64 a)).setIfInBounds 47 (.pointer (some ⟨mb, 0, none⟩))).setIfInBounds 48 (.pointer (some ⟨mb, 0, none⟩))).setIfInBounds 49 (.pointer (some ⟨mb, 0, none⟩))).setIfInBounds 50 (.slice (some ⟨bw, 0, none⟩) W W)).setIfInBounds 51 (.int .i64 W)).setIfInBounds 52 (.bool false)).setIfInBounds 53 (.bool false) := ⟨_, rfl⟩
 rw [← hT]
 have hT1 : T1.size = 72 := by rw [hT]; simp [hsz]
 have T1_0 := sg23 hT f0
 have T1_1 := sg23 hT f1
 have T1_2 := sg23 hT f2
 have T1_3 := sg23 hT f3
 have T1_8 := sg23 hT f8
 have T1_9 := sg23 hT f9
 have T1_53 : T1[53]? = some (.bool false) := by rw [hT]; simp [al_gs, hsz]
 clear hT f0 f1 f2 f3 f8 f9 hsz
 refine hJ.ctl (s := ()) (fun w => stepG_region_end) ?_
 refine hJ.ctl (s := ()) (fun w => stepG_cond (t := false) (by simp [Act.eval, al_gd, T1_53])) ?_
 simp only [Bool.false_eq_true, if_false]
 refine hJ.ctl (s := ()) (fun w => stepG_skip) ?_
 exact hm.out _ ⟨hT1, T1_0, T1_1, T1_2, T1_3, T1_8⟩ T1_9
theorem run_what5 {Kc : Addr → Option Value} {J : Goroutine → World → Prop} (hJ : JX Try.prog Kc J) {mb : Nat} {pv iv : Value} {most own : Int} {T : Array Value} {w : World} {K : List Item} {cs : List Frame} (hF : FrR mb pv iv most own T) {B bw W : Nat} {d a : Int} (f9 : T[9]? = some (.pointer (some ⟨B, 0, none⟩))) (b0 : w.cell? ⟨B, 0, none⟩ = some (.int .i64 d)) (b2 : w.cell? ⟨B, 2, none⟩ = some (.int .i64 a)) (c0 : w.cell? ⟨mb, 0, none⟩ = some (.slice (some ⟨bw, 0, none⟩) W W)) (k1 : 7 ≤ d) (k2 : d ≤ 11) (k3 : 0 ≤ a) (k4 : a < W)
 (hmain : ∀ T', FrR mb pv iv most own T' → T'[9]? = some (.pointer (some ⟨B, 0, none⟩)) → J (G ((bN 41).at ⟨T', []⟩ (.code rS :: .code rR :: K)) cs) w) : J (G ((bN 41).at ⟨T, []⟩ (.code (.seq (.seq m3c (.cond (.tmp 53) rS .skip)) rR) :: K)) cs) w := by
 have d1 : decide (d ≥ 7) = true := by simpa using k1
 have d2 : decide (d ≤ 11) = true := by simpa using k2
 have d3 : decide (a ≥ 0) = true := by simpa using k3
 have d4 : decide (a < (W : Int)) = true := by simpa using k4
 obtain ⟨hsz, f0, f1, f2, f3, f8⟩ := hF
 have hm := Lib.hid hmain
 clear hmain
 obtain ⟨u0, hu0⟩ : ∃ c, m3c = c := ⟨_, rfl⟩
 have eu0 := hu0
 rw [hu0]
 simp only [rL, rB, rS, rR, m1c, m2c, m3c, m4c, m5c, m6c, m7c, m8c, m9c, m10c, m11c, m12c, headC, tailN, Try.f41, al_od] at eu0
 subst eu0
 clear hu0
 refine hJ.ctl (s := ()) (fun w => stepG_seq) ?_
 refine hJ.ctl (s := ()) (fun w => stepG_seq) ?_
 refine at_evalGd (J := fun (_ : Unit) => J) (s := ()) hJ (by decide) (by rfl) [some (.pointer (some ⟨B, 0, none⟩)), some (.int .i64 d), some (.bool true), some (.bool true), some (.pointer (some ⟨B, 0, none⟩)), some (.int .i64 d), some (.bool true), some (.bool true), some (.bool true), some (.pointer (some ⟨B, 2, none⟩)), some (.int .i64 a), some (.bool true), some (.bool true), some (.bool true), some (.pointer (some ⟨B, 2, none⟩)), some (.int .i64 a), some (.pointer (some ⟨mb, 0, none⟩)), some (.pointer (some ⟨mb, 0, none⟩)), some (.pointer (some ⟨mb, 0, none⟩)), some (.slice (some ⟨bw, 0, none⟩) W W), some (.int .i64 W), some (.bool true), some (.bool true)] (by rfl) (by rw [hsz]; kernel_rfl) ?_ ?_
 · intro τ d
   simp only [evalsG, dstOf, al_gl, al_g0, al_g1, al_ob]
   refine ⟨?_, ?_, ?_, ?_, ?_, ?_, ?_, ?_, ?_, ?_, ?_, ?_, ?_, ?_, ?_, ?_, ?_, ?_, ?_, ?_, ?_, ?_, ?_, trivial⟩ <;> (intro o ho; simp only [al_oi] at ho; subst ho)
   all_goals (first | refine ⟨by simp [Region.wanted, yielded, al_gs, hsz, f0, f1, f2, f3, f8, f9], ?_⟩ | (simp [Region.wanted, yielded, al_gs, hsz, f0, f1, f2, f3, f8, f9]; done))
   all_goals (try simp only [execOp, Act.eval, List.map_toArray, List.map_cons, List.map_nil, al_gd])
   all_goals (try simp only [al_gs, al_gz, hsz, f0, f1, f2, f3, f8, f9, Nat.reduceEqDiff, Nat.reduceLT, ↓reduceIte, al_od])
   all_goals (have hlt : ∀ i, i < 72 → i < (T).size := fun i hi => (by rw [hsz]; exact hi))
   all_goals (clear hsz f0 f1 f2 f3 f8 f9)
   all_goals (try go_simp)
   all_goals (try omega)
 simp only [putG, dstOf, al_gl, al_g0, al_g1, al_ob, al_od, Option.getD_none]
 obtain ⟨T1, hT⟩ : ∃ X, X = (((((((((((((((((((((((T).setIfInBounds 31 (.pointer (some ⟨B, 0, none⟩))).setIfInBounds 32 (.int .i64 d)).setIfInBounds 33 (.bool true)).setIfInBounds 34 (.bool true)).setIfInBounds 35 (.pointer (some ⟨B, 0, none⟩))).setIfInBounds 36 (.int .i64 d)).setIfInBounds 37 (.bool true)).setIfInBounds 38 (.bool true)).setIfInBounds 39 (.bool true)).setIfInBounds 40 (.pointer (some ⟨B, 2, none⟩))).setIfInBounds 41 (.int .i64 a)).setIfInBounds 42 (.bool true)).setIfInBounds 43 (.bool true)).setIfInBounds 44 (.bool true)).setIfInBounds 45 (.pointer (some ⟨B, 2, none⟩))).setIfInBounds 46 (.int .i64 a)).setIfInBounds 47 (.pointer (some ⟨mb, 0, none⟩))).setIfInBounds 48 (.pointer (some ⟨mb, 0, none⟩))).setIfInBounds 49 (.pointer (some ⟨mb, 0, none⟩))).setIfInBounds 50 (.slice (some ⟨bw, 0, none⟩) W W)).setIfInBounds 51 (.int .i64 W)).setIfInBounds 52 (.bool true)).setIfInBounds 53 (.bool true) := ⟨_, rfl⟩
 rw [← hT]
 have hT1 : T1.size = 72 := by rw [hT]; simp [hsz]
 have T1_0 := sg23 hT f0
 have T1_1 := sg23 hT f1
 have T1_2 := sg23 hT f2
 have T1_3 := sg23 hT f3
 have T1_8 := sg23 hT f8
 have T1_9 := sg23 hT f9
 have T1_53 : T1[53]? = some (.bool true) := by rw [hT]; simp [al_gs, hsz]
 clear hT f0 f1 f2 f3 f8 f9 hsz
 refine hJ.ctl (s := ()) (fun w => stepG_region_end) ?_
 refine hJ.ctl (s := ()) (fun w => stepG_cond (t := true) (by simp [Act.eval, al_gd, T1_53])) ?_
 simp only [if_true]
 exact hm.out _ ⟨hT1, T1_0, T1_1, T1_2, T1_3, T1_8⟩ T1_9
noncomputable def yieldAt (T : Array Value) (K : List Item) : Frame := (bN 41).at ⟨T, []⟩ (.inRegion (match m7c with | .region _ ops _ => ops | _ => #[]) [1] :: .code (.seq m8c (.seq m9c (.exit 1))) :: K)
def conv (f : FuncId) (args : Array Value) : Prop := ∀ (w : World), (callFunc f args).run Try.prog w = .ok (.enter f args) w
theorem run_own {Kc : Addr → Option Value} {J : Goroutine → World → Prop} (hJ : JX Try.prog Kc J) {mb : Nat} {pv iv : Value} {most own : Int} {T : Array Value} {w : World} {K : List Item} {cs : List Frame} (hF : FrR mb pv iv most own T) {B : Nat} {d r a b v : Int} (f9 : T[9]? = some (.pointer (some ⟨B, 0, none⟩))) (e0 : w.cell? ⟨B, 0, none⟩ = some (.int .i64 d)) (e1 : w.cell? ⟨B, 1, none⟩ = some (.int .i64 r)) (e2 : w.cell? ⟨B, 2, none⟩ = some (.int .i64 a)) (e3 : w.cell? ⟨B, 3, none⟩ = some (.int .i64 b)) (e4 : w.cell? ⟨B, 4, none⟩ = some (.int .i64 v))
 (ho0 : 0 ≤ own) (ho1 : own < 4096)
 (hmain : ∀ (c : Frame) (T' : Array Value), FrR mb pv iv most (own + 1) T' → (∀ w', J (G ((bN 41).at ⟨T', []⟩ K) cs) w' → J (G (c.finish (.tuple #[])) cs) w') → J (G (Frame.enter Try.prog 50 #[.pointer (some ⟨mb, 0, none⟩), .agg #[.int .i64 d, .int .i64 r, .int .i64 a, .int .i64 b, .int .i64 v]] .normal) (c :: cs)) w) : J (G ((bN 41).at ⟨T, []⟩ (.code rR :: K)) cs) w := by
 have d0 : decide (own = 4096) = false := by simp; omega
 have d1 : IntKind.i64.wrap (own + 1) = own + 1 := IntWalk.i64_in _ (by omega)
 obtain ⟨hsz, f0, f1, f2, f3, f8⟩ := hF
 have hm := Lib.hid hmain
 clear hmain
 refine code_eq (J := fun (_ : Unit) => J) (s := ()) rR_eq ?_
 obtain ⟨u0, hu0⟩ : ∃ c, m10c = c := ⟨_, rfl⟩
 have eu0 := hu0
 rw [hu0]
 simp only [rL, rB, rS, rR, m1c, m2c, m3c, m4c, m5c, m6c, m7c, m8c, m9c, m10c, m11c, m12c, headC, tailN, Try.f41, al_od] at eu0
 subst eu0
 clear hu0
 obtain ⟨u1, hu1⟩ : ∃ c, m11c = c := ⟨_, rfl⟩
 have eu1 := hu1
 rw [hu1]
 simp only [rL, rB, rS, rR, m1c, m2c, m3c, m4c, m5c, m6c, m7c, m8c, m9c, m10c, m11c, m12c, headC, tailN, Try.f41, al_od] at eu1
 subst eu1
 clear hu1
 obtain ⟨u2, hu2⟩ : ∃ c, m12c = c := ⟨_, rfl⟩
 have eu2 := hu2
 rw [hu2]
 simp only [rL, rB, rS, rR, m1c, m2c, m3c, m4c, m5c, m6c, m7c, m8c, m9c, m10c, m11c, m12c, headC, tailN, Try.f41, al_od] at eu2
 subst eu2
 clear hu2
 refine hJ.ctl (s := ()) (fun w => stepG_seq) ?_
 refine hJ.ctl (s := ()) (fun w => stepG_seq) ?_
 refine hJ.ctl (s := ()) (fun w => stepG_region) ?_
 refine at_eval (J := fun (_ : Unit) => J) (s := ()) hJ (by decide) 0 [.int .i64 own, .bool false] [] rfl (by simp) (by rfl) ?_ ?_
 · intro τ d
   simp only [evalsO, dstOf, al_gl, al_g0, al_g1, al_ob]
   refine ⟨?_, ?_, trivial⟩ <;> (intro o ho; simp only [al_oi] at ho; subst ho)
   all_goals (try simp only [execOp, Act.eval, List.map_toArray, List.map_cons, List.map_nil, al_gd])
   all_goals (try simp only [al_gs, al_gz, hsz, f0, f1, f2, f3, f8, f9, Nat.reduceEqDiff, Nat.reduceLT, ↓reduceIte, al_od])
   all_goals (have hlt : ∀ i, i < 72 → i < (T).size := fun i hi => (by rw [hsz]; exact hi))
   all_goals (clear hsz f0 f1 f2 f3 f8 f9)
   all_goals (try go_simp)
   all_goals (try omega)
 simp only [putv, dstOf, al_gl, al_g0, al_g1, al_ob]
 obtain ⟨T1, hT⟩ : ∃ X, X = ((T).setIfInBounds 65 (.int .i64 own)).setIfInBounds 66 (.bool false) := ⟨_, rfl⟩
 rw [← hT]
 have hT1 : T1.size = 72 := by rw [hT]; simp [hsz]
 have T1_0 := sg2 hT f0
 have T1_1 := sg2 hT f1
 have T1_2 := sg2 hT f2
 have T1_3 := sg2 hT f3
 have T1_8 := sg2 hT f8
 have T1_9 := sg2 hT f9
 have T1_66 : T1[66]? = some (.bool false) := by rw [hT]; simp [al_gs, hsz]
 clear hT f0 f1 f2 f3 f8 f9 hsz
 refine hJ.ctl (s := ()) (fun w => stepG_region_end) ?_
 refine hJ.ctl (s := ()) (fun w => stepG_cond (t := false) (by simp [Act.eval, al_gd, T1_66])) ?_
 simp only [Bool.false_eq_true, if_false]
 refine hJ.ctl (s := ()) (fun w => stepG_skip) ?_
 refine hJ.ctl (s := ()) (fun w => stepG_seq) ?_
 refine hJ.ctl (s := ()) (fun w => stepG_region) ?_
 refine at_eval (J := fun (_ : Unit) => J) (s := ()) hJ (by decide) 0 [.int .i64 own, .int .i64 (own + 1), .int .i64 (own + 1)] [] rfl (by simp) (by rfl) ?_ ?_
 · intro τ d
   simp only [evalsO, dstOf, al_gl, al_g0, al_g1, al_ob]
   refine ⟨?_, ?_, ?_, trivial⟩ <;> (intro o ho; simp only [al_oi] at ho; subst ho)
   all_goals (try simp only [execOp, Act.eval, List.map_toArray, List.map_cons, List.map_nil, al_gd])
   all_goals (try simp only [al_gs, al_gz, hT1, T1_0, T1_1, T1_2, T1_3, T1_8, T1_9, T1_66, Nat.reduceEqDiff, Nat.reduceLT, ↓reduceIte, al_od])
   all_goals (have hlt : ∀ i, i < 72 → i < (T1).size := fun i hi => (by rw [hT1]; exact hi))
   all_goals (clear hT1 T1_0 T1_1 T1_2 T1_3 T1_8 T1_9 T1_66)
   all_goals (try go_simp)
   all_goals (try omega)
 simp only [putv, dstOf, al_gl, al_g0, al_g1, al_ob]
 obtain ⟨T2, hT⟩ : ∃ X, X = (((T1).setIfInBounds 67 (.int .i64 own)).setIfInBounds 68 (.int .i64 (own + 1))).setIfInBounds 8 (.int .i64 (own + 1)) := ⟨_, rfl⟩
 rw [← hT]
 have hT2 : T2.size = 72 := by rw [hT]; simp [hT1]
 have T2_0 := sg3 hT T1_0
 have T2_1 := sg3 hT T1_1
 have T2_2 := sg3 hT T1_2
 have T2_3 := sg3 hT T1_3
 have T2_9 := sg3 hT T1_9
 have T2_8 : T2[8]? = some (.int .i64 (own + 1)) := by rw [hT]; simp [al_gs, hT1]
 clear hT T1_0 T1_1 T1_2 T1_3 T1_8 T1_9 T1_66 hT1
 refine hJ.ctl (s := ()) (fun w => stepG_region_end) ?_
 refine hJ.ctl (s := ()) (fun w => stepG_region) ?_
 refine at_eval (J := fun (_ : Unit) => J) (s := ()) hJ (by decide) 0 [.pointer (some ⟨mb, 0, none⟩), .agg #[.int .i64 d, .int .i64 r, .int .i64 a, .int .i64 b, .int .i64 v]] [2] rfl (by simp) (by rfl) ?_ ?_
 · intro τ d
   simp only [evalsO, dstOf, al_gl, al_g0, al_g1, al_ob]
   refine ⟨?_, ?_, trivial⟩ <;> (intro o ho; simp only [al_oi] at ho; subst ho)
   all_goals (try simp only [execOp, Act.eval, List.map_toArray, List.map_cons, List.map_nil, al_gd])
   all_goals (try simp only [al_gs, al_gz, hT2, T2_0, T2_1, T2_2, T2_3, T2_9, T2_8, Nat.reduceEqDiff, Nat.reduceLT, ↓reduceIte, al_od])
   all_goals (have hlt : ∀ i, i < 72 → i < (T2).size := fun i hi => (by rw [hT2]; exact hi))
   all_goals (clear hT2 T2_0 T2_1 T2_2 T2_3 T2_9 T2_8)
   all_goals (try go_simp)
   all_goals (try omega)
 simp only [putv, dstOf, al_gl, al_g0, al_g1, al_ob]
 obtain ⟨T3, hT⟩ : ∃ X, X = ((T2).setIfInBounds 69 (.pointer (some ⟨mb, 0, none⟩))).setIfInBounds 70 (.agg #[.int .i64 d, .int .i64 r, .int .i64 a, .int .i64 b, .int .i64 v]) := ⟨_, rfl⟩
 rw [← hT]
 have hT3 : T3.size = 72 := by rw [hT]; simp [hT2]
 have T3_0 := sg2 hT T2_0
 have T3_1 := sg2 hT T2_1
 have T3_2 := sg2 hT T2_2
 have T3_3 := sg2 hT T2_3
 have T3_9 := sg2 hT T2_9
 have T3_8 := sg2 hT T2_8
 have T3_69 : T3[69]? = some (.pointer (some ⟨mb, 0, none⟩)) := by rw [hT]; simp [al_gs, hT2]
 have T3_70 : T3[70]? = some (.agg #[.int .i64 d, .int .i64 r, .int .i64 a, .int .i64 b, .int .i64 v]) := by rw [hT]; simp [al_gs, hT2]
 clear hT T2_0 T2_1 T2_2 T2_3 T2_9 T2_8 hT2
 refine at_call (J := fun (_ : Unit) => J) (s := ()) (by decide) hJ (i := 2) (rest := []) rfl rfl (f := 50) (args := #[.pointer (some ⟨mb, 0, none⟩), .agg #[.int .i64 d, .int .i64 r, .int .i64 a, .int .i64 b, .int .i64 v]]) (fun τ d => ?_) (fun τ d => ?_) ?_
 · simp [go_sem, execOp, Act.eval, resolve, Deferred.ofValue, invoke, callFunc, Try.func50, Try.f50, al_gd, T3_69, T3_70]
 · intro e he
   simp [go_sem, execOp, Act.eval, resolve, Deferred.ofValue, invoke, callFunc, Try.func50, Try.f50, Sem.runT_eq, al_gd, T3_69, T3_70] at he
 have g9 : FrR mb pv iv most (own + 1) (T3.setIfInBounds 71 (.tuple #[])) := by
  refine ⟨by simp [hT3], ?_, ?_, ?_, ?_, ?_⟩ <;> rw [al_gn (by decide)] <;> assumption
 refine hm.out _ _ g9 (fun w' h => ?_)
 rw [Frame.finish_at]
 try walk_nrm
 refine hJ.ctl (s := ()) (fun w => stepG_region_end) ?_
 exact h
theorem run_most {Kc : Addr → Option Value} {J : Goroutine → World → Prop} (hJ : JX Try.prog Kc J) {mb : Nat} {pv iv : Value} {most own : Int} {T : Array Value} {w : World} {K : List Item} {cl : Frame} {cs : List Frame} (hF : FrR mb pv iv most own T) (ho : own = 4096) (hmain : J (G (cl.finish (.tuple #[])) cs) w) : J (G ((bN 41).at ⟨T, []⟩ (.code rR :: K)) (cl :: cs)) w := by
 subst ho
 obtain ⟨hsz, f0, f1, f2, f3, f8⟩ := hF
 have hm := Lib.hid hmain
 clear hmain
 refine code_eq (J := fun (_ : Unit) => J) (s := ()) rR_eq ?_
 obtain ⟨u0, hu0⟩ : ∃ c, m10c = c := ⟨_, rfl⟩
 have eu0 := hu0
 rw [hu0]
 simp only [rL, rB, rS, rR, m1c, m2c, m3c, m4c, m5c, m6c, m7c, m8c, m9c, m10c, m11c, m12c, headC, tailN, Try.f41, al_od] at eu0
 subst eu0
 clear hu0
 refine hJ.ctl (s := ()) (fun w => stepG_seq) ?_
 refine hJ.ctl (s := ()) (fun w => stepG_seq) ?_
 refine hJ.ctl (s := ()) (fun w => stepG_region) ?_
 refine at_eval (J := fun (_ : Unit) => J) (s := ()) hJ (by decide) 0 [.int .i64 4096, .bool true] [] rfl (by simp) (by rfl) ?_ ?_
 · intro τ d
   simp only [evalsO, dstOf, al_gl, al_g0, al_g1, al_ob]
   refine ⟨?_, ?_, trivial⟩ <;> (intro o ho; simp only [al_oi] at ho; subst ho)
   all_goals (try simp only [execOp, Act.eval, List.map_toArray, List.map_cons, List.map_nil, al_gd])
   all_goals (try simp only [al_gs, al_gz, hsz, f0, f1, f2, f3, f8, Nat.reduceEqDiff, Nat.reduceLT, ↓reduceIte, al_od])
   all_goals (have hlt : ∀ i, i < 72 → i < (T).size := fun i hi => (by rw [hsz]; exact hi))
   all_goals (clear hsz f0 f1 f2 f3 f8)
   all_goals (try go_simp)
   all_goals (try omega)
 simp only [putv, dstOf, al_gl, al_g0, al_g1, al_ob]
 obtain ⟨T1, hT⟩ : ∃ X, X = ((T).setIfInBounds 65 (.int .i64 4096)).setIfInBounds 66 (.bool true) := ⟨_, rfl⟩
 rw [← hT]
 have hT1 : T1.size = 72 := by rw [hT]; simp [hsz]
 have T1_0 := sg2 hT f0
 have T1_66 : T1[66]? = some (.bool true) := by rw [hT]; simp [al_gs, hsz]
 clear hT f0 f1 f2 f3 f8 hsz
 refine hJ.ctl (s := ()) (fun w => stepG_region_end) ?_
 refine hJ.ctl (s := ()) (fun w => stepG_cond (t := true) (by simp [Act.eval, al_gd, T1_66])) ?_
 simp only [if_true]
 refine hJ.ctl (s := ()) (fun w => stepG_ret') ?_
 refine leaveJ (s := ()) hJ (b := bN 41) rfl rfl Try.func41 (fun τ d => ?_) hm.out
 simp only [results, Try.f41]
 simp [go_sem]
theorem run_stop {Kc : Addr → Option Value} {J : Goroutine → World → Prop} (hJ : JX Try.prog Kc J) {mb : Nat} {pv iv : Value} {most own : Int} {T : Array Value} {w : World} {K : List Item} {cl : Frame} {cs : List Frame} (hF : FrR mb pv iv most own T) (ho : most = 0) (hmain : J (G (cl.finish (.tuple #[])) cs) w) : J (G ((bN 41).at ⟨T, []⟩ (.code rS :: K)) (cl :: cs)) w := by
 subst ho
 obtain ⟨hsz, f0, f1, f2, f3, f8⟩ := hF
 have hm := Lib.hid hmain
 clear hmain
 refine code_eq (J := fun (_ : Unit) => J) (s := ()) rS_eq ?_
 obtain ⟨u0, hu0⟩ : ∃ c, m4c = c := ⟨_, rfl⟩
 have eu0 := hu0
 rw [hu0]
 simp only [rL, rB, rS, rR, m1c, m2c, m3c, m4c, m5c, m6c, m7c, m8c, m9c, m10c, m11c, m12c, headC, tailN, Try.f41, al_od] at eu0
 subst eu0
 clear hu0
 refine hJ.ctl (s := ()) (fun w => stepG_seq) ?_
 refine hJ.ctl (s := ()) (fun w => stepG_seq) ?_
 refine hJ.ctl (s := ()) (fun w => stepG_region) ?_
 refine at_eval (J := fun (_ : Unit) => J) (s := ()) hJ (by decide) 0 [.int .i64 0, .bool true] [] rfl (by simp) (by rfl) ?_ ?_
 · intro τ d
   simp only [evalsO, dstOf, al_gl, al_g0, al_g1, al_ob]
   refine ⟨?_, ?_, trivial⟩ <;> (intro o ho; simp only [al_oi] at ho; subst ho)
   all_goals (try simp only [execOp, Act.eval, List.map_toArray, List.map_cons, List.map_nil, al_gd])
   all_goals (try simp only [al_gs, al_gz, hsz, f0, f1, f2, f3, f8, Nat.reduceEqDiff, Nat.reduceLT, ↓reduceIte, al_od])
   all_goals (have hlt : ∀ i, i < 72 → i < (T).size := fun i hi => (by rw [hsz]; exact hi))
   all_goals (clear hsz f0 f1 f2 f3 f8)
   all_goals (try go_simp)
   all_goals (try omega)
 simp only [putv, dstOf, al_gl, al_g0, al_g1, al_ob]
 obtain ⟨T1, hT⟩ : ∃ X, X = ((T).setIfInBounds 54 (.int .i64 0)).setIfInBounds 55 (.bool true) := ⟨_, rfl⟩
 rw [← hT]
 have hT1 : T1.size = 72 := by rw [hT]; simp [hsz]
 have T1_0 := sg2 hT f0
 have T1_55 : T1[55]? = some (.bool true) := by rw [hT]; simp [al_gs, hsz]
 clear hT f0 f1 f2 f3 f8 hsz
 refine hJ.ctl (s := ()) (fun w => stepG_region_end) ?_
 refine hJ.ctl (s := ()) (fun w => stepG_cond (t := true) (by simp [Act.eval, al_gd, T1_55])) ?_
 simp only [if_true]
 refine hJ.ctl (s := ()) (fun w => stepG_ret') ?_
 refine leaveJ (s := ()) hJ (b := bN 41) rfl rfl Try.func41 (fun τ d => ?_) hm.out
 simp only [results, Try.f41]
 simp [go_sem]
theorem run_yield {Kc : Addr → Option Value} {J : Goroutine → World → Prop} (hJ : JX Try.prog Kc J) {mb : Nat} {pv iv : Value} {most own : Int} {T : Array Value} {w : World} {K : List Item} {cs : List Frame} (hF : FrR mb pv iv most own T) {B : Nat} {ti : TypeId} {sx : Value} (hiv : iv = .iface ti sx) (f9 : T[9]? = some (.pointer (some ⟨B, 0, none⟩))) (ho : ¬ most = 0)
 (hcall : ∀ (o : Oper) (a : Act), o.op = .call { callee := .invoke (.tmp 60) "Step", args := #[], argTypes := #[] } → a.eval (.tmp 60) = .iface ti sx → ∀ w, (execOp a.eval o).run Try.prog w = .ok (.enter 74 #[sx]) w)
 (hev : ∀ (o : Oper) (a : Act), o.op = .call { callee := .invoke (.tmp 60) "Step", args := #[], argTypes := #[] } → a.eval (.tmp 60) = .iface ti sx → ∀ w, ∀ e ∈ ((execOp a.eval o).runT Try.prog w #[]).2, EvOk Kc e)
 (hmain : ∀ T', FrR mb pv iv (IntKind.i64.wrap (most - 1)) own T' → T'[9]? = some (.pointer (some ⟨B, 0, none⟩)) → J (G (Frame.enter Try.prog 74 #[sx] .normal) (yieldAt T' K :: cs)) w) : J (G ((bN 41).at ⟨T, []⟩ (.code rS :: K)) cs) w := by
 subst hiv
 have d0 : decide (most = 0) = false := by simp; omega
 obtain ⟨hsz, f0, f1, f2, f3, f8⟩ := hF
 have hm := Lib.hid hmain
 clear hmain
 refine code_eq (J := fun (_ : Unit) => J) (s := ()) rS_eq ?_
 obtain ⟨u0, hu0⟩ : ∃ c, m4c = c := ⟨_, rfl⟩
 have eu0 := hu0
 rw [hu0]
 simp only [rL, rB, rS, rR, m1c, m2c, m3c, m4c, m5c, m6c, m7c, m8c, m9c, m10c, m11c, m12c, headC, tailN, Try.f41, al_od] at eu0
 subst eu0
 clear hu0
 obtain ⟨u1, hu1⟩ : ∃ c, m5c = c := ⟨_, rfl⟩
 have eu1 := hu1
 rw [hu1]
 simp only [rL, rB, rS, rR, m1c, m2c, m3c, m4c, m5c, m6c, m7c, m8c, m9c, m10c, m11c, m12c, headC, tailN, Try.f41, al_od] at eu1
 subst eu1
 clear hu1
 obtain ⟨u2, hu2⟩ : ∃ c, m6c = c := ⟨_, rfl⟩
 have eu2 := hu2
 rw [hu2]
 simp only [rL, rB, rS, rR, m1c, m2c, m3c, m4c, m5c, m6c, m7c, m8c, m9c, m10c, m11c, m12c, headC, tailN, Try.f41, al_od] at eu2
 subst eu2
 clear hu2
 refine hJ.ctl (s := ()) (fun w => stepG_seq) ?_
 refine hJ.ctl (s := ()) (fun w => stepG_seq) ?_
 refine hJ.ctl (s := ()) (fun w => stepG_region) ?_
 refine at_eval (J := fun (_ : Unit) => J) (s := ()) hJ (by decide) 0 [.int .i64 most, .bool false] [] rfl (by simp) (by rfl) ?_ ?_
 · intro τ d
   simp only [evalsO, dstOf, al_gl, al_g0, al_g1, al_ob]
   refine ⟨?_, ?_, trivial⟩ <;> (intro o ho; simp only [al_oi] at ho; subst ho)
   all_goals (try simp only [execOp, Act.eval, List.map_toArray, List.map_cons, List.map_nil, al_gd])
   all_goals (try simp only [al_gs, al_gz, hsz, f0, f1, f2, f3, f8, f9, Nat.reduceEqDiff, Nat.reduceLT, ↓reduceIte, al_od])
   all_goals (have hlt : ∀ i, i < 72 → i < (T).size := fun i hi => (by rw [hsz]; exact hi))
   all_goals (clear hsz f0 f1 f2 f3 f8 f9)
   all_goals (try go_simp)
   all_goals (try omega)
 simp only [putv, dstOf, al_gl, al_g0, al_g1, al_ob]
 obtain ⟨T1, hT⟩ : ∃ X, X = ((T).setIfInBounds 54 (.int .i64 most)).setIfInBounds 55 (.bool false) := ⟨_, rfl⟩
 rw [← hT]
 have hT1 : T1.size = 72 := by rw [hT]; simp [hsz]
 have T1_0 := sg2 hT f0
 have T1_1 := sg2 hT f1
 have T1_2 := sg2 hT f2
 have T1_3 := sg2 hT f3
 have T1_8 := sg2 hT f8
 have T1_9 := sg2 hT f9
 have T1_55 : T1[55]? = some (.bool false) := by rw [hT]; simp [al_gs, hsz]
 clear hT f0 f1 f2 f3 f8 f9 hsz
 refine hJ.ctl (s := ()) (fun w => stepG_region_end) ?_
 refine hJ.ctl (s := ()) (fun w => stepG_cond (t := false) (by simp [Act.eval, al_gd, T1_55])) ?_
 simp only [Bool.false_eq_true, if_false]
 refine hJ.ctl (s := ()) (fun w => stepG_skip) ?_
 refine hJ.ctl (s := ()) (fun w => stepG_seq) ?_
 refine hJ.ctl (s := ()) (fun w => stepG_region) ?_
 refine at_eval (J := fun (_ : Unit) => J) (s := ()) hJ (by decide) 0 [.int .i64 most, .int .i64 (IntKind.i64.wrap (most - 1)), .int .i64 (IntKind.i64.wrap (most - 1))] [] rfl (by simp) (by rfl) ?_ ?_
 · intro τ d
   simp only [evalsO, dstOf, al_gl, al_g0, al_g1, al_ob]
   refine ⟨?_, ?_, ?_, trivial⟩ <;> (intro o ho; simp only [al_oi] at ho; subst ho)
   all_goals (try simp only [execOp, Act.eval, List.map_toArray, List.map_cons, List.map_nil, al_gd])
   all_goals (try simp only [al_gs, al_gz, hT1, T1_0, T1_1, T1_2, T1_3, T1_8, T1_9, T1_55, Nat.reduceEqDiff, Nat.reduceLT, ↓reduceIte, al_od])
   all_goals (have hlt : ∀ i, i < 72 → i < (T1).size := fun i hi => (by rw [hT1]; exact hi))
   all_goals (clear hT1 T1_0 T1_1 T1_2 T1_3 T1_8 T1_9 T1_55)
   all_goals (try go_simp)
   all_goals (try omega)
 simp only [putv, dstOf, al_gl, al_g0, al_g1, al_ob]
 obtain ⟨T2, hT⟩ : ∃ X, X = (((T1).setIfInBounds 56 (.int .i64 most)).setIfInBounds 57 (.int .i64 (IntKind.i64.wrap (most - 1)))).setIfInBounds 3 (.int .i64 (IntKind.i64.wrap (most - 1))) := ⟨_, rfl⟩
 rw [← hT]
 have hT2 : T2.size = 72 := by rw [hT]; simp [hT1]
 have T2_0 := sg3 hT T1_0
 have T2_1 := sg3 hT T1_1
 have T2_2 := sg3 hT T1_2
 have T2_8 := sg3 hT T1_8
 have T2_9 := sg3 hT T1_9
 have T2_3 : T2[3]? = some (.int .i64 (IntKind.i64.wrap (most - 1))) := by rw [hT]; simp [al_gs, hT1]
 clear hT T1_0 T1_1 T1_2 T1_3 T1_8 T1_9 T1_55 hT1
 refine hJ.ctl (s := ()) (fun w => stepG_region_end) ?_
 refine hJ.ctl (s := ()) (fun w => stepG_seq) ?_
 refine hJ.ctl (s := ()) (fun w => stepG_seq) ?_
 refine hJ.ctl (s := ()) (fun w => stepG_region) ?_
 refine at_eval (J := fun (_ : Unit) => J) (s := ()) hJ (by decide) 0 [.iface ti sx, .bool true] [] rfl (by simp) (by rfl) ?_ ?_
 · intro τ d
   simp only [evalsO, dstOf, al_gl, al_g0, al_g1, al_ob]
   refine ⟨?_, ?_, trivial⟩ <;> (intro o ho; simp only [al_oi] at ho; subst ho)
   all_goals (try simp only [execOp, Act.eval, List.map_toArray, List.map_cons, List.map_nil, al_gd])
   all_goals (try simp only [al_gs, al_gz, hT2, T2_0, T2_1, T2_2, T2_8, T2_9, T2_3, Nat.reduceEqDiff, Nat.reduceLT, ↓reduceIte, al_od])
   all_goals (have hlt : ∀ i, i < 72 → i < (T2).size := fun i hi => (by rw [hT2]; exact hi))
   all_goals (clear hT2 T2_0 T2_1 T2_2 T2_8 T2_9 T2_3)
   all_goals (try go_simp)
   all_goals (try omega)
 simp only [putv, dstOf, al_gl, al_g0, al_g1, al_ob]
 obtain ⟨T3, hT⟩ : ∃ X, X = ((T2).setIfInBounds 58 (.iface ti sx)).setIfInBounds 59 (.bool true) := ⟨_, rfl⟩
 rw [← hT]
 have hT3 : T3.size = 72 := by rw [hT]; simp [hT2]
 have T3_0 := sg2 hT T2_0
 have T3_1 := sg2 hT T2_1
 have T3_2 := sg2 hT T2_2
 have T3_8 := sg2 hT T2_8
 have T3_9 := sg2 hT T2_9
 have T3_3 := sg2 hT T2_3
 have T3_59 : T3[59]? = some (.bool true) := by rw [hT]; simp [al_gs, hT2]
 clear hT T2_0 T2_1 T2_2 T2_8 T2_9 T2_3 hT2
 refine hJ.ctl (s := ()) (fun w => stepG_region_end) ?_
 refine hJ.ctl (s := ()) (fun w => stepG_cond (t := true) (by simp [Act.eval, al_gd, T3_59])) ?_
 simp only [if_true]
 obtain ⟨u9, hu9⟩ : ∃ c, m7c = c := ⟨_, rfl⟩
 have eu9 := hu9
 simp only [yieldAt] at hm
 rw [hu9] at hm ⊢
 simp only [rL, rB, rS, rR, m7c, headC, tailN, Try.f41, al_od] at eu9
 subst eu9
 clear hu9
 refine hJ.ctl (s := ()) (fun w => stepG_region) ?_
 refine at_eval (J := fun (_ : Unit) => J) (s := ()) hJ (by decide) 0 [.iface ti sx] [1] rfl (by simp) (by rfl) ?_ ?_
 · intro τ d
   simp only [evalsO, dstOf, al_gl, al_g0, al_g1, al_ob]
   refine ⟨?_, trivial⟩ <;> (intro o ho; simp only [al_oi] at ho; subst ho)
   all_goals (try simp only [execOp, Act.eval, List.map_toArray, List.map_cons, List.map_nil, al_gd])
   all_goals (try simp only [al_gs, al_gz, hT3, T3_0, T3_1, T3_2, T3_8, T3_9, T3_3, T3_59, Nat.reduceEqDiff, Nat.reduceLT, ↓reduceIte, al_od])
   all_goals (have hlt : ∀ i, i < 72 → i < (T3).size := fun i hi => (by rw [hT3]; exact hi))
   all_goals (clear hT3 T3_0 T3_1 T3_2 T3_8 T3_9 T3_3 T3_59)
   all_goals (try go_simp)
   all_goals (try omega)
 simp only [putv, dstOf, al_gl, al_g0, al_g1, al_ob]
 obtain ⟨T4, hT⟩ : ∃ X, X = (T3).setIfInBounds 60 (.iface ti sx) := ⟨_, rfl⟩
 rw [← hT]
 have hT4 : T4.size = 72 := by rw [hT]; simp [hT3]
 have T4_0 := sg1 hT T3_0
 have T4_1 := sg1 hT T3_1
 have T4_2 := sg1 hT T3_2
 have T4_8 := sg1 hT T3_8
 have T4_9 := sg1 hT T3_9
 have T4_3 := sg1 hT T3_3
 have T4_60 : T4[60]? = some (.iface ti sx) := by rw [hT]; simp [al_gs, hT3]
 clear hT T3_0 T3_1 T3_2 T3_8 T3_9 T3_3 T3_59 hT3
 refine at_call (J := fun (_ : Unit) => J) (s := ()) (by decide) hJ (i := 1) (rest := []) rfl rfl (f := 74) (args := #[sx]) (fun τ d => ?_) (fun τ d => ?_) ?_
 · exact hcall _ _ rfl (by simp [Act.eval, al_gd, T4_60]) _
 · exact hev _ _ rfl (by simp [Act.eval, al_gd, T4_60]) _
 exact hm.out _ ⟨hT4, T4_0, T4_1, T4_2, T4_3, T4_8⟩ T4_9
theorem run_step {Kc : Addr → Option Value} {J : Goroutine → World → Prop} (hJ : JX Try.prog Kc J) {mb : Nat} {pv iv : Value} {most own : Int} {T : Array Value} {w : World} {K : List Item} {cs : List Frame} (hF : FrR mb pv iv most own T) {B : Nat} {d r a b v : Int} (f9 : T[9]? = some (.pointer (some ⟨B, 0, none⟩))) (e0 : w.cell? ⟨B, 0, none⟩ = some (.int .i64 d)) (e1 : w.cell? ⟨B, 1, none⟩ = some (.int .i64 r)) (e2 : w.cell? ⟨B, 2, none⟩ = some (.int .i64 a)) (e3 : w.cell? ⟨B, 3, none⟩ = some (.int .i64 b)) (e4 : w.cell? ⟨B, 4, none⟩ = some (.int .i64 v))
 (hmain : ∀ (c : Frame) (T' : Array Value), FrR mb pv iv most 0 T' → (∀ w', J (G ((bN 41).at ⟨T', []⟩ K) cs) w' → J (G (c.finish (.tuple #[])) cs) w') → J (G (Frame.enter Try.prog 49 #[.pointer (some ⟨mb, 0, none⟩), .agg #[.int .i64 d, .int .i64 r, .int .i64 a, .int .i64 b, .int .i64 v]] .normal) (c :: cs)) w) : J (G ((bN 41).at ⟨T, []⟩ (.code (.seq m8c (.seq m9c (.exit 1))) :: .code rR :: .inBlock 1 :: K)) cs) w := by
 obtain ⟨hsz, f0, f1, f2, f3, f8⟩ := hF
 have hm := Lib.hid hmain
 clear hmain
 obtain ⟨u0, hu0⟩ : ∃ c, m8c = c := ⟨_, rfl⟩
 have eu0 := hu0
 rw [hu0]
 simp only [rL, rB, rS, rR, m1c, m2c, m3c, m4c, m5c, m6c, m7c, m8c, m9c, m10c, m11c, m12c, headC, tailN, Try.f41, al_od] at eu0
 subst eu0
 clear hu0
 obtain ⟨u1, hu1⟩ : ∃ c, m9c = c := ⟨_, rfl⟩
 have eu1 := hu1
 rw [hu1]
 simp only [rL, rB, rS, rR, m1c, m2c, m3c, m4c, m5c, m6c, m7c, m8c, m9c, m10c, m11c, m12c, headC, tailN, Try.f41, al_od] at eu1
 subst eu1
 clear hu1
 refine hJ.ctl (s := ()) (fun w => stepG_seq) ?_
 refine hJ.ctl (s := ()) (fun w => stepG_region) ?_
 refine at_eval (J := fun (_ : Unit) => J) (s := ()) hJ (by decide) 0 [.pointer (some ⟨mb, 0, none⟩), .agg #[.int .i64 d, .int .i64 r, .int .i64 a, .int .i64 b, .int .i64 v]] [2] rfl (by simp) (by rfl) ?_ ?_
 · intro τ d
   simp only [evalsO, dstOf, al_gl, al_g0, al_g1, al_ob]
   refine ⟨?_, ?_, trivial⟩ <;> (intro o ho; simp only [al_oi] at ho; subst ho)
   all_goals (try simp only [execOp, Act.eval, List.map_toArray, List.map_cons, List.map_nil, al_gd])
   all_goals (try simp only [al_gs, al_gz, hsz, f0, f1, f2, f3, f8, f9, Nat.reduceEqDiff, Nat.reduceLT, ↓reduceIte, al_od])
   all_goals (have hlt : ∀ i, i < 72 → i < (T).size := fun i hi => (by rw [hsz]; exact hi))
   all_goals (clear hsz f0 f1 f2 f3 f8 f9)
   all_goals (try go_simp)
   all_goals (try omega)
 simp only [putv, dstOf, al_gl, al_g0, al_g1, al_ob]
 obtain ⟨T1, hT⟩ : ∃ X, X = ((T).setIfInBounds 62 (.pointer (some ⟨mb, 0, none⟩))).setIfInBounds 63 (.agg #[.int .i64 d, .int .i64 r, .int .i64 a, .int .i64 b, .int .i64 v]) := ⟨_, rfl⟩
 rw [← hT]
 have hT1 : T1.size = 72 := by rw [hT]; simp [hsz]
 have T1_0 := sg2 hT f0
 have T1_1 := sg2 hT f1
 have T1_2 := sg2 hT f2
 have T1_3 := sg2 hT f3
 have T1_8 := sg2 hT f8
 have T1_9 := sg2 hT f9
 have T1_62 : T1[62]? = some (.pointer (some ⟨mb, 0, none⟩)) := by rw [hT]; simp [al_gs, hsz]
 have T1_63 : T1[63]? = some (.agg #[.int .i64 d, .int .i64 r, .int .i64 a, .int .i64 b, .int .i64 v]) := by rw [hT]; simp [al_gs, hsz]
 clear hT f0 f1 f2 f3 f8 f9 hsz
 refine at_call (J := fun (_ : Unit) => J) (s := ()) (by decide) hJ (i := 2) (rest := []) rfl rfl (f := 49) (args := #[.pointer (some ⟨mb, 0, none⟩), .agg #[.int .i64 d, .int .i64 r, .int .i64 a, .int .i64 b, .int .i64 v]]) (fun τ d => ?_) (fun τ d => ?_) ?_
 · simp [go_sem, execOp, Act.eval, resolve, Deferred.ofValue, invoke, callFunc, Try.func49, Try.f49, al_gd, T1_62, T1_63]
 · intro e he
   simp [go_sem, execOp, Act.eval, resolve, Deferred.ofValue, invoke, callFunc, Try.func49, Try.f49, Sem.runT_eq, al_gd, T1_62, T1_63] at he
 obtain ⟨T9, hT9⟩ : ∃ X, X = (T1.setIfInBounds 64 (.tuple #[])).setIfInBounds 8 (.int .i64 0) := ⟨_, rfl⟩
 have g9 : FrR mb pv iv most 0 T9 := by
  rw [hT9]
  refine ⟨by simp [hT1], ?_, ?_, ?_, ?_, by simp [hT1]⟩ <;> rw [al_gn (by decide), al_gn (by decide)] <;> assumption
 refine hm.out _ T9 g9 (fun w' h => ?_)
 rw [Frame.finish_at]
 try walk_nrm
 refine hJ.ctl (s := ()) (fun w => stepG_region_end) ?_
 refine hJ.ctl (s := ()) (fun w => stepG_seq) ?_
 refine hJ.ctl (s := ()) (fun w => stepG_region) ?_
 refine at_eval (J := fun (_ : Unit) => J) (s := ()) hJ (by decide) 0 [.int .i64 0] [] rfl (by simp) (by rfl) ?_ ?_
 · intro τ d
   simp only [evalsO, dstOf, al_gl, al_g0, al_ob]
   refine ⟨?_, trivial⟩
   intro o ho; simp only [al_oi] at ho; subst ho
   rfl
 simp only [putv, dstOf, al_gl, al_g0, al_g1, al_ob]
 rw [← hT9]
 refine hJ.ctl (s := ()) (fun w => stepG_region_end) ?_
 refine hJ.ctl (s := ()) (fun w => stepG_exit (k' := K) rfl) ?_
 exact h
theorem meth_step (n : Nat) (st : Nat) (w : World) : (Go.method (n + 1) 96 (.pointer (some ⟨st, 0, none⟩)) "Step").run Try.prog w = .ok (74, .pointer (some ⟨st, 0, none⟩)) w := by kernel_rfl
theorem meth_events (n : Nat) (st : Nat) (w : World) (es : Array Event) : (Go.method (n + 1) 96 (.pointer (some ⟨st, 0, none⟩)) "Step").events Try.prog w es = es := by kernel_rfl
theorem stepper_enter (st : Nat) (o : Oper) (a : Act) (ho : o.op = .call { callee := .invoke (.tmp 60) "Step", args := #[], argTypes := #[] }) (ha : a.eval (.tmp 60) = .iface 96 (.pointer (some ⟨st, 0, none⟩))) (w : World) : (execOp a.eval o).run Try.prog w = .ok (.enter 74 #[.pointer (some ⟨st, 0, none⟩)]) w := by
 unfold execOp
 simp only [ho, resolve, ha]
 simp [go_sem, invoke, callFunc, meth_step, Try.func74, Try.f74]
theorem stepper_events (st : Nat) (o : Oper) (a : Act) (ho : o.op = .call { callee := .invoke (.tmp 60) "Step", args := #[], argTypes := #[] }) (ha : a.eval (.tmp 60) = .iface 96 (.pointer (some ⟨st, 0, none⟩))) (w : World) : ((execOp a.eval o).runT Try.prog w #[]).2 = #[] := by
 unfold execOp
 simp only [ho, resolve, ha]
 simp [go_sem, invoke, callFunc, meth_step, Try.func74, Try.f74, Sem.runT_eq, meth_events]
def progL (l : List Cd) : List Value := l.flatMap cdL
def ProgV (S : MS) (i : Nat) (pv : Value) : Prop :=
 (pv = .slice none 0 0 ∧ S.prog i = []) ∨ ∃ g cap cur, pv = .slice (some ⟨g, 0, none⟩) (S.prog i).length cap ∧ S.ro g = some (.cells cur 74) ∧ cur.toList.take ((S.prog i).length * 5) = progL (S.prog i)
theorem progL_get : ∀ (l : List Cd) (k : Nat) (c : Cd), l[k]? = some c → ∀ j, j < 5 → (progL l)[k * 5 + j]? = (cdL c)[j]?
 | [], _, _, h, _, _ => by cases h
 | a :: l, 0, c, h, j, hj => by
  simp only [al_g0, al_oi] at h
  subst h
  show (cdL a ++ progL l)[0 * 5 + j]? = _
  rw [List.getElem?_append_left (by show _ < 5; omega)]
  congr 1; omega
 | a :: l, k + 1, c, h, j, hj => by
  show (cdL a ++ progL l)[(k + 1) * 5 + j]? = _
  rw [List.getElem?_append_right (by show 5 ≤ _; omega)]
  have := progL_get l k c (by simpa using h) j hj
  rw [← this]
  congr 1
  show (k + 1) * 5 + j - 5 = _
  omega
theorem ProgV.code {S : MS} {i : Nat} {pv : Value} (h : ProgV S i pv) {m : MM} {w : World} (hB : S.Body m w) {k : Nat} {c : Cd} (hc : (S.prog i)[k]? = some c) :
 ∃ g cap, pv = .slice (some ⟨g, 0, none⟩) (S.prog i).length cap ∧ ∀ j, j < 5 → w.cell? ⟨g, k * 5 + j, none⟩ = (cdL c)[j]? := by
 have hk : k < (S.prog i).length := (List.getElem?_eq_some_iff.1 hc).1
 rcases h with ⟨_, h⟩ | ⟨g, cap, cur, h1, h2, h3⟩
 · rw [h] at hc; cases hc
 · refine ⟨g, cap, h1, fun j hj => ?_⟩
   have := hB.ro g _ h2
   rw [zq0 (off := k * 5 + j) this, ← progL_get _ k c hc j hj, ← h3, List.getElem?_take, if_pos (by omega)]
   simp
theorem ProgV.slice {S : MS} {i : Nat} {pv : Value} (h : ProgV S i pv) : ∃ p C, pv = .slice p (S.prog i).length C := by
 rcases h with ⟨h1, h2⟩ | ⟨g, cap, cur, h1, _⟩
 · exact ⟨none, 0, by rw [h1, h2]; rfl⟩
 · exact ⟨_, _, h1⟩
theorem ownC_most (c : Cd) (m : Mch) : (ownC c m).most = m.most := by
 unfold ownC Mch.on Mch.set; repeat' split
 all_goals rfl
theorem stepC_most (c : Cd) (ws : List Int) (m : Mch) : (stepC c ws m).2.most = m.most := by
 unfold stepC Mch.on Mch.set; repeat' split
 all_goals rfl
theorem isStep_iff {W : Nat} {c : Cd} : isStep W c = true ↔ 7 ≤ c.d ∧ c.d ≤ 11 ∧ 0 ≤ c.a ∧ c.a < W := by
 unfold isStep; simp only [Bool.and_eq_true, decide_eq_true_eq, and_assoc]
theorem atC_some {l : List Cd} {x : Mch} {c : Cd} (h : atC l x = some c) : 0 ≤ x.next ∧ x.next < l.length ∧ l[x.next.toNat]? = some c := by
 unfold atC at h
 split at h
 · rename_i hn; exact ⟨hn.1, hn.2, h⟩
 · cases h
theorem atC_none {l : List Cd} {x : Mch} (h : atC l x = none) : x.next < 0 ∨ (0 ≤ x.next ∧ ¬ x.next < l.length) := by
 unfold atC at h
 split at h
 · rename_i hn
   rw [List.getElem?_eq_none_iff] at h
   omega
 · omega
theorem goOn_none {l : List Cd} {W k : Nat} {x : Mch} (h : atC l x = none) : goOn l W k x = (x, false) := by
 cases k <;> simp [goOn, h]
theorem goOn_step {l : List Cd} {W k : Nat} {x : Mch} {c : Cd} (h : atC l x = some c) (hs : isStep W c = true) : goOn l W k x = stopC x := by
 cases k <;> simp [goOn, h, hs]
structure MRel (i : Nat) (m m' : MM) : Prop where
 ws : m'.ws = m.ws
 th : ∀ j, j ≠ i → m'.th j = m.th j
 tv : ∀ j, j ≠ i → m'.tv j = m.tv j
 cb : ∀ j, j ≠ i → m'.cb j = m.cb j
 room : m'.room = m.room
 begun : m'.begun = m.begun
theorem MRel.refl (i : Nat) (m : MM) : MRel i m m := ⟨rfl, fun _ _ => rfl, fun _ _ => rfl, fun _ _ => rfl, rfl, rfl⟩
theorem MRel.put (i : Nat) (m : MM) (x : Mch) (v : Value) (c : Option Nat) : MRel i m (m.put i m.ws x v c) := ⟨rfl, fun j hj => by simp [MM.put, hj], fun j hj => by simp [MM.put, hj], fun j hj => by simp [MM.put, hj], rfl, rfl⟩
theorem MRel.trans {i : Nat} {m m' m'' : MM} (h : MRel i m m') (k : MRel i m' m'') : MRel i m m'' := ⟨k.ws.trans h.ws, fun j hj => (k.th j hj).trans (h.th j hj), fun j hj => (k.tv j hj).trans (h.tv j hj), fun j hj => (k.cb j hj).trans (h.cb j hj), k.room.trans h.room, k.begun.trans h.begun⟩
def sxOf (st : Nat) : Value := .iface 96 (.pointer (some ⟨st, 0, none⟩))
noncomputable def KL : List Item := [.inLoop rL, .inBlock 0]
theorem grow_new {S : MS} {m : MM} {w w' : World} (h1 : w.heap.size ≤ w'.heap.size) (h2 : ∀ b, b < w.heap.size → w'.heap[b]? = w.heap[b]?) : Grow S.thr m w m w' := ⟨h1, fun b hb _ => h2 b hb, fun _ h => .inl h⟩
theorem MS.Body.new {S : MS} {m : MM} {w w' : World} (h : S.Body m w) (h2 : ∀ b, b < w.heap.size → w'.heap[b]? = w.heap[b]?) : S.Body m w' := by
 refine h.frame fun b hb => h2 b ?_
 rcases hb with rfl | ⟨i, hi, rfl | hg | hg⟩ | ⟨o, ho⟩
 · exact zq4 h.words
 · exact zq4 (h.mach i hi)
 · obtain ⟨c, hc⟩ := h.block hi hg
   exact zq4 hc
 · obtain ⟨c, _, _, hc⟩ := h.code i b hi hg
   exact zq4 hc
 · exact zq4 (h.ro b o ho)
theorem cut_k {Kc : Addr → Option Value} {X : Snap} {J : Goroutine → World → Prop} {S : MS} {m : MM} {w : World} (hE : Env Try.prog S.thr Kc X J m w) : ∀ y : Addr, w.heap.size ≤ y.block → Kc y = none := fun y hy => by
 cases hk : Kc y with
 | none => rfl
 | some v => obtain ⟨c, e, hx⟩ := hE.kept y v hk; have := zq4 (hE.rows _ c e hx); omega
theorem run_head {S : MS} {i : Nat} (hi : i < S.N) {pv : Value} (hp : ProgV S i pv) {st : Nat} {cl : Frame} {cs : List Frame} {Kc : Addr → Option Value} {X : Snap} {J : Goroutine → World → Prop} {m : MM} {w : World} {T : Array Value} {own : Int}
 (hE : Env Try.prog S.thr Kc X J m w) (hB : S.Body m w) (hcb : m.cb i = none) (hF : FrR (S.mb i) pv (sxOf st) (m.th i).most own T)
 (hout : ∀ w', (∀ k, (atC (S.prog i) (m.th i) = none ∨ ∃ c, atC (S.prog i) (m.th i) = some c ∧ isStep S.W c = true) → goOn (S.prog i) S.W k (m.th i) = (m.th i, false)) → (atC (S.prog i) (m.th i) = none ∨ ∃ c, atC (S.prog i) (m.th i) = some c ∧ isStep S.W c = true) → S.Body m w' → Grow S.thr m w m w' → J (G (cl.finish (.tuple #[])) cs) w')
 (hy : ∀ m' w' T' b, MRel i m m' → (∀ k, goOn (S.prog i) S.W k (m.th i) = (m'.th i, true)) → S.Body m' w' → Grow S.thr m w m' w' → m'.cb i = some b → FrR (S.mb i) pv (sxOf st) (m'.th i).most own T' → T'[9]? = some (.pointer (some ⟨b, 0, none⟩)) →
  J (G (Frame.enter Try.prog 74 #[.pointer (some ⟨st, 0, none⟩)] .normal) (yieldAt T' (.code rR :: .inBlock 1 :: KL) :: cl :: cs)) w')
 (hown : ∀ w' T' b c, atC (S.prog i) (m.th i) = some c → isStep S.W c = false → S.Body m w' → Grow S.thr m w m w' → FrR (S.mb i) pv (sxOf st) (m.th i).most own T' → T'[9]? = some (.pointer (some ⟨b, 0, none⟩)) → w'.heap[b]? = some (.cells (cdL c).toArray 74) →
  J (G ((bN 41).at ⟨T', []⟩ (.code rR :: .inBlock 1 :: KL)) (cl :: cs)) w') :
 J (G ((bN 41).at ⟨T, []⟩ (.code rL :: KL)) (cl :: cs)) w := by
 have hJ := hE.js
 have cn := (hB.machB hi).cn
 cases hc : atC (S.prog i) (m.th i) with
 | none =>
  obtain ⟨p, C, hpv⟩ := hp.slice
  have hend : ∀ T', J (G ((bN 41).at ⟨T', []⟩ []) (cl :: cs)) w := by
   intro T'
   have hr : J (G (cl.finish (.tuple #[])) cs) w := hout w (fun k _ => goOn_none hc) (.inl hc) hB (Grow.refl _ _ _)
   refine hJ.ctl (s := ()) (fun w => stepG_end) ?_
   refine leaveJ (s := ()) hJ (b := bN 41) rfl rfl Try.func41 (fun τ d => ?_) hr
   simp only [results, Try.f41]
   simp [go_sem]
  rcases atC_none hc with h | ⟨h1, h2⟩
  · exact run_out_neg hJ hF hpv cn h fun T' _ => hend T'
  · exact run_out_big hJ hF hpv cn h1 h2 fun T' _ => hend T'
 | some c =>
  obtain ⟨h0, h1, hget⟩ := atC_some hc
  obtain ⟨g, cap, hpv, hcells⟩ := hp.code hB hget
  refine run_inn hJ hF hpv cn h0 h1 fun T1 hF1 => ?_
  refine code_eq (J := fun (_ : Unit) => J) (s := ()) rB_eq ?_
  refine hJ.ctl (s := ()) (fun w => stepG_seq) ?_
  refine run_copy hJ hF1 hpv cn h0 h1 (hcells 0 (by omega)) (hcells 1 (by omega)) (hcells 2 (by omega)) (hcells 3 (by omega)) (hcells 4 (by omega)) (cut_k hE) fun T2 w2 hF2 t9 hb hsz hold => ?_
  have hG : Grow S.thr m w m w2 := grow_new (by omega) hold
  have hB2 : S.Body m w2 := hB.new hold
  have b0 : w2.cell? ⟨w.heap.size, 0, none⟩ = some (.int .i64 c.d) := (zq0 hb).trans rfl
  have b2 : w2.cell? ⟨w.heap.size, 2, none⟩ = some (.int .i64 c.a) := (zq0 hb).trans rfl
  have c0 := (hB2.machB hi).c0
  have hno : isStep S.W c = false → ∀ T', FrR (S.mb i) pv (sxOf st) (m.th i).most own T' → T'[9]? = some (.pointer (some ⟨w.heap.size, 0, none⟩)) → J (G ((bN 41).at ⟨T', []⟩ (.code rR :: .inBlock 1 :: KL)) (cl :: cs)) w2 :=
   fun hs T' h9 h10 => hown w2 T' w.heap.size c hc hs hB2 hG h9 h10 hb
  have hns : ¬ (7 ≤ c.d ∧ c.d ≤ 11 ∧ 0 ≤ c.a ∧ c.a < S.W) → isStep S.W c = false := fun hn => by
   cases hs : isStep S.W c with
   | false => rfl
   | true => exact absurd (isStep_iff.1 hs) hn
  by_cases k1 : 7 ≤ c.d
  · by_cases k2 : c.d ≤ 11
    · by_cases k3 : 0 ≤ c.a
      · by_cases k4 : c.a < S.W
        · have hs : isStep S.W c = true := isStep_iff.2 ⟨k1, k2, k3, k4⟩
          refine run_what5 hJ hF2 t9 b0 b2 c0 k1 k2 k3 k4 fun T3 hF3 u9 => ?_
          by_cases hm0 : (m.th i).most = 0
          · refine run_stop hJ hF3 hm0 ?_
            refine hout w2 (fun k _ => ?_) (.inr ⟨c, hc, hs⟩) hB2 hG
            rw [goOn_step hc hs, stopC, if_pos hm0]
          · have hst := hB.step hi (x := { m.th i with most := IntKind.i64.wrap ((m.th i).most - 1) }) (v := m.tv i) (c := some w.heap.size) (w' := w2) hB.len (by rw [hold _ (zq4 hB.words)]; exact hB.words) (by rw [hold _ (zq4 (hB.mach i hi))]; exact hB.mach i hi)
             (zqd (hB.told i hi) fun g hg => by obtain ⟨cc, hcc⟩ := hB.block hi hg; exact hold g (zq4 hcc)) (fun b hbb => by cases hbb; exact ⟨Nat.le_refl _, c, hc, hs, hb⟩) (fun b hbb _ _ _ => hold b hbb) (by omega) (fun g hg => .inl hg)
            refine run_yield hJ hF3 rfl u9 hm0 (fun o a => stepper_enter st o a) (fun o a ho ha w e he => by rw [stepper_events st o a ho ha w] at he; simp at he) fun T4 hF4 v9 => ?_
            refine hy _ w2 T4 w.heap.size (MRel.put i m _ _ _) (fun k => ?_) hst.1 hst.2 (by simp [MM.put]) ?_ v9
            · rw [goOn_step hc hs, stopC, if_neg hm0]; simp [MM.put]
            · simpa [MM.put] using hF4
        · exact run_what4 hJ hF2 t9 b0 b2 c0 k1 k2 k3 k4 fun T3 hF3 u9 => hno (hns fun h => k4 h.2.2.2) T3 hF3 u9
      · exact run_what3 hJ hF2 t9 b0 b2 c0 k1 k2 k3 fun T3 hF3 u9 => hno (hns fun h => k3 h.2.2.1) T3 hF3 u9
    · exact run_what2 hJ hF2 t9 b0 b2 c0 k1 k2 fun T3 hF3 u9 => hno (hns fun h => k2 h.2.1) T3 hF3 u9
  · exact run_what1 hJ hF2 t9 b0 b2 c0 k1 fun T3 hF3 u9 => hno (hns fun h => k1 h.1) T3 hF3 u9
theorem run_loop {S : MS} {i : Nat} (hi : i < S.N) {pv : Value} (hp : ProgV S i pv) {st : Nat} {cl : Frame} {cs : List Frame} : ∀ (k : Nat) {Kc : Addr → Option Value} {X : Snap} {J : Goroutine → World → Prop} {m : MM} {w : World} {T : Array Value}, k ≤ 4096 →
 Env Try.prog S.thr Kc X J m w → S.Body m w → m.cb i = none → (m.th i).told.length + k ≤ 8589934592 → FrR (S.mb i) pv (sxOf st) (m.th i).most (4096 - k : Int) T →
 (∀ m' w' T' own b, MRel i m m' → goOn (S.prog i) S.W k (m.th i) = (m'.th i, true) → S.Body m' w' → Grow S.thr m w m' w' → m'.cb i = some b → FrR (S.mb i) pv (sxOf st) (m'.th i).most own T' → T'[9]? = some (.pointer (some ⟨b, 0, none⟩)) →
  J (G (Frame.enter Try.prog 74 #[.pointer (some ⟨st, 0, none⟩)] .normal) (yieldAt T' (.code rR :: .inBlock 1 :: KL) :: cl :: cs)) w') →
 (∀ m' w', MRel i m m' → goOn (S.prog i) S.W k (m.th i) = (m'.th i, false) → S.Body m' w' → Grow S.thr m w m' w' → m'.cb i = none → J (G (cl.finish (.tuple #[])) cs) w') →
 J (G ((bN 41).at ⟨T, []⟩ (.code rL :: KL)) (cl :: cs)) w := by
 intro k
 induction k with
 | zero =>
  intro Kc X J m w T hk hE hB hcb hroom hF hy hn
  refine run_head hi hp hE hB hcb hF (fun w' h1 h2 h3 h4 => hn m w' (MRel.refl i m) (h1 0 h2) h3 h4 hcb) (fun m' w' T' b h1 h2 h3 h4 h5 h6 h7 => hy m' w' T' _ b h1 (h2 0) h3 h4 h5 h6 h7) fun w' T' b c hc hs h1 h2 h3 h4 h5 => ?_
  refine run_most hE.js h3 (by omega) ?_
  exact hn m w' (MRel.refl i m) (by simp [goOn, hc, hs]) h1 h2 hcb
 | succ k ih =>
  intro Kc X J m w T hk hE hB hcb hroom hF hy hn
  refine run_head hi hp hE hB hcb hF (fun w' h1 h2 h3 h4 => hn m w' (MRel.refl i m) (h1 _ h2) h3 h4 hcb) (fun m' w' T' b h1 h2 h3 h4 h5 h6 h7 => hy m' w' T' _ b h1 (h2 _) h3 h4 h5 h6 h7) fun w' T' b c hc hs h1 h2 h3 h4 h5 => ?_
  have hgo : ∀ x, goOn (S.prog i) S.W (k + 1) (m.th i) = x ↔ goOn (S.prog i) S.W k (ownC c (m.th i)) = x := fun x => by simp [goOn, hc, hs]
  have q0 : w'.cell? ⟨b, 0, none⟩ = some (.int .i64 c.d) := (zq0 h5).trans rfl
  have q1 : w'.cell? ⟨b, 1, none⟩ = some (.int .i64 c.r) := (zq0 h5).trans rfl
  have q2 : w'.cell? ⟨b, 2, none⟩ = some (.int .i64 c.a) := (zq0 h5).trans rfl
  have q3 : w'.cell? ⟨b, 3, none⟩ = some (.int .i64 c.b) := (zq0 h5).trans rfl
  have q4 : w'.cell? ⟨b, 4, none⟩ = some (.int .i64 c.v) := (zq0 h5).trans rfl
  refine run_own hE.js h3 h4 q0 q1 q2 q3 q4 (by omega) (by omega) fun c' T'' hF'' hfin => ?_
  have hE' := hE.grow h2
  refine own_env (c := c) hE' h1 hi (by omega) fun v' w2 hB2 hG2 => ?_
  refine hfin w2 ?_
  have hr := MRel.put i m (ownC c (m.th i)) v' none
  have hth : (m.put i m.ws (ownC c (m.th i)) v' none).th i = ownC c (m.th i) := by simp [MM.put]
  refine hE.js.ctl (s := ()) (fun w => stepG_inBlock) ?_
  refine hE.js.ctl (s := ()) (fun w => stepG_inLoop) ?_
  have hG3 := h2.trans hG2
  refine ih (by omega) (hE.grow hG3) hB2 (by simp [MM.put]) ?_ ?_ (fun m' w3 T3 own b3 g1 g2 g3 g4 g5 g6 g7 => ?_) (fun m' w3 g1 g2 g3 g4 g5 => ?_)
  · rw [hth]; have := ownC_told c (m.th i); omega
  · rw [hth, ownC_most]
    rw [show (4096 - ((k + 1 : Nat) : Int) + 1 : Int) = 4096 - (k : Nat) by omega] at hF''
    exact hF''
  · rw [hth] at g2
    exact hy m' w3 T3 own b3 (hr.trans g1) ((hgo _).2 g2) g3 (hG3.trans g4) g5 g6 g7
  · rw [hth] at g2
    exact hn m' w3 (hr.trans g1) ((hgo _).2 g2) g3 (hG3.trans g4) g5
end Go.Proofs
