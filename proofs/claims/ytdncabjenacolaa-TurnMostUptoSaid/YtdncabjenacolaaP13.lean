/- YtdncabjenacolaaTOver5: part 13 of the proof (the texts behind it, in order). -/
import Derived.Test.YtdncabjenacolaaP12
set_option linter.unusedSimpArgs false
set_option linter.unusedVariables false
set_option linter.unusedSectionVars false
set_option linter.unnecessarySimpa false
set_option maxHeartbeats 1000000
set_option maxRecDepth 100000
namespace Go.Proofs
open Go Go.Conc Go.RowKit Go.Car
noncomputable def wkL : Code := match headC (Try.f37.body.getD .skip) with | .seq _ (.block _ (.loop c)) => c | _ => .skip
noncomputable def wkT : Code := match Try.f37.body.getD .skip with | .seq _ c => c | _ => .skip
noncomputable def wkB : Code := match tailN 1 wkL with | .seq (.block _ c) _ => c | _ => .skip
noncomputable def wkS : Code := match tailN 2 wkB with | .cond _ c _ => c | _ => .skip
noncomputable def k1c : Code := headC (headC wkL)
noncomputable def k2c : Code := match tailN 1 wkL with | .seq (.block _ _) c => c | _ => .skip
noncomputable def k3c : Code := headC (headC wkB)
noncomputable def k4c : Code := match headC wkB with | .seq _ (.cond _ c _) => c | _ => .skip
noncomputable def k5c : Code := headC (tailN 1 wkB)
noncomputable def k6c : Code := headC wkS
noncomputable def k7c : Code := tailN 1 wkS
noncomputable def k8c : Code := headC wkT
noncomputable def k9c : Code := match wkT with | .seq _ (.cond _ c _) => c | _ => .skip
theorem wkL_eq : wkL = .seq (.seq k1c (.cond (.tmp 10) .skip (.exit 0))) (.seq (.block 1 wkB) k2c) := by kernel_rfl
theorem wkB_eq : wkB = .seq (.seq k3c (.cond (.tmp 18) k4c .skip)) (.seq k5c (.cond (.tmp 28) wkS .skip)) := by kernel_rfl
theorem wkS_eq : wkS = .seq k6c k7c := by kernel_rfl
theorem wkT_eq : wkT = .seq k8c (.cond (.tmp 58) k9c .skip) := by kernel_rfl
structure FrW (wb : Nat) (iv : Value) (i : Int) (T : Array Value) : Prop where
 size : T.size = 67
 t0 : T[0]? = some (.pointer (some ⟨wb, 0, none⟩))
 t1 : T[1]? = some iv
 t4 : T[4]? = some (.int .i64 i)
theorem wlk_in {Kc : Addr → Option Value} {J : Goroutine → World → Prop} (hJ : JX Try.prog Kc J) {wb : Nat} {iv : Value} {i : Int} {T : Array Value} {w : World} {K : List Item} {cs : List Frame} (hF : FrW wb iv i T) {n : Int} (cn : w.cell? ⟨wb, 2, none⟩ = some (.int .i64 n)) (hlt : i < n)
 (hmain : ∀ T', FrW wb iv i T' → J (G ((bN 37).at ⟨T', []⟩ (.code wkB :: .inBlock 1 :: .code k2c :: K)) cs) w) : J (G ((bN 37).at ⟨T, []⟩ (.code wkL :: K)) cs) w := by
 have d0 : decide (i < n) = true := by simpa using hlt
 obtain ⟨hsz, f0, f1, f4⟩ := hF
 have hm := Lib.hid hmain
 clear hmain
 refine code_eq (J := fun (_ : Unit) => J) (s := ()) wkL_eq ?_
 obtain ⟨u0, hu0⟩ : ∃ c, k1c = c := ⟨_, rfl⟩
 have eu0 := hu0
 rw [hu0]
 simp only [wkL, wkB, wkT, wkS, k1c, k2c, k3c, k4c, k5c, k6c, k7c, k8c, k9c, headC, tailN, Try.f37, al_od] at eu0
 subst eu0
 clear hu0
 refine hJ.ctl (s := ()) (fun w => stepG_seq) ?_
 refine hJ.ctl (s := ()) (fun w => stepG_seq) ?_
 refine hJ.ctl (s := ()) (fun w => stepG_region) ?_
 refine at_eval (J := fun (_ : Unit) => J) (s := ()) hJ (by decide) 0 [.int .i64 i, .pointer (some ⟨wb, 0, none⟩), .pointer (some ⟨wb, 0, none⟩), .pointer (some ⟨wb, 2, none⟩), .int .i64 n, .bool true] [] rfl (by simp) (by rfl) ?_ ?_
 · intro τ d
   simp only [evalsO, dstOf, al_gl, al_g0, al_g1, al_ob]
   refine ⟨?_, ?_, ?_, ?_, ?_, ?_, trivial⟩ <;> (intro o ho; simp only [al_oi] at ho; subst ho)
   all_goals (try simp only [execOp, Act.eval, List.map_toArray, List.map_cons, List.map_nil, al_gd])
   all_goals (try simp only [al_gs, al_gz, hsz, f0, f1, f4, Nat.reduceEqDiff, Nat.reduceLT, ↓reduceIte, al_od])
   all_goals (have hlt : ∀ i, i < 67 → i < (T).size := fun i hi => (by rw [hsz]; exact hi))
   all_goals (clear hsz f0 f1 f4)
   all_goals (try go_simp)
   all_goals (try omega)
 simp only [putv, dstOf, al_gl, al_g0, al_g1, al_ob]
 obtain ⟨T1, hT⟩ : ∃ X, X = ((((((T).setIfInBounds 5 (.int .i64 i)).setIfInBounds 6 (.pointer (some ⟨wb, 0, none⟩))).setIfInBounds 7 (.pointer (some ⟨wb, 0, none⟩))).setIfInBounds 8 (.pointer (some ⟨wb, 2, none⟩))).setIfInBounds 9 (.int .i64 n)).setIfInBounds 10 (.bool true) := ⟨_, rfl⟩
 rw [← hT]
 have hT1 : T1.size = 67 := by rw [hT]; simp [hsz]
 have T1_0 : T1[0]? = some (.pointer (some ⟨wb, 0, none⟩)) := by rw [hT]; simp only [al_gs, Nat.reduceEqDiff, ↓reduceIte]; exact f0
 have T1_1 : T1[1]? = some (iv) := by rw [hT]; simp only [al_gs, Nat.reduceEqDiff, ↓reduceIte]; exact f1
 have T1_4 : T1[4]? = some (.int .i64 i) := by rw [hT]; simp only [al_gs, Nat.reduceEqDiff, ↓reduceIte]; exact f4
 have T1_10 : T1[10]? = some (.bool true) := by rw [hT]; simp [al_gs, hsz]
 clear hT f0 f1 f4 hsz
 refine hJ.ctl (s := ()) (fun w => stepG_region_end) ?_
 refine hJ.ctl (s := ()) (fun w => stepG_cond (t := true) (by simp [Act.eval, al_gd, T1_10])) ?_
 simp only [if_true]
 refine hJ.ctl (s := ()) (fun w => stepG_skip) ?_
 refine hJ.ctl (s := ()) (fun w => stepG_seq) ?_
 refine hJ.ctl (s := ()) (fun w => stepG_block) ?_
 exact hm.out _ ⟨hT1, T1_0, T1_1, T1_4⟩
theorem walk_out {Kc : Addr → Option Value} {J : Goroutine → World → Prop} (hJ : JX Try.prog Kc J) {wb : Nat} {iv : Value} {i : Int} {T : Array Value} {w : World} {K : List Item} {cs : List Frame} (hF : FrW wb iv i T) {n : Int} (cn : w.cell? ⟨wb, 2, none⟩ = some (.int .i64 n)) (hlt : ¬ i < n)
 (hmain : ∀ T', FrW wb iv i T' → J (G ((bN 37).at ⟨T', []⟩ K) cs) w) : J (G ((bN 37).at ⟨T, []⟩ (.code wkL :: .inLoop wkL :: .inBlock 0 :: K)) cs) w := by
 have d0 : decide (i < n) = false := by simpa using hlt
 obtain ⟨hsz, f0, f1, f4⟩ := hF
 have hm := Lib.hid hmain
 clear hmain
 refine code_eq (J := fun (_ : Unit) => J) (s := ()) wkL_eq ?_
 obtain ⟨u0, hu0⟩ : ∃ c, k1c = c := ⟨_, rfl⟩
 have eu0 := hu0
 rw [hu0]
 simp only [wkL, wkB, wkT, wkS, k1c, k2c, k3c, k4c, k5c, k6c, k7c, k8c, k9c, headC, tailN, Try.f37, al_od] at eu0
 subst eu0
 clear hu0
 refine hJ.ctl (s := ()) (fun w => stepG_seq) ?_
 refine hJ.ctl (s := ()) (fun w => stepG_seq) ?_
 refine hJ.ctl (s := ()) (fun w => stepG_region) ?_
 refine at_eval (J := fun (_ : Unit) => J) (s := ()) hJ (by decide) 0 [.int .i64 i, .pointer (some ⟨wb, 0, none⟩), .pointer (some ⟨wb, 0, none⟩), .pointer (some ⟨wb, 2, none⟩), .int .i64 n, .bool false] [] rfl (by simp) (by rfl) ?_ ?_
 · intro τ d
   simp only [evalsO, dstOf, al_gl, al_g0, al_g1, al_ob]
   refine ⟨?_, ?_, ?_, ?_, ?_, ?_, trivial⟩ <;> (intro o ho; simp only [al_oi] at ho; subst ho)
   all_goals (try simp only [execOp, Act.eval, List.map_toArray, List.map_cons, List.map_nil, al_gd])
   all_goals (try simp only [al_gs, al_gz, hsz, f0, f1, f4, Nat.reduceEqDiff, Nat.reduceLT, ↓reduceIte, al_od])
   all_goals (have hlt : ∀ i, i < 67 → i < (T).size := fun i hi => (by rw [hsz]; exact hi))
   all_goals (clear hsz f0 f1 f4)
   all_goals (try go_simp)
   all_goals (try omega)
 simp only [putv, dstOf, al_gl, al_g0, al_g1, al_ob]
 obtain ⟨T1, hT⟩ : ∃ X, X = ((((((T).setIfInBounds 5 (.int .i64 i)).setIfInBounds 6 (.pointer (some ⟨wb, 0, none⟩))).setIfInBounds 7 (.pointer (some ⟨wb, 0, none⟩))).setIfInBounds 8 (.pointer (some ⟨wb, 2, none⟩))).setIfInBounds 9 (.int .i64 n)).setIfInBounds 10 (.bool false) := ⟨_, rfl⟩
 rw [← hT]
 have hT1 : T1.size = 67 := by rw [hT]; simp [hsz]
 have T1_0 : T1[0]? = some (.pointer (some ⟨wb, 0, none⟩)) := by rw [hT]; simp only [al_gs, Nat.reduceEqDiff, ↓reduceIte]; exact f0
 have T1_1 : T1[1]? = some (iv) := by rw [hT]; simp only [al_gs, Nat.reduceEqDiff, ↓reduceIte]; exact f1
 have T1_4 : T1[4]? = some (.int .i64 i) := by rw [hT]; simp only [al_gs, Nat.reduceEqDiff, ↓reduceIte]; exact f4
 have T1_10 : T1[10]? = some (.bool false) := by rw [hT]; simp [al_gs, hsz]
 clear hT f0 f1 f4 hsz
 refine hJ.ctl (s := ()) (fun w => stepG_region_end) ?_
 refine hJ.ctl (s := ()) (fun w => stepG_cond (t := false) (by simp [Act.eval, al_gd, T1_10])) ?_
 simp only [Bool.false_eq_true, if_false]
 refine hJ.ctl (s := ()) (fun w => stepG_exit (k' := K) rfl) ?_
 exact hm.out _ ⟨hT1, T1_0, T1_1, T1_4⟩
noncomputable def beyP (x : Int) (s : Bool) : PanicEntry := { v := .iface Try.prog.rt.boundsError (.agg #[.int .i64 x, .int .i64 0, .bool s, .int .u8 0]), recovered := false }
theorem beyond_raise {Kc : Addr → Option Value} {J : Goroutine → World → Prop} (hJ : JX Try.prog Kc J) {x : Int} (h0 : 0 ≤ x) (h1 : x < 64) {w : World} {cl : Frame} {cs : List Frame} (hmain : ∀ s, J (G (cl.raise [beyP x s]) cs) w) :
 J (G (Frame.enter Try.prog 47 #[.int .i64 x] .normal) (cl :: cs)) w := by
 have hm := Lib.hid hmain
 clear hmain
 have e : Frame.enter Try.prog 47 #[.int .i64 x] .normal = (bN 47).at (enterAct Try.f47 #[.int .i64 x]) [.code ((Try.f47.body).getD .skip)] := rfl
 rw [e]
 simp only [Try.f47, enterAct, al_od, List.size_toArray, List.length_cons, List.length_nil, Nat.reduceAdd, Nat.reduceSub, Array.replicate_succ, Array.replicate_zero, List.push_toArray, List.append_toArray, List.nil_append, List.cons_append]
 refine hJ.ctl (s := ()) (fun w => stepG_seq) ?_
 refine hJ.ctl (s := ()) (fun w => stepG_region) ?_
 refine at_piece (J := fun (_ : Unit) => J) (s := ()) (by decide) hJ (rows0_none _) true (.inl rfl) 0 1 0 rfl rfl rfl (by rfl) ?_
 intro τ d
 simp only [List.drop_zero, List.drop_succ_cons, List.take_succ_cons, List.take_zero]
 go_wp2
 simp only [contAt]
 refine hJ.re' () _ w τ d ?_
 refine hJ.ctl (s := ()) (fun w => stepG_region_end) ?_
 refine hJ.ctl (s := ()) (fun w => stepG_seq) ?_
 refine hJ.ctl (s := ()) (fun w => stepG_region) ?_
 refine at_piece (J := fun (_ : Unit) => J) (s := ()) (by decide) hJ (rows0_none _) true (.inl rfl) 0 1 0 rfl rfl rfl (by rfl) ?_
 intro τ d
 simp only [List.drop_zero, List.drop_succ_cons, List.take_succ_cons, List.take_zero]
 go_wp2
 simp only [contAt]
 refine hJ.re' () _ w τ d ?_
 refine hJ.ctl (s := ()) (fun w => stepG_region_end) ?_
 refine hJ.ctl (s := ()) (fun w => stepG_seq) ?_
 refine hJ.ctl (s := ()) (fun w => stepG_region) ?_
 refine at_piece (J := fun (_ : Unit) => J) (s := ()) (by decide) hJ (rows0_none _) true (.inl rfl) 0 2 3 rfl rfl rfl (by rfl) ?_
 intro τ d
 simp only [List.drop_zero, List.drop_succ_cons, List.take_succ_cons, List.take_zero]
 go_wp2
 simp only [contAt]
 refine hJ.re' () _ w τ d ?_
 have hrun : ∀ W : World, ∃ sg W', (boundsPanic (α := Value) .i64 x 0 .index).run Try.prog W = .halt (.panic (.iface Try.prog.rt.boundsError (.agg #[.int .i64 x, .int .i64 0, .bool sg, .int .u8 0]))) W' ∧ (W' = W ∨ W' = W.drew) := by
  intro W
  by_cases h31 : x ≤ 31
  · exact ⟨_, _, Lib.run_boundsPanic_index Try.prog x 0 W h0 h31, .inr rfl⟩
  · refine ⟨true, W, ?_, .inl rfl⟩
    have hw : IntKind.i64.wrap x = x := IntWalk.i64_in _ (by omega)
    simp [boundsPanic, runtimePanic, goPanic, h31, hw]
    rfl
 have hop : ∀ (W : World), (Instr.indexAt 24 (.slice none 0 0) (.int .i64 x)).run Try.prog W = (boundsPanic .i64 x 0 .index).run Try.prog W := fun W => Lib.run_indexAt_nil W _ 3 0 0 .i64 x (by kernel_rfl)
 refine at_cons (J := fun (_ : Unit) => J) (s := ()) (by decide) hJ (i := 2) rfl rfl fun τ d => ?_
 have hev := fun (o : Oper) (h : readOp Try.prog o.op = true) (ρ : Operand → Value) => evs_read (Kc := Kc) (execOp_read (P := Try.prog) o h ρ) (re w τ d)
 refine ⟨(hev _ rfl _).1, (hev _ rfl _).2, ?_⟩
 obtain ⟨sg, W', hW, hd⟩ := hrun (re w τ d)
 have hex : ∀ (o : Oper) (a : Act), o.op = .indexAddr 24 (.tmp 4) (.tmp 5) → a.tmps = #[.int .i64 x, undef, .int .i64 0, .slice none 0 0, .slice none 0 0, .int .i64 x, undef, undef] → (execOp a.eval o).run Try.prog (re w τ d) = .halt (.panic (.iface Try.prog.rt.boundsError (.agg #[.int .i64 x, .int .i64 0, .bool sg, .int .u8 0]))) W' := by
  intro o a ho ha
  have e4 : a.eval (.tmp 4) = .slice none 0 0 := by simp [Act.eval, ha]
  have e5 : a.eval (.tmp 5) = .int .i64 x := by simp [Act.eval, ha]
  unfold execOp
  simp only [ho, e4, e5, Sem.run_bind, hop, hW, Result.andThen]
 rw [hex _ _ rfl rfl]
 intro todo
 refine raiseJ (s := ()) hJ (b := bN 47) rfl Try.func47 ?_
 rcases hd with rfl | rfl
 · exact hJ.re' () _ _ τ d (hm.out sg)
 · exact hJ.re' () _ w τ (d + 1) (hm.out sg)
theorem walk_bad {Kc : Addr → Option Value} {J : Goroutine → World → Prop} (hJ : JX Try.prog Kc J) {wb : Nat} {iv : Value} {i : Int} {T : Array Value} {w : World} {K : List Item} {cl : Frame} {cs : List Frame} (hF : FrW wb iv i T) {a x : Int} (ca : w.cell? ⟨wb, 3, none⟩ = some (.int .i64 a)) (cx : w.cell? ⟨wb, 1, none⟩ = some (.int .i64 x)) (ha : i = a) (hx0 : 0 ≤ x) (hx1 : x < 64)
 (hmain : ∀ sg, J (G (cl.raise [beyP x sg]) cs) w) : J (G ((bN 37).at ⟨T, []⟩ (.code wkB :: K)) (cl :: cs)) w := by
 have d0 : decide (i = a) = true := by simpa using ha
 obtain ⟨hsz, f0, f1, f4⟩ := hF
 have hm := Lib.hid hmain
 clear hmain
 refine code_eq (J := fun (_ : Unit) => J) (s := ()) wkB_eq ?_
 obtain ⟨u0, hu0⟩ : ∃ c, k3c = c := ⟨_, rfl⟩
 have eu0 := hu0
 rw [hu0]
 simp only [wkL, wkB, wkT, wkS, k1c, k2c, k3c, k4c, k5c, k6c, k7c, k8c, k9c, headC, tailN, Try.f37, al_od] at eu0
 subst eu0
 clear hu0
 obtain ⟨u1, hu1⟩ : ∃ c, k4c = c := ⟨_, rfl⟩
 have eu1 := hu1
 rw [hu1]
 simp only [wkL, wkB, wkT, wkS, k1c, k2c, k3c, k4c, k5c, k6c, k7c, k8c, k9c, headC, tailN, Try.f37, al_od] at eu1
 subst eu1
 clear hu1
 refine hJ.ctl (s := ()) (fun w => stepG_seq) ?_
 refine hJ.ctl (s := ()) (fun w => stepG_seq) ?_
 refine hJ.ctl (s := ()) (fun w => stepG_region) ?_
 refine at_eval (J := fun (_ : Unit) => J) (s := ()) hJ (by decide) 0 [.int .i64 i, .pointer (some ⟨wb, 0, none⟩), .pointer (some ⟨wb, 0, none⟩), .pointer (some ⟨wb, 3, none⟩), .int .i64 a, .bool true] [] rfl (by simp) (by rfl) ?_ ?_
 · intro τ d
   simp only [evalsO, dstOf, al_gl, al_g0, al_g1, al_ob]
   refine ⟨?_, ?_, ?_, ?_, ?_, ?_, trivial⟩ <;> (intro o ho; simp only [al_oi] at ho; subst ho)
   all_goals (try simp only [execOp, Act.eval, List.map_toArray, List.map_cons, List.map_nil, al_gd])
   all_goals (try simp only [al_gs, al_gz, hsz, f0, f1, f4, Nat.reduceEqDiff, Nat.reduceLT, ↓reduceIte, al_od])
   all_goals (have hlt : ∀ i, i < 67 → i < (T).size := fun i hi => (by rw [hsz]; exact hi))
   all_goals (clear hsz f0 f1 f4)
   all_goals (try go_simp)
   all_goals (try omega)
 simp only [putv, dstOf, al_gl, al_g0, al_g1, al_ob]
 obtain ⟨T1, hT⟩ : ∃ X, X = ((((((T).setIfInBounds 13 (.int .i64 i)).setIfInBounds 14 (.pointer (some ⟨wb, 0, none⟩))).setIfInBounds 15 (.pointer (some ⟨wb, 0, none⟩))).setIfInBounds 16 (.pointer (some ⟨wb, 3, none⟩))).setIfInBounds 17 (.int .i64 a)).setIfInBounds 18 (.bool true) := ⟨_, rfl⟩
 rw [← hT]
 have hT1 : T1.size = 67 := by rw [hT]; simp [hsz]
 have T1_0 : T1[0]? = some (.pointer (some ⟨wb, 0, none⟩)) := by rw [hT]; simp only [al_gs, Nat.reduceEqDiff, ↓reduceIte]; exact f0
 have T1_1 : T1[1]? = some (iv) := by rw [hT]; simp only [al_gs, Nat.reduceEqDiff, ↓reduceIte]; exact f1
 have T1_4 : T1[4]? = some (.int .i64 i) := by rw [hT]; simp only [al_gs, Nat.reduceEqDiff, ↓reduceIte]; exact f4
 have T1_18 : T1[18]? = some (.bool true) := by rw [hT]; simp [al_gs, hsz]
 clear hT f0 f1 f4 hsz
 refine hJ.ctl (s := ()) (fun w => stepG_region_end) ?_
 refine hJ.ctl (s := ()) (fun w => stepG_cond (t := true) (by simp [Act.eval, al_gd, T1_18])) ?_
 simp only [if_true]
 refine hJ.ctl (s := ()) (fun w => stepG_region) ?_
 refine at_eval (J := fun (_ : Unit) => J) (s := ()) hJ (by decide) 0 [.pointer (some ⟨wb, 0, none⟩), .pointer (some ⟨wb, 0, none⟩), .pointer (some ⟨wb, 0, none⟩), .pointer (some ⟨wb, 1, none⟩), .int .i64 x] [5, 6, 7, 8] rfl (by simp) (by rfl) ?_ ?_
 · intro τ d
   simp only [evalsO, dstOf, al_gl, al_g0, al_g1, al_ob]
   refine ⟨?_, ?_, ?_, ?_, ?_, trivial⟩ <;> (intro o ho; simp only [al_oi] at ho; subst ho)
   all_goals (try simp only [execOp, Act.eval, List.map_toArray, List.map_cons, List.map_nil, al_gd])
   all_goals (try simp only [al_gs, al_gz, hT1, T1_0, T1_1, T1_4, T1_18, Nat.reduceEqDiff, Nat.reduceLT, ↓reduceIte, al_od])
   all_goals (have hlt : ∀ i, i < 67 → i < (T1).size := fun i hi => (by rw [hT1]; exact hi))
   all_goals (clear hT1 T1_0 T1_1 T1_4 T1_18)
   all_goals (try go_simp)
   all_goals (try omega)
 simp only [putv, dstOf, al_gl, al_g0, al_g1, al_ob]
 obtain ⟨T2, hT⟩ : ∃ X, X = (((((T1).setIfInBounds 19 (.pointer (some ⟨wb, 0, none⟩))).setIfInBounds 20 (.pointer (some ⟨wb, 0, none⟩))).setIfInBounds 21 (.pointer (some ⟨wb, 0, none⟩))).setIfInBounds 22 (.pointer (some ⟨wb, 1, none⟩))).setIfInBounds 23 (.int .i64 x) := ⟨_, rfl⟩
 rw [← hT]
 have hT2 : T2.size = 67 := by rw [hT]; simp [hT1]
 have T2_0 : T2[0]? = some (.pointer (some ⟨wb, 0, none⟩)) := by rw [hT]; simp only [al_gs, Nat.reduceEqDiff, ↓reduceIte]; exact T1_0
 have T2_1 : T2[1]? = some (iv) := by rw [hT]; simp only [al_gs, Nat.reduceEqDiff, ↓reduceIte]; exact T1_1
 have T2_4 : T2[4]? = some (.int .i64 i) := by rw [hT]; simp only [al_gs, Nat.reduceEqDiff, ↓reduceIte]; exact T1_4
 have T2_19 : T2[19]? = some (.pointer (some ⟨wb, 0, none⟩)) := by rw [hT]; simp [al_gs, hT1]
 have T2_23 : T2[23]? = some (.int .i64 x) := by rw [hT]; simp [al_gs, hT1]
 clear hT T1_0 T1_1 T1_4 T1_18 hT1
 refine at_call (J := fun (_ : Unit) => J) (s := ()) (by decide) hJ (i := 5) rfl rfl (f := 47) (args := #[.int .i64 x]) (fun τ d => ?_) (fun τ d => ?_) ?_
 · simp [go_sem, execOp, Act.eval, resolve, Deferred.ofValue, invoke, callFunc, Try.func47, Try.f47, al_gd, T2_23]
 · intro e he
   simp [go_sem, execOp, Act.eval, resolve, Deferred.ofValue, invoke, callFunc, Try.func47, Try.f47, Sem.runT_eq, al_gd, T2_23] at he
 refine beyond_raise hJ hx0 hx1 (fun sg => ?_)
 rw [Frame.raise_at]
 exact raiseJ (s := ()) hJ (b := (bN 37)) rfl Try.func37 (hm.out sg)
noncomputable def stepAt (T : Array Value) (K : List Item) : Frame := (bN 37).at ⟨T, []⟩ (.inRegion (match k6c with | .region _ ops _ => ops | _ => #[]) [1] :: .code k7c :: K)
theorem walk_step {Kc : Addr → Option Value} {J : Goroutine → World → Prop} (hJ : JX Try.prog Kc J) {wb : Nat} {iv : Value} {i : Int} {T : Array Value} {w : World} {K : List Item} {cs : List Frame} (hF : FrW wb iv i T) {a : Int} {ti : TypeId} {sx : Value} (hiv : iv = .iface ti sx) (ca : w.cell? ⟨wb, 3, none⟩ = some (.int .i64 a)) (ha : ¬ i = a)
 (hcall : ∀ (o : Oper) (a : Act), o.op = .call { callee := .invoke (.tmp 29) "Step", args := #[], argTypes := #[] } → a.eval (.tmp 29) = .iface ti sx → ∀ w, (execOp a.eval o).run Try.prog w = .ok (.enter 74 #[sx]) w)
 (hev : ∀ (o : Oper) (a : Act), o.op = .call { callee := .invoke (.tmp 29) "Step", args := #[], argTypes := #[] } → a.eval (.tmp 29) = .iface ti sx → ∀ w, ∀ e ∈ ((execOp a.eval o).runT Try.prog w #[]).2, EvOk Kc e)
 (hmain : ∀ T', FrW wb iv i T' → J (G (Frame.enter Try.prog 74 #[sx] .normal) (stepAt T' K :: cs)) w) : J (G ((bN 37).at ⟨T, []⟩ (.code wkB :: K)) cs) w := by
 subst hiv
 have d0 : decide (i = a) = false := by simpa using ha
 obtain ⟨hsz, f0, f1, f4⟩ := hF
 have hm := Lib.hid hmain
 clear hmain
 refine code_eq (J := fun (_ : Unit) => J) (s := ()) wkB_eq ?_
 obtain ⟨u0, hu0⟩ : ∃ c, k3c = c := ⟨_, rfl⟩
 have eu0 := hu0
 rw [hu0]
 simp only [wkL, wkB, wkT, wkS, k1c, k2c, k3c, k4c, k5c, k6c, k7c, k8c, k9c, headC, tailN, Try.f37, al_od] at eu0
 subst eu0
 clear hu0
 obtain ⟨u1, hu1⟩ : ∃ c, k5c = c := ⟨_, rfl⟩
 have eu1 := hu1
 rw [hu1]
 simp only [wkL, wkB, wkT, wkS, k1c, k2c, k3c, k4c, k5c, k6c, k7c, k8c, k9c, headC, tailN, Try.f37, al_od] at eu1
 subst eu1
 clear hu1
 refine hJ.ctl (s := ()) (fun w => stepG_seq) ?_
 refine hJ.ctl (s := ()) (fun w => stepG_seq) ?_
 refine hJ.ctl (s := ()) (fun w => stepG_region) ?_
 refine at_eval (J := fun (_ : Unit) => J) (s := ()) hJ (by decide) 0 [.int .i64 i, .pointer (some ⟨wb, 0, none⟩), .pointer (some ⟨wb, 0, none⟩), .pointer (some ⟨wb, 3, none⟩), .int .i64 a, .bool false] [] rfl (by simp) (by rfl) ?_ ?_
 · intro τ d
   simp only [evalsO, dstOf, al_gl, al_g0, al_g1, al_ob]
   refine ⟨?_, ?_, ?_, ?_, ?_, ?_, trivial⟩ <;> (intro o ho; simp only [al_oi] at ho; subst ho)
   all_goals (try simp only [execOp, Act.eval, List.map_toArray, List.map_cons, List.map_nil, al_gd])
   all_goals (try simp only [al_gs, al_gz, hsz, f0, f1, f4, Nat.reduceEqDiff, Nat.reduceLT, ↓reduceIte, al_od])
   all_goals (have hlt : ∀ i, i < 67 → i < (T).size := fun i hi => (by rw [hsz]; exact hi))
   all_goals (clear hsz f0 f1 f4)
   all_goals (try go_simp)
   all_goals (try omega)
 simp only [putv, dstOf, al_gl, al_g0, al_g1, al_ob]
 obtain ⟨T1, hT⟩ : ∃ X, X = ((((((T).setIfInBounds 13 (.int .i64 i)).setIfInBounds 14 (.pointer (some ⟨wb, 0, none⟩))).setIfInBounds 15 (.pointer (some ⟨wb, 0, none⟩))).setIfInBounds 16 (.pointer (some ⟨wb, 3, none⟩))).setIfInBounds 17 (.int .i64 a)).setIfInBounds 18 (.bool false) := ⟨_, rfl⟩
 rw [← hT]
 have hT1 : T1.size = 67 := by rw [hT]; simp [hsz]
 have T1_0 : T1[0]? = some (.pointer (some ⟨wb, 0, none⟩)) := by rw [hT]; simp only [al_gs, Nat.reduceEqDiff, ↓reduceIte]; exact f0
 have T1_1 : T1[1]? = some (.iface ti sx) := by rw [hT]; simp only [al_gs, Nat.reduceEqDiff, ↓reduceIte]; exact f1
 have T1_4 : T1[4]? = some (.int .i64 i) := by rw [hT]; simp only [al_gs, Nat.reduceEqDiff, ↓reduceIte]; exact f4
 have T1_18 : T1[18]? = some (.bool false) := by rw [hT]; simp [al_gs, hsz]
 clear hT f0 f1 f4 hsz
 refine hJ.ctl (s := ()) (fun w => stepG_region_end) ?_
 refine hJ.ctl (s := ()) (fun w => stepG_cond (t := false) (by simp [Act.eval, al_gd, T1_18])) ?_
 simp only [Bool.false_eq_true, if_false]
 refine hJ.ctl (s := ()) (fun w => stepG_skip) ?_
 refine hJ.ctl (s := ()) (fun w => stepG_seq) ?_
 refine hJ.ctl (s := ()) (fun w => stepG_region) ?_
 refine at_eval (J := fun (_ : Unit) => J) (s := ()) hJ (by decide) 0 [.iface ti sx, .bool true] [] rfl (by simp) (by rfl) ?_ ?_
 · intro τ d
   simp only [evalsO, dstOf, al_gl, al_g0, al_g1, al_ob]
   refine ⟨?_, ?_, trivial⟩ <;> (intro o ho; simp only [al_oi] at ho; subst ho)
   all_goals (try simp only [execOp, Act.eval, List.map_toArray, List.map_cons, List.map_nil, al_gd])
   all_goals (try simp only [al_gs, al_gz, hT1, T1_0, T1_1, T1_4, T1_18, Nat.reduceEqDiff, Nat.reduceLT, ↓reduceIte, al_od])
   all_goals (have hlt : ∀ i, i < 67 → i < (T1).size := fun i hi => (by rw [hT1]; exact hi))
   all_goals (clear hT1 T1_0 T1_1 T1_4 T1_18)
   all_goals (try go_simp)
   all_goals (try omega)
 simp only [putv, dstOf, al_gl, al_g0, al_g1, al_ob]
 obtain ⟨T2, hT⟩ : ∃ X, X = ((T1).setIfInBounds 27 (.iface ti sx)).setIfInBounds 28 (.bool true) := ⟨_, rfl⟩
 rw [← hT]
 have hT2 : T2.size = 67 := by rw [hT]; simp [hT1]
 have T2_0 : T2[0]? = some (.pointer (some ⟨wb, 0, none⟩)) := by rw [hT]; simp only [al_gs, Nat.reduceEqDiff, ↓reduceIte]; exact T1_0
 have T2_1 : T2[1]? = some (.iface ti sx) := by rw [hT]; simp only [al_gs, Nat.reduceEqDiff, ↓reduceIte]; exact T1_1
 have T2_4 : T2[4]? = some (.int .i64 i) := by rw [hT]; simp only [al_gs, Nat.reduceEqDiff, ↓reduceIte]; exact T1_4
 have T2_28 : T2[28]? = some (.bool true) := by rw [hT]; simp [al_gs, hT1]
 clear hT T1_0 T1_1 T1_4 T1_18 hT1
 refine hJ.ctl (s := ()) (fun w => stepG_region_end) ?_
 refine hJ.ctl (s := ()) (fun w => stepG_cond (t := true) (by simp [Act.eval, al_gd, T2_28])) ?_
 simp only [if_true]
 refine code_eq (J := fun (_ : Unit) => J) (s := ()) wkS_eq ?_
 refine hJ.ctl (s := ()) (fun w => stepG_seq) ?_
 obtain ⟨u9, hu9⟩ : ∃ c, k6c = c := ⟨_, rfl⟩
 have eu9 := hu9
 simp only [stepAt] at hm
 rw [hu9] at hm ⊢
 simp only [wkL, wkB, wkT, wkS, k6c, headC, tailN, Try.f37, al_od] at eu9
 subst eu9
 clear hu9
 refine hJ.ctl (s := ()) (fun w => stepG_region) ?_
 refine at_eval (J := fun (_ : Unit) => J) (s := ()) hJ (by decide) 0 [.iface ti sx] [1] rfl (by simp) (by rfl) ?_ ?_
 · intro τ d
   simp only [evalsO, dstOf, al_gl, al_g0, al_g1, al_ob]
   refine ⟨?_, trivial⟩ <;> (intro o ho; simp only [al_oi] at ho; subst ho)
   all_goals (try simp only [execOp, Act.eval, List.map_toArray, List.map_cons, List.map_nil, al_gd])
   all_goals (try simp only [al_gs, al_gz, hT2, T2_0, T2_1, T2_4, T2_28, Nat.reduceEqDiff, Nat.reduceLT, ↓reduceIte, al_od])
   all_goals (have hlt : ∀ i, i < 67 → i < (T2).size := fun i hi => (by rw [hT2]; exact hi))
   all_goals (clear hT2 T2_0 T2_1 T2_4 T2_28)
   all_goals (try go_simp)
   all_goals (try omega)
 simp only [putv, dstOf, al_gl, al_g0, al_g1, al_ob]
 obtain ⟨T3, hT⟩ : ∃ X, X = (T2).setIfInBounds 29 (.iface ti sx) := ⟨_, rfl⟩
 rw [← hT]
 have hT3 : T3.size = 67 := by rw [hT]; simp [hT2]
 have T3_0 : T3[0]? = some (.pointer (some ⟨wb, 0, none⟩)) := by rw [hT]; simp only [al_gs, Nat.reduceEqDiff, ↓reduceIte]; exact T2_0
 have T3_1 : T3[1]? = some (.iface ti sx) := by rw [hT]; simp only [al_gs, Nat.reduceEqDiff, ↓reduceIte]; exact T2_1
 have T3_4 : T3[4]? = some (.int .i64 i) := by rw [hT]; simp only [al_gs, Nat.reduceEqDiff, ↓reduceIte]; exact T2_4
 have T3_29 : T3[29]? = some (.iface ti sx) := by rw [hT]; simp [al_gs, hT2]
 clear hT T2_0 T2_1 T2_4 T2_28 hT2
 refine at_call (J := fun (_ : Unit) => J) (s := ()) (by decide) hJ (i := 1) (rest := []) rfl rfl (f := 74) (args := #[sx]) (fun τ d => ?_) (fun τ d => ?_) ?_
 · exact hcall _ _ rfl (by simp [Act.eval, al_gd, T3_29]) _
 · exact hev _ _ rfl (by simp [Act.eval, al_gd, T3_29]) _
 exact hm.out _ ⟨hT3, T3_0, T3_1, T3_4⟩
theorem walk_next {Kc : Addr → Option Value} {J : Goroutine → World → Prop} (hJ : JX Try.prog Kc J) {wb : Nat} {iv : Value} {i : Int} {T : Array Value} {w : World} {K : List Item} {cs : List Frame} (hF : FrW wb iv i T) (h0 : 0 ≤ i) (h1 : i < 1000) (hmain : ∀ T', FrW wb iv (i + 1) T' → J (G ((bN 37).at ⟨T', []⟩ K) cs) w) : J (G ((bN 37).at ⟨T, []⟩ (.code k2c :: K)) cs) w := by
 have d1 : IntKind.i64.wrap (i + 1) = i + 1 := IntWalk.i64_in _ (by omega)
 obtain ⟨hsz, f0, f1, f4⟩ := hF
 have hm := Lib.hid hmain
 clear hmain
 obtain ⟨u0, hu0⟩ : ∃ c, k2c = c := ⟨_, rfl⟩
 have eu0 := hu0
 rw [hu0]
 simp only [wkL, wkB, wkT, wkS, k1c, k2c, k3c, k4c, k5c, k6c, k7c, k8c, k9c, headC, tailN, Try.f37, al_od] at eu0
 subst eu0
 clear hu0
 refine hJ.ctl (s := ()) (fun w => stepG_region) ?_
 refine at_eval (J := fun (_ : Unit) => J) (s := ()) hJ (by decide) 0 [.int .i64 i, .int .i64 (i + 1), .int .i64 (i + 1)] [] rfl (by simp) (by rfl) ?_ ?_
 · intro τ d
   simp only [evalsO, dstOf, al_gl, al_g0, al_g1, al_ob]
   refine ⟨?_, ?_, ?_, trivial⟩ <;> (intro o ho; simp only [al_oi] at ho; subst ho)
   all_goals (try simp only [execOp, Act.eval, List.map_toArray, List.map_cons, List.map_nil, al_gd])
   all_goals (try simp only [al_gs, al_gz, hsz, f0, f1, f4, Nat.reduceEqDiff, Nat.reduceLT, ↓reduceIte, al_od])
   all_goals (have hlt : ∀ i, i < 67 → i < (T).size := fun i hi => (by rw [hsz]; exact hi))
   all_goals (clear hsz f0 f1 f4)
   all_goals (try go_simp)
   all_goals (try omega)
 simp only [putv, dstOf, al_gl, al_g0, al_g1, al_ob]
 obtain ⟨T1, hT⟩ : ∃ X, X = (((T).setIfInBounds 11 (.int .i64 i)).setIfInBounds 12 (.int .i64 (i + 1))).setIfInBounds 4 (.int .i64 (i + 1)) := ⟨_, rfl⟩
 rw [← hT]
 have hT1 : T1.size = 67 := by rw [hT]; simp [hsz]
 have T1_0 : T1[0]? = some (.pointer (some ⟨wb, 0, none⟩)) := by rw [hT]; simp only [al_gs, Nat.reduceEqDiff, ↓reduceIte]; exact f0
 have T1_1 : T1[1]? = some (iv) := by rw [hT]; simp only [al_gs, Nat.reduceEqDiff, ↓reduceIte]; exact f1
 have T1_4 : T1[4]? = some (.int .i64 (i + 1)) := by rw [hT]; simp [al_gs, hsz]
 clear hT f0 f1 f4 hsz
 refine hJ.ctl (s := ()) (fun w => stepG_region_end) ?_
 exact hm.out _ ⟨hT1, T1_0, T1_1, T1_4⟩
theorem walk_last {Kc : Addr → Option Value} {J : Goroutine → World → Prop} (hJ : JX Try.prog Kc J) {wb : Nat} {iv : Value} {i : Int} {T : Array Value} {w : World} {cl : Frame} {cs : List Frame} (hF : FrW wb iv i T) {a n x : Int} (ca : w.cell? ⟨wb, 3, none⟩ = some (.int .i64 a)) (cn : w.cell? ⟨wb, 2, none⟩ = some (.int .i64 n)) (cx : w.cell? ⟨wb, 1, none⟩ = some (.int .i64 x)) (ha : a = n) (hx0 : 0 ≤ x) (hx1 : x < 64)
 (hmain : ∀ sg, J (G (cl.raise [beyP x sg]) cs) w) : J (G ((bN 37).at ⟨T, []⟩ [.code wkT]) (cl :: cs)) w := by
 have d0 : decide (a = n) = true := by simpa using ha
 obtain ⟨hsz, f0, f1, f4⟩ := hF
 have hm := Lib.hid hmain
 clear hmain
 refine code_eq (J := fun (_ : Unit) => J) (s := ()) wkT_eq ?_
 obtain ⟨u0, hu0⟩ : ∃ c, k8c = c := ⟨_, rfl⟩
 have eu0 := hu0
 rw [hu0]
 simp only [wkL, wkB, wkT, wkS, k1c, k2c, k3c, k4c, k5c, k6c, k7c, k8c, k9c, headC, tailN, Try.f37, al_od] at eu0
 subst eu0
 clear hu0
 obtain ⟨u1, hu1⟩ : ∃ c, k9c = c := ⟨_, rfl⟩
 have eu1 := hu1
 rw [hu1]
 simp only [wkL, wkB, wkT, wkS, k1c, k2c, k3c, k4c, k5c, k6c, k7c, k8c, k9c, headC, tailN, Try.f37, al_od] at eu1
 subst eu1
 clear hu1
 refine hJ.ctl (s := ()) (fun w => stepG_seq) ?_
 refine at_evalGd (J := fun (_ : Unit) => J) (s := ()) hJ (by decide) (by rfl) [some (.pointer (some ⟨wb, 0, none⟩)), some (.pointer (some ⟨wb, 0, none⟩)), some (.pointer (some ⟨wb, 3, none⟩)), some (.int .i64 a), some (.pointer (some ⟨wb, 0, none⟩)), some (.pointer (some ⟨wb, 0, none⟩)), some (.pointer (some ⟨wb, 2, none⟩)), some (.int .i64 n), some (.bool true)] (by rfl) (by rw [hsz]; kernel_rfl) ?_ ?_
 · intro τ d
   simp only [evalsG, dstOf, al_gl, al_g0, al_g1, al_ob]
   refine ⟨?_, ?_, ?_, ?_, ?_, ?_, ?_, ?_, ?_, trivial⟩ <;> (intro o ho; simp only [al_oi] at ho; subst ho)
   all_goals (first | refine ⟨by simp [Region.wanted, yielded, al_gs, hsz, f0, f1, f4], ?_⟩ | (simp [Region.wanted, yielded, al_gs, hsz, f0, f1, f4]; done))
   all_goals (try simp only [execOp, Act.eval, List.map_toArray, List.map_cons, List.map_nil, al_gd])
   all_goals (try simp only [al_gs, al_gz, hsz, f0, f1, f4, Nat.reduceEqDiff, Nat.reduceLT, ↓reduceIte, al_od])
   all_goals (have hlt : ∀ i, i < 67 → i < (T).size := fun i hi => (by rw [hsz]; exact hi))
   all_goals (clear hsz f0 f1 f4)
   all_goals (try go_simp)
   all_goals (try omega)
 simp only [putG, dstOf, al_gl, al_g0, al_g1, al_ob, al_od, Option.getD_none]
 obtain ⟨T1, hT⟩ : ∃ X, X = (((((((((T).setIfInBounds 50 (.pointer (some ⟨wb, 0, none⟩))).setIfInBounds 51 (.pointer (some ⟨wb, 0, none⟩))).setIfInBounds 52 (.pointer (some ⟨wb, 3, none⟩))).setIfInBounds 53 (.int .i64 a)).setIfInBounds 54 (.pointer (some ⟨wb, 0, none⟩))).setIfInBounds 55 (.pointer (some ⟨wb, 0, none⟩))).setIfInBounds 56 (.pointer (some ⟨wb, 2, none⟩))).setIfInBounds 57 (.int .i64 n)).setIfInBounds 58 (.bool true) := ⟨_, rfl⟩
 rw [← hT]
 have hT1 : T1.size = 67 := by rw [hT]; simp [hsz]
 have T1_0 : T1[0]? = some (.pointer (some ⟨wb, 0, none⟩)) := by rw [hT]; simp only [al_gs, Nat.reduceEqDiff, ↓reduceIte]; exact f0
 have T1_1 : T1[1]? = some (iv) := by rw [hT]; simp only [al_gs, Nat.reduceEqDiff, ↓reduceIte]; exact f1
 have T1_4 : T1[4]? = some (.int .i64 i) := by rw [hT]; simp only [al_gs, Nat.reduceEqDiff, ↓reduceIte]; exact f4
 have T1_58 : T1[58]? = some (.bool true) := by rw [hT]; simp [al_gs, hsz]
 clear hT f0 f1 f4 hsz
 refine hJ.ctl (s := ()) (fun w => stepG_region_end) ?_
 refine hJ.ctl (s := ()) (fun w => stepG_cond (t := true) (by simp [Act.eval, al_gd, T1_58])) ?_
 simp only [if_true]
 refine hJ.ctl (s := ()) (fun w => stepG_region) ?_
 refine at_eval (J := fun (_ : Unit) => J) (s := ()) hJ (by decide) 0 [.pointer (some ⟨wb, 0, none⟩), .pointer (some ⟨wb, 0, none⟩), .pointer (some ⟨wb, 0, none⟩), .pointer (some ⟨wb, 1, none⟩), .int .i64 x] [5, 6, 7, 8] rfl (by simp) (by rfl) ?_ ?_
 · intro τ d
   simp only [evalsO, dstOf, al_gl, al_g0, al_g1, al_ob]
   refine ⟨?_, ?_, ?_, ?_, ?_, trivial⟩ <;> (intro o ho; simp only [al_oi] at ho; subst ho)
   all_goals (try simp only [execOp, Act.eval, List.map_toArray, List.map_cons, List.map_nil, al_gd])
   all_goals (try simp only [al_gs, al_gz, hT1, T1_0, T1_1, T1_4, T1_58, Nat.reduceEqDiff, Nat.reduceLT, ↓reduceIte, al_od])
   all_goals (have hlt : ∀ i, i < 67 → i < (T1).size := fun i hi => (by rw [hT1]; exact hi))
   all_goals (clear hT1 T1_0 T1_1 T1_4 T1_58)
   all_goals (try go_simp)
   all_goals (try omega)
 simp only [putv, dstOf, al_gl, al_g0, al_g1, al_ob]
 obtain ⟨T2, hT⟩ : ∃ X, X = (((((T1).setIfInBounds 59 (.pointer (some ⟨wb, 0, none⟩))).setIfInBounds 60 (.pointer (some ⟨wb, 0, none⟩))).setIfInBounds 61 (.pointer (some ⟨wb, 0, none⟩))).setIfInBounds 62 (.pointer (some ⟨wb, 1, none⟩))).setIfInBounds 63 (.int .i64 x) := ⟨_, rfl⟩
 rw [← hT]
 have hT2 : T2.size = 67 := by rw [hT]; simp [hT1]
 have T2_0 : T2[0]? = some (.pointer (some ⟨wb, 0, none⟩)) := by rw [hT]; simp only [al_gs, Nat.reduceEqDiff, ↓reduceIte]; exact T1_0
 have T2_1 : T2[1]? = some (iv) := by rw [hT]; simp only [al_gs, Nat.reduceEqDiff, ↓reduceIte]; exact T1_1
 have T2_4 : T2[4]? = some (.int .i64 i) := by rw [hT]; simp only [al_gs, Nat.reduceEqDiff, ↓reduceIte]; exact T1_4
 have T2_59 : T2[59]? = some (.pointer (some ⟨wb, 0, none⟩)) := by rw [hT]; simp [al_gs, hT1]
 have T2_63 : T2[63]? = some (.int .i64 x) := by rw [hT]; simp [al_gs, hT1]
 clear hT T1_0 T1_1 T1_4 T1_58 hT1
 refine at_call (J := fun (_ : Unit) => J) (s := ()) (by decide) hJ (i := 5) rfl rfl (f := 47) (args := #[.int .i64 x]) (fun τ d => ?_) (fun τ d => ?_) ?_
 · simp [go_sem, execOp, Act.eval, resolve, Deferred.ofValue, invoke, callFunc, Try.func47, Try.f47, al_gd, T2_63]
 · intro e he
   simp [go_sem, execOp, Act.eval, resolve, Deferred.ofValue, invoke, callFunc, Try.func47, Try.f47, Sem.runT_eq, al_gd, T2_63] at he
 refine beyond_raise hJ hx0 hx1 (fun sg => ?_)
 rw [Frame.raise_at]
 exact raiseJ (s := ()) hJ (b := (bN 37)) rfl Try.func37 (hm.out sg)
theorem walk_end {Kc : Addr → Option Value} {J : Goroutine → World → Prop} (hJ : JX Try.prog Kc J) {wb : Nat} {iv : Value} {i : Int} {T : Array Value} {w : World} {cl : Frame} {cs : List Frame} (hF : FrW wb iv i T) {a n x : Int} (ca : w.cell? ⟨wb, 3, none⟩ = some (.int .i64 a)) (cn : w.cell? ⟨wb, 2, none⟩ = some (.int .i64 n)) (cx : w.cell? ⟨wb, 1, none⟩ = some (.int .i64 x)) (ha : ¬ a = n)
 (hmain : J (G (cl.finish (.tuple #[])) cs) w) : J (G ((bN 37).at ⟨T, []⟩ [.code wkT]) (cl :: cs)) w := by
 have d0 : decide (a = n) = false := by simpa using ha
 obtain ⟨hsz, f0, f1, f4⟩ := hF
 have hm := Lib.hid hmain
 clear hmain
 refine code_eq (J := fun (_ : Unit) => J) (s := ()) wkT_eq ?_
 obtain ⟨u0, hu0⟩ : ∃ c, k8c = c := ⟨_, rfl⟩
 have eu0 := hu0
 rw [hu0]
 simp only [wkL, wkB, wkT, wkS, k1c, k2c, k3c, k4c, k5c, k6c, k7c, k8c, k9c, headC, tailN, Try.f37, al_od] at eu0
 subst eu0
 clear hu0
 refine hJ.ctl (s := ()) (fun w => stepG_seq) ?_
 refine at_evalGd (J := fun (_ : Unit) => J) (s := ()) hJ (by decide) (by rfl) [some (.pointer (some ⟨wb, 0, none⟩)), some (.pointer (some ⟨wb, 0, none⟩)), some (.pointer (some ⟨wb, 3, none⟩)), some (.int .i64 a), some (.pointer (some ⟨wb, 0, none⟩)), some (.pointer (some ⟨wb, 0, none⟩)), some (.pointer (some ⟨wb, 2, none⟩)), some (.int .i64 n), some (.bool false)] (by rfl) (by rw [hsz]; kernel_rfl) ?_ ?_
 · intro τ d
   simp only [evalsG, dstOf, al_gl, al_g0, al_g1, al_ob]
   refine ⟨?_, ?_, ?_, ?_, ?_, ?_, ?_, ?_, ?_, trivial⟩ <;> (intro o ho; simp only [al_oi] at ho; subst ho)
   all_goals (first | refine ⟨by simp [Region.wanted, yielded, al_gs, hsz, f0, f1, f4], ?_⟩ | (simp [Region.wanted, yielded, al_gs, hsz, f0, f1, f4]; done))
   all_goals (try simp only [execOp, Act.eval, List.map_toArray, List.map_cons, List.map_nil, al_gd])
   all_goals (try simp only [al_gs, al_gz, hsz, f0, f1, f4, Nat.reduceEqDiff, Nat.reduceLT, ↓reduceIte, al_od])
   all_goals (have hlt : ∀ i, i < 67 → i < (T).size := fun i hi => (by rw [hsz]; exact hi))
   all_goals (clear hsz f0 f1 f4)
   all_goals (try go_simp)
   all_goals (try omega)
 simp only [putG, dstOf, al_gl, al_g0, al_g1, al_ob, al_od, Option.getD_none]
 obtain ⟨T1, hT⟩ : ∃ X, X = (((((((((T).setIfInBounds 50 (.pointer (some ⟨wb, 0, none⟩))).setIfInBounds 51 (.pointer (some ⟨wb, 0, none⟩))).setIfInBounds 52 (.pointer (some ⟨wb, 3, none⟩))).setIfInBounds 53 (.int .i64 a)).setIfInBounds 54 (.pointer (some ⟨wb, 0, none⟩))).setIfInBounds 55 (.pointer (some ⟨wb, 0, none⟩))).setIfInBounds 56 (.pointer (some ⟨wb, 2, none⟩))).setIfInBounds 57 (.int .i64 n)).setIfInBounds 58 (.bool false) := ⟨_, rfl⟩
 rw [← hT]
 have hT1 : T1.size = 67 := by rw [hT]; simp [hsz]
 have T1_0 : T1[0]? = some (.pointer (some ⟨wb, 0, none⟩)) := by rw [hT]; simp only [al_gs, Nat.reduceEqDiff, ↓reduceIte]; exact f0
 have T1_1 : T1[1]? = some (iv) := by rw [hT]; simp only [al_gs, Nat.reduceEqDiff, ↓reduceIte]; exact f1
 have T1_4 : T1[4]? = some (.int .i64 i) := by rw [hT]; simp only [al_gs, Nat.reduceEqDiff, ↓reduceIte]; exact f4
 have T1_58 : T1[58]? = some (.bool false) := by rw [hT]; simp [al_gs, hsz]
 clear hT f0 f1 f4 hsz
 refine hJ.ctl (s := ()) (fun w => stepG_region_end) ?_
 refine hJ.ctl (s := ()) (fun w => stepG_cond (t := false) (by simp [Act.eval, al_gd, T1_58])) ?_
 simp only [Bool.false_eq_true, if_false]
 refine hJ.ctl (s := ()) (fun w => stepG_skip) ?_
 refine hJ.ctl (s := ()) (fun w => stepG_end) ?_
 refine leaveJ (s := ()) hJ (b := bN 37) rfl rfl Try.func37 (fun τ d => ?_) hm.out
 simp only [results, Try.f37]
 simp [go_sem]
structure PutP (wb bB base : Nat) (iv : Value) (p : Int) (bv : Value) (bd : List Int) (T : Array Value) (w w' : World) : Prop where
 fr : FrW wb iv p T
 put : ∃ v, w'.heap[bB]? = some (.cells #[v] 43) ∧ w'.ownsRow base 3 1 v bd.length (intL bd) ∧ (v.ownBlock = bv.ownBlock ∨ ∃ g, v.ownBlock = some g ∧ w.heap.size ≤ g)
 size : w.heap.size ≤ w'.heap.size
 old : ∀ b, b < w.heap.size → b ≠ bB → bv.ownBlock ≠ some b → w'.heap[b]? = w.heap[b]?
theorem put_lone {wb bB base : Nat} {iv : Value} {p : Int} {x : Int} {c2 c3 bv : Value} {bd : List Int} {T : Array Value} {w : World} {Q : Exit → Act → World → Prop} (hF : FrW wb iv p T) (hbd : w.heap[bB]? = some (.cells #[bv] 43)) (hown : w.ownsRow base 3 1 bv bd.length (intL bd)) (hwb : w.heap[wb]? = some (.cells #[.pointer (some ⟨bB, 0, none⟩), .int .i64 x, c2, c3] 105))
 (hlen : bd.length < 8589934592) (hlo : base ≤ bB) (hQ : ∀ T' w', PutP wb bB base iv p bv (bd ++ [x]) T' w w' → Q .normal ⟨T', []⟩ w') : Code.wp Try.prog k7c Q ⟨T, []⟩ w := by
 obtain ⟨hsz, f0, f1, f4⟩ := hF
 have hm := Lib.hid hQ
 clear hQ
 obtain ⟨u0, hu0⟩ : ∃ c, k7c = c := ⟨_, rfl⟩
 have eu0 := hu0
 rw [hu0]
 simp only [wkL, wkB, wkT, wkS, k7c, headC, tailN, Try.f37, al_od] at eu0
 subst eu0
 clear hu0
 obtain ⟨H, hH⟩ : ∃ H, w.heap.size = H := ⟨_, rfl⟩
 obtain ⟨ti, hti, hz0, hz1, hz2⟩ : ∃ ti, Try.prog.info? 3 = some ti ∧ ti.zero = some (.int .i64 0) ∧ ti.size = 1 ∧ ti.bytes = 8 := ⟨_, rfl, rfl, rfl, rfl⟩
 have hbH : bB < H := hH ▸ zq4 hbd
 have hwH : wb < H := hH ▸ zq4 hwb
 have ne1 : bv.ownBlock ≠ some bB := own_ne hown hbd (by decide)
 have ne2 : bv.ownBlock ≠ some wb := own_ne hown hwb (by decide)
 have hold : ∀ g, bv.ownBlock = some g → g < H := fun g hg => by
  rcases hown.2 with ⟨hv, _⟩ | ⟨g2, cap, cur, hv, _, hh, _⟩
  · rw [hv] at hg; cases hg
  · rw [hv] at hg; simp only [Value.ownBlock, al_oi] at hg; subst hg; exact hH ▸ zq4 hh
 have hal : ∀ b, b < H → ((w.drewN 1).alloc (.cells #[.int .i64 x] 3)).heap[b]? = w.heap[b]? := fun b hb => by rw [zqc, if_neg (by show b ≠ w.heap.size; omega)]; rfl
 have hrow : ((w.drewN 1).alloc (.cells #[.int .i64 x] 3)).ownsRow base 3 1 bv bd.length (intL bd) := ownsRow_of hown fun g hg => hal g (hold g hg)
 have hn4 := al_new (w.drewN 1) (.cells #[.int .i64 x] 3)
 obtain ⟨g, cap, w5, hrun, hown5, hgrow, hat, hlt5⟩ := run_append_lies (P := Try.prog) ((w.drewN 1).alloc (.cells #[.int .i64 x] 3)) 24 24 base 3 ti (.int .i64 0) 1 8 (by kernel_rfl) hti hz0 hz1 hz2 (by rfl) (by decide) bv bd.length (intL bd) hrow ⟨H, 0, none⟩ 1 1 [.int .i64 x] rfl (World.news_of_block (by rw [← hH]; exact hn4)) (by simp [Value.oneCell']) (by decide) (by simp only [maxLen]; omega) (by omega) (by rw [zq8]; show base ≤ w.heap.size + 1; omega) _ rfl
 have hb5 : ∀ b, b < H → bv.ownBlock ≠ some b → w5.heap[b]? = w.heap[b]? := fun b hb hne => (hgrow.block b (by rw [zq8]; show b < w.heap.size + 1; omega) (fun e => hne e.symm)).trans (hal b hb)
 have h5b := hb5 bB hbH ne1
 have h5w := hb5 wb hwH ne2
 have k0 : w.cell? ⟨wb, 0, none⟩ = some (.pointer (some ⟨bB, 0, none⟩)) := (zq1 hwb).trans rfl
 have k1 : w.cell? ⟨wb, 1, none⟩ = some (.int .i64 x) := (zq1 hwb).trans rfl
 have k2 : w.cell? ⟨bB, 0, none⟩ = some bv := (zq1 hbd).trans rfl
 have hct : ∀ W, W = w.drewN 1 ∨ W = (w.drewN 1).alloc (.cells #[.int .i64 x] 3) ∨ W = w5 → ∀ b, b = wb ∨ b = bB → ∀ o v, w.cell? ⟨b, o, none⟩ = some v → W.cell? ⟨b, o, none⟩ = some v := by
  rintro W (rfl | rfl | rfl) b hbb o v hv
  · exact hv
  · exact (zqe (hal b (by rcases hbb with e | e <;> rw [e] <;> assumption))).trans hv
  · rcases hbb with rfl | rfl
    · exact (zqe h5w).trans hv
    · exact (zqe h5b).trans hv
 refine wp_region_two (k := 17) (s := 15) (t := 16) (W0 := w.drewN 1) (W1 := (w.drewN 1).alloc (.cells #[.int .i64 x] 3)) (W2 := w5) (by kernel_rfl) (by kernel_rfl) (by kernel_rfl) (by rw [hsz]; kernel_rfl) (by decide) (by decide) (by decide) (by kernel_rfl)
  [.pointer (some ⟨wb, 0, none⟩), .pointer (some ⟨wb, 0, none⟩), .pointer (some ⟨wb, 0, none⟩), .pointer (some ⟨bB, 0, none⟩), .pointer (some ⟨wb, 0, none⟩), .pointer (some ⟨wb, 0, none⟩), .pointer (some ⟨wb, 0, none⟩), .pointer (some ⟨bB, 0, none⟩), .pointer (some ⟨bB, 0, none⟩), .pointer (some ⟨bB, 0, none⟩), bv, .pointer (some ⟨wb, 0, none⟩), .pointer (some ⟨wb, 0, none⟩), .pointer (some ⟨wb, 1, none⟩), .int .i64 x, .slice (some ⟨H, 0, none⟩) 1 1, .slice (some ⟨g, 0, none⟩) (bd.length + 1) cap] rfl rfl ?_ ?_ ?_ ?_
 · intro i o hi his hit ho W hWW
   replace k0 := hct W hWW wb (.inl rfl) _ _ k0
   replace k1 := hct W hWW wb (.inl rfl) _ _ k1
   replace k2 := hct W hWW bB (.inr rfl) _ _ k2
   clear hWW hct hrun hown5 hgrow hat hlt5 hrow hn4 hbd hown hwb hb5 h5b h5w hal hold hti hz0 hz1 hz2
   simp only [putv, dstOf, al_gl, al_g0, al_g1, al_ob]
   obtain rfl | rfl | rfl | rfl | rfl | rfl | rfl | rfl | rfl | rfl | rfl | rfl | rfl | rfl | rfl : i = 0 ∨ i = 1 ∨ i = 2 ∨ i = 3 ∨ i = 4 ∨ i = 5 ∨ i = 6 ∨ i = 7 ∨ i = 8 ∨ i = 9 ∨ i = 10 ∨ i = 11 ∨ i = 12 ∨ i = 13 ∨ i = 14 := by omega
   all_goals (simp only [al_gl, al_g0, al_g1, al_oi] at ho; subst ho; refine .inl ?_)
   all_goals (simp only [execOp, Act.eval, al_gd])
   all_goals (try simp only [al_gs, al_gz, hsz, f0, Nat.reduceEqDiff, Nat.reduceLT, ↓reduceIte, al_od])
   all_goals (clear hsz f0 f1 f4)
   all_goals (try go_simp)
 · intro o ho
   clear hct hrun hown5 hgrow hat hlt5 hrow hn4 hbd hown hwb hb5 h5b h5w hal hold hti hz0 hz1 hz2 k0 k1 k2
   simp only [putv, dstOf, al_gl, al_g0, al_g1, al_ob]
   simp only [al_gl, al_g0, al_g1, al_oi] at ho; subst ho; refine .inl ?_
   simp only [execOp, Act.eval, al_gd, List.map_toArray, List.map_cons, List.map_nil]
   try simp only [al_gs, al_gz, hsz, f0, Nat.reduceEqDiff, Nat.reduceLT, ↓reduceIte, al_od]
   clear hsz f0 f1 f4
   subst hH
   go_simp
 · intro o ho
   simp only [putv, dstOf, al_gl, al_g0, al_g1, al_ob]
   simp only [al_gl, al_g0, al_g1, al_oi] at ho; subst ho; refine .inl ?_
   unfold execOp
   simp only [resolve, invoke, builtin, Sem.run_bind, Sem.run_pure, Result.andThen_ok, List.map_toArray, List.map_cons, List.map_nil, Act.eval, al_gd, al_gs, al_gz, hsz, f0, Nat.reduceEqDiff, Nat.reduceLT, ↓reduceIte, al_od, hrun]
   rfl
 simp only [putv, dstOf, al_gl, al_g0, al_g1, al_ob]
 obtain ⟨T1, hT1⟩ : ∃ X, X = (((((((((((((((((T.setIfInBounds 31 (.pointer (some ⟨wb, 0, none⟩))).setIfInBounds 32 (.pointer (some ⟨wb, 0, none⟩))).setIfInBounds 33 (.pointer (some ⟨wb, 0, none⟩))).setIfInBounds 34 (.pointer (some ⟨bB, 0, none⟩))).setIfInBounds 35 (.pointer (some ⟨wb, 0, none⟩))).setIfInBounds 36 (.pointer (some ⟨wb, 0, none⟩))).setIfInBounds 37 (.pointer (some ⟨wb, 0, none⟩))).setIfInBounds 38 (.pointer (some ⟨bB, 0, none⟩))).setIfInBounds 39 (.pointer (some ⟨bB, 0, none⟩))).setIfInBounds 40 (.pointer (some ⟨bB, 0, none⟩))).setIfInBounds 41 bv).setIfInBounds 42 (.pointer (some ⟨wb, 0, none⟩))).setIfInBounds 43 (.pointer (some ⟨wb, 0, none⟩))).setIfInBounds 44 (.pointer (some ⟨wb, 1, none⟩))).setIfInBounds 45 (.int .i64 x)).setIfInBounds 46 (.slice (some ⟨H, 0, none⟩) 1 1)).setIfInBounds 47 (.slice (some ⟨g, 0, none⟩) (bd.length + 1) cap)) := ⟨_, rfl⟩
 rw [← hT1]
 have s1 : T1.size = 67 := by rw [hT1]; simp [hsz]
 have q0 : T1[0]? = some (.pointer (some ⟨wb, 0, none⟩)) := by rw [hT1]; simp only [al_gs, Nat.reduceEqDiff, ↓reduceIte]; exact f0
 have q1 : T1[1]? = some iv := by rw [hT1]; simp only [al_gs, Nat.reduceEqDiff, ↓reduceIte]; exact f1
 have q4 : T1[4]? = some (.int .i64 p) := by rw [hT1]; simp only [al_gs, Nat.reduceEqDiff, ↓reduceIte]; exact f4
 have q34 : T1[34]? = some (.pointer (some ⟨bB, 0, none⟩)) := by rw [hT1]; simp [al_gs, hsz]
 have q47 : T1[47]? = some (.slice (some ⟨g, 0, none⟩) (bd.length + 1) cap) := by rw [hT1]; simp [al_gs, hsz]
 have k5 : w5.cell? ⟨bB, 0, none⟩ = some bv := (zqe h5b).trans k2
 have z5 : w5.frozen? ⟨bB, 0, none⟩ = false := hp_frozen (h5b.trans hbd)
 clear hT1 hsz f0 f1 f4 hrow hn4 hti hz0 hz1 hz2 hct hrun k0 k1 k2
 refine wpAny_one (i := 17) (by kernel_rfl) ?_
 simp only [wpOp, al_gl, al_g0, al_g1]
 rw [if_pos (by rfl)]
 refine .inl (wp_of_yields (a' := ⟨T1, []⟩) (v := .pointer (some ⟨bB, 0, none⟩)) (W' := w5) rfl (.inl ?_) ?_)
 · simp only [execOp, Act.eval, al_gd, q34, al_od]
   clear s1 q0 q1 q4 q34 q47
   go_simp
 refine wpAny_one (i := 18) (by kernel_rfl) ?_
 simp only [wpOp, al_gl, al_g0, al_g1]
 rw [if_pos (by rfl)]
 simp only [Act.put]
 have q48 : (T1.setIfInBounds 48 (.pointer (some ⟨bB, 0, none⟩)))[48]? = some (.pointer (some ⟨bB, 0, none⟩)) := by simp [s1]
 refine .inl (wp_of_yields (a' := ⟨T1.setIfInBounds 48 (.pointer (some ⟨bB, 0, none⟩)), []⟩) (v := .pointer (some ⟨bB, 0, none⟩)) (W' := w5) rfl (.inl ?_) ?_)
 · simp only [execOp, Act.eval, al_gd, q48, al_od]
   clear s1 q0 q1 q4 q34 q47 q48
   go_simp
 refine wpAny_one (i := 19) (by kernel_rfl) ?_
 simp only [wpOp, al_gl, al_g0, al_g1]
 rw [if_pos (by rfl)]
 simp only [Act.put]
 obtain ⟨T2, hT2⟩ : ∃ X, X = (T1.setIfInBounds 48 (.pointer (some ⟨bB, 0, none⟩))).setIfInBounds 49 (.pointer (some ⟨bB, 0, none⟩)) := ⟨_, rfl⟩
 rw [← hT2]
 have r47 : T2[47]? = some (.slice (some ⟨g, 0, none⟩) (bd.length + 1) cap) := by rw [hT2]; simp only [al_gs, Nat.reduceEqDiff, ↓reduceIte]; exact q47
 have r49 : T2[49]? = some (.pointer (some ⟨bB, 0, none⟩)) := by rw [hT2]; simp [s1]
 have hF2 : FrW wb iv p T2 := by
  refine ⟨by rw [hT2]; simp [s1], ?_, ?_, ?_⟩ <;> (rw [hT2]; simp only [al_gs, Nat.reduceEqDiff, ↓reduceIte]; assumption)
 clear hT2 q34 q47 q48 q0 q1 q4 s1
 refine .inl ?_
 unfold Oper.wp
 have hst : ∀ (o : Oper), o.op = .store 24 (.tmp 49) (.tmp 47) → (execOp (Act.mk T2 []).eval o).run Try.prog w5 = .ok .skip (w5.setCell ⟨bB, 0, none⟩ (.slice (some ⟨g, 0, none⟩) (bd.length + 1) cap)) := by
  intro o ho
  have e1 : (Act.mk T2 []).eval (.tmp 49) = .pointer (some ⟨bB, 0, none⟩) := by simp [Act.eval, r49]
  have e2 : (Act.mk T2 []).eval (.tmp 47) = .slice (some ⟨g, 0, none⟩) (bd.length + 1) cap := by simp [Act.eval, r47]
  simp only [execOp, ho, e1, e2]
  clear e1 e2 r47 r49
  go_simp
 rw [hst _ rfl]
 refine wpAny_end (P := Try.prog) (by kernel_rfl) ?_
 have hg5 : g ≠ bB := fun e => by
  rcases hat with hat | hat
  · rw [e] at hat; exact ne1 hat
  · rw [zq8] at hat; have : (w.drewN 1).heap.size = H := hH; omega
 refine hm.out T2 _ ⟨hF2, ⟨_, (zqf _ _ _ _ (h5b.trans hbd)).trans rfl, ?_, ?_⟩, ?_, fun b hb hne1 hne2 => ?_⟩
 · rw [List.length_append]
   have : intL (bd ++ [x]) = intL bd ++ [.int .i64 x] := by simp [intL]
   rw [this]
   refine ownsRow_of hown5 fun g' hg' => ?_
   simp only [Value.ownBlock, al_oi] at hg'
   subst hg'
   exact zqa _ _ _ _ hg5
 · rcases hat with hat | hat
   · exact .inl (by rw [hat]; rfl)
   · refine .inr ⟨g, rfl, ?_⟩
     rw [hat, zq8]
     show w.heap.size ≤ w.heap.size + 1
     omega
 · rw [hp_size_set]
   have := hgrow.size
   rw [zq8] at this
   exact Nat.le_trans (Nat.le_succ _) this
 · rw [zqa _ _ _ _ hne1]
   exact hb5 b (hH ▸ hb) hne2
theorem WS.Body.on {S : WS} {m : WM} {w w' : World} (h : S.Body m w) {i : Nat} {v : Value} (hbd : w'.heap[S.bB]? = some (.cells #[v] 43)) (hown : w'.ownsRow S.base 3 1 v (m.bd ++ [(i : Int)]).length (intL (m.bd ++ [(i : Int)]))) (hv : v.ownBlock = m.bv.ownBlock ∨ ∃ g, v.ownBlock = some g ∧ w.heap.size ≤ g)
 (hs : w.heap.size ≤ w'.heap.size) (ho : ∀ b, b < w.heap.size → b ≠ S.bB → m.bv.ownBlock ≠ some b → w'.heap[b]? = w.heap[b]?) : S.Body (m.on i v) w' ∧ Grow S.thr m w (m.on i v) w' := by
 refine ⟨⟨hbd, hown, fun j b hj hb => ?_, h.lo⟩, hs, fun b hb hf => ?_, fun b hb => ?_⟩
 · have hw := h.walker j b hj hb
   rw [ho b (zq4 hw) (fun e => by subst e; exact absurd (heap_type hw h.board) (by decide)) (own_ne h.own hw (by decide))]
   exact hw
 · exact ho b hb (fun e => hf (.inl e)) (fun e => hf (.inr (.inl e)))
 · rcases hb with e | e | e
   · exact .inl (.inl e)
   · rcases hv with h1 | ⟨g, h1, h2⟩
     · exact .inl (.inr (.inl (by rw [← h1]; exact e)))
     · rw [show (m.on i v).bv = v from rfl, h1] at e
       cases e
       exact .inr h2
   · exact .inl (.inr (.inr e))
section
variable {S : WS} {m : WM} {w : World} {Kc : Addr → Option Value} {X : Snap} {J : Goroutine → World → Prop} {i : Nat}
theorem walk_put (hE : Env Try.prog S.thr Kc X J m w) (hB : S.Body m w) (hi : i < S.N) {b : Nat} (hb : S.wb i = some b) (hlen : m.bd.length < 8589934592) {p : Int} {iv : Value} {T : Array Value} {K : List Item} {cs : List Frame} (hF : FrW b iv p T)
 (h : ∀ T' v w', FrW b iv p T' → S.Body (m.on i v) w' → Grow S.thr m w (m.on i v) w' → J (G ((bN 37).at ⟨T', []⟩ K) cs) w') : J (G ((bN 37).at ⟨T, []⟩ (.code k7c :: K)) cs) w := by
 have hX : ∀ b, S.foot m b → X b = none := fun b hb => by
  cases hx : X b with
  | none => rfl
  | some p => exact absurd hb (hE.free b p hx)
 have hfb : S.foot m S.bB := .inl rfl
 have hfw : S.foot m b := .inr (.inr ⟨i, hi, hb⟩)
 refine wpJ_away (J := fun (_ : Unit) => J) (s := ()) (Q := fun _ e a' w' => e = .normal ∧ a'.defers = [] ∧ ∃ v, FrW b iv p a'.tmps ∧ S.Body (m.on i v) w' ∧ Grow S.thr m w (m.on i v) w') hE.js hE.calm plainM rowsM (by kernel_rfl)
  (fun a wc' => ∃ wc, (∃ τ d, Cut X (re w τ d) wc) ∧ PutP b S.bB S.base iv p m.bv (m.bd ++ [(i : Int)]) a.tmps wc wc') (fun _ _ => False) ?_ (fun _ _ _ _ h => h) hE.rows ?_ ?_ (fun _ _ _ h => h.elim) (bN 37) K cs (by decide) ?_
 · rintro a wc' τ d ⟨wc, h1, h2⟩
   exact ⟨wc, h1, h2.fr, h2.put, h2.size, h2.old⟩
 · rintro wc ⟨τ, d, hcut⟩
   refine put_lone hF ((hcut.no _ (hX _ hfb)).trans hB.board) (ownsRow_of hB.own fun g hg => hcut.no _ (hX _ (.inr (.inl hg)))) ((hcut.no _ (hX _ hfw)).trans (hB.walker i b hi hb)) hlen hB.lo fun T' w' hP => ?_
   exact ⟨rfl, wc, ⟨τ, d, hcut⟩, hP⟩
 · rintro T' wc' w' ⟨wc, ⟨τ, d, hcut⟩, hP⟩ hcut' hch
   obtain ⟨v, h1, h2, h3⟩ := hP.put
   have hs1 : wc.heap.size = w.heap.size := hcut.size
   have hXn : ∀ b, S.foot (m.on i v) b → X b = none := fun b' hb' => by
    cases hx : X b' with
    | none => rfl
    | some q =>
     have hlt : b' < w.heap.size := by obtain ⟨c, e⟩ := q; exact zq4 (hE.rows _ _ _ hx)
     rcases hb' with e | e | e
     · exact absurd (.inl e) (hE.free b' q hx)
     · rcases h3 with h4 | ⟨g, h4, h5⟩
       · exact absurd (.inr (.inl (by rw [← h4]; exact e))) (hE.free b' q hx)
       · rw [show (m.on i v).bv = v from rfl, h4] at e
         cases e
         omega
     · exact absurd (.inr (.inr e)) (hE.free b' q hx)
   have hs2 := hP.size
   have hs3 : wc'.heap.size = w'.heap.size := hcut'.size
   obtain ⟨k1, k2⟩ := hB.on (i := i) (v := v) ((hcut'.no _ (hXn _ (.inl rfl))).symm.trans h1) (ownsRow_of h2 fun g hg => (hcut'.no _ (hXn _ (.inr (.inl hg)))).symm) (by rw [← hs1]; exact h3) (by omega) (fun b' hb' e1 e2 => cut_block hcut hcut' (hP.old b' (by omega) e1 e2))
   exact ⟨rfl, rfl, v, hP.fr, k1, k2⟩
 · rintro s' e ⟨t, ds⟩ w' ⟨rfl, hd, v, h1, h2, h3⟩
   simp only at hd
   subst hd
   exact h t v w' h1 h2 h3
end
theorem walker_enter (st : Nat) (o : Oper) (a : Act) (ho : o.op = .call { callee := .invoke (.tmp 29) "Step", args := #[], argTypes := #[] }) (ha : a.eval (.tmp 29) = .iface 96 (.pointer (some ⟨st, 0, none⟩))) (w : World) : (execOp a.eval o).run Try.prog w = .ok (.enter 74 #[.pointer (some ⟨st, 0, none⟩)]) w := by
 unfold execOp
 simp only [ho, resolve, ha]
 simp [go_sem, invoke, callFunc, meth_step, Try.func74, Try.f74]
theorem walker_events (st : Nat) (o : Oper) (a : Act) (ho : o.op = .call { callee := .invoke (.tmp 29) "Step", args := #[], argTypes := #[] }) (ha : a.eval (.tmp 29) = .iface 96 (.pointer (some ⟨st, 0, none⟩))) (w : World) : ((execOp a.eval o).runT Try.prog w #[]).2 = #[] := by
 unfold execOp
 simp only [ho, resolve, ha]
 simp [go_sem, invoke, callFunc, meth_step, Try.func74, Try.f74, Sem.runT_eq, meth_events]
theorem beyP_end (x : Int) (sg : Bool) : NEnd [beyP x sg] := ⟨_, rfl, fun w => by kernel_rfl⟩
noncomputable def wkK : List Item := [.inLoop wkL, .inBlock 0, .code wkT]
section
variable {Kc : Addr → Option Value} {J : Goroutine → World → Prop}
theorem stepAt_fin (hJ : JX Try.prog Kc J) {T : Array Value} {K : List Item} {cs : List Frame} {w : World} (h : J (G ((bN 37).at ⟨T.setIfInBounds 30 (.tuple #[]), []⟩ (.code k7c :: K)) cs) w) :
 J (G ((stepAt T K).finish (.tuple #[])) cs) w := by
 unfold stepAt
 obtain ⟨u0, hu0⟩ : ∃ c, k6c = c := ⟨_, rfl⟩
 have eu0 := hu0
 rw [hu0]
 simp only [wkL, wkB, wkT, wkS, k6c, headC, tailN, Try.f37, al_od] at eu0
 subst eu0
 clear hu0
 rw [Frame.finish_at]
 try walk_nrm
 refine hJ.ctl (s := ()) (fun w => stepG_region_end) ?_
 exact h
theorem stepAt_raise (hJ : JX Try.prog Kc J) {T : Array Value} {K : List Item} {ch : List PanicEntry} {cl : Frame} {cs : List Frame} {w : World} (h : J (G (cl.raise ch) cs) w) : J (G ((stepAt T K).raise ch) (cl :: cs)) w := by
 unfold stepAt
 rw [Frame.raise_at]
 exact raiseJ (s := ()) hJ (b := bN 37) rfl Try.func37 h
theorem walk_enter (hJ : JX Try.prog Kc J) {wb : Nat} {iv : Value} {w : World} {cs : List Frame}
 (hmain : ∀ T, FrW wb iv 0 T → J (G ((bN 37).at ⟨T, []⟩ (.code wkL :: wkK)) cs) w) :
 J (G (Frame.enter Try.prog 37 #[.pointer (some ⟨wb, 0, none⟩), iv] .normal) cs) w := by
 have e : Frame.enter Try.prog 37 #[.pointer (some ⟨wb, 0, none⟩), iv] .normal = (bN 37).at (enterAct Try.f37 #[.pointer (some ⟨wb, 0, none⟩), iv]) [.code ((Try.f37.body).getD .skip)] := by kernel_rfl
 have eb : (Try.f37.body).getD .skip = .seq (.seq (headC (headC ((Try.f37.body).getD .skip))) (.block 0 (.loop wkL))) wkT := by kernel_rfl
 rw [e, eb]
 have hm := Lib.hid hmain
 clear hmain
 obtain ⟨T0, hT⟩ : ∃ X, X = (enterAct Try.f37 #[.pointer (some ⟨wb, 0, none⟩), iv]).tmps := ⟨_, rfl⟩
 have hsz : T0.size = 67 := by rw [hT]; kernel_rfl
 have f0 : T0[0]? = some (.pointer (some ⟨wb, 0, none⟩)) := by rw [hT]; kernel_rfl
 have f1 : T0[1]? = some iv := by rw [hT]; kernel_rfl
 have eA : enterAct Try.f37 #[.pointer (some ⟨wb, 0, none⟩), iv] = ⟨T0, []⟩ := by rw [hT]; kernel_rfl
 rw [eA]
 clear eA hT e eb
 refine hJ.ctl (s := ()) (fun w => stepG_seq) ?_
 refine hJ.ctl (s := ()) (fun w => stepG_seq) ?_
 obtain ⟨u0, hu0⟩ : ∃ c, headC (headC ((Try.f37.body).getD .skip)) = c := ⟨_, rfl⟩
 have eu0 := hu0
 rw [hu0]
 simp only [headC, Try.f37, al_od] at eu0
 subst eu0
 clear hu0
 refine hJ.ctl (s := ()) (fun w => stepG_region) ?_
 refine at_eval (J := fun (_ : Unit) => J) (s := ()) hJ (by decide) 0 [.int .i64 0] [] rfl (by simp) (by rfl) ?_ ?_
 · intro τ d
   simp only [evalsO, dstOf, al_gl, al_g0, al_ob]
   refine ⟨?_, trivial⟩
   intro o ho; simp only [al_oi] at ho; subst ho
   rfl
 simp only [putv, dstOf, al_gl, al_g0, al_g1, al_ob]
 have hF : FrW wb iv 0 (T0.setIfInBounds 4 (.int .i64 0)) := by
  refine ⟨by simp [hsz], ?_, ?_, by simp [hsz]⟩ <;> rw [al_gn (by decide)] <;> assumption
 refine hJ.ctl (s := ()) (fun w => stepG_region_end) ?_
 refine hJ.ctl (s := ()) (fun w => stepG_block) ?_
 refine hJ.ctl (s := ()) (fun w => stepG_loop) ?_
 exact hm.out _ hF
end
section
variable {S : WS} {i : Nat}
theorem wlk_go {Kc : Addr → Option Value} {J : Goroutine → World → Prop} (hJ : JX Try.prog Kc J) {m : WM} {w : World} (hB : S.Body m w) (hi : i < S.N) (hN : S.N ≤ 64) {b : Nat} (hb : S.wb i = some b) {st : Nat} {T : Array Value} (hF : FrW b (sxOf st) (m.pos i) T) {cr : Frame} {rest : List Frame}
 (hy : m.pos i < S.steps i → S.out i m = .yield m → ∀ T', FrW b (sxOf st) (m.pos i) T' → J (G (Frame.enter Try.prog 74 #[.pointer (some ⟨st, 0, none⟩)] .normal) (stepAt T' (.inBlock 1 :: .code k2c :: wkK) :: cr :: rest)) w)
 (hd : S.out i m = .done m → J (G (cr.finish (.tuple #[])) rest) w) (hbk : S.out i m = .broke m → ∀ sg, J (G (cr.raise [beyP i sg]) rest) w) :
 J (G ((bN 37).at ⟨T, []⟩ (.code wkL :: wkK)) (cr :: rest)) w := by
 have hw := hB.walker i b hi hb
 have cx : w.cell? ⟨b, 1, none⟩ = some (.int .i64 (i : Int)) := (zq1 hw).trans rfl
 have cn : w.cell? ⟨b, 2, none⟩ = some (.int .i64 (S.steps i : Int)) := (zq1 hw).trans rfl
 have ca : w.cell? ⟨b, 3, none⟩ = some (.int .i64 (S.aft i)) := (zq1 hw).trans rfl
 by_cases h1 : m.pos i < S.steps i
 · refine wlk_in hJ hF cn (by omega) fun T1 hF1 => ?_
   by_cases h2 : (m.pos i : Int) = S.aft i
   · exact walk_bad hJ hF1 ca cx h2 (by omega) (by omega) (hbk (by unfold WS.out; rw [if_pos h1, if_pos h2]))
   · exact walk_step hJ hF1 (ti := 96) (sx := .pointer (some ⟨st, 0, none⟩)) rfl ca h2 (fun o a ho ha w => walker_enter st o a ho ha w) (fun o a ho ha w e he => by rw [walker_events st o a ho ha w] at he; simp at he) (hy h1 (by unfold WS.out; rw [if_pos h1, if_neg h2]))
 · refine walk_out hJ hF cn (by omega) fun T1 hF1 => ?_
   by_cases h2 : S.aft i = S.steps i
   · exact walk_last hJ hF1 ca cn cx h2 (by omega) (by omega) (hbk (by unfold WS.out; rw [if_neg h1, if_pos h2]))
   · exact walk_end hJ hF1 ca cn cx h2 (hd (by unfold WS.out; rw [if_neg h1, if_neg h2]))
theorem walk_susp (hi : i < S.N) (hN : S.N ≤ 64) (hst : S.steps i < 100) {b : Nat} (hb : S.wb i = some b) {st : Nat} {cr : Frame} {rest : List Frame} (NE EN : List PanicEntry → Prop) (hNE : ∀ sg, NE [beyP i sg]) : ∀ (k : Nat) (m₀ : WM) (T : Array Value), FrW b (sxOf st) (m₀.pos i) T → m₀.pos i < S.steps i →
 Susp Try.prog S.thr 74 (.pointer (some ⟨st, 0, none⟩)) cr rest NE EN i k (stepAt T (.inBlock 1 :: .code k2c :: wkK)) (cr :: rest) m₀ := by
 intro k
 induction k with
 | zero => intro m₀ T _ _; trivial
 | succ k ih =>
  intro m₀ T hF hps Kc X J m w hE hSame hRep hleft
  have hJ := hE.js
  have hs : m₀.pos i = m.pos i := hSame
  have hroom : 0 < m.room := hleft
  have hB := hRep.body
  have hrl := hRep.room
  rw [hs] at hF hps
  refine ⟨fun hC => ?_, fun ch hch hmain => ?_⟩
  · refine stepAt_fin hJ ?_
    have hF1 : FrW b (sxOf st) (m.pos i) (T.setIfInBounds 30 (.tuple #[])) := by
     obtain ⟨h1, h2, h3, h4⟩ := hF
     refine ⟨by simp [h1], ?_, ?_, ?_⟩ <;> rw [al_gn (by decide)] <;> assumption
    refine walk_put hE hB hi hb (by omega) hF1 fun T1 v w1 hF2 hB1 hG1 => ?_
    have hon : (m.on i v).pos i = m.pos i + 1 := by simp [WM.on]
    have hRep1 : S.Rep (m.on i v) w1 := ⟨hB1, by show (m.bd ++ [(i : Int)]).length + (m.room - 1) ≤ _; rw [List.length_append]; simp only [List.length_cons, List.length_nil]; omega⟩
    refine hJ.ctl (s := ()) (fun w => stepG_inBlock) ?_
    refine walk_next hJ hF2 (by omega) (by omega) fun T2 hF3 => ?_
    refine hJ.ctl (s := ()) (fun w => stepG_inLoop) ?_
    have hF4 : FrW b (sxOf st) ((m.on i v).pos i : Nat) T2 := by rw [hon]; exact hF3
    refine wlk_go hJ hB1 hi hN hb hF4 (fun hp ho T' hF' => ?_) (fun ho => ?_) (fun ho sg => ?_)
    · exact hC.yield _ _ _ w1 ⟨v, ho.symm⟩ hG1 hRep1 (Nat.le_refl _) (ih _ T' hF' hp)
    · exact hC.done _ (.tuple #[]) w1 ⟨v, ho.symm⟩ hG1 hRep1 (Nat.le_refl _)
    · exact hC.broke _ _ w1 ⟨v, ho.symm⟩ (hNE sg) hG1 hRep1 (Nat.le_refl _)
  · refine stepAt_raise hJ ?_
    refine hmain { m with room := m.room - 1 } ch w hch rfl ⟨Nat.le_refl _, fun _ _ _ => rfl, fun _ h => .inl h⟩ ⟨⟨hB.board, hB.own, hB.walker, hB.lo⟩, ?_⟩ (Nat.le_refl _)
    show m.bd.length + (m.room - 1) ≤ _
    omega
theorem walk_runs {m₀ : WM} (hi : i < S.N) (hN : S.N ≤ 64) (hst : S.steps i < 100) {tv : Value} (hv : (S.wb i = none ∧ tv = .nilFunc) ∨ ∃ b, S.wb i = some b ∧ tv = .func (.func 37) #[.pointer (some ⟨b, 0, none⟩)] #[]) (h0 : m₀.pos i = 0) (NE : List PanicEntry → Prop) (hNE : ∀ sg, NE [beyP i sg]) :
 Runs Try.prog S.thr 74 96 NE m₀ i tv := by
 rcases hv with ⟨h1, rfl⟩ | ⟨b, hb, rfl⟩
 · exact .inl ⟨rfl, fun m => by show _ = if (S.wb i).isSome then S.out i m else .done m; rw [h1]; rfl⟩
 refine .inr ⟨37, #[.pointer (some ⟨b, 0, none⟩)], #[], Try.f37, _, rfl, Try.func37, rfl, by kernel_rfl, ?_⟩
 intro cr rest st EN k Kc X J m w hE hRep hSame hC
 have hJ := hE.js
 have hs : m₀.pos i = m.pos i := hSame
 have hpos : m.pos i = 0 := by rw [← hs, h0]
 have hstart : ∀ o, S.out i m = o → S.thr.Start i m o := fun o ho => by show o = if (S.wb i).isSome then S.out i m else .done m; rw [hb]; exact ho.symm
 refine walk_enter hJ (wb := b) (iv := sxOf st) fun T hF => ?_
 have hF1 : FrW b (sxOf st) (m.pos i : Nat) T := by rw [hpos]; exact hF
 refine wlk_go hJ hRep.body hi hN hb hF1 (fun hp ho T' hF' => ?_) (fun ho => ?_) (fun ho sg => ?_)
 · exact hC.yield _ _ _ w (hstart _ ho) (Grow.refl _ _ _) hRep (Nat.le_refl _) (walk_susp hi hN hst hb NE EN hNE k _ T' hF' hp)
 · exact hC.done _ (.tuple #[]) w (hstart _ ho) (Grow.refl _ _ _) hRep (Nat.le_refl _)
 · exact hC.broke _ _ w (hstart _ ho) (hNE sg) (Grow.refl _ _ _) hRep (Nat.le_refl _)
end
set_option maxHeartbeats 4000000
set_option maxRecDepth 100000
structure Wk where
 s : Int
 a : Int
 nl : Bool
theorem mask31 (a : Int) : ∃ n : Nat, n ≤ 31 ∧ bits .and .i64 a 31 = n := by
 refine ⟨((BitVec.ofInt IntKind.i64.bits a) &&& (BitVec.ofInt IntKind.i64.bits 31)).toNat, ?_, ?_⟩
 · rw [BitVec.toNat_and]
   exact Nat.le_trans Nat.and_le_right (by decide)
 · have : ((BitVec.ofInt IntKind.i64.bits a) &&& (BitVec.ofInt IntKind.i64.bits 31)).toNat ≤ 31 := by
    rw [BitVec.toNat_and]
    exact Nat.le_trans Nat.and_le_right (by decide)
   have e : bits .and .i64 a 31 = IntKind.i64.wrap ((((BitVec.ofInt IntKind.i64.bits a) &&& (BitVec.ofInt IntKind.i64.bits 31)).toNat : Nat) : Int) := rfl
   rw [e]
   generalize ((BitVec.ofInt IntKind.i64.bits a) &&& (BitVec.ofInt IntKind.i64.bits 31)).toNat = q at this
   exact IntWalk.i64_in _ (by omega)
noncomputable def Wk.n (x : Wk) : Nat := (mask31 x.s).choose
theorem Wk.n_le (x : Wk) : x.n ≤ 31 := (mask31 x.s).choose_spec.1
theorem Wk.n_eq (x : Wk) : bits .and .i64 x.s 31 = x.n := (mask31 x.s).choose_spec.2
noncomputable def Wk.k (x : Wk) : Nat := if x.nl then 0 else if 0 ≤ x.a ∧ x.a ≤ x.n then x.a.toNat else x.n
noncomputable def Wk.bad (x : Wk) : Bool := !x.nl && decide (0 ≤ x.a ∧ x.a ≤ x.n)
theorem does_lone (x : Wk) (w : World) : Calls Try.prog 17 #[.agg #[.int .i64 x.s, .int .i64 x.a, .bool x.nl]] w fun e w' => e = .returned (.tuple #[.int .i64 x.k, .bool x.bad]) ∧ Beyond w w' := by
 have hn := x.n_eq
 obtain ⟨s, a, nl⟩ := x
 have HN := Lib.hid hn
 obtain ⟨n, hn'⟩ : ∃ n, (Wk.mk s a nl).n = n := ⟨_, rfl⟩
 rw [hn'] at HN
 have HB := Lib.hid (show ∀ o : Obj, Beyond w (w.alloc o) from fun o => ⟨by rw [zq8]; omega, fun b hb => by rw [zqc, if_neg (by omega)]⟩)
 have HK := Lib.hid (show (Wk.mk s a nl).k = (if nl then 0 else if 0 ≤ a ∧ a ≤ n then a.toNat else n) ∧ (Wk.mk s a nl).bad = (!nl && decide (0 ≤ a ∧ a ≤ n)) from ⟨by unfold Wk.k; rw [hn'], by unfold Wk.bad; rw [hn']⟩)
 clear hn hn'
 go_enter Try.func17, Try.ntmps17
 cases nl
 · by_cases h0 : 0 ≤ a
   · by_cases h1 : a ≤ bits BinOp.and IntKind.i64 s 31
     · have h1' : a ≤ n := by have := HN.out; simp only at this; omega
       go_wp2
       go_ret2
       refine ⟨?_, HB.out _⟩
       rw [HK.out.1, HK.out.2]
       simp [h0, h1']
       omega
     · have h1' : ¬ a ≤ n := by have := HN.out; simp only at this; omega
       go_wp2
       go_ret2
       refine ⟨?_, HB.out _⟩
       rw [HK.out.1, HK.out.2, HN.out]
       simp [show ¬ a ≤ (n : Int) by omega]
   · go_wp2
     go_ret2
     refine ⟨?_, HB.out _⟩
     rw [HK.out.1, HK.out.2, HN.out]
     simp [show ¬ 0 ≤ a by omega]
 · go_wp2
   go_ret2
   refine ⟨?_, HB.out _⟩
   rw [HK.out.1, HK.out.2]
   simp
def WalksAt (w : World) (lp : Option Addr) (n : Nat) (wk : Nat → Wk) : Prop :=
 0 < n → ∃ lb lo, lp = some ⟨lb, lo, none⟩ ∧ ∀ i, i < n → w.cell? ⟨lb, lo + i * 3, none⟩ = some (.int .i64 (wk i).s) ∧ w.cell? ⟨lb, lo + i * 3 + 1, none⟩ = some (.int .i64 (wk i).a) ∧ w.cell? ⟨lb, lo + i * 3 + 2, none⟩ = some (.bool (wk i).nl)
theorem WalksAt.beyond {w w' : World} {lp : Option Addr} {n : Nat} {wk : Nat → Wk} (h : WalksAt w lp n wk) (hb : Beyond w w') : WalksAt w' lp n wk := fun hn => by
 obtain ⟨lb, lo, e, h1⟩ := h hn
 exact ⟨lb, lo, e, fun i hi => ⟨hb.cell (h1 i hi).1, hb.cell (h1 i hi).2.1, hb.cell (h1 i hi).2.2⟩⟩
def wkV : Option Nat → Value
 | none => .nilFunc
 | some b => .func (.func 37) #[.pointer (some ⟨b, 0, none⟩)] #[]
noncomputable def wkC (bB i : Nat) (x : Wk) : Array Value := #[.pointer (some ⟨bB, 0, none⟩), .int .i64 i, .int .i64 x.n, .int .i64 x.a]
structure WkO (w : World) (bB : Nat) (wk : Nat → Wk) (j : Nat) (out : Value) (wb : Nat → Option Nat) (wr : World) : Prop where
 size : w.heap.size ≤ wr.heap.size
 old : ∀ b, b < w.heap.size → wr.heap[b]? = w.heap[b]?
 orow : wr.ownsRow w.heap.size 60 1 out j ((List.range j).map fun i => wkV (wb i))
 nl : ∀ i, i < j → (wb i = none ↔ (wk i).nl = true)
 blk : ∀ i b, i < j → wb i = some b → w.heap.size ≤ b ∧ wr.heap[b]? = some (.cells (wkC bB i (wk i)) 105)
theorem WkO.start (w : World) (bB : Nat) (wk : Nat → Wk) (wb : Nat → Option Nat) : WkO w bB wk 0 (.slice none 0 0) wb w := ⟨Nat.le_refl _, fun _ _ => rfl, World.ownsRow_nil _ _ _ _, fun i hi => absurd hi (Nat.not_lt_zero _), fun i b hi => absurd hi (Nat.not_lt_zero _)⟩
theorem map_wkV (wb : Nat → Option Nat) (j : Nat) (x : Option Nat) : ((List.range (j + 1)).map fun i => wkV (if i = j then x else wb i)) = ((List.range j).map fun i => wkV (wb i)) ++ [wkV x] := by
 rw [List.range_succ, List.map_append]
 congr 1
 · refine List.map_congr_left fun i hi => ?_
   have := List.mem_range.1 hi
   rw [if_neg (by omega)]
 · simp
theorem WkO.next {w wr w1 w5 : World} {bB : Nat} {wk : Nat → Wk} {j : Nat} {out out' : Value} {wb : Nat → Option Nat} (h : WkO w bB wk j out wb wr) (x : Option Nat) (hs1 : wr.heap.size ≤ w1.heap.size) (ho1 : ∀ b, b < wr.heap.size → w1.heap[b]? = wr.heap[b]?) (hx : x = none ↔ (wk j).nl = true) (hxb : ∀ b, x = some b → wr.heap.size ≤ b ∧ b < w1.heap.size ∧ w1.heap[b]? = some (.cells (wkC bB j (wk j)) 105))
 (hown : w5.ownsRow w.heap.size 60 1 out' (j + 1) (((List.range j).map fun i => wkV (wb i)) ++ [wkV x])) (hgrow : w1.grownBy w5 out.ownBlock) : WkO w bB wk (j + 1) out' (fun i => if i = j then x else wb i) w5 := by
 have hs := h.size
 have hs5 := hgrow.size
 have hlt : ∀ g, out.ownBlock = some g → w.heap.size ≤ g ∧ ∃ c, wr.heap[g]? = some (.cells c 60) := fun g hg => ⟨(own_lt h.orow hg).2.1, (own_lt h.orow hg).1⟩
 have hk : ∀ b, b < wr.heap.size → out.ownBlock ≠ some b → w5.heap[b]? = wr.heap[b]? := fun b hb hne => (hgrow.block b (by omega) (fun e => hne e.symm)).trans (ho1 b hb)
 refine ⟨by omega, fun b hb => ?_, by rw [map_wkV]; exact hown, fun i hi => ?_, fun i b hi hb => ?_⟩
 · rw [hk b (by omega) (fun e => by have := (hlt b e).1; omega)]; exact h.old b hb
 · by_cases e : i = j
   · subst e; simp only [if_true]; exact hx
   · simp only [e, if_false]; exact h.nl i (by omega)
 · by_cases e : i = j
   · subst e
     simp only [if_true] at hb
     obtain ⟨k1, k2, k3⟩ := hxb b hb
     refine ⟨by omega, ?_⟩
     rw [hgrow.block b k2 (fun e => by
      obtain ⟨c, hc⟩ := (hlt b e.symm).2
      have := zq4 hc
      omega)]
     exact k3
   · simp only [e, if_false] at hb
     obtain ⟨k1, k2⟩ := h.blk i b (by omega) hb
     refine ⟨k1, ?_⟩
     rw [hk b (zq4 k2) (fun e => by
      obtain ⟨c, hc⟩ := (hlt b e).2
      exact absurd (heap_type hc k2) (by decide))]
     exact k2
theorem walkers_lone {bB : Nat} {lp : Option Addr} {n C : Nat} {wk : Nat → Wk} (w : World) (hn : n ≤ 1099511627776) (hp : WalksAt w lp n wk) :
 Calls Try.prog 15 #[.pointer (some ⟨bB, 0, none⟩), .slice lp n C] w fun e w' => ∃ out wb, e = .returned out ∧ WkO w bB wk n out wb w' := by
 have HP := Lib.hid hp
 clear hp
 go_enter Try.func15, Try.ntmps15
 go_wp2
 go_loopg [5, 6] n (fun k o i wr => ∃ (j : Nat) (wb : Nat → Option Nat) (out : Value), out = o ∧ k = n - j ∧ j ≤ n ∧ i = .int .i64 j ∧ WkO w bB wk j out wb wr)
 case atStart => exact ⟨0, fun _ => none, _, rfl, rfl, Nat.zero_le _, rfl, WkO.start w _ _ _⟩
 case round =>
  obtain ⟨j, wb, out, ho, hk, hj, rfl, hR⟩ := hrel
  subst ho
  have HR := Lib.hid hR
  clear hR
  by_cases hlt : j < n
  · have hlt' : (j : Int) < (n : Int) := by omega
    have hj0 : (0 : Int) ≤ j := by omega
    obtain ⟨lb, lo, rfl, hc⟩ := HP.out (by omega)
    obtain ⟨e0, e1, e2⟩ := hc j hlt
    have hlb : lb < w.heap.size := cell_lt e0
    have f0 := (zqe (HR.out.old lb hlb)).trans e0
    have f1 := (zqe (HR.out.old lb hlb)).trans e1
    have f2 := (zqe (HR.out.old lb hlb)).trans e2
    obtain ⟨x, hx⟩ : ∃ x, wk j = x := ⟨_, rfl⟩
    rw [hx] at f0 f1 f2
    have HX := Lib.hid hx
    clear hc e0 e1 e2 hlb hx
    obtain ⟨s, a, nl⟩ := x
    simp only at f0 f1 f2
    obtain ⟨ti, hti, hz0, hz1, hz2⟩ : ∃ ti, Try.prog.info? 60 = some ti ∧ ti.zero = some .nilFunc ∧ ti.size = 1 ∧ ti.bytes = 8 := ⟨_, rfl, rfl, rfl, rfl⟩
    have TI := Lib.hid (And.intro hti (And.intro hz0 (And.intro hz1 hz2)))
    clear hti hz0 hz1 hz2
    cases nl with
    | true =>
     go_wp2_with (at_builtin; go_loud (refine wpList_append_lies _ rfl (.tmp 19) (.tmp 20) 47 rfl w.heap.size 60 ti .nilFunc 1 8 (by kernel_rfl) TI.out.1 TI.out.2.1 TI.out.2.2.1 TI.out.2.2.2 rfl (by decide) _ j ((List.range j).map fun i => wkV (wb i)) rfl (row_alloc HR.out.orow _) _ 1 1 [.nilFunc] rfl rfl (one_new rfl) (by simp [Value.oneCell']) (by decide) (by simp only [maxLen]; omega) (by omega) (by have := HR.out.size; simp only [zq8]; omega) _ rfl ?next))
     case next =>
      intro g cap w5 hown hgrow hat hlt5
      have HN := Lib.hid (HR.out.next none (w1 := wr.alloc _) (by rw [zq8]; omega) (fun b hb => by rw [zqc, if_neg (by omega)]) (by rw [HX.out]; simp) (fun b hb => by cases hb) hown hgrow)
      clear hown hgrow hat hlt5
      go_wp2
      go_roundg (n - (j + 1))
      case measure => omega
      case rel => exact ⟨j + 1, _, _, rfl, rfl, by omega, rfl, HN.out⟩
    | false =>
     go_wp2_with (fail)
     obtain ⟨H, hH⟩ : ∃ H, wr.heap.size = H := ⟨_, rfl⟩
     have hct : ∀ W, W = wr.drewN 1 ∨ W = (wr.drewN 1).alloc (.cells #[.pointer (some ⟨bB, 0, none⟩), .int .i64 j, .int .i64 (bits .and .i64 s 31), .int .i64 a] 105) → ∀ o v, wr.cell? ⟨lb, o, none⟩ = some v → W.cell? ⟨lb, o, none⟩ = some v := by
      rintro W (rfl | rfl) o v hv
      · exact hv
      · have := cell_lt hv
        exact (zqe (by rw [zqc, if_neg (by show lb ≠ wr.heap.size; simp only at this; omega)]; rfl)).trans hv
     refine wp_region_one (k := 15) (s := 14) (W0 := wr.drewN 1) (W1 := (wr.drewN 1).alloc (.cells #[.pointer (some ⟨bB, 0, none⟩), .int .i64 j, .int .i64 (bits .and .i64 s 31), .int .i64 a] 105)) (by kernel_rfl) (by kernel_rfl) (by kernel_rfl) (by kernel_rfl) (by decide)
      [.pointer (some ⟨bB, 0, none⟩), .int .i64 j, .slice (some ⟨lb, lo, none⟩) n C, .int .i64 j, .pointer (some ⟨lb, lo + j * 3, none⟩), .pointer (some ⟨lb, lo + j * 3, none⟩), .int .i64 s, .int .i64 (bits .and .i64 s 31), .slice (some ⟨lb, lo, none⟩) n C, .int .i64 j, .pointer (some ⟨lb, lo + j * 3, none⟩), .pointer (some ⟨lb, lo + j * 3 + 1, none⟩), .int .i64 a, .agg #[.pointer (some ⟨bB, 0, none⟩), .int .i64 j, .int .i64 (bits .and .i64 s 31), .int .i64 a], .pointer (some ⟨H, 0, none⟩)] rfl rfl ?_ ?_ ?_
     · intro i o hi his ho W hWW
       replace f0 := hct W hWW _ _ f0
       replace f1 := hct W hWW _ _ f1
       clear hWW hct f2
       simp only [putv, dstOf, al_gl, al_g0, al_g1, al_ob, al_g2, List.set_cons_succ, List.set_cons_zero]
       obtain rfl | rfl | rfl | rfl | rfl | rfl | rfl | rfl | rfl | rfl | rfl | rfl | rfl | rfl : i = 0 ∨ i = 1 ∨ i = 2 ∨ i = 3 ∨ i = 4 ∨ i = 5 ∨ i = 6 ∨ i = 7 ∨ i = 8 ∨ i = 9 ∨ i = 10 ∨ i = 11 ∨ i = 12 ∨ i = 13 := by omega
       all_goals (simp only [al_gl, al_g0, al_g1, al_oi] at ho; subst ho; refine .inl ?_)
       all_goals (simp only [execOp, Act.eval, al_gd, al_gl, al_g0, al_g1, al_od])
       all_goals (try go_simp)
     · intro o ho
       simp only [putv, dstOf, al_gl, al_g0, al_g1, al_ob, al_g2, List.set_cons_succ, List.set_cons_zero]
       simp only [al_gl, al_g0, al_g1, al_oi] at ho; subst ho; refine .inl ?_
       simp only [execOp, Act.eval, al_gd, al_gl, al_g0, al_g1, al_od]
       subst hH
       go_simp
     simp only [putv, dstOf, al_gl, al_g0, al_g1, al_ob, al_g2, List.set_cons_succ, List.set_cons_zero]
     have hs1 : ((wr.drewN 1).alloc (.cells #[.pointer (some ⟨bB, 0, none⟩), .int .i64 j, .int .i64 (bits .and .i64 s 31), .int .i64 a] 105)).heap.size = H + 1 := by rw [zq8]; show wr.heap.size + 1 = _; omega
     have ho1 : ∀ b, b < H → ((wr.drewN 1).alloc (.cells #[.pointer (some ⟨bB, 0, none⟩), .int .i64 j, .int .i64 (bits .and .i64 s 31), .int .i64 a] 105)).heap[b]? = wr.heap[b]? := fun b hb => by rw [zqc, if_neg (by show b ≠ wr.heap.size; omega)]; rfl
     have hn1 := al_new (wr.drewN 1) (.cells #[.pointer (some ⟨bB, 0, none⟩), .int .i64 j, .int .i64 (bits .and .i64 s 31), .int .i64 a] 105)
     rw [show (wr.drewN 1).heap.size = H from hH] at hn1
     generalize (wr.drewN 1).alloc (.cells #[.pointer (some ⟨bB, 0, none⟩), .int .i64 j, .int .i64 (bits .and .i64 s 31), .int .i64 a] 105) = w1 at hs1 ho1 hn1 ⊢
     have W1 := Lib.hid (And.intro hs1 (And.intro ho1 (And.intro hn1 hH)))
     have hb1 : w1.heap.size = H + 1 := hs1
     clear hs1 ho1 hn1 hct f0 f1 f2
     have hrow : w1.ownsRow w.heap.size 60 1 out j ((List.range j).map fun i => wkV (wb i)) := ownsRow_of HR.out.orow fun g hg => W1.out.2.1 g (by have := (own_lt HR.out.orow hg).2.2; omega)
     have HRow := Lib.hid hrow
     clear hrow
     refine wpAny_one (i := 15) (by kernel_rfl) ?_
     simp only [wpOp, al_gl, al_g0, al_g1]
     rw [if_pos (by rfl)]
     refine .inl ?_
     go_simp
     refine wpAny_end (by kernel_rfl) ?_
     have HS := Lib.hid (And.intro hb1 hH)
     clear hb1 hH
     go_wp2_with (at_builtin; go_loud (refine wpList_append_lies _ rfl (.tmp 37) (.tmp 40) 47 rfl w.heap.size 60 ti .nilFunc 1 8 (by kernel_rfl) TI.out.1 TI.out.2.1 TI.out.2.2.1 TI.out.2.2.2 rfl (by decide) _ j ((List.range j).map fun i => wkV (wb i)) rfl (row_alloc HRow.out _) _ 1 1 [wkV (some H)] rfl rfl (one_new rfl) (by simp [Value.oneCell', wkV]) (by decide) (by simp only [maxLen]; omega) (by omega) (by have := HR.out.size; have := HS.out; simp only [zq8]; omega) _ rfl ?next))
     case next =>
      intro g cap w5 hown hgrow hat hlt5
      have HN := Lib.hid (HR.out.next (some H) (w1 := w1.alloc _) (by rw [zq8]; have := HS.out; omega) (fun b hb => by rw [zqc, if_neg (by have := HS.out; omega)]; exact W1.out.2.1 b (by have := HS.out; omega)) (by rw [HX.out]; simp) (fun b hb => by
       cases hb
       have h1 := HS.out
       refine ⟨by omega, by rw [zq8]; omega, ?_⟩
       rw [zqc, if_neg (by omega), W1.out.2.2.1]
       have h2 := (wk j).n_eq
       rw [HX.out] at h2 ⊢
       simp only at h2
       simp only [wkC, h2]) hown hgrow)
      clear hown hgrow hat hlt5
      go_wp2
      go_roundg (n - (j + 1))
      case measure => omega
      case rel => exact ⟨j + 1, _, _, rfl, rfl, by omega, rfl, HN.out⟩
  · obtain rfl : n = j := by omega
    go_wp2
    go_ret
    exact ⟨_, wb, rfl, HR.out⟩
set_option maxHeartbeats 1000000
abbrev LS := (Nat → Nat) × List Nat
def dec1 (f : Nat → Nat) (i : Nat) : Nat → Nat := fun j => if j = i then f i - 1 else f j
def wstp (N : Nat) (s : LS) (x : Int) : LS := if 0 ≤ x ∧ x < N ∧ 0 < s.1 x.toNat then (dec1 s.1 x.toNat, s.2 ++ [x.toNat]) else s
def wstm (N most : Nat) (s : LS) (x : Int) : LS := if s.2.length = most then s else wstp N s x
def cycl (N t : Nat) : List Int := (List.range t).map fun i => ((i % N : Nat) : Int)
theorem cycl_add (N t : Nat) (h : 0 < N) : upto N ++ cycl N t = cycl N (N + t) := by
 unfold cycl upto
 rw [List.range_add, List.map_append, List.map_map]
 congr 1
 · refine List.map_congr_left fun i hi => ?_
   rw [Nat.mod_eq_of_lt (List.mem_range.1 hi)]
 · refine List.map_congr_left fun i _ => ?_
   simp [Function.comp]
theorem cycl_succ (N t : Nat) : cycl N (t + 1) = cycl N t ++ [((t % N : Nat) : Int)] := by unfold cycl; rw [List.range_succ, List.map_append]; rfl
def sumN (f : Nat → Nat) : Nat → Nat
 | 0 => 0
 | n + 1 => sumN f n + f n
theorem sumN_dec {f : Nat → Nat} {i : Nat} : ∀ {N : Nat}, i < N → 0 < f i → sumN (dec1 f i) N + 1 = sumN f N
 | 0, h, _ => absurd h (Nat.not_lt_zero _)
 | N + 1, h, h0 => by
  unfold sumN
  by_cases e : N = i
  · subst e
    have : ∀ K, K ≤ N → sumN (dec1 f N) K = sumN f K := by
     intro K
     induction K with
     | zero => intro _; rfl
     | succ K ih => intro hK; simp only [sumN, ih (by omega), dec1, show K ≠ N by omega, if_false]
    rw [this N (Nat.le_refl _)]
    simp only [dec1, if_true]
    omega
  · have := sumN_dec (f := f) (N := N) (i := i) (by omega) h0
    simp only [dec1, e, if_false] at this ⊢
    omega
theorem sumN_le {f : Nat → Nat} {c N : Nat} (h : ∀ i, i < N → f i ≤ c) : sumN f N ≤ N * c := by
 induction N with
 | zero => simp [sumN]
 | succ N ih => unfold sumN; have := ih (fun i hi => h i (by omega)); have := h N (by omega); rw [Nat.succ_mul]; omega
theorem sumN_zero {f : Nat → Nat} {N : Nat} (h : ∀ i, i < N → f i = 0) : sumN f N = 0 := by
 induction N with
 | zero => rfl
 | succ N ih => unfold sumN; rw [ih (fun i hi => h i (by omega)), h N (by omega)]
theorem sumN_pos {f : Nat → Nat} {N i : Nat} (hi : i < N) : f i ≤ sumN f N := by
 induction N with
 | zero => omega
 | succ N ih => unfold sumN; by_cases e : i = N
                · subst e; omega
                · have := ih (by omega); omega
theorem wstp_sum (N : Nat) (s : LS) (x : Int) : (wstp N s x).2.length + sumN (wstp N s x).1 N = s.2.length + sumN s.1 N := by
 unfold wstp
 split
 · rename_i h
   have := sumN_dec (f := s.1) (i := x.toNat) (N := N) (by omega) h.2.2
   simp only [List.length_append, List.length_cons, List.length_nil]
   omega
 · rfl
theorem fold_sum (N : Nat) (l : List Int) : ∀ s : LS, (l.foldl (wstp N) s).2.length + sumN (l.foldl (wstp N) s).1 N = s.2.length + sumN s.1 N := by
 induction l with
 | nil => intro s; rfl
 | cons x l ih => intro s; rw [List.foldl_cons, ih, wstp_sum]
theorem wstp_pre (N : Nat) (s : LS) (x : Int) : ∃ r, (wstp N s x).2 = s.2 ++ r := by
 unfold wstp
 split
 · exact ⟨_, rfl⟩
 · exact ⟨[], (List.append_nil _).symm⟩
theorem fold_pre (N : Nat) (l : List Int) : ∀ s : LS, ∃ r, (l.foldl (wstp N) s).2 = s.2 ++ r := by
 induction l with
 | nil => intro s; exact ⟨[], (List.append_nil _).symm⟩
 | cons x l ih =>
  intro s
  obtain ⟨r1, h1⟩ := wstp_pre N s x
  obtain ⟨r2, h2⟩ := ih (wstp N s x)
  exact ⟨r1 ++ r2, by rw [List.foldl_cons, h2, h1, List.append_assoc]⟩
theorem fold_most (N most : Nat) (l : List Int) : ∀ s : LS, s.2.length ≤ most → (l.foldl (wstm N most) s).2 = ((l.foldl (wstp N) s).2).take most ∧ ((l.foldl (wstp N) s).2.length ≤ most → l.foldl (wstm N most) s = l.foldl (wstp N) s) ∧ (∀ i, (l.foldl (wstp N) s).1 i ≤ (l.foldl (wstm N most) s).1 i) ∧ (l.foldl (wstm N most) s).2.length + sumN (l.foldl (wstm N most) s).1 N = s.2.length + sumN s.1 N := by
 induction l with
 | nil => intro s hs; exact ⟨(List.take_of_length_le hs).symm, fun _ => rfl, fun _ => Nat.le_refl _, rfl⟩
 | cons x l ih =>
  intro s hs
  simp only [List.foldl_cons]
  by_cases e : s.2.length = most
  · have hst : ∀ l' : List Int, l'.foldl (wstm N most) s = s := by
     intro l'
     induction l' with
     | nil => rfl
     | cons y l' ih' => rw [List.foldl_cons]; rw [show wstm N most s y = s by unfold wstm; rw [if_pos e]]; exact ih'
    have h1 : wstm N most s x = s := by unfold wstm; rw [if_pos e]
    rw [h1, hst]
    obtain ⟨r, hr⟩ := fold_pre N (x :: l) s
    rw [List.foldl_cons] at hr
    have hle : ∀ (l' : List Int) (s' : LS) (i : Nat), (l'.foldl (wstp N) s').1 i ≤ s'.1 i := by
     intro l'
     induction l' with
     | nil => intro s' i; exact Nat.le_refl _
     | cons y l' ih' =>
      intro s' i
      rw [List.foldl_cons]
      refine Nat.le_trans (ih' _ i) ?_
      unfold wstp dec1
      split
      · simp only; split
        · rename_i e2; rw [e2]; omega
        · exact Nat.le_refl _
      · exact Nat.le_refl _
    refine ⟨by rw [hr, ← e, List.take_left], fun h => ?_, fun i => hle (x :: l) s i, rfl⟩
    have key : ∀ (l' : List Int) (s' : LS), (l'.foldl (wstp N) s').2.length ≤ s'.2.length → l'.foldl (wstp N) s' = s' := by
     intro l'
     induction l' with
     | nil => intro s' _; rfl
     | cons y l' ih' =>
      intro s' hl
      rw [List.foldl_cons] at hl ⊢
      obtain ⟨r', hr'⟩ := fold_pre N l' (wstp N s' y)
      by_cases hc : 0 ≤ y ∧ y < N ∧ 0 < s'.1 y.toNat
      · exfalso
        rw [hr'] at hl
        unfold wstp at hl
        rw [if_pos hc] at hl
        simp only [List.length_append, List.length_cons] at hl
        omega
      · have : wstp N s' y = s' := by unfold wstp; rw [if_neg hc]
        rw [this] at hl ⊢
        exact ih' s' hl
    exact (key (x :: l) s (by rw [List.foldl_cons]; omega)).symm
  · have h1 : wstm N most s x = wstp N s x := by unfold wstm; rw [if_neg e]
    rw [h1]
    have hl : (wstp N s x).2.length ≤ most := by
     unfold wstp
     split
     · simp only [List.length_append, List.length_cons, List.length_nil]; omega
     · exact hs
    obtain ⟨k1, k2, k3, k4⟩ := ih _ hl
    exact ⟨k1, k2, k3, by rw [k4, wstp_sum]⟩
section
variable {S : WS}
def WS.k (S : WS) (i : Nat) : Nat := if (S.wb i).isSome then (if 0 ≤ S.aft i ∧ S.aft i ≤ S.steps i then (S.aft i).toNat else S.steps i) else 0
def WS.bad (S : WS) (i : Nat) : Bool := (S.wb i).isSome && decide (0 ≤ S.aft i ∧ S.aft i ≤ S.steps i)
theorem WS.out_eq {i : Nat} (hb : (S.wb i).isSome = true) (m : WM) (hp : m.pos i ≤ S.k i) : S.out i m = if m.pos i < S.k i then .yield m else if S.bad i then .broke m else .done m := by
 unfold WS.k at hp ⊢
 unfold WS.out WS.bad
 simp only [hb, if_true, Bool.true_and] at hp ⊢
 by_cases h : 0 ≤ S.aft i ∧ S.aft i ≤ S.steps i
 · simp only [h, and_self, if_true, decide_true] at hp ⊢
   by_cases h1 : m.pos i < (S.aft i).toNat
   · rw [if_pos h1, if_pos (by omega), if_neg (by omega)]
   · have e : (m.pos i : Int) = S.aft i := by omega
     rw [if_neg h1]
     by_cases h2 : m.pos i < S.steps i
     · rw [if_pos h2, if_pos e]
     · rw [if_neg h2, if_pos (by omega)]
 · simp only [h, if_false, decide_false, Bool.false_eq_true] at hp ⊢
   by_cases h1 : m.pos i < S.steps i
   · rw [if_pos h1, if_pos h1, if_neg (by omega)]
   · rw [if_neg h1, if_neg h1, if_neg (by omega)]
structure WIv (S : WS) (n : Nat) (a : OSt WM) : Prop where
 pos : ∀ i, i < n → a.m.pos i ≤ S.k i
 ov : ∀ i, i < n → a.ov i = decide (a.m.pos i = S.k i)
 brk : ∀ i, i < n → a.brk i = (decide (a.m.pos i = S.k i) && S.bad i)
 bd : a.m.bd = a.ord.map fun (i : Nat) => (i : Int)
def WS.ls (S : WS) (a : OSt WM) : LS := (fun i => S.k i - a.m.pos i, a.ord)
theorem begun_walk {m₀ : WM} (h0 : ∀ i, m₀.pos i = 0) (hb : m₀.bd = []) {n : Nat} {m : WM} {ov brk : Nat → Bool} (h : Begun S.thr m₀ n m ov brk) : m = m₀ ∧ WIv S n ⟨m, ov, brk, []⟩ ∧ ∀ i, n ≤ i → ov i = false ∧ brk i = false := by
 induction h with
 | zero => exact ⟨rfl, ⟨fun i hi => absurd hi (Nat.not_lt_zero _), fun i hi => absurd hi (Nat.not_lt_zero _), fun i hi => absurd hi (Nat.not_lt_zero _), hb⟩, fun _ _ => ⟨rfl, rfl⟩⟩
 | succ h ht ih =>
  rename_i s m ov brk m' ov' brk'
  obtain ⟨rfl, hI, hF⟩ := ih
  have key : ∀ o : Out WM, S.thr.Start s m o → o.mem = m ∧ ((o = .yield m ∧ 0 < S.k s) ∨ (o = .done m ∧ S.k s = 0 ∧ S.bad s = false) ∨ (o = .broke m ∧ S.k s = 0 ∧ S.bad s = true)) := by
   intro o ho
   replace ho : o = if (S.wb s).isSome then S.out s m else .done m := ho
   by_cases hw : (S.wb s).isSome = true
   · rw [if_pos hw, WS.out_eq hw m (by rw [h0]; omega), h0] at ho
     subst ho
     by_cases hk : 0 < S.k s
     · rw [if_pos hk]; exact ⟨rfl, .inl ⟨rfl, hk⟩⟩
     · rw [if_neg hk]
       cases hbd : S.bad s with
       | true => exact ⟨rfl, .inr (.inr ⟨rfl, by omega, rfl⟩)⟩
       | false => exact ⟨rfl, .inr (.inl ⟨rfl, by omega, rfl⟩)⟩
   · rw [if_neg hw] at ho
     subst ho
     exact ⟨rfl, .inr (.inl ⟨rfl, by unfold WS.k; rw [if_neg hw], by unfold WS.bad; simp at hw; simp [hw]⟩)⟩
  have lift : ∀ (ov2 brk2 : Nat → Bool), (∀ j, j ≠ s → ov2 j = ov j ∧ brk2 j = brk j) → ov2 s = decide (m.pos s = S.k s) → brk2 s = (decide (m.pos s = S.k s) && S.bad s) → WIv S (s + 1) ⟨m, ov2, brk2, []⟩ := by
   intro ov2 brk2 h1 h2 h3
   refine ⟨fun i hi => ?_, fun i hi => ?_, fun i hi => ?_, hI.bd⟩
   · show m.pos i ≤ _; rw [h0]; omega
   · by_cases e : i = s
     · subst e; exact h2
     · rw [show (OSt.mk m ov2 brk2 []).ov i = ov i from (h1 i e).1]; exact hI.ov i (by omega)
   · by_cases e : i = s
     · subst e; exact h3
     · rw [show (OSt.mk m ov2 brk2 []).brk i = brk i from (h1 i e).2]; exact hI.brk i (by omega)
  cases ht with
  | yield hs =>
   obtain ⟨h1, ⟨h2, h3⟩ | ⟨h2, _⟩ | ⟨h2, _⟩⟩ := key _ hs
   · obtain rfl : _ = m := h1
     refine ⟨rfl, lift _ _ (fun _ _ => ⟨rfl, rfl⟩) ?_ ?_, fun i hi => hF i (by omega)⟩
     · rw [(hF s (Nat.le_refl _)).1, h0]; simp; omega
     · rw [(hF s (Nat.le_refl _)).2, h0, show decide (0 = S.k s) = false by simp; omega]; rfl
   · cases h2
   · cases h2
  | done hs =>
   obtain ⟨h1, ⟨h2, _⟩ | ⟨h2, h3, h4⟩ | ⟨h2, _⟩⟩ := key _ hs
   · cases h2
   · obtain rfl : _ = m := h1
     refine ⟨rfl, lift _ _ (fun j hj => by simp [hj]) ?_ ?_, fun i hi => by simp only [show i ≠ s by omega, if_false]; exact hF i (by omega)⟩
     · rw [h0, h3]; simp
     · rw [h4]; simp
   · cases h2
  | broke hs =>
   obtain ⟨h1, ⟨h2, _⟩ | ⟨h2, _⟩ | ⟨h2, h3, h4⟩⟩ := key _ hs
   · cases h2
   · cases h2
   · obtain rfl : _ = m := h1
     refine ⟨rfl, lift _ _ (fun j hj => by simp [hj]) ?_ ?_, fun i hi => by simp only [show i ≠ s by omega, if_false]; exact hF i (by omega)⟩
     · rw [h0, h3]; simp
     · rw [h0, h3, h4]; simp
theorem step_walk {most : Nat} {x : Int} {a b : OSt WM} (hI : WIv S S.N a) (h : Step1 S.thr S.N most x a b) : WIv S S.N b ∧ S.ls b = wstm S.N most (S.ls a) x := by
 have hls : ∀ i, i < S.N → (0 < (S.ls a).1 i ↔ a.ov i = false) := fun i hi => by
  rw [hI.ov i hi]
  have := hI.pos i hi
  show 0 < S.k i - a.m.pos i ↔ _
  simp only [decide_eq_false_iff_not]
  omega
 cases h with
 | not hn =>
  refine ⟨hI, ?_⟩
  unfold wstm
  split
  · rfl
  · rename_i hne
    unfold wstp
    rw [if_neg]
    rintro ⟨h1, h2, h3⟩
    rcases hn with h | h | h | h
    · omega
    · omega
    · have := (hls x.toNat (by omega)).1 h3
      rw [h] at this; cases this
    · exact hne h
 | go i hx hi ho hm ht =>
  rename_i m' ov' brk'
  subst hx
  have hpi := hI.pos i hi
  have hov := hI.ov i hi
  rw [ho] at hov
  have hlt : a.m.pos i < S.k i := by
   have := of_decide_eq_false hov.symm
   omega
  have hw : (S.wb i).isSome = true := by
   cases hw : (S.wb i).isSome with
   | true => rfl
   | false => unfold WS.k at hlt; rw [hw] at hlt; simp at hlt
  have key : ∀ o : Out WM, S.thr.Go i a.m o → ∃ v, o.mem = a.m.on i v ∧ ((o = .yield (a.m.on i v) ∧ a.m.pos i + 1 < S.k i) ∨ (o = .done (a.m.on i v) ∧ a.m.pos i + 1 = S.k i ∧ S.bad i = false) ∨ (o = .broke (a.m.on i v) ∧ a.m.pos i + 1 = S.k i ∧ S.bad i = true)) := by
   rintro o ⟨v, ho⟩
   have hon : (a.m.on i v).pos i = a.m.pos i + 1 := by simp [WM.on]
   rw [WS.out_eq hw _ (by rw [hon]; omega), hon] at ho
   subst ho
   refine ⟨v, ?_⟩
   by_cases hk : a.m.pos i + 1 < S.k i
   · rw [if_pos hk]; exact ⟨rfl, .inl ⟨rfl, hk⟩⟩
   · rw [if_neg hk]
     cases hbd : S.bad i with
     | true => exact ⟨rfl, .inr (.inr ⟨rfl, by omega, rfl⟩)⟩
     | false => exact ⟨rfl, .inr (.inl ⟨rfl, by omega, rfl⟩)⟩
  have lift : ∀ (v : Value) (ov2 brk2 : Nat → Bool), (∀ j, j ≠ i → ov2 j = a.ov j ∧ brk2 j = a.brk j) → ov2 i = decide (a.m.pos i + 1 = S.k i) → brk2 i = (decide (a.m.pos i + 1 = S.k i) && S.bad i) → WIv S S.N ⟨a.m.on i v, ov2, brk2, a.ord ++ [i]⟩ ∧ S.ls ⟨a.m.on i v, ov2, brk2, a.ord ++ [i]⟩ = wstm S.N most (S.ls a) i := by
   intro v ov2 brk2 h1 h2 h3
   have hp : ∀ j, (a.m.on i v).pos j = if j = i then a.m.pos i + 1 else a.m.pos j := fun j => rfl
   refine ⟨⟨fun j hj => ?_, fun j hj => ?_, fun j hj => ?_, ?_⟩, ?_⟩
   · show (a.m.on i v).pos j ≤ _
     rw [hp]
     split
     · rename_i e; subst e; omega
     · exact hI.pos j hj
   · show ov2 j = decide ((a.m.on i v).pos j = S.k j)
     rw [hp]
     by_cases e : j = i
     · subst e; simp only [if_true]; exact h2
     · simp only [e, if_false]; rw [(h1 j e).1]; exact hI.ov j hj
   · show brk2 j = (decide ((a.m.on i v).pos j = S.k j) && S.bad j)
     rw [hp]
     by_cases e : j = i
     · subst e; simp only [if_true]; exact h3
     · simp only [e, if_false]; rw [(h1 j e).2]; exact hI.brk j hj
   · show a.m.bd ++ [(i : Int)] = (a.ord ++ [i]).map _
     rw [hI.bd, List.map_append]; rfl
   · unfold wstm
     rw [if_neg (show ¬ (S.ls a).2.length = most from hm)]
     unfold wstp
     rw [if_pos ⟨by omega, by omega, by rw [Int.toNat_natCast]; exact (hls i hi).2 ho⟩, Int.toNat_natCast]
     unfold WS.ls dec1
     refine Prod.ext ?_ rfl
     funext j
     show S.k j - (a.m.on i v).pos j = _
     rw [hp]
     by_cases e : j = i
     · subst e; simp only [if_true]; omega
     · simp only [e, if_false]
  cases ht with
  | yield hs =>
   obtain ⟨v, h1, ⟨h2, h3⟩ | ⟨h2, _⟩ | ⟨h2, _⟩⟩ := key _ hs
   · obtain rfl : _ = a.m.on i v := h1
     refine lift v _ _ (fun _ _ => ⟨rfl, rfl⟩) ?_ ?_
     · rw [ho, eq_comm, decide_eq_false_iff_not]; omega
     · rw [hI.brk i hi, show decide (a.m.pos i = S.k i) = false by rw [decide_eq_false_iff_not]; omega, show decide (a.m.pos i + 1 = S.k i) = false by rw [decide_eq_false_iff_not]; omega]
   · cases h2
   · cases h2
  | done hs =>
   obtain ⟨v, h1, ⟨h2, _⟩ | ⟨h2, h3, h4⟩ | ⟨h2, _⟩⟩ := key _ hs
   · cases h2
   · obtain rfl : _ = a.m.on i v := h1
     refine lift v _ _ (fun j hj => by simp [hj]) ?_ ?_
     · simp [h3]
     · simp [h4]
   · cases h2
  | broke hs =>
   obtain ⟨v, h1, ⟨h2, _⟩ | ⟨h2, _⟩ | ⟨h2, h3, h4⟩⟩ := key _ hs
   · cases h2
   · cases h2
   · obtain rfl : _ = a.m.on i v := h1
     refine lift v _ _ (fun j hj => by simp [hj]) ?_ ?_
     · simp [h3]
     · simp [h3, h4]
theorem steps_walk {most : Nat} {l : List Int} {a b : OSt WM} (hI : WIv S S.N a) (h : StepsR S.thr S.N most l a b) : WIv S S.N b ∧ S.ls b = l.foldl (wstm S.N most) (S.ls a) := by
 induction h with
 | nil a => exact ⟨hI, rfl⟩
 | cons h _ ih =>
  obtain ⟨k1, k2⟩ := step_walk hI h
  obtain ⟨k3, k4⟩ := ih k1
  exact ⟨k3, by rw [k4, k2]; rfl⟩
theorem rounds_walk {most : Nat} {a b : OSt WM} (hI : WIv S S.N a) (h : Rounds S.thr S.N most a b) : WIv S S.N b ∧ (∃ R, S.ls b = (cycl S.N (S.N * R)).foldl (wstm S.N most) (S.ls a)) ∧ ¬ (0 < leftN b.ov S.N ∧ b.ord.length < most) := by
 induction h with
 | stop a h => exact ⟨hI, ⟨0, rfl⟩, h⟩
 | more h hs hr ih =>
  obtain ⟨k1, k2⟩ := steps_walk hI hs
  obtain ⟨k3, ⟨R, k4⟩, k5⟩ := ih k1
  refine ⟨k3, ⟨R + 1, ?_⟩, k5⟩
  have hN : 0 < S.N := Nat.lt_of_lt_of_le h.1 (leftN_le _ _)
  rw [k4, k2, ← List.foldl_append, cycl_add _ _ hN, Nat.mul_succ, Nat.add_comm]
theorem ends_walk {ov : Nat → Bool} {m₀ : WM} {s : Nat} {m : WM} (h : Go.Car.Ends S.thr ov m₀ s m) : m.bd = m₀.bd := by
 induction h with
 | zero => rfl
 | over _ _ ih => exact ih
 | kill _ _ hk ih => subst hk; exact ih
structure WRan (S : WS) (sched : List Int) (most : Nat) (b : OSt WM) (R : Nat) : Prop where
 iv : WIv S S.N b
 ls : S.ls b = (sched ++ cycl S.N (S.N * R)).foldl (wstm S.N most) (fun i => S.k i, [])
 stop : ¬ (0 < leftN b.ov S.N ∧ b.ord.length < most)
theorem ran_walk {m₀ : WM} (h0 : ∀ i, m₀.pos i = 0) (hb : m₀.bd = []) {sched : List Int} {most : Nat} {b : OSt WM} {m' : WM} (h : Ran S.thr S.N sched most m₀ b m') : (∃ R, WRan S sched most b R) ∧ m'.bd = b.ord.map fun (i : Nat) => (i : Int) := by
 obtain ⟨m₁, ov₁, brk₁, a, h1, h2, h3⟩ := h.run
 obtain ⟨rfl, k1, _⟩ := begun_walk h0 hb h1
 obtain ⟨k2, k3⟩ := steps_walk k1 h2
 obtain ⟨k4, ⟨R, k5⟩, k6⟩ := rounds_walk k2 h3
 refine ⟨⟨R, k4, ?_, k6⟩, by rw [ends_walk h.ends]; exact k4.bd⟩
 rw [k5, k3, List.foldl_append]
 congr 2
 unfold WS.ls
 simp only [h0, Nat.sub_zero]
end
end Go.Proofs
