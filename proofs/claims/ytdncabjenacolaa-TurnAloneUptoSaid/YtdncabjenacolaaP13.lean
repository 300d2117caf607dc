/- YtdncabjenacolaaTAlone9: part 13 of the proof (the texts behind it, in order). -/
import Derived.Test.YtdncabjenacolaaP12
set_option linter.unusedSimpArgs false
set_option linter.unusedVariables false
set_option linter.unusedSectionVars false
set_option linter.unnecessarySimpa false
set_option maxHeartbeats 1000000
set_option maxRecDepth 100000
namespace Go.Proofs
open Go Go.Conc Go.RowKit Go.Car
noncomputable def wkL : Code := match headC (Try.f37.body.getD .skip) with | .seq _ (.block _ (.loop c)) => c | _ => .skip
noncomputable def wkT : Code := match Try.f37.body.getD .skip with | .seq _ c => c | _ => .skip
noncomputable def wkB : Code := match tailN 1 wkL with | .seq (.block _ c) _ => c | _ => .skip
noncomputable def wkS : Code := match tailN 2 wkB with | .cond _ c _ => c | _ => .skip
noncomputable def k1c : Code := headC (headC wkL)
noncomputable def k2c : Code := match tailN 1 wkL with | .seq (.block _ _) c => c | _ => .skip
noncomputable def k3c : Code := headC (headC wkB)
noncomputable def k4c : Code := match headC wkB with | .seq _ (.cond _ c _) => c | _ => .skip
noncomputable def k5c : Code := headC (tailN 1 wkB)
noncomputable def k6c : Code := headC wkS
noncomputable def k7c : Code := tailN 1 wkS
noncomputable def k8c : Code := headC wkT
noncomputable def k9c : Code := match wkT with | .seq _ (.cond _ c _) => c | _ => .skip
theorem wkL_eq : wkL = .seq (.seq k1c (.cond (.tmp 10) .skip (.exit 0))) (.seq (.block 1 wkB) k2c) := by kernel_rfl
theorem wkB_eq : wkB = .seq (.seq k3c (.cond (.tmp 18) k4c .skip)) (.seq k5c (.cond (.tmp 28) wkS .skip)) := by kernel_rfl
theorem wkS_eq : wkS = .seq k6c k7c := by kernel_rfl
theorem wkT_eq : wkT = .seq k8c (.cond (.tmp 58) k9c .skip) := by kernel_rfl
structure FrW (wb : Nat) (iv : Value) (i : Int) (T : Array Value) : Prop where
 size : T.size = 67
 t0 : T[0]? = some (.pointer (some ⟨wb, 0, none⟩))
 t1 : T[1]? = some iv
 t4 : T[4]? = some (.int .i64 i)
theorem wlk_in {Kc : Addr → Option Value} {main : Bool} {J : Goroutine → World → Prop} (hJ : JS Try.prog main Kc (fun (_ : Unit) => J)) {wb : Nat} {iv : Value} {i : Int} {T : Array Value} {w : World} {K : List Item} {cs : List Frame} (hF : FrW wb iv i T) {n : Int} (cn : w.cell? ⟨wb, 2, none⟩ = some (.int .i64 n)) (hlt : i < n)
 (hmain : ∀ T', FrW wb iv i T' → J (G ((bN 37).at ⟨T', []⟩ (.code wkB :: .inBlock 1 :: .code k2c :: K)) cs) w) : J (G ((bN 37).at ⟨T, []⟩ (.code wkL :: K)) cs) w := by
 have d0 : decide (i < n) = true := by simpa using hlt
 obtain ⟨hsz, f0, f1, f4⟩ := hF
 have hm := Lib.hid hmain
 clear hmain
 refine code_eq (J := fun (_ : Unit) => J) (s := ()) wkL_eq ?_
 obtain ⟨u0, hu0⟩ : ∃ c, k1c = c := ⟨_, rfl⟩
 have eu0 := hu0
 rw [hu0]
 simp only [wkL, wkB, wkT, wkS, k1c, k2c, k3c, k4c, k5c, k6c, k7c, k8c, k9c, headC, tailN, Try.f37, al_od] at eu0
 subst eu0
 clear hu0
 refine hJ.ctl (s := ()) (fun w => stepG_seq) ?_
 refine hJ.ctl (s := ()) (fun w => stepG_seq) ?_
 refine hJ.ctl (s := ()) (fun w => stepG_region) ?_
 refine at_eval (J := fun (_ : Unit) => J) (s := ()) hJ (by decide) 0 [.int .i64 i, .pointer (some ⟨wb, 0, none⟩), .pointer (some ⟨wb, 0, none⟩), .pointer (some ⟨wb, 2, none⟩), .int .i64 n, .bool true] [] rfl (by simp) (by rfl) ?_ ?_
 · intro τ d
   simp only [evalsO, dstOf, al_gl, al_g0, al_g1, al_ob]
   refine ⟨?_, ?_, ?_, ?_, ?_, ?_, trivial⟩ <;> (intro o ho; simp only [al_oi] at ho; subst ho)
   all_goals (try simp only [execOp, Act.eval, List.map_toArray, List.map_cons, List.map_nil, al_gd])
   all_goals (try simp only [al_gs, al_gz, hsz, f0, f1, f4, Nat.reduceEqDiff, Nat.reduceLT, ↓reduceIte, al_od])
   all_goals (have hlt : ∀ i, i < 67 → i < (T).size := fun i hi => (by rw [hsz]; exact hi))
   all_goals (clear hsz f0 f1 f4)
   all_goals (try go_simp)
   all_goals (try omega)
 simp only [putv, dstOf, al_gl, al_g0, al_g1, al_ob]
 obtain ⟨T1, hT⟩ : ∃ X, X = ((((((T).setIfInBounds 5 (.int .i64 i)).setIfInBounds 6 (.pointer (some ⟨wb, 0, none⟩))).setIfInBounds 7 (.pointer (some ⟨wb, 0, none⟩))).setIfInBounds 8 (.pointer (some ⟨wb, 2, none⟩))).setIfInBounds 9 (.int .i64 n)).setIfInBounds 10 (.bool true) := ⟨_, rfl⟩
 rw [← hT]
 have hT1 : T1.size = 67 := by rw [hT]; simp [hsz]
 have T1_0 : T1[0]? = some (.pointer (some ⟨wb, 0, none⟩)) := by rw [hT]; simp only [al_gs, Nat.reduceEqDiff, ↓reduceIte]; exact f0
 have T1_1 : T1[1]? = some (iv) := by rw [hT]; simp only [al_gs, Nat.reduceEqDiff, ↓reduceIte]; exact f1
 have T1_4 : T1[4]? = some (.int .i64 i) := by rw [hT]; simp only [al_gs, Nat.reduceEqDiff, ↓reduceIte]; exact f4
 have T1_10 : T1[10]? = some (.bool true) := by rw [hT]; simp [al_gs, hsz]
 clear hT f0 f1 f4 hsz
 refine hJ.ctl (s := ()) (fun w => stepG_region_end) ?_
 refine hJ.ctl (s := ()) (fun w => stepG_cond (t := true) (by simp [Act.eval, al_gd, T1_10])) ?_
 simp only [if_true]
 refine hJ.ctl (s := ()) (fun w => stepG_skip) ?_
 refine hJ.ctl (s := ()) (fun w => stepG_seq) ?_
 refine hJ.ctl (s := ()) (fun w => stepG_block) ?_
 exact hm.out _ ⟨hT1, T1_0, T1_1, T1_4⟩
theorem walk_out {Kc : Addr → Option Value} {main : Bool} {J : Goroutine → World → Prop} (hJ : JS Try.prog main Kc (fun (_ : Unit) => J)) {wb : Nat} {iv : Value} {i : Int} {T : Array Value} {w : World} {K : List Item} {cs : List Frame} (hF : FrW wb iv i T) {n : Int} (cn : w.cell? ⟨wb, 2, none⟩ = some (.int .i64 n)) (hlt : ¬ i < n)
 (hmain : ∀ T', FrW wb iv i T' → J (G ((bN 37).at ⟨T', []⟩ K) cs) w) : J (G ((bN 37).at ⟨T, []⟩ (.code wkL :: .inLoop wkL :: .inBlock 0 :: K)) cs) w := by
 have d0 : decide (i < n) = false := by simpa using hlt
 obtain ⟨hsz, f0, f1, f4⟩ := hF
 have hm := Lib.hid hmain
 clear hmain
 refine code_eq (J := fun (_ : Unit) => J) (s := ()) wkL_eq ?_
 obtain ⟨u0, hu0⟩ : ∃ c, k1c = c := ⟨_, rfl⟩
 have eu0 := hu0
 rw [hu0]
 simp only [wkL, wkB, wkT, wkS, k1c, k2c, k3c, k4c, k5c, k6c, k7c, k8c, k9c, headC, tailN, Try.f37, al_od] at eu0
 subst eu0
 clear hu0
 refine hJ.ctl (s := ()) (fun w => stepG_seq) ?_
 refine hJ.ctl (s := ()) (fun w => stepG_seq) ?_
 refine hJ.ctl (s := ()) (fun w => stepG_region) ?_
 refine at_eval (J := fun (_ : Unit) => J) (s := ()) hJ (by decide) 0 [.int .i64 i, .pointer (some ⟨wb, 0, none⟩), .pointer (some ⟨wb, 0, none⟩), .pointer (some ⟨wb, 2, none⟩), .int .i64 n, .bool false] [] rfl (by simp) (by rfl) ?_ ?_
 · intro τ d
   simp only [evalsO, dstOf, al_gl, al_g0, al_g1, al_ob]
   refine ⟨?_, ?_, ?_, ?_, ?_, ?_, trivial⟩ <;> (intro o ho; simp only [al_oi] at ho; subst ho)
   all_goals (try simp only [execOp, Act.eval, List.map_toArray, List.map_cons, List.map_nil, al_gd])
   all_goals (try simp only [al_gs, al_gz, hsz, f0, f1, f4, Nat.reduceEqDiff, Nat.reduceLT, ↓reduceIte, al_od])
   all_goals (have hlt : ∀ i, i < 67 → i < (T).size := fun i hi => (by rw [hsz]; exact hi))
   all_goals (clear hsz f0 f1 f4)
   all_goals (try go_simp)
   all_goals (try omega)
 simp only [putv, dstOf, al_gl, al_g0, al_g1, al_ob]
 obtain ⟨T1, hT⟩ : ∃ X, X = ((((((T).setIfInBounds 5 (.int .i64 i)).setIfInBounds 6 (.pointer (some ⟨wb, 0, none⟩))).setIfInBounds 7 (.pointer (some ⟨wb, 0, none⟩))).setIfInBounds 8 (.pointer (some ⟨wb, 2, none⟩))).setIfInBounds 9 (.int .i64 n)).setIfInBounds 10 (.bool false) := ⟨_, rfl⟩
 rw [← hT]
 have hT1 : T1.size = 67 := by rw [hT]; simp [hsz]
 have T1_0 : T1[0]? = some (.pointer (some ⟨wb, 0, none⟩)) := by rw [hT]; simp only [al_gs, Nat.reduceEqDiff, ↓reduceIte]; exact f0
 have T1_1 : T1[1]? = some (iv) := by rw [hT]; simp only [al_gs, Nat.reduceEqDiff, ↓reduceIte]; exact f1
 have T1_4 : T1[4]? = some (.int .i64 i) := by rw [hT]; simp only [al_gs, Nat.reduceEqDiff, ↓reduceIte]; exact f4
 have T1_10 : T1[10]? = some (.bool false) := by rw [hT]; simp [al_gs, hsz]
 clear hT f0 f1 f4 hsz
 refine hJ.ctl (s := ()) (fun w => stepG_region_end) ?_
 refine hJ.ctl (s := ()) (fun w => stepG_cond (t := false) (by simp [Act.eval, al_gd, T1_10])) ?_
 simp only [Bool.false_eq_true, if_false]
 refine hJ.ctl (s := ()) (fun w => stepG_exit (k' := K) rfl) ?_
 exact hm.out _ ⟨hT1, T1_0, T1_1, T1_4⟩
noncomputable def beyP (x : Int) (s : Bool) : PanicEntry := { v := .iface Try.prog.rt.boundsError (.agg #[.int .i64 x, .int .i64 0, .bool s, .int .u8 0]), recovered := false }
theorem beyond_raise {Kc : Addr → Option Value} {main : Bool} {J : Goroutine → World → Prop} (hJ : JS Try.prog main Kc (fun (_ : Unit) => J)) {x : Int} (h0 : 0 ≤ x) (h1 : x < 64) {w : World} {cl : Frame} {cs : List Frame} (hmain : ∀ s, J (G (cl.raise [beyP x s]) cs) w) :
 J (G (Frame.enter Try.prog 47 #[.int .i64 x] .normal) (cl :: cs)) w := by
 have hm := Lib.hid hmain
 clear hmain
 have e : Frame.enter Try.prog 47 #[.int .i64 x] .normal = (bN 47).at (enterAct Try.f47 #[.int .i64 x]) [.code ((Try.f47.body).getD .skip)] := rfl
 rw [e]
 simp only [Try.f47, enterAct, al_od, List.size_toArray, List.length_cons, List.length_nil, Nat.reduceAdd, Nat.reduceSub, Array.replicate_succ, Array.replicate_zero, List.push_toArray, List.append_toArray, List.nil_append, List.cons_append]
 refine hJ.ctl (s := ()) (fun w => stepG_seq) ?_
 refine hJ.ctl (s := ()) (fun w => stepG_region) ?_
 refine at_piece (J := fun (_ : Unit) => J) (s := ()) (by decide) hJ (zqg _) true (.inl rfl) 0 1 0 rfl rfl rfl (by rfl) ?_
 intro τ d
 simp only [List.drop_zero, List.drop_succ_cons, List.take_succ_cons, List.take_zero]
 go_wp2
 simp only [contAt]
 refine hJ.re' () _ w τ d ?_
 refine hJ.ctl (s := ()) (fun w => stepG_region_end) ?_
 refine hJ.ctl (s := ()) (fun w => stepG_seq) ?_
 refine hJ.ctl (s := ()) (fun w => stepG_region) ?_
 refine at_piece (J := fun (_ : Unit) => J) (s := ()) (by decide) hJ (zqg _) true (.inl rfl) 0 1 0 rfl rfl rfl (by rfl) ?_
 intro τ d
 simp only [List.drop_zero, List.drop_succ_cons, List.take_succ_cons, List.take_zero]
 go_wp2
 simp only [contAt]
 refine hJ.re' () _ w τ d ?_
 refine hJ.ctl (s := ()) (fun w => stepG_region_end) ?_
 refine hJ.ctl (s := ()) (fun w => stepG_seq) ?_
 refine hJ.ctl (s := ()) (fun w => stepG_region) ?_
 refine at_piece (J := fun (_ : Unit) => J) (s := ()) (by decide) hJ (zqg _) true (.inl rfl) 0 2 3 rfl rfl rfl (by rfl) ?_
 intro τ d
 simp only [List.drop_zero, List.drop_succ_cons, List.take_succ_cons, List.take_zero]
 go_wp2
 simp only [contAt]
 refine hJ.re' () _ w τ d ?_
 have hrun : ∀ W : World, ∃ sg W', (boundsPanic (α := Value) .i64 x 0 .index).run Try.prog W = .halt (.panic (.iface Try.prog.rt.boundsError (.agg #[.int .i64 x, .int .i64 0, .bool sg, .int .u8 0]))) W' ∧ (W' = W ∨ W' = W.drew) := by
  intro W
  by_cases h31 : x ≤ 31
  · exact ⟨_, _, Lib.run_boundsPanic_index Try.prog x 0 W h0 h31, .inr rfl⟩
  · refine ⟨true, W, ?_, .inl rfl⟩
    have hw : IntKind.i64.wrap x = x := IntWalk.i64_in _ (by omega)
    simp [boundsPanic, runtimePanic, goPanic, h31, hw]
    rfl
 have hop : ∀ (W : World), (Instr.indexAt 24 (.slice none 0 0) (.int .i64 x)).run Try.prog W = (boundsPanic .i64 x 0 .index).run Try.prog W := fun W => Lib.run_indexAt_nil W _ 3 0 0 .i64 x (by kernel_rfl)
 refine at_cons (J := fun (_ : Unit) => J) (s := ()) (by decide) hJ (i := 2) rfl rfl fun τ d => ?_
 have hev := fun (o : Oper) (h : readOp Try.prog o.op = true) (ρ : Operand → Value) => evs_read (Kc := Kc) (execOp_read (P := Try.prog) o h ρ) (re w τ d)
 refine ⟨(hev _ rfl _).1, (hev _ rfl _).2, ?_⟩
 obtain ⟨sg, W', hW, hd⟩ := hrun (re w τ d)
 have hex : ∀ (o : Oper) (a : Act), o.op = .indexAddr 24 (.tmp 4) (.tmp 5) → a.tmps = #[.int .i64 x, undef, .int .i64 0, .slice none 0 0, .slice none 0 0, .int .i64 x, undef, undef] → (execOp a.eval o).run Try.prog (re w τ d) = .halt (.panic (.iface Try.prog.rt.boundsError (.agg #[.int .i64 x, .int .i64 0, .bool sg, .int .u8 0]))) W' := by
  intro o a ho ha
  have e4 : a.eval (.tmp 4) = .slice none 0 0 := by simp [Act.eval, ha]
  have e5 : a.eval (.tmp 5) = .int .i64 x := by simp [Act.eval, ha]
  unfold execOp
  simp only [ho, e4, e5, Sem.run_bind, hop, hW, Result.andThen]
 rw [hex _ _ rfl rfl]
 intro todo
 refine raiseJ (s := ()) hJ (b := bN 47) rfl Try.func47 ?_
 rcases hd with rfl | rfl
 · exact hJ.re' () _ _ τ d (hm.out sg)
 · exact hJ.re' () _ w τ (d + 1) (hm.out sg)
theorem walk_bad {Kc : Addr → Option Value} {main : Bool} {J : Goroutine → World → Prop} (hJ : JS Try.prog main Kc (fun (_ : Unit) => J)) {wb : Nat} {iv : Value} {i : Int} {T : Array Value} {w : World} {K : List Item} {cl : Frame} {cs : List Frame} (hF : FrW wb iv i T) {a x : Int} (ca : w.cell? ⟨wb, 3, none⟩ = some (.int .i64 a)) (cx : w.cell? ⟨wb, 1, none⟩ = some (.int .i64 x)) (ha : i = a) (hx0 : 0 ≤ x) (hx1 : x < 64)
 (hmain : ∀ sg, J (G (cl.raise [beyP x sg]) cs) w) : J (G ((bN 37).at ⟨T, []⟩ (.code wkB :: K)) (cl :: cs)) w := by
 have d0 : decide (i = a) = true := by simpa using ha
 obtain ⟨hsz, f0, f1, f4⟩ := hF
 have hm := Lib.hid hmain
 clear hmain
 refine code_eq (J := fun (_ : Unit) => J) (s := ()) wkB_eq ?_
 obtain ⟨u0, hu0⟩ : ∃ c, k3c = c := ⟨_, rfl⟩
 have eu0 := hu0
 rw [hu0]
 simp only [wkL, wkB, wkT, wkS, k1c, k2c, k3c, k4c, k5c, k6c, k7c, k8c, k9c, headC, tailN, Try.f37, al_od] at eu0
 subst eu0
 clear hu0
 obtain ⟨u1, hu1⟩ : ∃ c, k4c = c := ⟨_, rfl⟩
 have eu1 := hu1
 rw [hu1]
 simp only [wkL, wkB, wkT, wkS, k1c, k2c, k3c, k4c, k5c, k6c, k7c, k8c, k9c, headC, tailN, Try.f37, al_od] at eu1
 subst eu1
 clear hu1
 refine hJ.ctl (s := ()) (fun w => stepG_seq) ?_
 refine hJ.ctl (s := ()) (fun w => stepG_seq) ?_
 refine hJ.ctl (s := ()) (fun w => stepG_region) ?_
 refine at_eval (J := fun (_ : Unit) => J) (s := ()) hJ (by decide) 0 [.int .i64 i, .pointer (some ⟨wb, 0, none⟩), .pointer (some ⟨wb, 0, none⟩), .pointer (some ⟨wb, 3, none⟩), .int .i64 a, .bool true] [] rfl (by simp) (by rfl) ?_ ?_
 · intro τ d
   simp only [evalsO, dstOf, al_gl, al_g0, al_g1, al_ob]
   refine ⟨?_, ?_, ?_, ?_, ?_, ?_, trivial⟩ <;> (intro o ho; simp only [al_oi] at ho; subst ho)
   all_goals (try simp only [execOp, Act.eval, List.map_toArray, List.map_cons, List.map_nil, al_gd])
   all_goals (try simp only [al_gs, al_gz, hsz, f0, f1, f4, Nat.reduceEqDiff, Nat.reduceLT, ↓reduceIte, al_od])
   all_goals (have hlt : ∀ i, i < 67 → i < (T).size := fun i hi => (by rw [hsz]; exact hi))
   all_goals (clear hsz f0 f1 f4)
   all_goals (try go_simp)
   all_goals (try omega)
 simp only [putv, dstOf, al_gl, al_g0, al_g1, al_ob]
 obtain ⟨T1, hT⟩ : ∃ X, X = ((((((T).setIfInBounds 13 (.int .i64 i)).setIfInBounds 14 (.pointer (some ⟨wb, 0, none⟩))).setIfInBounds 15 (.pointer (some ⟨wb, 0, none⟩))).setIfInBounds 16 (.pointer (some ⟨wb, 3, none⟩))).setIfInBounds 17 (.int .i64 a)).setIfInBounds 18 (.bool true) := ⟨_, rfl⟩
 rw [← hT]
 have hT1 : T1.size = 67 := by rw [hT]; simp [hsz]
 have T1_0 : T1[0]? = some (.pointer (some ⟨wb, 0, none⟩)) := by rw [hT]; simp only [al_gs, Nat.reduceEqDiff, ↓reduceIte]; exact f0
 have T1_1 : T1[1]? = some (iv) := by rw [hT]; simp only [al_gs, Nat.reduceEqDiff, ↓reduceIte]; exact f1
 have T1_4 : T1[4]? = some (.int .i64 i) := by rw [hT]; simp only [al_gs, Nat.reduceEqDiff, ↓reduceIte]; exact f4
 have T1_18 : T1[18]? = some (.bool true) := by rw [hT]; simp [al_gs, hsz]
 clear hT f0 f1 f4 hsz
 refine hJ.ctl (s := ()) (fun w => stepG_region_end) ?_
 refine hJ.ctl (s := ()) (fun w => stepG_cond (t := true) (by simp [Act.eval, al_gd, T1_18])) ?_
 simp only [if_true]
 refine hJ.ctl (s := ()) (fun w => stepG_region) ?_
 refine at_eval (J := fun (_ : Unit) => J) (s := ()) hJ (by decide) 0 [.pointer (some ⟨wb, 0, none⟩), .pointer (some ⟨wb, 0, none⟩), .pointer (some ⟨wb, 0, none⟩), .pointer (some ⟨wb, 1, none⟩), .int .i64 x] [5, 6, 7, 8] rfl (by simp) (by rfl) ?_ ?_
 · intro τ d
   simp only [evalsO, dstOf, al_gl, al_g0, al_g1, al_ob]
   refine ⟨?_, ?_, ?_, ?_, ?_, trivial⟩ <;> (intro o ho; simp only [al_oi] at ho; subst ho)
   all_goals (try simp only [execOp, Act.eval, List.map_toArray, List.map_cons, List.map_nil, al_gd])
   all_goals (try simp only [al_gs, al_gz, hT1, T1_0, T1_1, T1_4, T1_18, Nat.reduceEqDiff, Nat.reduceLT, ↓reduceIte, al_od])
   all_goals (have hlt : ∀ i, i < 67 → i < (T1).size := fun i hi => (by rw [hT1]; exact hi))
   all_goals (clear hT1 T1_0 T1_1 T1_4 T1_18)
   all_goals (try go_simp)
   all_goals (try omega)
 simp only [putv, dstOf, al_gl, al_g0, al_g1, al_ob]
 obtain ⟨T2, hT⟩ : ∃ X, X = (((((T1).setIfInBounds 19 (.pointer (some ⟨wb, 0, none⟩))).setIfInBounds 20 (.pointer (some ⟨wb, 0, none⟩))).setIfInBounds 21 (.pointer (some ⟨wb, 0, none⟩))).setIfInBounds 22 (.pointer (some ⟨wb, 1, none⟩))).setIfInBounds 23 (.int .i64 x) := ⟨_, rfl⟩
 rw [← hT]
 have hT2 : T2.size = 67 := by rw [hT]; simp [hT1]
 have T2_0 : T2[0]? = some (.pointer (some ⟨wb, 0, none⟩)) := by rw [hT]; simp only [al_gs, Nat.reduceEqDiff, ↓reduceIte]; exact T1_0
 have T2_1 : T2[1]? = some (iv) := by rw [hT]; simp only [al_gs, Nat.reduceEqDiff, ↓reduceIte]; exact T1_1
 have T2_4 : T2[4]? = some (.int .i64 i) := by rw [hT]; simp only [al_gs, Nat.reduceEqDiff, ↓reduceIte]; exact T1_4
 have T2_19 : T2[19]? = some (.pointer (some ⟨wb, 0, none⟩)) := by rw [hT]; simp [al_gs, hT1]
 have T2_23 : T2[23]? = some (.int .i64 x) := by rw [hT]; simp [al_gs, hT1]
 clear hT T1_0 T1_1 T1_4 T1_18 hT1
 refine at_call (J := fun (_ : Unit) => J) (s := ()) (by decide) hJ (i := 5) rfl rfl (f := 47) (args := #[.int .i64 x]) (fun τ d => ?_) (fun τ d => ?_) ?_
 · simp [go_sem, execOp, Act.eval, resolve, Deferred.ofValue, invoke, callFunc, Try.func47, Try.f47, al_gd, T2_23]
 · intro e he
   simp [go_sem, execOp, Act.eval, resolve, Deferred.ofValue, invoke, callFunc, Try.func47, Try.f47, Sem.runT_eq, al_gd, T2_23] at he
 refine beyond_raise hJ hx0 hx1 (fun sg => ?_)
 rw [Frame.raise_at]
 exact raiseJ (s := ()) hJ (b := (bN 37)) rfl Try.func37 (hm.out sg)
noncomputable def stepAt (T : Array Value) (K : List Item) : Frame := (bN 37).at ⟨T, []⟩ (.inRegion (match k6c with | .region _ ops _ => ops | _ => #[]) [1] :: .code k7c :: K)
theorem walk_next {Kc : Addr → Option Value} {main : Bool} {J : Goroutine → World → Prop} (hJ : JS Try.prog main Kc (fun (_ : Unit) => J)) {wb : Nat} {iv : Value} {i : Int} {T : Array Value} {w : World} {K : List Item} {cs : List Frame} (hF : FrW wb iv i T) (h0 : 0 ≤ i) (h1 : i < 1000) (hmain : ∀ T', FrW wb iv (i + 1) T' → J (G ((bN 37).at ⟨T', []⟩ K) cs) w) : J (G ((bN 37).at ⟨T, []⟩ (.code k2c :: K)) cs) w := by
 have d1 : IntKind.i64.wrap (i + 1) = i + 1 := IntWalk.i64_in _ (by omega)
 obtain ⟨hsz, f0, f1, f4⟩ := hF
 have hm := Lib.hid hmain
 clear hmain
 obtain ⟨u0, hu0⟩ : ∃ c, k2c = c := ⟨_, rfl⟩
 have eu0 := hu0
 rw [hu0]
 simp only [wkL, wkB, wkT, wkS, k1c, k2c, k3c, k4c, k5c, k6c, k7c, k8c, k9c, headC, tailN, Try.f37, al_od] at eu0
 subst eu0
 clear hu0
 refine hJ.ctl (s := ()) (fun w => stepG_region) ?_
 refine at_eval (J := fun (_ : Unit) => J) (s := ()) hJ (by decide) 0 [.int .i64 i, .int .i64 (i + 1), .int .i64 (i + 1)] [] rfl (by simp) (by rfl) ?_ ?_
 · intro τ d
   simp only [evalsO, dstOf, al_gl, al_g0, al_g1, al_ob]
   refine ⟨?_, ?_, ?_, trivial⟩ <;> (intro o ho; simp only [al_oi] at ho; subst ho)
   all_goals (try simp only [execOp, Act.eval, List.map_toArray, List.map_cons, List.map_nil, al_gd])
   all_goals (try simp only [al_gs, al_gz, hsz, f0, f1, f4, Nat.reduceEqDiff, Nat.reduceLT, ↓reduceIte, al_od])
   all_goals (have hlt : ∀ i, i < 67 → i < (T).size := fun i hi => (by rw [hsz]; exact hi))
   all_goals (clear hsz f0 f1 f4)
   all_goals (try go_simp)
   all_goals (try omega)
 simp only [putv, dstOf, al_gl, al_g0, al_g1, al_ob]
 obtain ⟨T1, hT⟩ : ∃ X, X = (((T).setIfInBounds 11 (.int .i64 i)).setIfInBounds 12 (.int .i64 (i + 1))).setIfInBounds 4 (.int .i64 (i + 1)) := ⟨_, rfl⟩
 rw [← hT]
 have hT1 : T1.size = 67 := by rw [hT]; simp [hsz]
 have T1_0 : T1[0]? = some (.pointer (some ⟨wb, 0, none⟩)) := by rw [hT]; simp only [al_gs, Nat.reduceEqDiff, ↓reduceIte]; exact f0
 have T1_1 : T1[1]? = some (iv) := by rw [hT]; simp only [al_gs, Nat.reduceEqDiff, ↓reduceIte]; exact f1
 have T1_4 : T1[4]? = some (.int .i64 (i + 1)) := by rw [hT]; simp [al_gs, hsz]
 clear hT f0 f1 f4 hsz
 refine hJ.ctl (s := ()) (fun w => stepG_region_end) ?_
 exact hm.out _ ⟨hT1, T1_0, T1_1, T1_4⟩
theorem walk_last {Kc : Addr → Option Value} {main : Bool} {J : Goroutine → World → Prop} (hJ : JS Try.prog main Kc (fun (_ : Unit) => J)) {wb : Nat} {iv : Value} {i : Int} {T : Array Value} {w : World} {cl : Frame} {cs : List Frame} (hF : FrW wb iv i T) {a n x : Int} (ca : w.cell? ⟨wb, 3, none⟩ = some (.int .i64 a)) (cn : w.cell? ⟨wb, 2, none⟩ = some (.int .i64 n)) (cx : w.cell? ⟨wb, 1, none⟩ = some (.int .i64 x)) (ha : a = n) (hx0 : 0 ≤ x) (hx1 : x < 64)
 (hmain : ∀ sg, J (G (cl.raise [beyP x sg]) cs) w) : J (G ((bN 37).at ⟨T, []⟩ [.code wkT]) (cl :: cs)) w := by
 have d0 : decide (a = n) = true := by simpa using ha
 obtain ⟨hsz, f0, f1, f4⟩ := hF
 have hm := Lib.hid hmain
 clear hmain
 refine code_eq (J := fun (_ : Unit) => J) (s := ()) wkT_eq ?_
 obtain ⟨u0, hu0⟩ : ∃ c, k8c = c := ⟨_, rfl⟩
 have eu0 := hu0
 rw [hu0]
 simp only [wkL, wkB, wkT, wkS, k1c, k2c, k3c, k4c, k5c, k6c, k7c, k8c, k9c, headC, tailN, Try.f37, al_od] at eu0
 subst eu0
 clear hu0
 obtain ⟨u1, hu1⟩ : ∃ c, k9c = c := ⟨_, rfl⟩
 have eu1 := hu1
 rw [hu1]
 simp only [wkL, wkB, wkT, wkS, k1c, k2c, k3c, k4c, k5c, k6c, k7c, k8c, k9c, headC, tailN, Try.f37, al_od] at eu1
 subst eu1
 clear hu1
 refine hJ.ctl (s := ()) (fun w => stepG_seq) ?_
 refine at_evalGd (J := fun (_ : Unit) => J) (s := ()) hJ (by decide) (by rfl) [some (.pointer (some ⟨wb, 0, none⟩)), some (.pointer (some ⟨wb, 0, none⟩)), some (.pointer (some ⟨wb, 3, none⟩)), some (.int .i64 a), some (.pointer (some ⟨wb, 0, none⟩)), some (.pointer (some ⟨wb, 0, none⟩)), some (.pointer (some ⟨wb, 2, none⟩)), some (.int .i64 n), some (.bool true)] (by rfl) (by rw [hsz]; kernel_rfl) ?_ ?_
 · intro τ d
   simp only [evalsG, dstOf, al_gl, al_g0, al_g1, al_ob]
   refine ⟨?_, ?_, ?_, ?_, ?_, ?_, ?_, ?_, ?_, trivial⟩ <;> (intro o ho; simp only [al_oi] at ho; subst ho)
   all_goals (first | refine ⟨by simp [Region.wanted, yielded, al_gs, hsz, f0, f1, f4], ?_⟩ | (simp [Region.wanted, yielded, al_gs, hsz, f0, f1, f4]; done))
   all_goals (try simp only [execOp, Act.eval, List.map_toArray, List.map_cons, List.map_nil, al_gd])
   all_goals (try simp only [al_gs, al_gz, hsz, f0, f1, f4, Nat.reduceEqDiff, Nat.reduceLT, ↓reduceIte, al_od])
   all_goals (have hlt : ∀ i, i < 67 → i < (T).size := fun i hi => (by rw [hsz]; exact hi))
   all_goals (clear hsz f0 f1 f4)
   all_goals (try go_simp)
   all_goals (try omega)
 simp only [putG, dstOf, al_gl, al_g0, al_g1, al_ob, al_od, Option.getD_none]
 obtain ⟨T1, hT⟩ : ∃ X, X = (((((((((T).setIfInBounds 50 (.pointer (some ⟨wb, 0, none⟩))).setIfInBounds 51 (.pointer (some ⟨wb, 0, none⟩))).setIfInBounds 52 (.pointer (some ⟨wb, 3, none⟩))).setIfInBounds 53 (.int .i64 a)).setIfInBounds 54 (.pointer (some ⟨wb, 0, none⟩))).setIfInBounds 55 (.pointer (some ⟨wb, 0, none⟩))).setIfInBounds 56 (.pointer (some ⟨wb, 2, none⟩))).setIfInBounds 57 (.int .i64 n)).setIfInBounds 58 (.bool true) := ⟨_, rfl⟩
 rw [← hT]
 have hT1 : T1.size = 67 := by rw [hT]; simp [hsz]
 have T1_0 : T1[0]? = some (.pointer (some ⟨wb, 0, none⟩)) := by rw [hT]; simp only [al_gs, Nat.reduceEqDiff, ↓reduceIte]; exact f0
 have T1_1 : T1[1]? = some (iv) := by rw [hT]; simp only [al_gs, Nat.reduceEqDiff, ↓reduceIte]; exact f1
 have T1_4 : T1[4]? = some (.int .i64 i) := by rw [hT]; simp only [al_gs, Nat.reduceEqDiff, ↓reduceIte]; exact f4
 have T1_58 : T1[58]? = some (.bool true) := by rw [hT]; simp [al_gs, hsz]
 clear hT f0 f1 f4 hsz
 refine hJ.ctl (s := ()) (fun w => stepG_region_end) ?_
 refine hJ.ctl (s := ()) (fun w => stepG_cond (t := true) (by simp [Act.eval, al_gd, T1_58])) ?_
 simp only [if_true]
 refine hJ.ctl (s := ()) (fun w => stepG_region) ?_
 refine at_eval (J := fun (_ : Unit) => J) (s := ()) hJ (by decide) 0 [.pointer (some ⟨wb, 0, none⟩), .pointer (some ⟨wb, 0, none⟩), .pointer (some ⟨wb, 0, none⟩), .pointer (some ⟨wb, 1, none⟩), .int .i64 x] [5, 6, 7, 8] rfl (by simp) (by rfl) ?_ ?_
 · intro τ d
   simp only [evalsO, dstOf, al_gl, al_g0, al_g1, al_ob]
   refine ⟨?_, ?_, ?_, ?_, ?_, trivial⟩ <;> (intro o ho; simp only [al_oi] at ho; subst ho)
   all_goals (try simp only [execOp, Act.eval, List.map_toArray, List.map_cons, List.map_nil, al_gd])
   all_goals (try simp only [al_gs, al_gz, hT1, T1_0, T1_1, T1_4, T1_58, Nat.reduceEqDiff, Nat.reduceLT, ↓reduceIte, al_od])
   all_goals (have hlt : ∀ i, i < 67 → i < (T1).size := fun i hi => (by rw [hT1]; exact hi))
   all_goals (clear hT1 T1_0 T1_1 T1_4 T1_58)
   all_goals (try go_simp)
   all_goals (try omega)
 simp only [putv, dstOf, al_gl, al_g0, al_g1, al_ob]
 obtain ⟨T2, hT⟩ : ∃ X, X = (((((T1).setIfInBounds 59 (.pointer (some ⟨wb, 0, none⟩))).setIfInBounds 60 (.pointer (some ⟨wb, 0, none⟩))).setIfInBounds 61 (.pointer (some ⟨wb, 0, none⟩))).setIfInBounds 62 (.pointer (some ⟨wb, 1, none⟩))).setIfInBounds 63 (.int .i64 x) := ⟨_, rfl⟩
 rw [← hT]
 have hT2 : T2.size = 67 := by rw [hT]; simp [hT1]
 have T2_0 : T2[0]? = some (.pointer (some ⟨wb, 0, none⟩)) := by rw [hT]; simp only [al_gs, Nat.reduceEqDiff, ↓reduceIte]; exact T1_0
 have T2_1 : T2[1]? = some (iv) := by rw [hT]; simp only [al_gs, Nat.reduceEqDiff, ↓reduceIte]; exact T1_1
 have T2_4 : T2[4]? = some (.int .i64 i) := by rw [hT]; simp only [al_gs, Nat.reduceEqDiff, ↓reduceIte]; exact T1_4
 have T2_59 : T2[59]? = some (.pointer (some ⟨wb, 0, none⟩)) := by rw [hT]; simp [al_gs, hT1]
 have T2_63 : T2[63]? = some (.int .i64 x) := by rw [hT]; simp [al_gs, hT1]
 clear hT T1_0 T1_1 T1_4 T1_58 hT1
 refine at_call (J := fun (_ : Unit) => J) (s := ()) (by decide) hJ (i := 5) rfl rfl (f := 47) (args := #[.int .i64 x]) (fun τ d => ?_) (fun τ d => ?_) ?_
 · simp [go_sem, execOp, Act.eval, resolve, Deferred.ofValue, invoke, callFunc, Try.func47, Try.f47, al_gd, T2_63]
 · intro e he
   simp [go_sem, execOp, Act.eval, resolve, Deferred.ofValue, invoke, callFunc, Try.func47, Try.f47, Sem.runT_eq, al_gd, T2_63] at he
 refine beyond_raise hJ hx0 hx1 (fun sg => ?_)
 rw [Frame.raise_at]
 exact raiseJ (s := ()) hJ (b := (bN 37)) rfl Try.func37 (hm.out sg)
theorem walk_end {Kc : Addr → Option Value} {main : Bool} {J : Goroutine → World → Prop} (hJ : JS Try.prog main Kc (fun (_ : Unit) => J)) {wb : Nat} {iv : Value} {i : Int} {T : Array Value} {w : World} {cl : Frame} {cs : List Frame} (hF : FrW wb iv i T) {a n x : Int} (ca : w.cell? ⟨wb, 3, none⟩ = some (.int .i64 a)) (cn : w.cell? ⟨wb, 2, none⟩ = some (.int .i64 n)) (cx : w.cell? ⟨wb, 1, none⟩ = some (.int .i64 x)) (ha : ¬ a = n)
 (hmain : J (G (cl.finish (.tuple #[])) cs) w) : J (G ((bN 37).at ⟨T, []⟩ [.code wkT]) (cl :: cs)) w := by
 have d0 : decide (a = n) = false := by simpa using ha
 obtain ⟨hsz, f0, f1, f4⟩ := hF
 have hm := Lib.hid hmain
 clear hmain
 refine code_eq (J := fun (_ : Unit) => J) (s := ()) wkT_eq ?_
 obtain ⟨u0, hu0⟩ : ∃ c, k8c = c := ⟨_, rfl⟩
 have eu0 := hu0
 rw [hu0]
 simp only [wkL, wkB, wkT, wkS, k1c, k2c, k3c, k4c, k5c, k6c, k7c, k8c, k9c, headC, tailN, Try.f37, al_od] at eu0
 subst eu0
 clear hu0
 refine hJ.ctl (s := ()) (fun w => stepG_seq) ?_
 refine at_evalGd (J := fun (_ : Unit) => J) (s := ()) hJ (by decide) (by rfl) [some (.pointer (some ⟨wb, 0, none⟩)), some (.pointer (some ⟨wb, 0, none⟩)), some (.pointer (some ⟨wb, 3, none⟩)), some (.int .i64 a), some (.pointer (some ⟨wb, 0, none⟩)), some (.pointer (some ⟨wb, 0, none⟩)), some (.pointer (some ⟨wb, 2, none⟩)), some (.int .i64 n), some (.bool false)] (by rfl) (by rw [hsz]; kernel_rfl) ?_ ?_
 · intro τ d
   simp only [evalsG, dstOf, al_gl, al_g0, al_g1, al_ob]
   refine ⟨?_, ?_, ?_, ?_, ?_, ?_, ?_, ?_, ?_, trivial⟩ <;> (intro o ho; simp only [al_oi] at ho; subst ho)
   all_goals (first | refine ⟨by simp [Region.wanted, yielded, al_gs, hsz, f0, f1, f4], ?_⟩ | (simp [Region.wanted, yielded, al_gs, hsz, f0, f1, f4]; done))
   all_goals (try simp only [execOp, Act.eval, List.map_toArray, List.map_cons, List.map_nil, al_gd])
   all_goals (try simp only [al_gs, al_gz, hsz, f0, f1, f4, Nat.reduceEqDiff, Nat.reduceLT, ↓reduceIte, al_od])
   all_goals (have hlt : ∀ i, i < 67 → i < (T).size := fun i hi => (by rw [hsz]; exact hi))
   all_goals (clear hsz f0 f1 f4)
   all_goals (try go_simp)
   all_goals (try omega)
 simp only [putG, dstOf, al_gl, al_g0, al_g1, al_ob, al_od, Option.getD_none]
 obtain ⟨T1, hT⟩ : ∃ X, X = (((((((((T).setIfInBounds 50 (.pointer (some ⟨wb, 0, none⟩))).setIfInBounds 51 (.pointer (some ⟨wb, 0, none⟩))).setIfInBounds 52 (.pointer (some ⟨wb, 3, none⟩))).setIfInBounds 53 (.int .i64 a)).setIfInBounds 54 (.pointer (some ⟨wb, 0, none⟩))).setIfInBounds 55 (.pointer (some ⟨wb, 0, none⟩))).setIfInBounds 56 (.pointer (some ⟨wb, 2, none⟩))).setIfInBounds 57 (.int .i64 n)).setIfInBounds 58 (.bool false) := ⟨_, rfl⟩
 rw [← hT]
 have hT1 : T1.size = 67 := by rw [hT]; simp [hsz]
 have T1_0 : T1[0]? = some (.pointer (some ⟨wb, 0, none⟩)) := by rw [hT]; simp only [al_gs, Nat.reduceEqDiff, ↓reduceIte]; exact f0
 have T1_1 : T1[1]? = some (iv) := by rw [hT]; simp only [al_gs, Nat.reduceEqDiff, ↓reduceIte]; exact f1
 have T1_4 : T1[4]? = some (.int .i64 i) := by rw [hT]; simp only [al_gs, Nat.reduceEqDiff, ↓reduceIte]; exact f4
 have T1_58 : T1[58]? = some (.bool false) := by rw [hT]; simp [al_gs, hsz]
 clear hT f0 f1 f4 hsz
 refine hJ.ctl (s := ()) (fun w => stepG_region_end) ?_
 refine hJ.ctl (s := ()) (fun w => stepG_cond (t := false) (by simp [Act.eval, al_gd, T1_58])) ?_
 simp only [Bool.false_eq_true, if_false]
 refine hJ.ctl (s := ()) (fun w => stepG_skip) ?_
 refine hJ.ctl (s := ()) (fun w => stepG_end) ?_
 refine leaveJ (s := ()) hJ (b := bN 37) rfl rfl Try.func37 (fun τ d => ?_) hm.out
 simp only [results, Try.f37]
 simp [go_sem]
structure PutP (wb bB base : Nat) (iv : Value) (p : Int) (bv : Value) (bd : List Int) (T : Array Value) (w w' : World) : Prop where
 fr : FrW wb iv p T
 put : ∃ v, w'.heap[bB]? = some (.cells #[v] 43) ∧ w'.ownsRow base 3 1 v bd.length (intL bd) ∧ (v.ownBlock = bv.ownBlock ∨ ∃ g, v.ownBlock = some g ∧ w.heap.size ≤ g)
 size : w.heap.size ≤ w'.heap.size
 old : ∀ b, b < w.heap.size → b ≠ bB → bv.ownBlock ≠ some b → w'.heap[b]? = w.heap[b]?
theorem put_lone {wb bB base : Nat} {iv : Value} {p : Int} {x : Int} {c2 c3 bv : Value} {bd : List Int} {T : Array Value} {w : World} {Q : Exit → Act → World → Prop} (hF : FrW wb iv p T) (hbd : w.heap[bB]? = some (.cells #[bv] 43)) (hown : w.ownsRow base 3 1 bv bd.length (intL bd)) (hwb : w.heap[wb]? = some (.cells #[.pointer (some ⟨bB, 0, none⟩), .int .i64 x, c2, c3] 105))
 (hlen : bd.length < 8589934592) (hlo : base ≤ bB) (hQ : ∀ T' w', PutP wb bB base iv p bv (bd ++ [x]) T' w w' → Q .normal ⟨T', []⟩ w') : Code.wp Try.prog k7c Q ⟨T, []⟩ w := by
 obtain ⟨hsz, f0, f1, f4⟩ := hF
 have hm := Lib.hid hQ
 clear hQ
 obtain ⟨u0, hu0⟩ : ∃ c, k7c = c := ⟨_, rfl⟩
 have eu0 := hu0
 rw [hu0]
 simp only [wkL, wkB, wkT, wkS, k7c, headC, tailN, Try.f37, al_od] at eu0
 subst eu0
 clear hu0
 obtain ⟨H, hH⟩ : ∃ H, w.heap.size = H := ⟨_, rfl⟩
 obtain ⟨ti, hti, hz0, hz1, hz2⟩ : ∃ ti, Try.prog.info? 3 = some ti ∧ ti.zero = some (.int .i64 0) ∧ ti.size = 1 ∧ ti.bytes = 8 := ⟨_, rfl, rfl, rfl, rfl⟩
 have hbH : bB < H := hH ▸ zq4 hbd
 have hwH : wb < H := hH ▸ zq4 hwb
 have ne1 : bv.ownBlock ≠ some bB := own_ne hown hbd (by decide)
 have ne2 : bv.ownBlock ≠ some wb := own_ne hown hwb (by decide)
 have hold : ∀ g, bv.ownBlock = some g → g < H := fun g hg => by
  rcases hown.2 with ⟨hv, _⟩ | ⟨g2, cap, cur, hv, _, hh, _⟩
  · rw [hv] at hg; cases hg
  · rw [hv] at hg; simp only [Value.ownBlock, al_oi] at hg; subst hg; exact hH ▸ zq4 hh
 have hal : ∀ b, b < H → ((w.drewN 1).alloc (.cells #[.int .i64 x] 3)).heap[b]? = w.heap[b]? := fun b hb => by rw [zqc, if_neg (by show b ≠ w.heap.size; omega)]; rfl
 have hrow : ((w.drewN 1).alloc (.cells #[.int .i64 x] 3)).ownsRow base 3 1 bv bd.length (intL bd) := ownsRow_of hown fun g hg => hal g (hold g hg)
 have hn4 := al_new (w.drewN 1) (.cells #[.int .i64 x] 3)
 obtain ⟨g, cap, w5, hrun, hown5, hgrow, hat, hlt5⟩ := run_append_lies (P := Try.prog) ((w.drewN 1).alloc (.cells #[.int .i64 x] 3)) 24 24 base 3 ti (.int .i64 0) 1 8 (by kernel_rfl) hti hz0 hz1 hz2 (by rfl) (by decide) bv bd.length (intL bd) hrow ⟨H, 0, none⟩ 1 1 [.int .i64 x] rfl (World.news_of_block (by rw [← hH]; exact hn4)) (by simp [Value.oneCell']) (by decide) (by simp only [maxLen]; omega) (by omega) (by rw [zq8]; show base ≤ w.heap.size + 1; omega) _ rfl
 have hb5 : ∀ b, b < H → bv.ownBlock ≠ some b → w5.heap[b]? = w.heap[b]? := fun b hb hne => (hgrow.block b (by rw [zq8]; show b < w.heap.size + 1; omega) (fun e => hne e.symm)).trans (hal b hb)
 have h5b := hb5 bB hbH ne1
 have h5w := hb5 wb hwH ne2
 have k0 : w.cell? ⟨wb, 0, none⟩ = some (.pointer (some ⟨bB, 0, none⟩)) := (zq1 hwb).trans rfl
 have k1 : w.cell? ⟨wb, 1, none⟩ = some (.int .i64 x) := (zq1 hwb).trans rfl
 have k2 : w.cell? ⟨bB, 0, none⟩ = some bv := (zq1 hbd).trans rfl
 have hct : ∀ W, W = w.drewN 1 ∨ W = (w.drewN 1).alloc (.cells #[.int .i64 x] 3) ∨ W = w5 → ∀ b, b = wb ∨ b = bB → ∀ o v, w.cell? ⟨b, o, none⟩ = some v → W.cell? ⟨b, o, none⟩ = some v := by
  rintro W (rfl | rfl | rfl) b hbb o v hv
  · exact hv
  · exact (zqe (hal b (by rcases hbb with e | e <;> rw [e] <;> assumption))).trans hv
  · rcases hbb with rfl | rfl
    · exact (zqe h5w).trans hv
    · exact (zqe h5b).trans hv
 refine wp_region_two (k := 17) (s := 15) (t := 16) (W0 := w.drewN 1) (W1 := (w.drewN 1).alloc (.cells #[.int .i64 x] 3)) (W2 := w5) (by kernel_rfl) (by kernel_rfl) (by kernel_rfl) (by rw [hsz]; kernel_rfl) (by decide) (by decide) (by decide) (by kernel_rfl)
  [.pointer (some ⟨wb, 0, none⟩), .pointer (some ⟨wb, 0, none⟩), .pointer (some ⟨wb, 0, none⟩), .pointer (some ⟨bB, 0, none⟩), .pointer (some ⟨wb, 0, none⟩), .pointer (some ⟨wb, 0, none⟩), .pointer (some ⟨wb, 0, none⟩), .pointer (some ⟨bB, 0, none⟩), .pointer (some ⟨bB, 0, none⟩), .pointer (some ⟨bB, 0, none⟩), bv, .pointer (some ⟨wb, 0, none⟩), .pointer (some ⟨wb, 0, none⟩), .pointer (some ⟨wb, 1, none⟩), .int .i64 x, .slice (some ⟨H, 0, none⟩) 1 1, .slice (some ⟨g, 0, none⟩) (bd.length + 1) cap] rfl rfl ?_ ?_ ?_ ?_
 · intro i o hi his hit ho W hWW
   replace k0 := hct W hWW wb (.inl rfl) _ _ k0
   replace k1 := hct W hWW wb (.inl rfl) _ _ k1
   replace k2 := hct W hWW bB (.inr rfl) _ _ k2
   clear hWW hct hrun hown5 hgrow hat hlt5 hrow hn4 hbd hown hwb hb5 h5b h5w hal hold hti hz0 hz1 hz2
   simp only [putv, dstOf, al_gl, al_g0, al_g1, al_ob]
   obtain rfl | rfl | rfl | rfl | rfl | rfl | rfl | rfl | rfl | rfl | rfl | rfl | rfl | rfl | rfl : i = 0 ∨ i = 1 ∨ i = 2 ∨ i = 3 ∨ i = 4 ∨ i = 5 ∨ i = 6 ∨ i = 7 ∨ i = 8 ∨ i = 9 ∨ i = 10 ∨ i = 11 ∨ i = 12 ∨ i = 13 ∨ i = 14 := by omega
   all_goals (simp only [al_gl, al_g0, al_g1, al_oi] at ho; subst ho; refine .inl ?_)
   all_goals (simp only [execOp, Act.eval, al_gd])
   all_goals (try simp only [al_gs, al_gz, hsz, f0, Nat.reduceEqDiff, Nat.reduceLT, ↓reduceIte, al_od])
   all_goals (clear hsz f0 f1 f4)
   all_goals (try go_simp)
 · intro o ho
   clear hct hrun hown5 hgrow hat hlt5 hrow hn4 hbd hown hwb hb5 h5b h5w hal hold hti hz0 hz1 hz2 k0 k1 k2
   simp only [putv, dstOf, al_gl, al_g0, al_g1, al_ob]
   simp only [al_gl, al_g0, al_g1, al_oi] at ho; subst ho; refine .inl ?_
   simp only [execOp, Act.eval, al_gd, List.map_toArray, List.map_cons, List.map_nil]
   try simp only [al_gs, al_gz, hsz, f0, Nat.reduceEqDiff, Nat.reduceLT, ↓reduceIte, al_od]
   clear hsz f0 f1 f4
   subst hH
   go_simp
 · intro o ho
   simp only [putv, dstOf, al_gl, al_g0, al_g1, al_ob]
   simp only [al_gl, al_g0, al_g1, al_oi] at ho; subst ho; refine .inl ?_
   unfold execOp
   simp only [resolve, invoke, builtin, Sem.run_bind, Sem.run_pure, Result.andThen_ok, List.map_toArray, List.map_cons, List.map_nil, Act.eval, al_gd, al_gs, al_gz, hsz, f0, Nat.reduceEqDiff, Nat.reduceLT, ↓reduceIte, al_od, hrun]
   rfl
 simp only [putv, dstOf, al_gl, al_g0, al_g1, al_ob]
 obtain ⟨T1, hT1⟩ : ∃ X, X = (((((((((((((((((T.setIfInBounds 31 (.pointer (some ⟨wb, 0, none⟩))).setIfInBounds 32 (.pointer (some ⟨wb, 0, none⟩))).setIfInBounds 33 (.pointer (some ⟨wb, 0, none⟩))).setIfInBounds 34 (.pointer (some ⟨bB, 0, none⟩))).setIfInBounds 35 (.pointer (some ⟨wb, 0, none⟩))).setIfInBounds 36 (.pointer (some ⟨wb, 0, none⟩))).setIfInBounds 37 (.pointer (some ⟨wb, 0, none⟩))).setIfInBounds 38 (.pointer (some ⟨bB, 0, none⟩))).setIfInBounds 39 (.pointer (some ⟨bB, 0, none⟩))).setIfInBounds 40 (.pointer (some ⟨bB, 0, none⟩))).setIfInBounds 41 bv).setIfInBounds 42 (.pointer (some ⟨wb, 0, none⟩))).setIfInBounds 43 (.pointer (some ⟨wb, 0, none⟩))).setIfInBounds 44 (.pointer (some ⟨wb, 1, none⟩))).setIfInBounds 45 (.int .i64 x)).setIfInBounds 46 (.slice (some ⟨H, 0, none⟩) 1 1)).setIfInBounds 47 (.slice (some ⟨g, 0, none⟩) (bd.length + 1) cap)) := ⟨_, rfl⟩
 rw [← hT1]
 have s1 : T1.size = 67 := by rw [hT1]; simp [hsz]
 have q0 : T1[0]? = some (.pointer (some ⟨wb, 0, none⟩)) := by rw [hT1]; simp only [al_gs, Nat.reduceEqDiff, ↓reduceIte]; exact f0
 have q1 : T1[1]? = some iv := by rw [hT1]; simp only [al_gs, Nat.reduceEqDiff, ↓reduceIte]; exact f1
 have q4 : T1[4]? = some (.int .i64 p) := by rw [hT1]; simp only [al_gs, Nat.reduceEqDiff, ↓reduceIte]; exact f4
 have q34 : T1[34]? = some (.pointer (some ⟨bB, 0, none⟩)) := by rw [hT1]; simp [al_gs, hsz]
 have q47 : T1[47]? = some (.slice (some ⟨g, 0, none⟩) (bd.length + 1) cap) := by rw [hT1]; simp [al_gs, hsz]
 have k5 : w5.cell? ⟨bB, 0, none⟩ = some bv := (zqe h5b).trans k2
 have z5 : w5.frozen? ⟨bB, 0, none⟩ = false := zqf (h5b.trans hbd)
 clear hT1 hsz f0 f1 f4 hrow hn4 hti hz0 hz1 hz2 hct hrun k0 k1 k2
 refine wpAny_one (i := 17) (by kernel_rfl) ?_
 simp only [wpOp, al_gl, al_g0, al_g1]
 rw [if_pos (by rfl)]
 refine .inl (wp_of_yields (a' := ⟨T1, []⟩) (v := .pointer (some ⟨bB, 0, none⟩)) (W' := w5) rfl (.inl ?_) ?_)
 · simp only [execOp, Act.eval, al_gd, q34, al_od]
   clear s1 q0 q1 q4 q34 q47
   go_simp
 refine wpAny_one (i := 18) (by kernel_rfl) ?_
 simp only [wpOp, al_gl, al_g0, al_g1]
 rw [if_pos (by rfl)]
 simp only [Act.put]
 have q48 : (T1.setIfInBounds 48 (.pointer (some ⟨bB, 0, none⟩)))[48]? = some (.pointer (some ⟨bB, 0, none⟩)) := by simp [s1]
 refine .inl (wp_of_yields (a' := ⟨T1.setIfInBounds 48 (.pointer (some ⟨bB, 0, none⟩)), []⟩) (v := .pointer (some ⟨bB, 0, none⟩)) (W' := w5) rfl (.inl ?_) ?_)
 · simp only [execOp, Act.eval, al_gd, q48, al_od]
   clear s1 q0 q1 q4 q34 q47 q48
   go_simp
 refine wpAny_one (i := 19) (by kernel_rfl) ?_
 simp only [wpOp, al_gl, al_g0, al_g1]
 rw [if_pos (by rfl)]
 simp only [Act.put]
 obtain ⟨T2, hT2⟩ : ∃ X, X = (T1.setIfInBounds 48 (.pointer (some ⟨bB, 0, none⟩))).setIfInBounds 49 (.pointer (some ⟨bB, 0, none⟩)) := ⟨_, rfl⟩
 rw [← hT2]
 have r47 : T2[47]? = some (.slice (some ⟨g, 0, none⟩) (bd.length + 1) cap) := by rw [hT2]; simp only [al_gs, Nat.reduceEqDiff, ↓reduceIte]; exact q47
 have r49 : T2[49]? = some (.pointer (some ⟨bB, 0, none⟩)) := by rw [hT2]; simp [s1]
 have hF2 : FrW wb iv p T2 := by
  refine ⟨by rw [hT2]; simp [s1], ?_, ?_, ?_⟩ <;> (rw [hT2]; simp only [al_gs, Nat.reduceEqDiff, ↓reduceIte]; assumption)
 clear hT2 q34 q47 q48 q0 q1 q4 s1
 refine .inl ?_
 unfold Oper.wp
 have hst : ∀ (o : Oper), o.op = .store 24 (.tmp 49) (.tmp 47) → (execOp (Act.mk T2 []).eval o).run Try.prog w5 = .ok .skip (w5.setCell ⟨bB, 0, none⟩ (.slice (some ⟨g, 0, none⟩) (bd.length + 1) cap)) := by
  intro o ho
  have e1 : (Act.mk T2 []).eval (.tmp 49) = .pointer (some ⟨bB, 0, none⟩) := by simp [Act.eval, r49]
  have e2 : (Act.mk T2 []).eval (.tmp 47) = .slice (some ⟨g, 0, none⟩) (bd.length + 1) cap := by simp [Act.eval, r47]
  simp only [execOp, ho, e1, e2]
  clear e1 e2 r47 r49
  go_simp
 rw [hst _ rfl]
 refine wpAny_end (P := Try.prog) (by kernel_rfl) ?_
 have hg5 : g ≠ bB := fun e => by
  rcases hat with hat | hat
  · rw [e] at hat; exact ne1 hat
  · rw [zq8] at hat; have : (w.drewN 1).heap.size = H := hH; omega
 refine hm.out T2 _ ⟨hF2, ⟨_, (zqh _ _ _ _ (h5b.trans hbd)).trans rfl, ?_, ?_⟩, ?_, fun b hb hne1 hne2 => ?_⟩
 · rw [List.length_append]
   have : intL (bd ++ [x]) = intL bd ++ [.int .i64 x] := by simp [intL]
   rw [this]
   refine ownsRow_of hown5 fun g' hg' => ?_
   simp only [Value.ownBlock, al_oi] at hg'
   subst hg'
   exact zqa _ _ _ _ hg5
 · rcases hat with hat | hat
   · exact .inl (by rw [hat]; rfl)
   · refine .inr ⟨g, rfl, ?_⟩
     rw [hat, zq8]
     show w.heap.size ≤ w.heap.size + 1
     omega
 · rw [hp_size_set]
   have := hgrow.size
   rw [zq8] at this
   exact Nat.le_trans (Nat.le_succ _) this
 · rw [zqa _ _ _ _ hne1]
   exact hb5 b (hH ▸ hb) hne2
section
variable {S : WS} {m : WM} {w : World} {Kc : Addr → Option Value} {X : Snap} {J : Goroutine → World → Prop} {i : Nat}
end
noncomputable def wkK : List Item := [.inLoop wkL, .inBlock 0, .code wkT]
section
variable {Kc : Addr → Option Value} {main : Bool} {J : Goroutine → World → Prop}
theorem stepAt_fin (hJ : JS Try.prog main Kc (fun (_ : Unit) => J)) {T : Array Value} {K : List Item} {cs : List Frame} {w : World} (h : J (G ((bN 37).at ⟨T.setIfInBounds 30 (.tuple #[]), []⟩ (.code k7c :: K)) cs) w) :
 J (G ((stepAt T K).finish (.tuple #[])) cs) w := by
 unfold stepAt
 obtain ⟨u0, hu0⟩ : ∃ c, k6c = c := ⟨_, rfl⟩
 have eu0 := hu0
 rw [hu0]
 simp only [wkL, wkB, wkT, wkS, k6c, headC, tailN, Try.f37, al_od] at eu0
 subst eu0
 clear hu0
 rw [Frame.finish_at]
 try walk_nrm
 refine hJ.ctl (s := ()) (fun w => stepG_region_end) ?_
 exact h
theorem stepAt_raise (hJ : JS Try.prog main Kc (fun (_ : Unit) => J)) {T : Array Value} {K : List Item} {ch : List PanicEntry} {cl : Frame} {cs : List Frame} {w : World} (h : J (G (cl.raise ch) cs) w) : J (G ((stepAt T K).raise ch) (cl :: cs)) w := by
 unfold stepAt
 rw [Frame.raise_at]
 exact raiseJ (s := ()) hJ (b := bN 37) rfl Try.func37 h
theorem walk_enter (hJ : JS Try.prog main Kc (fun (_ : Unit) => J)) {wb : Nat} {iv : Value} {w : World} {cs : List Frame}
 (hmain : ∀ T, FrW wb iv 0 T → J (G ((bN 37).at ⟨T, []⟩ (.code wkL :: wkK)) cs) w) :
 J (G (Frame.enter Try.prog 37 #[.pointer (some ⟨wb, 0, none⟩), iv] .normal) cs) w := by
 have e : Frame.enter Try.prog 37 #[.pointer (some ⟨wb, 0, none⟩), iv] .normal = (bN 37).at (enterAct Try.f37 #[.pointer (some ⟨wb, 0, none⟩), iv]) [.code ((Try.f37.body).getD .skip)] := by kernel_rfl
 have eb : (Try.f37.body).getD .skip = .seq (.seq (headC (headC ((Try.f37.body).getD .skip))) (.block 0 (.loop wkL))) wkT := by kernel_rfl
 rw [e, eb]
 have hm := Lib.hid hmain
 clear hmain
 obtain ⟨T0, hT⟩ : ∃ X, X = (enterAct Try.f37 #[.pointer (some ⟨wb, 0, none⟩), iv]).tmps := ⟨_, rfl⟩
 have hsz : T0.size = 67 := by rw [hT]; kernel_rfl
 have f0 : T0[0]? = some (.pointer (some ⟨wb, 0, none⟩)) := by rw [hT]; kernel_rfl
 have f1 : T0[1]? = some iv := by rw [hT]; kernel_rfl
 have eA : enterAct Try.f37 #[.pointer (some ⟨wb, 0, none⟩), iv] = ⟨T0, []⟩ := by rw [hT]; kernel_rfl
 rw [eA]
 clear eA hT e eb
 refine hJ.ctl (s := ()) (fun w => stepG_seq) ?_
 refine hJ.ctl (s := ()) (fun w => stepG_seq) ?_
 obtain ⟨u0, hu0⟩ : ∃ c, headC (headC ((Try.f37.body).getD .skip)) = c := ⟨_, rfl⟩
 have eu0 := hu0
 rw [hu0]
 simp only [headC, Try.f37, al_od] at eu0
 subst eu0
 clear hu0
 refine hJ.ctl (s := ()) (fun w => stepG_region) ?_
 refine at_eval (J := fun (_ : Unit) => J) (s := ()) hJ (by decide) 0 [.int .i64 0] [] rfl (by simp) (by rfl) ?_ ?_
 · intro τ d
   simp only [evalsO, dstOf, al_gl, al_g0, al_ob]
   refine ⟨?_, trivial⟩
   intro o ho; simp only [al_oi] at ho; subst ho
   rfl
 simp only [putv, dstOf, al_gl, al_g0, al_g1, al_ob]
 have hF : FrW wb iv 0 (T0.setIfInBounds 4 (.int .i64 0)) := by
  refine ⟨by simp [hsz], ?_, ?_, by simp [hsz]⟩ <;> rw [al_gn (by decide)] <;> assumption
 refine hJ.ctl (s := ()) (fun w => stepG_region_end) ?_
 refine hJ.ctl (s := ()) (fun w => stepG_block) ?_
 refine hJ.ctl (s := ()) (fun w => stepG_loop) ?_
 exact hm.out _ hF
end
section
variable {S : WS} {i : Nat}
end
set_option maxHeartbeats 4000000
set_option maxRecDepth 100000
structure Wk where
 s : Int
 a : Int
 nl : Bool
theorem mask31 (a : Int) : ∃ n : Nat, n ≤ 31 ∧ bits .and .i64 a 31 = n := by
 refine ⟨((BitVec.ofInt IntKind.i64.bits a) &&& (BitVec.ofInt IntKind.i64.bits 31)).toNat, ?_, ?_⟩
 · rw [BitVec.toNat_and]
   exact Nat.le_trans Nat.and_le_right (by decide)
 · have : ((BitVec.ofInt IntKind.i64.bits a) &&& (BitVec.ofInt IntKind.i64.bits 31)).toNat ≤ 31 := by
    rw [BitVec.toNat_and]
    exact Nat.le_trans Nat.and_le_right (by decide)
   have e : bits .and .i64 a 31 = IntKind.i64.wrap ((((BitVec.ofInt IntKind.i64.bits a) &&& (BitVec.ofInt IntKind.i64.bits 31)).toNat : Nat) : Int) := rfl
   rw [e]
   generalize ((BitVec.ofInt IntKind.i64.bits a) &&& (BitVec.ofInt IntKind.i64.bits 31)).toNat = q at this
   exact IntWalk.i64_in _ (by omega)
noncomputable def Wk.n (x : Wk) : Nat := (mask31 x.s).choose
theorem Wk.n_le (x : Wk) : x.n ≤ 31 := (mask31 x.s).choose_spec.1
theorem Wk.n_eq (x : Wk) : bits .and .i64 x.s 31 = x.n := (mask31 x.s).choose_spec.2
noncomputable def Wk.k (x : Wk) : Nat := if x.nl then 0 else if 0 ≤ x.a ∧ x.a ≤ x.n then x.a.toNat else x.n
noncomputable def Wk.bad (x : Wk) : Bool := !x.nl && decide (0 ≤ x.a ∧ x.a ≤ x.n)
theorem does_lone (x : Wk) (w : World) : Calls Try.prog 17 #[.agg #[.int .i64 x.s, .int .i64 x.a, .bool x.nl]] w fun e w' => e = .returned (.tuple #[.int .i64 x.k, .bool x.bad]) ∧ Beyond w w' := by
 have hn := x.n_eq
 obtain ⟨s, a, nl⟩ := x
 have HN := Lib.hid hn
 obtain ⟨n, hn'⟩ : ∃ n, (Wk.mk s a nl).n = n := ⟨_, rfl⟩
 rw [hn'] at HN
 have HB := Lib.hid (show ∀ o : Obj, Beyond w (w.alloc o) from fun o => ⟨by rw [zq8]; omega, fun b hb => by rw [zqc, if_neg (by omega)]⟩)
 have HK := Lib.hid (show (Wk.mk s a nl).k = (if nl then 0 else if 0 ≤ a ∧ a ≤ n then a.toNat else n) ∧ (Wk.mk s a nl).bad = (!nl && decide (0 ≤ a ∧ a ≤ n)) from ⟨by unfold Wk.k; rw [hn'], by unfold Wk.bad; rw [hn']⟩)
 clear hn hn'
 go_enter Try.func17, Try.ntmps17
 cases nl
 · by_cases h0 : 0 ≤ a
   · by_cases h1 : a ≤ bits BinOp.and IntKind.i64 s 31
     · have h1' : a ≤ n := by have := HN.out; simp only at this; omega
       go_wp2
       go_ret2
       refine ⟨?_, HB.out _⟩
       rw [HK.out.1, HK.out.2]
       simp [h0, h1']
       omega
     · have h1' : ¬ a ≤ n := by have := HN.out; simp only at this; omega
       go_wp2
       go_ret2
       refine ⟨?_, HB.out _⟩
       rw [HK.out.1, HK.out.2, HN.out]
       simp [show ¬ a ≤ (n : Int) by omega]
   · go_wp2
     go_ret2
     refine ⟨?_, HB.out _⟩
     rw [HK.out.1, HK.out.2, HN.out]
     simp [show ¬ 0 ≤ a by omega]
 · go_wp2
   go_ret2
   refine ⟨?_, HB.out _⟩
   rw [HK.out.1, HK.out.2]
   simp
def WalksAt (w : World) (lp : Option Addr) (n : Nat) (wk : Nat → Wk) : Prop :=
 0 < n → ∃ lb lo, lp = some ⟨lb, lo, none⟩ ∧ ∀ i, i < n → w.cell? ⟨lb, lo + i * 3, none⟩ = some (.int .i64 (wk i).s) ∧ w.cell? ⟨lb, lo + i * 3 + 1, none⟩ = some (.int .i64 (wk i).a) ∧ w.cell? ⟨lb, lo + i * 3 + 2, none⟩ = some (.bool (wk i).nl)
def wkV : Option Nat → Value
 | none => .nilFunc
 | some b => .func (.func 37) #[.pointer (some ⟨b, 0, none⟩)] #[]
noncomputable def wkC (bB i : Nat) (x : Wk) : Array Value := #[.pointer (some ⟨bB, 0, none⟩), .int .i64 i, .int .i64 x.n, .int .i64 x.a]
structure WkO (w : World) (bB : Nat) (wk : Nat → Wk) (j : Nat) (out : Value) (wb : Nat → Option Nat) (wr : World) : Prop where
 size : w.heap.size ≤ wr.heap.size
 old : ∀ b, b < w.heap.size → wr.heap[b]? = w.heap[b]?
 orow : wr.ownsRow w.heap.size 60 1 out j ((List.range j).map fun i => wkV (wb i))
 nl : ∀ i, i < j → (wb i = none ↔ (wk i).nl = true)
 blk : ∀ i b, i < j → wb i = some b → w.heap.size ≤ b ∧ wr.heap[b]? = some (.cells (wkC bB i (wk i)) 105)
theorem WkO.start (w : World) (bB : Nat) (wk : Nat → Wk) (wb : Nat → Option Nat) : WkO w bB wk 0 (.slice none 0 0) wb w := ⟨Nat.le_refl _, fun _ _ => rfl, World.ownsRow_nil _ _ _ _, fun i hi => absurd hi (Nat.not_lt_zero _), fun i b hi => absurd hi (Nat.not_lt_zero _)⟩
theorem map_wkV (wb : Nat → Option Nat) (j : Nat) (x : Option Nat) : ((List.range (j + 1)).map fun i => wkV (if i = j then x else wb i)) = ((List.range j).map fun i => wkV (wb i)) ++ [wkV x] := by
 rw [List.range_succ, List.map_append]
 congr 1
 · refine List.map_congr_left fun i hi => ?_
   have := List.mem_range.1 hi
   rw [if_neg (by omega)]
 · simp
theorem WkO.next {w wr w1 w5 : World} {bB : Nat} {wk : Nat → Wk} {j : Nat} {out out' : Value} {wb : Nat → Option Nat} (h : WkO w bB wk j out wb wr) (x : Option Nat) (hs1 : wr.heap.size ≤ w1.heap.size) (ho1 : ∀ b, b < wr.heap.size → w1.heap[b]? = wr.heap[b]?) (hx : x = none ↔ (wk j).nl = true) (hxb : ∀ b, x = some b → wr.heap.size ≤ b ∧ b < w1.heap.size ∧ w1.heap[b]? = some (.cells (wkC bB j (wk j)) 105))
 (hown : w5.ownsRow w.heap.size 60 1 out' (j + 1) (((List.range j).map fun i => wkV (wb i)) ++ [wkV x])) (hgrow : w1.grownBy w5 out.ownBlock) : WkO w bB wk (j + 1) out' (fun i => if i = j then x else wb i) w5 := by
 have hs := h.size
 have hs5 := hgrow.size
 have hlt : ∀ g, out.ownBlock = some g → w.heap.size ≤ g ∧ ∃ c, wr.heap[g]? = some (.cells c 60) := fun g hg => ⟨(own_lt h.orow hg).2.1, (own_lt h.orow hg).1⟩
 have hk : ∀ b, b < wr.heap.size → out.ownBlock ≠ some b → w5.heap[b]? = wr.heap[b]? := fun b hb hne => (hgrow.block b (by omega) (fun e => hne e.symm)).trans (ho1 b hb)
 refine ⟨by omega, fun b hb => ?_, by rw [map_wkV]; exact hown, fun i hi => ?_, fun i b hi hb => ?_⟩
 · rw [hk b (by omega) (fun e => by have := (hlt b e).1; omega)]; exact h.old b hb
 · by_cases e : i = j
   · subst e; simp only [if_true]; exact hx
   · simp only [e, if_false]; exact h.nl i (by omega)
 · by_cases e : i = j
   · subst e
     simp only [if_true] at hb
     obtain ⟨k1, k2, k3⟩ := hxb b hb
     refine ⟨by omega, ?_⟩
     rw [hgrow.block b k2 (fun e => by
      obtain ⟨c, hc⟩ := (hlt b e.symm).2
      have := zq4 hc
      omega)]
     exact k3
   · simp only [e, if_false] at hb
     obtain ⟨k1, k2⟩ := h.blk i b (by omega) hb
     refine ⟨k1, ?_⟩
     rw [hk b (zq4 k2) (fun e => by
      obtain ⟨c, hc⟩ := (hlt b e).2
      exact absurd (heap_type hc k2) (by decide))]
     exact k2
theorem walkers_lone {bB : Nat} {lp : Option Addr} {n C : Nat} {wk : Nat → Wk} (w : World) (hn : n ≤ 1099511627776) (hp : WalksAt w lp n wk) :
 Calls Try.prog 15 #[.pointer (some ⟨bB, 0, none⟩), .slice lp n C] w fun e w' => ∃ out wb, e = .returned out ∧ WkO w bB wk n out wb w' := by
 have HP := Lib.hid hp
 clear hp
 go_enter Try.func15, Try.ntmps15
 go_wp2
 go_loopg [5, 6] n (fun k o i wr => ∃ (j : Nat) (wb : Nat → Option Nat) (out : Value), out = o ∧ k = n - j ∧ j ≤ n ∧ i = .int .i64 j ∧ WkO w bB wk j out wb wr)
 case atStart => exact ⟨0, fun _ => none, _, rfl, rfl, Nat.zero_le _, rfl, WkO.start w _ _ _⟩
 case round =>
  obtain ⟨j, wb, out, ho, hk, hj, rfl, hR⟩ := hrel
  subst ho
  have HR := Lib.hid hR
  clear hR
  by_cases hlt : j < n
  · have hlt' : (j : Int) < (n : Int) := by omega
    have hj0 : (0 : Int) ≤ j := by omega
    obtain ⟨lb, lo, rfl, hc⟩ := HP.out (by omega)
    obtain ⟨e0, e1, e2⟩ := hc j hlt
    have hlb : lb < w.heap.size := cell_lt e0
    have f0 := (zqe (HR.out.old lb hlb)).trans e0
    have f1 := (zqe (HR.out.old lb hlb)).trans e1
    have f2 := (zqe (HR.out.old lb hlb)).trans e2
    obtain ⟨x, hx⟩ : ∃ x, wk j = x := ⟨_, rfl⟩
    rw [hx] at f0 f1 f2
    have HX := Lib.hid hx
    clear hc e0 e1 e2 hlb hx
    obtain ⟨s, a, nl⟩ := x
    simp only at f0 f1 f2
    obtain ⟨ti, hti, hz0, hz1, hz2⟩ : ∃ ti, Try.prog.info? 60 = some ti ∧ ti.zero = some .nilFunc ∧ ti.size = 1 ∧ ti.bytes = 8 := ⟨_, rfl, rfl, rfl, rfl⟩
    have TI := Lib.hid (And.intro hti (And.intro hz0 (And.intro hz1 hz2)))
    clear hti hz0 hz1 hz2
    cases nl with
    | true =>
     go_wp2_with (at_builtin; go_loud (refine wpList_append_lies _ rfl (.tmp 19) (.tmp 20) 47 rfl w.heap.size 60 ti .nilFunc 1 8 (by kernel_rfl) TI.out.1 TI.out.2.1 TI.out.2.2.1 TI.out.2.2.2 rfl (by decide) _ j ((List.range j).map fun i => wkV (wb i)) rfl (row_alloc HR.out.orow _) _ 1 1 [.nilFunc] rfl rfl (one_new rfl) (by simp [Value.oneCell']) (by decide) (by simp only [maxLen]; omega) (by omega) (by have := HR.out.size; simp only [zq8]; omega) _ rfl ?next))
     case next =>
      intro g cap w5 hown hgrow hat hlt5
      have HN := Lib.hid (HR.out.next none (w1 := wr.alloc _) (by rw [zq8]; omega) (fun b hb => by rw [zqc, if_neg (by omega)]) (by rw [HX.out]; simp) (fun b hb => by cases hb) hown hgrow)
      clear hown hgrow hat hlt5
      go_wp2
      go_roundg (n - (j + 1))
      case measure => omega
      case rel => exact ⟨j + 1, _, _, rfl, rfl, by omega, rfl, HN.out⟩
    | false =>
     go_wp2_with (fail)
     obtain ⟨H, hH⟩ : ∃ H, wr.heap.size = H := ⟨_, rfl⟩
     have hct : ∀ W, W = wr.drewN 1 ∨ W = (wr.drewN 1).alloc (.cells #[.pointer (some ⟨bB, 0, none⟩), .int .i64 j, .int .i64 (bits .and .i64 s 31), .int .i64 a] 105) → ∀ o v, wr.cell? ⟨lb, o, none⟩ = some v → W.cell? ⟨lb, o, none⟩ = some v := by
      rintro W (rfl | rfl) o v hv
      · exact hv
      · have := cell_lt hv
        exact (zqe (by rw [zqc, if_neg (by show lb ≠ wr.heap.size; simp only at this; omega)]; rfl)).trans hv
     refine wp_region_one (k := 15) (s := 14) (W0 := wr.drewN 1) (W1 := (wr.drewN 1).alloc (.cells #[.pointer (some ⟨bB, 0, none⟩), .int .i64 j, .int .i64 (bits .and .i64 s 31), .int .i64 a] 105)) (by kernel_rfl) (by kernel_rfl) (by kernel_rfl) (by kernel_rfl) (by decide)
      [.pointer (some ⟨bB, 0, none⟩), .int .i64 j, .slice (some ⟨lb, lo, none⟩) n C, .int .i64 j, .pointer (some ⟨lb, lo + j * 3, none⟩), .pointer (some ⟨lb, lo + j * 3, none⟩), .int .i64 s, .int .i64 (bits .and .i64 s 31), .slice (some ⟨lb, lo, none⟩) n C, .int .i64 j, .pointer (some ⟨lb, lo + j * 3, none⟩), .pointer (some ⟨lb, lo + j * 3 + 1, none⟩), .int .i64 a, .agg #[.pointer (some ⟨bB, 0, none⟩), .int .i64 j, .int .i64 (bits .and .i64 s 31), .int .i64 a], .pointer (some ⟨H, 0, none⟩)] rfl rfl ?_ ?_ ?_
     · intro i o hi his ho W hWW
       replace f0 := hct W hWW _ _ f0
       replace f1 := hct W hWW _ _ f1
       clear hWW hct f2
       simp only [putv, dstOf, al_gl, al_g0, al_g1, al_ob, al_g2, List.set_cons_succ, List.set_cons_zero]
       obtain rfl | rfl | rfl | rfl | rfl | rfl | rfl | rfl | rfl | rfl | rfl | rfl | rfl | rfl : i = 0 ∨ i = 1 ∨ i = 2 ∨ i = 3 ∨ i = 4 ∨ i = 5 ∨ i = 6 ∨ i = 7 ∨ i = 8 ∨ i = 9 ∨ i = 10 ∨ i = 11 ∨ i = 12 ∨ i = 13 := by omega
       all_goals (simp only [al_gl, al_g0, al_g1, al_oi] at ho; subst ho; refine .inl ?_)
       all_goals (simp only [execOp, Act.eval, al_gd, al_gl, al_g0, al_g1, al_od])
       all_goals (try go_simp)
     · intro o ho
       simp only [putv, dstOf, al_gl, al_g0, al_g1, al_ob, al_g2, List.set_cons_succ, List.set_cons_zero]
       simp only [al_gl, al_g0, al_g1, al_oi] at ho; subst ho; refine .inl ?_
       simp only [execOp, Act.eval, al_gd, al_gl, al_g0, al_g1, al_od]
       subst hH
       go_simp
     simp only [putv, dstOf, al_gl, al_g0, al_g1, al_ob, al_g2, List.set_cons_succ, List.set_cons_zero]
     have hs1 : ((wr.drewN 1).alloc (.cells #[.pointer (some ⟨bB, 0, none⟩), .int .i64 j, .int .i64 (bits .and .i64 s 31), .int .i64 a] 105)).heap.size = H + 1 := by rw [zq8]; show wr.heap.size + 1 = _; omega
     have ho1 : ∀ b, b < H → ((wr.drewN 1).alloc (.cells #[.pointer (some ⟨bB, 0, none⟩), .int .i64 j, .int .i64 (bits .and .i64 s 31), .int .i64 a] 105)).heap[b]? = wr.heap[b]? := fun b hb => by rw [zqc, if_neg (by show b ≠ wr.heap.size; omega)]; rfl
     have hn1 := al_new (wr.drewN 1) (.cells #[.pointer (some ⟨bB, 0, none⟩), .int .i64 j, .int .i64 (bits .and .i64 s 31), .int .i64 a] 105)
     rw [show (wr.drewN 1).heap.size = H from hH] at hn1
     generalize (wr.drewN 1).alloc (.cells #[.pointer (some ⟨bB, 0, none⟩), .int .i64 j, .int .i64 (bits .and .i64 s 31), .int .i64 a] 105) = w1 at hs1 ho1 hn1 ⊢
     have W1 := Lib.hid (And.intro hs1 (And.intro ho1 (And.intro hn1 hH)))
     have hb1 : w1.heap.size = H + 1 := hs1
     clear hs1 ho1 hn1 hct f0 f1 f2
     have hrow : w1.ownsRow w.heap.size 60 1 out j ((List.range j).map fun i => wkV (wb i)) := ownsRow_of HR.out.orow fun g hg => W1.out.2.1 g (by have := (own_lt HR.out.orow hg).2.2; omega)
     have HRow := Lib.hid hrow
     clear hrow
     refine wpAny_one (i := 15) (by kernel_rfl) ?_
     simp only [wpOp, al_gl, al_g0, al_g1]
     rw [if_pos (by rfl)]
     refine .inl ?_
     go_simp
     refine wpAny_end (by kernel_rfl) ?_
     have HS := Lib.hid (And.intro hb1 hH)
     clear hb1 hH
     go_wp2_with (at_builtin; go_loud (refine wpList_append_lies _ rfl (.tmp 37) (.tmp 40) 47 rfl w.heap.size 60 ti .nilFunc 1 8 (by kernel_rfl) TI.out.1 TI.out.2.1 TI.out.2.2.1 TI.out.2.2.2 rfl (by decide) _ j ((List.range j).map fun i => wkV (wb i)) rfl (row_alloc HRow.out _) _ 1 1 [wkV (some H)] rfl rfl (one_new rfl) (by simp [Value.oneCell', wkV]) (by decide) (by simp only [maxLen]; omega) (by omega) (by have := HR.out.size; have := HS.out; simp only [zq8]; omega) _ rfl ?next))
     case next =>
      intro g cap w5 hown hgrow hat hlt5
      have HN := Lib.hid (HR.out.next (some H) (w1 := w1.alloc _) (by rw [zq8]; have := HS.out; omega) (fun b hb => by rw [zqc, if_neg (by have := HS.out; omega)]; exact W1.out.2.1 b (by have := HS.out; omega)) (by rw [HX.out]; simp) (fun b hb => by
       cases hb
       have h1 := HS.out
       refine ⟨by omega, by rw [zq8]; omega, ?_⟩
       rw [zqc, if_neg (by omega), W1.out.2.2.1]
       have h2 := (wk j).n_eq
       rw [HX.out] at h2 ⊢
       simp only at h2
       simp only [wkC, h2]) hown hgrow)
      clear hown hgrow hat hlt5
      go_wp2
      go_roundg (n - (j + 1))
      case measure => omega
      case rel => exact ⟨j + 1, _, _, rfl, rfl, by omega, rfl, HN.out⟩
  · obtain rfl : n = j := by omega
    go_wp2
    go_ret
    exact ⟨_, wb, rfl, HR.out⟩
set_option maxHeartbeats 1000000
section
variable {S : WS}
end
set_option maxHeartbeats 1000000
set_option maxRecDepth 100000
set_option maxHeartbeats 8000000
set_option maxRecDepth 100000
set_option maxHeartbeats 4000000
set_option maxRecDepth 100000
theorem WkO.re {w w1 : World} {τ : Nat → Question → Nat} {d bB n : Nat} {wk : Nat → Wk} {out : Value} {wb : Nat → Option Nat} (h : WkO (Go.Car.re w τ d) bB wk n out wb w1) : WkO w bB wk n out wb w1 := ⟨h.size, h.old, h.orow, h.nl, h.blk⟩
theorem WkO.to_re {w w1 : World} {τ : Nat → Question → Nat} {d bB n : Nat} {wk : Nat → Wk} {out : Value} {wb : Nat → Option Nat} (h : WkO w bB wk n out wb w1) : WkO w bB wk n out wb (Go.Car.re w1 τ d) := ⟨h.size, h.old, h.orow, h.nl, h.blk⟩
end Go.Proofs
set_option maxHeartbeats 4000000
set_option maxRecDepth 100000
namespace Go.Proofs
open Go Go.Conc Go.RowKit Go.Car Go.ChangeShapes Go.WideShapes Go.Deep
section
variable {H : Type} {enc : TypeId × Value → H} {P : Program} {w : World} {held : Bool} {sp : Nat → Bool}
theorem walk_open {t : TypeId} {fs : Array Field} (ht : P.underlying t = some (.struct fs)) (hfs : ∀ j, j < 3 → ∃ f, fs[j]? = some f ∧ f.offset = j ∧ P.cellsOf f.type = 1 ∧ P.underlying f.type = some (if j < 2 then .int .i64 else .bool)) (hsz : fs.size = 3)
 {cs : List Value} {x : DataW H × List MemPlace} {fuel : Nat} (h : DataW.trod enc P w 0 sp held fuel t cs = some x) : ∃ y : Wk, cs[0]? = some (.int .i64 y.s) ∧ cs[1]? = some (.int .i64 y.a) ∧ cs[2]? = some (.bool y.nl) := by
 obtain ⟨xs, n, _, _, _, hxl, hx⟩ := DataW.trod_struct ht h
 have part : ∀ (j : Nat) (v : Value), (cs.drop j).take 1 = [v] → cs[j]? = some v := fun j v h6 => by
  have : ((cs.drop j).take 1)[0]? = some v := by rw [h6]; rfl
  rw [List.getElem?_take, if_pos (by omega), List.getElem?_drop, Nat.add_zero] at this
  exact this
 have each : ∀ j, j < 2 → ∃ z : Int, cs[j]? = some (.int .i64 z) := fun j hj => by
  obtain ⟨f, h1, h2, h3, h4⟩ := hfs j (by omega)
  rw [if_pos hj] at h4
  have h5 := hx j f h1
  rw [h2, h3] at h5
  obtain ⟨y, hy⟩ : ∃ y, xs[j]? = some y := ⟨_, List.getElem?_eq_getElem (by omega)⟩
  rw [hy] at h5
  obtain ⟨z, h6, _⟩ := DataW.trod_int h4 h5
  exact ⟨z, part j _ h6⟩
 obtain ⟨z0, h0⟩ := each 0 (by omega)
 obtain ⟨z1, h1⟩ := each 1 (by omega)
 obtain ⟨f, g1, g2, g3, g4⟩ := hfs 2 (by omega)
 rw [if_neg (by omega)] at g4
 have g5 := hx 2 f g1
 rw [g2, g3] at g5
 obtain ⟨y, hy⟩ : ∃ y, xs[2]? = some y := ⟨_, List.getElem?_eq_getElem (by omega)⟩
 rw [hy] at g5
 obtain ⟨z2, g6, _⟩ := DataW.trod_bool g4 g5
 exact ⟨⟨z0, z1, z2⟩, h0, h1, part 2 _ g6⟩
end
end Go.Proofs
namespace Go.Proofs.Ytdncabjenacolaa
open Go Go.Conc Go.RowKit Go.Car Go.ChangeShapes Go.WideShapes Go.ChangeAt
theorem walk_fields : ∃ fs, Try.prog.underlying 53 = some (.struct fs) ∧ fs.size = 3 ∧ ∀ j, j < 3 → ∃ f, fs[j]? = some f ∧ f.offset = j ∧ Try.prog.cellsOf f.type = 1 ∧ Try.prog.underlying f.type = some (if j < 2 then .int .i64 else .bool) := by
 refine ⟨_, Try.underlying53, rfl, fun j hj => ?_⟩
 obtain rfl | rfl | rfl : j = 0 ∨ j = 1 ∨ j = 2 := by omega
 all_goals exact ⟨_, rfl, rfl, by kernel_rfl, by kernel_rfl⟩
end Go.Proofs.Ytdncabjenacolaa
set_option maxHeartbeats 1000000
set_option maxRecDepth 100000
namespace Go.Proofs
open Go Go.Conc Go.RowKit Go.Car
set_option maxHeartbeats 8000000
set_option maxRecDepth 100000
set_option maxHeartbeats 4000000
set_option maxRecDepth 100000
end Go.Proofs
set_option maxHeartbeats 4000000
set_option maxRecDepth 100000
namespace Go.Proofs.Ytdncabjenacolaa
open Go Go.Conc Go.RowKit Go.Car Go.ChangeShapes Go.WideShapes Go.ChangeAt
end Go.Proofs.Ytdncabjenacolaa
set_option maxHeartbeats 4000000
set_option maxRecDepth 100000
namespace Go.Proofs
open Go Go.Conc Go.RowKit Go.Car
theorem csteps_lone {cb : Nat} {most k : Int} (w : World) (hc : w.heap[cb]? = some (.cells #[.int .i64 most, .int .i64 k] 107)) : Calls Try.prog 19 #[.pointer (some ⟨cb, 0, none⟩)] w fun e w' => e = .returned (.int .i64 k) ∧ w' = w := by
 have c1 := (zq1 (off := 1) hc).trans rfl
 go_enter Try.func19, Try.ntmps19
 go_wp2
 go_ret
 exact ⟨rfl, rfl⟩
theorem csteps_nil (w : World) : Calls Try.prog 19 #[.pointer none] w fun e w' => e = .returned (.int .i64 0) ∧ w' = w := by
 go_enter Try.func19, Try.ntmps19
 go_wp2
 go_ret
 exact ⟨rfl, rfl⟩
theorem held_lone (x m : Int) (w : World) : Calls Try.prog 33 #[.int .i64 x, .int .i64 m] w fun e w' => e = .returned (.int .i64 (heldI x m)) ∧ w' = w := by
 unfold heldI
 by_cases h0 : x < 0
 · by_cases h1 : m < 0
   · go_enter Try.func33, Try.ntmps33
     rw [if_pos h0, if_pos h1]
     go_wp2
     all_goals (first | (go_ret; exact ⟨rfl, rfl⟩) | skip)
   · go_enter Try.func33, Try.ntmps33
     rw [if_pos h0, if_neg h1]
     go_wp2
     all_goals (first | (go_ret; exact ⟨rfl, rfl⟩) | skip)
 · by_cases h1 : m < x
   · go_enter Try.func33, Try.ntmps33
     rw [if_neg h0, if_pos h1]
     go_wp2
     all_goals (first | (go_ret; exact ⟨rfl, rfl⟩) | skip)
   · go_enter Try.func33, Try.ntmps33
     rw [if_neg h0, if_neg h1]
     go_wp2
     all_goals (first | (go_ret; exact ⟨rfl, rfl⟩) | skip)
theorem ncount_lone (x : Int) (w : World) : Calls Try.prog 18 #[.int .i64 x] w fun e w' => e = .returned (.pointer (some ⟨w.heap.size, 0, none⟩)) ∧ w' = w.alloc (.cells #[.int .i64 (heldI x 1048576), .int .i64 0] 107) := by
 go_enter Try.func18, Try.ntmps18
 go_wp2_with (fail)
 refine Calls.mono (held_lone x 1048576 w) ?_
 rintro e w' ⟨rfl, rfl⟩
 go_wp2
 go_ret
 exact ⟨rfl, rfl⟩
noncomputable def cntP (cb : Nat) : PanicEntry := { v := .iface 109 (.agg #[.iface 56 (.pointer (some ⟨cb, 0, none⟩))]), recovered := false }
theorem js_at {Fin : Machine → Trace → Prop} (hFin : Back Try.prog Fin) (n : Nat) : JS Try.prog true (fun _ => none) (fun (_ : Unit) => J0 Try.prog Fin n) := ⟨fun _ => (j0_JS hFin).re' n, fun _ => (j0_JS hFin).step n⟩
theorem cj_at {Fin : Machine → Trace → Prop} (hFin : Back Try.prog Fin) (n : Nat) : CalmJ Try.prog true (fun (_ : Unit) => J0 Try.prog Fin n) := fun _ => (j0_calm hFin) n
theorem cstep_raise {Kc : Addr → Option Value} {main : Bool} {J : Goroutine → World → Prop} (hJ : JS Try.prog main Kc (fun (_ : Unit) => J)) (hC : CalmJ Try.prog main (fun (_ : Unit) => J)) {cb : Nat} {most k : Int} {w : World} (hc : w.heap[cb]? = some (.cells #[.int .i64 most, .int .i64 k] 107)) (hk : ¬ k < most) {cl : Frame} {cs : List Frame} (hmain : J (G (cl.raise [cntP cb]) cs) w) :
 J (G (Frame.enter Try.prog 21 #[.pointer (some ⟨cb, 0, none⟩)] .normal) (cl :: cs)) w := by
 have hm := Lib.hid hmain
 clear hmain
 have e : Frame.enter Try.prog 21 #[.pointer (some ⟨cb, 0, none⟩)] .normal = (bN 21).at (enterAct Try.f21 #[.pointer (some ⟨cb, 0, none⟩)]) [.code ((Try.f21.body).getD .skip)] := rfl
 rw [e]
 simp only [Try.f21, enterAct, al_od, List.size_toArray, List.length_cons, List.length_nil, Nat.reduceAdd, Nat.reduceSub, Array.replicate_succ, Array.replicate_zero, List.push_toArray, List.append_toArray, List.nil_append, List.cons_append]
 refine hJ.ctl (s := ()) (fun w => stepG_seq) ?_
 refine at_lone (J := fun (_ : Unit) => J) (s := ()) hJ hC plainM (by kernel_rfl) (fun t w' => t = #[.pointer (some ⟨cb, 0, none⟩), undef, .pointer (some ⟨cb, 0, none⟩), .bool false, undef, undef, undef, undef, undef, undef, undef, undef, undef, undef, undef, undef, undef, undef, undef, undef, undef, undef, undef, undef] ∧ ∃ τ d, w' = re w τ d) (fun t w' τ d h => ⟨h.1, by obtain ⟨τ', d', rfl⟩ := h.2; exact ⟨τ, d, by rw [re_re]⟩⟩) (by decide) (fun τ d => ?_) ?_
 · go_wp2
   exact ⟨rfl, rfl, τ, d, rfl⟩
 rintro t w' ⟨rfl, τ, d, rfl⟩
 refine hJ.re' () _ _ τ d ?_
 refine hJ.ctl (s := ()) (fun w => stepG_seq) ?_
 refine hJ.ctl (s := ()) (fun w => stepG_seq) ?_
 refine at_lone (J := fun (_ : Unit) => J) (s := ()) hJ hC plainM (by kernel_rfl) (fun t w' => t = #[.pointer (some ⟨cb, 0, none⟩), undef, .pointer (some ⟨cb, 0, none⟩), .bool false, .pointer (some ⟨cb, 0, none⟩), .pointer (some ⟨cb, 0, none⟩), .pointer (some ⟨cb, 1, none⟩), .int .i64 k, .pointer (some ⟨cb, 0, none⟩), .pointer (some ⟨cb, 0, none⟩), .pointer (some ⟨cb, 0, none⟩), .int .i64 most, .bool true, undef, undef, undef, undef, undef, undef, undef, undef, undef, undef, undef] ∧ ∃ τ d, w' = re w τ d) (fun t w' τ d h => ⟨h.1, by obtain ⟨τ', d', rfl⟩ := h.2; exact ⟨τ, d, by rw [re_re]⟩⟩) (by decide) (fun τ d => ?_) ?_
 · have c0 := (zq1 (off := 0) hc).trans rfl
   have c1 := (zq1 (off := 1) hc).trans rfl
   have hge : k ≥ most := by omega
   go_quiet (fail)
   refine ⟨?_, ?_, ?_⟩
   · simp [hge]
   · rfl
   exact ⟨_, _, rfl⟩
 rintro t w' ⟨rfl, τ, d, rfl⟩
 refine hJ.re' () _ _ τ d ?_
 refine hJ.ctl (s := ()) (fun w => stepG_cond (t := true) rfl) ?_
 simp only [if_true]
 refine hJ.ctl (s := ()) (fun w => stepG_region) ?_
 refine at_piece (J := fun (_ : Unit) => J) (s := ()) (by decide) hJ (zqg _) true (.inl rfl) 0 4 1 rfl rfl rfl (by rfl) ?_
 intro τ d
 simp only [List.drop_zero, List.drop_succ_cons, List.take_succ_cons, List.take_zero]
 go_wp2
 simp only [contAt]
 refine hJ.re' () _ w τ d ?_
 refine at_panic (J := fun (_ : Unit) => J) (s := ()) (by decide) hJ rfl rfl (v := .iface 109 (.agg #[.iface 56 (.pointer (some ⟨cb, 0, none⟩))])) (fun w => ?_) (fun w => ?_) fun todo => raiseJ (s := ()) hJ (b := bN 21) rfl Try.func21 hm.out
 · simp [go_sem, execOp, Act.eval, Instr.panic]
 · simp [go_sem, execOp, Act.eval, Instr.panic]
theorem cstep_on {Kc : Addr → Option Value} {main : Bool} {J : Goroutine → World → Prop} (hJ : JS Try.prog main Kc (fun (_ : Unit) => J)) (hC : CalmJ Try.prog main (fun (_ : Unit) => J)) {cb : Nat} {most k : Int} {w : World} (hc : w.heap[cb]? = some (.cells #[.int .i64 most, .int .i64 k] 107)) (hk : k < most) (h0 : 0 ≤ k) (h1 : most ≤ 1048576) {cl : Frame} {cs : List Frame} (hmain : ∀ w1, w1.heap[cb]? = some (.cells #[.int .i64 most, .int .i64 (k + 1)] 107) → w1.heap.size = w.heap.size → (∀ b, b ≠ cb → w1.heap[b]? = w.heap[b]?) → J (G (cl.finish (.tuple #[])) cs) w1) :
 J (G (Frame.enter Try.prog 21 #[.pointer (some ⟨cb, 0, none⟩)] .normal) (cl :: cs)) w := by
 have hm := Lib.hid hmain
 clear hmain
 have e : Frame.enter Try.prog 21 #[.pointer (some ⟨cb, 0, none⟩)] .normal = (bN 21).at (enterAct Try.f21 #[.pointer (some ⟨cb, 0, none⟩)]) [.code ((Try.f21.body).getD .skip)] := rfl
 rw [e]
 simp only [Try.f21, enterAct, al_od, List.size_toArray, List.length_cons, List.length_nil, Nat.reduceAdd, Nat.reduceSub, Array.replicate_succ, Array.replicate_zero, List.push_toArray, List.append_toArray, List.nil_append, List.cons_append]
 refine hJ.ctl (s := ()) (fun w => stepG_seq) ?_
 refine at_lone (J := fun (_ : Unit) => J) (s := ()) hJ hC plainM (by kernel_rfl) (fun t w' => t = #[.pointer (some ⟨cb, 0, none⟩), undef, .pointer (some ⟨cb, 0, none⟩), .bool false, undef, undef, undef, undef, undef, undef, undef, undef, undef, undef, undef, undef, undef, undef, undef, undef, undef, undef, undef, undef] ∧ ∃ τ d, w' = re w τ d) (fun t w' τ d h => ⟨h.1, by obtain ⟨τ', d', rfl⟩ := h.2; exact ⟨τ, d, by rw [re_re]⟩⟩) (by decide) (fun τ d => ?_) ?_
 · go_wp2
   exact ⟨rfl, rfl, τ, d, rfl⟩
 rintro t w' ⟨rfl, τ, d, rfl⟩
 refine hJ.re' () _ _ τ d ?_
 refine hJ.ctl (s := ()) (fun w => stepG_seq) ?_
 refine hJ.ctl (s := ()) (fun w => stepG_seq) ?_
 refine at_lone (J := fun (_ : Unit) => J) (s := ()) hJ hC plainM (by kernel_rfl) (fun t w' => t = #[.pointer (some ⟨cb, 0, none⟩), undef, .pointer (some ⟨cb, 0, none⟩), .bool false, .pointer (some ⟨cb, 0, none⟩), .pointer (some ⟨cb, 0, none⟩), .pointer (some ⟨cb, 1, none⟩), .int .i64 k, .pointer (some ⟨cb, 0, none⟩), .pointer (some ⟨cb, 0, none⟩), .pointer (some ⟨cb, 0, none⟩), .int .i64 most, .bool false, undef, undef, undef, undef, undef, undef, undef, undef, undef, undef, undef] ∧ ∃ τ d, w' = re w τ d) (fun t w' τ d h => ⟨h.1, by obtain ⟨τ', d', rfl⟩ := h.2; exact ⟨τ, d, by rw [re_re]⟩⟩) (by decide) (fun τ d => ?_) ?_
 · have c0 := (zq1 (off := 0) hc).trans rfl
   have c1 := (zq1 (off := 1) hc).trans rfl
   have hge : ¬ k ≥ most := by omega
   go_quiet (fail)
   refine ⟨?_, ?_, ?_⟩
   · simp [hge]
   · rfl
   exact ⟨_, _, rfl⟩
 rintro t w' ⟨rfl, τ, d, rfl⟩
 refine hJ.re' () _ _ τ d ?_
 refine hJ.ctl (s := ()) (fun w => stepG_cond (t := false) rfl) ?_
 simp only [Bool.false_eq_true, if_false]
 refine hJ.ctl (s := ()) (fun w => stepG_skip) ?_
 refine at_lone (J := fun (_ : Unit) => J) (s := ()) hJ hC plainM (by kernel_rfl) (fun t w' => ∃ τ d, w' = re (w.setCell ⟨cb, 1, none⟩ (.int .i64 (k + 1))) τ d) (fun t w' τ d h => by obtain ⟨τ', d', rfl⟩ := h; exact ⟨τ, d, by rw [re_re]⟩) (by decide) (fun τ d => ?_) ?_
 · have c1 := (zq1 (off := 1) hc).trans rfl
   have z1 := zqf (off := 1) hc
   have d1 : IntKind.i64.wrap (k + 1) = k + 1 := IntWalk.i64_in _ (by omega)
   go_wp2
   exact ⟨rfl, τ, d, rfl⟩
 rintro t w' ⟨τ, d, rfl⟩
 refine hJ.re' () _ _ τ d ?_
 refine hJ.ctl (s := ()) (fun w => stepG_end) ?_
 refine leaveJ (s := ()) hJ (b := bN 21) (fn := Try.f21) (v := .tuple #[]) rfl rfl Try.func21 (fun τ d => ?_) (hm.out _ ((zqh _ _ _ _ hc).trans rfl) (hp_size_set _ _ _) fun b hb => zqa _ _ _ _ hb)
 simp [results, Try.f21]
theorem cstep_none {Kc : Addr → Option Value} {main : Bool} {J : Goroutine → World → Prop} (hJ : JS Try.prog main Kc (fun (_ : Unit) => J)) (hC : CalmJ Try.prog main (fun (_ : Unit) => J)) {w : World} {cl : Frame} {cs : List Frame} (hmain : J (G (cl.finish (.tuple #[])) cs) w) :
 J (G (Frame.enter Try.prog 21 #[.pointer none] .normal) (cl :: cs)) w := by
 have hm := Lib.hid hmain
 clear hmain
 have e : Frame.enter Try.prog 21 #[.pointer none] .normal = (bN 21).at (enterAct Try.f21 #[.pointer none]) [.code ((Try.f21.body).getD .skip)] := rfl
 rw [e]
 simp only [Try.f21, enterAct, al_od, List.size_toArray, List.length_cons, List.length_nil, Nat.reduceAdd, Nat.reduceSub, Array.replicate_succ, Array.replicate_zero, List.push_toArray, List.append_toArray, List.nil_append, List.cons_append]
 refine hJ.ctl (s := ()) (fun w => stepG_seq) ?_
 refine hJ.ctl (s := ()) (fun w => stepG_seq) ?_
 refine at_lone (J := fun (_ : Unit) => J) (s := ()) hJ hC plainM (by kernel_rfl) (fun t w' => t[3]? = some (.bool true) ∧ ∃ τ d, w' = re w τ d) (fun t w' τ d h => ⟨h.1, by obtain ⟨τ', d', rfl⟩ := h.2; exact ⟨τ, d, by rw [re_re]⟩⟩) (by decide) (fun τ d => ?_) ?_
 · go_wp2
   exact ⟨rfl, rfl, τ, d, rfl⟩
 rintro t w' ⟨h3, τ, d, rfl⟩
 refine hJ.re' () _ _ τ d ?_
 refine hJ.ctl (s := ()) (fun w => stepG_cond (t := true) (by simp [Act.eval, al_gd, h3])) ?_
 simp only [if_true]
 refine hJ.ctl (s := ()) (fun w => stepG_ret') ?_
 refine leaveJ (s := ()) hJ (b := bN 21) (fn := Try.f21) (v := .tuple #[]) rfl rfl Try.func21 (fun τ d => ?_) hm.out
 simp [results, Try.f21]
end Go.Proofs
set_option maxHeartbeats 1000000
namespace Go.Car
open Go Go.Conc Go.RowKit
section
variable {P : Program} {main : Bool} {Kc : Addr → Option Value} {γ : Type} {J : γ → Goroutine → World → Prop}
def onward (c : Frame) : Frame := match c.mode with
 | .panicking ({ recovered := true, .. } :: older) => match older.dropWhile (!·.goexit) with
  | [] => { c with mode := .returning }
  | rest => { c with mode := .panicking rest }
 | _ => c
theorem leaveD (hJ : JS P main Kc J) {b : Frame} {a : Act} {todo : List Item} {c : Frame} {cs : List Frame} {s : γ} {w : World} {fn : Func} {v : Value} (hn : b.kind = .deferred) (hd : a.defers = []) (hf : P.funcs[b.fn]? = some fn)
 (hr : ∀ τ d, (results fn a.tmps).run P (re w τ d) = .ok v (re w τ d)) (h : J s (G (onward c) cs) w) : J s (G { b.at a todo with mode := .returning } (c :: cs)) w := by
 refine hJ.step _ _ _ rfl fun τ d => ?_
 have hev : ∀ e ∈ ((results fn a.tmps).runT P (re w τ d) #[]).2, EvOk Kc e := fun e he => evOk_calm ((runT_calm _ (tame_results fn a.tmps) _ #[] e he).resolve_left (by simp))
 refine ⟨G (onward c) cs, re w τ d, seen P b.fn ((results fn a.tmps).runT P (re w τ d) #[]).2, ?_, OkD.refl _ _ _, fun e he => hev e (mem_seen he), hJ.re' _ _ _ _ _ h⟩
 have h1 : ((results fn a.tmps).runT P (re w τ d) #[]).1 = .ok v (re w τ d) := by rw [Sem.runT_eq]; exact hr τ d
 simp only [G, stepG, unwind, Frame.at, hd, hf]
 generalize (results fn a.tmps).runT P (re w τ d) #[] = r at h1
 obtain ⟨r, es⟩ := r
 simp only at h1
 subst h1
 simp only [doReturn, hn, GStep.after, Array.append_empty]
 rfl
end
end Go.Car
set_option maxHeartbeats 4000000
set_option maxRecDepth 100000
namespace Go.Proofs
open Go Go.Conc Go.RowKit Go.Car
@[go_sem] theorem neq_cnt (a : Addr) (w : World) : (binOp .neq 20 (.iface 56 (.pointer (some a))) (.iface 56 (.pointer (some a)))).run Try.prog w = .ok (.bool false) w := by
 simp only [binOp]
 simp [Op.equal, Op.maxDepth, run_equalIn_iface_ptr_same (P := Try.prog) w 9998 a (ti := 20) (tp := 56) rfl rfl rfl rfl rfl]
structure AlW (n cb : Nat) (whole : Bool) (w : World) : Prop where
 c : w.heap[n]? = some (.cells #[.pointer (some ⟨cb, 0, none⟩)] 56)
 whole : w.heap[n + 1]? = some (.cells #[.bool whole] 4)
def alone1 (n : Nat) : Deferred := { target := .fn (.func 38) #[.pointer (some ⟨n + 1, 0, none⟩), .pointer (some ⟨n, 0, none⟩)], args := #[] }
noncomputable def alOps : Array Oper := match Try.f20.body with | some (.seq _ (.seq _ (.seq (.seq _ (.cond _ (.region _ ops _) _)) _))) => ops | _ => #[]
noncomputable def alTail : Code := match Try.f20.body with | some (.seq _ (.seq _ (.seq _ c))) => c | _ => .skip
noncomputable def alAt (n cb : Nat) (fv : Value) : Frame := (bN 20).at ⟨#[.pointer (some ⟨cb, 0, none⟩), fv, .pointer (some ⟨n, 0, none⟩), undef, .pointer (some ⟨n + 1, 0, none⟩), .func (.func 38) #[] #[.pointer (some ⟨n + 1, 0, none⟩), .pointer (some ⟨n, 0, none⟩)], fv, .bool true, fv, .pointer (some ⟨cb, 0, none⟩), .iface 56 (.pointer (some ⟨cb, 0, none⟩)), undef], [alone1 n]⟩ [.inRegion alOps [3], .code alTail]
structure AlE (w w' : World) : Prop where
 size : w.heap.size ≤ w'.heap.size
 old : ∀ b, b < w.heap.size → w'.heap[b]? = w.heap[b]?
section
variable {Kc : Addr → Option Value} {main : Bool} {J : Goroutine → World → Prop}
theorem alone_ret (hJ : JS Try.prog main Kc (fun (_ : Unit) => J)) (hC : CalmJ Try.prog main (fun (_ : Unit) => J)) {n cb : Nat} {w : World} (hw : AlW n cb true w) {T : Array Value} {todo : List Item} (h4 : T[4]? = some (.pointer (some ⟨n + 1, 0, none⟩))) {cl : Frame} {cs : List Frame} (hmain : J (G (cl.finish (.bool true)) cs) w) :
 J (G { (bN 20).at ⟨T, [alone1 n]⟩ todo with mode := .returning } (cl :: cs)) w := by
 have hm := Lib.hid hmain
 clear hmain
 refine at_unwind (J := fun (_ : Unit) => J) (s := ()) (f := 38) (fn := Try.f38) (args := #[]) (caps := #[.pointer (some ⟨n + 1, 0, none⟩), .pointer (some ⟨n, 0, none⟩)]) (ds := []) hJ (.inl rfl) rfl Try.func38 (by kernel_rfl) rfl ?_
 have ea : enterAct Try.f38 (#[] ++ #[.pointer (some ⟨n + 1, 0, none⟩), .pointer (some ⟨n, 0, none⟩)]) = ⟨#[.pointer (some ⟨n + 1, 0, none⟩), .pointer (some ⟨n, 0, none⟩), undef, undef, undef, undef, undef, undef, undef, undef, undef, undef, undef, undef, undef, undef, undef, undef, undef, undef, undef], []⟩ := by kernel_rfl
 rw [ea]
 refine hJ.ctl (s := ()) (fun w => stepG_seq) ?_
 refine hJ.ctl (s := ()) (fun w => stepG_seq) ?_
 refine at_lone (J := fun (_ : Unit) => J) (s := ()) hJ hC plainM (by kernel_rfl) (fun t w' => t = #[.pointer (some ⟨n + 1, 0, none⟩), .pointer (some ⟨n, 0, none⟩), undef, undef, undef, .bool true, undef, undef, undef, undef, undef, undef, undef, undef, undef, undef, undef, undef, undef, undef, undef] ∧ ∃ τ d, w' = re w τ d) (fun t w' τ d h => ⟨h.1, by obtain ⟨τ', d', rfl⟩ := h.2; exact ⟨τ, d, by rw [re_re]⟩⟩) (by decide) (fun τ d => ?_) ?_
 · have c0 := (zq1 (off := 0) hw.whole).trans rfl
   go_wp2
   exact ⟨rfl, rfl, τ, d, rfl⟩
 rintro t w' ⟨rfl, τ, d, rfl⟩
 refine hJ.re' () _ _ τ d ?_
 refine hJ.ctl (s := ()) (fun w => stepG_cond (t := true) rfl) ?_
 simp only [if_true]
 refine hJ.ctl (s := ()) (fun w => stepG_ret') ?_
 refine leaveD (s := ()) hJ (b := baseD 38) (fn := Try.f38) (v := .tuple #[]) rfl rfl Try.func38 (fun τ d => ?_) ?_
 · simp [results, Try.f38]
 have c0 := (zq1 (off := 0) hw.whole).trans rfl
 refine leaveJ (s := ()) hJ (b := bN 20) (fn := Try.f20) (v := .bool true) rfl rfl Try.func20 (fun τ d => ?_) hm.out
 simp only [results, Try.f20]
 simp [go_sem, al_gd, h4]
 go_simp
theorem alone_exc (hJ : JS Try.prog main Kc (fun (_ : Unit) => J)) (hC : CalmJ Try.prog main (fun (_ : Unit) => J)) {n cb : Nat} {w : World} (hw : AlW n cb false w) {T : Array Value} {todo : List Item} (h4 : T[4]? = some (.pointer (some ⟨n + 1, 0, none⟩))) {r x : Value} {ok : Bool}
 (hassert : ∀ w, (Instr.typeAssert r 20 109 true).run Try.prog w = .ok (.tuple #[.agg #[x], .bool ok]) w) (hcase : (ok = false ∧ x = .nilIface) ∨ (ok = true ∧ x = .iface 56 (.pointer (some ⟨cb, 0, none⟩)))) {cl : Frame} {cs : List Frame} (hmain : ∀ w', AlE w w' → J (G (cl.finish (.bool false)) cs) w') :
 J (G { (bN 20).at ⟨T, [alone1 n]⟩ todo with mode := .panicking [{ v := r, recovered := false }] } (cl :: cs)) w := by
 have hm := Lib.hid hmain
 clear hmain
 refine at_unwind (J := fun (_ : Unit) => J) (s := ()) (f := 38) (fn := Try.f38) (args := #[]) (caps := #[.pointer (some ⟨n + 1, 0, none⟩), .pointer (some ⟨n, 0, none⟩)]) (ds := []) hJ (.inr ⟨_, rfl⟩) rfl Try.func38 (by kernel_rfl) rfl ?_
 have ea : enterAct Try.f38 (#[] ++ #[.pointer (some ⟨n + 1, 0, none⟩), .pointer (some ⟨n, 0, none⟩)]) = ⟨#[.pointer (some ⟨n + 1, 0, none⟩), .pointer (some ⟨n, 0, none⟩), undef, undef, undef, undef, undef, undef, undef, undef, undef, undef, undef, undef, undef, undef, undef, undef, undef, undef, undef], []⟩ := by kernel_rfl
 rw [ea]
 refine hJ.ctl (s := ()) (fun w => stepG_seq) ?_
 refine hJ.ctl (s := ()) (fun w => stepG_seq) ?_
 refine at_lone (J := fun (_ : Unit) => J) (s := ()) hJ hC plainM (by kernel_rfl) (fun t w' => t = #[.pointer (some ⟨n + 1, 0, none⟩), .pointer (some ⟨n, 0, none⟩), undef, undef, undef, .bool false, undef, undef, undef, undef, undef, undef, undef, undef, undef, undef, undef, undef, undef, undef, undef] ∧ ∃ τ d, w' = re w τ d) (fun t w' τ d h => ⟨h.1, by obtain ⟨τ', d', rfl⟩ := h.2; exact ⟨τ, d, by rw [re_re]⟩⟩) (by decide) (fun τ d => ?_) ?_
 · have c0 := (zq1 (off := 0) hw.whole).trans rfl
   go_wp2
   exact ⟨rfl, rfl, τ, d, rfl⟩
 rintro t w' ⟨rfl, τ, d, rfl⟩
 refine hJ.re' () _ _ τ d ?_
 refine hJ.ctl (s := ()) (fun w => stepG_cond (t := false) rfl) ?_
 simp only [Bool.false_eq_true, if_false]
 refine hJ.ctl (s := ()) (fun w => stepG_skip) ?_
 refine hJ.ctl (s := ()) (fun w => stepG_seq) ?_
 refine hJ.ctl (s := ()) (fun w => stepG_region) ?_
 refine at_recover_some (J := fun (_ : Unit) => J) (s := ()) (i := 0) (rest := [1]) (v := r) (older := []) rfl rfl hJ rfl rfl (fun w => by simp [go_sem, execOp, Act.eval, resolve]) (fun w => by simp [go_sem, execOp, Act.eval, resolve]) ?_
 refine at_piece (J := fun (_ : Unit) => J) (s := ()) (by decide) hJ (zqg _) true (.inl rfl) 1 1 0 rfl rfl rfl (by rfl) ?_
 intro τ d
 simp only [List.drop_zero, List.drop_succ_cons, List.take_succ_cons, List.take_zero]
 go_wp2
 simp only [contAt]
 refine hJ.re' () _ _ τ d ?_
 refine hJ.ctl (s := ()) (fun w => stepG_region_end) ?_
 refine hJ.ctl (s := ()) (fun w => stepG_seq) ?_
 obtain ⟨H, hH⟩ : ∃ H, w.heap.size = H := ⟨_, rfl⟩
 have hex : ∃ X, X = #[.pointer (some ⟨n + 1, 0, none⟩), .pointer (some ⟨n, 0, none⟩), r, undef, undef, .bool false, r, undef, undef, undef, undef, undef, undef, undef, undef, undef, undef, undef, undef, undef, undef] := ⟨_, rfl⟩
 refine at_lone (J := fun (_ : Unit) => J) (s := ()) hJ hC plainM (by kernel_rfl) (fun t w' => t = #[.pointer (some ⟨n + 1, 0, none⟩), .pointer (some ⟨n, 0, none⟩), r, .pointer (some ⟨H, 0, none⟩), .bool ok, .bool false, r, .tuple #[.agg #[x], .bool ok], r, .tuple #[.agg #[x], .bool ok], .agg #[x], .bool ok, undef, undef, undef, undef, undef, undef, undef, undef, undef] ∧ ∃ τ d, w' = re ((w.alloc (.cells #[.nilIface] 109)).setCell ⟨H, 0, none⟩ x) τ d) (fun t w' τ d h => ⟨h.1, by obtain ⟨τ', d', rfl⟩ := h.2; exact ⟨τ, d, by rw [re_re]⟩⟩) (by decide) (fun τ d => ?_) ?_
 · have hh := hassert
   have g0 : ((re w τ d).alloc (.cells #[.nilIface] 109)).cell? ⟨H, 0, none⟩ = some .nilIface := by rw [← hH]; exact (zq1 (al_new (re w τ d) _)).trans rfl
   have g1 : ((re w τ d).alloc (.cells #[.nilIface] 109)).frozen? ⟨H, 0, none⟩ = false := by rw [← hH]; exact zqf (al_new (re w τ d) _)
   subst hH
   rcases hcase with ⟨rfl, rfl⟩ | ⟨rfl, rfl⟩
   · go_wp2
     exact ⟨rfl, rfl, τ, d, rfl⟩
   · go_wp2
     exact ⟨rfl, rfl, τ, d, rfl⟩
 rintro t w' ⟨rfl, τ, d, rfl⟩
 refine hJ.re' () _ _ τ d ?_
 have k1 := zqh (w.alloc (.cells #[.nilIface] 109)) H 0 x (by rw [← hH]; exact al_new w _)
 have k2 : ∀ b, b < H → ((w.alloc (.cells #[.nilIface] 109)).setCell ⟨H, 0, none⟩ x).heap[b]? = w.heap[b]? := fun b hb => by rw [zqa _ _ _ _ (by show b ≠ H; omega), zqc, if_neg (by omega)]
 have k3 : ((w.alloc (.cells #[.nilIface] 109)).setCell ⟨H, 0, none⟩ x).heap.size = H + 1 := by rw [hp_size_set, zq8, hH]
 generalize (w.alloc (.cells #[.nilIface] 109)).setCell ⟨H, 0, none⟩ x = w2 at k1 k2 k3 ⊢
 have hn1 : n < H := hH ▸ zq4 hw.c
 have hn2 : n + 1 < H := hH ▸ zq4 hw.whole
 have c1 : w2.cell? ⟨n, 0, none⟩ = some (.pointer (some ⟨cb, 0, none⟩)) := (zq1 ((k2 n hn1).trans hw.c)).trans rfl
 have c2 : w2.cell? ⟨n + 1, 0, none⟩ = some (.bool false) := (zq1 ((k2 (n + 1) hn2).trans hw.whole)).trans rfl
 have c3 : w2.cell? ⟨H, 0, none⟩ = some x := (zq1 k1).trans rfl
 have hend : AlE w w2 := ⟨by omega, fun b hb => k2 b (by omega)⟩
 clear k1 k2 k3 hw
 refine hJ.ctl (s := ()) (fun w => stepG_seq) ?_
 refine at_lone (J := fun (_ : Unit) => J) (s := ()) hJ hC plainM (by kernel_rfl) (fun t w' => t[19]? = some (.bool false) ∧ ∃ τ d, w' = re w2 τ d) (fun t w' τ d h => ⟨h.1, by obtain ⟨τ', d', rfl⟩ := h.2; exact ⟨τ, d, by rw [re_re]⟩⟩) (by decide) (fun τ d => ?_) ?_
 · rcases hcase with ⟨rfl, rfl⟩ | ⟨rfl, rfl⟩
   · go_wp2
     exact ⟨rfl, rfl, τ, d, rfl⟩
   · go_wp2
     exact ⟨rfl, rfl, τ, d, rfl⟩
 rintro t w' ⟨h19, τ, d, rfl⟩
 refine hJ.re' () _ _ τ d ?_
 refine hJ.ctl (s := ()) (fun w => stepG_cond (t := false) (by simp [Act.eval, al_gd, h19])) ?_
 simp only [Bool.false_eq_true, if_false]
 refine hJ.ctl (s := ()) (fun w => stepG_skip) ?_
 refine hJ.ctl (s := ()) (fun w => stepG_end) ?_
 refine leaveD (s := ()) hJ (b := baseD 38) (fn := Try.f38) (v := .tuple #[]) rfl rfl Try.func38 (fun τ d => ?_) ?_
 · simp [results, Try.f38]
 refine leaveJ (s := ()) hJ (b := bN 20) (a := ⟨T, []⟩) (todo := todo) (fn := Try.f20) (v := .bool false) rfl rfl Try.func20 (fun τ d => ?_) (hm.out w2 hend)
 simp only [results, Try.f20]
 simp [go_sem, al_gd, h4]
 go_simp
end
end Go.Proofs
