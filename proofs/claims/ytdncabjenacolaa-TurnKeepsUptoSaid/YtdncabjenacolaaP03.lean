/- YtdncabjenacolaaTKeep4: part 3 of the proof (the texts behind it, in order). -/
import Derived.Test.YtdncabjenacolaaP02
set_option linter.unusedSimpArgs false
set_option linter.unusedVariables false
set_option linter.unusedSectionVars false
set_option linter.unnecessarySimpa false
set_option maxHeartbeats 1000000
set_option maxRecDepth 100000
namespace Go.Proofs
open Go Go.Conc Go.RowKit Go.Car
open Go.ConcN (upd upd_ne upd_same)
theorem assert_nil (w : World) : (Instr.typeAssert .nilIface 20 109 true).run Try.prog w = .ok (.tuple #[.agg #[.nilIface], .bool false]) w := by kernel_rfl
theorem assert_end (x : Value) (w : World) : (Instr.typeAssert (.iface 109 x) 20 109 true).run Try.prog w = .ok (.tuple #[x, .bool true]) w := by rfl
@[go_sem] theorem neq_same (a : Addr) (w : World) : (binOp .neq 20 (.iface 91 (.pointer (some a))) (.iface 91 (.pointer (some a)))).run Try.prog w = .ok (.bool false) w := by
 simp only [binOp]
 simp [Op.equal, Op.maxDepth, run_equalIn_iface_ptr_same (P := Try.prog) w 9998 a (ti := 20) (tp := 91) rfl rfl rfl rfl rfl]
structure TW (bT bS bB N cap capB i st back pass : Nat) (sr br : Array Value) (ov : Bool) (w : World) : Prop where
 ts : w.heap[bT]? = some (.cells #[.chan (some back), .slice (some ⟨bS, 0, none⟩) N cap, .slice (some ⟨bB, 0, none⟩) N capB] 95)
 sts : w.heap[bS]? = some (.cells sr 96)
 brs : w.heap[bB]? = some (.cells br 4)
 std : w.heap[st]? = some (.cells #[.pointer (some ⟨bT, 0, none⟩), .chan (some pass), .bool ov] 99)
 lt : i < N
 s : sr[i]? = some (.pointer (some ⟨st, 0, none⟩))
 b : ∃ x, br[i]? = some (.bool x)
theorem run1_tail {Kc : Addr → Option Value} {J : Goroutine → World → Prop} (hJ : JX Try.prog Kc J) {n bT i : Nat} {whole : Bool} {c : Frame} {cs : List Frame} {w : World} {x3 x4 x5 x6 x7 x8 x9 x10 x11 x12 x13 x14 x15 x16 x17 x18 x19 x20 x21 x22 x23 x24 x25 x26 x27 x28 x29 x30 x31 x32 x33 x34 x35 x36 x37 x38 x39 x40 x41 x42 : Value}
 (hR : RunW n bT i whole w) {bS bB N cap capB st back pass : Nat} {sr br : Array Value} {ov : Bool} (hT : TW bT bS bB N cap capB i st back pass sr br ov w) (hne : bT ≠ st ∧ n ≠ st)
 (hKs : Kc ⟨st, 2, none⟩ = none)
 (hnext : ∀ T w', T[41]? = some (.chan (some back)) → T[42]? = some (.agg #[]) → w'.heap.size = w.heap.size → (∀ b, b ≠ st → w'.heap[b]? = w.heap[b]?) →
  w'.heap[st]? = some (.cells #[.pointer (some ⟨bT, 0, none⟩), .chan (some pass), .bool true] 99) →
  J (G ((baseD 46).at ⟨T, []⟩ [.inRegion (match Try.f46.body with | some (.seq _ (.seq _ (.seq _ (.region _ ops _)))) => ops | _ => #[]) [5]]) (c :: cs)) w') :
 J (G ((baseD 46).at ⟨#[.pointer (some ⟨n, 0, none⟩), .pointer (some ⟨n + 2, 0, none⟩), .pointer (some ⟨n + 1, 0, none⟩), x3, x4, x5, x6, x7, x8, x9, x10, x11, x12, x13, x14, x15, x16, x17, x18, x19, x20, x21, x22, x23, x24, x25, x26, x27, x28, x29, x30, x31, x32, x33, x34, x35, x36, x37, x38, x39, x40, x41, x42], []⟩ [.code (match Try.f46.body with | some (.seq _ (.seq _ c)) => c | _ => .skip)]) (c :: cs)) w := by
 obtain ⟨r1, r2, r3⟩ := hR
 obtain ⟨t1, t2, t3, t4, t5, t6, t7⟩ := hT
 have c1 := (zq0 (off := 0) r1).trans rfl
 have c2 := (zq0 (off := 0) r2).trans rfl
 have z1 : w.frozen? ⟨n, 0, none⟩ = false := zqg r1
 have z2 : w.frozen? ⟨n + 1, 0, none⟩ = false := zqg r2
 have d1 := (zq0 (off := 1) t1).trans rfl
 have d2 := (zq0 (off := i) t2).trans t6
 have d4 := (zq0 (off := 2) t4).trans rfl
 have y4 : w.frozen? ⟨st, 2, none⟩ = false := zqg t4
 have hi' : (i : Int) < N := by omega
 have hi0 : (0 : Int) ≤ i := by omega
 simp only [Try.f46]
 refine hJ.ctl (s := ()) (fun w => stepG_seq) ?_
 refine at_draw (J := fun (_ : Unit) => J) (s := ()) hJ (by decide) (by rfl) [.pointer (some ⟨bT, 0, none⟩), .pointer (some ⟨bT, 0, none⟩), .pointer (some ⟨bT, 1, none⟩), .slice (some ⟨bS, 0, none⟩) N cap, .int .i64 i, .pointer (some ⟨bS, i, none⟩), .pointer (some ⟨st, 0, none⟩), .pointer (some ⟨st, 0, none⟩), .pointer (some ⟨st, 2, none⟩)] (by kernel_rfl) ?_ ?_
 · intro τ d
   simp only [evals, putv, dstOf, al_gl, al_g0, al_g1, al_ob, al_g2, List.set_cons_succ, List.set_cons_zero]
   refine ⟨?_, ?_, ?_, ?_, ?_, ?_, ?_, ?_, ?_, trivial⟩ <;> (intro o ho; simp only [al_oi] at ho; subst ho)
   all_goals (simp only [execOp, Act.eval, al_gd, al_gl, al_g0, al_g1, al_od])
   all_goals (try go_simp)
 · simp only [putv, dstOf, al_gl, al_g0, al_g1, al_ob, al_g2, List.set_cons_succ, List.set_cons_zero, Nat.reduceAdd, Nat.zero_add, List.length_cons, List.length_nil]
   refine at_store (J := fun (_ : Unit) => J) (s := ()) (i := 9) (rest := []) (by decide) hJ rfl rfl (ad := ⟨st, 2, none⟩) rfl (fun j hj => free_cell hKs hj) ⟨_, _, _, t4⟩ ?_
   intro τ d
   go_wp2
   simp only [contAt, re_setCell]
   refine hJ.re' () _ _ τ d ?_
   have g3 := zqh w st 2 (Value.bool true) t4
   have g4 : ∀ b, b ≠ st → (w.setCell ⟨st, 2, none⟩ (Value.bool true)).heap[b]? = w.heap[b]? := fun b hb => zq3 _ _ _ _ hb
   have g5 : (w.setCell ⟨st, 2, none⟩ (Value.bool true)).heap.size = w.heap.size := zqi _ _ _
   generalize w.setCell ⟨st, 2, none⟩ (Value.bool true) = w2 at g3 g4 g5 ⊢
   refine hJ.ctl (s := ()) (fun w => stepG_region_end) ?_
   refine hJ.ctl (s := ()) (fun w => stepG_region) ?_
   refine at_piece (J := fun (_ : Unit) => J) (s := ()) (by decide) hJ (rows0_none _) true (.inl rfl) 0 5 1 rfl rfl rfl (by rfl) ?_
   intro τ d
   have e1 : w2.cell? ⟨n, 0, none⟩ = some (.pointer (some ⟨bT, 0, none⟩)) := (zqf (g4 n hne.2)).trans c1
   have e2 : w2.cell? ⟨bT, 0, none⟩ = some (.chan (some back)) := (zqf (g4 bT hne.1)).trans ((zq0 (off := 0) t1).trans rfl)
   simp only [List.drop_zero, List.drop_succ_cons, List.take_succ_cons, List.take_zero]
   go_wp2
   simp only [contAt]
   refine hJ.re' () _ _ τ d ?_
   refine hnext _ w2 (by rfl) (by rfl) g5 g4 (g3.trans (by rfl))
theorem run1_body {Kc : Addr → Option Value} {J : Goroutine → World → Prop} (hJ : JX Try.prog Kc J) {n bT i : Nat} {whole ok : Bool} {r x : Value} {c : Frame} {cs : List Frame} {w : World} {a : Act}
 (ha : a = ⟨#[.pointer (some ⟨n, 0, none⟩), .pointer (some ⟨n + 2, 0, none⟩), .pointer (some ⟨n + 1, 0, none⟩), r, undef, undef, r, undef, undef, undef, undef, undef, undef, undef, undef, undef, undef, undef, undef, undef, undef, undef, undef, undef, undef, undef, undef, undef, undef, undef, undef, undef, undef, undef, undef, undef, undef, undef, undef, undef, undef, undef, undef], []⟩)
 (hassert : ∀ w, (Instr.typeAssert r 20 109 true).run Try.prog w = .ok (.tuple #[.agg #[x], .bool ok]) w) (hcase : (ok = false ∧ x = .nilIface) ∨ (ok = true ∧ x = .iface 91 (.pointer (some ⟨bT, 0, none⟩))))
 (hR : RunW n bT i whole w) (hK : ∀ a v, Kc a = some v → a.block < w.heap.size)
 {bS bB N cap capB st back pass : Nat} {sr br : Array Value} {ov : Bool} (hT : TW bT bS bB N cap capB i st back pass sr br ov w) (hlt : bT < n ∧ bS < n ∧ bB < n ∧ st < n) (hne : bT ≠ bB ∧ bS ≠ bB ∧ st ≠ bB ∧ bT ≠ st ∧ bS ≠ st)
 (hKB : ∀ y : Addr, y.block = bB → Kc y = none) (hKs : Kc ⟨st, 2, none⟩ = none)
 (hnext : ∀ T w', T[41]? = some (.chan (some back)) → T[42]? = some (.agg #[]) → w'.heap.size = w.heap.size + 1 → (∀ b, b < w.heap.size → b ≠ bB → b ≠ st → w'.heap[b]? = w.heap[b]?) →
  w'.heap[st]? = some (.cells #[.pointer (some ⟨bT, 0, none⟩), .chan (some pass), .bool true] 99) → w'.heap[bB]? = some (.cells (if ok = true then br else br.setIfInBounds i (.bool (!whole))) 4) →
  J (G ((baseD 46).at ⟨T, []⟩ [.inRegion (match Try.f46.body with | some (.seq _ (.seq _ (.seq _ (.region _ ops _)))) => ops | _ => #[]) [5]]) (c :: cs)) w') :
 J (G ((baseD 46).at a [.code (match Try.f46.body with | some (.seq _ c) => c | _ => .skip)]) (c :: cs)) w := by
 obtain ⟨r1, r2, r3⟩ := hR
 have c1 := (zq0 (off := 0) r1).trans rfl
 have c2 := (zq0 (off := 0) r2).trans rfl
 have c3 := (zq0 (off := 0) r3).trans rfl
 have z1 : w.frozen? ⟨n, 0, none⟩ = false := zqg r1
 have z2 : w.frozen? ⟨n + 1, 0, none⟩ = false := zqg r2
 have z3 : w.frozen? ⟨n + 2, 0, none⟩ = false := zqg r3
 subst ha
 simp only [Try.f46]
 refine hJ.ctl (s := ()) (fun w => stepG_seq) ?_
 refine hJ.ctl (s := ()) (fun w => stepG_seq) ?_
 refine hJ.ctl (s := ()) (fun w => stepG_region) ?_
 refine at_piece (J := fun (_ : Unit) => J) (s := ()) (by decide) hJ (rows0_none _) true (.inl rfl) 0 6 2 rfl rfl rfl (by rfl) ?_
 intro τ d
 simp only [List.drop_zero, List.drop_succ_cons, List.take_succ_cons, List.take_zero]
 go_wp2
 simp only [contAt, re_alloc]
 refine hJ.re' () _ _ τ d ?_
 generalize hw1 : w.alloc (Obj.cells #[Value.nilIface] 109) = w1
 have f0 : w1.heap[w.heap.size]? = some (.cells #[.nilIface] 109) := by subst hw1; rw [zqa, if_pos rfl]
 have f1 : ∀ b, b ≠ w.heap.size → w1.heap[b]? = w.heap[b]? := fun b hb => by subst hw1; rw [zqa, if_neg hb]
 have hfree : ∀ y : Addr, y.block = w.heap.size → Kc y = none := fun y hy => by
  cases hky : Kc y with
  | none => rfl
  | some v => have := hK y v hky; omega
 have g1 : w1.cell? ⟨w.heap.size, 0, none⟩ = some .nilIface := (zq0 f0).trans rfl
 have g2 : w1.frozen? ⟨w.heap.size, 0, none⟩ = false := zqg f0
 refine at_store (J := fun (_ : Unit) => J) (s := ()) (i := 6) (rest := [7]) (by decide) hJ rfl rfl (ad := ⟨w.heap.size, 0, none⟩) rfl (fun j _ => free_block hfree j) ⟨_, _, _, f0⟩ ?_
 intro τ d
 rcases hcase with ⟨rfl, rfl⟩ | ⟨rfl, rfl⟩
 · go_wp2
   simp only [contAt, re_setCell]
   refine hJ.re' () _ _ τ d ?_
   have g3 := zqh w1 w.heap.size 0 Value.nilIface f0
   have g4 : ∀ b, b ≠ w.heap.size → (w1.setCell ⟨w.heap.size, 0, none⟩ Value.nilIface).heap[b]? = w1.heap[b]? := fun b hb => zq3 _ _ _ _ hb
   have g5 : (w1.setCell ⟨w.heap.size, 0, none⟩ Value.nilIface).heap.size = w.heap.size + 1 := by rw [zqi, ← hw1, zq6]
   generalize w1.setCell ⟨w.heap.size, 0, none⟩ Value.nilIface = w2 at g3 g4 g5 ⊢
   refine at_piece (J := fun (_ : Unit) => J) (s := ()) (by decide) hJ (rows0_none _) true (.inl rfl) 7 1 0 rfl rfl rfl (by rfl) ?_
   intro τ d
   simp only [List.drop_zero, List.drop_succ_cons, List.take_succ_cons, List.take_zero]
   go_wp2
   simp only [contAt]
   refine hJ.re' () _ _ τ d ?_
   refine hJ.ctl (s := ()) (fun w => stepG_region_end) ?_
   refine hJ.ctl (s := ()) (fun w => stepG_seq) ?_
   refine hJ.ctl (s := ()) (fun w => stepG_region) ?_
   refine at_piece (J := fun (_ : Unit) => J) (s := ()) (by decide) hJ (rows0_none _) true (.inl rfl) 0 9 0 rfl rfl rfl (by rfl) ?_
   intro τ d
   simp only [List.drop_zero, List.drop_succ_cons, List.take_succ_cons, List.take_zero]
   go_wp2
   simp only [contAt]
   refine hJ.re' () _ _ τ d ?_
   refine hJ.ctl (s := ()) (fun w => stepG_region_end) ?_
   refine hJ.ctl (s := ()) (fun w => stepG_cond (t := true) rfl) ?_
   simp only [if_true]
   obtain ⟨t1, t2, t3, t4, t5, t6, ⟨bx, t7⟩⟩ := hT
   have lt1 := zq4 t1
   have lt2 := zq4 t2
   have lt3 := zq4 t3
   have lt4 := zq4 t4
   have lt5 := zq4 r1
   have lt6 := zq4 r2
   have lt7 := zq4 r3
   have o : ∀ b, b < w.heap.size → w2.heap[b]? = w.heap[b]? := fun b hb => (g4 b (by omega)).trans (f1 b (by omega))
   have k1 : w2.cell? ⟨n, 0, none⟩ = some (.pointer (some ⟨bT, 0, none⟩)) := (zq0 ((o n lt5).trans r1)).trans rfl
   have k2 : w2.cell? ⟨n + 1, 0, none⟩ = some (.int .i64 i) := (zq0 ((o (n + 1) lt6).trans r2)).trans rfl
   have k3 : w2.cell? ⟨n + 2, 0, none⟩ = some (.bool whole) := (zq0 ((o (n + 2) lt7).trans r3)).trans rfl
   have k4 : w2.cell? ⟨bT, 2, none⟩ = some (.slice (some ⟨bB, 0, none⟩) N capB) := (zq0 ((o bT lt1).trans t1)).trans rfl
   have k5 : w2.cell? ⟨bB, i, none⟩ = some (.bool bx) := (zq0 ((o bB lt3).trans t3)).trans t7
   have k6 : w2.frozen? ⟨bB, i, none⟩ = false := zqg ((o bB lt3).trans t3)
   have hi' : (i : Int) < N := by omega
   have hi0 : (0 : Int) ≤ i := by omega
   refine at_draw (J := fun (_ : Unit) => J) (s := ()) hJ (by decide) (by rfl) [.pointer (some ⟨bT, 0, none⟩), .pointer (some ⟨bT, 0, none⟩), .pointer (some ⟨bT, 2, none⟩), .slice (some ⟨bB, 0, none⟩) N capB, .int .i64 i, .bool whole, .bool (!whole), .pointer (some ⟨bB, i, none⟩)] (by kernel_rfl) ?_ ?_
   · intro τ d
     simp only [evals, putv, dstOf, al_gl, al_g0, al_g1, al_ob, al_g2, List.set_cons_succ, List.set_cons_zero]
     refine ⟨?_, ?_, ?_, ?_, ?_, ?_, ?_, ?_, trivial⟩ <;> (intro o ho; simp only [al_oi] at ho; subst ho)
     all_goals (simp only [execOp, Act.eval, al_gd, al_gl, al_g0, al_g1, al_od])
     all_goals (try go_simp)
   · simp only [putv, dstOf, al_gl, al_g0, al_g1, al_ob, al_g2, List.set_cons_succ, List.set_cons_zero, Nat.reduceAdd, Nat.zero_add, List.length_cons, List.length_nil]
     refine at_store (J := fun (_ : Unit) => J) (s := ()) (i := 8) (rest := []) (by decide) hJ rfl rfl (ad := ⟨bB, i, none⟩) rfl (fun j _ => free_block hKB j) ⟨_, _, _, (o bB lt3).trans t3⟩ ?_
     intro τ d
     go_wp2
     simp only [contAt, re_setCell]
     refine hJ.re' () _ _ τ d ?_
     have m3 := zqh w2 bB i (Value.bool (!whole)) ((o bB lt3).trans t3)
     have m4 : ∀ b, b ≠ bB → (w2.setCell ⟨bB, i, none⟩ (Value.bool (!whole))).heap[b]? = w2.heap[b]? := fun b hb => zq3 _ _ _ _ hb
     have m5 : (w2.setCell ⟨bB, i, none⟩ (Value.bool (!whole))).heap.size = w2.heap.size := zqi _ _ _
     generalize w2.setCell ⟨bB, i, none⟩ (Value.bool (!whole)) = w3 at m3 m4 m5 ⊢
     refine hJ.ctl (s := ()) (fun w => stepG_region_end) ?_
     have o3 : ∀ b, b < w.heap.size → b ≠ bB → w3.heap[b]? = w.heap[b]? := fun b hb h => (m4 b h).trans (o b hb)
     have hbi : i < br.size := (Array.getElem?_eq_some_iff.1 t7).1
     refine run1_tail hJ (n := n) (i := i) (whole := whole) ⟨(o3 n lt5 (by omega)).trans r1, (o3 (n + 1) lt6 (by omega)).trans r2, (o3 (n + 2) lt7 (by omega)).trans r3⟩
      (bB := bB) (br := br.setIfInBounds i (.bool (!whole))) ⟨(o3 bT lt1 hne.1).trans t1, (o3 bS lt2 hne.2.1).trans t2, m3, (o3 st lt4 hne.2.2.1).trans t4, t5, t6, ⟨!whole, by simp [hbi]⟩⟩ ⟨hne.2.2.2.1, by omega⟩ hKs ?_
     intro T w' hT1 hT2 hsz hold hst
     refine hnext T w' hT1 hT2 (by rw [hsz, m5, g5]) (fun b hb h1 h2 => (hold b h2).trans (o3 b hb h1)) hst ?_
     rw [hold bB hne.2.2.1.symm, m3]
     simp
 · go_wp2
   simp only [contAt, re_setCell]
   refine hJ.re' () _ _ τ d ?_
   have g3 := zqh w1 w.heap.size 0 (Value.iface 91 (.pointer (some ⟨bT, 0, none⟩))) f0
   have g4 : ∀ b, b ≠ w.heap.size → (w1.setCell ⟨w.heap.size, 0, none⟩ (Value.iface 91 (.pointer (some ⟨bT, 0, none⟩)))).heap[b]? = w1.heap[b]? := fun b hb => zq3 _ _ _ _ hb
   have g5 : (w1.setCell ⟨w.heap.size, 0, none⟩ (Value.iface 91 (.pointer (some ⟨bT, 0, none⟩)))).heap.size = w.heap.size + 1 := by rw [zqi, ← hw1, zq6]
   generalize w1.setCell ⟨w.heap.size, 0, none⟩ (Value.iface 91 (.pointer (some ⟨bT, 0, none⟩))) = w2 at g3 g4 g5 ⊢
   obtain ⟨t1, t2, t3, t4, t5, t6, ⟨bx, t7⟩⟩ := hT
   have lt1 := zq4 t1
   have lt2 := zq4 t2
   have lt3 := zq4 t3
   have lt4 := zq4 t4
   have lt5 := zq4 r1
   have lt6 := zq4 r2
   have lt7 := zq4 r3
   have o : ∀ b, b < w.heap.size → w2.heap[b]? = w.heap[b]? := fun b hb => (g4 b (by omega)).trans (f1 b (by omega))
   have k0 : w2.cell? ⟨w.heap.size, 0, none⟩ = some (Value.iface 91 (.pointer (some ⟨bT, 0, none⟩))) := (zq0 g3).trans rfl
   have k1 : w2.cell? ⟨n, 0, none⟩ = some (.pointer (some ⟨bT, 0, none⟩)) := (zq0 ((o n lt5).trans r1)).trans rfl
   refine at_piece (J := fun (_ : Unit) => J) (s := ()) (by decide) hJ (rows0_none _) true (.inl rfl) 7 1 0 rfl rfl rfl (by rfl) ?_
   intro τ d
   simp only [List.drop_zero, List.drop_succ_cons, List.take_succ_cons, List.take_zero]
   go_wp2
   simp only [contAt]
   refine hJ.re' () _ _ τ d ?_
   refine hJ.ctl (s := ()) (fun w => stepG_region_end) ?_
   refine hJ.ctl (s := ()) (fun w => stepG_seq) ?_
   refine hJ.ctl (s := ()) (fun w => stepG_region) ?_
   refine at_piece (J := fun (_ : Unit) => J) (s := ()) (by decide) hJ (rows0_none _) true (.inl rfl) 0 9 0 rfl rfl rfl (by rfl) ?_
   intro τ d
   simp only [List.drop_zero, List.drop_succ_cons, List.take_succ_cons, List.take_zero]
   go_wp2
   simp only [contAt]
   refine hJ.re' () _ _ τ d ?_
   refine hJ.ctl (s := ()) (fun w => stepG_region_end) ?_
   refine hJ.ctl (s := ()) (fun w => stepG_cond (t := false) rfl) ?_
   simp only [Bool.false_eq_true, if_false]
   refine hJ.ctl (s := ()) (fun w => stepG_skip) ?_
   refine run1_tail hJ (n := n) (i := i) (whole := whole) ⟨(o n lt5).trans r1, (o (n + 1) lt6).trans r2, (o (n + 2) lt7).trans r3⟩
    (bB := bB) (br := br) ⟨(o bT lt1).trans t1, (o bS lt2).trans t2, (o bB lt3).trans t3, (o st lt4).trans t4, t5, t6, ⟨_, t7⟩⟩ ⟨hne.2.2.2.1, by omega⟩ hKs ?_
   intro T w' hT1 hT2 hsz hold hst
   refine hnext T w' hT1 hT2 (by rw [hsz, g5]) (fun b hb h1 h2 => (hold b h2).trans (o b hb)) hst ?_
   rw [hold bB hne.2.2.1.symm, o bB lt3, t3]
   simp
def Leaving (c : Frame) : Prop := c.fn = 34 ∧ c.defers = [] ∧ c.kind = .deferred ∧ (c.mode = .returning ∨ ∃ v, c.mode = .panicking [{ v, recovered := true }])
noncomputable def sendAt (T : Array Value) : Frame := (baseD 46).at ⟨T, []⟩ [.inRegion (match Try.f46.body with | some (.seq _ (.seq _ (.seq _ (.region _ ops _)))) => ops | _ => #[]) [5]]
theorem quits_bot : QuitsD Try.prog 1 0 (G bot []) := by
 refine QuitsD.ctl (g' := { G bot [] with status := .finished }) rfl (fun w => ?_) ⟨rfl, rfl⟩
 simp [G, bot, botF, stepG, unwind, goexitEntry, Frame.catches]
 rfl
theorem quits_run (c : Frame) (h1 : c.fn = 34) (h2 : c.defers = []) (h3 : c.kind = .deferred) (h4 : c.mode = .returning) : QuitsD Try.prog 2 0 (G c [bot]) := by
 refine QuitsD.ctl (g' := G bot []) rfl (fun w => ?_) quits_bot
 have hr : (results Try.f34 c.tmps).run Try.prog w = .ok (.tuple #[]) w := by simp [results, Try.f34]
 have he : (results Try.f34 c.tmps).events Try.prog w #[] = #[] := by simp [results, Try.f34]
 simp [G, stepG, unwind, h1, h2, h3, h4, Try.func34, Sem.runT_eq, hr, he, seen, GStep.after, doReturn, bot, botF, goexitEntry]
theorem leaves (T : Array Value) (c : Frame) (hc : Leaving c) : QuitsD Try.prog 5 0 (Conc.served (G (sendAt T) [c, bot]) undef) := by
 obtain ⟨h1, h2, h3, h4⟩ := hc
 simp only [sendAt, Try.f46]
 rw [served_fr, Frame.finish_at]
 have ep : ∀ a : Act, a.put none undef = a := fun a => rfl
 simp only [al_gl, al_g0, al_g1, al_ob, ep]
 refine QuitsD.ctl rfl (fun w => stepG_region_end) ?_
 refine QuitsD.ctl rfl (fun w => stepG_end) ?_
 refine QuitsD.ctl (g' := G { c with mode := .returning } [bot]) rfl (fun w => ?_) (quits_run _ h1 h2 h3 rfl)
 have hr : ∀ t, (results Try.f46 t).run Try.prog w = .ok (.tuple #[]) w := fun t => by simp [results, Try.f46]
 have he : ∀ t, (results Try.f46 t).events Try.prog w #[] = #[] := fun t => by simp [results, Try.f46]
 rcases h4 with h4 | ⟨v, h4⟩
 · have e : { c with mode := .returning } = c := by cases c; simp only at h4; subst h4; rfl
   rw [e]
   simp [G, stepG, unwind, Frame.at, baseD, Try.func46, Sem.runT_eq, hr, he, seen, GStep.after, doReturn, h4]
 · simp [G, stepG, unwind, Frame.at, baseD, Try.func46, Sem.runT_eq, hr, he, seen, GStep.after, doReturn, h4]
theorem send_leaves {Fin : Machine → Trace → Prop} (hFin : Back Try.prog Fin) {Kc : Addr → Option Value} {Inb : Nat → Option Seat} {j n back : Nat} {T : Array Value} {c : Frame} {w : World} (hj : 0 < j) (hn : 0 < n)
 {zb : Value} {okb : Bool} {homeb : Goroutine → Prop} (h0 : Inb 0 = some (Seat.one back zb okb homeb)) (h1 : T[41]? = some (.chan (some back))) (h2 : T[42]? = some (.agg #[])) (hc : Leaving c)
 (hnext : ∀ g₂ k cap, homeb g₂ → w.heap[back]? = some (.chan cap #[] false k k false) → HoldR Try.prog Fin Kc (upd Inb j none) 0 n (Conc.served g₂ (recvd okb (.agg #[]) true)) (w.setChan back cap #[] false (k + 1) (k + 1) false)) :
 HoldR Try.prog Fin Kc Inb j n (G (sendAt T) [c, bot]) w := by
 have hl := leaves T c hc
 simp only [sendAt, Try.f46] at hl ⊢
 refine give_hold hFin (by omega) hn h0 rfl (send_at (c := back) (v := .agg #[]) (z' := .tuple #[]) rfl rfl (by decide) (fun w => ?_) (fun w => ?_) w) (by simp) (.leaves hj ⟨5, hl⟩) hnext
 · simp [execOp, scase, Act.eval, al_gd, h1, h2]
 · simp [go_sem, execOp, Act.eval]
structure EndIn (Kc : Addr → Option Value) (n bT bS bB N cap capB i st back pass : Nat) (sr br : Array Value) (ov : Bool) (w : World) : Prop where
 kept : ∀ a v, Kc a = some v → a.block < w.heap.size
 tw : TW bT bS bB N cap capB i st back pass sr br ov w
 lt : bT < n ∧ bS < n ∧ bB < n ∧ st < n
 ne : bT ≠ bB ∧ bS ≠ bB ∧ st ≠ bB ∧ bT ≠ st ∧ bS ≠ st
 kb : ∀ y : Addr, y.block = bB → Kc y = none
 ks : Kc ⟨st, 2, none⟩ = none
structure EndOut (bB st bT pass i : Nat) (br : Array Value) (brk : Option Bool) (w w' : World) : Prop where
 size : w.heap.size ≤ w'.heap.size
 old : ∀ b, b < w.heap.size → b ≠ bB → b ≠ st → w'.heap[b]? = w.heap[b]?
 std : w'.heap[st]? = some (.cells #[.pointer (some ⟨bT, 0, none⟩), .chan (some pass), .bool true] 99)
 brs : w'.heap[bB]? = some (.cells (match brk with | some x => br.setIfInBounds i (.bool x) | none => br) 4)
theorem run1_all {Kc : Addr → Option Value} {J : Goroutine → World → Prop} (hJ : JX Try.prog Kc J) {n bT bS bB N cap capB i st back pass : Nat} {sr br : Array Value} {ov whole : Bool} {w : World} {b : Frame} {a : Act} {todo : List Item} {md : FrameMode} {r : Value} {ok : Bool} {x : Value}
 (hb : b = baseD 34) (hd : a.defers = [run1 n]) (hmd : (md = .returning ∧ r = .nilIface) ∨ md = .panicking [{ v := r, recovered := false }])
 (hassert : ∀ w, (Instr.typeAssert r 20 109 true).run Try.prog w = .ok (.tuple #[.agg #[x], .bool ok]) w) (hcase : (ok = false ∧ x = .nilIface) ∨ (ok = true ∧ x = .iface 91 (.pointer (some ⟨bT, 0, none⟩))))
 (hR : RunW n bT i whole w) (hE : EndIn Kc n bT bS bB N cap capB i st back pass sr br ov w)
 (hnext : ∀ T c w', Leaving c → T[41]? = some (.chan (some back)) → T[42]? = some (.agg #[]) → EndOut bB st bT pass i br (if ok = true then none else some (!whole)) w w' → J (G (sendAt T) [c, bot]) w') :
 J (G { b.at a todo with mode := md } [bot]) w := by
 subst hb
 refine at_unwind (J := fun (_ : Unit) => J) (s := ()) (f := 46) (fn := Try.f46) (c := Try.f46.body.getD .skip) (args := #[]) (caps := #[.pointer (some ⟨n, 0, none⟩), .pointer (some ⟨n + 2, 0, none⟩), .pointer (some ⟨n + 1, 0, none⟩)]) (ds := []) hJ ?_ hd Try.func46 rfl rfl ?_
 · rcases hmd with ⟨h, _⟩ | h
   · exact .inl h
   · exact .inr ⟨_, h⟩
 have body : ∀ (c : Frame), Leaving c → J (G ((baseD 46).at ⟨#[.pointer (some ⟨n, 0, none⟩), .pointer (some ⟨n + 2, 0, none⟩), .pointer (some ⟨n + 1, 0, none⟩), r, undef, undef, r, undef, undef, undef, undef, undef, undef, undef, undef, undef, undef, undef, undef, undef, undef, undef, undef, undef, undef, undef, undef, undef, undef, undef, undef, undef, undef, undef, undef, undef, undef, undef, undef, undef, undef, undef, undef], []⟩ [.code (match Try.f46.body with | some (.seq _ c) => c | _ => .skip)]) [c, bot]) w := by
  intro c hc
  refine run1_body hJ rfl hassert hcase hR hE.kept hE.tw hE.lt hE.ne hE.kb hE.ks ?_
  intro T w' h1 h2 h3 h4 h5 h6
  refine hnext T c w' hc h1 h2 ⟨by omega, h4, h5, ?_⟩
  rw [h6]
  cases ok <;> rfl
 simp only [Try.f46, enterAct, al_od, List.size_toArray, List.length_cons, List.length_nil, Nat.reduceAdd, Nat.reduceSub, Array.replicate_succ, Array.replicate_zero, List.push_toArray, List.append_toArray, List.nil_append, List.cons_append] at body ⊢
 refine hJ.ctl (s := ()) (fun w => stepG_seq) ?_
 refine hJ.ctl (s := ()) (fun w => stepG_region) ?_
 rcases hmd with ⟨rfl, rfl⟩ | rfl
 · refine at_recover_none (J := fun (_ : Unit) => J) (s := ()) (i := 0) (rest := [1]) rfl rfl hJ rfl rfl (fun w => by simp [go_sem, execOp, Act.eval]) (fun w => by simp [go_sem, execOp, Act.eval]) ?_
   walk_nrm
   refine at_piece (J := fun (_ : Unit) => J) (s := ()) (by decide) hJ (rows0_none _) true (.inl rfl) 1 1 0 rfl rfl rfl (by rfl) ?_
   intro τ d
   simp only [List.drop_zero, List.drop_succ_cons, List.take_succ_cons, List.take_zero]
   go_wp2
   simp only [contAt]
   refine hJ.re' () _ _ τ d ?_
   refine hJ.ctl (s := ()) (fun w => stepG_region_end) ?_
   exact body _ ⟨rfl, rfl, rfl, .inl rfl⟩
 · refine at_recover_some (J := fun (_ : Unit) => J) (s := ()) (i := 0) (rest := [1]) (v := r) (older := []) rfl rfl hJ rfl rfl (fun w => by simp [go_sem, execOp, Act.eval]) (fun w => by simp [go_sem, execOp, Act.eval]) ?_
   walk_nrm
   refine at_piece (J := fun (_ : Unit) => J) (s := ()) (by decide) hJ (rows0_none _) true (.inl rfl) 1 1 0 rfl rfl rfl (by rfl) ?_
   intro τ d
   simp only [List.drop_zero, List.drop_succ_cons, List.take_succ_cons, List.take_zero]
   go_wp2
   simp only [contAt]
   refine hJ.re' () _ _ τ d ?_
   refine hJ.ctl (s := ()) (fun w => stepG_region_end) ?_
   exact body _ ⟨rfl, rfl, rfl, .inr ⟨r, rfl⟩⟩
theorem TW.of_same {bT bS bB N cap capB i st back pass : Nat} {sr br : Array Value} {ov : Bool} {w w' : World} (h : TW bT bS bB N cap capB i st back pass sr br ov w)
 (h1 : w'.heap[bT]? = w.heap[bT]?) (h2 : w'.heap[bS]? = w.heap[bS]?) (h3 : w'.heap[bB]? = w.heap[bB]?) (h4 : w'.heap[st]? = w.heap[st]?) : TW bT bS bB N cap capB i st back pass sr br ov w' :=
 ⟨h1.trans h.ts, h2.trans h.sts, h3.trans h.brs, h4.trans h.std, h.lt, h.s, h.b⟩
theorem run_whole {Kc : Addr → Option Value} {J : Goroutine → World → Prop} (hJ : JX Try.prog Kc J) {n bT bS bB N cap capB i st back pass : Nat} {sr br : Array Value} {ov : Bool} {w : World} {T : Array Value}
 (hT6 : T[6]? = some (.pointer (some ⟨n + 2, 0, none⟩))) (hR : RunW n bT i false w) (hE : EndIn Kc n bT bS bB N cap capB i st back pass sr br ov w) (hKn : ∀ y : Addr, y.block = n + 2 → Kc y = none)
 (hnext : ∀ T c w', Leaving c → T[41]? = some (.chan (some back)) → T[42]? = some (.agg #[]) → w.heap.size ≤ w'.heap.size → (∀ b, b < w.heap.size → b ≠ bB → b ≠ st → b ≠ n + 2 → w'.heap[b]? = w.heap[b]?) →
  w'.heap[st]? = some (.cells #[.pointer (some ⟨bT, 0, none⟩), .chan (some pass), .bool true] 99) → w'.heap[bB]? = some (.cells (br.setIfInBounds i (.bool false)) 4) → J (G (sendAt T) [c, bot]) w') :
 J (G ((baseD 34).at ⟨T, [run1 n]⟩ [.code code5]) [bot]) w := by
 simp only [code5, Try.f34]
 have l1 := hE.lt
 refine hJ.ctl (s := ()) (fun w => stepG_region) ?_
 have k1 : w.cell? ⟨n + 2, 0, none⟩ = some (.bool false) := (zq0 hR.whole).trans rfl
 have k2 : w.frozen? ⟨n + 2, 0, none⟩ = false := zqg hR.whole
 refine at_store (J := fun (_ : Unit) => J) (s := ()) (i := 0) (rest := []) (by decide) hJ rfl rfl (ad := ⟨n + 2, 0, none⟩) (by simp [Act.eval, al_gd, hT6]) (fun j _ => free_block hKn j) ⟨_, _, _, hR.whole⟩ ?_
 intro τ d
 go_wp2
 simp only [contAt, re_setCell]
 refine hJ.re' () _ _ τ d ?_
 have m3 := zqh w (n + 2) 0 (Value.bool true) hR.whole
 have m4 : ∀ b, b ≠ n + 2 → (w.setCell ⟨n + 2, 0, none⟩ (Value.bool true)).heap[b]? = w.heap[b]? := fun b hb => zq3 _ _ _ _ hb
 have m5 : (w.setCell ⟨n + 2, 0, none⟩ (Value.bool true)).heap.size = w.heap.size := zqi _ _ _
 generalize w.setCell ⟨n + 2, 0, none⟩ (Value.bool true) = w3 at m3 m4 m5 ⊢
 refine hJ.ctl (s := ()) (fun w => stepG_region_end) ?_
 refine hJ.ctl (s := ()) (fun w => stepG_end) ?_
 refine run1_all hJ (whole := true) (r := .nilIface) (ok := false) (x := .nilIface) (md := .returning) rfl rfl (.inl ⟨rfl, rfl⟩) assert_nil (.inl ⟨rfl, rfl⟩) ⟨(m4 n (by omega)).trans hR.t, (m4 (n + 1) (by omega)).trans hR.i, m3⟩
  ⟨fun a v h => by rw [m5]; exact hE.kept a v h, hE.tw.of_same (m4 _ (by omega)) (m4 _ (by omega)) (m4 _ (by omega)) (m4 _ (by omega)), hE.lt, hE.ne, hE.kb, hE.ks⟩ ?_
 intro T c w' hc h1 h2 ho
 refine hnext T c w' hc h1 h2 (by have := ho.size; omega) (fun b hb h3 h4 h5 => (ho.old b (by omega) h3 h4).trans (m4 b h5)) ho.std ho.brs
theorem run_back {Kc : Addr → Option Value} {J : Goroutine → World → Prop} (hJ : JX Try.prog Kc J) {n bT bS bB N cap capB i st back pass : Nat} {sr br : Array Value} {ov : Bool} {w : World} {tv v : Value}
 (hR : RunW n bT i false w) (hE : EndIn Kc n bT bS bB N cap capB i st back pass sr br ov w) (hKn : ∀ y : Addr, y.block = n + 2 → Kc y = none)
 (hnext : ∀ T c w', Leaving c → T[41]? = some (.chan (some back)) → T[42]? = some (.agg #[]) → w.heap.size ≤ w'.heap.size → (∀ b, b < w.heap.size → b ≠ bB → b ≠ st → b ≠ n + 2 → w'.heap[b]? = w.heap[b]?) →
  w'.heap[st]? = some (.cells #[.pointer (some ⟨bT, 0, none⟩), .chan (some pass), .bool true] 99) → w'.heap[bB]? = some (.cells (br.setIfInBounds i (.bool false)) 4) → J (G (sendAt T) [c, bot]) w') :
 J (G ((runCall n bT bS N cap i st tv [.inRegion ops4 [9], .code code5]).finish v) [bot]) w := by
 simp only [runCall]
 rw [Frame.finish_at]
 refine hJ.ctl (s := ()) (fun w => stepG_region_end) ?_
 refine run_whole hJ (by simp [Act.put, ops4, Try.f34]) hR hE hKn hnext
theorem run_nil {Kc : Addr → Option Value} {J : Goroutine → World → Prop} (hJ : JX Try.prog Kc J) {n bT bS bB N cap capB i st back pass : Nat} {sr br : Array Value} {ov : Bool} {w : World}
 (hR : RunW n bT i false w) (hE : EndIn Kc n bT bS bB N cap capB i st back pass sr br ov w) (hKn : ∀ y : Addr, y.block = n + 2 → Kc y = none)
 (hnext : ∀ T c w', Leaving c → T[41]? = some (.chan (some back)) → T[42]? = some (.agg #[]) → w.heap.size ≤ w'.heap.size → (∀ b, b < w.heap.size → b ≠ bB → b ≠ st → b ≠ n + 2 → w'.heap[b]? = w.heap[b]?) →
  w'.heap[st]? = some (.cells #[.pointer (some ⟨bT, 0, none⟩), .chan (some pass), .bool true] 99) → w'.heap[bB]? = some (.cells (br.setIfInBounds i (.bool false)) 4) → J (G (sendAt T) [c, bot]) w') :
 J (G (runAt n bT i .nilFunc [.code runRest]) [bot]) w := by
 simp only [runAt, runRest, Try.f34]
 refine hJ.ctl (s := ()) (fun w => stepG_seq) ?_
 refine hJ.ctl (s := ()) (fun w => stepG_seq) ?_
 refine hJ.ctl (s := ()) (fun w => stepG_region) ?_
 refine at_piece (J := fun (_ : Unit) => J) (s := ()) (by decide) hJ (rows0_none _) true (.inl rfl) 0 2 0 rfl rfl rfl (by rfl) ?_
 intro τ d
 simp only [List.drop_zero, List.drop_succ_cons, List.take_succ_cons, List.take_zero]
 go_wp2
 simp only [contAt]
 refine hJ.re' () _ _ τ d ?_
 refine hJ.ctl (s := ()) (fun w => stepG_region_end) ?_
 refine hJ.ctl (s := ()) (fun w => stepG_cond (t := false) rfl) ?_
 simp only [Bool.false_eq_true, if_false]
 refine hJ.ctl (s := ()) (fun w => stepG_skip) ?_
 have := @run_whole Kc J hJ n bT bS bB N cap capB i st back pass sr br ov w
 refine this (T := _) ?_ hR hE hKn hnext
 rfl
theorem run_raised {Kc : Addr → Option Value} {J : Goroutine → World → Prop} (hJ : JX Try.prog Kc J) {n bT bS bB N cap capB i st back pass : Nat} {sr br : Array Value} {ov : Bool} {w : World} {tv r x : Value} {ok : Bool}
 (hassert : ∀ w, (Instr.typeAssert r 20 109 true).run Try.prog w = .ok (.tuple #[.agg #[x], .bool ok]) w) (hcase : (ok = false ∧ x = .nilIface) ∨ (ok = true ∧ x = .iface 91 (.pointer (some ⟨bT, 0, none⟩))))
 (hR : RunW n bT i false w) (hE : EndIn Kc n bT bS bB N cap capB i st back pass sr br ov w)
 (hnext : ∀ T c w', Leaving c → T[41]? = some (.chan (some back)) → T[42]? = some (.agg #[]) → EndOut bB st bT pass i br (if ok = true then none else some true) w w' → J (G (sendAt T) [c, bot]) w') :
 J (G ((runCall n bT bS N cap i st tv [.inRegion ops4 [9], .code code5]).raise [{ v := r, recovered := false }]) [bot]) w := by
 simp only [runCall]
 rw [Frame.raise_at]
 exact run1_all hJ (whole := false) rfl rfl (.inr rfl) hassert hcase hR hE hnext
end Go.Proofs
set_option maxHeartbeats 1000000
namespace Go.Car
open Go Go.Conc Go.RowKit
section
variable {P : Program}
theorem hold_keep {Fin : Machine → Trace → Prop} {Kc Kc' : Addr → Option Value} {Inb : Nat → Option Seat} {n : Nat} {g : Goroutine} {w : World} (hI : ∀ i, i ≠ 0 → Inb i = none) (hK : KK Kc' w)
 (h : HoldR P Fin Kc' (fun _ => none) 0 n g w) : HoldR P Fin Kc Inb 0 n g w := by
 intro τ d Mem B gs sl T q hM hsz hg C
 obtain ⟨hL, hP⟩ := ring_end C hM hI
 exact h τ d (fun g => g = 0) B gs sl T q rfl hsz hg (ring_begin (Still := StillK Kc') (fun l (hl : StillK Kc' l) => by obtain ⟨a, v, rfl, _⟩ := hl; rfl) hL hP hK)
theorem KK_none (w : World) : KK (fun _ => none) w := fun a v h => by cases h
structure Mc where
 n : Nat
 inb : Nat → Option Seat
def JMain (P : Program) (Fin : Machine → Trace → Prop) (Kc : Addr → Option Value) (s : Mc) (g : Goroutine) (w : World) : Prop := HoldR P Fin Kc s.inb 0 s.n g w
def J0 (P : Program) (Fin : Machine → Trace → Prop) (n : Nat) (g : Goroutine) (w : World) : Prop := HoldR P Fin (fun _ => none) (fun _ => none) 0 n g w
theorem j0_JS {Fin : Machine → Trace → Prop} (hFin : Back P Fin) : JS P true (fun _ => none) (J0 P Fin) :=
 ⟨fun s g w τ d h => (holdR_JS hFin _ (fun _ => none) 0 s).re' () g w τ d h, fun s g w hr hs => (holdR_JS hFin _ (fun _ => none) 0 s).step () g w hr hs⟩
theorem j0_calm {Fin : Machine → Trace → Prop} (hFin : Back P Fin) : CalmJ P true (J0 P Fin) :=
 fun s fr cs w hs => holdR_calm hFin (Inb := fun _ => none) (fun _ => rfl) 0 s () fr cs w hs
theorem j0_of_main {Fin : Machine → Trace → Prop} {Kc : Addr → Option Value} {n : Nat} {g : Goroutine} {w : World} (hK : KK Kc w) (h : JMain P Fin Kc ⟨n, fun _ => none⟩ g w) : J0 P Fin n g w := hold_keep (fun _ _ => rfl) hK h
theorem main_of_j0 {Fin : Machine → Trace → Prop} {Kc : Addr → Option Value} {s : Mc} {g : Goroutine} {w : World} (hI : ∀ i, i ≠ 0 → s.inb i = none) (h : J0 P Fin s.n g w) : JMain P Fin Kc s g w := hold_keep hI (KK_none w) h
end
end Go.Car
set_option maxHeartbeats 1000000
namespace Go.Car
open Go Go.RowKit
abbrev Snap := Nat → Option (Array Value × TypeId)
structure Cut (X : Snap) (w wc : World) : Prop where
 is : ∀ b c e, X b = some (c, e) → w.heap[b]? = some (.cells c e) ∧ wc.heap[b]? = some (.cells #[] e)
 no : ∀ b, X b = none → wc.heap[b]? = w.heap[b]?
 size : wc.heap.size = w.heap.size
 tape : wc.tape = w.tape
 drawn : wc.drawn = w.drawn
 os : wc.os = w.os
 output : wc.output = w.output
theorem Cut.re {X : Snap} {w wc : World} (h : Cut X w wc) (τ : Nat → Question → Nat) (d : Nat) : Cut X (re w τ d) (re wc τ d) := ⟨h.is, h.no, h.size, rfl, rfl, h.os, h.output⟩
def apart (X : Snap) (e : Event) : Prop := ∀ a, e.loc = .cell a → X a.block = none
def fit {α : Type} : Result α → Prop
 | .ok _ _ => True
 | .halt (.panic _) _ => True
 | .halt _ _ => False
def setW {α : Type} : Result α → World → Result α
 | .ok a _, w => .ok a w
 | .halt h _, w => .halt h w
def zq2 {α : Type} (P : Program) (s : Sem α) : Prop := ∀ (X : Snap) (w wc : World) (es : Array Event), Cut X w wc → fit (s.runT P wc es).1 →
 ∃ w', Cut X w' (resW (s.runT P wc es).1) ∧ s.runT P w es = (setW (s.runT P wc es).1 w', (s.runT P wc es).2) ∧ ∀ e ∈ (s.runT P wc es).2, e ∈ es ∨ apart X e
class Stdy {α : Type} (P : Program) (s : Sem α) : Prop where
 out : zq2 P s
section
variable {α β : Type} {P : Program}
theorem steady_pure (a : α) : zq2 P (Pure.pure a : Sem α) := fun X w wc es h _ => ⟨w, h, rfl, fun e he => .inl he⟩
theorem steady_halt (x : Halt) : zq2 P (Sem.halt x : Sem α) := fun X w wc es h _ => ⟨w, h, rfl, fun e he => .inl he⟩
theorem runT_bind {s : Sem α} {f : α → Sem β} (w : World) (es : Array Event) : (s >>= f).runT P w es = match s.runT P w es with
 | (.ok a w', es') => (f a).runT P w' es'
 | (.halt x w', es') => (.halt x w', es') := by
 have := runT_bind_ok (P := P) s f w es
 refine Eq.trans this ?_
 split <;> simp_all
theorem zq5 {s : Sem α} {f : α → Sem β} (hs : zq2 P s) (hf : ∀ a, zq2 P (f a)) : zq2 P (s >>= f) := by
 intro X w wc es h hfit
 have h1 := hs X w wc es h
 rw [runT_bind] at hfit ⊢
 rw [runT_bind w]
 generalize s.runT P wc es = r at h1 hfit
 obtain ⟨r, es'⟩ := r
 cases r with
 | ok a wc' =>
  obtain ⟨w', c1, e1, v1⟩ := h1 trivial
  rw [e1]
  simp only [resW, setW] at c1 hfit ⊢
  obtain ⟨w'', c2, e2, v2⟩ := hf a X w' wc' es' c1 hfit
  exact ⟨w'', c2, e2, fun e he => (v2 e he).elim (v1 e) .inr⟩
 | halt x wc' =>
  have hx : fit (Result.halt x wc' : Result α) := by cases x <;> first | trivial | exact hfit.elim
  obtain ⟨w', c1, e1, v1⟩ := h1 hx
  rw [e1]
  exact ⟨w', c1, rfl, v1⟩
theorem zq8 {s : Sem α} {f : α → β} (hs : zq2 P s) : zq2 P (Functor.map f s) := zq5 hs fun _ => steady_pure _
instance (a : α) : Stdy P (Pure.pure a : Sem α) := ⟨steady_pure a⟩
instance (s : String) : Stdy P (stuck s : Sem α) := ⟨steady_halt _⟩
instance (u : Unsupported) : Stdy P (unsupported u : Sem α) := ⟨steady_halt _⟩
instance (v : Value) : Stdy P (goPanic v : Sem α) := ⟨steady_halt _⟩
theorem steady_program : zq2 P program := fun X w wc es h _ => ⟨w, h, rfl, fun e he => .inl he⟩
instance : Stdy P program := ⟨steady_program⟩
theorem steady_choose (q : Question) : zq2 P (choose q) := by
 intro X w wc es h _
 unfold choose
 simp only [Sem.runT]
 by_cases hq : q.forced = true
 · simp only [hq, if_true]
   exact ⟨w, h, rfl, fun e he => .inl he⟩
 · simp only [hq, Bool.false_eq_true, if_false]
   refine ⟨{ w with drawn := w.drawn + 1 }, ⟨h.is, h.no, h.size, h.tape, by show wc.drawn + 1 = w.drawn + 1; rw [h.drawn], h.os, h.output⟩, ?_, fun e he => .inl he⟩
   rw [h.tape, h.drawn]
   rfl
instance (q : Question) : Stdy P (choose q) := ⟨steady_choose q⟩
theorem steady_mark (m : Mark) : zq2 P (mark m) := by
 intro X w wc es h _
 refine ⟨w, h, rfl, fun e he => ?_⟩
 simp only [mark, Sem.runT] at he
 rcases Array.mem_push.1 he with he | rfl
 · exact .inl he
 · exact .inr fun a ha => by cases ha
instance (m : Mark) : Stdy P (mark m) := ⟨steady_mark m⟩
theorem steady_newObj (o : Obj) : zq2 P (newObj o) := by
 intro X w wc es h _
 refine ⟨{ w with heap := w.heap.push o }, ⟨fun b c e hb => ?_, fun b hb => ?_, ?_, h.tape, h.drawn, h.os, h.output⟩, ?_, fun e he => .inl he⟩
 · obtain ⟨h1, h2⟩ := h.is b c e hb
   have l1 := (Array.getElem?_eq_some_iff.1 h1).1
   have l2 := (Array.getElem?_eq_some_iff.1 h2).1
   constructor
   · show (w.heap.push o)[b]? = _
     rw [Array.getElem?_push, if_neg (by omega)]; exact h1
   · show (wc.heap.push o)[b]? = _
     rw [Array.getElem?_push, if_neg (by omega)]; exact h2
 · show (wc.heap.push o)[b]? = (w.heap.push o)[b]?
   rw [Array.getElem?_push, Array.getElem?_push, h.size, h.no b hb]
 · show (wc.heap.push o).size = (w.heap.push o).size
   simp [h.size]
 · show (Result.ok w.heap.size _, es) = (setW (Result.ok wc.heap.size _) _, es)
   rw [h.size]; rfl
instance (o : Obj) : Stdy P (newObj o) := ⟨steady_newObj o⟩
theorem Cut.cell_in {X : Snap} {w wc : World} (h : Cut X w wc) {a : Addr} {x} (hx : X a.block = some x) : wc.cell? a = none := by
 obtain ⟨c, e⟩ := x
 simp [World.cell?, (h.is _ _ _ hx).2]
theorem Cut.cell_out {X : Snap} {w wc : World} (h : Cut X w wc) {a : Addr} (hx : X a.block = none) : wc.cell? a = w.cell? a := by
 simp [World.cell?, h.no _ hx]
theorem Cut.frozen {X : Snap} {w wc : World} (h : Cut X w wc) (a : Addr) : wc.frozen? a = w.frozen? a := by
 cases hx : X a.block with
 | none => simp [World.frozen?, h.no _ hx]
 | some x => obtain ⟨c, e⟩ := x; simp [World.frozen?, (h.is _ _ _ hx).1, (h.is _ _ _ hx).2]
theorem Cut.frozen_in {X : Snap} {w wc : World} (h : Cut X w wc) {a : Addr} {x} (hx : X a.block = some x) : w.frozen? a = false := by
 obtain ⟨c, e⟩ := x; simp [World.frozen?, (h.is _ _ _ hx).1]
theorem Cut.shape_out {X : Snap} {w wc : World} (h : Cut X w wc) {r : Nat} (hx : X r = none) : wc.shape? r = w.shape? r := by
 simp [World.shape?, h.no _ hx]
theorem Cut.shape_in {X : Snap} {w wc : World} (h : Cut X w wc) {r : Nat} {c : Array Value} {e : TypeId} (hx : X r = some (c, e)) : w.shape? r = some (e, c.size) ∧ wc.shape? r = some (e, 0) := by
 simp [World.shape?, (h.is _ _ _ hx).1, (h.is _ _ _ hx).2]
theorem steady_frozen (a : Addr) : zq2 P (frozen a) := by
 intro X w wc es h _
 refine ⟨w, h, ?_, fun e he => .inl he⟩
 show (Result.ok (w.frozen? a) w, es) = (setW (Result.ok (wc.frozen? a) wc) w, es)
 rw [h.frozen]; rfl
instance (a : Addr) : Stdy P (frozen a) := ⟨steady_frozen a⟩
theorem zq9 {r : Nat} {f : Option (TypeId × Nat) → Sem β} (he : ∀ e n, f (some (e, n)) = f (some (e, 0))) (hf : ∀ x, zq2 P (f x)) : zq2 P (shape r >>= f) := by
 intro X w wc es h hfit
 have e1 : ∀ w, (shape r >>= f).runT P w es = (f (w.shape? r)).runT P w es := fun w => rfl
 rw [e1] at hfit
 rw [e1, e1]
 cases hx : X r with
 | none => rw [h.shape_out hx] at hfit ⊢; exact hf _ X w wc es h hfit
 | some x =>
  obtain ⟨c, e⟩ := x
  obtain ⟨h1, h2⟩ := h.shape_in hx
  rw [h2] at hfit
  rw [h1, h2, he e c.size]; exact hf _ X w wc es h hfit
theorem plain_bytes (P : Program) : ∀ (d : Nat) (t : TypeId) (off : Nat) (v : Value), plainCell P d t off = some v → (∃ b, v = .bool b) ∨ (∃ k, v = .int k 0) ∨ (∃ k, v = .float k 0) ∨ ∃ k, v = .complex k 0 0 := by
 intro d
 induction d with
 | zero => intro t off v h; cases h
 | succ d ih =>
  intro t off v h
  unfold plainCell at h
  split at h
  · obtain ⟨f, hf⟩ := Array.exists_of_findSome?_eq_some h
    obtain ⟨_, hf⟩ := hf
    split at hf
    · exact ih _ _ _ hf
    · cases hf
  · simp only [] at h
    split at h
    · cases h
    · exact ih _ _ _ h
  · split at h
    · cases h; exact .inl ⟨_, rfl⟩
    · cases h
  · split at h
    · cases h; exact .inr (.inl ⟨_, rfl⟩)
    · cases h
  · split at h
    · cases h; exact .inr (.inr (.inl ⟨_, rfl⟩))
    · cases h
  · split at h
    · cases h; exact .inr (.inr (.inr ⟨_, rfl⟩))
    · cases h
  · cases h
theorem plain_pos {P : Program} {d : Nat} {t : TypeId} {off : Nat} {v : Value} (h : plainCell P d t off = some v) {l : List UInt8} (hl : v.bytes? = some l) : 0 < l.length := by
 rcases plain_bytes P d t off v h with ⟨b, rfl⟩ | ⟨k, rfl⟩ | ⟨k, rfl⟩ | ⟨k, rfl⟩
 · cases hl; simp
 · cases k <;> (simp only [Value.bytes?, al_oi] at hl; subst hl; simp [IntKind.bits, leBytes])
 · cases k <;> (simp only [Value.bytes?, al_oi] at hl; subst hl; simp [FloatKind.bytes, leBytes])
 · cases k <;> (simp only [Value.bytes?, al_oi] at hl; subst hl; simp [FloatKind.bytes, leBytes])
theorem seenCells_none {P : Program} {e : TypeId} {f x stop : Nat} (h : x < stop) : ∃ y, seenCells P #[] e f x stop = .error y := by
 cases f with
 | zero => exact ⟨_, rfl⟩
 | succ f =>
  unfold seenCells
  rw [if_neg (by omega)]
  simp only []
  split
  · exact ⟨_, rfl⟩
  · split
    · exact ⟨_, rfl⟩
    · simp
theorem seen_none {P : Program} {w : World} {at_ k : Addr} {u e : TypeId} {b : Bool} (h : w.heap[at_.block]? = some (.cells #[] e)) : ∃ y, w.seen P at_ u k b = .error y := by
 unfold World.seen
 simp only [bind, Except.bind, pure, Except.pure, throw, throwThe, MonadExceptOf.throw, h]
 split
 · exact ⟨_, rfl⟩
 · split
   · rename_i like hlike
     cases hb : like.bytes? with
     | none => exact ⟨_, by simp; rfl⟩
     | some l =>
      have hpos := plain_pos hlike hb
      simp only [Option.map_some]
      split
      · rename_i β hβ
        split
        · exact ⟨_, rfl⟩
        · split
          · rename_i b0 hb0
            obtain ⟨y, hy⟩ := seenCells_none (P := P) (e := e) (f := l.length + 1) (x := at_.off / P.cellsOf e * P.bytesOf e + b0 + β) (stop := at_.off / P.cellsOf e * P.bytesOf e + b0 + β + l.length) (by omega)
            rw [hy]
            exact ⟨_, rfl⟩
          · exact ⟨_, rfl⟩
      · exact ⟨_, rfl⟩
   · exact ⟨_, rfl⟩
theorem viewLoad_cut {X : Snap} {w wc : World} (h : Cut X w wc) {at_ a : Addr} {u : TypeId} {b : Bool} {v : Value} {l : List Addr} (hv : wc.viewLoad P at_ u a b = .ok (v, l)) :
 X at_.block = none ∧ w.viewLoad P at_ u a b = .ok (v, l) ∧ ∀ x ∈ l, x.block = at_.block := by
 cases hx : X at_.block with
 | some x =>
  obtain ⟨c, e⟩ := x
  obtain ⟨y, hy⟩ := seen_none (P := P) (w := wc) (at_ := at_) (k := a) (u := u) (b := b) (h.is _ _ _ hx).2
  unfold World.viewLoad at hv
  simp only [hy, bind, Except.bind] at hv
  cases hv
 | none =>
  have e : wc.viewLoad P at_ u a b = w.viewLoad P at_ u a b := by
   unfold World.viewLoad World.seen
   rw [h.no _ hx]
  refine ⟨rfl, by rw [← e]; exact hv, ?_⟩
  unfold World.viewLoad at hv
  cases hs : wc.seen P at_ u a b with
  | error y => simp only [hs, bind, Except.bind] at hv; cases hv
  | ok x =>
   obtain ⟨_, _, _, first, like, cells⟩ := x
   simp only [hs, bind, Except.bind, pure, Except.pure, throw, throwThe, MonadExceptOf.throw] at hv
   split at hv
   · simp only [Except.ok.injEq, Prod.mk.injEq] at hv
     obtain ⟨_, rfl⟩ := hv
     intro x hx
     obtain ⟨y, _, rfl⟩ := List.mem_map.1 hx
     rfl
   · cases hv
theorem farLoad_cut {X : Snap} {w wc : World} (h : Cut X w wc) {a : Addr} {b : Bool} {v : Value} {l : List Addr} (hv : wc.farLoad P a b = .ok (v, l)) : w.farLoad P a b = .ok (v, l) ∧ X a.block = none ∧ ∀ x ∈ l, X x.block = none := by
 cases hx : X a.block with
 | some x =>
  obtain ⟨c, e⟩ := x
  unfold World.farLoad at hv
  rw [(h.is _ _ _ hx).2] at hv
  cases hv
 | none =>
  have hh := h.no _ hx
  unfold World.farLoad at hv ⊢
  rw [hh] at hv
  split at hv
  · rename_i at_ u he
    split at hv
    · rename_i r hr
      cases hv
      obtain ⟨h1, h2, h3⟩ := viewLoad_cut h hr
      rw [h2]
      exact ⟨rfl, rfl, fun x hx' => by rw [h3 x hx']; exact h1⟩
    · cases hv
  · cases hv
theorem fit_far {α : Type} {wc : World} {a : Addr} {b : Bool} {x : Halt} {w' : World} (hv : wc.farLoad P a b = .error x) : ¬ fit (Result.halt x w' : Result α) := by
 unfold World.farLoad at hv
 split at hv
 · split at hv
   · cases hv
   · cases hv; exact id
 · cases hv
   unfold World.noCell
   split <;> exact id
theorem steady_load (a : Addr) (m : Mode) : zq2 P (load a m) := by
 intro X w wc es h hfit
 simp only [load, Sem.runT] at hfit ⊢
 cases hx : X a.block with
 | some x =>
  rw [h.cell_in hx] at hfit
  exfalso
  obtain ⟨c, e⟩ := x
  have : wc.farLoad P a (m == Mode.atomic) = .error (wc.noCell a "load: no such cell") := by
   unfold World.farLoad; rw [(h.is _ _ _ hx).2]
  simp only [this] at hfit
  exact fit_far this hfit
 | none =>
  rw [← h.cell_out hx]
  cases hc : wc.cell? a with
  | some v =>
   refine ⟨w, h, rfl, fun e he => ?_⟩
   rcases Array.mem_push.1 he with he | rfl
   · exact .inl he
   · exact .inr fun y hy => by cases hy; exact hx
  | none =>
   rw [hc] at hfit
   simp only [] at hfit ⊢
   cases hf : wc.farLoad P a (m == Mode.atomic) with
   | ok x =>
    obtain ⟨v, l⟩ := x
    obtain ⟨h1, h2, h3⟩ := farLoad_cut h hf
    rw [h1]
    refine ⟨w, h, rfl, fun e he => ?_⟩
    rcases Array.mem_append.1 he with he | he
    · exact .inl he
    · obtain ⟨y, hy, rfl⟩ := Array.mem_map.1 he
      exact .inr fun z hz => by cases hz; exact h3 y (by simpa using hy)
   | error x =>
    rw [hf] at hfit
    exact (fit_far hf hfit).elim
instance (a : Addr) (m : Mode) : Stdy P (load a m) := ⟨steady_load a m⟩
theorem steady_getObj (r : Nat) : zq2 P (getObj r) := by
 intro X w wc es h hfit
 simp only [getObj, Sem.runT] at hfit ⊢
 cases hx : X r with
 | some x =>
  obtain ⟨c, e⟩ := x
  rw [(h.is _ _ _ hx).2] at hfit
  exact hfit.elim
 | none =>
  rw [h.no _ hx] at hfit ⊢
  cases ho : w.heap[r]? with
  | none => rw [ho] at hfit; exact hfit.elim
  | some o =>
   rw [ho] at hfit
   cases o <;> first
    | exact hfit.elim
    | (refine ⟨w, h, rfl, fun e he => ?_⟩
       rcases Array.mem_push.1 he with he | rfl
       · exact .inl he
       · exact .inr fun y hy => by cases hy)
instance (r : Nat) : Stdy P (getObj r) := ⟨steady_getObj r⟩
theorem Cut.setCell {X : Snap} {w wc : World} (h : Cut X w wc) {a : Addr} (hx : X a.block = none) (v : Value) : Cut X (w.setCell a v) (wc.setCell a v) := by
 refine ⟨fun b c e hb => ?_, fun b hb => ?_, ?_, h.tape, h.drawn, h.os, h.output⟩
 · have hne : a.block ≠ b := fun e => by rw [e, hb] at hx; cases hx
   obtain ⟨h1, h2⟩ := h.is b c e hb
   constructor
   · show (w.heap.modify _ _)[b]? = _
     rw [Array.getElem?_modify, if_neg hne]; exact h1
   · show (wc.heap.modify _ _)[b]? = _
     rw [Array.getElem?_modify, if_neg hne]; exact h2
 · show (wc.heap.modify _ _)[b]? = (w.heap.modify _ _)[b]?
   rw [Array.getElem?_modify, Array.getElem?_modify, h.no b hb]
 · show (wc.heap.modify _ _).size = (w.heap.modify _ _).size
   simp [h.size]
theorem viewStore_cut {X : Snap} {w wc : World} (h : Cut X w wc) {at_ a : Addr} {u : TypeId} {v : Value} {b : Bool} {wc' : World} {l : List Addr} (hv : wc.viewStore P at_ u a v b = .ok (wc', l)) :
 X at_.block = none ∧ (∃ w', w.viewStore P at_ u a v b = .ok (w', l) ∧ Cut X w' wc') ∧ ∀ x ∈ l, x.block = at_.block := by
 cases hx : X at_.block with
 | some x =>
  obtain ⟨c, e⟩ := x
  obtain ⟨y, hy⟩ := seen_none (P := P) (w := wc) (at_ := at_) (k := a) (u := u) (b := b) (h.is _ _ _ hx).2
  unfold World.viewStore at hv
  cases ht : tight P P.depth u <;> simp only [ht, hy, bind, Except.bind, Bool.not_true, Bool.not_false, Bool.false_eq_true, if_true, if_false, reduceIte, pure, Except.pure, throw, throwThe, MonadExceptOf.throw] at hv <;> cases hv
 | none =>
  have e : w.seen P at_ u a b = wc.seen P at_ u a b := by
   unfold World.seen
   rw [h.no _ hx]
  unfold World.viewStore at hv ⊢
  rw [e]
  simp only [bind, Except.bind, pure, Except.pure, throw, throwThe, MonadExceptOf.throw] at hv ⊢
  cases ht : tight P P.depth u <;> simp only [ht, Bool.not_true, Bool.not_false, Bool.false_eq_true, if_true, if_false, reduceIte] at hv ⊢
  · cases hv
  cases hs : wc.seen P at_ u a b with
  | error y => simp only [hs] at hv; cases hv
  | ok x =>
   simp only [hs] at hv ⊢
   obtain ⟨c, e, fr, first, like, cells⟩ := x
   simp only [] at hv ⊢
   cases hb : v.bytes? with
   | none => simp only [hb] at hv; cases hv
   | some bytes =>
    simp only [hb] at hv ⊢
    by_cases hl : some bytes.length ≠ Option.map (fun x => x.length) like.bytes?
    · simp only [if_pos hl] at hv; cases hv
    · simp only [if_neg hl] at hv ⊢
      generalize (List.foldlM (m := Except String) _ _ _ : Except String (Array Value)) = Y at hv ⊢
      cases Y with
      | error _ => cases hv
      | ok Y =>
       simp only [Except.ok.injEq, Prod.mk.injEq] at hv ⊢
       obtain ⟨rfl, rfl⟩ := hv
       refine ⟨trivial, ⟨_, ⟨rfl, rfl⟩, ?_⟩, fun x hx' => ?_⟩
       · refine ⟨fun b c e hb => ?_, fun b hb => ?_, ?_, h.tape, h.drawn, h.os, h.output⟩
         · have hne : at_.block ≠ b := fun e => by rw [e, hb] at hx; cases hx
           obtain ⟨h1, h2⟩ := h.is b c e hb
           constructor
           · show (w.heap.setIfInBounds _ _)[b]? = _
             rw [al_gn hne]; exact h1
           · show (wc.heap.setIfInBounds _ _)[b]? = _
             rw [al_gn hne]; exact h2
         · show (wc.heap.setIfInBounds _ _)[b]? = (w.heap.setIfInBounds _ _)[b]?
           rw [al_gs, al_gs, h.no b hb, h.size]
         · show (wc.heap.setIfInBounds _ _).size = (w.heap.setIfInBounds _ _).size
           simp [h.size]
       · obtain ⟨y, _, rfl⟩ := List.mem_map.1 hx'
         rfl
theorem farStore_cut {X : Snap} {w wc : World} (h : Cut X w wc) {a : Addr} {v : Value} {b : Bool} {wc' : World} {l : List Addr} (hv : wc.farStore P a v b = .ok (wc', l)) :
 X a.block = none ∧ (∃ w', w.farStore P a v b = .ok (w', l) ∧ Cut X w' wc') ∧ ∀ x ∈ l, X x.block = none := by
 cases hx : X a.block with
 | some x =>
  obtain ⟨c, e⟩ := x
  unfold World.farStore at hv
  rw [(h.is _ _ _ hx).2] at hv
  cases hv
 | none =>
  have hh := h.no _ hx
  unfold World.farStore at hv ⊢
  rw [hh] at hv
  split at hv
  · rename_i at_ u he
    split at hv
    · rename_i r hr
      cases hv
      obtain ⟨h1, ⟨w', h2, h4⟩, h3⟩ := viewStore_cut h hr
      rw [h2]
      exact ⟨rfl, ⟨w', rfl, h4⟩, fun x hx' => by rw [h3 x hx']; exact h1⟩
    · cases hv
  · cases hv
theorem fit_farS {α : Type} {wc : World} {a : Addr} {v : Value} {b : Bool} {x : Halt} {w' : World} (hv : wc.farStore P a v b = .error x) : ¬ fit (Result.halt x w' : Result α) := by
 unfold World.farStore at hv
 split at hv
 · split at hv
   · cases hv
   · cases hv; exact id
 · cases hv
   unfold World.noCell
   split <;> exact id
theorem steady_store (a : Addr) (v : Value) (m : Mode) : zq2 P (store a v m) := by
 intro X w wc es h hfit
 unfold store at hfit ⊢
 by_cases hagg : (∃ c, v = .agg c) ∨ ∃ c, v = .tuple c
 · rcases hagg with ⟨c, rfl⟩ | ⟨c, rfl⟩ <;> exact hfit.elim
 · rw [runT_store hagg] at hfit ⊢
   rw [runT_store hagg w]
   cases hx : X a.block with
   | some x =>
    rw [h.cell_in hx] at hfit
    exfalso
    obtain ⟨c, e⟩ := x
    have : wc.farStore P a v (m == Mode.atomic) = .error (wc.noCell a "store: no such cell") := by
     unfold World.farStore; rw [(h.is _ _ _ hx).2]
    simp only [this] at hfit
    exact fit_farS this hfit
   | none =>
    rw [← h.cell_out hx]
    cases hc : wc.cell? a with
    | some v' =>
     rw [hc] at hfit
     simp only [] at hfit ⊢
     rw [← h.frozen a]
     by_cases hf : wc.frozen? a = true
     · simp only [hf, if_true] at hfit; exact hfit.elim
     · simp only [hf, Bool.false_eq_true, if_false] at hfit ⊢
       refine ⟨_, h.setCell hx v, rfl, fun e he => ?_⟩
       rcases Array.mem_push.1 he with he | rfl
       · exact .inl he
       · exact .inr fun y hy => by cases hy; exact hx
    | none =>
     rw [hc] at hfit
     simp only [] at hfit ⊢
     cases hf : wc.farStore P a v (m == Mode.atomic) with
     | ok x =>
      obtain ⟨wc', l⟩ := x
      obtain ⟨h1, ⟨w', h2, h4⟩, h3⟩ := farStore_cut h hf
      rw [h2]
      refine ⟨w', h4, rfl, fun e he => ?_⟩
      rcases Array.mem_append.1 he with he | he
      · exact .inl he
      · obtain ⟨y, hy, rfl⟩ := Array.mem_map.1 he
        exact .inr fun z hz => by cases hz; exact h3 y (by simpa using hy)
     | error x =>
      rw [hf] at hfit
      exact (fit_farS hf hfit).elim
instance (a : Addr) (v : Value) (m : Mode) : Stdy P (store a v m) := ⟨steady_store a v m⟩
end
end Go.Car
