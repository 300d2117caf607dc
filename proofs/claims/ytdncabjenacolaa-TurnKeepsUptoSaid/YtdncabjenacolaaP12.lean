/- YtdncabjenacolaaTKeep4: part 12 of the proof (the texts behind it, in order). -/
import Derived.Test.YtdncabjenacolaaP11
set_option linter.unusedSimpArgs false
set_option linter.unusedVariables false
set_option linter.unusedSectionVars false
set_option linter.unnecessarySimpa false
set_option maxHeartbeats 1000000
set_option maxRecDepth 100000
namespace Go.Proofs
open Go Go.Conc Go.RowKit Go.Car
structure Through (c : Frame) : Prop where
 fin : ∀ (Kc : Addr → Option Value) (J : Goroutine → World → Prop), JX Try.prog Kc J → ∀ cr rest w, J (G (cr.finish (.tuple #[])) rest) w → J (G (c.finish (.tuple #[])) (cr :: rest)) w
 raise : ∀ (Kc : Addr → Option Value) (J : Goroutine → World → Prop), JX Try.prog Kc J → ∀ ch cr rest w, J (G (cr.raise ch) rest) w → J (G (c.raise ch) (cr :: rest)) w
section
variable {Kc : Addr → Option Value} {J : Goroutine → World → Prop}
theorem run_enter (hJ : JX Try.prog Kc J) {mb : Nat} {pv iv : Value} {most : Int} {w : World} {cs : List Frame}
 (hmain : ∀ T, FrR mb pv iv most 0 T → J (G ((bN 41).at ⟨T, []⟩ (.code rL :: KL)) cs) w) :
 J (G (Frame.enter Try.prog 41 #[.pointer (some ⟨mb, 0, none⟩), pv, iv, .int .i64 most] .normal) cs) w := by
 have e : Frame.enter Try.prog 41 #[.pointer (some ⟨mb, 0, none⟩), pv, iv, .int .i64 most] .normal = (bN 41).at (enterAct Try.f41 #[.pointer (some ⟨mb, 0, none⟩), pv, iv, .int .i64 most]) [.code ((Try.f41.body).getD .skip)] := by kernel_rfl
 have eb : (Try.f41.body).getD .skip = .seq (headC ((Try.f41.body).getD .skip)) (.block 0 (.loop rL)) := by kernel_rfl
 rw [e, eb]
 have hm := Lib.hid hmain
 clear hmain
 obtain ⟨T0, hT⟩ : ∃ X, X = (enterAct Try.f41 #[.pointer (some ⟨mb, 0, none⟩), pv, iv, .int .i64 most]).tmps := ⟨_, rfl⟩
 have hsz : T0.size = 72 := by rw [hT]; kernel_rfl
 have f0 : T0[0]? = some (.pointer (some ⟨mb, 0, none⟩)) := by rw [hT]; kernel_rfl
 have f1 : T0[1]? = some pv := by rw [hT]; kernel_rfl
 have f2 : T0[2]? = some iv := by rw [hT]; kernel_rfl
 have f3 : T0[3]? = some (.int .i64 most) := by rw [hT]; kernel_rfl
 have eA : enterAct Try.f41 #[.pointer (some ⟨mb, 0, none⟩), pv, iv, .int .i64 most] = ⟨T0, []⟩ := by rw [hT]; kernel_rfl
 rw [eA]
 clear eA hT e eb
 refine hJ.ctl (s := ()) (fun w => stepG_seq) ?_
 obtain ⟨u0, hu0⟩ : ∃ c, headC ((Try.f41.body).getD .skip) = c := ⟨_, rfl⟩
 have eu0 := hu0
 rw [hu0]
 simp only [headC, Try.f41, al_od] at eu0
 subst eu0
 clear hu0
 refine hJ.ctl (s := ()) (fun w => stepG_region) ?_
 refine at_eval (J := fun (_ : Unit) => J) (s := ()) hJ (by decide) 0 [.int .i64 0] [] rfl (by simp) (by rfl) ?_ ?_
 · intro τ d
   simp only [evalsO, dstOf, al_gl, al_g0, al_ob]
   refine ⟨?_, trivial⟩
   intro o ho; simp only [al_oi] at ho; subst ho
   rfl
 simp only [putv, dstOf, al_gl, al_g0, al_g1, al_ob]
 have hF : FrR mb pv iv most 0 (T0.setIfInBounds 8 (.int .i64 0)) := by
  refine ⟨by simp [hsz], ?_, ?_, ?_, ?_, by simp [hsz]⟩ <;> rw [al_gn (by decide)] <;> assumption
 refine hJ.ctl (s := ()) (fun w => stepG_region_end) ?_
 refine hJ.ctl (s := ()) (fun w => stepG_block) ?_
 refine hJ.ctl (s := ()) (fun w => stepG_loop) ?_
 exact hm.out _ hF
theorem clo_calls (hJ : JX Try.prog Kc J) {mb b1 b2 b3 b4 pb n cap : Nat} {cur : Array Value} {T1 T2 T3 T4 T5 : TypeId} {i : Nat} {pv iv : Value} {most : Int} {w : World} {cr : Frame} {rest : List Frame}
 (h1 : w.heap[b1]? = some (.cells #[.pointer (some ⟨mb, 0, none⟩)] T1)) (h2 : w.heap[b2]? = some (.cells #[.slice (some ⟨pb, 0, none⟩) n cap] T2)) (h3 : w.heap[b3]? = some (.cells #[.int .i64 i] T3)) (h4 : w.heap[b4]? = some (.cells #[.int .i64 most] T4)) (h5 : w.heap[pb]? = some (.cells cur T5)) (hi : i < n) (hpv : cur[i]? = some pv)
 (hmain : ∀ c, Through c → J (G (Frame.enter Try.prog 41 #[.pointer (some ⟨mb, 0, none⟩), pv, iv, .int .i64 most] .normal) (c :: cr :: rest)) w) :
 J (G (Frame.enter Try.prog 40 (#[] ++ #[iv] ++ #[.pointer (some ⟨b1, 0, none⟩), .pointer (some ⟨b2, 0, none⟩), .pointer (some ⟨b3, 0, none⟩), .pointer (some ⟨b4, 0, none⟩)]) .normal) (cr :: rest)) w := by
 have e : Frame.enter Try.prog 40 (#[] ++ #[iv] ++ #[.pointer (some ⟨b1, 0, none⟩), .pointer (some ⟨b2, 0, none⟩), .pointer (some ⟨b3, 0, none⟩), .pointer (some ⟨b4, 0, none⟩)]) .normal = (bN 40).at (enterAct Try.f40 #[iv, .pointer (some ⟨b1, 0, none⟩), .pointer (some ⟨b2, 0, none⟩), .pointer (some ⟨b3, 0, none⟩), .pointer (some ⟨b4, 0, none⟩)]) [.code ((Try.f40.body).getD .skip)] := rfl
 rw [e]
 have hm := Lib.hid hmain
 clear hmain e
 simp only [Try.f40, enterAct, al_od, List.size_toArray, List.length_cons, List.length_nil, Nat.reduceAdd, Nat.reduceSub, Array.replicate_succ, Array.replicate_zero, List.push_toArray, List.append_toArray, List.nil_append, List.cons_append]
 refine at_draw (J := fun (_ : Unit) => J) (s := ()) hJ (by decide) (by rfl) [.pointer (some ⟨mb, 0, none⟩), .slice (some ⟨pb, 0, none⟩) n cap, .int .i64 i, .pointer (some ⟨pb, i, none⟩), pv, iv, .int .i64 most] (by kernel_rfl) ?_ ?_
 · intro τ d
   have hi' : (i : Int) < n := by omega
   have hi0 : (0 : Int) ≤ i := by omega
   have c1 := (zq0 (off := 0) h1).trans rfl
   have c2 := (zq0 (off := 0) h2).trans rfl
   have c3 := (zq0 (off := 0) h3).trans rfl
   have c4 := (zq0 (off := 0) h4).trans rfl
   have c5 := (zq0 (off := i) h5).trans hpv
   clear h1 h2 h3 h4 h5
   simp only [evals, putv, dstOf, al_gl, al_g0, al_g1, al_ob, al_g2, List.set_cons_succ, List.set_cons_zero]
   refine ⟨?_, ?_, ?_, ?_, ?_, ?_, ?_, trivial⟩ <;> (intro o ho; simp only [al_oi] at ho; subst ho)
   all_goals (simp only [execOp, Act.eval, al_gd, al_gl, al_g0, al_g1, al_od])
   all_goals (try go_simp)
 · simp only [putv, dstOf, al_gl, al_g0, al_g1, al_ob, al_g2, List.set_cons_succ, List.set_cons_zero, Nat.reduceAdd, Nat.zero_add, List.length_cons, List.length_nil]
   refine at_call (J := fun (_ : Unit) => J) (s := ()) (by decide) hJ rfl rfl (f := 41) (args := #[.pointer (some ⟨mb, 0, none⟩), pv, iv, .int .i64 most]) (fun τ d => ?_) (fun τ d => ?_) ?_
   · simp [go_sem, execOp, Act.eval, resolve, Deferred.ofValue, invoke, callFunc, Try.func41, Try.f41]
   · intro e he
     simp [go_sem, execOp, Act.eval, resolve, Deferred.ofValue, invoke, callFunc, Try.func41, Try.f41, Sem.runT_eq] at he
   · refine hm.out _ ⟨fun Kc' J' hJ' cr' rest' w' h => ?_, fun Kc' J' hJ' ch cr' rest' w' h => ?_⟩
     · rw [Frame.finish_at]
       try walk_nrm
       refine hJ'.ctl (s := ()) (fun w => stepG_region_end) ?_
       refine hJ'.ctl (s := ()) (fun w => stepG_end) ?_
       refine leaveJ (s := ()) hJ' (b := bN 40) rfl rfl Try.func40 (fun τ d => ?_) h
       simp only [results, Try.f40]
       simp [go_sem]
     · rw [Frame.raise_at]
       exact raiseJ (s := ()) hJ' (b := bN 40) rfl Try.func40 h
end
theorem yield_fin {Kc : Addr → Option Value} {J : Goroutine → World → Prop} (hJ : JX Try.prog Kc J) {T : Array Value} {K : List Item} {cs : List Frame} {w : World} (h : J (G ((bN 41).at ⟨T.setIfInBounds 61 (.tuple #[]), []⟩ (.code (.seq m8c (.seq m9c (.exit 1))) :: K)) cs) w) :
 J (G ((yieldAt T K).finish (.tuple #[])) cs) w := by
 unfold yieldAt
 obtain ⟨u0, hu0⟩ : ∃ c, m7c = c := ⟨_, rfl⟩
 have eu0 := hu0
 rw [hu0]
 simp only [rL, rB, rS, rR, m7c, headC, tailN, Try.f41, al_od] at eu0
 subst eu0
 clear hu0
 rw [Frame.finish_at]
 try walk_nrm
 refine hJ.ctl (s := ()) (fun w => stepG_region_end) ?_
 exact h
theorem yield_raise {Kc : Addr → Option Value} {J : Goroutine → World → Prop} (hJ : JX Try.prog Kc J) {T : Array Value} {K : List Item} {ch : List PanicEntry} {cl : Frame} {cs : List Frame} {w : World} (h : J (G (cl.raise ch) cs) w) : J (G ((yieldAt T K).raise ch) (cl :: cs)) w := by
 unfold yieldAt
 rw [Frame.raise_at]
 exact raiseJ (s := ()) hJ (b := bN 41) rfl Try.func41 h
theorem MS.Body.room {S : MS} {m : MM} {w : World} (h : S.Body m w) (r : Nat) (b : Nat → Bool) : S.Body { m with room := r, begun := b } w := ⟨h.len, h.words, h.mach, h.told, h.code, h.ro, h.inj, h.rofree, h.sep, h.lo, h.csep⟩
theorem grow_room {S : MS} {m m' : MM} {w w' : World} (h : Grow S.thr m w m' w') (r : Nat) (b : Nat → Bool) : Grow S.thr m w { m' with room := r, begun := b } w' := ⟨h.size, h.old, h.grow⟩
theorem mach_susp {S : MS} {i : Nat} (hi : i < S.N) {pv : Value} (hp : ProgV S i pv) {st : Nat} {cr : Frame} {rest : List Frame} (NE EN : List PanicEntry → Prop) {cl : Frame} (hcl : Through cl) : ∀ (k : Nat) (m₀ : MM) (T : Array Value) (own : Int) (b : Nat), m₀.cb i = some b → FrR (S.mb i) pv (sxOf st) (m₀.th i).most own T → T[9]? = some (.pointer (some ⟨b, 0, none⟩)) →
 Susp Try.prog S.thr 74 (.pointer (some ⟨st, 0, none⟩)) cr rest NE EN i k (yieldAt T (.code rR :: .inBlock 1 :: KL)) (cl :: cr :: rest) m₀ := by
 intro k
 induction k with
 | zero => intro m₀ T own b _ _ _; trivial
 | succ k ih =>
  intro m₀ T own b hcb hF t9 Kc X J m w hE hSame hRep hleft
  have hJ := hE.js
  obtain ⟨s1, s2, s3, s4, s5⟩ : m₀.th i = m.th i ∧ m₀.tv i = m.tv i ∧ m₀.cb i = m.cb i ∧ m₀.begun i = m.begun i ∧ m₀.ws.length = m.ws.length := hSame
  have hroom : 0 < m.room := hleft
  have hB := hRep.body
  rw [s3] at hcb
  rw [s1] at hF
  obtain ⟨c, hat, hst, hcode⟩ := hB.code i b hi hcb
  refine ⟨fun hC => ?_, fun ch hch hmain => ?_⟩
  · refine yield_fin hJ ?_
    have hF1 : FrR (S.mb i) pv (sxOf st) (m.th i).most own (T.setIfInBounds 61 (.tuple #[])) := by
     obtain ⟨h1, h2, h3, h4, h5, h6⟩ := hF
     refine ⟨by simp [h1], ?_, ?_, ?_, ?_, ?_⟩ <;> rw [al_gn (by decide)] <;> assumption
    have u9 : (T.setIfInBounds 61 (.tuple #[]))[9]? = some (.pointer (some ⟨b, 0, none⟩)) := by rw [al_gn (by decide)]; exact t9
    have q0 : w.cell? ⟨b, 0, none⟩ = some (.int .i64 c.d) := (zq0 hcode).trans rfl
    have q1 : w.cell? ⟨b, 1, none⟩ = some (.int .i64 c.r) := (zq0 hcode).trans rfl
    have q2 : w.cell? ⟨b, 2, none⟩ = some (.int .i64 c.a) := (zq0 hcode).trans rfl
    have q3 : w.cell? ⟨b, 3, none⟩ = some (.int .i64 c.b) := (zq0 hcode).trans rfl
    have q4 : w.cell? ⟨b, 4, none⟩ = some (.int .i64 c.v) := (zq0 hcode).trans rfl
    refine run_step hJ hF1 u9 q0 q1 q2 q3 q4 fun c' T1 hF2 hfin => ?_
    refine step_env (c := c) hE hB hi hst fun w1 hB1 hG1 => ?_
    refine hfin w1 ?_
    obtain ⟨m1, hm1⟩ : ∃ m1, m1 = m.put i (stepC c m.ws (m.th i)).1 (stepC c m.ws (m.th i)).2 (m.tv i) none := ⟨_, rfl⟩
    rw [← hm1] at hB1 hG1
    have hth : m1.th i = (stepC c m.ws (m.th i)).2 := by rw [hm1]; simp [MM.put]
    have hws : m1.ws = (stepC c m.ws (m.th i)).1 := by rw [hm1]; rfl
    have hcb1 : m1.cb i = none := by rw [hm1]; simp [MM.put]
    have hro := hRep.room i hi
    have hgo : ∀ (m' : MM) (x : Bool), MRel i m1 m' → goOn (S.prog i) S.W 4096 (m1.th i) = (m'.th i, x) → ∀ (j : Bool), j = x → MTurn (goP S.prog i m.mem) (m.room - 1) i m (if x then .yield { m' with room := m.room - 1, begun := fun j => if j = i then true else m.begun j } else .done { m' with room := m.room - 1, begun := fun j => if j = i then true else m.begun j }) := by
     intro m' x hr hg _ _
     have hgp : goP S.prog i m.mem = ((⟨m'.ws, m'.th⟩ : Mem), x) := by
      unfold goP
      have e1 : atC (S.prog i) (m.mem.th i) = some c := hat
      simp only [e1]
      have e2 : goOn (S.prog i) m.mem.ws.length 4096 (stepC c m.mem.ws (m.mem.th i)).2 = (m'.th i, x) := by
       rw [show m.mem.ws.length = S.W from hB.len, ← hg, hth]; rfl
      rw [e2]
      simp only [Mem.upd, Prod.mk.injEq, and_true, Mem.mk.injEq]
      refine ⟨?_, ?_⟩
      · rw [hr.ws, hws]; rfl
      · funext j
        by_cases e : j = i
        · subst e; simp
        · simp only [e, if_false]
          rw [hr.th j e, hm1]
          simp [MM.put, e, MM.mem]
     rw [hgp]
     refine ⟨{ m' with room := m.room - 1, begun := fun j => if j = i then true else m.begun j }, rfl, rfl, fun j hj => ?_, fun j hj => ?_, rfl, rfl⟩
     · show m'.tv j = m.tv j
       rw [hr.tv j hj, hm1]; simp [MM.put, hj]
     · show m'.cb j = m.cb j
       rw [hr.cb j hj, hm1]; simp [MM.put, hj]
    have hrep : ∀ (m' : MM) (x : Bool) (w' : World), MRel i m1 m' → goOn (S.prog i) S.W 4096 (m1.th i) = (m'.th i, x) → S.Body m' w' → S.Rep { m' with room := m.room - 1, begun := fun j => if j = i then true else m.begun j } w' := by
     intro m' x w' hr hg hB'
     refine ⟨hB'.room _ _, fun j hj => ?_⟩
     show (m'.th j).told.length + 4096 * (m.room - 1 + if (if j = i then true else m.begun j) = true then 0 else 1) ≤ _
     by_cases e : j = i
     · subst e
       have h1 := goOn_told (S.prog j) S.W 4096 (m1.th j)
       rw [hg, hth, stepC_told] at h1
       simp only at h1
       rw [if_pos (by simp)]
       have : (if m.begun j = true then 0 else 1) ≤ 1 := by split <;> omega
       omega
     · rw [hr.th j e, hm1]
       simp only [MM.put, e, if_false]
       have := hRep.room j hj
       have : (4096 : Nat) * (m.room - 1 + if m.begun j = true then 0 else 1) ≤ 4096 * (m.room + if m.begun j = true then 0 else 1) := Nat.mul_le_mul_left _ (by omega)
       omega
    refine hJ.ctl (s := ()) (fun w => stepG_inLoop) ?_
    refine run_loop (st := st) hi hp 4096 (Nat.le_refl _) (hE.grow hG1) hB1 hcb1 ?_ ?_ (fun m' w' T' own' b' g1 g2 g3 g4 g5 g6 g7 => ?_) (fun m' w' g1 g2 g3 g4 g5 => ?_)
    · rw [hth, stepC_told]; omega
    · rw [hth, stepC_most]; exact hF2
    · exact hC.yield _ _ _ w' (hgo m' true g1 g2 true rfl) (grow_room (hG1.trans g4) _ _) (hrep m' true w' g1 g2 g3) (Nat.le_refl _) (ih _ T' own' b' g5 g6 g7)
    · exact hcl.fin Kc J hJ cr rest w' (hC.done _ (.tuple #[]) w' (hgo m' false g1 g2 false rfl) (grow_room (hG1.trans g4) _ _) (hrep m' false w' g1 g2 g3) (Nat.le_refl _))
  · refine yield_raise hJ (hcl.raise Kc J hJ ch cr rest w ?_)
    refine hmain { m with room := m.room - 1 } ch w hch rfl ⟨Nat.le_refl _, fun _ _ _ => rfl, fun _ h => .inl h⟩ ⟨hB.room _ _, fun j hj => ?_⟩ (Nat.le_refl _)
    show (m.th j).told.length + 4096 * (m.room - 1 + if m.begun j = true then 0 else 1) ≤ _
    have := hRep.room j hj
    have : (4096 : Nat) * (m.room - 1 + if m.begun j = true then 0 else 1) ≤ 4096 * (m.room + if m.begun j = true then 0 else 1) := Nat.mul_le_mul_left _ (by omega)
    omega
structure CloV (S : MS) (i : Nat) (most : Int) (pv tv : Value) : Prop where
 is : ∃ b1 b2 b3 b4 pb n cap cur T1 T2 T3 T4 T5, tv = .func (.func 40) #[] #[.pointer (some ⟨b1, 0, none⟩), .pointer (some ⟨b2, 0, none⟩), .pointer (some ⟨b3, 0, none⟩), .pointer (some ⟨b4, 0, none⟩)] ∧
  S.ro b1 = some (.cells #[.pointer (some ⟨S.mb i, 0, none⟩)] T1) ∧ S.ro b2 = some (.cells #[.slice (some ⟨pb, 0, none⟩) n cap] T2) ∧ S.ro b3 = some (.cells #[.int .i64 i] T3) ∧ S.ro b4 = some (.cells #[.int .i64 most] T4) ∧ S.ro pb = some (.cells cur T5) ∧ i < n ∧ cur[i]? = some pv
theorem mach_runs {S : MS} {m₀ : MM} {i : Nat} (hi : i < S.N) {most : Int} {pv tv : Value} (hp : ProgV S i pv) (hv : CloV S i most pv tv) (hmost : (m₀.th i).most = most) (hb0 : m₀.begun i = false) (hcb : m₀.cb i = none) (NE : List PanicEntry → Prop) :
 Runs Try.prog S.thr 74 96 NE m₀ i tv := by
 obtain ⟨b1, b2, b3, b4, pb, n, cap, cur, T1, T2, T3, T4, T5, htv, r1, r2, r3, r4, r5, hin, hpv⟩ := hv.is
 refine .inr ⟨40, #[], _, Try.f40, _, htv, Try.func40, rfl, by kernel_rfl, ?_⟩
 intro cr rest st EN k Kc X J m w hE hRep hSame hC
 obtain ⟨s1, s2, s3, s4, s5⟩ : m₀.th i = m.th i ∧ m₀.tv i = m.tv i ∧ m₀.cb i = m.cb i ∧ m₀.begun i = m.begun i ∧ m₀.ws.length = m.ws.length := hSame
 have hJ := hE.js
 have hB := hRep.body
 rw [s1] at hmost
 rw [s4] at hb0
 rw [s3] at hcb
 refine clo_calls hJ (mb := S.mb i) (pv := pv) (iv := sxOf st) (most := most) (hB.ro _ _ r1) (hB.ro _ _ r2) (hB.ro _ _ r3) (hB.ro _ _ r4) (hB.ro _ _ r5) hin hpv fun cl hcl => ?_
 refine run_enter hJ fun T hF => ?_
 have hro := hRep.room i hi
 rw [hb0] at hro
 have hgo : ∀ (m' : MM) (x : Bool), MRel i m m' → goOn (S.prog i) S.W 4096 (m.th i) = (m'.th i, x) → MTurn (startP S.prog i m.mem) m.room i m (if x then .yield { m' with room := m.room, begun := fun j => if j = i then true else m.begun j } else .done { m' with room := m.room, begun := fun j => if j = i then true else m.begun j }) := by
  intro m' x hr hg
  have hgp : startP S.prog i m.mem = ((⟨m'.ws, m'.th⟩ : Mem), x) := by
   unfold startP
   have e2 : goOn (S.prog i) m.mem.ws.length 4096 (m.mem.th i) = (m'.th i, x) := by
    rw [show m.mem.ws.length = S.W from hB.len, ← hg]; rfl
   rw [e2]
   simp only [Mem.upd, Prod.mk.injEq, and_true, Mem.mk.injEq]
   refine ⟨?_, ?_⟩
   · rw [hr.ws]; rfl
   · funext j
     by_cases e : j = i
     · subst e; simp
     · simp only [e, if_false]
       rw [hr.th j e]; rfl
  rw [hgp]
  exact ⟨{ m' with room := m.room, begun := fun j => if j = i then true else m.begun j }, rfl, rfl, fun j hj => hr.tv j hj, fun j hj => hr.cb j hj, rfl, rfl⟩
 have hrep : ∀ (m' : MM) (x : Bool) (w' : World), MRel i m m' → goOn (S.prog i) S.W 4096 (m.th i) = (m'.th i, x) → S.Body m' w' → S.Rep { m' with room := m.room, begun := fun j => if j = i then true else m.begun j } w' := by
  intro m' x w' hr hg hB'
  refine ⟨hB'.room _ _, fun j hj => ?_⟩
  show (m'.th j).told.length + 4096 * (m.room + if (if j = i then true else m.begun j) = true then 0 else 1) ≤ _
  by_cases e : j = i
  · subst e
    have h1 := goOn_told (S.prog j) S.W 4096 (m.th j)
    rw [hg] at h1
    simp only at h1
    rw [if_pos (by simp)]
    simp only [Bool.false_eq_true, if_false] at hro
    omega
  · rw [hr.th j e]
    simp only [e, if_false]
    exact hRep.room j hj
 refine run_loop (st := st) hi hp 4096 (Nat.le_refl _) hE hB hcb ?_ ?_ (fun m' w' T' own' b' g1 g2 g3 g4 g5 g6 g7 => ?_) (fun m' w' g1 g2 g3 g4 g5 => ?_)
 · simp only [Bool.false_eq_true, if_false] at hro; omega
 · rw [hmost]; exact hF
 · exact hC.yield _ _ _ w' (hgo m' true g1 g2) (grow_room g4 _ _) (hrep m' true w' g1 g2 g3) (Nat.le_refl _) (mach_susp hi hp NE EN hcl k _ T' own' b' g5 g6 g7)
 · exact hcl.fin Kc J hJ cr rest w' (hC.done _ (.tuple #[]) w' (hgo m' false g1 g2) (grow_room g4 _ _) (hrep m' false w' g1 g2 g3) (Nat.le_refl _))
set_option maxHeartbeats 4000000
set_option maxRecDepth 100000
def cloOf (H b1 b3 : Nat) : Value := .func (.func 40) #[] #[.pointer (some ⟨b1, 0, none⟩), .pointer (some ⟨H, 0, none⟩), .pointer (some ⟨b3, 0, none⟩), .pointer (some ⟨H + 1, 0, none⟩)]
def ptrL (mb : Nat → Nat) (N : Nat) : List Value := (List.range N).map fun i => .pointer (some ⟨mb i, 0, none⟩)
def cloL (H : Nat) (b1 b3 : Nat → Nat) (N : Nat) : List Value := (List.range N).map fun i => cloOf H (b1 i) (b3 i)
def mach0 (bw W : Nat) : Array Value := #[.slice (some ⟨bw, 0, none⟩) W W, .int .i64 0, .int .i64 0, .int .i64 0, .int .i64 0, .slice none 0 0, .int .i64 0]
structure MRes (w : World) (ws : List Int) (W N : Nat) (pv : Value) (most : Int) (mb b1 b3 : Nat → Nat) (av fv : Value) (w' : World) : Prop where
 size : w.heap.size + 3 ≤ w'.heap.size
 old : ∀ b, b < w.heap.size → w'.heap[b]? = w.heap[b]?
 prg : w'.heap[w.heap.size]? = some (.cells #[pv] 30)
 mst : w'.heap[w.heap.size + 1]? = some (.cells #[.int .i64 most] 3)
 wds : w'.heap[w.heap.size + 2]? = some (.cells (ws.map (Value.int .i64)).toArray 114)
 arow : w'.ownsRow w.heap.size 116 1 av N (ptrL mb N)
 frow : w'.ownsRow w.heap.size 60 1 fv N (cloL w.heap.size b1 b3 N)
 mac : ∀ i, i < N → w'.heap[mb i]? = some (.cells (mach0 (w.heap.size + 2) W) 118)
 bx1 : ∀ i, i < N → w'.heap[b1 i]? = some (.cells #[.pointer (some ⟨mb i, 0, none⟩)] 116)
 bx3 : ∀ i, i < N → w'.heap[b3 i]? = some (.cells #[.int .i64 i] 3)
 lo : ∀ i, i < N → w.heap.size + 3 ≤ b3 i ∧ b3 i < mb i ∧ mb i < b1 i
 inc : ∀ i i', i < i' → i' < N → b1 i < b3 i'
 ne1 : ∀ i, i < N → av.ownBlock ≠ some (b1 i)
 lo1 : ∀ g, av.ownBlock = some g ∨ fv.ownBlock = some g → w.heap.size + 3 ≤ g
theorem make_words (w : World) (W : Nat) (hW : W ≤ 1099511627776) : (Instr.makeSlice 64 (.int .i64 W) (.int .i64 W)).run Try.prog w = .ok (.slice (some ⟨w.heap.size, 0, none⟩) W W) (w.alloc (.cells (Array.replicate W (.int .i64 0)) 114)) := by
 obtain ⟨ti, hti, hz0, hz1, hz2⟩ : ∃ ti, Try.prog.info? 114 = some ti ∧ ti.zero.map (·.cells) = some #[.int .i64 0] ∧ ti.size = 1 ∧ ti.bytes = 8 := ⟨_, rfl, by rfl, rfl, rfl⟩
 obtain ⟨z, hz, hzc⟩ : ∃ z, ti.zero = some z ∧ z.cells = #[.int .i64 0] := by
  cases h : ti.zero with
  | none => rw [h] at hz0; cases hz0
  | some z => rw [h] at hz0; exact ⟨z, rfl, by simpa using hz0⟩
 have := run_make (P := Try.prog) w 64 114 ti z (by kernel_rfl) hti hz .i64 .i64 W W (by omega) (Int.le_refl _) (by rw [hz2]; omega) (by omega)
 simp only [Int.toNat_natCast, hz1, Nat.mul_one] at this
 rw [this]
 congr 3
 rw [hzc]
 apply Array.ext_getElem?
 intro i
 by_cases hi : i < W
 · simp [madeCells, hi, Nat.mod_one]
 · simp [madeCells, hi]
theorem words_get {w : World} {bw : Nat} {l : List Int} {T : TypeId} (h : w.heap[bw]? = some (.cells (l.map (Value.int .i64)).toArray T)) {i : Nat} (hi : i < l.length) : w.cell? ⟨bw, i, none⟩ = some (.int .i64 (l.getD i 0)) := by
 refine (zq0 h).trans ?_
 simp [hi]
theorem words_set {w : World} {bw : Nat} {l : List Int} {T : TypeId} (h : w.heap[bw]? = some (.cells (l.map (Value.int .i64)).toArray T)) (i : Nat) (v : Int) : (w.setCell ⟨bw, i, none⟩ (.int .i64 v)).heap[bw]? = some (.cells ((l.set i v).map (Value.int .i64)).toArray T) := by
 refine (zqh _ _ _ _ h).trans ?_
 congr 2
 apply Array.ext_getElem?
 intro j
 simp only [al_gs, al_gl, List.getElem?_map, List.getElem?_set, List.size_toArray, List.length_map]
 by_cases e : i = j
 · subst e; by_cases h2 : i < l.length <;> simp [h2]
 · simp [e]
structure MPre (w : World) (ws : List Int) (W : Nat) (pv : Value) (most : Int) (j : Nat) (w' : World) : Prop where
 size : w'.heap.size = w.heap.size + 3
 old : ∀ b, b < w.heap.size → w'.heap[b]? = w.heap[b]?
 prg : w'.heap[w.heap.size]? = some (.cells #[pv] 30)
 mst : w'.heap[w.heap.size + 1]? = some (.cells #[.int .i64 most] 3)
 wds : w'.heap[w.heap.size + 2]? = some (.cells ((ws.take j ++ List.replicate (W - j) 0).map (Value.int .i64)).toArray 114)
theorem MPre.start (w : World) (ws : List Int) (W : Nat) (pv : Value) (most : Int) : MPre w ws W pv most 0 (((w.alloc (.cells #[pv] 30)).alloc (.cells #[.int .i64 most] 3)).alloc (.cells (Array.replicate W (.int .i64 0)) 114)) := by
 refine ⟨by simp only [zq6], fun b hb => ?_, ?_, ?_, ?_⟩
 · rw [zqa, if_neg (by simp only [zq6]; omega), zqa, if_neg (by simp only [zq6]; omega), zqa, if_neg (by omega)]
 · rw [zqa, if_neg (by simp only [zq6]; omega), zqa, if_neg (by simp only [zq6]; omega), zqa, if_pos rfl]
 · rw [zqa, if_neg (by simp only [zq6]; omega), zqa, if_pos (by simp only [zq6])]
 · rw [zqa, if_pos (by simp only [zq6])]; simp
theorem MPre.next {w : World} {ws : List Int} {W : Nat} {pv : Value} {most : Int} {j : Nat} {w' : World} (h : MPre w ws W pv most j w') (hl : ws.length = W) (hj : j < W) : MPre w ws W pv most (j + 1) (w'.setCell ⟨w.heap.size + 2, j, none⟩ (.int .i64 (ws.getD j 0))) := by
 refine ⟨by rw [zqi]; exact h.size, fun b hb => ?_, ?_, ?_, ?_⟩
 · rw [zq3 _ _ _ _ (show b ≠ w.heap.size + 2 by omega)]; exact h.old b hb
 · rw [zq3 _ _ _ _ (show w.heap.size ≠ w.heap.size + 2 by omega)]; exact h.prg
 · rw [zq3 _ _ _ _ (show w.heap.size + 1 ≠ w.heap.size + 2 by omega)]; exact h.mst
 · refine (words_set h.wds j _).trans ?_
   congr 4
   apply List.ext_getElem?
   intro q
   have e1 : (ws.take j).length = j := by rw [List.length_take]; omega
   have e2 : (ws.take (j + 1)).length = j + 1 := by rw [List.length_take]; omega
   rw [List.getElem?_set]
   by_cases hq : j = q
   · subst hq
     rw [if_pos rfl, if_pos (by rw [List.length_append, e1, List.length_replicate]; omega), List.getElem?_append_left (by omega), List.getElem?_take, if_pos (by omega)]
     simp [hl, hj]
   · rw [if_neg hq]
     by_cases hq2 : q < j
     · rw [List.getElem?_append_left (by omega), List.getElem?_append_left (by omega), List.getElem?_take, List.getElem?_take, if_pos hq2, if_pos (by omega)]
     · rw [List.getElem?_append_right (by omega), List.getElem?_append_right (by omega), e1, e2, List.getElem?_replicate, List.getElem?_replicate]
       by_cases h3 : q < W
       · rw [if_pos (by omega), if_pos (by omega)]
       · rw [if_neg (by omega), if_neg (by omega)]
theorem MPre.res {w : World} {ws : List Int} {W : Nat} {pv : Value} {most : Int} {w' : World} (h : MPre w ws W pv most W w') (hl : ws.length = W) (mb b1 b3 : Nat → Nat) : MRes w ws W 0 pv most mb b1 b3 (.slice none 0 0) (.slice none 0 0) w' := by
 refine ⟨Nat.le_of_eq h.size.symm, h.old, h.prg, h.mst, ?_, World.ownsRow_nil _ _ _ _, World.ownsRow_nil _ _ _ _, fun i hi => absurd hi (Nat.not_lt_zero _), fun i hi => absurd hi (Nat.not_lt_zero _), fun i hi => absurd hi (Nat.not_lt_zero _), fun i hi => absurd hi (Nat.not_lt_zero _), fun i i' _ hi => absurd hi (Nat.not_lt_zero _), fun i hi => absurd hi (Nat.not_lt_zero _), fun g hg => ?_⟩
 · have := h.wds
   rw [Nat.sub_self, List.take_of_length_le (by omega)] at this
   simpa using this
 · rcases hg with hg | hg <;> cases hg
theorem one_new {w : World} {x : Value} {T : TypeId} {B : Nat} (hB : w.heap.size = B) : ∀ j u, [x][j]? = some u → (w.alloc (.cells #[x] T)).cell? ((⟨B, 0, none⟩ : Addr).add j) = some u := by subst hB; exact cell_one_new w x T
theorem row_al4 {w : World} {B : Nat} {e : TypeId} {v : Value} {n : Nat} {xs : List Value} (h : w.ownsRow B e 1 v n xs) (a b c d : Obj) : ((((w.alloc a).alloc b).alloc c).alloc d).ownsRow B e 1 v n xs := row_alloc (row_alloc (row_alloc (row_alloc h a) b) c) d
theorem own_lt {w : World} {B k n g : Nat} {T : TypeId} {v : Value} {xs : List Value} (h : w.ownsRow B T k v n xs) (hg : v.ownBlock = some g) : (∃ c, w.heap[g]? = some (.cells c T)) ∧ B ≤ g ∧ g < w.heap.size := by
 rcases h.2 with ⟨hv, _⟩ | ⟨g2, cap, cur, hv, hb, hh, _⟩
 · rw [hv] at hg; cases hg
 · rw [hv] at hg; simp only [Value.ownBlock, al_oi] at hg; subst hg; exact ⟨⟨cur, hh⟩, hb, zq4 hh⟩
theorem map_upd {α : Type} (f : Nat → α) (j : Nat) (x : α) : (List.range (j + 1)).map (fun i => if i = j then x else f i) = (List.range j).map f ++ [x] := by
 rw [List.range_succ, List.map_append]
 congr 1
 · refine List.map_congr_left fun i hi => ?_
   have := List.mem_range.1 hi
   rw [if_neg (by omega)]
 · simp
theorem MRes.next {w : World} {ws : List Int} {W j : Nat} {pv : Value} {most : Int} {mb b1 b3 : Nat → Nat} {av fv : Value} {wr w5 w7 : World} (h : MRes w ws W j pv most mb b1 b3 av fv wr) {g g7 cap cap7 : Nat}
 (hown5 : w5.ownsRow w.heap.size 116 1 (.slice (some ⟨g, 0, none⟩) (j + 1) cap) (j + 1) (ptrL mb j ++ [.pointer (some ⟨wr.heap.size + 1, 0, none⟩)]))
 (hgrow5 : ((((wr.alloc (.cells #[.int .i64 j] 3)).alloc (.cells (mach0 (w.heap.size + 2) W) 118)).alloc (.cells #[.pointer (some ⟨wr.heap.size + 1, 0, none⟩)] 116)).alloc (.cells #[.pointer (some ⟨wr.heap.size + 1, 0, none⟩)] 116)).grownBy w5 av.ownBlock)
 (hat5 : av.ownBlock = some g ∨ g = wr.heap.size + 4)
 (hown7 : w7.ownsRow w.heap.size 60 1 (.slice (some ⟨g7, 0, none⟩) (j + 1) cap7) (j + 1) (cloL w.heap.size b1 b3 j ++ [cloOf w.heap.size (wr.heap.size + 2) wr.heap.size]))
 (hgrow7 : (w5.alloc (.cells #[cloOf w.heap.size (wr.heap.size + 2) wr.heap.size] 60)).grownBy w7 fv.ownBlock) (hat7 : fv.ownBlock = some g7 ∨ g7 = w5.heap.size + 1) :
 MRes w ws W (j + 1) pv most (fun i => if i = j then wr.heap.size + 1 else mb i) (fun i => if i = j then wr.heap.size + 2 else b1 i) (fun i => if i = j then wr.heap.size else b3 i) (.slice (some ⟨g, 0, none⟩) (j + 1) cap) (.slice (some ⟨g7, 0, none⟩) (j + 1) cap7) w7 := by
 have hs := h.size
 have e1 : ((((wr.alloc (.cells #[.int .i64 j] 3)).alloc (.cells (mach0 (w.heap.size + 2) W) 118)).alloc (.cells #[.pointer (some ⟨wr.heap.size + 1, 0, none⟩)] 116)).alloc (.cells #[.pointer (some ⟨wr.heap.size + 1, 0, none⟩)] 116)).heap.size = wr.heap.size + 4 := by simp only [zq6]
 have h5s : wr.heap.size + 4 ≤ w5.heap.size := by rw [← e1]; exact hgrow5.size
 have h7s : w5.heap.size + 1 ≤ w7.heap.size := by have := hgrow7.size; rw [zq6] at this; exact this
 have hfv5 : ∀ b, b < w5.heap.size → fv.ownBlock ≠ some b → w7.heap[b]? = w5.heap[b]? := fun b hb hne => by
  rw [hgrow7.block b (by rw [zq6]; omega) (fun e => hne e.symm), zqa, if_neg (by omega)]
 have hext : ∀ b o, wr.heap[b]? = some o → av.ownBlock ≠ some b → fv.ownBlock ≠ some b → w7.heap[b]? = some o := fun b o hb h1 h2 => by
  have hlt := zq4 hb
  rw [hfv5 b (by omega) h2, hgrow5.block b (by rw [e1]; omega) (fun e => h1 e.symm)]
  exact al_old (al_old (al_old (al_old hb)))
 have hnew : ∀ b o, ((((wr.alloc (.cells #[.int .i64 j] 3)).alloc (.cells (mach0 (w.heap.size + 2) W) 118)).alloc (.cells #[.pointer (some ⟨wr.heap.size + 1, 0, none⟩)] 116)).alloc (.cells #[.pointer (some ⟨wr.heap.size + 1, 0, none⟩)] 116)).heap[b]? = some o → wr.heap.size ≤ b → w7.heap[b]? = some o := fun b o hb hge => by
  have hlt := zq4 hb
  rw [e1] at hlt
  have ha : av.ownBlock ≠ some b := fun e => by have := (own_lt h.arow e).2.2; omega
  have hf : fv.ownBlock ≠ some b := fun e => by have := (own_lt h.frow e).2.2; omega
  rw [hfv5 b (by omega) hf, hgrow5.block b (by rw [e1]; omega) (fun e => ha e.symm)]
  exact hb
 have hav : ∀ b c T f, wr.heap[b]? = some (.cells c T f) → T ≠ 116 → av.ownBlock ≠ some b := fun b c T f hb hT e => by
  obtain ⟨⟨c2, h2⟩, _⟩ := own_lt h.arow e; exact hT (heap_type hb h2)
 have hfv : ∀ b c T f, wr.heap[b]? = some (.cells c T f) → T ≠ 60 → fv.ownBlock ≠ some b := fun b c T f hb hT e => by
  obtain ⟨⟨c2, h2⟩, _⟩ := own_lt h.frow e; exact hT (heap_type hb h2)
 have hlo1 := h.lo1
 refine ⟨by omega, fun b hb => ?_, hext _ _ h.prg (hav _ _ _ _ h.prg (by decide)) (hfv _ _ _ _ h.prg (by decide)), hext _ _ h.mst (hav _ _ _ _ h.mst (by decide)) (hfv _ _ _ _ h.mst (by decide)), hext _ _ h.wds (hav _ _ _ _ h.wds (by decide)) (hfv _ _ _ _ h.wds (by decide)), ?_, ?_, fun i hi => ?_, fun i hi => ?_, fun i hi => ?_, fun i hi => ?_, fun i i' hi hi' => ?_, fun i hi => ?_, fun q hq => ?_⟩
 · have hbw : b < wr.heap.size := by omega
   obtain ⟨o, ho⟩ : ∃ o, wr.heap[b]? = some o := ⟨_, Array.getElem?_eq_getElem hbw⟩
   rw [hext b o ho (fun e => by have := h.lo1 b (.inl e); omega) (fun e => by have := h.lo1 b (.inr e); omega), ← ho]
   exact h.old b hb
 · unfold ptrL
   have : (fun i => Value.pointer (some ⟨if i = j then wr.heap.size + 1 else mb i, 0, none⟩)) = fun i => if i = j then .pointer (some ⟨wr.heap.size + 1, 0, none⟩) else .pointer (some ⟨mb i, 0, none⟩) := by funext i; split <;> rfl
   rw [this, map_upd]
   refine zqd hown5 fun g' hg' => ?_
   simp only [Value.ownBlock, al_oi] at hg'
   subst hg'
   obtain ⟨⟨c, hc⟩, _, hlt⟩ := own_lt hown5 rfl
   refine hfv5 g hlt fun e => ?_
   have := own_lt h.frow e
   rcases hat5 with h5 | h5
   · have h6 := own_lt h.arow h5
     obtain ⟨⟨c1, h7⟩, _⟩ := this
     obtain ⟨⟨c2, h8⟩, _⟩ := h6
     have := heap_type h7 h8
     exact absurd this (by decide)
   · omega
 · unfold cloL
   have : (fun i => cloOf w.heap.size (if i = j then wr.heap.size + 2 else b1 i) (if i = j then wr.heap.size else b3 i)) = fun i => if i = j then cloOf w.heap.size (wr.heap.size + 2) wr.heap.size else cloOf w.heap.size (b1 i) (b3 i) := by funext i; split <;> rfl
   rw [this, map_upd]
   exact hown7
 · by_cases e : i = j
   · simp only [e, if_true]
     refine hnew _ _ ?_ (by omega)
     refine al_old (al_old ?_)
     rw [zqa, if_pos (by simp only [zq6])]
   · simp only [e, if_false]
     have := h.mac i (by omega)
     exact hext _ _ this (hav _ _ _ _ this (by decide)) (hfv _ _ _ _ this (by decide))
 · by_cases e : i = j
   · simp only [e, if_true]
     refine hnew _ _ ?_ (by omega)
     refine al_old ?_
     rw [zqa, if_pos (by simp only [zq6])]
   · simp only [e, if_false]
     have := h.bx1 i (by omega)
     exact hext _ _ this (h.ne1 i (by omega)) (hfv _ _ _ _ this (by decide))
 · by_cases e : i = j
   · simp only [e, if_true]
     refine hnew _ _ ?_ (by omega)
     refine al_old (al_old (al_old ?_))
     rw [zqa, if_pos rfl]
   · simp only [e, if_false]
     have := h.bx3 i (by omega)
     exact hext _ _ this (hav _ _ _ _ this (by decide)) (hfv _ _ _ _ this (by decide))
 · by_cases e : i = j
   · simp only [e, if_true]; omega
   · simp only [e, if_false]; exact h.lo i (by omega)
 · have e : i ≠ j := by omega
   simp only [e, if_false]
   by_cases e2 : i' = j
   · simp only [e2, if_true]
     have := zq4 (h.bx1 i (by omega)); omega
   · simp only [e2, if_false]; exact h.inc i i' hi (by omega)
 · simp only [Value.ownBlock, ne_eq, al_oi]
   by_cases e : i = j
   · simp only [e, if_true]
     rcases hat5 with h5 | h5
     · have := (own_lt h.arow h5).2.2; omega
     · omega
   · simp only [e, if_false]
     rcases hat5 with h5 | h5
     · intro e2; subst e2; exact h.ne1 i (by omega) h5
     · have := zq4 (h.bx1 i (by omega)); omega
 · simp only [Value.ownBlock, al_oi] at hq
   rcases hq with rfl | rfl
   · rcases hat5 with h5 | h5
     · exact h.lo1 _ (.inl h5)
     · omega
   · rcases hat7 with h5 | h5
     · exact h.lo1 _ (.inr h5)
     · omega
theorem MRes.frow5' {w : World} {ws : List Int} {W j : Nat} {pv : Value} {most : Int} {mb b1 b3 : Nat → Nat} {av fv : Value} {wr w5 : World} (h : MRes w ws W j pv most mb b1 b3 av fv wr) {o1 o2 o3 o4 : Obj} (hg : ((((wr.alloc o1).alloc o2).alloc o3).alloc o4).grownBy w5 av.ownBlock) : w5.ownsRow w.heap.size 60 1 fv j (cloL w.heap.size b1 b3 j) := by
 refine zqd h.frow fun g hgg => ?_
 obtain ⟨⟨c, hc⟩, _, hlt⟩ := own_lt h.frow hgg
 rw [hg.block g (by simp only [zq6]; omega) (fun e => ?_)]
 · rw [zqa, if_neg (by simp only [zq6]; omega), zqa, if_neg (by simp only [zq6]; omega), zqa, if_neg (by simp only [zq6]; omega), zqa, if_neg (by omega)]
 · obtain ⟨⟨c2, hc2⟩, _⟩ := own_lt h.arow e.symm
   exact absurd (heap_type hc hc2) (by decide)
theorem MRes.size5' {w : World} {ws : List Int} {W j : Nat} {pv : Value} {most : Int} {mb b1 b3 : Nat → Nat} {av fv : Value} {wr w5 : World} (h : MRes w ws W j pv most mb b1 b3 av fv wr) {o1 o2 o3 o4 : Obj} {r : Option Nat} (hg : ((((wr.alloc o1).alloc o2).alloc o3).alloc o4).grownBy w5 r) : w.heap.size ≤ w5.heap.size := by
 have := hg.size
 simp only [zq6] at this
 have := h.size
 omega
theorem machines_lone {wp pp : Option Addr} {W C n Cp : Nat} {ws : List Int} (most : Int) (w : World) (hl : ws.length = W) (hW : W ≤ 1099511627776) (hn : n ≤ 4611686018427387904)
 (hws : 0 < W → ∃ wb wo, wp = some ⟨wb, wo, none⟩ ∧ ∀ i, i < W → w.cell? ⟨wb, wo + i, none⟩ = some (.int .i64 (ws.getD i 0))) :
 Calls Try.prog 23 #[.slice wp W C, .slice pp n Cp, .int .i64 most] w fun e w' => ∃ mb b1 b3 av fv, e = .returned (.tuple #[.slice (some ⟨w.heap.size + 2, 0, none⟩) W W, av, fv]) ∧ MRes w ws W (min n 64) (.slice pp n Cp) most mb b1 b3 av fv w' := by
 have hmk := fun w => make_words w W hW
 have HS := Lib.hid hws
 clear hws
 go_enter Try.func23, Try.ntmps23
 go_wp2
 have hP := Lib.hid (MPre.start w ws W (.slice pp n Cp) most)
 generalize (((w.alloc (.cells #[.slice pp n Cp] 30)).alloc (.cells #[.int .i64 most] 3)).alloc (.cells (Array.replicate W (Value.int .i64 0)) 114)) = w1 at hP ⊢
 generalize hbw : w.heap.size + 1 + 1 = bw
 generalize hH1 : w.heap.size + 1 = H1
 generalize hH : w.heap.size = H at hbw hH1 ⊢
 have HB : RowKit.Hid (H = w.heap.size ∧ H1 = w.heap.size + 1 ∧ bw = w.heap.size + 2) := ⟨hH.symm, by omega, by omega⟩
 have HL := Lib.hid hl
 clear hmk hbw hH1 hl
 go_loopg [21] W (fun k i wr => ∃ j : Nat, k = W - j ∧ j ≤ W ∧ i = .int .i64 j ∧ MPre w ws W (.slice pp n Cp) most j wr)
 case atStart => exact ⟨0, rfl, Nat.zero_le _, rfl, hP.out⟩
 case round =>
  obtain ⟨j, hk, hj, rfl, hR⟩ := hrel
  have HR := Lib.hid hR
  clear hR
  by_cases hlt : j < W
  · obtain ⟨wb, wo, rfl, hc⟩ := HS.out (by omega)
    obtain ⟨x, hx⟩ : ∃ x, ws.getD j 0 = x := ⟨_, rfl⟩
    have c1 := (zqf (HR.out.old wb (by have := hc j hlt; exact cell_lt this))).trans (hc j hlt)
    rw [hx] at c1
    have hlt' : (j : Int) < (W : Int) := by omega
    have hj0 : (0 : Int) ≤ j := by omega
    have HX := Lib.hid hx
    clear hc hx hH
    go_wp2_with (fail)
    have c2 := words_get HR.out.wds (i := j) (by have := HL.out; simp; omega)
    rw [← HB.out.2.2] at c2
    refine Calls.mono (store_lone _ _ _ _ _ c2 (zqg (HB.out.2.2 ▸ HR.out.wds))) ?_
    rintro e w' ⟨rfl, rfl⟩
    clear c1 c2
    go_wp2
    go_roundg (W - (j + 1))
    case measure => omega
    case rel => exact ⟨j + 1, rfl, by omega, rfl, by rw [← HX.out, HB.out.2.2]; exact HR.out.next HL.out hlt⟩
  · obtain rfl : j = W := by omega
    clear hH
    have c0 := (zq0 (off := 0) HR.out.prg).trans rfl
    rw [← HB.out.1] at c0
    have hn' : (n : Int) ≤ 4611686018427387904 := by omega
    obtain ⟨N, hN⟩ : ∃ N, min n 64 = N := ⟨_, rfl⟩
    go_wp2
    all_goals (
     have e1 : (64 : Int) = (N : Int) ∨ (n : Int) = (N : Int) := by omega
     first
      | (have e1 : (64 : Int) = (N : Int) := by omega
         rw [e1])
      | (have e1 : (n : Int) = (N : Int) := by omega
         rw [e1])
     have hN64 : N ≤ 64 := by omega
     have HN := Lib.hid hN
     clear hN c0 e1
     go_loopg [12, 13, 35] N (fun k a t i wr => ∃ (jj : Nat) (mb b1 b3 : Nat → Nat), k = N - jj ∧ jj ≤ N ∧ i = .int .i64 jj ∧ MRes w ws j jj (.slice pp n Cp) most mb b1 b3 a t wr)
     case atStart => exact ⟨0, fun _ => 0, fun _ => 0, fun _ => 0, rfl, Nat.zero_le _, rfl, HR.out.res HL.out _ _ _⟩
     case round =>
      obtain ⟨jj, mb, b1, b3, hk2, hj2, rfl, hR2⟩ := hrel
      have HR2 := Lib.hid hR2
      clear hR2
      by_cases hlt2 : jj < N
      · have hlt2' : (jj : Int) < (N : Int) := by omega
        obtain ⟨ti, hti, hz0, hz1, hz2⟩ : ∃ ti, Try.prog.info? 116 = some ti ∧ ti.zero = some (.pointer none) ∧ ti.size = 1 ∧ ti.bytes = 8 := ⟨_, rfl, rfl, rfl, rfl⟩
        obtain ⟨tj, htj, hy0, hy1, hy2⟩ : ∃ ti, Try.prog.info? 60 = some ti ∧ ti.zero = some .nilFunc ∧ ti.size = 1 ∧ ti.bytes = 8 := ⟨_, rfl, rfl, rfl, rfl⟩
        have TI := Lib.hid (And.intro hti (And.intro hz0 (And.intro hz1 hz2)))
        have TJ := Lib.hid (And.intro htj (And.intro hy0 (And.intro hy1 hy2)))
        clear hti hz0 hz1 hz2 htj hy0 hy1 hy2
        go_wp2_with (at_builtin; go_loud (refine wpList_append_lies _ rfl (.tmp 41) (.tmp 43) 65 rfl w.heap.size 116 ti (.pointer none) 1 8 (by kernel_rfl) TI.out.1 TI.out.2.1 TI.out.2.2.1 TI.out.2.2.2 rfl (by decide) _ jj (ptrL mb jj) rfl (row_al4 HR2.out.arow _ _ _ _) _ 1 1 [.pointer (some ⟨wr.heap.size + 1, 0, none⟩)] rfl rfl (one_new (by simp only [zq6])) (by simp [Value.oneCell']) (by decide) (by simp only [maxLen]; omega) (by omega) (by have := HR2.out.size; simp only [zq6]; omega) _ rfl ?next))
        case next =>
         intro g cap w5 hown5 hgrow5 hat5 hlt5
         have F5 := Lib.hid (HR2.out.frow5' hgrow5)
         have L5 := Lib.hid (And.intro hown5 (And.intro hgrow5 (And.intro hat5 (And.intro hlt5 (HR2.out.size5' hgrow5)))))
         clear hown5 hgrow5 hat5 hlt5
         go_wp2_with (at_builtin; go_loud (refine wpList_append_lies _ rfl (.tmp 45) (.tmp 47) 47 rfl w.heap.size 60 tj .nilFunc 1 8 (by kernel_rfl) TJ.out.1 TJ.out.2.1 TJ.out.2.2.1 TJ.out.2.2.2 rfl (by decide) _ jj (cloL w.heap.size b1 b3 jj) rfl (row_alloc F5.out _) _ 1 1 [.func (.func 40) #[] #[.pointer (some ⟨wr.heap.size + 1 + 1, 0, none⟩), .pointer (some ⟨H, 0, none⟩), .pointer (some ⟨wr.heap.size, 0, none⟩), .pointer (some ⟨H1, 0, none⟩)]] rfl rfl (one_new rfl) (by simp [Value.oneCell']) (by decide) (by simp only [maxLen]; omega) (by omega) (by have := L5.out.2.2.2.2; simp only [zq6]; omega) _ rfl ?next2))
         case next2 =>
          intro g7 cap7 w7 hown7 hgrow7 hat7 hlt7
          have L7 := Lib.hid (And.intro hown7 (And.intro hgrow7 hat7))
          clear hown7 hgrow7 hat7 hlt7
          go_wp2
          go_roundg (N - (jj + 1))
          case measure => omega
          case rel =>
           obtain ⟨rfl, rfl, rfl⟩ := HB.out
           obtain ⟨o5, g5, a5, _, _⟩ := L5.out
           obtain ⟨o7, q7, a7⟩ := L7.out
           try simp only [zq6] at a5
           try simp only [zq6] at a7
           exact ⟨jj + 1, _, _, _, rfl, by omega, rfl, HR2.out.next o5 g5 a5 o7 q7 a7⟩
      · obtain rfl : jj = N := by omega
        go_wp2
        go_ret3
        obtain ⟨rfl, rfl, rfl⟩ := HB.out
        rw [HN.out]
        exact ⟨mb, b1, b3, _, _, rfl, HR2.out⟩)
structure TPre (w : World) (j q : Nat) (av sv : List Value) (ans st : Value) (w' : World) : Prop where
 size : w.heap.size + 2 ≤ w'.heap.size
 old : ∀ b, b < w.heap.size → w'.heap[b]? = w.heap[b]?
 res : w'.heap[w.heap.size]? = some (.cells #[.slice none 0 0, .slice none 0 0, .slice none 0 0, .bool false] 28)
 var : w'.heap[w.heap.size + 1]? = some (.cells #[ans, .slice none 0 0, st, .bool false] 28)
 arow : w'.ownsRow (w.heap.size + 2) 36 1 ans j av
 srow : w'.ownsRow (w.heap.size + 2) 2 1 st q sv
theorem TPre.start (w : World) : TPre w 0 0 [] [] (.slice none 0 0) (.slice none 0 0) ((w.alloc (.cells #[.slice none 0 0, .slice none 0 0, .slice none 0 0, .bool false] 28)).alloc (.cells #[.slice none 0 0, .slice none 0 0, .slice none 0 0, .bool false] 28)) := by
 refine ⟨by simp only [zq6]; omega, fun b hb => ?_, ?_, ?_, World.ownsRow_nil _ _ _ _, World.ownsRow_nil _ _ _ _⟩
 · rw [zqa, if_neg (by simp only [zq6]; omega), zqa, if_neg (by omega)]
 · rw [zqa, if_neg (by simp only [zq6]; omega), zqa, if_pos rfl]
 · rw [zqa, if_pos (by simp only [zq6])]
theorem TPre.ans {w : World} {j q : Nat} {av sv : List Value} {ans st x : Value} {wr w5 : World} (h : TPre w j q av sv ans st wr) {g cap : Nat} {n : Nat}
 (hown : w5.ownsRow (w.heap.size + 2) 36 1 (.slice (some ⟨g, 0, none⟩) (j + 1) cap) (j + 1) (av ++ [x])) (hgrow : ((wr.drewN n).alloc (.cells #[x] 36)).grownBy w5 ans.ownBlock) :
 TPre w (j + 1) q (av ++ [x]) sv (.slice (some ⟨g, 0, none⟩) (j + 1) cap) st (w5.setCell ⟨w.heap.size + 1, 0, none⟩ (.slice (some ⟨g, 0, none⟩) (j + 1) cap)) := by
 have hs := h.size
 have hs5 : wr.heap.size + 1 ≤ w5.heap.size := by have := hgrow.size; rw [zq6] at this; exact this
 have h5 : ∀ b, b < wr.heap.size → ans.ownBlock ≠ some b → w5.heap[b]? = wr.heap[b]? := fun b hb hne => by
  rw [hgrow.block b (by rw [zq6]; exact Nat.lt_succ_of_lt hb) (fun e => hne e.symm), zqa, if_neg (by show b ≠ wr.heap.size; omega)]; rfl
 have hlo : ∀ g, ans.ownBlock = some g → w.heap.size + 2 ≤ g := fun g hg => (own_lt h.arow hg).2.1
 have hne := fun (e : ans.ownBlock = some (w.heap.size + 1)) => by have := hlo _ e; omega
 have hv5 : w5.heap[w.heap.size + 1]? = _ := (h5 _ (by omega) (fun e => by have := hlo _ e; omega)).trans h.var
 refine ⟨by rw [zqi]; omega, fun b hb => ?_, ?_, ?_, ?_, ?_⟩
 · rw [zq3 _ _ _ _ (show b ≠ w.heap.size + 1 by omega), h5 b (by omega) (fun e => by have := hlo _ e; omega)]; exact h.old b hb
 · rw [zq3 _ _ _ _ (show w.heap.size ≠ w.heap.size + 1 by omega), h5 _ (by omega) (fun e => by have := hlo _ e; omega)]; exact h.res
 · exact (zqh _ _ _ _ hv5).trans rfl
 · refine zqd hown fun g' hg' => zq3 _ _ _ _ ?_
   have := (own_lt hown hg').2.1
   show g' ≠ w.heap.size + 1; omega
 · refine zqd h.srow fun g' hg' => ?_
   obtain ⟨⟨c, hc⟩, hlo', hlt⟩ := own_lt h.srow hg'
   rw [zq3 _ _ _ _ (show g' ≠ w.heap.size + 1 by omega)]
   refine h5 g' hlt fun e => ?_
   obtain ⟨⟨c2, hc2⟩, _⟩ := own_lt h.arow e
   exact absurd (heap_type hc hc2) (by decide)
theorem TPre.st {w : World} {j q : Nat} {av sv : List Value} {ans st x : Value} {wr w5 : World} (h : TPre w j q av sv ans st wr) {g cap : Nat} {n : Nat}
 (hown : w5.ownsRow (w.heap.size + 2) 2 1 (.slice (some ⟨g, 0, none⟩) (q + 1) cap) (q + 1) (sv ++ [x])) (hgrow : ((wr.drewN n).alloc (.cells #[x] 2)).grownBy w5 st.ownBlock) :
 TPre w j (q + 1) av (sv ++ [x]) ans (.slice (some ⟨g, 0, none⟩) (q + 1) cap) (w5.setCell ⟨w.heap.size + 1, 2, none⟩ (.slice (some ⟨g, 0, none⟩) (q + 1) cap)) := by
 have hs := h.size
 have hs5 : wr.heap.size + 1 ≤ w5.heap.size := by have := hgrow.size; rw [zq6] at this; exact this
 have h5 : ∀ b, b < wr.heap.size → st.ownBlock ≠ some b → w5.heap[b]? = wr.heap[b]? := fun b hb hne => by
  rw [hgrow.block b (by rw [zq6]; exact Nat.lt_succ_of_lt hb) (fun e => hne e.symm), zqa, if_neg (by show b ≠ wr.heap.size; omega)]; rfl
 have hlo : ∀ g, st.ownBlock = some g → w.heap.size + 2 ≤ g := fun g hg => (own_lt h.srow hg).2.1
 have hv5 : w5.heap[w.heap.size + 1]? = _ := (h5 _ (by omega) (fun e => by have := hlo _ e; omega)).trans h.var
 refine ⟨by rw [zqi]; omega, fun b hb => ?_, ?_, ?_, ?_, ?_⟩
 · rw [zq3 _ _ _ _ (show b ≠ w.heap.size + 1 by omega), h5 b (by omega) (fun e => by have := hlo _ e; omega)]; exact h.old b hb
 · rw [zq3 _ _ _ _ (show w.heap.size ≠ w.heap.size + 1 by omega), h5 _ (by omega) (fun e => by have := hlo _ e; omega)]; exact h.res
 · exact (zqh _ _ _ _ hv5).trans rfl
 · refine zqd h.arow fun g' hg' => ?_
   obtain ⟨⟨c, hc⟩, hlo', hlt⟩ := own_lt h.arow hg'
   rw [zq3 _ _ _ _ (show g' ≠ w.heap.size + 1 by omega)]
   refine h5 g' hlt fun e => ?_
   obtain ⟨⟨c2, hc2⟩, _⟩ := own_lt h.srow e
   exact absurd (heap_type hc hc2) (by decide)
 · refine zqd hown fun g' hg' => zq3 _ _ _ _ ?_
   have := (own_lt hown hg').2.1
   show g' ≠ w.heap.size + 1; omega
structure TRes (w : World) (N W : Nat) (tv : Nat → Value) (ws : List Int) (ans st : Value) (w' : World) : Prop where
 size : w.heap.size ≤ w'.heap.size
 old : ∀ b, b < w.heap.size → w'.heap[b]? = w.heap[b]?
 arow : w'.ownsRow w.heap.size 36 1 ans N ((List.range N).map tv)
 srow : w'.ownsRow w.heap.size 2 1 st W (ws.map (Value.int .i64))
theorem ownsRow_base {w : World} {B B' n k : Nat} {T : TypeId} {v : Value} {xs : List Value} (h : w.ownsRow B T k v n xs) (hb : B' ≤ B) : w.ownsRow B' T k v n xs := by
 refine ⟨h.1, ?_⟩
 rcases h.2 with hv | ⟨g, cap, cur, hv, h1, h2⟩
 · exact .inl hv
 · exact .inr ⟨g, cap, cur, hv, Nat.le_trans hb h1, h2⟩
theorem own_slice {w : World} {B n k : Nat} {T : TypeId} {v : Value} {xs : List Value} (h : w.ownsRow B T k v n xs) : ∃ p m c, v = .slice p m c := by
 rcases h.2 with ⟨hv, _⟩ | ⟨g, cap, cur, hv, _⟩
 · exact ⟨_, _, _, hv⟩
 · exact ⟨_, _, _, hv⟩
theorem drewN_size (w : World) (n : Nat) : (w.drewN n).heap.size = w.heap.size := rfl
theorem trace_lone {bw W N Ca : Nat} {p : Option Addr} {mb : Nat → Nat} {tv : Nat → Value} {ws : List Int} (w : World) (hl : ws.length = W) (hW : W ≤ 1099511627776) (hN : N ≤ 64)
 (hw : w.heap[bw]? = some (.cells (ws.map (Value.int .i64)).toArray 114)) (hp : 0 < N → ∃ g, p = some ⟨g, 0, none⟩ ∧ ∀ i, i < N → w.cell? ⟨g, i, none⟩ = some (.pointer (some ⟨mb i, 0, none⟩))) (hm : ∀ i, i < N → w.cell? ⟨mb i, 5, none⟩ = some (tv i)) (hsl : ∀ i, i < N → ∃ p n c, tv i = .slice p n c) :
 Calls Try.prog 24 #[.slice (some ⟨bw, 0, none⟩) W W, .slice p N Ca] w fun e w' => ∃ ans st, e = .returned (.agg #[ans, .slice none 0 0, st, .bool false]) ∧ TRes w N W tv ws ans st w' := by
 have HP := Lib.hid hp
 have HM := Lib.hid hm
 have HSL := Lib.hid hsl
 have HW := Lib.hid hw
 clear hp hm hw hsl
 go_enter Try.func24, Try.ntmps24
 go_wp2
 have hP := Lib.hid (TPre.start w)
 generalize ((w.alloc (.cells #[.slice none 0 0, .slice none 0 0, .slice none 0 0, .bool false] 28)).alloc (.cells #[.slice none 0 0, .slice none 0 0, .slice none 0 0, .bool false] 28)) = w1 at hP ⊢
 generalize hH1 : w.heap.size + 1 = H1
 generalize hH : w.heap.size = H at hH1 ⊢
 have HB : RowKit.Hid (H = w.heap.size ∧ H1 = w.heap.size + 1) := ⟨hH.symm, by omega⟩
 have HL := Lib.hid hl
 clear hH1 hH hl
 go_loopg [11] N (fun k i wr => ∃ (j : Nat) (ans : Value), k = N - j ∧ j ≤ N ∧ i = .int .i64 j ∧ TPre w j 0 ((List.range j).map tv) [] ans (.slice none 0 0) wr)
 case atStart => exact ⟨0, .slice none 0 0, rfl, Nat.zero_le _, rfl, hP.out⟩
 case round =>
  obtain ⟨j, ans, hk, hj, rfl, hR⟩ := hrel
  have HR := Lib.hid hR
  clear hR
  by_cases hlt : j < N
  · obtain ⟨g, rfl, hc⟩ := HP.out (by omega)
    have c1 := (zqf (HR.out.old g (cell_lt (hc j hlt)))).trans (hc j hlt)
    have c2 := (zqf (HR.out.old (mb j) (cell_lt (HM.out j hlt)))).trans (HM.out j hlt)
    obtain ⟨xp, xn, xc, hx⟩ := HSL.out j hlt
    rw [hx] at c2
    obtain ⟨mbj, hmb⟩ : ∃ b, mb j = b := ⟨_, rfl⟩
    rw [hmb] at c1 c2
    have HX := Lib.hid hx
    have hlt' : (j : Int) < (N : Int) := by omega
    have hj0 : (0 : Int) ≤ j := by omega
    have c3 := (zq0 (off := 0) HR.out.var).trans rfl
    rw [← HB.out.2] at c3
    have hbl : mbj < wr.heap.size := cell_lt c2
    have hHl : H1 < wr.heap.size := cell_lt c3
    clear hc hx hmb
    go_wp2_with (fail)
    clear c1
    have C2 := Lib.hid c2
    have C3 := Lib.hid c3
    clear c2 c3
    refine wp_region_one (k := 7) (s := 6) (W0 := wr.drewN 1) (W1 := (wr.drewN 1).alloc (.cells #[.slice xp xn xc] 36)) (by kernel_rfl) (by kernel_rfl) (by kernel_rfl) (by kernel_rfl) (by decide) [.pointer (some ⟨H1, 0, none⟩), ans, .pointer (some ⟨mbj, 0, none⟩), .pointer (some ⟨mbj, 0, none⟩), .pointer (some ⟨mbj, 5, none⟩), .slice xp xn xc, .slice (some ⟨wr.heap.size, 0, none⟩) 1 1] rfl rfl ?_ ?_ ?_
    · intro i o hi his ho W hWW
      have q2 : W.cell? ⟨mbj, 5, none⟩ = some (.slice xp xn xc) := by
       rcases hWW with rfl | rfl
       · exact C2.out
       · exact (zqf (by rw [zqa, if_neg (by show mbj ≠ wr.heap.size; omega)]; rfl)).trans C2.out
      have q3 : W.cell? ⟨H1, 0, none⟩ = some ans := by
       rcases hWW with rfl | rfl
       · exact C3.out
       · exact (zqf (by rw [zqa, if_neg (by show H1 ≠ wr.heap.size; omega)]; rfl)).trans C3.out
      clear hWW
      simp only [putv, dstOf, al_gl, al_g0, al_g1, al_ob, al_g2, List.set_cons_succ, List.set_cons_zero]
      obtain rfl | rfl | rfl | rfl | rfl | rfl : i = 0 ∨ i = 1 ∨ i = 2 ∨ i = 3 ∨ i = 4 ∨ i = 5 := by omega
      all_goals (simp only [al_gl, al_g0, al_g1, al_oi] at ho; subst ho; refine .inl ?_)
      all_goals (simp only [execOp, Act.eval, al_gd, al_gl, al_g0, al_g1, al_od])
      all_goals (try go_simp)
    · intro o ho
      simp only [putv, dstOf, al_gl, al_g0, al_g1, al_ob, al_g2, List.set_cons_succ, List.set_cons_zero]
      simp only [al_gl, al_g0, al_g1, al_oi] at ho; subst ho; refine .inl ?_
      simp only [execOp, Act.eval, al_gd, al_gl, al_g0, al_g1, al_od]
      go_simp
    simp only [putv, dstOf, al_gl, al_g0, al_g1, al_ob, al_g2, List.set_cons_succ, List.set_cons_zero]
    refine wpAny_one (i := 7) (by kernel_rfl) ?_
    simp only [wpOp, al_gl, al_g0, al_g1]
    rw [if_pos (by rfl)]
    refine .inl ?_
    obtain ⟨ti, hti, hz0, hz1, hz2⟩ : ∃ ti, Try.prog.info? 36 = some ti ∧ ti.zero = some (.slice none 0 0) ∧ ti.size = 1 ∧ ti.bytes = 24 := ⟨_, rfl, rfl, rfl, rfl⟩
    have harow : ((wr.drewN 1).alloc (.cells #[.slice xp xn xc] 36)).ownsRow (w.heap.size + 2) 36 1 ans j ((List.range j).map tv) := row_alloc (zqd HR.out.arow fun _ _ => rfl) _
    refine wp_append_lies _ (.tmp 16) (.tmp 21) 26 (by rfl) (w.heap.size + 2) 36 ti (.slice none 0 0) 1 24 (by kernel_rfl) hti hz0 hz1 hz2 (by rfl) (by decide) ans j ((List.range j).map tv) (by rfl) harow ⟨wr.heap.size, 0, none⟩ 1 1 [.slice xp xn xc] (by rfl) rfl (one_new rfl) (by simp [Value.oneCell']) (by decide) (by simp only [maxLen]; omega) (by omega) (by have := HR.out.size; rw [zq6, drewN_size]; omega) _ rfl fun g2 cap w5 hown hgrow hat hlt5 => ?_
    have L5 := Lib.hid (HR.out.ans hown hgrow)
    have h5b : w5.heap[H1]? = some (.cells #[ans, .slice none 0 0, .slice none 0 0, .bool false] 28) := by
     rw [hgrow.block H1 (by rw [zq6]; exact Nat.lt_succ_of_lt hHl) (fun e => by have h1 := (own_lt HR.out.arow e.symm).2.1; have := HB.out.2; omega), zqa, if_neg (by show H1 ≠ wr.heap.size; omega), HB.out.2]
     exact HR.out.var
    have h5v := (zq0 (off := 0) h5b).trans rfl
    have h5z := zqg (off := 0) h5b
    clear h5b
    clear hown hgrow hat hlt5 harow hti hz0 hz1 hz2
    refine wpAny_one (i := 8) (by kernel_rfl) ?_
    simp only [wpOp, al_gl, al_g0, al_g1]
    rw [if_pos (by rfl)]
    refine .inl ?_
    go_simp
    refine wpAny_one (i := 9) (by kernel_rfl) ?_
    simp only [wpOp, al_gl, al_g0, al_g1]
    rw [if_pos (by rfl)]
    refine .inl ?_
    go_simp
    refine wpAny_end (by kernel_rfl) ?_
    clear h5v h5z
    go_wp2
    go_roundg (N - (j + 1))
    case measure => omega
    case rel =>
     obtain ⟨rfl, rfl⟩ := HB.out
     refine ⟨j + 1, .slice (some ⟨g2, 0, none⟩) (j + 1) cap, rfl, by omega, rfl, ?_⟩
     rw [List.range_succ, List.map_append]
     simp only [List.map_cons, List.map_nil, HX.out]
     exact L5.out
  · obtain rfl : N = j := by omega
    go_wp2
    have HA := Lib.hid HR.out
    go_loopg [27] W (fun k i wr => ∃ (j : Nat) (st : Value), k = W - j ∧ j ≤ W ∧ i = .int .i64 j ∧ TPre w N j ((List.range N).map tv) ((ws.take j).map (Value.int .i64)) ans st wr)
    case atStart => exact ⟨0, .slice none 0 0, rfl, Nat.zero_le _, rfl, HA.out⟩
    case round =>
     obtain ⟨j, st, hk, hj, rfl, hR⟩ := hrel
     clear HR HA
     have HR := Lib.hid hR
     clear hR
     by_cases hlt : j < W
     · have hjl : j < ws.length := by rw [HL.out]; exact hlt
       obtain ⟨x, hx⟩ : ∃ x, ws.getD j 0 = x := ⟨_, rfl⟩
       have c2 := words_get ((HR.out.old bw (zq4 HW.out)).trans HW.out) hjl
       rw [hx] at c2
       have HX := Lib.hid hx
       have hlt' : (j : Int) < (W : Int) := by omega
       have hj0 : (0 : Int) ≤ j := by omega
       have c3 := (zq0 (off := 2) HR.out.var).trans rfl
       rw [← HB.out.2] at c3
       have hbl : bw < wr.heap.size := cell_lt c2
       have hHl : H1 < wr.heap.size := cell_lt c3
       clear hx hjl
       go_wp2_with (fail)
       have C2 := Lib.hid c2
       have C3 := Lib.hid c3
       clear c2 c3
       refine wp_region_one (k := 7) (s := 6) (W0 := wr.drewN 1) (W1 := (wr.drewN 1).alloc (.cells #[.int .i64 x] 2)) (by kernel_rfl) (by kernel_rfl) (by kernel_rfl) (by kernel_rfl) (by decide) [.pointer (some ⟨H1, 2, none⟩), st, .slice (some ⟨bw, 0, none⟩) W W, .int .i64 j, .pointer (some ⟨bw, j, none⟩), .int .i64 x, .slice (some ⟨wr.heap.size, 0, none⟩) 1 1] rfl rfl ?_ ?_ ?_
       · intro i o hi his ho W' hWW
         have q2 : W'.cell? ⟨bw, j, none⟩ = some (.int .i64 x) := by
          rcases hWW with rfl | rfl
          · exact C2.out
          · exact (zqf (by rw [zqa, if_neg (by show bw ≠ wr.heap.size; omega)]; rfl)).trans C2.out
         have q3 : W'.cell? ⟨H1, 2, none⟩ = some st := by
          rcases hWW with rfl | rfl
          · exact C3.out
          · exact (zqf (by rw [zqa, if_neg (by show H1 ≠ wr.heap.size; omega)]; rfl)).trans C3.out
         clear hWW
         simp only [putv, dstOf, al_gl, al_g0, al_g1, al_ob, al_g2, List.set_cons_succ, List.set_cons_zero]
         obtain rfl | rfl | rfl | rfl | rfl | rfl : i = 5 ∨ i = 0 ∨ i = 1 ∨ i = 2 ∨ i = 3 ∨ i = 4 := by omega
         · simp only [al_gl, al_g0, al_g1, al_oi] at ho
           subst ho
           refine .inr ⟨42, #[.pointer (some ⟨bw, j, none⟩)], ?_, load_lone _ _ _ _ q2⟩
           simp [go_sem, execOp, Act.eval, resolve, Deferred.ofValue, invoke, callFunc, Try.func42, Try.f42]
         all_goals (simp only [al_gl, al_g0, al_g1, al_oi] at ho; subst ho; refine .inl ?_)
         all_goals (simp only [execOp, Act.eval, al_gd, al_gl, al_g0, al_g1, al_od])
         all_goals (try go_simp)
       · intro o ho
         simp only [putv, dstOf, al_gl, al_g0, al_g1, al_ob, al_g2, List.set_cons_succ, List.set_cons_zero]
         simp only [al_gl, al_g0, al_g1, al_oi] at ho; subst ho; refine .inl ?_
         simp only [execOp, Act.eval, al_gd, al_gl, al_g0, al_g1, al_od]
         go_simp
       simp only [putv, dstOf, al_gl, al_g0, al_g1, al_ob, al_g2, List.set_cons_succ, List.set_cons_zero]
       refine wpAny_one (i := 7) (by kernel_rfl) ?_
       simp only [wpOp, al_gl, al_g0, al_g1]
       rw [if_pos (by rfl)]
       refine .inl ?_
       obtain ⟨ti, hti, hz0, hz1, hz2⟩ : ∃ ti, Try.prog.info? 2 = some ti ∧ ti.zero = some (.int .i64 0) ∧ ti.size = 1 ∧ ti.bytes = 8 := ⟨_, rfl, rfl, rfl, rfl⟩
       have hsrow : ((wr.drewN 1).alloc (.cells #[.int .i64 x] 2)).ownsRow (w.heap.size + 2) 2 1 st j ((ws.take j).map (Value.int .i64)) := row_alloc (zqd HR.out.srow fun _ _ => rfl) _
       refine wp_append_lies _ (.tmp 31) (.tmp 36) 22 (by rfl) (w.heap.size + 2) 2 ti (.int .i64 0) 1 8 (by kernel_rfl) hti hz0 hz1 hz2 (by rfl) (by decide) st j ((ws.take j).map (Value.int .i64)) (by rfl) hsrow ⟨wr.heap.size, 0, none⟩ 1 1 [.int .i64 x] (by rfl) rfl (one_new rfl) (by simp [Value.oneCell']) (by decide) (by simp only [maxLen]; omega) (by omega) (by have := HR.out.size; rw [zq6, drewN_size]; omega) _ rfl fun g2 cap w5 hown hgrow hat hlt5 => ?_
       have L5 := Lib.hid (HR.out.st hown hgrow)
       have h5b : w5.heap[H1]? = some (.cells #[ans, .slice none 0 0, st, .bool false] 28) := by
        rw [hgrow.block H1 (by rw [zq6]; exact Nat.lt_succ_of_lt hHl) (fun e => by have h1 := (own_lt HR.out.srow e.symm).2.1; have := HB.out.2; omega), zqa, if_neg (by show H1 ≠ wr.heap.size; omega), HB.out.2]
        exact HR.out.var
       have h5v := (zq0 (off := 2) h5b).trans rfl
       have h5z := zqg (off := 2) h5b
       clear h5b hown hgrow hat hlt5 hsrow hti hz0 hz1 hz2
       refine wpAny_one (i := 8) (by kernel_rfl) ?_
       simp only [wpOp, al_gl, al_g0, al_g1]
       rw [if_pos (by rfl)]
       refine .inl ?_
       go_simp
       refine wpAny_one (i := 9) (by kernel_rfl) ?_
       simp only [wpOp, al_gl, al_g0, al_g1]
       rw [if_pos (by rfl)]
       refine .inl ?_
       go_simp
       refine wpAny_end (by kernel_rfl) ?_
       clear h5v h5z
       go_wp2
       go_roundg (W - (j + 1))
       case measure => omega
       case rel =>
        obtain ⟨rfl, rfl⟩ := HB.out
        refine ⟨j + 1, .slice (some ⟨g2, 0, none⟩) (j + 1) cap, rfl, by omega, rfl, ?_⟩
        have e : (ws.take (j + 1)).map (Value.int .i64) = (ws.take j).map (Value.int .i64) ++ [.int .i64 x] := by
         have hjl : j < ws.length := by rw [HL.out]; exact hlt
         rw [List.take_add_one, List.map_append, ← HX.out]
         simp [hjl]
        rw [e]
        exact L5.out
     · obtain rfl : W = j := by omega
       obtain ⟨pa, na, ca, rfl⟩ := own_slice HR.out.arow
       obtain ⟨ps, ns, cs, rfl⟩ := own_slice HR.out.srow
       have v0 := (zq0 (off := 0) HR.out.var).trans rfl
       have v1 := (zq0 (off := 1) HR.out.var).trans rfl
       have v2 := (zq0 (off := 2) HR.out.var).trans rfl
       have v3 := (zq0 (off := 3) HR.out.var).trans rfl
       have r0 := (zq0 (off := 0) HR.out.res).trans rfl
       have r1 := (zq0 (off := 1) HR.out.res).trans rfl
       have r2 := (zq0 (off := 2) HR.out.res).trans rfl
       have r3 := (zq0 (off := 3) HR.out.res).trans rfl
       have z0 := zqg (off := 0) HR.out.res
       have z1 := zqg (off := 1) HR.out.res
       have z2 := zqg (off := 2) HR.out.res
       have z3 := zqg (off := 3) HR.out.res
       have hne : ¬ (H = H1) := by have := HB.out; omega
       have hne2 : ¬ (H1 = H) := by have := HB.out; omega
       rw [← HB.out.1] at r0 r1 r2 r3 z0 z1 z2 z3
       rw [← HB.out.2] at v0 v1 v2 v3
       go_wp2
       have hR := HR.out
       have hHs : H = w.heap.size := HB.out.1
       have b0 : wr.heap[H]? = some (.cells #[.slice none 0 0, .slice none 0 0, .slice none 0 0, .bool false] 28) := by rw [hHs]; exact hR.res
       have b1 := zqh wr H 0 (.slice pa na ca) b0
       have b2 := zqh _ H 1 (.slice none 0 0) b1
       have b3 := zqh _ H 2 (.slice ps ns cs) b2
       have b4 := zqh _ H 3 (.bool false) b3
       clear r0 r1 r2 r3 z0 z1 z2 z3 v0 v1 v2 v3 b0 b1 b2 b3
       have k0 := (zq0 (off := 0) b4).trans rfl
       have k1 := (zq0 (off := 1) b4).trans rfl
       have k2 := (zq0 (off := 2) b4).trans rfl
       have k3 := (zq0 (off := 3) b4).trans rfl
       have hfin : TRes w N W tv ws (.slice pa na ca) (.slice ps ns cs) ((((wr.setCell ⟨H, 0, none⟩ (.slice pa na ca)).setCell ⟨H, 1, none⟩ (.slice none 0 0)).setCell ⟨H, 2, none⟩ (.slice ps ns cs)).setCell ⟨H, 3, none⟩ (.bool false)) := by
        clear k0 k1 k2 k3 b4
        refine ⟨?_, fun b hb => ?_, ?_, ?_⟩
        · simp only [zqi]; have := hR.size; omega
        · rw [zq3 _ _ _ _ (show b ≠ H by omega), zq3 _ _ _ _ (show b ≠ H by omega), zq3 _ _ _ _ (show b ≠ H by omega), zq3 _ _ _ _ (show b ≠ H by omega)]
          exact hR.old b hb
        · refine zqd (ownsRow_base hR.arow (by omega)) fun g hg => ?_
          have := (own_lt hR.arow hg).2.1
          rw [zq3 _ _ _ _ (show g ≠ H by omega), zq3 _ _ _ _ (show g ≠ H by omega), zq3 _ _ _ _ (show g ≠ H by omega), zq3 _ _ _ _ (show g ≠ H by omega)]
        · have hh := hR.srow
          rw [← HL.out, List.take_length, HL.out] at hh
          refine zqd (ownsRow_base hh (by omega)) fun g hg => ?_
          have := (own_lt hR.srow hg).2.1
          rw [zq3 _ _ _ _ (show g ≠ H by omega), zq3 _ _ _ _ (show g ≠ H by omega), zq3 _ _ _ _ (show g ≠ H by omega), zq3 _ _ _ _ (show g ≠ H by omega)]
       generalize ((((wr.setCell ⟨H, 0, none⟩ (.slice pa na ca)).setCell ⟨H, 1, none⟩ (.slice none 0 0)).setCell ⟨H, 2, none⟩ (.slice ps ns cs)).setCell ⟨H, 3, none⟩ (.bool false)) = w9 at *
       refine ⟨rfl, .agg #[.slice pa na ca, .slice none 0 0, .slice ps ns cs, .bool false], ?_, _, _, rfl, hfin⟩
       simp only [results, Try.f24]
       simp [go_sem, k0, k1, k2, k3]
end Go.Proofs
set_option maxHeartbeats 1000000
namespace Go.Car
open Go Go.Conc Go.RowKit
section
variable {P : Program} {main : Bool} {Kc : Addr → Option Value} {γ : Type} {J : γ → Goroutine → World → Prop} {A : FuncId → Bool}
theorem at_lone (hJ : JS P main Kc J) (hcalm : CalmJ P main J) (hP : Plain P A) {c : Code} (hc : okCode P A c = true) (C : Array Value → World → Prop)
 (hC : ∀ t w τ d, C t w → C t (re w τ d)) {b : Frame} {k : List Item} {cs : List Frame} (hb : b.kind ≠ .early) {s : γ} {a : Act} {w : World}
 (h : ∀ τ d, Code.wp P c (ends (fun a w => C a.tmps w) (fun _ _ => False)) ⟨a.tmps, []⟩ (re w τ d))
 (hq : ∀ t w', C t w' → J s (G (b.at ⟨t, a.defers⟩ k) cs) w') : J s (G (b.at a (.code c :: k)) cs) w := by
 refine wpJ_lone (Q := fun s' e a' w' => s' = s ∧ e = .normal ∧ a'.defers = a.defers ∧ C a'.tmps w') hJ hcalm hP hc (fun a w => C a.tmps w) (fun _ _ => False) (fun a w τ d h => hC _ _ _ _ h) (fun _ _ _ _ h => h) h (fun t w h => ⟨rfl, rfl, rfl, h⟩) (fun _ _ h => h.elim) b k cs hb ?_
 rintro s' e ⟨t, ds⟩ w' ⟨rfl, rfl, hd, h⟩
 simp only at hd
 subst hd
 exact hq t w' h
theorem at_calls_lone (hJ : JS P main Kc J) (hcalm : CalmJ P main J) (hP : Plain P A) {f : FuncId} {fn : Func} {c : Code} {args : Array Value} {s : γ} {w : World} (hf : P.funcs[f]? = some fn) (hb : fn.body = some c) (hc : okCode P A c = true)
 {R : Value → World → Prop} (hR : ∀ v w τ d, R v w → R v (re w τ d)) (h : ∀ τ d, Calls P f args (re w τ d) fun e w' => ∃ v, e = .returned v ∧ R v w') {cl : Frame} {cs : List Frame}
 (hq : ∀ v w', R v w' → J s (G (cl.finish v) cs) w') : J s (G (Frame.enter P f args .normal) (cl :: cs)) w := by
 refine callsJ_lone hJ hcalm hP hf hb hc hR (fun τ d => Calls.mono (h τ d) ?_) cl cs ?_ ?_
 · rintro e w' ⟨v, rfl, h⟩; exact h
 · rintro s' v w' ⟨rfl, h⟩; exact hq v w' h
 · rintro s' ch w' h; exact h.elim
theorem at_rest_lone (hJ : JS P main Kc J) (hcalm : CalmJ P main J) (hP : Plain P A) {c : Code} (hc : okCode P A c = true) (R : Value → World → Prop)
 (hR : ∀ v w τ d, R v w → R v (re w τ d)) {b : Frame} (hb : b.kind = .normal) {fn : Func} (hf : P.funcs[b.fn]? = some fn) {cl : Frame} {cs : List Frame} {s : γ} {t : Array Value} {w : World}
 (h : ∀ τ d, Code.wp P c (bodyPost P fn fun e w' => ∃ v, e = .returned v ∧ R v w') ⟨t, []⟩ (re w τ d))
 (hq : ∀ v w', R v w' → J s (G (cl.finish v) cs) w') : J s (G (b.at ⟨t, []⟩ [.code c]) (cl :: cs)) w := by
 let Φ : Act → World → Prop := fun a w => ∃ v, (results fn a.tmps).run P w = .ok v w ∧ R v w
 have hΦ : ∀ a w τ d, Φ a w → Φ a (re w τ d) := fun a w τ d ⟨v, h1, h2⟩ => ⟨v, results_re h1 τ d, hR _ _ _ _ h2⟩
 have hleave : ∀ (t : Array Value) (w : World) (todo : List Item), Φ ⟨t, []⟩ w → J s (G { b.at ⟨t, []⟩ todo with mode := .returning } (cl :: cs)) w := fun t w todo ⟨v, h1, h2⟩ =>
  leaveJ hJ hb rfl hf (fun τ d => results_re h1 τ d) (hq v w h2)
 refine wpJ_lone (Q := fun s' e a' w' => s' = s ∧ (e = .normal ∨ e = .ret) ∧ a'.defers = [] ∧ Φ a' w') hJ hcalm hP hc Φ Φ hΦ hΦ (fun τ d => ?_) (fun t w h => ⟨rfl, .inl rfl, rfl, h⟩) (fun t w h => ⟨rfl, .inr rfl, rfl, h⟩) b [] (cl :: cs) (by rw [hb]; decide) ?_
 · refine Code.wp_mono ?_ (h τ d)
   intro e a w hh
   cases e with
   | normal => obtain ⟨h1, v, h2, v', h3, h4⟩ := hh; cases h3; exact ⟨h1, v, h2, h4⟩
   | ret => obtain ⟨h1, v, h2, v', h3, h4⟩ := hh; cases h3; exact ⟨h1, v, h2, h4⟩
   | panic ch => obtain ⟨h1, v, h2, _⟩ := hh; cases h2
   | outgrown => obtain ⟨v, h2, _⟩ := hh; cases h2
   | _ => exact hh
 · rintro s' e ⟨t', ds⟩ w' ⟨rfl, he, hd, h⟩
   simp only at hd
   subst hd
   rcases he with rfl | rfl
   · exact hJ.ctl (fun w => stepG_end) (hleave t' w' [] h)
   · exact fun todo => hleave t' w' todo h
end
end Go.Car
set_option maxHeartbeats 1000000
set_option maxRecDepth 100000
namespace Go.Proofs
open Go Go.Conc Go.RowKit Go.Car
structure ProgsAt (w : World) (pp : Option Addr) (n N : Nat) (prog : Nat → List Cd) (PB : Nat → Prop) : Prop where
 at' : 0 < N → ∃ pb cur, pp = some ⟨pb, 0, none⟩ ∧ PB pb ∧ w.heap[pb]? = some (.cells cur 69) ∧ ∀ i, i < N → ∃ pv, cur[i]? = some pv ∧ ((pv = .slice none 0 0 ∧ prog i = []) ∨ ∃ g cap c2, pv = .slice (some ⟨g, 0, none⟩) (prog i).length cap ∧ PB g ∧ w.heap[g]? = some (.cells c2 74) ∧ c2.toList.take ((prog i).length * 5) = progL (prog i))
 le : N ≤ n
 lt : ∀ b, PB b → b < w.heap.size
def mch0 : Mch := { regs := fun _ => 0, told := [], next := 0, most := -1 }
def mm0 (ws : List Int) (room : Nat) : MM := ⟨ws, fun _ => mch0, fun _ => .slice none 0 0, fun _ => none, room, fun _ => false⟩
open Classical in
noncomputable def msOf (w w1 : World) (N W : Nat) (mb b1 b3 : Nat → Nat) (prog : Nat → List Cd) (PB : Nat → Prop) : MS where
 N := N
 W := W
 bw := w.heap.size + 2
 mb := mb
 ro := fun b => if PB b ∨ b = w.heap.size ∨ b = w.heap.size + 1 ∨ ∃ i, i < N ∧ (b = b1 i ∨ b = b3 i) then w1.heap[b]? else none
 base := w.heap.size
 prog := prog
section
variable {w w1 : World} {ws : List Int} {W N n Cp : Nat} {pp : Option Addr} {mb b1 b3 : Nat → Nat} {av fv : Value} {prog : Nat → List Cd} {PB : Nat → Prop}
theorem ro_yes {b : Nat} (h : PB b ∨ b = w.heap.size ∨ b = w.heap.size + 1 ∨ ∃ i, i < N ∧ (b = b1 i ∨ b = b3 i)) : (msOf w w1 N W mb b1 b3 prog PB).ro b = w1.heap[b]? := if_pos h
theorem ro_some {b : Nat} {o : Obj} (h : (msOf w w1 N W mb b1 b3 prog PB).ro b = some o) : (PB b ∨ b = w.heap.size ∨ b = w.heap.size + 1 ∨ ∃ i, i < N ∧ (b = b1 i ∨ b = b3 i)) ∧ w1.heap[b]? = some o := by
 unfold msOf at h
 simp only at h
 split at h
 · rename_i hh; exact ⟨hh, h⟩
 · cases h
theorem ro_no {b : Nat} (h : ¬ (PB b ∨ b = w.heap.size ∨ b = w.heap.size + 1 ∨ ∃ i, i < N ∧ (b = b1 i ∨ b = b3 i))) : (msOf w w1 N W mb b1 b3 prog PB).ro b = none := if_neg h
theorem rep0 (h : MRes w ws W N (.slice pp n Cp) (-1) mb b1 b3 av fv w1) (hl : ws.length = W) (hPB : ∀ b, PB b → b < w.heap.size) {room : Nat} (hroom : 4096 * (room + 1) ≤ 8589934592) : (msOf w w1 N W mb b1 b3 prog PB).Rep (mm0 ws room) w1 := by
 have hlo := h.lo
 have hinc := h.inc
 have lt : ∀ i j, i < j → j < N → mb i < mb j := fun i j hij hj => by
  have := hlo i (by omega); have := hlo j hj; have := hinc i j hij hj; omega
 refine ⟨⟨hl, h.wds, fun i hi => h.mac i hi, fun i hi => World.ownsRow_nil _ _ _ _, fun i b _ hb => (by cases hb), fun b o hb => (ro_some hb).2, fun i j hi hj e => ?_, ⟨ro_no ?_, fun i hi => ro_no ?_, fun i g _ hg => (by cases hg), fun i g _ hg => (by cases hg)⟩, fun i j g _ _ _ hg => (by cases hg), ?_, fun i j g _ _ _ hg => (by cases hg)⟩, fun i hi => ?_⟩
 · have e' : mb i = mb j := e
   rcases Nat.lt_trichotomy i j with h1 | h1 | h1
   · have := lt i j h1 hj; omega
   · exact h1
   · have := lt j i h1 hi; omega
 · show ¬ (PB (w.heap.size + 2) ∨ w.heap.size + 2 = w.heap.size ∨ w.heap.size + 2 = w.heap.size + 1 ∨ ∃ i, i < N ∧ (w.heap.size + 2 = b1 i ∨ w.heap.size + 2 = b3 i))
   rintro (e | e | e | ⟨i, hi, e | e⟩)
   · have := hPB _ e; omega
   · omega
   · omega
   · have := hlo i hi; omega
   · have := hlo i hi; omega
 · show ¬ (PB (mb i) ∨ mb i = w.heap.size ∨ mb i = w.heap.size + 1 ∨ ∃ j, j < N ∧ (mb i = b1 j ∨ mb i = b3 j))
   have hi' : i < N := hi
   have h0 := hlo i hi'
   rintro (e | e | e | ⟨j, hj, e | e⟩)
   · have := hPB _ e; omega
   · omega
   · omega
   · exact heap_ne (h.mac i hi') (h.bx1 j hj) (by decide) e
   · exact heap_ne (h.mac i hi') (h.bx3 j hj) (by decide) e
 · show w.heap.size ≤ w.heap.size + 2; omega
 · show ([] : List Int).length + 4096 * (room + if false = true then 0 else 1) ≤ _
   simpa using hroom
theorem foot0 (h : MRes w ws W N (.slice pp n Cp) (-1) mb b1 b3 av fv w1) {room b : Nat} (hb : (msOf w w1 N W mb b1 b3 prog PB).foot (mm0 ws room) b) : PB b ∨ (w.heap.size ≤ b ∧ (b ≤ w.heap.size + 2 ∨ ∃ i, i < N ∧ (b = mb i ∨ b = b1 i ∨ b = b3 i))) := by
 rcases hb with e | ⟨i, hi, e | e | e⟩ | ⟨o, e⟩
 · have e' : b = w.heap.size + 2 := e
   right; exact ⟨by omega, .inl (by omega)⟩
 · have e' : b = mb i := e
   have := h.lo i hi
   right; exact ⟨by omega, .inr ⟨i, hi, .inl e'⟩⟩
 · cases e
 · cases e
 · rcases (ro_some e).1 with e | e | e | ⟨i, hi, e⟩
   · exact .inl e
   · right; exact ⟨by omega, .inl (by omega)⟩
   · right; exact ⟨by omega, .inl (by omega)⟩
   · have := h.lo i hi
     right; exact ⟨by rcases e with e | e <;> omega, .inr ⟨i, hi, .inr e⟩⟩
theorem runs0 (h : MRes w ws W N (.slice pp n Cp) (-1) mb b1 b3 av fv w1) (hp : ProgsAt w pp n N prog PB) {room : Nat} (NE : List PanicEntry → Prop) {i : Nat} (hi : i < N) :
 Runs Try.prog (msOf w w1 N W mb b1 b3 prog PB).thr 74 96 NE (mm0 ws room) i (cloOf w.heap.size (b1 i) (b3 i)) := by
 obtain ⟨pb, cur, rfl, hpb, hcur, hall⟩ := hp.at' (by omega)
 obtain ⟨pv, hpv, hprog⟩ := hall i hi
 have old := h.old
 have hle := hp.le
 refine mach_runs (S := msOf w w1 N W mb b1 b3 prog PB) hi (most := -1) (pv := pv) ?_ ⟨b1 i, w.heap.size, b3 i, w.heap.size + 1, pb, n, Cp, cur, _, _, _, _, _, rfl, (ro_yes (.inr (.inr (.inr ⟨i, hi, .inl rfl⟩)))).trans (h.bx1 i hi), (ro_yes (.inr (.inl rfl))).trans h.prg, (ro_yes (.inr (.inr (.inr ⟨i, hi, .inr rfl⟩)))).trans (h.bx3 i hi), (ro_yes (.inr (.inr (.inl rfl)))).trans h.mst, (ro_yes (.inl hpb)).trans ((old pb (hp.lt pb hpb)).trans hcur), by omega, hpv⟩ rfl rfl rfl NE
 rcases hprog with h1 | ⟨g, cap, c2, h1, h2, h3, h4⟩
 · exact .inl h1
 · exact .inr ⟨g, cap, c2, h1, (ro_yes (.inl h2)).trans ((old g (hp.lt g h2)).trans h3), h4⟩
end
structure PlayRes (w : World) (N W : Nat) (P : PSt) (ans v st : Value) (tv : Nat → Value) (w' : World) : Prop where
 size : w.heap.size ≤ w'.heap.size
 old : ∀ b, b < w.heap.size → w'.heap[b]? = w.heap[b]?
 arow : w'.ownsRow w.heap.size 36 1 ans N ((List.range N).map tv)
 told : ∀ i, i < N → w'.ownsRow w.heap.size 38 3 (tv i) (P.mem.th i).told.length (toldL (P.mem.th i).told)
 orow : w'.ownsRow w.heap.size 3 1 v P.ord.length (P.ord.map fun (i : Nat) => .int .i64 i)
 srow : w'.ownsRow w.heap.size 2 1 st W (P.mem.ws.map (Value.int .i64))
 sep : ∀ i j g, i < N → j < N → i ≠ j → (tv i).ownBlock = some g → (tv j).ownBlock ≠ some g
 len : P.mem.ws.length = W
theorem play_pure {w w1 w2 w3 : World} {ws : List Int} {W N n Cp most room : Nat} {pp : Option Addr} {mb b1 b3 : Nat → Nat} {av fv : Value} {prog : Nat → List Cd} {PB : Nat → Prop} {sched : List Int} {b : OSt MM} {m' : MM} {v : Value} {g : Nat} {ans st : Value} (hl : ws.length = W)
 (h : MRes w ws W N (.slice pp n Cp) (-1) mb b1 b3 av fv w1) (hp : ProgsAt w pp n N prog PB) (ho : Over1 (msOf w w1 N W mb b1 b3 prog PB).thr N most sched (mm0 ws room) w1 b m' v g w2) (ht : TRes w2 N W m'.tv m'.ws ans st w3) :
 PlayRes w N W (playP prog N most sched ⟨ws, fun _ => mch0⟩) ans v st m'.tv w3 ∧ leftN b.ov N = leftN (playP prog N most sched ⟨ws, fun _ => mch0⟩).ov N := by
 obtain ⟨hsame, habs⟩ := ran_P (MS.machines (msOf w w1 N W mb b1 b3 prog PB)) ho.ran
 have e0 : (mm0 ws room).mem = ⟨ws, fun _ => mch0⟩ := rfl
 rw [e0] at hsame
 have hmem : m'.mem = (playP (msOf w w1 N W mb b1 b3 prog PB).prog N most sched ⟨ws, fun _ => mch0⟩).mem := habs.trans hsame.mem
 have hth : ∀ i, m'.th i = (playP prog N most sched ⟨ws, fun _ => mch0⟩).mem.th i := fun i => by have := congrArg (fun x => x.th i) hmem; exact this
 have hws : m'.ws = (playP prog N most sched ⟨ws, fun _ => mch0⟩).mem.ws := by have := congrArg (fun x => x.ws) hmem; exact this
 have hrep : (msOf w w1 N W mb b1 b3 prog PB).Rep m' w2 := ho.rep
 have hB := hrep.body
 have s1 := h.size
 have s2 : w1.heap.size ≤ w2.heap.size := ho.size
 refine ⟨⟨by have := ht.size; omega, fun x hx => ?_, ownsRow_base ht.arow (by omega), fun i hi => ?_, ?_, ?_, hB.sep, ?_⟩, ?_⟩
 · rw [ht.old x (by omega)]
   by_cases hf : (msOf w w1 N W mb b1 b3 prog PB).foot (mm0 ws room) x
   · rcases foot0 h hf with hx2 | ⟨hx2, _⟩
     · have hlt1 : x < w1.heap.size := by omega
       obtain ⟨o, hoo⟩ : ∃ o, w1.heap[x]? = some o := ⟨_, Array.getElem?_eq_getElem hlt1⟩
       have hro : (msOf w w1 N W mb b1 b3 prog PB).ro x = some o := (ro_yes (.inl hx2)).trans hoo
       rw [hB.ro x o hro, ← hoo]
       exact h.old x hx
     · omega
   · rw [ho.old x (by omega) hf]; exact h.old x hx
 · have := hB.told i hi
   rw [hth i] at this
   refine zqd this fun g' hg' => ?_
   exact ht.old g' (own_lt this hg').2.2
 · have := ho.row
   rw [hsame.ord] at this
   refine zqd (ownsRow_base this (by omega)) fun g' hg' => ?_
   exact ht.old g' (own_lt this hg').2.2
 · have := ht.srow
   rw [hws] at this
   exact ownsRow_base this (by omega)
 · rw [← hws]; exact hB.len
 · rw [hsame.ov]; rfl
theorem play_left {w w1 w2 : World} {ws : List Int} {W N most room : Nat} {mb b1 b3 : Nat → Nat} {prog : Nat → List Cd} {PB : Nat → Prop} {sched : List Int} {b : OSt MM} {m' : MM} {v : Value} {g : Nat}
 (ho : Over1 (msOf w w1 N W mb b1 b3 prog PB).thr N most sched (mm0 ws room) w1 b m' v g w2) : leftN b.ov N = leftN (playP prog N most sched ⟨ws, fun _ => mch0⟩).ov N := by
 obtain ⟨hsame, habs⟩ := ran_P (MS.machines (msOf w w1 N W mb b1 b3 prog PB)) ho.ran
 rw [hsame.ov]; rfl
set_option maxHeartbeats 4000000
set_option maxRecDepth 100000
noncomputable def playT (n : Nat) : Code := tailN n (Try.f9.body.getD .skip)
theorem play0 : Try.f9.body.getD .skip = .seq (headC (playT 0)) (.seq (headC (playT 1)) (.seq (headC (playT 2)) (playT 3))) := by kernel_rfl
theorem MRes.re {w w' : World} {ws : List Int} {W N : Nat} {pv : Value} {most : Int} {mb b1 b3 : Nat → Nat} {av fv : Value} (h : MRes w ws W N pv most mb b1 b3 av fv w') (τ : Nat → Question → Nat) (d : Nat) : MRes w ws W N pv most mb b1 b3 av fv (Go.Car.re w' τ d) :=
 ⟨h.size, h.old, h.prg, h.mst, h.wds, h.arow, h.frow, h.mac, h.bx1, h.bx3, h.lo, h.inc, h.ne1, h.lo1⟩
theorem MRes.of_re {w w' : World} {τ : Nat → Question → Nat} {d : Nat} {ws : List Int} {W N : Nat} {pv : Value} {most : Int} {mb b1 b3 : Nat → Nat} {av fv : Value} (h : MRes (Go.Car.re w τ d) ws W N pv most mb b1 b3 av fv w') : MRes w ws W N pv most mb b1 b3 av fv w' :=
 ⟨h.size, h.old, h.prg, h.mst, h.wds, h.arow, h.frow, h.mac, h.bx1, h.bx3, h.lo, h.inc, h.ne1, h.lo1⟩
theorem PlayRes.re {w w' : World} {N W : Nat} {P : PSt} {ans v st : Value} {tv : Nat → Value} (h : PlayRes w N W P ans v st tv w') (τ : Nat → Question → Nat) (d : Nat) : PlayRes w N W P ans v st tv (Go.Car.re w' τ d) :=
 ⟨h.size, h.old, h.arow, h.told, h.orow, h.srow, h.sep, h.len⟩
theorem TRes.of_re {w w' : World} {τ : Nat → Question → Nat} {d : Nat} {N W : Nat} {tv : Nat → Value} {ws : List Int} {ans st : Value} (h : TRes (Go.Car.re w τ d) N W tv ws ans st w') : TRes w N W tv ws ans st w' := ⟨h.size, h.old, h.arow, h.srow⟩
theorem PlayRes.ext {w w1 w' : World} {N W : Nat} {P : PSt} {ans v st : Value} {tv : Nat → Value} (h : PlayRes w N W P ans v st tv w1) {b : Nat} (hsz : w1.heap.size ≤ w'.heap.size) (hold : ∀ x, x < w1.heap.size → x ≠ b → w'.heap[x]? = w1.heap[x]?) (hb : w.heap.size ≤ b)
 (h1 : ans.ownBlock ≠ some b) (h2 : ∀ i, i < N → (tv i).ownBlock ≠ some b) (h3 : v.ownBlock ≠ some b) (h4 : st.ownBlock ≠ some b) : PlayRes w N W P ans v st tv w' := by
 have hs := h.size
 refine ⟨by omega, fun x hx => (hold x (by omega) (by omega)).trans (h.old x hx), zqd h.arow fun g hg => ?_, fun i hi => zqd (h.told i hi) fun g hg => ?_, zqd h.orow fun g hg => ?_, zqd h.srow fun g hg => ?_, h.sep, h.len⟩
 · exact hold g (own_lt h.arow hg).2.2 (fun e => h1 (e ▸ hg))
 · exact hold g (own_lt (h.told i hi) hg).2.2 (fun e => h2 i hi (e ▸ hg))
 · exact hold g (own_lt h.orow hg).2.2 (fun e => h3 (e ▸ hg))
 · exact hold g (own_lt h.srow hg).2.2 (fun e => h4 (e ▸ hg))
theorem PlayRes.base {w w0 w' : World} {N W : Nat} {P : PSt} {ans v st : Value} {tv : Nat → Value} (h : PlayRes w N W P ans v st tv w') (hs : w0.heap.size ≤ w.heap.size) (ho : ∀ b, b < w0.heap.size → w.heap[b]? = w0.heap[b]?) : PlayRes w0 N W P ans v st tv w' :=
 ⟨Nat.le_trans hs h.size, fun b hb => (h.old b (by omega)).trans (ho b hb), ownsRow_base h.arow hs, fun i hi => ownsRow_base (h.told i hi) hs, ownsRow_base h.orow hs, ownsRow_base h.srow hs, h.sep, h.len⟩
theorem row_form {w : World} {B N : Nat} {T : TypeId} {v : Value} {xs : List Value} (h : w.ownsRow B T 1 v N xs) : ∃ p C, v = .slice p N C ∧ (v.ownBlock = p.map (·.block)) ∧ (0 < N → ∃ g, p = some ⟨g, 0, none⟩ ∧ v.ownBlock = some g ∧ ∀ i x, xs[i]? = some x → w.cell? ⟨g, i, none⟩ = some x) := by
 rcases h.2 with ⟨hv, h0⟩ | ⟨g, cap, cur, hv, hb, hh, h1, h2, h3, h4⟩
 · subst h0; exact ⟨none, 0, hv, by rw [hv]; rfl, fun h => absurd h (Nat.lt_irrefl _)⟩
 · refine ⟨_, cap, hv, by rw [hv]; rfl, fun _ => ⟨g, rfl, by rw [hv]; rfl, fun i x hx => ?_⟩⟩
   rw [zq0 (off := i) hh]
   have hi : i < xs.length := (List.getElem?_eq_some_iff.1 hx).1
   have hl := h.1
   rw [← h4, List.getElem?_take] at hx
   split at hx
   · simpa using hx
   · cases hx
theorem play_calls {Fin : Machine → Trace → Prop} (hFin : Back Try.prog Fin) {n : Nat} (hn : 0 < n) {wp pp sp : Option Addr} {W C np Cp Cs : Nat} {ws sched : List Int} {prog : Nat → List Cd} {PB : Nat → Prop} {mo : Int} {w : World} {c : Frame} {cs : List Frame}
 (hl : ws.length = W) (hW : W ≤ 1099511627776) (hnp : np ≤ 4611686018427387904) (hsl : sched.length ≤ 4611686018427387904) (hws : 0 < W → ∃ wb wo, wp = some ⟨wb, wo, none⟩ ∧ ∀ i, i < W → w.cell? ⟨wb, wo + i, none⟩ = some (.int .i64 (ws.getD i 0)))
 {N : Nat} (hN : N = min np 64) (hp : ProgsAt w pp np N prog PB) (hs : sched ≠ [] → ∃ sb off, sp = some ⟨sb, off, none⟩ ∧ ¬ PB sb ∧ ∀ j x, sched[j]? = some x → w.cell? ⟨sb, off + j, none⟩ = some (.int .i64 x))
 (hmain : ∀ ans v st tv w', PlayRes w N W (playP prog N (min mo.toNat 1048576) sched ⟨ws, fun _ => mch0⟩) ans v st tv w' → J0 Try.prog Fin (n + N) (G (c.finish (.agg #[ans, v, st, .bool (decide (0 < leftN (playP prog N (min mo.toNat 1048576) sched ⟨ws, fun _ => mch0⟩).ov N))])) cs) w') :
 J0 Try.prog Fin n (G (Frame.enter Try.prog 9 #[.slice wp W C, .slice pp np Cp, .slice sp sched.length Cs, .int .i64 mo] .normal) (c :: cs)) w := by
 have hJ := j0_JS hFin
 have hC := j0_calm hFin
 have e : Frame.enter Try.prog 9 #[.slice wp W C, .slice pp np Cp, .slice sp sched.length Cs, .int .i64 mo] .normal = (bN 9).at (enterAct Try.f9 #[.slice wp W C, .slice pp np Cp, .slice sp sched.length Cs, .int .i64 mo]) [.code ((Try.f9.body).getD .skip)] := by kernel_rfl
 have ea : enterAct Try.f9 #[.slice wp W C, .slice pp np Cp, .slice sp sched.length Cs, .int .i64 mo] = ⟨#[.slice wp W C, .slice pp np Cp, .slice sp sched.length Cs, .int .i64 mo, undef, undef, undef, undef, undef, undef, undef, undef, undef, undef, undef, undef, undef, undef, undef, undef, undef, undef, undef, undef, undef, undef, undef, undef, undef, undef, undef, undef, undef, undef, undef, undef, undef, undef, undef], []⟩ := by kernel_rfl
 rw [e, ea, play0]
 clear e ea
 have hm := Lib.hid hmain
 clear hmain
 obtain ⟨H, hH⟩ : ∃ H, w.heap.size = H := ⟨_, rfl⟩
 refine hJ.ctl (s := n) (fun w => stepG_seq) ?_
 refine at_lone hJ hC plainM (by kernel_rfl) (fun t w' => t = #[.slice wp W C, .slice pp np Cp, .slice sp sched.length Cs, .int .i64 mo, undef, undef, undef, undef, .pointer (some ⟨H, 0, none⟩), undef, undef, undef, undef, undef, undef, undef, undef, undef, undef, undef, undef, undef, undef, undef, undef, undef, undef, undef, undef, undef, undef, undef, undef, undef, undef, undef, undef, undef, undef] ∧ ∃ τ d, w' = re (w.alloc (.cells #[.slice none 0 0, .slice none 0 0, .slice none 0 0, .bool false] 28)) τ d) (fun t w' τ d h => ⟨h.1, by obtain ⟨τ', d', rfl⟩ := h.2; exact ⟨τ, d, by rw [re_re]⟩⟩) (by decide) (fun τ d => ?_) ?_
 · obtain ⟨u0, hu0⟩ : ∃ c, headC (playT 0) = c := ⟨_, rfl⟩
   have eu0 := hu0
   rw [hu0]
   simp only [playT, headC, tailN, Try.f9, al_od] at eu0
   subst eu0
   clear hu0
   go_wp2
   exact ⟨rfl, rfl, τ, d, rfl⟩
 rintro t w' ⟨rfl, τ, d, rfl⟩
 refine hJ.re' n _ _ τ d ?_
 have hwa : (w.alloc (.cells #[.slice none 0 0, .slice none 0 0, .slice none 0 0, .bool false] 28)).heap.size = H + 1 := by rw [zq6, hH]
 have hob : ∀ b, b < H → (w.alloc (.cells #[.slice none 0 0, .slice none 0 0, .slice none 0 0, .bool false] 28)).heap[b]? = w.heap[b]? := fun b hb => by rw [zqa, if_neg (by omega)]
 have hzb : (w.alloc (.cells #[.slice none 0 0, .slice none 0 0, .slice none 0 0, .bool false] 28)).heap[H]? = some (.cells #[.slice none 0 0, .slice none 0 0, .slice none 0 0, .bool false] 28) := hH ▸ al_new w _
 obtain ⟨wa, hwae⟩ : ∃ wa, w.alloc (.cells #[.slice none 0 0, .slice none 0 0, .slice none 0 0, .bool false] 28) = wa := ⟨_, rfl⟩
 rw [hwae] at hwa hob hzb ⊢
 clear hwae
 have hws2 : 0 < W → ∃ wb wo, wp = some ⟨wb, wo, none⟩ ∧ ∀ i, i < W → wa.cell? ⟨wb, wo + i, none⟩ = some (.int .i64 (ws.getD i 0)) := fun h0 => by
  obtain ⟨wb, wo, e, h⟩ := hws h0
  exact ⟨wb, wo, e, fun i hi => (zqf (hob wb (by rw [← hH]; exact cell_lt (h i hi)))).trans (h i hi)⟩
 have hp2 : ProgsAt wa pp np N prog PB := by
  refine ⟨fun h0 => ?_, hp.le, fun b hb => by have := hp.lt b hb; omega⟩
  obtain ⟨pb, cur, e, h1, h2, h3⟩ := hp.at' h0
  refine ⟨pb, cur, e, h1, (hob pb (by rw [← hH]; exact hp.lt pb h1)).trans h2, fun i hi => ?_⟩
  obtain ⟨pv, h4, h5⟩ := h3 i hi
  refine ⟨pv, h4, ?_⟩
  rcases h5 with h5 | ⟨g, cap, c2, h5, h6, h7, h8⟩
  · exact .inl h5
  · exact .inr ⟨g, cap, c2, h5, h6, (hob g (by rw [← hH]; exact hp.lt g h6)).trans h7, h8⟩
 have hs2 : sched ≠ [] → ∃ sb off, sp = some ⟨sb, off, none⟩ ∧ ¬ PB sb ∧ sb < H ∧ ∀ j x, sched[j]? = some x → wa.cell? ⟨sb, off + j, none⟩ = some (.int .i64 x) := fun h0 => by
  obtain ⟨sb, off, e, h1, h2⟩ := hs h0
  obtain ⟨x, l, hsl⟩ := List.exists_cons_of_ne_nil h0
  have hlt : sb < H := by rw [← hH]; exact cell_lt (h2 0 x (by rw [hsl]; rfl))
  exact ⟨sb, off, e, h1, hlt, fun j x hj => (zqf (hob sb hlt)).trans (h2 j x hj)⟩
 have hPBw : ∀ b, PB b → b < H := fun b hb => by rw [← hH]; exact hp.lt b hb
 clear hp hs hws
 refine hJ.ctl (s := n) (fun w => stepG_seq) ?_
 refine at_lone hJ hC plainM (by kernel_rfl) (fun t w' => ∃ mb b1 b3 av fv, t = #[.slice wp W C, .slice pp np Cp, .slice sp sched.length Cs, .int .i64 mo, undef, undef, undef, undef, .pointer (some ⟨H, 0, none⟩), .slice (some ⟨H + 1 + 2, 0, none⟩) W W, av, fv, undef, undef, undef, undef, .tuple #[.slice (some ⟨H + 1 + 2, 0, none⟩) W W, av, fv], .slice wp W C, .slice pp np Cp, .tuple #[.slice (some ⟨H + 1 + 2, 0, none⟩) W W, av, fv], .slice (some ⟨H + 1 + 2, 0, none⟩) W W, av, fv, undef, undef, undef, undef, undef, undef, undef, undef, undef, undef, undef, undef, undef, undef, undef, undef] ∧ MRes wa ws W N (.slice pp np Cp) (-1) mb b1 b3 av fv w') (fun t w' τ d h => ?_) (by decide) (fun τ d => ?_) ?_
 · obtain ⟨mb, b1, b3, av, fv, h1, h2⟩ := h
   exact ⟨mb, b1, b3, av, fv, h1, h2.re τ d⟩
 · obtain ⟨u0, hu0⟩ : ∃ c, headC (playT 1) = c := ⟨_, rfl⟩
   have eu0 := hu0
   rw [hu0]
   simp only [playT, headC, tailN, Try.f9, al_od] at eu0
   subst eu0
   clear hu0
   have HM := Lib.hid (machines_lone (pp := pp) (n := np) (Cp := Cp) (C := C) (-1) (re wa τ d) hl hW hnp hws2)
   have HH := Lib.hid (And.intro hH (And.intro hwa hN))
   clear hws2 hp2 hs2 hob hzb hwa hH hN hl hW hnp hPBw
   go_wp2_with (fail)
   refine Calls.mono HM.out ?_
   rintro e w' ⟨mb, b1, b3, av, fv, rfl, hR⟩
   have hR2 := Lib.hid hR.of_re
   clear hR
   rw [show (re wa τ d).heap.size = H + 1 from HH.out.2.1]
   go_wp2
   refine ⟨rfl, mb, b1, b3, av, fv, rfl, ?_⟩
   rw [HH.out.2.2]
   exact hR2.out
 rintro t w1 ⟨mb, b1, b3, av, fv, rfl, hR⟩
 obtain ⟨ap, Ca, rfl, hao, hap⟩ := row_form hR.arow
 obtain ⟨fp, Cf, rfl, hfo, hfp⟩ := row_form hR.frow
 have hN64 : N ≤ 64 := by omega
 refine hJ.ctl (s := n) (fun w => stepG_seq) ?_
 have hroom : 4096 * (min mo.toNat 1048576 + 100 + 1) ≤ 8589934592 := by omega
 have hrep := rep0 (prog := prog) (PB := PB) (room := min mo.toNat 1048576 + 100) hR hl (fun b hb => by have := hPBw b hb; omega) hroom
 obtain ⟨u0, hu0⟩ : ∃ c, headC (playT 2) = c := ⟨_, rfl⟩
 have eu0 := hu0
 rw [hu0]
 simp only [playT, headC, tailN, Try.f9, al_od] at eu0
 subst eu0
 clear hu0
 refine hJ.ctl (s := n) (fun w => stepG_region) ?_
 have HR := Lib.hid hR
 have HP := Lib.hid hrep
 have HX := Lib.hid (And.intro hp2 (And.intro hs2 (And.intro hws2 (And.intro hob (And.intro hzb (And.intro hwa hPBw))))))
 have HA := Lib.hid (And.intro hao (And.intro hap (And.intro hfo hfp)))
 clear hR hrep hp2 hs2 hws2 hob hzb hwa hao hap hfo hfp hPBw
 refine at_piece (s := n) (by decide) hJ (rows0_none _) true (.inl rfl) 0 3 8 rfl rfl rfl (by rfl) ?_
 intro τ d
 simp only [List.drop_zero, List.take_succ_cons, List.take_zero]
 go_wp2
 simp only [contAt]
 refine hJ.re' n _ _ τ d ?_
 refine at_call (by decide) hJ (s := n) rfl rfl (f := 14) (args := #[.slice fp N Cf, .slice sp sched.length Cs, .int .i64 mo]) (fun τ d => ?_) (fun τ d => ?_) ?_
 · simp [go_sem, execOp, Act.eval, resolve, Deferred.ofValue, invoke, callFunc, Try.func14, Try.f14]
 · intro e he
   simp [go_sem, execOp, Act.eval, resolve, Deferred.ofValue, invoke, callFunc, Try.func14, Try.f14, Sem.runT_eq] at he
 obtain ⟨hp2, hs2, hws2, hob, hzb, hwa, hPBw⟩ := HX.out
 obtain ⟨hao, hap, hfo, hfp⟩ := HA.out
 refine over_calls hFin (T := (msOf wa w1 N W mb b1 b3 prog PB).thr) (m₀ := mm0 ws (min mo.toNat 1048576 + 100)) (N := N) (most := min mo.toNat 1048576) (tv := fun i => cloOf wa.heap.size (b1 i) (b3 i)) (sched := sched) hn (by omega) rfl HP.out (Nat.le_refl _) ?_ (fun i hi => runs0 HR.out hp2 NEnd hi) ?_ ?_
 · intro h0
   obtain ⟨g, e, hg, hc⟩ := hfp h0
   refine ⟨g, e, fun hf => ?_, fun i hi => hc i _ (by simp [cloL, hi])⟩
   obtain ⟨⟨cc, hcc⟩, hlo, hlt⟩ := own_lt HR.out.frow hg
   rcases foot0 HR.out hf with h1 | ⟨_, h1 | ⟨i, hi, h1 | h1 | h1⟩⟩
   · have := hPBw g h1; omega
   · have h3 := HR.out.lo1 g (.inr hg); omega
   · exact heap_ne hcc (HR.out.mac i hi) (by decide) h1
   · exact heap_ne hcc (HR.out.bx1 i hi) (by decide) h1
   · exact heap_ne hcc (HR.out.bx3 i hi) (by decide) h1
 · refine ⟨hsl, sp, Cs, rfl, fun h0 => ?_⟩
   obtain ⟨sb, off, e, h1, h2, h3⟩ := hs2 h0
   refine ⟨sb, off, e, by have := HR.out.size; omega, fun hf => ?_, fun j x hj => (zqf (HR.out.old sb (by omega))).trans (h3 j x hj)⟩
   rcases foot0 HR.out hf with h4 | ⟨h4, _⟩
   · exact h1 h4
   · omega
 intro b m' v g capg w2 ho
 rw [Frame.finish_at]
 walk_nrm
 obtain ⟨pv', nv', cv', rfl⟩ := own_slice ho.row
 have HO := Lib.hid ho
 clear ho
 obtain ⟨stuck, hstuck⟩ : ∃ x, decide (0 < leftN b.ov N) = x := ⟨_, rfl⟩
 rw [hstuck]
 refine at_piece (s := n + N) (by decide) hJ (rows0_none _) true (.inl rfl) 4 7 0 rfl rfl rfl (by rfl) ?_
 intro τ d
 simp only [List.drop_succ_cons, List.drop_zero, List.take_succ_cons, List.take_zero]
 go_wp2
 simp only [contAt]
 refine hJ.re' (n + N) _ _ τ d ?_
 refine hJ.ctl (s := n + N) (fun w => stepG_region_end) ?_
 refine at_rest_lone hJ hC plainM (by kernel_rfl) (fun v w' => ∃ ans st tv, v = .agg #[ans, .slice pv' nv' cv', st, .bool stuck] ∧ PlayRes w N W (playP prog N (min mo.toNat 1048576) sched ⟨ws, fun _ => mch0⟩) ans (.slice pv' nv' cv') st tv w') (fun v w' τ d ⟨ans, st, tv, h1, h2⟩ => ⟨ans, st, tv, h1, h2.re τ d⟩) rfl Try.func9 (fun τ d => ?_) ?_
 · obtain ⟨u0, hu0⟩ : ∃ c, playT 3 = c := ⟨_, rfl⟩
   have eu0 := hu0
   rw [hu0]
   simp only [playT, headC, tailN, Try.f9, al_od] at eu0
   subst eu0
   clear hu0
   have hrep2 : (msOf wa w1 N W mb b1 b3 prog PB).Rep m' w2 := HO.out.rep
   have hB2 := hrep2.body
   have hbwe : (⟨wa.heap.size + 2, 0, none⟩ : Addr) = ⟨H + 1 + 2, 0, none⟩ := by rw [hwa]
   have HT : RowKit.Hid (Calls Try.prog 24 #[.slice (some ⟨H + 1 + 2, 0, none⟩) W W, .slice ap N Ca] (re w2 τ d) fun e w' => ∃ ans st, e = .returned (.agg #[ans, .slice none 0 0, st, .bool false]) ∧ TRes (re w2 τ d) N W m'.tv m'.ws ans st w') := by
    rw [← hbwe]
    exact (trace_lone (p := ap) (Ca := Ca) (mb := mb) (N := N) (re w2 τ d) hB2.len hW hN64 hB2.words (fun h0 => by
     obtain ⟨g', e, hg, hc⟩ := hap h0
     refine ⟨g', e, fun i hi => ?_⟩
     have h1 := hc i _ (by simp [ptrL, hi] : (ptrL mb N)[i]? = some (.pointer (some ⟨mb i, 0, none⟩)))
     refine (zqf (HO.out.old g' (cell_lt h1) fun hf => ?_)).trans h1
     obtain ⟨⟨cc, hcc⟩, hlo, hlt⟩ := own_lt HR.out.arow hg
     rcases foot0 HR.out hf with h2 | ⟨_, h2 | ⟨j, hj, h2 | h2 | h2⟩⟩
     · have := hPBw g' h2; omega
     · have h3 := HR.out.lo1 g' (.inl hg); omega
     · exact heap_ne hcc (HR.out.mac j hj) (by decide) h2
     · exact HR.out.ne1 j hj (h2 ▸ hg)
     · exact heap_ne hcc (HR.out.bx3 j hj) (by decide) h2) (fun i hi => (hB2.machB hi).ct) (fun i hi => own_slice (hB2.told i hi)))
   have HPP := Lib.hid (fun (ans st : Value) (w3 : World) (ht : TRes w2 N W m'.tv m'.ws ans st w3) => play_pure hl HR.out hp2 HO.out ht)
   have HZ := Lib.hid (And.intro hzb (And.intro hwa (And.intro hH hob)))
   clear hrep2 hB2 hp2 hs2 hws2 hob hzb hwa hPBw hao hap hfo hfp HX HA HP hH hN hl hW hnp
   clear hbwe
   go_wp2_with (fail)
   refine Calls.mono HT.out ?_
   rintro e w3 ⟨ans, st, rfl, hT⟩
   obtain ⟨pa, na, ca, rfl⟩ := own_slice hT.arow
   obtain ⟨ps, ns, cs', rfl⟩ := own_slice hT.srow
   have hPR := (HPP.out _ _ _ hT.of_re).1
   have b0 : w3.heap[H]? = some (.cells #[.slice none 0 0, .slice none 0 0, .slice none 0 0, .bool false] 28) := (hPR.old H (by rw [HZ.out.2.1]; omega)).trans HZ.out.1
   have hHlt : H < w3.heap.size := zq4 b0
   have HPR := Lib.hid hPR
   have HT2 := Lib.hid hT
   clear hT hPR
   have r0 := (zq0 (off := 0) b0).trans rfl
   have r1 := (zq0 (off := 1) b0).trans rfl
   have r2 := (zq0 (off := 2) b0).trans rfl
   have r3 := (zq0 (off := 3) b0).trans rfl
   have z0 := zqg (off := 0) b0
   have z1 := zqg (off := 1) b0
   have z2 := zqg (off := 2) b0
   have z3 := zqg (off := 3) b0
   have hne : ¬ (H = w3.heap.size) := by omega
   have hne2 : ¬ (w3.heap.size = H) := by omega
   have B0 := Lib.hid b0
   clear b0
   go_wp2
   clear r0 r1 r2 r3 z0 z1 z2 z3 hne hne2
   have b1' := zqh w3 H 0 (.slice pa na ca) B0.out
   have b2' := zqh _ H 1 (.slice pv' nv' cv') b1'
   have b3' := zqh _ H 2 (.slice ps ns cs') b2'
   have b4' := zqh _ H 3 (.bool stuck) b3'
   have hext : ∀ x, x < w3.heap.size → x ≠ H → ((((w3.setCell ⟨H, 0, none⟩ (.slice pa na ca)).setCell ⟨H, 1, none⟩ (.slice pv' nv' cv')).setCell ⟨H, 2, none⟩ (.slice ps ns cs')).setCell ⟨H, 3, none⟩ (.bool stuck)).heap[x]? = w3.heap[x]? := fun x _ hx => by
    rw [zq3 _ _ _ _ hx, zq3 _ _ _ _ hx, zq3 _ _ _ _ hx, zq3 _ _ _ _ hx]
   have hsz8 : ((((w3.setCell ⟨H, 0, none⟩ (.slice pa na ca)).setCell ⟨H, 1, none⟩ (.slice pv' nv' cv')).setCell ⟨H, 2, none⟩ (.slice ps ns cs')).setCell ⟨H, 3, none⟩ (.bool stuck)).heap.size = w3.heap.size := by simp only [zqi]
   generalize ((((w3.setCell ⟨H, 0, none⟩ (.slice pa na ca)).setCell ⟨H, 1, none⟩ (.slice pv' nv' cv')).setCell ⟨H, 2, none⟩ (.slice ps ns cs')).setCell ⟨H, 3, none⟩ (.bool stuck)) = w8 at b4' hext hsz8 ⊢
   clear b1' b2' b3'
   have b9 := al_old (o := .cells #[.slice pa na ca, .slice pv' nv' cv', .slice ps ns cs', .bool stuck] 28) b4'
   have k0 := (zq0 (off := 0) b9).trans rfl
   have k1 := (zq0 (off := 1) b9).trans rfl
   have k2 := (zq0 (off := 2) b9).trans rfl
   have k3 := (zq0 (off := 3) b9).trans rfl
   have hPR := HPR.out
   have hlo : ∀ {T : TypeId} {k n : Nat} {v : Value} {xs : List Value}, w3.ownsRow wa.heap.size T k v n xs → v.ownBlock ≠ some H := fun h e => by
    have h1 := (own_lt h e).2.1; have h2 := HZ.out.2.1; omega
   have hbase : PlayRes w N W (playP prog N (min mo.toNat 1048576) sched ⟨ws, fun _ => mch0⟩) (.slice pa na ca) (.slice pv' nv' cv') (.slice ps ns cs') m'.tv w3 := hPR.base (by have := HZ.out.2.1; have := HZ.out.2.2.1; omega) (fun x hx => HZ.out.2.2.2 x (by have := HZ.out.2.2.1; omega))
   have hfin := hbase.ext (w' := w8.alloc (.cells #[.slice pa na ca, .slice pv' nv' cv', .slice ps ns cs', .bool stuck] 28)) (b := H) (by rw [zq6]; omega) (fun x hx hxH => by rw [zqa, if_neg (by omega)]; exact hext x hx hxH) (by have := HZ.out.2.2.1; omega) (hlo hPR.arow) (fun i hi => hlo (hPR.told i hi)) (hlo hPR.orow) (hlo hPR.srow)
   refine ⟨rfl, .agg #[.slice pa na ca, .slice pv' nv' cv', .slice ps ns cs', .bool stuck], ?_, _, rfl, _, _, _, rfl, hfin⟩
   simp only [results, Try.f9]
   simp [go_sem, k0, k1, k2, k3]
 · rintro v w' ⟨ans, st, tv, rfl, h⟩
   have h2 := hm.out ans _ st tv w' h
   rw [← hstuck, play_left HO.out]
   exact h2
end Go.Proofs
