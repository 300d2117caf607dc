/- YtdncabjenacolaaTAlone9: part 11 of the proof (the texts behind it, in order). -/
import Derived.Test.YtdncabjenacolaaP10
set_option linter.unusedSimpArgs false
set_option linter.unusedVariables false
set_option linter.unusedSectionVars false
set_option linter.unnecessarySimpa false
set_option maxHeartbeats 1000000
set_option maxRecDepth 100000
namespace Go.Proofs
open Go Go.Conc Go.RowKit Go.Car
theorem meth_step (n : Nat) (st : Nat) (w : World) : (Go.method (n + 1) 96 (.pointer (some ⟨st, 0, none⟩)) "Step").run Try.prog w = .ok (74, .pointer (some ⟨st, 0, none⟩)) w := by kernel_rfl
theorem meth_events (n : Nat) (st : Nat) (w : World) (es : Array Event) : (Go.method (n + 1) 96 (.pointer (some ⟨st, 0, none⟩)) "Step").events Try.prog w es = es := by kernel_rfl
theorem stepper_enter (st : Nat) (o : Oper) (a : Act) (ho : o.op = .call { callee := .invoke (.tmp 60) "Step", args := #[], argTypes := #[] }) (ha : a.eval (.tmp 60) = .iface 96 (.pointer (some ⟨st, 0, none⟩))) (w : World) : (execOp a.eval o).run Try.prog w = .ok (.enter 74 #[.pointer (some ⟨st, 0, none⟩)]) w := by
 unfold execOp
 simp only [ho, resolve, ha]
 simp [go_sem, invoke, callFunc, meth_step, Try.func74, Try.f74]
theorem stepper_events (st : Nat) (o : Oper) (a : Act) (ho : o.op = .call { callee := .invoke (.tmp 60) "Step", args := #[], argTypes := #[] }) (ha : a.eval (.tmp 60) = .iface 96 (.pointer (some ⟨st, 0, none⟩))) (w : World) : ((execOp a.eval o).runT Try.prog w #[]).2 = #[] := by
 unfold execOp
 simp only [ho, resolve, ha]
 simp [go_sem, invoke, callFunc, meth_step, Try.func74, Try.f74, Sem.runT_eq, meth_events]
def progL (l : List Cd) : List Value := l.flatMap cdL
def ProgV (S : MS) (i : Nat) (pv : Value) : Prop :=
 (pv = .slice none 0 0 ∧ S.prog i = []) ∨ ∃ g cap cur, pv = .slice (some ⟨g, 0, none⟩) (S.prog i).length cap ∧ S.ro g = some (.cells cur 74) ∧ cur.toList.take ((S.prog i).length * 5) = progL (S.prog i)
theorem progL_get : ∀ (l : List Cd) (k : Nat) (c : Cd), l[k]? = some c → ∀ j, j < 5 → (progL l)[k * 5 + j]? = (cdL c)[j]?
 | [], _, _, h, _, _ => by cases h
 | a :: l, 0, c, h, j, hj => by
  simp only [al_g0, al_oi] at h
  subst h
  show (cdL a ++ progL l)[0 * 5 + j]? = _
  rw [List.getElem?_append_left (by show _ < 5; omega)]
  congr 1; omega
 | a :: l, k + 1, c, h, j, hj => by
  show (cdL a ++ progL l)[(k + 1) * 5 + j]? = _
  rw [List.getElem?_append_right (by show 5 ≤ _; omega)]
  have := progL_get l k c (by simpa using h) j hj
  rw [← this]
  congr 1
  show (k + 1) * 5 + j - 5 = _
  omega
theorem ProgV.code {S : MS} {i : Nat} {pv : Value} (h : ProgV S i pv) {m : MM} {w : World} (hB : S.Body m w) {k : Nat} {c : Cd} (hc : (S.prog i)[k]? = some c) :
 ∃ g cap, pv = .slice (some ⟨g, 0, none⟩) (S.prog i).length cap ∧ ∀ j, j < 5 → w.cell? ⟨g, k * 5 + j, none⟩ = (cdL c)[j]? := by
 have hk : k < (S.prog i).length := (List.getElem?_eq_some_iff.1 hc).1
 rcases h with ⟨_, h⟩ | ⟨g, cap, cur, h1, h2, h3⟩
 · rw [h] at hc; cases hc
 · refine ⟨g, cap, h1, fun j hj => ?_⟩
   have := hB.ro g _ h2
   rw [zq1 (off := k * 5 + j) this, ← progL_get _ k c hc j hj, ← h3, List.getElem?_take, if_pos (by omega)]
   simp
theorem ProgV.slice {S : MS} {i : Nat} {pv : Value} (h : ProgV S i pv) : ∃ p C, pv = .slice p (S.prog i).length C := by
 rcases h with ⟨h1, h2⟩ | ⟨g, cap, cur, h1, _⟩
 · exact ⟨none, 0, by rw [h1, h2]; rfl⟩
 · exact ⟨_, _, h1⟩
theorem ownC_most (c : Cd) (m : Mch) : (ownC c m).most = m.most := by
 unfold ownC Mch.on Mch.set; repeat' split
 all_goals rfl
theorem stepC_most (c : Cd) (ws : List Int) (m : Mch) : (stepC c ws m).2.most = m.most := by
 unfold stepC Mch.on Mch.set; repeat' split
 all_goals rfl
theorem isStep_iff {W : Nat} {c : Cd} : isStep W c = true ↔ 7 ≤ c.d ∧ c.d ≤ 11 ∧ 0 ≤ c.a ∧ c.a < W := by
 unfold isStep; simp only [Bool.and_eq_true, decide_eq_true_eq, and_assoc]
theorem atC_some {l : List Cd} {x : Mch} {c : Cd} (h : atC l x = some c) : 0 ≤ x.next ∧ x.next < l.length ∧ l[x.next.toNat]? = some c := by
 unfold atC at h
 split at h
 · rename_i hn; exact ⟨hn.1, hn.2, h⟩
 · cases h
theorem atC_none {l : List Cd} {x : Mch} (h : atC l x = none) : x.next < 0 ∨ (0 ≤ x.next ∧ ¬ x.next < l.length) := by
 unfold atC at h
 split at h
 · rename_i hn
   rw [List.getElem?_eq_none_iff] at h
   omega
 · omega
theorem goOn_none {l : List Cd} {W k : Nat} {x : Mch} (h : atC l x = none) : goOn l W k x = (x, false) := by
 cases k <;> simp [goOn, h]
theorem goOn_step {l : List Cd} {W k : Nat} {x : Mch} {c : Cd} (h : atC l x = some c) (hs : isStep W c = true) : goOn l W k x = stopC x := by
 cases k <;> simp [goOn, h, hs]
structure MRel (i : Nat) (m m' : MM) : Prop where
 ws : m'.ws = m.ws
 th : ∀ j, j ≠ i → m'.th j = m.th j
 tv : ∀ j, j ≠ i → m'.tv j = m.tv j
 cb : ∀ j, j ≠ i → m'.cb j = m.cb j
 room : m'.room = m.room
 begun : m'.begun = m.begun
theorem MRel.refl (i : Nat) (m : MM) : MRel i m m := ⟨rfl, fun _ _ => rfl, fun _ _ => rfl, fun _ _ => rfl, rfl, rfl⟩
theorem MRel.put (i : Nat) (m : MM) (x : Mch) (v : Value) (c : Option Nat) : MRel i m (m.put i m.ws x v c) := ⟨rfl, fun j hj => by simp [MM.put, hj], fun j hj => by simp [MM.put, hj], fun j hj => by simp [MM.put, hj], rfl, rfl⟩
theorem MRel.trans {i : Nat} {m m' m'' : MM} (h : MRel i m m') (k : MRel i m' m'') : MRel i m m'' := ⟨k.ws.trans h.ws, fun j hj => (k.th j hj).trans (h.th j hj), fun j hj => (k.tv j hj).trans (h.tv j hj), fun j hj => (k.cb j hj).trans (h.cb j hj), k.room.trans h.room, k.begun.trans h.begun⟩
def sxOf (st : Nat) : Value := .iface 96 (.pointer (some ⟨st, 0, none⟩))
noncomputable def KL : List Item := [.inLoop rL, .inBlock 0]
theorem grow_new {S : MS} {m : MM} {w w' : World} (h1 : w.heap.size ≤ w'.heap.size) (h2 : ∀ b, b < w.heap.size → w'.heap[b]? = w.heap[b]?) : Grow S.thr m w m w' := ⟨h1, fun b hb _ => h2 b hb, fun _ h => .inl h⟩
theorem MS.Body.new {S : MS} {m : MM} {w w' : World} (h : S.Body m w) (h2 : ∀ b, b < w.heap.size → w'.heap[b]? = w.heap[b]?) : S.Body m w' := by
 refine h.frame fun b hb => h2 b ?_
 rcases hb with rfl | ⟨i, hi, rfl | hg | hg⟩ | ⟨o, ho⟩
 · exact zq4 h.words
 · exact zq4 (h.mach i hi)
 · obtain ⟨c, hc⟩ := h.block hi hg
   exact zq4 hc
 · obtain ⟨c, _, _, hc⟩ := h.code i b hi hg
   exact zq4 hc
 · exact zq4 (h.ro b o ho)
theorem cut_k {Kc : Addr → Option Value} {X : Snap} {J : Goroutine → World → Prop} {S : MS} {m : MM} {w : World} (hE : Env Try.prog S.thr Kc X J m w) : ∀ y : Addr, w.heap.size ≤ y.block → Kc y = none := fun y hy => by
 cases hk : Kc y with
 | none => rfl
 | some v => obtain ⟨c, e, hx⟩ := hE.kept y v hk; have := zq4 (hE.rows _ c e hx); omega
theorem run_head {S : MS} {i : Nat} (hi : i < S.N) {pv : Value} (hp : ProgV S i pv) {st : Nat} {cl : Frame} {cs : List Frame} {Kc : Addr → Option Value} {X : Snap} {J : Goroutine → World → Prop} {m : MM} {w : World} {T : Array Value} {own : Int}
 (hE : Env Try.prog S.thr Kc X J m w) (hB : S.Body m w) (hcb : m.cb i = none) (hF : FrR (S.mb i) pv (sxOf st) (m.th i).most own T)
 (hout : ∀ w', (∀ k, (atC (S.prog i) (m.th i) = none ∨ ∃ c, atC (S.prog i) (m.th i) = some c ∧ isStep S.W c = true) → goOn (S.prog i) S.W k (m.th i) = (m.th i, false)) → (atC (S.prog i) (m.th i) = none ∨ ∃ c, atC (S.prog i) (m.th i) = some c ∧ isStep S.W c = true) → S.Body m w' → Grow S.thr m w m w' → J (G (cl.finish (.tuple #[])) cs) w')
 (hy : ∀ m' w' T' b, MRel i m m' → (∀ k, goOn (S.prog i) S.W k (m.th i) = (m'.th i, true)) → S.Body m' w' → Grow S.thr m w m' w' → m'.cb i = some b → FrR (S.mb i) pv (sxOf st) (m'.th i).most own T' → T'[9]? = some (.pointer (some ⟨b, 0, none⟩)) →
  J (G (Frame.enter Try.prog 74 #[.pointer (some ⟨st, 0, none⟩)] .normal) (yieldAt T' (.code rR :: .inBlock 1 :: KL) :: cl :: cs)) w')
 (hown : ∀ w' T' b c, atC (S.prog i) (m.th i) = some c → isStep S.W c = false → S.Body m w' → Grow S.thr m w m w' → FrR (S.mb i) pv (sxOf st) (m.th i).most own T' → T'[9]? = some (.pointer (some ⟨b, 0, none⟩)) → w'.heap[b]? = some (.cells (cdL c).toArray 74) →
  J (G ((bN 41).at ⟨T', []⟩ (.code rR :: .inBlock 1 :: KL)) (cl :: cs)) w') :
 J (G ((bN 41).at ⟨T, []⟩ (.code rL :: KL)) (cl :: cs)) w := by
 have hJ := hE.js
 have cn := (hB.machB hi).cn
 cases hc : atC (S.prog i) (m.th i) with
 | none =>
  obtain ⟨p, C, hpv⟩ := hp.slice
  have hend : ∀ T', J (G ((bN 41).at ⟨T', []⟩ []) (cl :: cs)) w := by
   intro T'
   have hr : J (G (cl.finish (.tuple #[])) cs) w := hout w (fun k _ => goOn_none hc) (.inl hc) hB (Grow.refl _ _ _)
   refine hJ.ctl (s := ()) (fun w => stepG_end) ?_
   refine leaveJ (s := ()) hJ (b := bN 41) rfl rfl Try.func41 (fun τ d => ?_) hr
   simp only [results, Try.f41]
   simp [go_sem]
  rcases atC_none hc with h | ⟨h1, h2⟩
  · exact run_out_neg hJ hF hpv cn h fun T' _ => hend T'
  · exact run_out_big hJ hF hpv cn h1 h2 fun T' _ => hend T'
 | some c =>
  obtain ⟨h0, h1, hget⟩ := atC_some hc
  obtain ⟨g, cap, hpv, hcells⟩ := hp.code hB hget
  refine run_inn hJ hF hpv cn h0 h1 fun T1 hF1 => ?_
  refine code_eq (J := fun (_ : Unit) => J) (s := ()) rB_eq ?_
  refine hJ.ctl (s := ()) (fun w => stepG_seq) ?_
  refine run_copy hJ hF1 hpv cn h0 h1 (hcells 0 (by omega)) (hcells 1 (by omega)) (hcells 2 (by omega)) (hcells 3 (by omega)) (hcells 4 (by omega)) (cut_k hE) fun T2 w2 hF2 t9 hb hsz hold => ?_
  have hG : Grow S.thr m w m w2 := grow_new (by omega) hold
  have hB2 : S.Body m w2 := hB.new hold
  have b0 : w2.cell? ⟨w.heap.size, 0, none⟩ = some (.int .i64 c.d) := (zq1 hb).trans rfl
  have b2 : w2.cell? ⟨w.heap.size, 2, none⟩ = some (.int .i64 c.a) := (zq1 hb).trans rfl
  have c0 := (hB2.machB hi).c0
  have hno : isStep S.W c = false → ∀ T', FrR (S.mb i) pv (sxOf st) (m.th i).most own T' → T'[9]? = some (.pointer (some ⟨w.heap.size, 0, none⟩)) → J (G ((bN 41).at ⟨T', []⟩ (.code rR :: .inBlock 1 :: KL)) (cl :: cs)) w2 :=
   fun hs T' h9 h10 => hown w2 T' w.heap.size c hc hs hB2 hG h9 h10 hb
  have hns : ¬ (7 ≤ c.d ∧ c.d ≤ 11 ∧ 0 ≤ c.a ∧ c.a < S.W) → isStep S.W c = false := fun hn => by
   cases hs : isStep S.W c with
   | false => rfl
   | true => exact absurd (isStep_iff.1 hs) hn
  by_cases k1 : 7 ≤ c.d
  · by_cases k2 : c.d ≤ 11
    · by_cases k3 : 0 ≤ c.a
      · by_cases k4 : c.a < S.W
        · have hs : isStep S.W c = true := isStep_iff.2 ⟨k1, k2, k3, k4⟩
          refine run_what5 hJ hF2 t9 b0 b2 c0 k1 k2 k3 k4 fun T3 hF3 u9 => ?_
          by_cases hm0 : (m.th i).most = 0
          · refine run_stop hJ hF3 hm0 ?_
            refine hout w2 (fun k _ => ?_) (.inr ⟨c, hc, hs⟩) hB2 hG
            rw [goOn_step hc hs, stopC, if_pos hm0]
          · have hst := hB.step hi (x := { m.th i with most := IntKind.i64.wrap ((m.th i).most - 1) }) (v := m.tv i) (c := some w.heap.size) (w' := w2) hB.len (by rw [hold _ (zq4 hB.words)]; exact hB.words) (by rw [hold _ (zq4 (hB.mach i hi))]; exact hB.mach i hi)
             (ownsRow_of (hB.told i hi) fun g hg => by obtain ⟨cc, hcc⟩ := hB.block hi hg; exact hold g (zq4 hcc)) (fun b hbb => by cases hbb; exact ⟨Nat.le_refl _, c, hc, hs, hb⟩) (fun b hbb _ _ _ => hold b hbb) (by omega) (fun g hg => .inl hg)
            refine run_yield hJ hF3 rfl u9 hm0 (fun o a => stepper_enter st o a) (fun o a ho ha w e he => by rw [stepper_events st o a ho ha w] at he; simp at he) fun T4 hF4 v9 => ?_
            refine hy _ w2 T4 w.heap.size (MRel.put i m _ _ _) (fun k => ?_) hst.1 hst.2 (by simp [MM.put]) ?_ v9
            · rw [goOn_step hc hs, stopC, if_neg hm0]; simp [MM.put]
            · simpa [MM.put] using hF4
        · exact run_what4 hJ hF2 t9 b0 b2 c0 k1 k2 k3 k4 fun T3 hF3 u9 => hno (hns fun h => k4 h.2.2.2) T3 hF3 u9
      · exact run_what3 hJ hF2 t9 b0 b2 c0 k1 k2 k3 fun T3 hF3 u9 => hno (hns fun h => k3 h.2.2.1) T3 hF3 u9
    · exact run_what2 hJ hF2 t9 b0 b2 c0 k1 k2 fun T3 hF3 u9 => hno (hns fun h => k2 h.2.1) T3 hF3 u9
  · exact run_what1 hJ hF2 t9 b0 b2 c0 k1 fun T3 hF3 u9 => hno (hns fun h => k1 h.1) T3 hF3 u9
theorem run_loop {S : MS} {i : Nat} (hi : i < S.N) {pv : Value} (hp : ProgV S i pv) {st : Nat} {cl : Frame} {cs : List Frame} : ∀ (k : Nat) {Kc : Addr → Option Value} {X : Snap} {J : Goroutine → World → Prop} {m : MM} {w : World} {T : Array Value}, k ≤ 4096 →
 Env Try.prog S.thr Kc X J m w → S.Body m w → m.cb i = none → (m.th i).told.length + k ≤ 8589934592 → FrR (S.mb i) pv (sxOf st) (m.th i).most (4096 - k : Int) T →
 (∀ m' w' T' own b, MRel i m m' → goOn (S.prog i) S.W k (m.th i) = (m'.th i, true) → S.Body m' w' → Grow S.thr m w m' w' → m'.cb i = some b → FrR (S.mb i) pv (sxOf st) (m'.th i).most own T' → T'[9]? = some (.pointer (some ⟨b, 0, none⟩)) →
  J (G (Frame.enter Try.prog 74 #[.pointer (some ⟨st, 0, none⟩)] .normal) (yieldAt T' (.code rR :: .inBlock 1 :: KL) :: cl :: cs)) w') →
 (∀ m' w', MRel i m m' → goOn (S.prog i) S.W k (m.th i) = (m'.th i, false) → S.Body m' w' → Grow S.thr m w m' w' → m'.cb i = none → J (G (cl.finish (.tuple #[])) cs) w') →
 J (G ((bN 41).at ⟨T, []⟩ (.code rL :: KL)) (cl :: cs)) w := by
 intro k
 induction k with
 | zero =>
  intro Kc X J m w T hk hE hB hcb hroom hF hy hn
  refine run_head hi hp hE hB hcb hF (fun w' h1 h2 h3 h4 => hn m w' (MRel.refl i m) (h1 0 h2) h3 h4 hcb) (fun m' w' T' b h1 h2 h3 h4 h5 h6 h7 => hy m' w' T' _ b h1 (h2 0) h3 h4 h5 h6 h7) fun w' T' b c hc hs h1 h2 h3 h4 h5 => ?_
  refine run_most hE.js h3 (by omega) ?_
  exact hn m w' (MRel.refl i m) (by simp [goOn, hc, hs]) h1 h2 hcb
 | succ k ih =>
  intro Kc X J m w T hk hE hB hcb hroom hF hy hn
  refine run_head hi hp hE hB hcb hF (fun w' h1 h2 h3 h4 => hn m w' (MRel.refl i m) (h1 _ h2) h3 h4 hcb) (fun m' w' T' b h1 h2 h3 h4 h5 h6 h7 => hy m' w' T' _ b h1 (h2 _) h3 h4 h5 h6 h7) fun w' T' b c hc hs h1 h2 h3 h4 h5 => ?_
  have hgo : ∀ x, goOn (S.prog i) S.W (k + 1) (m.th i) = x ↔ goOn (S.prog i) S.W k (ownC c (m.th i)) = x := fun x => by simp [goOn, hc, hs]
  have q0 : w'.cell? ⟨b, 0, none⟩ = some (.int .i64 c.d) := (zq1 h5).trans rfl
  have q1 : w'.cell? ⟨b, 1, none⟩ = some (.int .i64 c.r) := (zq1 h5).trans rfl
  have q2 : w'.cell? ⟨b, 2, none⟩ = some (.int .i64 c.a) := (zq1 h5).trans rfl
  have q3 : w'.cell? ⟨b, 3, none⟩ = some (.int .i64 c.b) := (zq1 h5).trans rfl
  have q4 : w'.cell? ⟨b, 4, none⟩ = some (.int .i64 c.v) := (zq1 h5).trans rfl
  refine run_own hE.js h3 h4 q0 q1 q2 q3 q4 (by omega) (by omega) fun c' T'' hF'' hfin => ?_
  have hE' := hE.grow h2
  refine own_env (c := c) hE' h1 hi (by omega) fun v' w2 hB2 hG2 => ?_
  refine hfin w2 ?_
  have hr := MRel.put i m (ownC c (m.th i)) v' none
  have hth : (m.put i m.ws (ownC c (m.th i)) v' none).th i = ownC c (m.th i) := by simp [MM.put]
  refine hE.js.ctl (s := ()) (fun w => stepG_inBlock) ?_
  refine hE.js.ctl (s := ()) (fun w => stepG_inLoop) ?_
  have hG3 := h2.trans hG2
  refine ih (by omega) (hE.grow hG3) hB2 (by simp [MM.put]) ?_ ?_ (fun m' w3 T3 own b3 g1 g2 g3 g4 g5 g6 g7 => ?_) (fun m' w3 g1 g2 g3 g4 g5 => ?_)
  · rw [hth]; have := ownC_told c (m.th i); omega
  · rw [hth, ownC_most]
    rw [show (4096 - ((k + 1 : Nat) : Int) + 1 : Int) = 4096 - (k : Nat) by omega] at hF''
    exact hF''
  · rw [hth] at g2
    exact hy m' w3 T3 own b3 (hr.trans g1) ((hgo _).2 g2) g3 (hG3.trans g4) g5 g6 g7
  · rw [hth] at g2
    exact hn m' w3 (hr.trans g1) ((hgo _).2 g2) g3 (hG3.trans g4) g5
structure Through (c : Frame) : Prop where
 fin : ∀ (Kc : Addr → Option Value) (J : Goroutine → World → Prop), JX Try.prog Kc J → ∀ cr rest w, J (G (cr.finish (.tuple #[])) rest) w → J (G (c.finish (.tuple #[])) (cr :: rest)) w
 raise : ∀ (Kc : Addr → Option Value) (J : Goroutine → World → Prop), JX Try.prog Kc J → ∀ ch cr rest w, J (G (cr.raise ch) rest) w → J (G (c.raise ch) (cr :: rest)) w
section
variable {Kc : Addr → Option Value} {J : Goroutine → World → Prop}
theorem run_enter (hJ : JX Try.prog Kc J) {mb : Nat} {pv iv : Value} {most : Int} {w : World} {cs : List Frame}
 (hmain : ∀ T, FrR mb pv iv most 0 T → J (G ((bN 41).at ⟨T, []⟩ (.code rL :: KL)) cs) w) :
 J (G (Frame.enter Try.prog 41 #[.pointer (some ⟨mb, 0, none⟩), pv, iv, .int .i64 most] .normal) cs) w := by
 have e : Frame.enter Try.prog 41 #[.pointer (some ⟨mb, 0, none⟩), pv, iv, .int .i64 most] .normal = (bN 41).at (enterAct Try.f41 #[.pointer (some ⟨mb, 0, none⟩), pv, iv, .int .i64 most]) [.code ((Try.f41.body).getD .skip)] := by kernel_rfl
 have eb : (Try.f41.body).getD .skip = .seq (headC ((Try.f41.body).getD .skip)) (.block 0 (.loop rL)) := by kernel_rfl
 rw [e, eb]
 have hm := Lib.hid hmain
 clear hmain
 obtain ⟨T0, hT⟩ : ∃ X, X = (enterAct Try.f41 #[.pointer (some ⟨mb, 0, none⟩), pv, iv, .int .i64 most]).tmps := ⟨_, rfl⟩
 have hsz : T0.size = 72 := by rw [hT]; kernel_rfl
 have f0 : T0[0]? = some (.pointer (some ⟨mb, 0, none⟩)) := by rw [hT]; kernel_rfl
 have f1 : T0[1]? = some pv := by rw [hT]; kernel_rfl
 have f2 : T0[2]? = some iv := by rw [hT]; kernel_rfl
 have f3 : T0[3]? = some (.int .i64 most) := by rw [hT]; kernel_rfl
 have eA : enterAct Try.f41 #[.pointer (some ⟨mb, 0, none⟩), pv, iv, .int .i64 most] = ⟨T0, []⟩ := by rw [hT]; kernel_rfl
 rw [eA]
 clear eA hT e eb
 refine hJ.ctl (s := ()) (fun w => stepG_seq) ?_
 obtain ⟨u0, hu0⟩ : ∃ c, headC ((Try.f41.body).getD .skip) = c := ⟨_, rfl⟩
 have eu0 := hu0
 rw [hu0]
 simp only [headC, Try.f41, al_od] at eu0
 subst eu0
 clear hu0
 refine hJ.ctl (s := ()) (fun w => stepG_region) ?_
 refine at_eval (J := fun (_ : Unit) => J) (s := ()) hJ (by decide) 0 [.int .i64 0] [] rfl (by simp) (by rfl) ?_ ?_
 · intro τ d
   simp only [evalsO, dstOf, al_gl, al_g0, al_ob]
   refine ⟨?_, trivial⟩
   intro o ho; simp only [al_oi] at ho; subst ho
   rfl
 simp only [putv, dstOf, al_gl, al_g0, al_g1, al_ob]
 have hF : FrR mb pv iv most 0 (T0.setIfInBounds 8 (.int .i64 0)) := by
  refine ⟨by simp [hsz], ?_, ?_, ?_, ?_, by simp [hsz]⟩ <;> rw [al_gn (by decide)] <;> assumption
 refine hJ.ctl (s := ()) (fun w => stepG_region_end) ?_
 refine hJ.ctl (s := ()) (fun w => stepG_block) ?_
 refine hJ.ctl (s := ()) (fun w => stepG_loop) ?_
 exact hm.out _ hF
theorem clo_calls (hJ : JX Try.prog Kc J) {mb b1 b2 b3 b4 pb n cap : Nat} {cur : Array Value} {T1 T2 T3 T4 T5 : TypeId} {i : Nat} {pv iv : Value} {most : Int} {w : World} {cr : Frame} {rest : List Frame}
 (h1 : w.heap[b1]? = some (.cells #[.pointer (some ⟨mb, 0, none⟩)] T1)) (h2 : w.heap[b2]? = some (.cells #[.slice (some ⟨pb, 0, none⟩) n cap] T2)) (h3 : w.heap[b3]? = some (.cells #[.int .i64 i] T3)) (h4 : w.heap[b4]? = some (.cells #[.int .i64 most] T4)) (h5 : w.heap[pb]? = some (.cells cur T5)) (hi : i < n) (hpv : cur[i]? = some pv)
 (hmain : ∀ c, Through c → J (G (Frame.enter Try.prog 41 #[.pointer (some ⟨mb, 0, none⟩), pv, iv, .int .i64 most] .normal) (c :: cr :: rest)) w) :
 J (G (Frame.enter Try.prog 40 (#[] ++ #[iv] ++ #[.pointer (some ⟨b1, 0, none⟩), .pointer (some ⟨b2, 0, none⟩), .pointer (some ⟨b3, 0, none⟩), .pointer (some ⟨b4, 0, none⟩)]) .normal) (cr :: rest)) w := by
 have e : Frame.enter Try.prog 40 (#[] ++ #[iv] ++ #[.pointer (some ⟨b1, 0, none⟩), .pointer (some ⟨b2, 0, none⟩), .pointer (some ⟨b3, 0, none⟩), .pointer (some ⟨b4, 0, none⟩)]) .normal = (bN 40).at (enterAct Try.f40 #[iv, .pointer (some ⟨b1, 0, none⟩), .pointer (some ⟨b2, 0, none⟩), .pointer (some ⟨b3, 0, none⟩), .pointer (some ⟨b4, 0, none⟩)]) [.code ((Try.f40.body).getD .skip)] := rfl
 rw [e]
 have hm := Lib.hid hmain
 clear hmain e
 simp only [Try.f40, enterAct, al_od, List.size_toArray, List.length_cons, List.length_nil, Nat.reduceAdd, Nat.reduceSub, Array.replicate_succ, Array.replicate_zero, List.push_toArray, List.append_toArray, List.nil_append, List.cons_append]
 refine at_draw (J := fun (_ : Unit) => J) (s := ()) hJ (by decide) (by rfl) [.pointer (some ⟨mb, 0, none⟩), .slice (some ⟨pb, 0, none⟩) n cap, .int .i64 i, .pointer (some ⟨pb, i, none⟩), pv, iv, .int .i64 most] (by kernel_rfl) ?_ ?_
 · intro τ d
   have hi' : (i : Int) < n := by omega
   have hi0 : (0 : Int) ≤ i := by omega
   have c1 := (zq1 (off := 0) h1).trans rfl
   have c2 := (zq1 (off := 0) h2).trans rfl
   have c3 := (zq1 (off := 0) h3).trans rfl
   have c4 := (zq1 (off := 0) h4).trans rfl
   have c5 := (zq1 (off := i) h5).trans hpv
   clear h1 h2 h3 h4 h5
   simp only [evals, putv, dstOf, al_gl, al_g0, al_g1, al_ob, al_g2, List.set_cons_succ, List.set_cons_zero]
   refine ⟨?_, ?_, ?_, ?_, ?_, ?_, ?_, trivial⟩ <;> (intro o ho; simp only [al_oi] at ho; subst ho)
   all_goals (simp only [execOp, Act.eval, al_gd, al_gl, al_g0, al_g1, al_od])
   all_goals (try go_simp)
 · simp only [putv, dstOf, al_gl, al_g0, al_g1, al_ob, al_g2, List.set_cons_succ, List.set_cons_zero, Nat.reduceAdd, Nat.zero_add, List.length_cons, List.length_nil]
   refine at_call (J := fun (_ : Unit) => J) (s := ()) (by decide) hJ rfl rfl (f := 41) (args := #[.pointer (some ⟨mb, 0, none⟩), pv, iv, .int .i64 most]) (fun τ d => ?_) (fun τ d => ?_) ?_
   · simp [go_sem, execOp, Act.eval, resolve, Deferred.ofValue, invoke, callFunc, Try.func41, Try.f41]
   · intro e he
     simp [go_sem, execOp, Act.eval, resolve, Deferred.ofValue, invoke, callFunc, Try.func41, Try.f41, Sem.runT_eq] at he
   · refine hm.out _ ⟨fun Kc' J' hJ' cr' rest' w' h => ?_, fun Kc' J' hJ' ch cr' rest' w' h => ?_⟩
     · rw [Frame.finish_at]
       try walk_nrm
       refine hJ'.ctl (s := ()) (fun w => stepG_region_end) ?_
       refine hJ'.ctl (s := ()) (fun w => stepG_end) ?_
       refine leaveJ (s := ()) hJ' (b := bN 40) rfl rfl Try.func40 (fun τ d => ?_) h
       simp only [results, Try.f40]
       simp [go_sem]
     · rw [Frame.raise_at]
       exact raiseJ (s := ()) hJ' (b := bN 40) rfl Try.func40 h
end
theorem yield_fin {Kc : Addr → Option Value} {J : Goroutine → World → Prop} (hJ : JX Try.prog Kc J) {T : Array Value} {K : List Item} {cs : List Frame} {w : World} (h : J (G ((bN 41).at ⟨T.setIfInBounds 61 (.tuple #[]), []⟩ (.code (.seq m8c (.seq m9c (.exit 1))) :: K)) cs) w) :
 J (G ((yieldAt T K).finish (.tuple #[])) cs) w := by
 unfold yieldAt
 obtain ⟨u0, hu0⟩ : ∃ c, m7c = c := ⟨_, rfl⟩
 have eu0 := hu0
 rw [hu0]
 simp only [rL, rB, rS, rR, m7c, headC, tailN, Try.f41, al_od] at eu0
 subst eu0
 clear hu0
 rw [Frame.finish_at]
 try walk_nrm
 refine hJ.ctl (s := ()) (fun w => stepG_region_end) ?_
 exact h
theorem yield_raise {Kc : Addr → Option Value} {J : Goroutine → World → Prop} (hJ : JX Try.prog Kc J) {T : Array Value} {K : List Item} {ch : List PanicEntry} {cl : Frame} {cs : List Frame} {w : World} (h : J (G (cl.raise ch) cs) w) : J (G ((yieldAt T K).raise ch) (cl :: cs)) w := by
 unfold yieldAt
 rw [Frame.raise_at]
 exact raiseJ (s := ()) hJ (b := bN 41) rfl Try.func41 h
theorem MS.Body.room {S : MS} {m : MM} {w : World} (h : S.Body m w) (r : Nat) (b : Nat → Bool) : S.Body { m with room := r, begun := b } w := ⟨h.len, h.words, h.mach, h.told, h.code, h.ro, h.inj, h.rofree, h.sep, h.lo, h.csep⟩
theorem grow_room {S : MS} {m m' : MM} {w w' : World} (h : Grow S.thr m w m' w') (r : Nat) (b : Nat → Bool) : Grow S.thr m w { m' with room := r, begun := b } w' := ⟨h.size, h.old, h.grow⟩
theorem mach_susp {S : MS} {i : Nat} (hi : i < S.N) {pv : Value} (hp : ProgV S i pv) {st : Nat} {cr : Frame} {rest : List Frame} (NE EN : List PanicEntry → Prop) {cl : Frame} (hcl : Through cl) : ∀ (k : Nat) (m₀ : MM) (T : Array Value) (own : Int) (b : Nat), m₀.cb i = some b → FrR (S.mb i) pv (sxOf st) (m₀.th i).most own T → T[9]? = some (.pointer (some ⟨b, 0, none⟩)) →
 Susp Try.prog S.thr 74 (.pointer (some ⟨st, 0, none⟩)) cr rest NE EN i k (yieldAt T (.code rR :: .inBlock 1 :: KL)) (cl :: cr :: rest) m₀ := by
 intro k
 induction k with
 | zero => intro m₀ T own b _ _ _; trivial
 | succ k ih =>
  intro m₀ T own b hcb hF t9 Kc X J m w hE hSame hRep hleft
  have hJ := hE.js
  obtain ⟨s1, s2, s3, s4, s5⟩ : m₀.th i = m.th i ∧ m₀.tv i = m.tv i ∧ m₀.cb i = m.cb i ∧ m₀.begun i = m.begun i ∧ m₀.ws.length = m.ws.length := hSame
  have hroom : 0 < m.room := hleft
  have hB := hRep.body
  rw [s3] at hcb
  rw [s1] at hF
  obtain ⟨c, hat, hst, hcode⟩ := hB.code i b hi hcb
  refine ⟨fun hC => ?_, fun ch hch hmain => ?_⟩
  · refine yield_fin hJ ?_
    have hF1 : FrR (S.mb i) pv (sxOf st) (m.th i).most own (T.setIfInBounds 61 (.tuple #[])) := by
     obtain ⟨h1, h2, h3, h4, h5, h6⟩ := hF
     refine ⟨by simp [h1], ?_, ?_, ?_, ?_, ?_⟩ <;> rw [al_gn (by decide)] <;> assumption
    have u9 : (T.setIfInBounds 61 (.tuple #[]))[9]? = some (.pointer (some ⟨b, 0, none⟩)) := by rw [al_gn (by decide)]; exact t9
    have q0 : w.cell? ⟨b, 0, none⟩ = some (.int .i64 c.d) := (zq1 hcode).trans rfl
    have q1 : w.cell? ⟨b, 1, none⟩ = some (.int .i64 c.r) := (zq1 hcode).trans rfl
    have q2 : w.cell? ⟨b, 2, none⟩ = some (.int .i64 c.a) := (zq1 hcode).trans rfl
    have q3 : w.cell? ⟨b, 3, none⟩ = some (.int .i64 c.b) := (zq1 hcode).trans rfl
    have q4 : w.cell? ⟨b, 4, none⟩ = some (.int .i64 c.v) := (zq1 hcode).trans rfl
    refine run_step hJ hF1 u9 q0 q1 q2 q3 q4 fun c' T1 hF2 hfin => ?_
    refine step_env (c := c) hE hB hi hst fun w1 hB1 hG1 => ?_
    refine hfin w1 ?_
    obtain ⟨m1, hm1⟩ : ∃ m1, m1 = m.put i (stepC c m.ws (m.th i)).1 (stepC c m.ws (m.th i)).2 (m.tv i) none := ⟨_, rfl⟩
    rw [← hm1] at hB1 hG1
    have hth : m1.th i = (stepC c m.ws (m.th i)).2 := by rw [hm1]; simp [MM.put]
    have hws : m1.ws = (stepC c m.ws (m.th i)).1 := by rw [hm1]; rfl
    have hcb1 : m1.cb i = none := by rw [hm1]; simp [MM.put]
    have hro := hRep.room i hi
    have hgo : ∀ (m' : MM) (x : Bool), MRel i m1 m' → goOn (S.prog i) S.W 4096 (m1.th i) = (m'.th i, x) → ∀ (j : Bool), j = x → MTurn (goP S.prog i m.mem) (m.room - 1) i m (if x then .yield { m' with room := m.room - 1, begun := fun j => if j = i then true else m.begun j } else .done { m' with room := m.room - 1, begun := fun j => if j = i then true else m.begun j }) := by
     intro m' x hr hg _ _
     have hgp : goP S.prog i m.mem = ((⟨m'.ws, m'.th⟩ : Mem), x) := by
      unfold goP
      have e1 : atC (S.prog i) (m.mem.th i) = some c := hat
      simp only [e1]
      have e2 : goOn (S.prog i) m.mem.ws.length 4096 (stepC c m.mem.ws (m.mem.th i)).2 = (m'.th i, x) := by
       rw [show m.mem.ws.length = S.W from hB.len, ← hg, hth]; rfl
      rw [e2]
      simp only [Mem.upd, Prod.mk.injEq, and_true, Mem.mk.injEq]
      refine ⟨?_, ?_⟩
      · rw [hr.ws, hws]; rfl
      · funext j
        by_cases e : j = i
        · subst e; simp
        · simp only [e, if_false]
          rw [hr.th j e, hm1]
          simp [MM.put, e, MM.mem]
     rw [hgp]
     refine ⟨{ m' with room := m.room - 1, begun := fun j => if j = i then true else m.begun j }, rfl, rfl, fun j hj => ?_, fun j hj => ?_, rfl, rfl⟩
     · show m'.tv j = m.tv j
       rw [hr.tv j hj, hm1]; simp [MM.put, hj]
     · show m'.cb j = m.cb j
       rw [hr.cb j hj, hm1]; simp [MM.put, hj]
    have hrep : ∀ (m' : MM) (x : Bool) (w' : World), MRel i m1 m' → goOn (S.prog i) S.W 4096 (m1.th i) = (m'.th i, x) → S.Body m' w' → S.Rep { m' with room := m.room - 1, begun := fun j => if j = i then true else m.begun j } w' := by
     intro m' x w' hr hg hB'
     refine ⟨hB'.room _ _, fun j hj => ?_⟩
     show (m'.th j).told.length + 4096 * (m.room - 1 + if (if j = i then true else m.begun j) = true then 0 else 1) ≤ _
     by_cases e : j = i
     · subst e
       have h1 := goOn_told (S.prog j) S.W 4096 (m1.th j)
       rw [hg, hth, stepC_told] at h1
       simp only at h1
       rw [if_pos (by simp)]
       have : (if m.begun j = true then 0 else 1) ≤ 1 := by split <;> omega
       omega
     · rw [hr.th j e, hm1]
       simp only [MM.put, e, if_false]
       have := hRep.room j hj
       have : (4096 : Nat) * (m.room - 1 + if m.begun j = true then 0 else 1) ≤ 4096 * (m.room + if m.begun j = true then 0 else 1) := Nat.mul_le_mul_left _ (by omega)
       omega
    refine hJ.ctl (s := ()) (fun w => stepG_inLoop) ?_
    refine run_loop (st := st) hi hp 4096 (Nat.le_refl _) (hE.grow hG1) hB1 hcb1 ?_ ?_ (fun m' w' T' own' b' g1 g2 g3 g4 g5 g6 g7 => ?_) (fun m' w' g1 g2 g3 g4 g5 => ?_)
    · rw [hth, stepC_told]; omega
    · rw [hth, stepC_most]; exact hF2
    · exact hC.yield _ _ _ w' (hgo m' true g1 g2 true rfl) (grow_room (hG1.trans g4) _ _) (hrep m' true w' g1 g2 g3) (Nat.le_refl _) (ih _ T' own' b' g5 g6 g7)
    · exact hcl.fin Kc J hJ cr rest w' (hC.done _ (.tuple #[]) w' (hgo m' false g1 g2 false rfl) (grow_room (hG1.trans g4) _ _) (hrep m' false w' g1 g2 g3) (Nat.le_refl _))
  · refine yield_raise hJ (hcl.raise Kc J hJ ch cr rest w ?_)
    refine hmain { m with room := m.room - 1 } ch w hch rfl ⟨Nat.le_refl _, fun _ _ _ => rfl, fun _ h => .inl h⟩ ⟨hB.room _ _, fun j hj => ?_⟩ (Nat.le_refl _)
    show (m.th j).told.length + 4096 * (m.room - 1 + if m.begun j = true then 0 else 1) ≤ _
    have := hRep.room j hj
    have : (4096 : Nat) * (m.room - 1 + if m.begun j = true then 0 else 1) ≤ 4096 * (m.room + if m.begun j = true then 0 else 1) := Nat.mul_le_mul_left _ (by omega)
    omega
structure CloV (S : MS) (i : Nat) (most : Int) (pv tv : Value) : Prop where
 is : ∃ b1 b2 b3 b4 pb n cap cur T1 T2 T3 T4 T5, tv = .func (.func 40) #[] #[.pointer (some ⟨b1, 0, none⟩), .pointer (some ⟨b2, 0, none⟩), .pointer (some ⟨b3, 0, none⟩), .pointer (some ⟨b4, 0, none⟩)] ∧
  S.ro b1 = some (.cells #[.pointer (some ⟨S.mb i, 0, none⟩)] T1) ∧ S.ro b2 = some (.cells #[.slice (some ⟨pb, 0, none⟩) n cap] T2) ∧ S.ro b3 = some (.cells #[.int .i64 i] T3) ∧ S.ro b4 = some (.cells #[.int .i64 most] T4) ∧ S.ro pb = some (.cells cur T5) ∧ i < n ∧ cur[i]? = some pv
theorem mach_runs {S : MS} {m₀ : MM} {i : Nat} (hi : i < S.N) {most : Int} {pv tv : Value} (hp : ProgV S i pv) (hv : CloV S i most pv tv) (hmost : (m₀.th i).most = most) (hb0 : m₀.begun i = false) (hcb : m₀.cb i = none) (NE : List PanicEntry → Prop) :
 Runs Try.prog S.thr 74 96 NE m₀ i tv := by
 obtain ⟨b1, b2, b3, b4, pb, n, cap, cur, T1, T2, T3, T4, T5, htv, r1, r2, r3, r4, r5, hin, hpv⟩ := hv.is
 refine .inr ⟨40, #[], _, Try.f40, _, htv, Try.func40, rfl, by kernel_rfl, ?_⟩
 intro cr rest st EN k Kc X J m w hE hRep hSame hC
 obtain ⟨s1, s2, s3, s4, s5⟩ : m₀.th i = m.th i ∧ m₀.tv i = m.tv i ∧ m₀.cb i = m.cb i ∧ m₀.begun i = m.begun i ∧ m₀.ws.length = m.ws.length := hSame
 have hJ := hE.js
 have hB := hRep.body
 rw [s1] at hmost
 rw [s4] at hb0
 rw [s3] at hcb
 refine clo_calls hJ (mb := S.mb i) (pv := pv) (iv := sxOf st) (most := most) (hB.ro _ _ r1) (hB.ro _ _ r2) (hB.ro _ _ r3) (hB.ro _ _ r4) (hB.ro _ _ r5) hin hpv fun cl hcl => ?_
 refine run_enter hJ fun T hF => ?_
 have hro := hRep.room i hi
 rw [hb0] at hro
 have hgo : ∀ (m' : MM) (x : Bool), MRel i m m' → goOn (S.prog i) S.W 4096 (m.th i) = (m'.th i, x) → MTurn (startP S.prog i m.mem) m.room i m (if x then .yield { m' with room := m.room, begun := fun j => if j = i then true else m.begun j } else .done { m' with room := m.room, begun := fun j => if j = i then true else m.begun j }) := by
  intro m' x hr hg
  have hgp : startP S.prog i m.mem = ((⟨m'.ws, m'.th⟩ : Mem), x) := by
   unfold startP
   have e2 : goOn (S.prog i) m.mem.ws.length 4096 (m.mem.th i) = (m'.th i, x) := by
    rw [show m.mem.ws.length = S.W from hB.len, ← hg]; rfl
   rw [e2]
   simp only [Mem.upd, Prod.mk.injEq, and_true, Mem.mk.injEq]
   refine ⟨?_, ?_⟩
   · rw [hr.ws]; rfl
   · funext j
     by_cases e : j = i
     · subst e; simp
     · simp only [e, if_false]
       rw [hr.th j e]; rfl
  rw [hgp]
  exact ⟨{ m' with room := m.room, begun := fun j => if j = i then true else m.begun j }, rfl, rfl, fun j hj => hr.tv j hj, fun j hj => hr.cb j hj, rfl, rfl⟩
 have hrep : ∀ (m' : MM) (x : Bool) (w' : World), MRel i m m' → goOn (S.prog i) S.W 4096 (m.th i) = (m'.th i, x) → S.Body m' w' → S.Rep { m' with room := m.room, begun := fun j => if j = i then true else m.begun j } w' := by
  intro m' x w' hr hg hB'
  refine ⟨hB'.room _ _, fun j hj => ?_⟩
  show (m'.th j).told.length + 4096 * (m.room + if (if j = i then true else m.begun j) = true then 0 else 1) ≤ _
  by_cases e : j = i
  · subst e
    have h1 := goOn_told (S.prog j) S.W 4096 (m.th j)
    rw [hg] at h1
    simp only at h1
    rw [if_pos (by simp)]
    simp only [Bool.false_eq_true, if_false] at hro
    omega
  · rw [hr.th j e]
    simp only [e, if_false]
    exact hRep.room j hj
 refine run_loop (st := st) hi hp 4096 (Nat.le_refl _) hE hB hcb ?_ ?_ (fun m' w' T' own' b' g1 g2 g3 g4 g5 g6 g7 => ?_) (fun m' w' g1 g2 g3 g4 g5 => ?_)
 · simp only [Bool.false_eq_true, if_false] at hro; omega
 · rw [hmost]; exact hF
 · exact hC.yield _ _ _ w' (hgo m' true g1 g2) (grow_room g4 _ _) (hrep m' true w' g1 g2 g3) (Nat.le_refl _) (mach_susp hi hp NE EN hcl k _ T' own' b' g5 g6 g7)
 · exact hcl.fin Kc J hJ cr rest w' (hC.done _ (.tuple #[]) w' (hgo m' false g1 g2) (grow_room g4 _ _) (hrep m' false w' g1 g2 g3) (Nat.le_refl _))
set_option maxHeartbeats 4000000
set_option maxRecDepth 100000
def cloOf (H b1 b3 : Nat) : Value := .func (.func 40) #[] #[.pointer (some ⟨b1, 0, none⟩), .pointer (some ⟨H, 0, none⟩), .pointer (some ⟨b3, 0, none⟩), .pointer (some ⟨H + 1, 0, none⟩)]
def ptrL (mb : Nat → Nat) (N : Nat) : List Value := (List.range N).map fun i => .pointer (some ⟨mb i, 0, none⟩)
def cloL (H : Nat) (b1 b3 : Nat → Nat) (N : Nat) : List Value := (List.range N).map fun i => cloOf H (b1 i) (b3 i)
def mach0 (bw W : Nat) : Array Value := #[.slice (some ⟨bw, 0, none⟩) W W, .int .i64 0, .int .i64 0, .int .i64 0, .int .i64 0, .slice none 0 0, .int .i64 0]
structure MRes (w : World) (ws : List Int) (W N : Nat) (pv : Value) (most : Int) (mb b1 b3 : Nat → Nat) (av fv : Value) (w' : World) : Prop where
 size : w.heap.size + 3 ≤ w'.heap.size
 old : ∀ b, b < w.heap.size → w'.heap[b]? = w.heap[b]?
 prg : w'.heap[w.heap.size]? = some (.cells #[pv] 30)
 mst : w'.heap[w.heap.size + 1]? = some (.cells #[.int .i64 most] 3)
 wds : w'.heap[w.heap.size + 2]? = some (.cells (ws.map (Value.int .i64)).toArray 114)
 arow : w'.ownsRow w.heap.size 116 1 av N (ptrL mb N)
 frow : w'.ownsRow w.heap.size 60 1 fv N (cloL w.heap.size b1 b3 N)
 mac : ∀ i, i < N → w'.heap[mb i]? = some (.cells (mach0 (w.heap.size + 2) W) 118)
 bx1 : ∀ i, i < N → w'.heap[b1 i]? = some (.cells #[.pointer (some ⟨mb i, 0, none⟩)] 116)
 bx3 : ∀ i, i < N → w'.heap[b3 i]? = some (.cells #[.int .i64 i] 3)
 lo : ∀ i, i < N → w.heap.size + 3 ≤ b3 i ∧ b3 i < mb i ∧ mb i < b1 i
 inc : ∀ i i', i < i' → i' < N → b1 i < b3 i'
 ne1 : ∀ i, i < N → av.ownBlock ≠ some (b1 i)
 lo1 : ∀ g, av.ownBlock = some g ∨ fv.ownBlock = some g → w.heap.size + 3 ≤ g
theorem make_words (w : World) (W : Nat) (hW : W ≤ 1099511627776) : (Instr.makeSlice 64 (.int .i64 W) (.int .i64 W)).run Try.prog w = .ok (.slice (some ⟨w.heap.size, 0, none⟩) W W) (w.alloc (.cells (Array.replicate W (.int .i64 0)) 114)) := by
 obtain ⟨ti, hti, hz0, hz1, hz2⟩ : ∃ ti, Try.prog.info? 114 = some ti ∧ ti.zero.map (·.cells) = some #[.int .i64 0] ∧ ti.size = 1 ∧ ti.bytes = 8 := ⟨_, rfl, by rfl, rfl, rfl⟩
 obtain ⟨z, hz, hzc⟩ : ∃ z, ti.zero = some z ∧ z.cells = #[.int .i64 0] := by
  cases h : ti.zero with
  | none => rw [h] at hz0; cases hz0
  | some z => rw [h] at hz0; exact ⟨z, rfl, by simpa using hz0⟩
 have := run_make (P := Try.prog) w 64 114 ti z (by kernel_rfl) hti hz .i64 .i64 W W (by omega) (Int.le_refl _) (by rw [hz2]; omega) (by omega)
 simp only [Int.toNat_natCast, hz1, Nat.mul_one] at this
 rw [this]
 congr 3
 rw [hzc]
 apply Array.ext_getElem?
 intro i
 by_cases hi : i < W
 · simp [madeCells, hi, Nat.mod_one]
 · simp [madeCells, hi]
theorem words_get {w : World} {bw : Nat} {l : List Int} {T : TypeId} (h : w.heap[bw]? = some (.cells (l.map (Value.int .i64)).toArray T)) {i : Nat} (hi : i < l.length) : w.cell? ⟨bw, i, none⟩ = some (.int .i64 (l.getD i 0)) := by
 refine (zq1 h).trans ?_
 simp [hi]
theorem words_set {w : World} {bw : Nat} {l : List Int} {T : TypeId} (h : w.heap[bw]? = some (.cells (l.map (Value.int .i64)).toArray T)) (i : Nat) (v : Int) : (w.setCell ⟨bw, i, none⟩ (.int .i64 v)).heap[bw]? = some (.cells ((l.set i v).map (Value.int .i64)).toArray T) := by
 refine (zqh _ _ _ _ h).trans ?_
 congr 2
 apply Array.ext_getElem?
 intro j
 simp only [al_gs, al_gl, List.getElem?_map, List.getElem?_set, List.size_toArray, List.length_map]
 by_cases e : i = j
 · subst e; by_cases h2 : i < l.length <;> simp [h2]
 · simp [e]
structure MPre (w : World) (ws : List Int) (W : Nat) (pv : Value) (most : Int) (j : Nat) (w' : World) : Prop where
 size : w'.heap.size = w.heap.size + 3
 old : ∀ b, b < w.heap.size → w'.heap[b]? = w.heap[b]?
 prg : w'.heap[w.heap.size]? = some (.cells #[pv] 30)
 mst : w'.heap[w.heap.size + 1]? = some (.cells #[.int .i64 most] 3)
 wds : w'.heap[w.heap.size + 2]? = some (.cells ((ws.take j ++ List.replicate (W - j) 0).map (Value.int .i64)).toArray 114)
theorem MPre.start (w : World) (ws : List Int) (W : Nat) (pv : Value) (most : Int) : MPre w ws W pv most 0 (((w.alloc (.cells #[pv] 30)).alloc (.cells #[.int .i64 most] 3)).alloc (.cells (Array.replicate W (.int .i64 0)) 114)) := by
 refine ⟨by simp only [zq8], fun b hb => ?_, ?_, ?_, ?_⟩
 · rw [zqc, if_neg (by simp only [zq8]; omega), zqc, if_neg (by simp only [zq8]; omega), zqc, if_neg (by omega)]
 · rw [zqc, if_neg (by simp only [zq8]; omega), zqc, if_neg (by simp only [zq8]; omega), zqc, if_pos rfl]
 · rw [zqc, if_neg (by simp only [zq8]; omega), zqc, if_pos (by simp only [zq8])]
 · rw [zqc, if_pos (by simp only [zq8])]; simp
theorem MPre.next {w : World} {ws : List Int} {W : Nat} {pv : Value} {most : Int} {j : Nat} {w' : World} (h : MPre w ws W pv most j w') (hl : ws.length = W) (hj : j < W) : MPre w ws W pv most (j + 1) (w'.setCell ⟨w.heap.size + 2, j, none⟩ (.int .i64 (ws.getD j 0))) := by
 refine ⟨by rw [hp_size_set]; exact h.size, fun b hb => ?_, ?_, ?_, ?_⟩
 · rw [zqa _ _ _ _ (show b ≠ w.heap.size + 2 by omega)]; exact h.old b hb
 · rw [zqa _ _ _ _ (show w.heap.size ≠ w.heap.size + 2 by omega)]; exact h.prg
 · rw [zqa _ _ _ _ (show w.heap.size + 1 ≠ w.heap.size + 2 by omega)]; exact h.mst
 · refine (words_set h.wds j _).trans ?_
   congr 4
   apply List.ext_getElem?
   intro q
   have e1 : (ws.take j).length = j := by rw [List.length_take]; omega
   have e2 : (ws.take (j + 1)).length = j + 1 := by rw [List.length_take]; omega
   rw [List.getElem?_set]
   by_cases hq : j = q
   · subst hq
     rw [if_pos rfl, if_pos (by rw [List.length_append, e1, List.length_replicate]; omega), List.getElem?_append_left (by omega), List.getElem?_take, if_pos (by omega)]
     simp [hl, hj]
   · rw [if_neg hq]
     by_cases hq2 : q < j
     · rw [List.getElem?_append_left (by omega), List.getElem?_append_left (by omega), List.getElem?_take, List.getElem?_take, if_pos hq2, if_pos (by omega)]
     · rw [List.getElem?_append_right (by omega), List.getElem?_append_right (by omega), e1, e2, List.getElem?_replicate, List.getElem?_replicate]
       by_cases h3 : q < W
       · rw [if_pos (by omega), if_pos (by omega)]
       · rw [if_neg (by omega), if_neg (by omega)]
theorem MPre.res {w : World} {ws : List Int} {W : Nat} {pv : Value} {most : Int} {w' : World} (h : MPre w ws W pv most W w') (hl : ws.length = W) (mb b1 b3 : Nat → Nat) : MRes w ws W 0 pv most mb b1 b3 (.slice none 0 0) (.slice none 0 0) w' := by
 refine ⟨Nat.le_of_eq h.size.symm, h.old, h.prg, h.mst, ?_, World.ownsRow_nil _ _ _ _, World.ownsRow_nil _ _ _ _, fun i hi => absurd hi (Nat.not_lt_zero _), fun i hi => absurd hi (Nat.not_lt_zero _), fun i hi => absurd hi (Nat.not_lt_zero _), fun i hi => absurd hi (Nat.not_lt_zero _), fun i i' _ hi => absurd hi (Nat.not_lt_zero _), fun i hi => absurd hi (Nat.not_lt_zero _), fun g hg => ?_⟩
 · have := h.wds
   rw [Nat.sub_self, List.take_of_length_le (by omega)] at this
   simpa using this
 · rcases hg with hg | hg <;> cases hg
theorem one_new {w : World} {x : Value} {T : TypeId} {B : Nat} (hB : w.heap.size = B) : ∀ j u, [x][j]? = some u → (w.alloc (.cells #[x] T)).cell? ((⟨B, 0, none⟩ : Addr).add j) = some u := by subst hB; exact cell_one_new w x T
theorem row_al4 {w : World} {B : Nat} {e : TypeId} {v : Value} {n : Nat} {xs : List Value} (h : w.ownsRow B e 1 v n xs) (a b c d : Obj) : ((((w.alloc a).alloc b).alloc c).alloc d).ownsRow B e 1 v n xs := row_alloc (row_alloc (row_alloc (row_alloc h a) b) c) d
theorem own_lt {w : World} {B k n g : Nat} {T : TypeId} {v : Value} {xs : List Value} (h : w.ownsRow B T k v n xs) (hg : v.ownBlock = some g) : (∃ c, w.heap[g]? = some (.cells c T)) ∧ B ≤ g ∧ g < w.heap.size := by
 rcases h.2 with ⟨hv, _⟩ | ⟨g2, cap, cur, hv, hb, hh, _⟩
 · rw [hv] at hg; cases hg
 · rw [hv] at hg; simp only [Value.ownBlock, al_oi] at hg; subst hg; exact ⟨⟨cur, hh⟩, hb, zq4 hh⟩
theorem map_upd {α : Type} (f : Nat → α) (j : Nat) (x : α) : (List.range (j + 1)).map (fun i => if i = j then x else f i) = (List.range j).map f ++ [x] := by
 rw [List.range_succ, List.map_append]
 congr 1
 · refine List.map_congr_left fun i hi => ?_
   have := List.mem_range.1 hi
   rw [if_neg (by omega)]
 · simp
theorem MRes.next {w : World} {ws : List Int} {W j : Nat} {pv : Value} {most : Int} {mb b1 b3 : Nat → Nat} {av fv : Value} {wr w5 w7 : World} (h : MRes w ws W j pv most mb b1 b3 av fv wr) {g g7 cap cap7 : Nat}
 (hown5 : w5.ownsRow w.heap.size 116 1 (.slice (some ⟨g, 0, none⟩) (j + 1) cap) (j + 1) (ptrL mb j ++ [.pointer (some ⟨wr.heap.size + 1, 0, none⟩)]))
 (hgrow5 : ((((wr.alloc (.cells #[.int .i64 j] 3)).alloc (.cells (mach0 (w.heap.size + 2) W) 118)).alloc (.cells #[.pointer (some ⟨wr.heap.size + 1, 0, none⟩)] 116)).alloc (.cells #[.pointer (some ⟨wr.heap.size + 1, 0, none⟩)] 116)).grownBy w5 av.ownBlock)
 (hat5 : av.ownBlock = some g ∨ g = wr.heap.size + 4)
 (hown7 : w7.ownsRow w.heap.size 60 1 (.slice (some ⟨g7, 0, none⟩) (j + 1) cap7) (j + 1) (cloL w.heap.size b1 b3 j ++ [cloOf w.heap.size (wr.heap.size + 2) wr.heap.size]))
 (hgrow7 : (w5.alloc (.cells #[cloOf w.heap.size (wr.heap.size + 2) wr.heap.size] 60)).grownBy w7 fv.ownBlock) (hat7 : fv.ownBlock = some g7 ∨ g7 = w5.heap.size + 1) :
 MRes w ws W (j + 1) pv most (fun i => if i = j then wr.heap.size + 1 else mb i) (fun i => if i = j then wr.heap.size + 2 else b1 i) (fun i => if i = j then wr.heap.size else b3 i) (.slice (some ⟨g, 0, none⟩) (j + 1) cap) (.slice (some ⟨g7, 0, none⟩) (j + 1) cap7) w7 := by
 have hs := h.size
 have e1 : ((((wr.alloc (.cells #[.int .i64 j] 3)).alloc (.cells (mach0 (w.heap.size + 2) W) 118)).alloc (.cells #[.pointer (some ⟨wr.heap.size + 1, 0, none⟩)] 116)).alloc (.cells #[.pointer (some ⟨wr.heap.size + 1, 0, none⟩)] 116)).heap.size = wr.heap.size + 4 := by simp only [zq8]
 have h5s : wr.heap.size + 4 ≤ w5.heap.size := by rw [← e1]; exact hgrow5.size
 have h7s : w5.heap.size + 1 ≤ w7.heap.size := by have := hgrow7.size; rw [zq8] at this; exact this
 have hfv5 : ∀ b, b < w5.heap.size → fv.ownBlock ≠ some b → w7.heap[b]? = w5.heap[b]? := fun b hb hne => by
  rw [hgrow7.block b (by rw [zq8]; omega) (fun e => hne e.symm), zqc, if_neg (by omega)]
 have hext : ∀ b o, wr.heap[b]? = some o → av.ownBlock ≠ some b → fv.ownBlock ≠ some b → w7.heap[b]? = some o := fun b o hb h1 h2 => by
  have hlt := zq4 hb
  rw [hfv5 b (by omega) h2, hgrow5.block b (by rw [e1]; omega) (fun e => h1 e.symm)]
  exact al_old (al_old (al_old (al_old hb)))
 have hnew : ∀ b o, ((((wr.alloc (.cells #[.int .i64 j] 3)).alloc (.cells (mach0 (w.heap.size + 2) W) 118)).alloc (.cells #[.pointer (some ⟨wr.heap.size + 1, 0, none⟩)] 116)).alloc (.cells #[.pointer (some ⟨wr.heap.size + 1, 0, none⟩)] 116)).heap[b]? = some o → wr.heap.size ≤ b → w7.heap[b]? = some o := fun b o hb hge => by
  have hlt := zq4 hb
  rw [e1] at hlt
  have ha : av.ownBlock ≠ some b := fun e => by have := (own_lt h.arow e).2.2; omega
  have hf : fv.ownBlock ≠ some b := fun e => by have := (own_lt h.frow e).2.2; omega
  rw [hfv5 b (by omega) hf, hgrow5.block b (by rw [e1]; omega) (fun e => ha e.symm)]
  exact hb
 have hav : ∀ b c T f, wr.heap[b]? = some (.cells c T f) → T ≠ 116 → av.ownBlock ≠ some b := fun b c T f hb hT e => by
  obtain ⟨⟨c2, h2⟩, _⟩ := own_lt h.arow e; exact hT (heap_type hb h2)
 have hfv : ∀ b c T f, wr.heap[b]? = some (.cells c T f) → T ≠ 60 → fv.ownBlock ≠ some b := fun b c T f hb hT e => by
  obtain ⟨⟨c2, h2⟩, _⟩ := own_lt h.frow e; exact hT (heap_type hb h2)
 have hlo1 := h.lo1
 refine ⟨by omega, fun b hb => ?_, hext _ _ h.prg (hav _ _ _ _ h.prg (by decide)) (hfv _ _ _ _ h.prg (by decide)), hext _ _ h.mst (hav _ _ _ _ h.mst (by decide)) (hfv _ _ _ _ h.mst (by decide)), hext _ _ h.wds (hav _ _ _ _ h.wds (by decide)) (hfv _ _ _ _ h.wds (by decide)), ?_, ?_, fun i hi => ?_, fun i hi => ?_, fun i hi => ?_, fun i hi => ?_, fun i i' hi hi' => ?_, fun i hi => ?_, fun q hq => ?_⟩
 · have hbw : b < wr.heap.size := by omega
   obtain ⟨o, ho⟩ : ∃ o, wr.heap[b]? = some o := ⟨_, Array.getElem?_eq_getElem hbw⟩
   rw [hext b o ho (fun e => by have := h.lo1 b (.inl e); omega) (fun e => by have := h.lo1 b (.inr e); omega), ← ho]
   exact h.old b hb
 · unfold ptrL
   have : (fun i => Value.pointer (some ⟨if i = j then wr.heap.size + 1 else mb i, 0, none⟩)) = fun i => if i = j then .pointer (some ⟨wr.heap.size + 1, 0, none⟩) else .pointer (some ⟨mb i, 0, none⟩) := by funext i; split <;> rfl
   rw [this, map_upd]
   refine ownsRow_of hown5 fun g' hg' => ?_
   simp only [Value.ownBlock, al_oi] at hg'
   subst hg'
   obtain ⟨⟨c, hc⟩, _, hlt⟩ := own_lt hown5 rfl
   refine hfv5 g hlt fun e => ?_
   have := own_lt h.frow e
   rcases hat5 with h5 | h5
   · have h6 := own_lt h.arow h5
     obtain ⟨⟨c1, h7⟩, _⟩ := this
     obtain ⟨⟨c2, h8⟩, _⟩ := h6
     have := heap_type h7 h8
     exact absurd this (by decide)
   · omega
 · unfold cloL
   have : (fun i => cloOf w.heap.size (if i = j then wr.heap.size + 2 else b1 i) (if i = j then wr.heap.size else b3 i)) = fun i => if i = j then cloOf w.heap.size (wr.heap.size + 2) wr.heap.size else cloOf w.heap.size (b1 i) (b3 i) := by funext i; split <;> rfl
   rw [this, map_upd]
   exact hown7
 · by_cases e : i = j
   · simp only [e, if_true]
     refine hnew _ _ ?_ (by omega)
     refine al_old (al_old ?_)
     rw [zqc, if_pos (by simp only [zq8])]
   · simp only [e, if_false]
     have := h.mac i (by omega)
     exact hext _ _ this (hav _ _ _ _ this (by decide)) (hfv _ _ _ _ this (by decide))
 · by_cases e : i = j
   · simp only [e, if_true]
     refine hnew _ _ ?_ (by omega)
     refine al_old ?_
     rw [zqc, if_pos (by simp only [zq8])]
   · simp only [e, if_false]
     have := h.bx1 i (by omega)
     exact hext _ _ this (h.ne1 i (by omega)) (hfv _ _ _ _ this (by decide))
 · by_cases e : i = j
   · simp only [e, if_true]
     refine hnew _ _ ?_ (by omega)
     refine al_old (al_old (al_old ?_))
     rw [zqc, if_pos rfl]
   · simp only [e, if_false]
     have := h.bx3 i (by omega)
     exact hext _ _ this (hav _ _ _ _ this (by decide)) (hfv _ _ _ _ this (by decide))
 · by_cases e : i = j
   · simp only [e, if_true]; omega
   · simp only [e, if_false]; exact h.lo i (by omega)
 · have e : i ≠ j := by omega
   simp only [e, if_false]
   by_cases e2 : i' = j
   · simp only [e2, if_true]
     have := zq4 (h.bx1 i (by omega)); omega
   · simp only [e2, if_false]; exact h.inc i i' hi (by omega)
 · simp only [Value.ownBlock, ne_eq, al_oi]
   by_cases e : i = j
   · simp only [e, if_true]
     rcases hat5 with h5 | h5
     · have := (own_lt h.arow h5).2.2; omega
     · omega
   · simp only [e, if_false]
     rcases hat5 with h5 | h5
     · intro e2; subst e2; exact h.ne1 i (by omega) h5
     · have := zq4 (h.bx1 i (by omega)); omega
 · simp only [Value.ownBlock, al_oi] at hq
   rcases hq with rfl | rfl
   · rcases hat5 with h5 | h5
     · exact h.lo1 _ (.inl h5)
     · omega
   · rcases hat7 with h5 | h5
     · exact h.lo1 _ (.inr h5)
     · omega
theorem MRes.frow5' {w : World} {ws : List Int} {W j : Nat} {pv : Value} {most : Int} {mb b1 b3 : Nat → Nat} {av fv : Value} {wr w5 : World} (h : MRes w ws W j pv most mb b1 b3 av fv wr) {o1 o2 o3 o4 : Obj} (hg : ((((wr.alloc o1).alloc o2).alloc o3).alloc o4).grownBy w5 av.ownBlock) : w5.ownsRow w.heap.size 60 1 fv j (cloL w.heap.size b1 b3 j) := by
 refine ownsRow_of h.frow fun g hgg => ?_
 obtain ⟨⟨c, hc⟩, _, hlt⟩ := own_lt h.frow hgg
 rw [hg.block g (by simp only [zq8]; omega) (fun e => ?_)]
 · rw [zqc, if_neg (by simp only [zq8]; omega), zqc, if_neg (by simp only [zq8]; omega), zqc, if_neg (by simp only [zq8]; omega), zqc, if_neg (by omega)]
 · obtain ⟨⟨c2, hc2⟩, _⟩ := own_lt h.arow e.symm
   exact absurd (heap_type hc hc2) (by decide)
theorem MRes.size5' {w : World} {ws : List Int} {W j : Nat} {pv : Value} {most : Int} {mb b1 b3 : Nat → Nat} {av fv : Value} {wr w5 : World} (h : MRes w ws W j pv most mb b1 b3 av fv wr) {o1 o2 o3 o4 : Obj} {r : Option Nat} (hg : ((((wr.alloc o1).alloc o2).alloc o3).alloc o4).grownBy w5 r) : w.heap.size ≤ w5.heap.size := by
 have := hg.size
 simp only [zq8] at this
 have := h.size
 omega
theorem machines_lone {wp pp : Option Addr} {W C n Cp : Nat} {ws : List Int} (most : Int) (w : World) (hl : ws.length = W) (hW : W ≤ 1099511627776) (hn : n ≤ 4611686018427387904)
 (hws : 0 < W → ∃ wb wo, wp = some ⟨wb, wo, none⟩ ∧ ∀ i, i < W → w.cell? ⟨wb, wo + i, none⟩ = some (.int .i64 (ws.getD i 0))) :
 Calls Try.prog 23 #[.slice wp W C, .slice pp n Cp, .int .i64 most] w fun e w' => ∃ mb b1 b3 av fv, e = .returned (.tuple #[.slice (some ⟨w.heap.size + 2, 0, none⟩) W W, av, fv]) ∧ MRes w ws W (min n 64) (.slice pp n Cp) most mb b1 b3 av fv w' := by
 have hmk := fun w => make_words w W hW
 have HS := Lib.hid hws
 clear hws
 go_enter Try.func23, Try.ntmps23
 go_wp2
 have hP := Lib.hid (MPre.start w ws W (.slice pp n Cp) most)
 generalize (((w.alloc (.cells #[.slice pp n Cp] 30)).alloc (.cells #[.int .i64 most] 3)).alloc (.cells (Array.replicate W (Value.int .i64 0)) 114)) = w1 at hP ⊢
 generalize hbw : w.heap.size + 1 + 1 = bw
 generalize hH1 : w.heap.size + 1 = H1
 generalize hH : w.heap.size = H at hbw hH1 ⊢
 have HB : RowKit.Hid (H = w.heap.size ∧ H1 = w.heap.size + 1 ∧ bw = w.heap.size + 2) := ⟨hH.symm, by omega, by omega⟩
 have HL := Lib.hid hl
 clear hmk hbw hH1 hl
 go_loopg [21] W (fun k i wr => ∃ j : Nat, k = W - j ∧ j ≤ W ∧ i = .int .i64 j ∧ MPre w ws W (.slice pp n Cp) most j wr)
 case atStart => exact ⟨0, rfl, Nat.zero_le _, rfl, hP.out⟩
 case round =>
  obtain ⟨j, hk, hj, rfl, hR⟩ := hrel
  have HR := Lib.hid hR
  clear hR
  by_cases hlt : j < W
  · obtain ⟨wb, wo, rfl, hc⟩ := HS.out (by omega)
    obtain ⟨x, hx⟩ : ∃ x, ws.getD j 0 = x := ⟨_, rfl⟩
    have c1 := (zqe (HR.out.old wb (by have := hc j hlt; exact cell_lt this))).trans (hc j hlt)
    rw [hx] at c1
    have hlt' : (j : Int) < (W : Int) := by omega
    have hj0 : (0 : Int) ≤ j := by omega
    have HX := Lib.hid hx
    clear hc hx hH
    go_wp2_with (fail)
    have c2 := words_get HR.out.wds (i := j) (by have := HL.out; simp; omega)
    rw [← HB.out.2.2] at c2
    refine Calls.mono (store_lone _ _ _ _ _ c2 (zqf (HB.out.2.2 ▸ HR.out.wds))) ?_
    rintro e w' ⟨rfl, rfl⟩
    clear c1 c2
    go_wp2
    go_roundg (W - (j + 1))
    case measure => omega
    case rel => exact ⟨j + 1, rfl, by omega, rfl, by rw [← HX.out, HB.out.2.2]; exact HR.out.next HL.out hlt⟩
  · obtain rfl : j = W := by omega
    clear hH
    have c0 := (zq1 (off := 0) HR.out.prg).trans rfl
    rw [← HB.out.1] at c0
    have hn' : (n : Int) ≤ 4611686018427387904 := by omega
    obtain ⟨N, hN⟩ : ∃ N, min n 64 = N := ⟨_, rfl⟩
    go_wp2
    all_goals (
     have e1 : (64 : Int) = (N : Int) ∨ (n : Int) = (N : Int) := by omega
     first
      | (have e1 : (64 : Int) = (N : Int) := by omega
         rw [e1])
      | (have e1 : (n : Int) = (N : Int) := by omega
         rw [e1])
     have hN64 : N ≤ 64 := by omega
     have HN := Lib.hid hN
     clear hN c0 e1
     go_loopg [12, 13, 35] N (fun k a t i wr => ∃ (jj : Nat) (mb b1 b3 : Nat → Nat), k = N - jj ∧ jj ≤ N ∧ i = .int .i64 jj ∧ MRes w ws j jj (.slice pp n Cp) most mb b1 b3 a t wr)
     case atStart => exact ⟨0, fun _ => 0, fun _ => 0, fun _ => 0, rfl, Nat.zero_le _, rfl, HR.out.res HL.out _ _ _⟩
     case round =>
      obtain ⟨jj, mb, b1, b3, hk2, hj2, rfl, hR2⟩ := hrel
      have HR2 := Lib.hid hR2
      clear hR2
      by_cases hlt2 : jj < N
      · have hlt2' : (jj : Int) < (N : Int) := by omega
        obtain ⟨ti, hti, hz0, hz1, hz2⟩ : ∃ ti, Try.prog.info? 116 = some ti ∧ ti.zero = some (.pointer none) ∧ ti.size = 1 ∧ ti.bytes = 8 := ⟨_, rfl, rfl, rfl, rfl⟩
        obtain ⟨tj, htj, hy0, hy1, hy2⟩ : ∃ ti, Try.prog.info? 60 = some ti ∧ ti.zero = some .nilFunc ∧ ti.size = 1 ∧ ti.bytes = 8 := ⟨_, rfl, rfl, rfl, rfl⟩
        have TI := Lib.hid (And.intro hti (And.intro hz0 (And.intro hz1 hz2)))
        have TJ := Lib.hid (And.intro htj (And.intro hy0 (And.intro hy1 hy2)))
        clear hti hz0 hz1 hz2 htj hy0 hy1 hy2
        go_wp2_with (at_builtin; go_loud (refine wpList_append_lies _ rfl (.tmp 41) (.tmp 43) 65 rfl w.heap.size 116 ti (.pointer none) 1 8 (by kernel_rfl) TI.out.1 TI.out.2.1 TI.out.2.2.1 TI.out.2.2.2 rfl (by decide) _ jj (ptrL mb jj) rfl (row_al4 HR2.out.arow _ _ _ _) _ 1 1 [.pointer (some ⟨wr.heap.size + 1, 0, none⟩)] rfl rfl (one_new (by simp only [zq8])) (by simp [Value.oneCell']) (by decide) (by simp only [maxLen]; omega) (by omega) (by have := HR2.out.size; simp only [zq8]; omega) _ rfl ?next))
        case next =>
         intro g cap w5 hown5 hgrow5 hat5 hlt5
         have F5 := Lib.hid (HR2.out.frow5' hgrow5)
         have L5 := Lib.hid (And.intro hown5 (And.intro hgrow5 (And.intro hat5 (And.intro hlt5 (HR2.out.size5' hgrow5)))))
         clear hown5 hgrow5 hat5 hlt5
         go_wp2_with (at_builtin; go_loud (refine wpList_append_lies _ rfl (.tmp 45) (.tmp 47) 47 rfl w.heap.size 60 tj .nilFunc 1 8 (by kernel_rfl) TJ.out.1 TJ.out.2.1 TJ.out.2.2.1 TJ.out.2.2.2 rfl (by decide) _ jj (cloL w.heap.size b1 b3 jj) rfl (row_alloc F5.out _) _ 1 1 [.func (.func 40) #[] #[.pointer (some ⟨wr.heap.size + 1 + 1, 0, none⟩), .pointer (some ⟨H, 0, none⟩), .pointer (some ⟨wr.heap.size, 0, none⟩), .pointer (some ⟨H1, 0, none⟩)]] rfl rfl (one_new rfl) (by simp [Value.oneCell']) (by decide) (by simp only [maxLen]; omega) (by omega) (by have := L5.out.2.2.2.2; simp only [zq8]; omega) _ rfl ?next2))
         case next2 =>
          intro g7 cap7 w7 hown7 hgrow7 hat7 hlt7
          have L7 := Lib.hid (And.intro hown7 (And.intro hgrow7 hat7))
          clear hown7 hgrow7 hat7 hlt7
          go_wp2
          go_roundg (N - (jj + 1))
          case measure => omega
          case rel =>
           obtain ⟨rfl, rfl, rfl⟩ := HB.out
           obtain ⟨o5, g5, a5, _, _⟩ := L5.out
           obtain ⟨o7, q7, a7⟩ := L7.out
           try simp only [zq8] at a5
           try simp only [zq8] at a7
           exact ⟨jj + 1, _, _, _, rfl, by omega, rfl, HR2.out.next o5 g5 a5 o7 q7 a7⟩
      · obtain rfl : jj = N := by omega
        go_wp2
        go_ret3
        obtain ⟨rfl, rfl, rfl⟩ := HB.out
        rw [HN.out]
        exact ⟨mb, b1, b3, _, _, rfl, HR2.out⟩)
structure TPre (w : World) (j q : Nat) (av sv : List Value) (ans st : Value) (w' : World) : Prop where
 size : w.heap.size + 2 ≤ w'.heap.size
 old : ∀ b, b < w.heap.size → w'.heap[b]? = w.heap[b]?
 res : w'.heap[w.heap.size]? = some (.cells #[.slice none 0 0, .slice none 0 0, .slice none 0 0, .bool false] 28)
 var : w'.heap[w.heap.size + 1]? = some (.cells #[ans, .slice none 0 0, st, .bool false] 28)
 arow : w'.ownsRow (w.heap.size + 2) 36 1 ans j av
 srow : w'.ownsRow (w.heap.size + 2) 2 1 st q sv
theorem TPre.start (w : World) : TPre w 0 0 [] [] (.slice none 0 0) (.slice none 0 0) ((w.alloc (.cells #[.slice none 0 0, .slice none 0 0, .slice none 0 0, .bool false] 28)).alloc (.cells #[.slice none 0 0, .slice none 0 0, .slice none 0 0, .bool false] 28)) := by
 refine ⟨by simp only [zq8]; omega, fun b hb => ?_, ?_, ?_, World.ownsRow_nil _ _ _ _, World.ownsRow_nil _ _ _ _⟩
 · rw [zqc, if_neg (by simp only [zq8]; omega), zqc, if_neg (by omega)]
 · rw [zqc, if_neg (by simp only [zq8]; omega), zqc, if_pos rfl]
 · rw [zqc, if_pos (by simp only [zq8])]
theorem TPre.ans {w : World} {j q : Nat} {av sv : List Value} {ans st x : Value} {wr w5 : World} (h : TPre w j q av sv ans st wr) {g cap : Nat} {n : Nat}
 (hown : w5.ownsRow (w.heap.size + 2) 36 1 (.slice (some ⟨g, 0, none⟩) (j + 1) cap) (j + 1) (av ++ [x])) (hgrow : ((wr.drewN n).alloc (.cells #[x] 36)).grownBy w5 ans.ownBlock) :
 TPre w (j + 1) q (av ++ [x]) sv (.slice (some ⟨g, 0, none⟩) (j + 1) cap) st (w5.setCell ⟨w.heap.size + 1, 0, none⟩ (.slice (some ⟨g, 0, none⟩) (j + 1) cap)) := by
 have hs := h.size
 have hs5 : wr.heap.size + 1 ≤ w5.heap.size := by have := hgrow.size; rw [zq8] at this; exact this
 have h5 : ∀ b, b < wr.heap.size → ans.ownBlock ≠ some b → w5.heap[b]? = wr.heap[b]? := fun b hb hne => by
  rw [hgrow.block b (by rw [zq8]; exact Nat.lt_succ_of_lt hb) (fun e => hne e.symm), zqc, if_neg (by show b ≠ wr.heap.size; omega)]; rfl
 have hlo : ∀ g, ans.ownBlock = some g → w.heap.size + 2 ≤ g := fun g hg => (own_lt h.arow hg).2.1
 have hne := fun (e : ans.ownBlock = some (w.heap.size + 1)) => by have := hlo _ e; omega
 have hv5 : w5.heap[w.heap.size + 1]? = _ := (h5 _ (by omega) (fun e => by have := hlo _ e; omega)).trans h.var
 refine ⟨by rw [hp_size_set]; omega, fun b hb => ?_, ?_, ?_, ?_, ?_⟩
 · rw [zqa _ _ _ _ (show b ≠ w.heap.size + 1 by omega), h5 b (by omega) (fun e => by have := hlo _ e; omega)]; exact h.old b hb
 · rw [zqa _ _ _ _ (show w.heap.size ≠ w.heap.size + 1 by omega), h5 _ (by omega) (fun e => by have := hlo _ e; omega)]; exact h.res
 · exact (zqh _ _ _ _ hv5).trans rfl
 · refine ownsRow_of hown fun g' hg' => zqa _ _ _ _ ?_
   have := (own_lt hown hg').2.1
   show g' ≠ w.heap.size + 1; omega
 · refine ownsRow_of h.srow fun g' hg' => ?_
   obtain ⟨⟨c, hc⟩, hlo', hlt⟩ := own_lt h.srow hg'
   rw [zqa _ _ _ _ (show g' ≠ w.heap.size + 1 by omega)]
   refine h5 g' hlt fun e => ?_
   obtain ⟨⟨c2, hc2⟩, _⟩ := own_lt h.arow e
   exact absurd (heap_type hc hc2) (by decide)
theorem TPre.st {w : World} {j q : Nat} {av sv : List Value} {ans st x : Value} {wr w5 : World} (h : TPre w j q av sv ans st wr) {g cap : Nat} {n : Nat}
 (hown : w5.ownsRow (w.heap.size + 2) 2 1 (.slice (some ⟨g, 0, none⟩) (q + 1) cap) (q + 1) (sv ++ [x])) (hgrow : ((wr.drewN n).alloc (.cells #[x] 2)).grownBy w5 st.ownBlock) :
 TPre w j (q + 1) av (sv ++ [x]) ans (.slice (some ⟨g, 0, none⟩) (q + 1) cap) (w5.setCell ⟨w.heap.size + 1, 2, none⟩ (.slice (some ⟨g, 0, none⟩) (q + 1) cap)) := by
 have hs := h.size
 have hs5 : wr.heap.size + 1 ≤ w5.heap.size := by have := hgrow.size; rw [zq8] at this; exact this
 have h5 : ∀ b, b < wr.heap.size → st.ownBlock ≠ some b → w5.heap[b]? = wr.heap[b]? := fun b hb hne => by
  rw [hgrow.block b (by rw [zq8]; exact Nat.lt_succ_of_lt hb) (fun e => hne e.symm), zqc, if_neg (by show b ≠ wr.heap.size; omega)]; rfl
 have hlo : ∀ g, st.ownBlock = some g → w.heap.size + 2 ≤ g := fun g hg => (own_lt h.srow hg).2.1
 have hv5 : w5.heap[w.heap.size + 1]? = _ := (h5 _ (by omega) (fun e => by have := hlo _ e; omega)).trans h.var
 refine ⟨by rw [hp_size_set]; omega, fun b hb => ?_, ?_, ?_, ?_, ?_⟩
 · rw [zqa _ _ _ _ (show b ≠ w.heap.size + 1 by omega), h5 b (by omega) (fun e => by have := hlo _ e; omega)]; exact h.old b hb
 · rw [zqa _ _ _ _ (show w.heap.size ≠ w.heap.size + 1 by omega), h5 _ (by omega) (fun e => by have := hlo _ e; omega)]; exact h.res
 · exact (zqh _ _ _ _ hv5).trans rfl
 · refine ownsRow_of h.arow fun g' hg' => ?_
   obtain ⟨⟨c, hc⟩, hlo', hlt⟩ := own_lt h.arow hg'
   rw [zqa _ _ _ _ (show g' ≠ w.heap.size + 1 by omega)]
   refine h5 g' hlt fun e => ?_
   obtain ⟨⟨c2, hc2⟩, _⟩ := own_lt h.srow e
   exact absurd (heap_type hc hc2) (by decide)
 · refine ownsRow_of hown fun g' hg' => zqa _ _ _ _ ?_
   have := (own_lt hown hg').2.1
   show g' ≠ w.heap.size + 1; omega
structure TRes (w : World) (N W : Nat) (tv : Nat → Value) (ws : List Int) (ans st : Value) (w' : World) : Prop where
 size : w.heap.size ≤ w'.heap.size
 old : ∀ b, b < w.heap.size → w'.heap[b]? = w.heap[b]?
 arow : w'.ownsRow w.heap.size 36 1 ans N ((List.range N).map tv)
 srow : w'.ownsRow w.heap.size 2 1 st W (ws.map (Value.int .i64))
theorem ownsRow_base {w : World} {B B' n k : Nat} {T : TypeId} {v : Value} {xs : List Value} (h : w.ownsRow B T k v n xs) (hb : B' ≤ B) : w.ownsRow B' T k v n xs := by
 refine ⟨h.1, ?_⟩
 rcases h.2 with hv | ⟨g, cap, cur, hv, h1, h2⟩
 · exact .inl hv
 · exact .inr ⟨g, cap, cur, hv, Nat.le_trans hb h1, h2⟩
theorem own_slice {w : World} {B n k : Nat} {T : TypeId} {v : Value} {xs : List Value} (h : w.ownsRow B T k v n xs) : ∃ p m c, v = .slice p m c := by
 rcases h.2 with ⟨hv, _⟩ | ⟨g, cap, cur, hv, _⟩
 · exact ⟨_, _, _, hv⟩
 · exact ⟨_, _, _, hv⟩
theorem drewN_size (w : World) (n : Nat) : (w.drewN n).heap.size = w.heap.size := rfl
theorem trace_lone {bw W N Ca : Nat} {p : Option Addr} {mb : Nat → Nat} {tv : Nat → Value} {ws : List Int} (w : World) (hl : ws.length = W) (hW : W ≤ 1099511627776) (hN : N ≤ 64)
 (hw : w.heap[bw]? = some (.cells (ws.map (Value.int .i64)).toArray 114)) (hp : 0 < N → ∃ g, p = some ⟨g, 0, none⟩ ∧ ∀ i, i < N → w.cell? ⟨g, i, none⟩ = some (.pointer (some ⟨mb i, 0, none⟩))) (hm : ∀ i, i < N → w.cell? ⟨mb i, 5, none⟩ = some (tv i)) (hsl : ∀ i, i < N → ∃ p n c, tv i = .slice p n c) :
 Calls Try.prog 24 #[.slice (some ⟨bw, 0, none⟩) W W, .slice p N Ca] w fun e w' => ∃ ans st, e = .returned (.agg #[ans, .slice none 0 0, st, .bool false]) ∧ TRes w N W tv ws ans st w' := by
 have HP := Lib.hid hp
 have HM := Lib.hid hm
 have HSL := Lib.hid hsl
 have HW := Lib.hid hw
 clear hp hm hw hsl
 go_enter Try.func24, Try.ntmps24
 go_wp2
 have hP := Lib.hid (TPre.start w)
 generalize ((w.alloc (.cells #[.slice none 0 0, .slice none 0 0, .slice none 0 0, .bool false] 28)).alloc (.cells #[.slice none 0 0, .slice none 0 0, .slice none 0 0, .bool false] 28)) = w1 at hP ⊢
 generalize hH1 : w.heap.size + 1 = H1
 generalize hH : w.heap.size = H at hH1 ⊢
 have HB : RowKit.Hid (H = w.heap.size ∧ H1 = w.heap.size + 1) := ⟨hH.symm, by omega⟩
 have HL := Lib.hid hl
 clear hH1 hH hl
 go_loopg [11] N (fun k i wr => ∃ (j : Nat) (ans : Value), k = N - j ∧ j ≤ N ∧ i = .int .i64 j ∧ TPre w j 0 ((List.range j).map tv) [] ans (.slice none 0 0) wr)
 case atStart => exact ⟨0, .slice none 0 0, rfl, Nat.zero_le _, rfl, hP.out⟩
 case round =>
  obtain ⟨j, ans, hk, hj, rfl, hR⟩ := hrel
  have HR := Lib.hid hR
  clear hR
  by_cases hlt : j < N
  · obtain ⟨g, rfl, hc⟩ := HP.out (by omega)
    have c1 := (zqe (HR.out.old g (cell_lt (hc j hlt)))).trans (hc j hlt)
    have c2 := (zqe (HR.out.old (mb j) (cell_lt (HM.out j hlt)))).trans (HM.out j hlt)
    obtain ⟨xp, xn, xc, hx⟩ := HSL.out j hlt
    rw [hx] at c2
    obtain ⟨mbj, hmb⟩ : ∃ b, mb j = b := ⟨_, rfl⟩
    rw [hmb] at c1 c2
    have HX := Lib.hid hx
    have hlt' : (j : Int) < (N : Int) := by omega
    have hj0 : (0 : Int) ≤ j := by omega
    have c3 := (zq1 (off := 0) HR.out.var).trans rfl
    rw [← HB.out.2] at c3
    have hbl : mbj < wr.heap.size := cell_lt c2
    have hHl : H1 < wr.heap.size := cell_lt c3
    clear hc hx hmb
    go_wp2_with (fail)
    clear c1
    have C2 := Lib.hid c2
    have C3 := Lib.hid c3
    clear c2 c3
    refine wp_region_one (k := 7) (s := 6) (W0 := wr.drewN 1) (W1 := (wr.drewN 1).alloc (.cells #[.slice xp xn xc] 36)) (by kernel_rfl) (by kernel_rfl) (by kernel_rfl) (by kernel_rfl) (by decide) [.pointer (some ⟨H1, 0, none⟩), ans, .pointer (some ⟨mbj, 0, none⟩), .pointer (some ⟨mbj, 0, none⟩), .pointer (some ⟨mbj, 5, none⟩), .slice xp xn xc, .slice (some ⟨wr.heap.size, 0, none⟩) 1 1] rfl rfl ?_ ?_ ?_
    · intro i o hi his ho W hWW
      have q2 : W.cell? ⟨mbj, 5, none⟩ = some (.slice xp xn xc) := by
       rcases hWW with rfl | rfl
       · exact C2.out
       · exact (zqe (by rw [zqc, if_neg (by show mbj ≠ wr.heap.size; omega)]; rfl)).trans C2.out
      have q3 : W.cell? ⟨H1, 0, none⟩ = some ans := by
       rcases hWW with rfl | rfl
       · exact C3.out
       · exact (zqe (by rw [zqc, if_neg (by show H1 ≠ wr.heap.size; omega)]; rfl)).trans C3.out
      clear hWW
      simp only [putv, dstOf, al_gl, al_g0, al_g1, al_ob, al_g2, List.set_cons_succ, List.set_cons_zero]
      obtain rfl | rfl | rfl | rfl | rfl | rfl : i = 0 ∨ i = 1 ∨ i = 2 ∨ i = 3 ∨ i = 4 ∨ i = 5 := by omega
      all_goals (simp only [al_gl, al_g0, al_g1, al_oi] at ho; subst ho; refine .inl ?_)
      all_goals (simp only [execOp, Act.eval, al_gd, al_gl, al_g0, al_g1, al_od])
      all_goals (try go_simp)
    · intro o ho
      simp only [putv, dstOf, al_gl, al_g0, al_g1, al_ob, al_g2, List.set_cons_succ, List.set_cons_zero]
      simp only [al_gl, al_g0, al_g1, al_oi] at ho; subst ho; refine .inl ?_
      simp only [execOp, Act.eval, al_gd, al_gl, al_g0, al_g1, al_od]
      go_simp
    simp only [putv, dstOf, al_gl, al_g0, al_g1, al_ob, al_g2, List.set_cons_succ, List.set_cons_zero]
    refine wpAny_one (i := 7) (by kernel_rfl) ?_
    simp only [wpOp, al_gl, al_g0, al_g1]
    rw [if_pos (by rfl)]
    refine .inl ?_
    obtain ⟨ti, hti, hz0, hz1, hz2⟩ : ∃ ti, Try.prog.info? 36 = some ti ∧ ti.zero = some (.slice none 0 0) ∧ ti.size = 1 ∧ ti.bytes = 24 := ⟨_, rfl, rfl, rfl, rfl⟩
    have harow : ((wr.drewN 1).alloc (.cells #[.slice xp xn xc] 36)).ownsRow (w.heap.size + 2) 36 1 ans j ((List.range j).map tv) := row_alloc (ownsRow_of HR.out.arow fun _ _ => rfl) _
    refine wp_append_lies _ (.tmp 16) (.tmp 21) 26 (by rfl) (w.heap.size + 2) 36 ti (.slice none 0 0) 1 24 (by kernel_rfl) hti hz0 hz1 hz2 (by rfl) (by decide) ans j ((List.range j).map tv) (by rfl) harow ⟨wr.heap.size, 0, none⟩ 1 1 [.slice xp xn xc] (by rfl) rfl (one_new rfl) (by simp [Value.oneCell']) (by decide) (by simp only [maxLen]; omega) (by omega) (by have := HR.out.size; rw [zq8, drewN_size]; omega) _ rfl fun g2 cap w5 hown hgrow hat hlt5 => ?_
    have L5 := Lib.hid (HR.out.ans hown hgrow)
    have h5b : w5.heap[H1]? = some (.cells #[ans, .slice none 0 0, .slice none 0 0, .bool false] 28) := by
     rw [hgrow.block H1 (by rw [zq8]; exact Nat.lt_succ_of_lt hHl) (fun e => by have h1 := (own_lt HR.out.arow e.symm).2.1; have := HB.out.2; omega), zqc, if_neg (by show H1 ≠ wr.heap.size; omega), HB.out.2]
     exact HR.out.var
    have h5v := (zq1 (off := 0) h5b).trans rfl
    have h5z := zqf (off := 0) h5b
    clear h5b
    clear hown hgrow hat hlt5 harow hti hz0 hz1 hz2
    refine wpAny_one (i := 8) (by kernel_rfl) ?_
    simp only [wpOp, al_gl, al_g0, al_g1]
    rw [if_pos (by rfl)]
    refine .inl ?_
    go_simp
    refine wpAny_one (i := 9) (by kernel_rfl) ?_
    simp only [wpOp, al_gl, al_g0, al_g1]
    rw [if_pos (by rfl)]
    refine .inl ?_
    go_simp
    refine wpAny_end (by kernel_rfl) ?_
    clear h5v h5z
    go_wp2
    go_roundg (N - (j + 1))
    case measure => omega
    case rel =>
     obtain ⟨rfl, rfl⟩ := HB.out
     refine ⟨j + 1, .slice (some ⟨g2, 0, none⟩) (j + 1) cap, rfl, by omega, rfl, ?_⟩
     rw [List.range_succ, List.map_append]
     simp only [List.map_cons, List.map_nil, HX.out]
     exact L5.out
  · obtain rfl : N = j := by omega
    go_wp2
    have HA := Lib.hid HR.out
    go_loopg [27] W (fun k i wr => ∃ (j : Nat) (st : Value), k = W - j ∧ j ≤ W ∧ i = .int .i64 j ∧ TPre w N j ((List.range N).map tv) ((ws.take j).map (Value.int .i64)) ans st wr)
    case atStart => exact ⟨0, .slice none 0 0, rfl, Nat.zero_le _, rfl, HA.out⟩
    case round =>
     obtain ⟨j, st, hk, hj, rfl, hR⟩ := hrel
     clear HR HA
     have HR := Lib.hid hR
     clear hR
     by_cases hlt : j < W
     · have hjl : j < ws.length := by rw [HL.out]; exact hlt
       obtain ⟨x, hx⟩ : ∃ x, ws.getD j 0 = x := ⟨_, rfl⟩
       have c2 := words_get ((HR.out.old bw (zq4 HW.out)).trans HW.out) hjl
       rw [hx] at c2
       have HX := Lib.hid hx
       have hlt' : (j : Int) < (W : Int) := by omega
       have hj0 : (0 : Int) ≤ j := by omega
       have c3 := (zq1 (off := 2) HR.out.var).trans rfl
       rw [← HB.out.2] at c3
       have hbl : bw < wr.heap.size := cell_lt c2
       have hHl : H1 < wr.heap.size := cell_lt c3
       clear hx hjl
       go_wp2_with (fail)
       have C2 := Lib.hid c2
       have C3 := Lib.hid c3
       clear c2 c3
       refine wp_region_one (k := 7) (s := 6) (W0 := wr.drewN 1) (W1 := (wr.drewN 1).alloc (.cells #[.int .i64 x] 2)) (by kernel_rfl) (by kernel_rfl) (by kernel_rfl) (by kernel_rfl) (by decide) [.pointer (some ⟨H1, 2, none⟩), st, .slice (some ⟨bw, 0, none⟩) W W, .int .i64 j, .pointer (some ⟨bw, j, none⟩), .int .i64 x, .slice (some ⟨wr.heap.size, 0, none⟩) 1 1] rfl rfl ?_ ?_ ?_
       · intro i o hi his ho W' hWW
         have q2 : W'.cell? ⟨bw, j, none⟩ = some (.int .i64 x) := by
          rcases hWW with rfl | rfl
          · exact C2.out
          · exact (zqe (by rw [zqc, if_neg (by show bw ≠ wr.heap.size; omega)]; rfl)).trans C2.out
         have q3 : W'.cell? ⟨H1, 2, none⟩ = some st := by
          rcases hWW with rfl | rfl
          · exact C3.out
          · exact (zqe (by rw [zqc, if_neg (by show H1 ≠ wr.heap.size; omega)]; rfl)).trans C3.out
         clear hWW
         simp only [putv, dstOf, al_gl, al_g0, al_g1, al_ob, al_g2, List.set_cons_succ, List.set_cons_zero]
         obtain rfl | rfl | rfl | rfl | rfl | rfl : i = 5 ∨ i = 0 ∨ i = 1 ∨ i = 2 ∨ i = 3 ∨ i = 4 := by omega
         · simp only [al_gl, al_g0, al_g1, al_oi] at ho
           subst ho
           refine .inr ⟨42, #[.pointer (some ⟨bw, j, none⟩)], ?_, load_lone _ _ _ _ q2⟩
           simp [go_sem, execOp, Act.eval, resolve, Deferred.ofValue, invoke, callFunc, Try.func42, Try.f42]
         all_goals (simp only [al_gl, al_g0, al_g1, al_oi] at ho; subst ho; refine .inl ?_)
         all_goals (simp only [execOp, Act.eval, al_gd, al_gl, al_g0, al_g1, al_od])
         all_goals (try go_simp)
       · intro o ho
         simp only [putv, dstOf, al_gl, al_g0, al_g1, al_ob, al_g2, List.set_cons_succ, List.set_cons_zero]
         simp only [al_gl, al_g0, al_g1, al_oi] at ho; subst ho; refine .inl ?_
         simp only [execOp, Act.eval, al_gd, al_gl, al_g0, al_g1, al_od]
         go_simp
       simp only [putv, dstOf, al_gl, al_g0, al_g1, al_ob, al_g2, List.set_cons_succ, List.set_cons_zero]
       refine wpAny_one (i := 7) (by kernel_rfl) ?_
       simp only [wpOp, al_gl, al_g0, al_g1]
       rw [if_pos (by rfl)]
       refine .inl ?_
       obtain ⟨ti, hti, hz0, hz1, hz2⟩ : ∃ ti, Try.prog.info? 2 = some ti ∧ ti.zero = some (.int .i64 0) ∧ ti.size = 1 ∧ ti.bytes = 8 := ⟨_, rfl, rfl, rfl, rfl⟩
       have hsrow : ((wr.drewN 1).alloc (.cells #[.int .i64 x] 2)).ownsRow (w.heap.size + 2) 2 1 st j ((ws.take j).map (Value.int .i64)) := row_alloc (ownsRow_of HR.out.srow fun _ _ => rfl) _
       refine wp_append_lies _ (.tmp 31) (.tmp 36) 22 (by rfl) (w.heap.size + 2) 2 ti (.int .i64 0) 1 8 (by kernel_rfl) hti hz0 hz1 hz2 (by rfl) (by decide) st j ((ws.take j).map (Value.int .i64)) (by rfl) hsrow ⟨wr.heap.size, 0, none⟩ 1 1 [.int .i64 x] (by rfl) rfl (one_new rfl) (by simp [Value.oneCell']) (by decide) (by simp only [maxLen]; omega) (by omega) (by have := HR.out.size; rw [zq8, drewN_size]; omega) _ rfl fun g2 cap w5 hown hgrow hat hlt5 => ?_
       have L5 := Lib.hid (HR.out.st hown hgrow)
       have h5b : w5.heap[H1]? = some (.cells #[ans, .slice none 0 0, st, .bool false] 28) := by
        rw [hgrow.block H1 (by rw [zq8]; exact Nat.lt_succ_of_lt hHl) (fun e => by have h1 := (own_lt HR.out.srow e.symm).2.1; have := HB.out.2; omega), zqc, if_neg (by show H1 ≠ wr.heap.size; omega), HB.out.2]
        exact HR.out.var
       have h5v := (zq1 (off := 2) h5b).trans rfl
       have h5z := zqf (off := 2) h5b
       clear h5b hown hgrow hat hlt5 hsrow hti hz0 hz1 hz2
       refine wpAny_one (i := 8) (by kernel_rfl) ?_
       simp only [wpOp, al_gl, al_g0, al_g1]
       rw [if_pos (by rfl)]
       refine .inl ?_
       go_simp
       refine wpAny_one (i := 9) (by kernel_rfl) ?_
       simp only [wpOp, al_gl, al_g0, al_g1]
       rw [if_pos (by rfl)]
       refine .inl ?_
       go_simp
       refine wpAny_end (by kernel_rfl) ?_
       clear h5v h5z
       go_wp2
       go_roundg (W - (j + 1))
       case measure => omega
       case rel =>
        obtain ⟨rfl, rfl⟩ := HB.out
        refine ⟨j + 1, .slice (some ⟨g2, 0, none⟩) (j + 1) cap, rfl, by omega, rfl, ?_⟩
        have e : (ws.take (j + 1)).map (Value.int .i64) = (ws.take j).map (Value.int .i64) ++ [.int .i64 x] := by
         have hjl : j < ws.length := by rw [HL.out]; exact hlt
         rw [List.take_add_one, List.map_append, ← HX.out]
         simp [hjl]
        rw [e]
        exact L5.out
     · obtain rfl : W = j := by omega
       obtain ⟨pa, na, ca, rfl⟩ := own_slice HR.out.arow
       obtain ⟨ps, ns, cs, rfl⟩ := own_slice HR.out.srow
       have v0 := (zq1 (off := 0) HR.out.var).trans rfl
       have v1 := (zq1 (off := 1) HR.out.var).trans rfl
       have v2 := (zq1 (off := 2) HR.out.var).trans rfl
       have v3 := (zq1 (off := 3) HR.out.var).trans rfl
       have r0 := (zq1 (off := 0) HR.out.res).trans rfl
       have r1 := (zq1 (off := 1) HR.out.res).trans rfl
       have r2 := (zq1 (off := 2) HR.out.res).trans rfl
       have r3 := (zq1 (off := 3) HR.out.res).trans rfl
       have z0 := zqf (off := 0) HR.out.res
       have z1 := zqf (off := 1) HR.out.res
       have z2 := zqf (off := 2) HR.out.res
       have z3 := zqf (off := 3) HR.out.res
       have hne : ¬ (H = H1) := by have := HB.out; omega
       have hne2 : ¬ (H1 = H) := by have := HB.out; omega
       rw [← HB.out.1] at r0 r1 r2 r3 z0 z1 z2 z3
       rw [← HB.out.2] at v0 v1 v2 v3
       go_wp2
       have hR := HR.out
       have hHs : H = w.heap.size := HB.out.1
       have b0 : wr.heap[H]? = some (.cells #[.slice none 0 0, .slice none 0 0, .slice none 0 0, .bool false] 28) := by rw [hHs]; exact hR.res
       have b1 := zqh wr H 0 (.slice pa na ca) b0
       have b2 := zqh _ H 1 (.slice none 0 0) b1
       have b3 := zqh _ H 2 (.slice ps ns cs) b2
       have b4 := zqh _ H 3 (.bool false) b3
       clear r0 r1 r2 r3 z0 z1 z2 z3 v0 v1 v2 v3 b0 b1 b2 b3
       have k0 := (zq1 (off := 0) b4).trans rfl
       have k1 := (zq1 (off := 1) b4).trans rfl
       have k2 := (zq1 (off := 2) b4).trans rfl
       have k3 := (zq1 (off := 3) b4).trans rfl
       have hfin : TRes w N W tv ws (.slice pa na ca) (.slice ps ns cs) ((((wr.setCell ⟨H, 0, none⟩ (.slice pa na ca)).setCell ⟨H, 1, none⟩ (.slice none 0 0)).setCell ⟨H, 2, none⟩ (.slice ps ns cs)).setCell ⟨H, 3, none⟩ (.bool false)) := by
        clear k0 k1 k2 k3 b4
        refine ⟨?_, fun b hb => ?_, ?_, ?_⟩
        · simp only [hp_size_set]; have := hR.size; omega
        · rw [zqa _ _ _ _ (show b ≠ H by omega), zqa _ _ _ _ (show b ≠ H by omega), zqa _ _ _ _ (show b ≠ H by omega), zqa _ _ _ _ (show b ≠ H by omega)]
          exact hR.old b hb
        · refine ownsRow_of (ownsRow_base hR.arow (by omega)) fun g hg => ?_
          have := (own_lt hR.arow hg).2.1
          rw [zqa _ _ _ _ (show g ≠ H by omega), zqa _ _ _ _ (show g ≠ H by omega), zqa _ _ _ _ (show g ≠ H by omega), zqa _ _ _ _ (show g ≠ H by omega)]
        · have hh := hR.srow
          rw [← HL.out, List.take_length, HL.out] at hh
          refine ownsRow_of (ownsRow_base hh (by omega)) fun g hg => ?_
          have := (own_lt hR.srow hg).2.1
          rw [zqa _ _ _ _ (show g ≠ H by omega), zqa _ _ _ _ (show g ≠ H by omega), zqa _ _ _ _ (show g ≠ H by omega), zqa _ _ _ _ (show g ≠ H by omega)]
       generalize ((((wr.setCell ⟨H, 0, none⟩ (.slice pa na ca)).setCell ⟨H, 1, none⟩ (.slice none 0 0)).setCell ⟨H, 2, none⟩ (.slice ps ns cs)).setCell ⟨H, 3, none⟩ (.bool false)) = w9 at *
       refine ⟨rfl, .agg #[.slice pa na ca, .slice none 0 0, .slice ps ns cs, .bool false], ?_, _, _, rfl, hfin⟩
       simp only [results, Try.f24]
       simp [go_sem, k0, k1, k2, k3]
end Go.Proofs
set_option maxHeartbeats 1000000
namespace Go.Car
open Go Go.Conc Go.RowKit
section
variable {P : Program} {main : Bool} {Kc : Addr → Option Value} {γ : Type} {J : γ → Goroutine → World → Prop} {A : FuncId → Bool}
theorem at_lone (hJ : JS P main Kc J) (hcalm : CalmJ P main J) (hP : Plain P A) {c : Code} (hc : okCode P A c = true) (C : Array Value → World → Prop)
 (hC : ∀ t w τ d, C t w → C t (re w τ d)) {b : Frame} {k : List Item} {cs : List Frame} (hb : b.kind ≠ .early) {s : γ} {a : Act} {w : World}
 (h : ∀ τ d, Code.wp P c (ends (fun a w => C a.tmps w) (fun _ _ => False)) ⟨a.tmps, []⟩ (re w τ d))
 (hq : ∀ t w', C t w' → J s (G (b.at ⟨t, a.defers⟩ k) cs) w') : J s (G (b.at a (.code c :: k)) cs) w := by
 refine wpJ_lone (Q := fun s' e a' w' => s' = s ∧ e = .normal ∧ a'.defers = a.defers ∧ C a'.tmps w') hJ hcalm hP hc (fun a w => C a.tmps w) (fun _ _ => False) (fun a w τ d h => hC _ _ _ _ h) (fun _ _ _ _ h => h) h (fun t w h => ⟨rfl, rfl, rfl, h⟩) (fun _ _ h => h.elim) b k cs hb ?_
 rintro s' e ⟨t, ds⟩ w' ⟨rfl, rfl, hd, h⟩
 simp only at hd
 subst hd
 exact hq t w' h
theorem at_calls_lone (hJ : JS P main Kc J) (hcalm : CalmJ P main J) (hP : Plain P A) {f : FuncId} {fn : Func} {c : Code} {args : Array Value} {s : γ} {w : World} (hf : P.funcs[f]? = some fn) (hb : fn.body = some c) (hc : okCode P A c = true)
 {R : Value → World → Prop} (hR : ∀ v w τ d, R v w → R v (re w τ d)) (h : ∀ τ d, Calls P f args (re w τ d) fun e w' => ∃ v, e = .returned v ∧ R v w') {cl : Frame} {cs : List Frame}
 (hq : ∀ v w', R v w' → J s (G (cl.finish v) cs) w') : J s (G (Frame.enter P f args .normal) (cl :: cs)) w := by
 refine callsJ_lone hJ hcalm hP hf hb hc hR (fun τ d => Calls.mono (h τ d) ?_) cl cs ?_ ?_
 · rintro e w' ⟨v, rfl, h⟩; exact h
 · rintro s' v w' ⟨rfl, h⟩; exact hq v w' h
 · rintro s' ch w' h; exact h.elim
theorem at_rest_lone (hJ : JS P main Kc J) (hcalm : CalmJ P main J) (hP : Plain P A) {c : Code} (hc : okCode P A c = true) (R : Value → World → Prop)
 (hR : ∀ v w τ d, R v w → R v (re w τ d)) {b : Frame} (hb : b.kind = .normal) {fn : Func} (hf : P.funcs[b.fn]? = some fn) {cl : Frame} {cs : List Frame} {s : γ} {t : Array Value} {w : World}
 (h : ∀ τ d, Code.wp P c (bodyPost P fn fun e w' => ∃ v, e = .returned v ∧ R v w') ⟨t, []⟩ (re w τ d))
 (hq : ∀ v w', R v w' → J s (G (cl.finish v) cs) w') : J s (G (b.at ⟨t, []⟩ [.code c]) (cl :: cs)) w := by
 let Φ : Act → World → Prop := fun a w => ∃ v, (results fn a.tmps).run P w = .ok v w ∧ R v w
 have hΦ : ∀ a w τ d, Φ a w → Φ a (re w τ d) := fun a w τ d ⟨v, h1, h2⟩ => ⟨v, results_re h1 τ d, hR _ _ _ _ h2⟩
 have hleave : ∀ (t : Array Value) (w : World) (todo : List Item), Φ ⟨t, []⟩ w → J s (G { b.at ⟨t, []⟩ todo with mode := .returning } (cl :: cs)) w := fun t w todo ⟨v, h1, h2⟩ =>
  leaveJ hJ hb rfl hf (fun τ d => results_re h1 τ d) (hq v w h2)
 refine wpJ_lone (Q := fun s' e a' w' => s' = s ∧ (e = .normal ∨ e = .ret) ∧ a'.defers = [] ∧ Φ a' w') hJ hcalm hP hc Φ Φ hΦ hΦ (fun τ d => ?_) (fun t w h => ⟨rfl, .inl rfl, rfl, h⟩) (fun t w h => ⟨rfl, .inr rfl, rfl, h⟩) b [] (cl :: cs) (by rw [hb]; decide) ?_
 · refine Code.wp_mono ?_ (h τ d)
   intro e a w hh
   cases e with
   | normal => obtain ⟨h1, v, h2, v', h3, h4⟩ := hh; cases h3; exact ⟨h1, v, h2, h4⟩
   | ret => obtain ⟨h1, v, h2, v', h3, h4⟩ := hh; cases h3; exact ⟨h1, v, h2, h4⟩
   | panic ch => obtain ⟨h1, v, h2, _⟩ := hh; cases h2
   | outgrown => obtain ⟨v, h2, _⟩ := hh; cases h2
   | _ => exact hh
 · rintro s' e ⟨t', ds⟩ w' ⟨rfl, he, hd, h⟩
   simp only at hd
   subst hd
   rcases he with rfl | rfl
   · exact hJ.ctl (fun w => stepG_end) (hleave t' w' [] h)
   · exact fun todo => hleave t' w' todo h
end
end Go.Car
set_option maxHeartbeats 1000000
set_option maxRecDepth 100000
namespace Go.Proofs
open Go Go.Conc Go.RowKit Go.Car
structure ProgsAt (w : World) (pp : Option Addr) (n N : Nat) (prog : Nat → List Cd) (PB : Nat → Prop) : Prop where
 at' : 0 < N → ∃ pb cur, pp = some ⟨pb, 0, none⟩ ∧ PB pb ∧ w.heap[pb]? = some (.cells cur 69) ∧ ∀ i, i < N → ∃ pv, cur[i]? = some pv ∧ ((pv = .slice none 0 0 ∧ prog i = []) ∨ ∃ g cap c2, pv = .slice (some ⟨g, 0, none⟩) (prog i).length cap ∧ PB g ∧ w.heap[g]? = some (.cells c2 74) ∧ c2.toList.take ((prog i).length * 5) = progL (prog i))
 le : N ≤ n
 lt : ∀ b, PB b → b < w.heap.size
def mch0 : Mch := { regs := fun _ => 0, told := [], next := 0, most := -1 }
def mm0 (ws : List Int) (room : Nat) : MM := ⟨ws, fun _ => mch0, fun _ => .slice none 0 0, fun _ => none, room, fun _ => false⟩
open Classical in
noncomputable def msOf (w w1 : World) (N W : Nat) (mb b1 b3 : Nat → Nat) (prog : Nat → List Cd) (PB : Nat → Prop) : MS where
 N := N
 W := W
 bw := w.heap.size + 2
 mb := mb
 ro := fun b => if PB b ∨ b = w.heap.size ∨ b = w.heap.size + 1 ∨ ∃ i, i < N ∧ (b = b1 i ∨ b = b3 i) then w1.heap[b]? else none
 base := w.heap.size
 prog := prog
section
variable {w w1 : World} {ws : List Int} {W N n Cp : Nat} {pp : Option Addr} {mb b1 b3 : Nat → Nat} {av fv : Value} {prog : Nat → List Cd} {PB : Nat → Prop}
theorem ro_yes {b : Nat} (h : PB b ∨ b = w.heap.size ∨ b = w.heap.size + 1 ∨ ∃ i, i < N ∧ (b = b1 i ∨ b = b3 i)) : (msOf w w1 N W mb b1 b3 prog PB).ro b = w1.heap[b]? := if_pos h
theorem ro_some {b : Nat} {o : Obj} (h : (msOf w w1 N W mb b1 b3 prog PB).ro b = some o) : (PB b ∨ b = w.heap.size ∨ b = w.heap.size + 1 ∨ ∃ i, i < N ∧ (b = b1 i ∨ b = b3 i)) ∧ w1.heap[b]? = some o := by
 unfold msOf at h
 simp only at h
 split at h
 · rename_i hh; exact ⟨hh, h⟩
 · cases h
theorem ro_no {b : Nat} (h : ¬ (PB b ∨ b = w.heap.size ∨ b = w.heap.size + 1 ∨ ∃ i, i < N ∧ (b = b1 i ∨ b = b3 i))) : (msOf w w1 N W mb b1 b3 prog PB).ro b = none := if_neg h
theorem rep0 (h : MRes w ws W N (.slice pp n Cp) (-1) mb b1 b3 av fv w1) (hl : ws.length = W) (hPB : ∀ b, PB b → b < w.heap.size) {room : Nat} (hroom : 4096 * (room + 1) ≤ 8589934592) : (msOf w w1 N W mb b1 b3 prog PB).Rep (mm0 ws room) w1 := by
 have hlo := h.lo
 have hinc := h.inc
 have lt : ∀ i j, i < j → j < N → mb i < mb j := fun i j hij hj => by
  have := hlo i (by omega); have := hlo j hj; have := hinc i j hij hj; omega
 refine ⟨⟨hl, h.wds, fun i hi => h.mac i hi, fun i hi => World.ownsRow_nil _ _ _ _, fun i b _ hb => (by cases hb), fun b o hb => (ro_some hb).2, fun i j hi hj e => ?_, ⟨ro_no ?_, fun i hi => ro_no ?_, fun i g _ hg => (by cases hg), fun i g _ hg => (by cases hg)⟩, fun i j g _ _ _ hg => (by cases hg), ?_, fun i j g _ _ _ hg => (by cases hg)⟩, fun i hi => ?_⟩
 · have e' : mb i = mb j := e
   rcases Nat.lt_trichotomy i j with h1 | h1 | h1
   · have := lt i j h1 hj; omega
   · exact h1
   · have := lt j i h1 hi; omega
 · show ¬ (PB (w.heap.size + 2) ∨ w.heap.size + 2 = w.heap.size ∨ w.heap.size + 2 = w.heap.size + 1 ∨ ∃ i, i < N ∧ (w.heap.size + 2 = b1 i ∨ w.heap.size + 2 = b3 i))
   rintro (e | e | e | ⟨i, hi, e | e⟩)
   · have := hPB _ e; omega
   · omega
   · omega
   · have := hlo i hi; omega
   · have := hlo i hi; omega
 · show ¬ (PB (mb i) ∨ mb i = w.heap.size ∨ mb i = w.heap.size + 1 ∨ ∃ j, j < N ∧ (mb i = b1 j ∨ mb i = b3 j))
   have hi' : i < N := hi
   have h0 := hlo i hi'
   rintro (e | e | e | ⟨j, hj, e | e⟩)
   · have := hPB _ e; omega
   · omega
   · omega
   · exact heap_ne (h.mac i hi') (h.bx1 j hj) (by decide) e
   · exact heap_ne (h.mac i hi') (h.bx3 j hj) (by decide) e
 · show w.heap.size ≤ w.heap.size + 2; omega
 · show ([] : List Int).length + 4096 * (room + if false = true then 0 else 1) ≤ _
   simpa using hroom
theorem foot0 (h : MRes w ws W N (.slice pp n Cp) (-1) mb b1 b3 av fv w1) {room b : Nat} (hb : (msOf w w1 N W mb b1 b3 prog PB).foot (mm0 ws room) b) : PB b ∨ (w.heap.size ≤ b ∧ (b ≤ w.heap.size + 2 ∨ ∃ i, i < N ∧ (b = mb i ∨ b = b1 i ∨ b = b3 i))) := by
 rcases hb with e | ⟨i, hi, e | e | e⟩ | ⟨o, e⟩
 · have e' : b = w.heap.size + 2 := e
   right; exact ⟨by omega, .inl (by omega)⟩
 · have e' : b = mb i := e
   have := h.lo i hi
   right; exact ⟨by omega, .inr ⟨i, hi, .inl e'⟩⟩
 · cases e
 · cases e
 · rcases (ro_some e).1 with e | e | e | ⟨i, hi, e⟩
   · exact .inl e
   · right; exact ⟨by omega, .inl (by omega)⟩
   · right; exact ⟨by omega, .inl (by omega)⟩
   · have := h.lo i hi
     right; exact ⟨by rcases e with e | e <;> omega, .inr ⟨i, hi, .inr e⟩⟩
theorem runs0 (h : MRes w ws W N (.slice pp n Cp) (-1) mb b1 b3 av fv w1) (hp : ProgsAt w pp n N prog PB) {room : Nat} (NE : List PanicEntry → Prop) {i : Nat} (hi : i < N) :
 Runs Try.prog (msOf w w1 N W mb b1 b3 prog PB).thr 74 96 NE (mm0 ws room) i (cloOf w.heap.size (b1 i) (b3 i)) := by
 obtain ⟨pb, cur, rfl, hpb, hcur, hall⟩ := hp.at' (by omega)
 obtain ⟨pv, hpv, hprog⟩ := hall i hi
 have old := h.old
 have hle := hp.le
 refine mach_runs (S := msOf w w1 N W mb b1 b3 prog PB) hi (most := -1) (pv := pv) ?_ ⟨b1 i, w.heap.size, b3 i, w.heap.size + 1, pb, n, Cp, cur, _, _, _, _, _, rfl, (ro_yes (.inr (.inr (.inr ⟨i, hi, .inl rfl⟩)))).trans (h.bx1 i hi), (ro_yes (.inr (.inl rfl))).trans h.prg, (ro_yes (.inr (.inr (.inr ⟨i, hi, .inr rfl⟩)))).trans (h.bx3 i hi), (ro_yes (.inr (.inr (.inl rfl)))).trans h.mst, (ro_yes (.inl hpb)).trans ((old pb (hp.lt pb hpb)).trans hcur), by omega, hpv⟩ rfl rfl rfl NE
 rcases hprog with h1 | ⟨g, cap, c2, h1, h2, h3, h4⟩
 · exact .inl h1
 · exact .inr ⟨g, cap, c2, h1, (ro_yes (.inl h2)).trans ((old g (hp.lt g h2)).trans h3), h4⟩
end
structure PlayRes (w : World) (N W : Nat) (P : PSt) (ans v st : Value) (tv : Nat → Value) (w' : World) : Prop where
 size : w.heap.size ≤ w'.heap.size
 old : ∀ b, b < w.heap.size → w'.heap[b]? = w.heap[b]?
 arow : w'.ownsRow w.heap.size 36 1 ans N ((List.range N).map tv)
 told : ∀ i, i < N → w'.ownsRow w.heap.size 38 3 (tv i) (P.mem.th i).told.length (toldL (P.mem.th i).told)
 orow : w'.ownsRow w.heap.size 3 1 v P.ord.length (P.ord.map fun (i : Nat) => .int .i64 i)
 srow : w'.ownsRow w.heap.size 2 1 st W (P.mem.ws.map (Value.int .i64))
 sep : ∀ i j g, i < N → j < N → i ≠ j → (tv i).ownBlock = some g → (tv j).ownBlock ≠ some g
 len : P.mem.ws.length = W
theorem play_pure {w w1 w2 w3 : World} {ws : List Int} {W N n Cp most room : Nat} {pp : Option Addr} {mb b1 b3 : Nat → Nat} {av fv : Value} {prog : Nat → List Cd} {PB : Nat → Prop} {sched : List Int} {b : OSt MM} {m' : MM} {v : Value} {g : Nat} {ans st : Value} (hl : ws.length = W)
 (h : MRes w ws W N (.slice pp n Cp) (-1) mb b1 b3 av fv w1) (hp : ProgsAt w pp n N prog PB) (ho : Over1 (msOf w w1 N W mb b1 b3 prog PB).thr N most sched (mm0 ws room) w1 b m' v g w2) (ht : TRes w2 N W m'.tv m'.ws ans st w3) :
 PlayRes w N W (playP prog N most sched ⟨ws, fun _ => mch0⟩) ans v st m'.tv w3 ∧ leftN b.ov N = leftN (playP prog N most sched ⟨ws, fun _ => mch0⟩).ov N := by
 obtain ⟨hsame, habs⟩ := ran_P (MS.machines (msOf w w1 N W mb b1 b3 prog PB)) ho.ran
 have e0 : (mm0 ws room).mem = ⟨ws, fun _ => mch0⟩ := rfl
 rw [e0] at hsame
 have hmem : m'.mem = (playP (msOf w w1 N W mb b1 b3 prog PB).prog N most sched ⟨ws, fun _ => mch0⟩).mem := habs.trans hsame.mem
 have hth : ∀ i, m'.th i = (playP prog N most sched ⟨ws, fun _ => mch0⟩).mem.th i := fun i => by have := congrArg (fun x => x.th i) hmem; exact this
 have hws : m'.ws = (playP prog N most sched ⟨ws, fun _ => mch0⟩).mem.ws := by have := congrArg (fun x => x.ws) hmem; exact this
 have hrep : (msOf w w1 N W mb b1 b3 prog PB).Rep m' w2 := ho.rep
 have hB := hrep.body
 have s1 := h.size
 have s2 : w1.heap.size ≤ w2.heap.size := ho.size
 refine ⟨⟨by have := ht.size; omega, fun x hx => ?_, ownsRow_base ht.arow (by omega), fun i hi => ?_, ?_, ?_, hB.sep, ?_⟩, ?_⟩
 · rw [ht.old x (by omega)]
   by_cases hf : (msOf w w1 N W mb b1 b3 prog PB).foot (mm0 ws room) x
   · rcases foot0 h hf with hx2 | ⟨hx2, _⟩
     · have hlt1 : x < w1.heap.size := by omega
       obtain ⟨o, hoo⟩ : ∃ o, w1.heap[x]? = some o := ⟨_, Array.getElem?_eq_getElem hlt1⟩
       have hro : (msOf w w1 N W mb b1 b3 prog PB).ro x = some o := (ro_yes (.inl hx2)).trans hoo
       rw [hB.ro x o hro, ← hoo]
       exact h.old x hx
     · omega
   · rw [ho.old x (by omega) hf]; exact h.old x hx
 · have := hB.told i hi
   rw [hth i] at this
   refine ownsRow_of this fun g' hg' => ?_
   exact ht.old g' (own_lt this hg').2.2
 · have := ho.row
   rw [hsame.ord] at this
   refine ownsRow_of (ownsRow_base this (by omega)) fun g' hg' => ?_
   exact ht.old g' (own_lt this hg').2.2
 · have := ht.srow
   rw [hws] at this
   exact ownsRow_base this (by omega)
 · rw [← hws]; exact hB.len
 · rw [hsame.ov]; rfl
theorem play_left {w w1 w2 : World} {ws : List Int} {W N most room : Nat} {mb b1 b3 : Nat → Nat} {prog : Nat → List Cd} {PB : Nat → Prop} {sched : List Int} {b : OSt MM} {m' : MM} {v : Value} {g : Nat}
 (ho : Over1 (msOf w w1 N W mb b1 b3 prog PB).thr N most sched (mm0 ws room) w1 b m' v g w2) : leftN b.ov N = leftN (playP prog N most sched ⟨ws, fun _ => mch0⟩).ov N := by
 obtain ⟨hsame, habs⟩ := ran_P (MS.machines (msOf w w1 N W mb b1 b3 prog PB)) ho.ran
 rw [hsame.ov]; rfl
end Go.Proofs
