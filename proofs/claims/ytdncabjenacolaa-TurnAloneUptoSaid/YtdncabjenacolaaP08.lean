/- YtdncabjenacolaaTAlone9: part 8 of the proof (the texts behind it, in order). -/
import Derived.Test.YtdncabjenacolaaP07
set_option linter.unusedSimpArgs false
set_option linter.unusedVariables false
set_option linter.unusedSectionVars false
set_option linter.unnecessarySimpa false
set_option maxHeartbeats 1000000
set_option maxRecDepth 100000
namespace Go.Proofs
open Go Go.Conc Go.RowKit Go.Car
open Go.ConcN (upd upd_ne upd_same)
noncomputable def lpA : Code := match headC (overT 4) with | .seq _ (.block _ (.loop c)) => c | _ => .skip
noncomputable def r5c : Code := headC lpA
noncomputable def r7c : Code := tailN 3 lpA
theorem lpA_eq : lpA = .seq r5c (.seq (.cond (.tmp 31) .skip (.exit 0)) (.seq (.block 1 r6c) r7c)) := by kernel_rfl
theorem over4 : overT 4 = .seq (.seq (headC (headC (overT 4))) (.block 0 (.loop lpA))) (overT 5) := by kernel_rfl
theorem over5 : overT 5 = .seq (headC (overT 5)) (overT 6) := by kernel_rfl
theorem over3 : overT 3 = .seq (headC (overT 3)) (overT 4) := by kernel_rfl
theorem code_eq {γ : Type} {J : γ → Goroutine → World → Prop} {s : γ} {b : Frame} {a : Act} {c x : Code} {k : List Item} {cs : List Frame} {w : World} (e : c = x) (h : J s (G (b.at a (.code x :: k)) cs) w) : J s (G (b.at a (.code c :: k)) cs) w := by rw [e]; exact h
def stL (st : Nat → Nat) (j : Nat) : List Value := (List.range j).map fun i => .pointer (some ⟨st i, 0, none⟩)
theorem stL_succ (st : Nat → Nat) (j s : Nat) : stL (fun i => if i = j then s else st i) (j + 1) = stL st j ++ [.pointer (some ⟨s, 0, none⟩)] := by
 unfold stL
 rw [List.range_succ, List.map_append]
 congr 1
 · refine List.map_congr_left fun i hi => ?_
   have := List.mem_range.1 hi
   show Value.pointer (some ⟨if i = j then s else st i, 0, none⟩) = _
   rw [if_neg (by omega)]
 · simp
structure St4 (N bX bT bB back capB : Nat) (w₀ : World) (j : Nat) (st pass : Nat → Nat) (sv : Value) (w : World) : Prop where
 bt : w.heap[bT]? = some (.cells #[.chan (some back), sv, .slice (some ⟨bB, 0, none⟩) N capB] 95)
 row : w.ownsRow w₀.heap.size 96 1 sv j (stL st j)
 old : ∀ b, b < w₀.heap.size → b ≠ bT → w.heap[b]? = w₀.heap[b]?
 ge : w₀.heap.size ≤ w.heap.size
 std : ∀ i, i < j → w.heap[st i]? = some (.cells #[.pointer (some ⟨bT, 0, none⟩), .chan (some (pass i)), .bool false] 99)
 ps : ∀ i, i < j → w.heap[pass i]? = some (.chan 0 #[] false 0 0 false)
 lo : ∀ i, i < j → w₀.heap.size ≤ pass i ∧ pass i < st i
 inc : ∀ i i', i < i' → i' < j → st i < pass i'
theorem St4.row_at {N bX bT bB back capB : Nat} {w₀ : World} {j : Nat} {st pass : Nat → Nat} {sv : Value} {w : World} (h : St4 N bX bT bB back capB w₀ j st pass sv w) {g : Nat} (hg : sv.ownBlock = some g) : w₀.heap.size ≤ g ∧ ∃ c, w.heap[g]? = some (.cells c 96) := by
 rcases h.row.2 with ⟨hv, _⟩ | ⟨g2, cap, cur, hv, h1, h2, h3⟩
 · rw [hv] at hg; cases hg
 · rw [hv] at hg; simp only [Value.ownBlock, al_oi] at hg; subst hg; exact ⟨h1, cur, h2⟩
theorem St4.next {N bX bT bB back capB : Nat} {w₀ : World} {j : Nat} {st pass : Nat → Nat} {sv : Value} {w : World} (h : St4 N bX bT bB back capB w₀ j st pass sv w) (hbt : bT < w₀.heap.size) {w' : World} {c s : Nat} {v' : Value} (hge : w.heap.size ≤ w'.heap.size)
 (hext : ∀ b, b ≠ bT → sv.ownBlock ≠ some b → ∀ o, w.heap[b]? = some o → w'.heap[b]? = some o) (hT : w'.heap[bT]? = some (.cells #[.chan (some back), v', .slice (some ⟨bB, 0, none⟩) N capB] 95)) (hrow : w'.ownsRow w₀.heap.size 96 1 v' (j + 1) (stL st j ++ [.pointer (some ⟨s, 0, none⟩)]))
 (hc : w'.heap[c]? = some (.chan 0 #[] false 0 0 false)) (hcl : w.heap.size ≤ c) (hs : w'.heap[s]? = some (.cells #[.pointer (some ⟨bT, 0, none⟩), .chan (some c), .bool false] 99)) (hcs : c < s) :
 St4 N bX bT bB back capB w₀ (j + 1) (fun i => if i = j then s else st i) (fun i => if i = j then c else pass i) v' w' := by
 have hg := fun g => h.row_at (g := g)
 have hge' := h.ge
 have lt : ∀ b o, w.heap[b]? = some o → b < w.heap.size := fun b o hb => zq4 hb
 refine ⟨hT, by rw [stL_succ]; exact hrow, fun b hb hne => ?_, by omega, fun i hi => ?_, fun i hi => ?_, fun i hi => ?_, fun i i' hi hi' => ?_⟩
 · obtain ⟨o, ho⟩ : ∃ o, w₀.heap[b]? = some o := ⟨_, Array.getElem?_eq_getElem hb⟩
   rw [ho]
   refine hext b hne (fun e => ?_) o ((h.old b hb hne).trans ho)
   have := (hg b e).1; omega
 · show w'.heap[if i = j then s else st i]? = some (.cells #[.pointer (some ⟨bT, 0, none⟩), .chan (some (if i = j then c else pass i)), .bool false] 99)
   by_cases e : i = j
   · rw [if_pos e, if_pos e]; exact hs
   · rw [if_neg e, if_neg e]
     have hi' : i < j := by omega
     have h1 := h.std i hi'
     refine hext _ (fun e2 => ?_) (fun e2 => ?_) _ h1
     · have := h.lo i hi'; omega
     · obtain ⟨_, c2, h2⟩ := hg _ e2
       rw [h1] at h2; cases h2
 · show w'.heap[if i = j then c else pass i]? = _
   by_cases e : i = j
   · rw [if_pos e]; exact hc
   · rw [if_neg e]
     have hi' : i < j := by omega
     have h1 := h.ps i hi'
     refine hext _ (fun e2 => ?_) (fun e2 => ?_) _ h1
     · have := h.lo i hi'; omega
     · obtain ⟨_, c2, h2⟩ := hg _ e2
       rw [h1] at h2; cases h2
 · show w₀.heap.size ≤ (if i = j then c else pass i) ∧ (if i = j then c else pass i) < (if i = j then s else st i)
   by_cases e : i = j
   · rw [if_pos e, if_pos e]; omega
   · rw [if_neg e, if_neg e]; exact h.lo i (by omega)
 · show (if i = j then s else st i) < (if i' = j then c else pass i')
   rw [if_neg (by omega)]
   by_cases e : i' = j
   · rw [if_pos e]
     have := lt _ _ (h.std i (by omega)); omega
   · rw [if_neg e]; exact h.inc i i' hi (by omega)
theorem four_exit {Fin : Machine → Trace → Prop} (hFin : Back Try.prog Fin) {n N : Nat} {T : Array Value} {w : World} {K : List Item} {cs : List Frame} (hsz : T.size = 129) (f29 : T[29]? = some (.int .i64 N)) (f30 : T[30]? = some (.int .i64 N))
 (hmain : ∀ T' : Array Value, T'.size = 129 → (∀ t, t < 29 → T'[t]? = T[t]?) → J0 Try.prog Fin n (G ((bN 14).at ⟨T', []⟩ K) cs) w) :
 J0 Try.prog Fin n (G ((bN 14).at ⟨T, []⟩ (.code lpA :: .inLoop lpA :: .inBlock 0 :: K)) cs) w := by
 have hJ := j0_JS hFin
 have hm := Lib.hid hmain
 clear hmain
 refine code_eq (J := J0 Try.prog Fin) lpA_eq ?_
 obtain ⟨u0, hu0⟩ : ∃ c, r5c = c := ⟨_, rfl⟩
 have eu0 := hu0
 rw [hu0]
 simp only [r5c, r7c, lpA, overT, headC, tailN, Try.f14, al_od] at eu0
 subst eu0
 clear hu0
 refine hJ.ctl (s := n) (fun w => stepG_seq) ?_
 refine hJ.ctl (s := n) (fun w => stepG_region) ?_
 refine at_eval (s := n) hJ (by decide) 0 [.bool false] [] rfl (by simp) (by rfl) ?_ ?_
 · intro τ d
   simp only [evalsO, dstOf, al_gl, al_g0, al_g1, al_ob]
   refine ⟨?_, trivial⟩ <;> (intro o ho; simp only [al_oi] at ho; subst ho)
   all_goals (try simp only [execOp, Act.eval, List.map_toArray, List.map_cons, List.map_nil, al_gd])
   all_goals (try simp only [al_gs, al_gz, hsz, f29, f30, Nat.reduceEqDiff, Nat.reduceLT, ↓reduceIte, al_od])
   all_goals (have hlt : ∀ i, i < 129 → i < (T).size := fun i hi => (by rw [hsz]; exact hi))
   all_goals (clear hsz f29 f30)
   all_goals (try go_simp)
   all_goals (try omega)
 simp only [putv, dstOf, al_gl, al_g0, al_g1, al_ob]
 obtain ⟨T1, hT⟩ : ∃ X, X = (T).setIfInBounds 31 (.bool false) := ⟨_, rfl⟩
 rw [← hT]
 have hT1 : T1.size = 129 := by rw [hT]; simp [hsz]
 have T1_29 := sg1 hT f29
 have T1_30 := sg1 hT f30
 have T1_31 : T1[31]? = some (.bool false) := by rw [hT]; simp [al_gs, hsz]
 have hk1 : ∀ t, t < 29 → T1[t]? = T[t]? := fun t ht => by rw [hT, al_gn (by omega)]
 clear hT f29 f30 hsz
 refine hJ.ctl (s := n) (fun w => stepG_region_end) ?_
 refine hJ.ctl (s := n) (fun w => stepG_seq) ?_
 refine hJ.ctl (s := n) (fun w => stepG_cond (t := false) (by simp [Act.eval, al_gd, T1_31])) ?_
 simp only [Bool.false_eq_true, if_false]
 refine hJ.ctl (s := n) (fun w => stepG_exit (k' := K) rfl) ?_
 exact hm.out _ hT1 (fun t ht => hk1 t ht)
theorem four_one {Fin : Machine → Trace → Prop} (hFin : Back Try.prog Fin) {n N bX bT bB back capB : Nat} {w₀ : World} {j : Nat} {st pass : Nat → Nat} {sv : Value} {T : Array Value} {w : World} {K : List Item} {cs : List Frame} (hj : j < N) (hN : N ≤ 64) (hsz : T.size = 129) (f10 : T[10]? = some (.pointer (some ⟨bX, 0, none⟩))) (f29 : T[29]? = some (.int .i64 N)) (f30 : T[30]? = some (.int .i64 j))
 (h : St4 N bX bT bB back capB w₀ j st pass sv w) (hbt : bT < w₀.heap.size) (hX : w.heap[bX]? = some (.cells #[.pointer (some ⟨bT, 0, none⟩)] 91))
 (hmain : ∀ (T' : Array Value) (w' : World) (st' pass' : Nat → Nat) (sv' : Value), St4 N bX bT bB back capB w₀ (j + 1) st' pass' sv' w' → T'.size = 129 → (∀ t, t < 29 → T'[t]? = T[t]?) → T'[29]? = some (.int .i64 N) → T'[30]? = some (.int .i64 (j + 1 : Nat)) →
  J0 Try.prog Fin n (G ((bN 14).at ⟨T', []⟩ (.code lpA :: .inLoop lpA :: .inBlock 0 :: K)) cs) w') :
 J0 Try.prog Fin n (G ((bN 14).at ⟨T, []⟩ (.code lpA :: .inLoop lpA :: .inBlock 0 :: K)) cs) w := by
 have hJ := j0_JS hFin
 have hm := Lib.hid hmain
 clear hmain
 have hjN : (j : Int) < N := by omega
 obtain ⟨lp, hlp⟩ : ∃ c, lpA = c := ⟨_, rfl⟩
 have elp := lpA_eq
 rw [hlp] at hm elp ⊢
 refine code_eq (J := J0 Try.prog Fin) elp ?_
 obtain ⟨u0, hu0⟩ : ∃ c, r5c = c := ⟨_, rfl⟩
 have eu0 := hu0
 rw [hu0]
 simp only [r5c, r7c, lpA, overT, headC, tailN, Try.f14, al_od] at eu0
 subst eu0
 clear hu0
 refine hJ.ctl (s := n) (fun w => stepG_seq) ?_
 refine hJ.ctl (s := n) (fun w => stepG_region) ?_
 refine at_eval (s := n) hJ (by decide) 0 [.bool true] [] rfl (by simp) (by rfl) ?_ ?_
 · intro τ d
   simp only [evalsO, dstOf, al_gl, al_g0, al_g1, al_ob]
   refine ⟨?_, trivial⟩ <;> (intro o ho; simp only [al_oi] at ho; subst ho)
   all_goals (try simp only [execOp, Act.eval, List.map_toArray, List.map_cons, List.map_nil, al_gd])
   all_goals (try simp only [al_gs, al_gz, hsz, f29, f30, Nat.reduceEqDiff, Nat.reduceLT, ↓reduceIte, al_od])
   all_goals (have hlt : ∀ i, i < 129 → i < (T).size := fun i hi => (by rw [hsz]; exact hi))
   all_goals (clear hsz f29 f30)
   all_goals (try go_simp)
   all_goals (try omega)
 simp only [putv, dstOf, al_gl, al_g0, al_g1, al_ob]
 obtain ⟨T1, hT⟩ : ∃ X, X = (T).setIfInBounds 31 (.bool true) := ⟨_, rfl⟩
 rw [← hT]
 have hT1 : T1.size = 129 := by rw [hT]; simp [hsz]
 have T1_29 := sg1 hT f29
 have T1_30 := sg1 hT f30
 have T1_31 : T1[31]? = some (.bool true) := by rw [hT]; simp [al_gs, hsz]
 have hk1 : ∀ t, t < 29 → T1[t]? = T[t]? := fun t ht => by rw [hT, al_gn (by omega)]
 clear hT f29 f30 hsz
 refine hJ.ctl (s := n) (fun w => stepG_region_end) ?_
 refine hJ.ctl (s := n) (fun w => stepG_seq) ?_
 refine hJ.ctl (s := n) (fun w => stepG_cond (t := true) (by simp [Act.eval, al_gd, T1_31])) ?_
 simp only [if_true]
 refine hJ.ctl (s := n) (fun w => stepG_skip) ?_
 refine hJ.ctl (s := n) (fun w => stepG_seq) ?_
 refine hJ.ctl (s := n) (fun w => stepG_block) ?_
 have hX1 : bX ≠ bT := fun e => by subst e; rw [h.bt] at hX; cases hX
 refine over_sixth hFin (E := fun b => if b = bT ∨ sv.ownBlock = some b then none else w.heap[b]?) (by omega) hT1 ((hk1 10 (by omega)).trans f10) (bT := bT) (bX := bX) (back := back) (bB := bB) (N := N) (capB := capB) (l := stL st j) (sv := sv) (B1 := w₀.heap.size) ?_ ?_ ?_ ?_ h.bt h.row h.ge
  fun T2 w2 c s v' k1 k2 k3 k4 k5 k6 k7 k8 k9 k10 => ?_
 · show (if bX = bT ∨ sv.ownBlock = some bX then none else w.heap[bX]?) = _
   rw [if_neg]
   · exact hX
   · rintro (e | e)
     · exact hX1 e
     · obtain ⟨_, c2, h2⟩ := h.row_at e
       rw [hX] at h2; cases h2
 · exact if_pos (.inl rfl)
 · exact fun g hg => if_pos (.inr hg)
 · intro b o hb
   split at hb
   · cases hb
   · exact hb
 have h2 := h.next hbt (w' := w2) (c := c) (s := s) (v' := v') k3 (fun b e1 e2 o ho => k4 b o (by show (if b = bT ∨ sv.ownBlock = some b then none else w.heap[b]?) = _; rw [if_neg (fun e => e.elim e1 e2)]; exact ho)) k5 k6 k7 k8 k9 k10
 refine hJ.ctl (s := n) (fun w => stepG_inBlock) ?_
 have g29 := (k2 29 (by omega)).trans T1_29
 have g30 := (k2 30 (by omega)).trans T1_30
 have hk2 : ∀ t, t < 29 → T2[t]? = T[t]? := fun t ht => (k2 t (by omega)).trans (hk1 t ht)
 clear k2 k3 k4 k5 k6 k7 k8 k9 k10 T1_29 T1_30 T1_31 hk1
 have hwr : IntKind.i64.wrap ((j : Int) + 1) = ((j + 1 : Nat) : Int) := by
  rw [show (j : Int) + 1 = ((j + 1 : Nat) : Int) by omega]
  exact IntWalk.i64_in _ (by omega)
 have hm2 := fun (T' : Array Value) => hm.out T' w2 _ _ _ h2
 clear hm hX
 have hm := Lib.hid hm2
 clear hm2 h2 h
 obtain ⟨u0, hu0⟩ : ∃ c, r7c = c := ⟨_, rfl⟩
 have eu0 := hu0
 rw [hu0]
 simp only [r5c, r7c, lpA, overT, headC, tailN, Try.f14, al_od] at eu0
 subst eu0
 clear hu0
 refine hJ.ctl (s := n) (fun w => stepG_region) ?_
 refine at_eval (s := n) hJ (by decide) 0 [.int .i64 ((j + 1 : Nat) : Int), .int .i64 ((j + 1 : Nat) : Int)] [] rfl (by simp) (by rfl) ?_ ?_
 · intro τ d
   simp only [evalsO, dstOf, al_gl, al_g0, al_g1, al_ob]
   refine ⟨?_, ?_, trivial⟩ <;> (intro o ho; simp only [al_oi] at ho; subst ho)
   all_goals (try simp only [execOp, Act.eval, List.map_toArray, List.map_cons, List.map_nil, al_gd])
   all_goals (try simp only [al_gs, al_gz, k1, g29, g30, Nat.reduceEqDiff, Nat.reduceLT, ↓reduceIte, al_od])
   all_goals (have hlt : ∀ i, i < 129 → i < (T2).size := fun i hi => (by rw [k1]; exact hi))
   all_goals (clear k1 g29 g30)
   all_goals (try go_simp)
   all_goals (try omega)
 simp only [putv, dstOf, al_gl, al_g0, al_g1, al_ob]
 obtain ⟨T3, hT⟩ : ∃ X, X = ((T2).setIfInBounds 45 (.int .i64 ((j + 1 : Nat) : Int))).setIfInBounds 30 (.int .i64 ((j + 1 : Nat) : Int)) := ⟨_, rfl⟩
 rw [← hT]
 have hT3 : T3.size = 129 := by rw [hT]; simp [k1]
 have T3_29 := sg2 hT g29
 have T3_45 : T3[45]? = some (.int .i64 ((j + 1 : Nat) : Int)) := by rw [hT]; simp [al_gs, k1]
 have T3_30 : T3[30]? = some (.int .i64 ((j + 1 : Nat) : Int)) := by rw [hT]; simp [al_gs, k1]
 have hk3 : ∀ t, t < 29 → T3[t]? = T[t]? := fun t ht => by rw [hT, al_gn (by omega), al_gn (by omega)]; exact hk2 t ht
 clear hT g29 g30 k1
 refine hJ.ctl (s := n) (fun w => stepG_region_end) ?_
 refine hJ.ctl (s := n) (fun w => stepG_inLoop) ?_
 exact hm.out _ hT3 hk3 T3_29 T3_30
theorem four_loop {Fin : Machine → Trace → Prop} (hFin : Back Try.prog Fin) {n N bX bT bB back capB : Nat} {w₀ : World} (hN : N ≤ 64) (hbt : bT < w₀.heap.size) (hbX : bX < w₀.heap.size) (hXT : bX ≠ bT) (hX : w₀.heap[bX]? = some (.cells #[.pointer (some ⟨bT, 0, none⟩)] 91)) {K : List Item} {cs : List Frame} :
 ∀ (r j : Nat), j + r = N → ∀ {st pass : Nat → Nat} {sv : Value} {T : Array Value} {w : World}, T.size = 129 → T[10]? = some (.pointer (some ⟨bX, 0, none⟩)) → T[29]? = some (.int .i64 N) → T[30]? = some (.int .i64 j) → St4 N bX bT bB back capB w₀ j st pass sv w →
  (∀ (T' : Array Value) (w' : World) (st' pass' : Nat → Nat) (sv' : Value), St4 N bX bT bB back capB w₀ N st' pass' sv' w' → T'.size = 129 → (∀ t, t < 29 → T'[t]? = T[t]?) → J0 Try.prog Fin n (G ((bN 14).at ⟨T', []⟩ K) cs) w') →
  J0 Try.prog Fin n (G ((bN 14).at ⟨T, []⟩ (.code lpA :: .inLoop lpA :: .inBlock 0 :: K)) cs) w := by
 intro r
 induction r with
 | zero =>
  intro j hj st pass sv T w hsz f10 f29 f30 h hmain
  have e : j = N := by omega
  subst e
  exact four_exit hFin hsz f29 f30 fun T' h1 h2 => hmain T' w st pass sv h h1 h2
 | succ r ih =>
  intro j hj st pass sv T w hsz f10 f29 f30 h hmain
  refine four_one hFin (by omega) hN hsz f10 f29 f30 h hbt ((h.old _ hbX hXT).trans hX) fun T' w' st' pass' sv' h' k1 k2 k3 k4 => ?_
  exact ih (j + 1) (by omega) k1 ((k2 10 (by omega)).trans f10) k3 k4 h' fun T2 w2 s2 p2 v2 h2 q1 q2 => hmain T2 w2 s2 p2 v2 h2 q1 fun t ht => (q2 t ht).trans (k2 t ht)
theorem over_fourth {Fin : Machine → Trace → Prop} (hFin : Back Try.prog Fin) {n N bX bT bB back capB : Nat} {w₀ : World} {bn : Nat} {T : Array Value} {K : List Item} {cs : List Frame} (hN : N ≤ 64) (hbt : bT < w₀.heap.size) (hbX : bX < w₀.heap.size) (hXT : bX ≠ bT) (hX : w₀.heap[bX]? = some (.cells #[.pointer (some ⟨bT, 0, none⟩)] 91))
 (hsz : T.size = 129) (f9 : T[9]? = some (.pointer (some ⟨bn, 0, none⟩))) (cn : w₀.cell? ⟨bn, 0, none⟩ = some (.int .i64 N)) (f10 : T[10]? = some (.pointer (some ⟨bX, 0, none⟩))) (h : St4 N bX bT bB back capB w₀ 0 (fun _ => 0) (fun _ => 0) (.slice none 0 0) w₀)
 (hmain : ∀ (T' : Array Value) (w' : World) (st pass : Nat → Nat) (sv : Value) (w1 : World), St4 N bX bT bB back capB w₀ N st pass sv w1 → T'.size = 129 → (∀ t, t < 29 → t ≠ 11 → T'[t]? = T[t]?) → T'[11]? = some (.pointer (some ⟨w1.heap.size, 0, none⟩)) →
  w'.heap.size = w1.heap.size + 1 → (∀ b, b < w1.heap.size → w'.heap[b]? = w1.heap[b]?) → w'.heap[w1.heap.size]? = some (.cells #[.int .i64 0] 3) → J0 Try.prog Fin n (G ((bN 14).at ⟨T', []⟩ (.code (overT 6) :: K)) cs) w') :
 J0 Try.prog Fin n (G ((bN 14).at ⟨T, []⟩ (.code (overT 4) :: K)) cs) w₀ := by
 have hJ := j0_JS hFin
 have hm1 := fun (T' : Array Value) (w' : World) (st pass : Nat → Nat) (sv : Value) (w1 : World) (q : St4 N bX bT bB back capB w₀ N st pass sv w1) => hmain T' w' st pass sv w1 q
 have hm := Lib.hid hm1
 clear hmain hm1
 rw [over4, over5]
 generalize overT 6 = rest at hm ⊢
 obtain ⟨u0, hu0⟩ : ∃ c, headC (headC (overT 4)) = c := ⟨_, rfl⟩
 have eu0 := hu0
 rw [hu0]
 simp only [r5c, r7c, lpA, overT, headC, tailN, Try.f14, al_od] at eu0
 subst eu0
 clear hu0
 obtain ⟨u1, hu1⟩ : ∃ c, headC (overT 5) = c := ⟨_, rfl⟩
 have eu1 := hu1
 rw [hu1]
 simp only [r5c, r7c, lpA, overT, headC, tailN, Try.f14, al_od] at eu1
 subst eu1
 clear hu1
 refine hJ.ctl (s := n) (fun w => stepG_seq) ?_
 refine hJ.ctl (s := n) (fun w => stepG_seq) ?_
 refine hJ.ctl (s := n) (fun w => stepG_region) ?_
 refine at_eval (s := n) hJ (by decide) 0 [.int .i64 N, .int .i64 (0 : Nat)] [] rfl (by simp) (by rfl) ?_ ?_
 · intro τ d
   simp only [evalsO, dstOf, al_gl, al_g0, al_g1, al_ob]
   refine ⟨?_, ?_, trivial⟩ <;> (intro o ho; simp only [al_oi] at ho; subst ho)
   all_goals (try simp only [execOp, Act.eval, List.map_toArray, List.map_cons, List.map_nil, al_gd])
   all_goals (try simp only [al_gs, al_gz, hsz, f9, Nat.reduceEqDiff, Nat.reduceLT, ↓reduceIte, al_od])
   all_goals (have hlt : ∀ i, i < 129 → i < (T).size := fun i hi => (by rw [hsz]; exact hi))
   all_goals (clear hsz f9)
   all_goals (try go_simp)
   all_goals (try omega)
 simp only [putv, dstOf, al_gl, al_g0, al_g1, al_ob]
 obtain ⟨T1, hT⟩ : ∃ X, X = ((T).setIfInBounds 29 (.int .i64 N)).setIfInBounds 30 (.int .i64 (0 : Nat)) := ⟨_, rfl⟩
 rw [← hT]
 have hT1 : T1.size = 129 := by rw [hT]; simp [hsz]
 have T1_9 := sg2 hT f9
 have T1_29 : T1[29]? = some (.int .i64 N) := by rw [hT]; simp [al_gs, hsz]
 have T1_30 : T1[30]? = some (.int .i64 (0 : Nat)) := by rw [hT]; simp [al_gs, hsz]
 have hk1 : ∀ t, t < 29 → T1[t]? = T[t]? := fun t ht => by rw [hT, al_gn (by omega), al_gn (by omega)]
 clear hT f9 hsz
 refine hJ.ctl (s := n) (fun w => stepG_region_end) ?_
 refine hJ.ctl (s := n) (fun w => stepG_block) ?_
 refine hJ.ctl (s := n) (fun w => stepG_loop) ?_
 refine four_loop hFin hN hbt hbX hXT hX N 0 (by omega) hT1 ((hk1 10 (by omega)).trans f10) T1_29 T1_30 h fun T2 w2 st pass sv h2 q1 q2 => ?_
 have hm2 := hm.out
 have hge := h2.ge
 clear hm
 refine hJ.ctl (s := n) (fun w => stepG_seq) ?_
 refine hJ.ctl (s := n) (fun w => stepG_region) ?_
 have hk2 : ∀ t, t < 29 → T2[t]? = T[t]? := fun t ht => (q2 t ht).trans (hk1 t ht)
 obtain ⟨B0, hs⟩ : ∃ B0, w2.heap.size = B0 := ⟨_, rfl⟩
 clear q2 hk1 T1_9 T1_29 T1_30
 have hm3 := fun (T' : Array Value) (w' : World) => hm2 T' w' st pass sv w2 h2
 rw [hs] at hm3
 have hm := Lib.hid hm3
 clear hm2 hm3 h2 h hX
 have ho : ∀ b, b < B0 → w2.heap[b]? = w2.heap[b]? := fun _ _ => rfl
 refine at_opF hJ (by decide) (s := n) (i := 0) (rest := [1]) rfl rfl rfl rfl fun τ dd => ?_
 refine ⟨.pointer (some ⟨B0, 0, none⟩), re (w2.alloc (.cells #[.int .i64 0] 3)) τ dd, ?_, ?_⟩
 · simp only [List.getElem_toArray, List.getElem_cons_zero, List.getElem_cons_succ, execOp, Act.eval, List.map_toArray, List.map_cons, List.map_nil, al_gd, q1, al_od]
   clear q1
   (go_simp)
   all_goals (first | rfl | (simp [hs]; done) | skip)
 refine hJ.re' _ _ _ τ dd ?_
 generalize hw : w2.alloc (.cells #[.int .i64 0] 3) = w3
 have hsw3 : w3.heap.size = B0 + 1 := by rw [← hw, zq8, hs]
 have how3 : ∀ b, b < B0 → w3.heap[b]? = w2.heap[b]? := fun b hb => by rw [← hw, zqc, if_neg (by omega)]; try exact ho b hb
 have b0w3 : w3.heap[B0]? = some (.cells #[.int .i64 0] 3) := by rw [← hw, zqc, if_pos (by omega)]
 clear hw  hs ho
 obtain ⟨T3, hT⟩ : ∃ X, X = (T2).setIfInBounds 11 (.pointer (some ⟨B0, 0, none⟩)) := ⟨_, rfl⟩
 rw [← hT]
 have hT3 : T3.size = 129 := by rw [hT]; simp [q1]
 have T3_11 : T3[11]? = some (.pointer (some ⟨B0, 0, none⟩)) := by rw [hT]; simp [al_gs, q1]
 have hk3 : ∀ t, t < 29 → t ≠ 11 → T3[t]? = T[t]? := fun t ht h11 => by rw [hT, al_gn (by omega)]; exact hk2 t ht
 clear hT q1
 have cS := (zq1 (off := 0) b0w3).trans rfl
 have zS := zqf (off := 0) b0w3
 refine at_skipF hJ (by decide) (s := n) (i := 1) (rest := []) rfl rfl rfl rfl fun τ dd => ?_
 refine ⟨re (w3.setCell ⟨B0, 0, none⟩ (.int .i64 0)) τ dd, ?_, ?_⟩
 · simp only [List.getElem_toArray, List.getElem_cons_zero, List.getElem_cons_succ, execOp, Act.eval, List.map_toArray, List.map_cons, List.map_nil, al_gd, hT3, T3_11, al_od]
   clear hT3 T3_11
   (go_simp)
   all_goals (first | rfl | (simp [hsw3]; done) | skip)
 refine hJ.re' _ _ _ τ dd ?_
 have hq := zqh w3 (B0) 0 (.int .i64 0) b0w3
 generalize hw : w3.setCell ⟨B0, 0, none⟩ (.int .i64 0) = w4 at hq
 have hsw4 : w4.heap.size = B0 + 1 := by rw [← hw, hp_size_set, hsw3]
 have how4 : ∀ b, b < B0 → w4.heap[b]? = w2.heap[b]? := fun b hb => by rw [← hw, zqa _ _ _ _ (by show b ≠ B0; omega)]; exact how3 b hb
 have b0w4 : w4.heap[B0]? = some (.cells #[.int .i64 0] 3) := hq.trans (by rfl)
 clear hw hq cS zS b0w3 hsw3 how3
 refine hJ.ctl (s := n) (fun w => stepG_region_end) ?_
 exact hm.out _ w4 hT3 hk3 T3_11 hsw4 how4 b0w4
section
variable {M : Type}
noncomputable def keepOf (A : OA) (a : Addr) : Option Value :=
 open Classical in
 if a = ⟨A.bT, 0, none⟩ then some (.chan (some A.back)) else if a = ⟨A.bX, 0, none⟩ then some (.pointer (some ⟨A.bT, 0, none⟩)) else
  if h : ∃ i, i < A.N ∧ a = ⟨A.st i, 1, none⟩ then some (.chan (some (A.pass (Classical.choose h)))) else none
theorem keepOf_kept {A : OA} (hA : A.Ok) : Kept A (keepOf A) := by
 have hXT := hA.ne.2.2.2.1
 refine ⟨?_, ?_, fun i hi => ?_, fun a v h => ?_⟩
 · unfold keepOf; rw [if_pos rfl]
 · unfold keepOf; rw [if_neg (by intro e; injection e with e1; exact hXT e1), if_pos rfl]
 · unfold keepOf
   have hex : ∃ j, j < A.N ∧ (⟨A.st i, 1, none⟩ : Addr) = ⟨A.st j, 1, none⟩ := ⟨i, hi, rfl⟩
   rw [if_neg (by intro e; injection e with e1 e2; cases e2), if_neg (by intro e; injection e with e1 e2; cases e2), dif_pos hex]
   have h1 := Classical.choose_spec hex
   have h2 : A.st i = A.st (Classical.choose hex) := by have := h1.2; injection this
   rw [← hA.inj i _ hi h1.1 h2]
 · unfold keepOf at h
   split at h
   · exact .inl (by assumption)
   · split at h
     · exact .inr (.inl (by assumption))
     · split at h
       · rename_i hh
         obtain ⟨i, h1, h2⟩ := hh
         exact .inr (.inr ⟨i, h1, h2⟩)
       · cases h
theorem keepOf_KK {A : OA} (hA : A.Ok) {ov brk : Nat → Bool} {w : World} (h : OverW A ov brk w) : KK (keepOf A) w := by
 intro a v ha
 have hK := keepOf_kept hA
 rcases hK.only a v ha with rfl | rfl | ⟨i, hi, rfl⟩
 · rw [hK.t] at ha; cases ha; exact ⟨(zq1 h.ts).trans rfl, zqf h.ts⟩
 · rw [hK.x] at ha; cases ha; exact ⟨(zq1 h.box).trans rfl, zqf h.box⟩
 · rw [hK.p i hi] at ha; cases ha; exact ⟨(zq1 (h.std i hi)).trans rfl, zqf (h.std i hi)⟩
theorem inv_start {T : Thr M} {m₀ : M} {n N most c g p x : Nat} {w w3 w1 w6 : World} {st pass : Nat → Nat} {sv : Value} (tv : Nat → Value) (hn : 0 < n) (hN : N ≤ 64) (hmost : most ≤ 1048576) (hrep : T.Rep m₀ w) (hlf : most + 100 ≤ T.left m₀)
 (s3 : w.heap.size + 3 ≤ w3.heap.size) (o3 : ∀ b, b < w.heap.size → w3.heap[b]? = w.heap[b]?) (fM : w3.heap[w.heap.size]? = some (.cells #[.int .i64 most] 3)) (fO : w3.heap[w.heap.size + 1]? = some (.cells #[.slice none 0 0] 24)) (fN : w3.heap[w.heap.size + 2]? = some (.cells #[.int .i64 N] 3))
 (lc : w.heap.size + 3 ≤ c) (lg : w.heap.size + 3 ≤ g) (lp : w.heap.size + 3 ≤ p) (lx : w.heap.size + 3 ≤ x) (fc : w3.heap[c]? = some (.chan 0 #[] false 0 0 false)) (fg : ∃ br, w3.heap[g]? = some (.cells br 4) ∧ ∀ i, i < N → br[i]? = some (.bool false))
 (fx : w3.heap[x]? = some (.cells #[.pointer (some ⟨p, 0, none⟩)] 91)) (fp : w3.heap[p]? = some (.cells #[.chan (some c), .slice none 0 0, .slice (some ⟨g, 0, none⟩) N N] 95))
 (h : St4 N x p g c N w3 N st pass sv w1) (s6 : w6.heap.size = w1.heap.size + 1) (o6 : ∀ b, b < w1.heap.size → w6.heap[b]? = w1.heap[b]?) (fL : w6.heap[w1.heap.size]? = some (.cells #[.int .i64 0] 3)) :
 ∃ (A : OA) (E : Nat → Option Obj), A.N = N ∧ A.n0 = n ∧ A.tv = tv ∧ A.bX = x ∧ KK (keepOf A) w6 ∧ Inv T A ⟨w.heap.size + 2, w.heap.size, w.heap.size + 1, w1.heap.size, w.heap.size⟩ (keepOf A) w m₀ most 0 E (most + 100) ⟨m₀, fun _ => false, fun _ => false, []⟩ 0 (.slice none 0 0) (fun _ => none) w6 := by
 obtain ⟨br, fg1, fg2⟩ := fg
 have hge := h.ge
 have lgl := zq4 fg1
 have lcl := zq4 fc
 have lxl := zq4 fx
 have o31 : ∀ b, b < w3.heap.size → b ≠ p → w6.heap[b]? = w3.heap[b]? := fun b hb hne => (o6 b (by omega)).trans (h.old b hb hne)
 have hne : ∀ (a b : Nat) (y z : Obj), w3.heap[a]? = some y → w3.heap[b]? = some z → y ≠ z → a ≠ b := fun a b y z h1 h2 hyz e => by subst e; rw [h1] at h2; exact hyz (Option.some.inj h2)
 have ncg : c ≠ g := hne c g _ _ fc fg1 (by intro e; cases e)
 have ncx : c ≠ x := hne c x _ _ fc fx (by intro e; cases e)
 have ngx : g ≠ x := hne g x _ _ fg1 fx (by intro e; cases e)
 have lpl := zq4 fp
 have ncp : c ≠ p := hne c p _ _ fc fp (by intro e; cases e)
 have ngp : g ≠ p := hne g p _ _ fg1 fp (by intro e; cases e)
 have nxp : x ≠ p := hne x p _ _ fx fp (by intro e; cases e)
 have stl : ∀ i, i < N → w3.heap.size < st i ∧ st i < w1.heap.size := fun i hi => ⟨by have := h.lo i hi; omega, zq4 (h.std i hi)⟩
 have psl : ∀ i, i < N → w3.heap.size ≤ pass i ∧ pass i < w1.heap.size := fun i hi => ⟨(h.lo i hi).1, zq4 (h.ps i hi)⟩
 have std6 : ∀ i, i < N → w6.heap[st i]? = some (.cells #[.pointer (some ⟨p, 0, none⟩), .chan (some (pass i)), .bool false] 99) := fun i hi => (o6 _ (stl i hi).2).trans (h.std i hi)
 have ps6 : ∀ i, i < N → w6.heap[pass i]? = some (.chan 0 #[] false 0 0 false) := fun i hi => (o6 _ (psl i hi).2).trans (h.ps i hi)
 have tp6 : w6.heap[p]? = some (.cells #[.chan (some c), sv, .slice (some ⟨g, 0, none⟩) N N] 95) := (o6 p (by omega)).trans h.bt
 have stinj : ∀ i j, i < N → j < N → st i = st j → i = j := fun i j hi hj e => by
  rcases Nat.lt_trichotomy i j with hlt | heq | hlt
  · have := h.inc i j hlt hj; have := (h.lo j hj).2; omega
  · exact heq
  · have := h.inc j i hlt hi; have := (h.lo i hi).2; omega
 have psinj : ∀ i j, i < N → j < N → pass i = pass j → i = j := fun i j hi hj e => by
  rcases Nat.lt_trichotomy i j with hlt | heq | hlt
  · have := h.inc i j hlt hj; have := (h.lo i hi).2; omega
  · exact heq
  · have := h.inc j i hlt hi; have := (h.lo j hj).2; omega
 obtain ⟨sp, gS, cap, row, hsv, hsp, hrow, hgS, hSl⟩ : ∃ (sp : Option Addr) (gS cap : Nat) (row : Array Value), sv = .slice sp N cap ∧ (0 < N → sp = some ⟨gS, 0, none⟩) ∧ (∀ i, i < N → row[i]? = some (.pointer (some ⟨st i, 0, none⟩))) ∧ (0 < N → w1.heap[gS]? = some (.cells row 96)) ∧ w3.heap.size ≤ gS ∧ ∀ i, i < N → st i ≠ gS := by
  rcases h.row.2 with ⟨hv, h0⟩ | ⟨g2, cap, cur, hv, h1, h2, h3, h4, h5, h6⟩
  · exact ⟨none, w3.heap.size, 0, #[], by rw [hv, h0], fun hN => by omega, fun i hi => by omega, fun hN => by omega, Nat.le_refl _, fun i hi => by omega⟩
  · refine ⟨some ⟨g2, 0, none⟩, g2, cap, cur, hv, fun _ => rfl, fun i hi => ?_, fun _ => h2, h1, fun i hi e => ?_⟩
    · have e1 : (cur.toList.take (N * 1))[i]? = (stL st N)[i]? := by rw [h6]
      rw [List.getElem?_take_of_lt (by omega), Array.getElem?_toList] at e1
      rw [e1]
      unfold stL
      simp [hi]
    · have := h.std i hi
      rw [e, h2] at this; cases this
 subst hsv
 obtain ⟨A, hA⟩ : ∃ A : OA, A = { n0 := n, N := N, cap := cap, capB := N, bT := p, bS := gS, sp := sp, bB := g, bX := x, back := c, row := row, st := st, pass := pass, rb := fun _ => 0, tv := tv } := ⟨_, rfl⟩
 have aN : A.N = N := by rw [hA]
 have hOk : A.Ok := by
  rw [hA]
  exact ⟨hn, hsp, hrow, stinj, fun i hi e => by have := (psl i hi).1; simp only at e; omega, psinj, ⟨by simp only; omega, fun e => ngp e.symm, by simp only; omega, nxp, by simp only; omega, fun e => ngx e.symm⟩,
   fun i hi => ⟨by have := stl i hi; simp only; omega, hSl.2 i hi, by have := stl i hi; simp only; omega, by have := stl i hi; simp only; omega⟩⟩
 have how : OverW A (fun _ => false) (fun _ => false) w6 := by
  rw [hA]
  exact ⟨tp6, (o31 x lxl nxp).trans fx, fun h0 => (o6 gS (zq4 (hgS h0))).trans (hgS h0), ⟨br, (o31 g lgl ngp).trans fg1, fg2⟩, std6, ⟨0, 0, (o31 c lcl ncp).trans fc⟩, fun i hi => ⟨0, 0, ps6 i hi⟩⟩
 have hown : ∀ b, A.own b → w.heap.size + 3 ≤ b ∧ b < w1.heap.size := by
  intro b hb
  rw [hA] at hb
  rcases hb with e | ⟨h0, e⟩ | e | e | e | ⟨i, hi, e | e⟩ <;> simp only at e
  · omega
  · have := zq4 (hgS h0); omega
  · omega
  · omega
  · omega
  · have := stl i hi; omega
  · have := psl i hi; omega
 have hft : ∀ b, T.foot m₀ b → b < w.heap.size := fun b hb => T.lt _ _ _ hrep hb
 have hrep6 : T.Rep m₀ w6 := T.frame _ _ _ hrep fun b hb => by
  have := hft b hb
  rw [o31 b (by omega) (by omega), o3 b this]
 obtain ⟨E, hE⟩ : ∃ E : Nat → Option Obj, E = fun b => open Classical in if A.own b ∨ T.foot m₀ b then none else w6.heap[b]? := ⟨_, rfl⟩
 have eE : ∀ b, ¬ A.own b → ¬ T.foot m₀ b → E b = w6.heap[b]? := fun b h1 h2 => by rw [hE]; exact if_neg (fun h => h.elim h1 h2)
 have eE' : ∀ b o, E b = some o → ¬ A.own b ∧ ¬ T.foot m₀ b ∧ w6.heap[b]? = some o := fun b o hb => by
  by_cases e : A.own b ∨ T.foot m₀ b
  · have : E b = none := by rw [hE]; exact if_pos e
    rw [this] at hb; cases hb
  · have h1 : ¬ A.own b := fun h => e (.inl h)
    have h2 : ¬ T.foot m₀ b := fun h => e (.inr h)
    exact ⟨h1, h2, (eE b h1 h2).symm.trans hb⟩
 have nown : ∀ b, b < w.heap.size + 3 ∨ w1.heap.size ≤ b → ¬ A.own b := fun b hb ho => by have := hown b ho; omega
 have nft : ∀ b, w.heap.size ≤ b → ¬ T.foot m₀ b := fun b hb hf => by have := hft b hf; omega
 have aMO : ∀ b, w.heap.size ≤ b → b < w.heap.size + 3 → E b = w3.heap[b]? := fun b h1 h2 => by rw [eE b (nown b (.inl h2)) (nft b h1), o31 b (by omega) (by omega)]
 refine ⟨A, E, aN, by rw [hA], by rw [hA], by rw [hA], keepOf_KK hOk how, ?_⟩
 refine ⟨hOk, ⟨⟨by simp only; omega, Nat.le_refl _, by simp only; omega, by simp only; omega⟩, ⟨by simp only; omega, by simp only; omega, by simp only; omega, by simp only; omega, by simp only; omega, by simp only; omega⟩⟩, keepOf_kept hOk, ?_, ?_, ?_, ?_, ?_, fun b hb => by have := hown b hb; simp only; omega, ⟨rfl, .inl ⟨rfl, rfl⟩⟩, fun g hg => (by cases hg), fun b hb hf => ?_, Nat.zero_le _, hmost, by rw [aN]; exact hN, by simp only; omega, by omega⟩
 · refine ⟨how, hrep6, fun b hb hf => ?_, Nat.zero_le _, fun i hi => absurd hi (Nat.not_lt_zero _), fun i b hi => absurd hi (Nat.not_lt_zero _), fun i j hi => absurd hi (Nat.not_lt_zero _), fun i b hi => absurd hi (Nat.not_lt_zero _), fun i b hi => absurd hi (Nat.not_lt_zero _), fun i hi => absurd hi (Nat.not_lt_zero _), fun _ _ _ => rfl, fun b o hb => (eE' b o hb).2.2, fun b o hb => ⟨(eE' b o hb).1, (eE' b o hb).2.1, fun i hi => absurd hi (Nat.not_lt_zero _)⟩, hlf⟩
   have := hft b hf; have := hown b hb; omega
 · rw [aN]; exact (aMO _ (by simp only; omega) (by simp only; omega)).trans fN
 · exact (aMO _ (by simp only; omega) (by simp only; omega)).trans fM
 · exact (aMO _ (by simp only; omega) (by simp only; omega)).trans fO
 · exact (eE _ (nown _ (.inr (Nat.le_refl _))) (nft _ (by omega))).trans fL
 · simp only at hb
   rw [eE b (nown b (.inl (by omega))) hf, o31 b (by omega) (by omega), o3 b hb]
end
section
variable {M : Type}
theorem go_all {Fin : Machine → Trace → Prop} (hFin : Back Try.prog Fin) {T : Thr M} {B : Bx} {Kc : Addr → Option Value} {w₀ : World} {m₀ : M} {most : Nat} {p : Option Addr} {L C : Nat} {sch : Value} {tv : Nat → Value} {b : Frame} (hb : b.kind ≠ .early) {ds : List Deferred} {K : List Item} {cs : List Frame} {v : Value} {N n0 : Nat} (hNL : N ≤ L)
 (hp : 0 < N → ∃ tb, p = some ⟨tb, 0, none⟩ ∧ tb < B.B0 ∧ ¬ T.foot m₀ tb ∧ ∀ i, i < N → w₀.cell? ⟨tb, i, none⟩ = some (tv i))
 (hr : ∀ i, i < N → Runs Try.prog T 74 96 NEnd m₀ i (tv i))
 {A : OA} {E : Nat → Option Obj} {k : Nat} {inb : Nat → Option Seat} {w : World} {Ts : Array Value} (hAN : A.N = N) (hA0 : A.n0 = n0) (hAt : A.tv = tv) (hI : Inv T A B Kc w₀ m₀ most 0 E k ⟨m₀, fun _ => false, fun _ => false, []⟩ 0 v inb w) (hF : Fr0 A B (.slice p L C) sch Ts) (t46 : Ts[46]? = some (.int .i64 N)) (t47 : Ts[47]? = some (.int .i64 (0 : Nat)))
 (hmain : ∀ A' a' E' inb' w' Ts', A'.N = N → A'.n0 = n0 → a'.ord = [] → Begun T m₀ N a'.m a'.ov a'.brk → Inv T A' B Kc w₀ m₀ most N E' k a' (leftN a'.ov N) v inb' w' → Fr0 A' B (.slice p L C) sch Ts' → HoldR Try.prog Fin Kc inb' 0 (n0 + N) (G (b.at ⟨Ts', ds⟩ K) cs) w') :
 HoldR Try.prog Fin Kc inb 0 n0 (G (b.at ⟨Ts, ds⟩ (.code lpB :: .inLoop lpB :: .inBlock 2 :: K)) cs) w := by
 by_cases h0 : 0 < N
 · obtain ⟨tb, rfl, h1, h2, h3⟩ := hp h0
   exact go_loop hFin h1 h2 hb hNL hr h3 N 0 (by omega) hAN hA0 hAt rfl hI rfl (fun _ _ => rfl) .zero hF t46 t47 hmain
 · have e : N = 0 := by omega
   subst e
   refine go_exit hFin hF (by rw [hAN]; exact t46) (by rw [hAN]; exact t47) hb fun Ts' hF' => ?_
   exact hmain A _ E inb w Ts' hAN hA0 rfl .zero hI hF'
structure SchAt (T : Thr M) (m₀ : M) (w : World) (sch : Value) (l : List Int) : Prop where
 len : l.length ≤ 4611686018427387904
 at' : ∃ p C, sch = .slice p l.length C ∧ (l ≠ [] → ∃ sb off, p = some ⟨sb, off, none⟩ ∧ sb < w.heap.size ∧ ¬ T.foot m₀ sb ∧ ∀ j x, l[j]? = some x → w.cell? ⟨sb, off + j, none⟩ = some (.int .i64 x))
structure Over1 (T : Thr M) (N most : Nat) (sched : List Int) (m₀ : M) (w : World) (b : OSt M) (m' : M) (v : Value) (g : Nat) (w' : World) : Prop where
 ran : Ran T N sched most m₀ b m'
 rep : T.Rep m' w'
 size : w.heap.size ≤ w'.heap.size
 old : ∀ x, x < w.heap.size → ¬ T.foot m₀ x → w'.heap[x]? = w.heap[x]?
 foot : ∀ x, T.foot m' x → T.foot m₀ x ∨ w.heap.size ≤ x
 row : w'.ownsRow w.heap.size 3 1 v b.ord.length (b.ord.map fun (i : Nat) => .int .i64 i)
 rowf : ∀ x, v.ownBlock = some x → ¬ T.foot m' x ∧ x ≠ g
 brk : ∃ br, w'.heap[g]? = some (.cells br 4) ∧ ∀ i, i < N → br[i]? = some (.bool (b.brk i))
 brkl : w.heap.size ≤ g
 brkf : ¬ T.foot m' g
 len : b.ord.length ≤ most
theorem over_rest {Fin : Machine → Trace → Prop} (hFin : Back Try.prog Fin) {T : Thr M} {A : OA} {B : Bx} {Kc : Addr → Option Value} {w₀ : World} {m₀ : M} {most : Nat} {thr sch : Value} {sched : List Int} (hB : B.B0 = w₀.heap.size) (hsch : SchAt T m₀ w₀ sch sched)
 {E : Nat → Option Obj} {a : OSt M} {inb : Nat → Option Seat} {w : World} {Ts : Array Value} {v : Value} (hord : a.ord = []) (hbg : Begun T m₀ A.N a.m a.ov a.brk) (hI : Inv T A B Kc w₀ m₀ most A.N E (most + 100) a (leftN a.ov A.N) v inb w) (hF : Fr0 A B thr sch Ts) {c : Frame} {cs : List Frame}
 (hmain : ∀ b m' v' g w', Over1 T A.N most sched m₀ w₀ b m' v' g w' → J0 Try.prog Fin (A.n0 + A.N) (G (c.finish (.tuple #[v', .bool (decide (0 < leftN b.ov A.N)), .slice (some ⟨g, 0, none⟩) A.N A.capB])) cs) w') :
 HoldR Try.prog Fin Kc inb 0 (A.n0 + A.N) (G ((bN 14).at ⟨Ts, []⟩ [.code (overT 7)]) (c :: cs)) w := by
 have hb : (bN 14).kind ≠ .early := by decide
 obtain ⟨p, C, rfl, hs⟩ := hsch.at'
 refine glue17 hFin hF hb fun T1 hF1 t76 t77 t78 => ?_
 have after : ∀ a' E' k' v' inb' w' Ts', StepsR T A.N most sched a a' → most + 100 ≤ k' + a'.ord.length → Inv T A B Kc w₀ m₀ most A.N E' k' a' (leftN a'.ov A.N) v' inb' w' → Fr A B thr (.slice p sched.length C) Ts' → HoldR Try.prog Fin Kc inb' 0 (A.n0 + A.N) (G ((bN 14).at ⟨Ts', []⟩ [.code (overT 9)]) (c :: cs)) w' := by
  intro a1 E1 k1 v1 inb1 w1 T2 hst hk1 hI1 hF2
  refine glue19 hFin (A := A) (B := B) ?_
  refine rounds_loop hFin (Nat.le_refl _) hb most (by omega) hI1 hk1 hF2 fun a2 E2 k2 v2 inb2 w2 T3 hr hk2 hI2 hF3 => ?_
  refine glue29 hFin hF3 (hI2.cell hI2.eL).1 ((zq1 hI2.cf.ow.box).trans rfl) ((zq1 hI2.cf.ow.ts).trans rfl) hb fun T4 hF4 g7 g107 g108 g109 => ?_
  have hk3 : 100 ≤ k2 + 0 := by have := hI2.len; omega
  refine kill_loop hFin (Nat.le_refl _) hb (b₀ := a2) A.N 0 (by omega) hI2 hk3 .zero rfl rfl (fun i hi => by omega) (fun i _ => rfl) hF4 g7 g107 g108 g109 fun a3 E3 k3 inb3 w3 T5 hI3 hE hbr hor hov hF5 h7 => ?_
  have hgone : ∀ j, j ≠ 0 → inb3 j = none := fun j hj => hI3.cf.gone j hj fun i hi ho => by rw [hov i hi] at ho; cases ho
  obtain ⟨pv, cap, hv⟩ := hI3.slice
  refine main_of_j0 (s := ⟨A.n0 + A.N, inb3⟩) hgone ?_
  have cO := (hI3.cell hI3.eO).1
  rw [hv] at cO
  refine over_end hFin hF5 h7 cO (hI3.cell hI3.eO).2.1 ((zq1 hI3.cf.ow.box).trans rfl) ((zq1 hI3.cf.ow.ts).trans rfl) ?_
  rw [← hv]
  refine hmain a2 a3.m v2 A.bB w3 ⟨⟨⟨a.m, a.ov, a.brk, a1, hbg, ?_, hr⟩, hE⟩, hI3.cf.rep, ?_, fun x hx hf => ?_, fun x hx => ?_, ?_, fun x hx => ⟨?_, ?_⟩, ?_, ?_, hI3.cf.free _ (.inr (.inr (.inl rfl))), hI2.len⟩
  · have : (⟨a.m, a.ov, a.brk, []⟩ : OSt M) = a := by rw [← hord]
    rw [this]; exact hst
  · rw [← hB]; exact hI3.base
  · obtain ⟨o, ho⟩ : ∃ o, w₀.heap[x]? = some o := ⟨_, Array.getElem?_eq_getElem hx⟩
    rw [ho]
    exact hI3.heap_old (by rw [hB]; exact hx) hf ho
  · by_cases hlt : x < w₀.heap.size
    · refine .inl (Classical.byContradiction fun hf => ?_)
      have h1 := hI3.old x (by rw [hB]; exact hlt) hf
      have h2 : w₀.heap[x]? = some w₀.heap[x] := Array.getElem?_eq_getElem hlt
      exact (hI3.cf.extfree x _ (h1.trans h2)).2.1 hx
    · exact .inr (by omega)
  · have := hI3.row
    rw [hor, hB] at this
    exact this
  · obtain ⟨h1, h2⟩ := hI3.erow x hx
    rcases hI3.row.2 with ⟨hv', _⟩ | ⟨g2, cap2, cur2, hv', _, hh, _⟩
    · rw [hv'] at hx; cases hx
    · rw [hv'] at hx; simp only [Value.ownBlock, al_oi] at hx; subst hx
      exact (hI3.cf.extfree _ _ (h1.trans hh)).2.1
  · obtain ⟨h1, h2⟩ := hI3.erow x hx
    rcases hI3.row.2 with ⟨hv', _⟩ | ⟨g2, cap2, cur2, hv', _, hh, _⟩
    · rw [hv'] at hx; cases hx
    · rw [hv'] at hx; simp only [Value.ownBlock, al_oi] at hx; subst hx
      exact fun e => (hI3.cf.extfree _ _ (h1.trans hh)).1 (.inr (.inr (.inl e)))
  · obtain ⟨br, h1, h2⟩ := hI3.cf.ow.brs
    exact ⟨br, h1, fun i hi => by rw [h2 i hi, hbr]⟩
  · rw [← hB]; exact hI3.own _ (.inr (.inr (.inl rfl)))
 by_cases h0 : sched = []
 · subst h0
   exact sched_exit hFin hF1 t77 t78 hb fun T2 hF2 => after a E _ v inb w T2 (.nil a) (by omega) hI hF2
 · obtain ⟨sb, off, rfl, h1, h2, h3⟩ := hs h0
   refine sched_loop hFin (Nat.le_refl _) hsch.len h3 (by rw [hB]; exact h1) h2 hb sched.length 0 (by omega) hI (by omega) hF1 t76 t77 t78 fun a' E' k' v' inb' w' Ts' hst => ?_
   rw [List.drop_zero] at hst
   exact after a' E' k' v' inb' w' Ts' hst
theorem over_calls {Fin : Machine → Trace → Prop} (hFin : Back Try.prog Fin) {T : Thr M} {m₀ : M} {w : World} {n L C N most : Nat} {p : Option Addr} {tv : Nat → Value} {sched : List Int} {sch : Value} {mo : Int} {c : Frame} {cs : List Frame} (hn : 0 < n) (hN : N = min L 64) (hmost : most = min mo.toNat 1048576)
 (hrep : T.Rep m₀ w) (hlf : most + 100 ≤ T.left m₀) (hp : 0 < N → ∃ tb, p = some ⟨tb, 0, none⟩ ∧ ¬ T.foot m₀ tb ∧ ∀ i, i < N → w.cell? ⟨tb, i, none⟩ = some (tv i)) (hr : ∀ i, i < N → Runs Try.prog T 74 96 NEnd m₀ i (tv i)) (hsch : SchAt T m₀ w sch sched)
 (hmain : ∀ b m' v' g cap w', Over1 T N most sched m₀ w b m' v' g w' → J0 Try.prog Fin (n + N) (G (c.finish (.tuple #[v', .bool (decide (0 < leftN b.ov N)), .slice (some ⟨g, 0, none⟩) N cap])) cs) w') :
 J0 Try.prog Fin n (G (Frame.enter Try.prog 14 #[.slice p L C, sch, .int .i64 mo] .normal) (c :: cs)) w := by
 have hJ := j0_JS hFin
 refine over_first hFin fun T1 w1 z1 f0 f1 f5 f6 f7 f9 s1 o1 hM hO hBN => ?_
 rw [show heldI mo 1048576 = (most : Int) by rw [hmost]; exact heldI_nat mo 1048576] at hM
 have hNi : (if (64 : Int) < (L : Int) then (64 : Int) else (L : Int)) = ((N : Nat) : Int) := by
  rw [hN]; split <;> omega
 rw [hNi] at hBN
 have hN64 : N ≤ 64 := by omega
 rw [over3]
 refine hJ.ctl (s := n) (fun w => stepG_seq) ?_
 refine over_third hFin hN64 z1 f9 ((zq1 hBN).trans rfl) fun T2 w2 cc g q x z2 k2 s2 o2 lc lg lq lx fc fg fq fx g10 => ?_
 obtain ⟨br, fg1, fg2⟩ := fg
 have hne : ∀ (a b : Nat) (y z : Obj), w2.heap[a]? = some y → w2.heap[b]? = some z → y ≠ z → a ≠ b := fun a b y z h1 h2 hyz e => by subst e; rw [h1] at h2; exact hyz (Option.some.inj h2)
 have hxq : x ≠ q := hne x q _ _ fx fq (by intro e; cases e)
 have e9 : w2.heap[w.heap.size + 2]? = some (.cells #[.int .i64 N] 3) := (o2 _ (by omega)).trans hBN
 have kk : ∀ t, t < 24 → t ≠ 10 → T2[t]? = T1[t]? := fun t h1 h2 => k2 t (by omega) (by omega) (by omega) (by omega) (by omega) h2
 refine over_fourth hFin (N := N) (bX := x) (bT := q) (bB := g) (back := cc) (capB := N) hN64 (zq4 fq) (zq4 fx) hxq fx z2 ((kk 9 (by omega) (by omega)).trans f9) ((zq1 e9).trans rfl) g10
  ⟨fq, ⟨rfl, .inl ⟨rfl, rfl⟩⟩, fun _ _ _ => rfl, Nat.le_refl _, fun i hi => by omega, fun i hi => by omega, fun i hi => by omega, fun i j h1 h2 => by omega⟩ fun T3 w6 st pass sv w5 hSt z3 k3 h11 s6 o6 hL => ?_
 obtain ⟨A, E, aN, aA0, aT, aX, hKK, hI⟩ := inv_start (w := w) (w3 := w2) (w1 := w5) (w6 := w6) (n := n) (most := most) tv hn hN64 (by omega) hrep hlf (by omega) (fun b hb => (o2 b (by omega)).trans (o1 b hb)) ((o2 _ (by omega)).trans hM) ((o2 _ (by omega)).trans hO) e9 (by omega) (by omega) (by omega) (by omega) fc ⟨br, fg1, fg2⟩ fx fq hSt s6 o6 hL
 refine j0_of_main hKK ?_
 have kq : ∀ t, t < 24 → t ≠ 10 → t ≠ 11 → T3[t]? = T1[t]? := fun t h1 h2 h3 => (k3 t (by omega) h3).trans (kk t h1 h2)
 have hF : Fr0 A ⟨w.heap.size + 2, w.heap.size, w.heap.size + 1, w5.heap.size, w.heap.size⟩ (.slice p L C) sch T3 :=
  ⟨z3, (kq 0 (by omega) (by omega) (by omega)).trans f0, (kq 1 (by omega) (by omega) (by omega)).trans f1, (kq 5 (by omega) (by omega) (by omega)).trans f5, (kq 6 (by omega) (by omega) (by omega)).trans f6, (kq 9 (by omega) (by omega) (by omega)).trans f9, by rw [aX]; exact (k3 10 (by omega) (by omega)).trans g10, h11⟩
 have hb : (bN 14).kind ≠ .early := by decide
 show HoldR Try.prog Fin (keepOf A) (fun _ => none) 0 n _ w6
 refine glue9 hFin hF (hI.cell hI.eN).1 hb fun T4 hF4 t46 t47 => ?_
 rw [aN] at t46
 refine go_all hFin hb (by omega) (fun h0 => ?_) hr aN aA0 aT hI hF4 t46 t47 fun A' a' E' inb' w' T5 bN' bn' bo hbg hI' hF5 => ?_
 · obtain ⟨tb, h1, h2, h3⟩ := hp h0
   exact ⟨tb, h1, Go.Car.cell_lt (h3 0 h0), h2, h3⟩
 · subst bN'
   subst bn'
   exact over_rest hFin (B := ⟨w.heap.size + 2, w.heap.size, w.heap.size + 1, w5.heap.size, w.heap.size⟩) rfl hsch bo hbg hI' hF5 fun b m' v' g' w7 ho => hmain b m' v' g' A'.capB w7 ho
end
end Go.Proofs
namespace Go.Car
open Go
structure Cd where
 d : Int
 r : Int
 a : Int
 b : Int
 v : Int
def ix (n : Int) : Nat := ((n.tmod 4 + 4).tmod 4).toNat
theorem ix_lt (n : Int) : ix n < 4 := by
 unfold ix
 have h1 := Int.tmod_lt_of_pos (n.tmod 4 + 4) (b := 4) (by omega)
 omega
theorem ix_val (n : Int) : ((n.tmod 4 + 4).tmod 4) = (ix n : Int) := by
 unfold ix
 have h1 : -4 < n.tmod 4 := Int.lt_tmod_of_pos n (by omega)
 have h2 : 0 ≤ (n.tmod 4 + 4).tmod 4 := Int.tmod_nonneg 4 (by omega)
 omega
structure Mch where
 regs : Nat → Int
 told : List Int
 next : Int
 most : Int
def Mch.set (m : Mch) (i : Nat) (v : Int) : Mch := { m with regs := fun j => if j = i then v else m.regs j }
def Mch.on (m : Mch) : Mch := { m with next := IntKind.i64.wrap (m.next + 1) }
def ownC (c : Cd) (m : Mch) : Mch :=
 if c.d = 1 then m.on.set (ix c.r) c.v else
 if c.d = 2 then m.on.set (ix c.r) (m.regs (ix c.a)) else
 if c.d = 3 then m.on.set (ix c.r) (IntKind.i64.wrap (m.regs (ix c.a) + m.regs (ix c.b))) else
 if c.d = 4 then (if m.regs (ix c.a) = m.regs (ix c.b) then { m.on with next := c.v } else m.on) else
 if c.d = 5 then (if m.regs (ix c.a) < m.regs (ix c.b) then { m.on with next := c.v } else m.on) else
 if c.d = 6 then { m.on with told := m.told ++ [m.regs (ix c.r)] } else m.on
def isStep (W : Nat) (c : Cd) : Bool := decide (7 ≤ c.d) && decide (c.d ≤ 11) && decide (0 ≤ c.a) && decide (c.a < W)
def atC (prog : List Cd) (m : Mch) : Option Cd := if 0 ≤ m.next ∧ m.next < prog.length then prog[m.next.toNat]? else none
def stopC (m : Mch) : Mch × Bool := if m.most = 0 then (m, false) else ({ m with most := IntKind.i64.wrap (m.most - 1) }, true)
def goOn (prog : List Cd) (W : Nat) : Nat → Mch → Mch × Bool
 | 0, m => match atC prog m with | none => (m, false) | some c => if isStep W c then stopC m else (m, false)
 | k + 1, m => match atC prog m with | none => (m, false) | some c => if isStep W c then stopC m else goOn prog W k (ownC c m)
def stepC (c : Cd) (ws : List Int) (m : Mch) : List Int × Mch :=
 if c.d = 7 then (ws, m.on.set (ix c.r) (ws.getD c.a.toNat 0)) else
 if c.d = 8 then (ws.set c.a.toNat (m.regs (ix c.r)), m.on) else
 if c.d = 9 then (ws.set c.a.toNat (IntKind.i64.wrap (ws.getD c.a.toNat 0 + c.v)), m.on.set (ix c.r) (IntKind.i64.wrap (ws.getD c.a.toNat 0 + c.v))) else
 if c.d = 10 then (ws.set c.a.toNat (m.regs (ix c.r)), m.on.set (ix c.r) (ws.getD c.a.toNat 0)) else
 if ws.getD c.a.toNat 0 = m.regs (ix c.b) then (ws.set c.a.toNat c.v, m.on.set (ix c.r) 1) else (ws, m.on.set (ix c.r) 0)
theorem stepC_len (c : Cd) (ws : List Int) (m : Mch) : (stepC c ws m).1.length = ws.length := by
 unfold stepC; repeat' split
 all_goals simp
theorem ownC_told (c : Cd) (m : Mch) : (ownC c m).told.length ≤ m.told.length + 1 := by
 unfold ownC Mch.on Mch.set; repeat' split
 all_goals simp
theorem goOn_told (prog : List Cd) (W : Nat) : ∀ (k : Nat) (m : Mch), (goOn prog W k m).1.told.length ≤ m.told.length + k := by
 intro k
 induction k with
 | zero => intro m; unfold goOn stopC; repeat' split
           all_goals simp
 | succ k ih =>
  intro m
  unfold goOn
  split
  · simp
  · rename_i c hc
    split
    · unfold stopC; split <;> simp <;> omega
    · have := ih (ownC c m); have := ownC_told c m; omega
theorem stepC_told (c : Cd) (ws : List Int) (m : Mch) : (stepC c ws m).2.told = m.told := by
 unfold stepC Mch.on Mch.set; repeat' split
 all_goals rfl
structure Mem where
 ws : List Int
 th : Nat → Mch
def Mem.upd (μ : Mem) (i : Nat) (m : Mch) : Mem := { μ with th := fun j => if j = i then m else μ.th j }
def startP (prog : Nat → List Cd) (i : Nat) (μ : Mem) : Mem × Bool := (μ.upd i (goOn (prog i) μ.ws.length 4096 (μ.th i)).1, (goOn (prog i) μ.ws.length 4096 (μ.th i)).2)
def goP (prog : Nat → List Cd) (i : Nat) (μ : Mem) : Mem × Bool :=
 match atC (prog i) (μ.th i) with
 | none => (μ, false)
 | some c => (({ μ with ws := (stepC c μ.ws (μ.th i)).1 } : Mem).upd i (goOn (prog i) μ.ws.length 4096 (stepC c μ.ws (μ.th i)).2).1, (goOn (prog i) μ.ws.length 4096 (stepC c μ.ws (μ.th i)).2).2)
structure PSt where
 mem : Mem
 ov : Nat → Bool
 ord : List Nat
def turnP (i : Nat) (r : Mem × Bool) (s : PSt) (ord : List Nat) : PSt := { mem := r.1, ov := if r.2 then s.ov else fun j => if j = i then true else s.ov j, ord := ord }
def beginP (prog : Nat → List Cd) (μ : Mem) : Nat → PSt
 | 0 => { mem := μ, ov := fun _ => false, ord := [] }
 | s + 1 => turnP s (startP prog s (beginP prog μ s).mem) (beginP prog μ s) (beginP prog μ s).ord
def step1P (prog : Nat → List Cd) (N most : Nat) (x : Int) (s : PSt) : PSt :=
 if x < 0 ∨ (N : Int) ≤ x ∨ s.ov x.toNat = true ∨ s.ord.length = most then s else turnP x.toNat (goP prog x.toNat s.mem) s (s.ord ++ [x.toNat])
def stepsP (prog : Nat → List Cd) (N most : Nat) (l : List Int) (s : PSt) : PSt := l.foldl (fun s x => step1P prog N most x s) s
def roundsP (prog : Nat → List Cd) (N most : Nat) : Nat → PSt → PSt
 | 0, s => s
 | f + 1, s => if 0 < leftN s.ov N ∧ s.ord.length < most then roundsP prog N most f (stepsP prog N most (upto N) s) else s
def playP (prog : Nat → List Cd) (N most : Nat) (l : List Int) (μ : Mem) : PSt := roundsP prog N most (most + 1) (stepsP prog N most l (beginP prog μ N))
structure Machines {M : Type} (T : Thr M) (abs : M → Mem) (prog : Nat → List Cd) : Prop where
 start : ∀ i m o, T.Start i m o → (∃ m', o = .yield m' ∧ startP prog i (abs m) = (abs m', true)) ∨ ∃ m', o = .done m' ∧ startP prog i (abs m) = (abs m', false)
 go : ∀ i m o, T.Go i m o → (∃ m', o = .yield m' ∧ goP prog i (abs m) = (abs m', true)) ∨ ∃ m', o = .done m' ∧ goP prog i (abs m) = (abs m', false)
 kill : ∀ i m m', T.Kill i m m' → abs m' = abs m
section
variable {M : Type} {T : Thr M} {abs : M → Mem} {prog : Nat → List Cd}
theorem turned_P {R : M → Out M → Prop} {i : Nat} {m m' : M} {ov brk ov' brk' : Nat → Bool} {r : Mem × Bool} (hR : ∀ o, R m o → (∃ m', o = .yield m' ∧ r = (abs m', true)) ∨ ∃ m', o = .done m' ∧ r = (abs m', false)) (h : Turned R i m ov brk m' ov' brk') (hb : ∀ j, brk j = false) :
 r.1 = abs m' ∧ ov' = (if r.2 then ov else fun j => if j = i then true else ov j) ∧ ∀ j, brk' j = false := by
 cases h with
 | yield h =>
  rcases hR _ h with ⟨m₂, e, hr⟩ | ⟨m₂, e, hr⟩
  · cases e; rw [hr]; exact ⟨rfl, rfl, hb⟩
  · cases e
 | done h =>
  rcases hR _ h with ⟨m₂, e, hr⟩ | ⟨m₂, e, hr⟩
  · cases e
  · cases e; rw [hr]; exact ⟨rfl, rfl, fun j => by simp only; split <;> simp [hb]⟩
 | broke h =>
  rcases hR _ h with ⟨m₂, e, hr⟩ | ⟨m₂, e, hr⟩ <;> cases e
structure Same1 (abs : M → Mem) (a : OSt M) (s : PSt) : Prop where
 mem : abs a.m = s.mem
 ov : a.ov = s.ov
 brk : ∀ j, a.brk j = false
 ord : a.ord = s.ord
theorem begun_P (hM : Machines T abs prog) {m₀ : M} {s : Nat} {m : M} {ov brk : Nat → Bool} (h : Begun T m₀ s m ov brk) : Same1 abs ⟨m, ov, brk, []⟩ (beginP prog (abs m₀) s) := by
 induction h with
 | zero => exact ⟨rfl, rfl, fun _ => rfl, rfl⟩
 | succ h ht ih =>
  rename_i s m ov brk m' ov' brk'
  obtain ⟨h1, h2, h3, h4⟩ := ih
  simp only at h1 h2 h3 h4
  obtain ⟨e1, e2, e3⟩ := turned_P (r := startP prog s (beginP prog (abs m₀) s).mem) (fun o ho => by rw [← h1]; exact hM.start s m o ho) ht h3
  exact ⟨e1.symm, by simp only [beginP, turnP]; rw [e2, h2], e3, by simp only [beginP, turnP]; exact h4⟩
theorem step1_P (hM : Machines T abs prog) {N most : Nat} {x : Int} {a b : OSt M} {s : PSt} (h : Step1 T N most x a b) (hs : Same1 abs a s) : Same1 abs b (step1P prog N most x s) := by
 obtain ⟨h1, h2, h3, h4⟩ := hs
 cases h with
 | not hn =>
  rw [h2, h4] at hn
  unfold step1P
  rw [if_pos hn]
  exact ⟨h1, h2, h3, h4⟩
 | go i hx hi ho hm ht =>
  subst hx
  rename_i m' ov' brk'
  have hn : ¬ ((i : Int) < 0 ∨ (N : Int) ≤ i ∨ s.ov (i : Int).toNat = true ∨ s.ord.length = most) := by
   rw [← h2, ← h4]
   rintro (e | e | e | e)
   · omega
   · omega
   · rw [Int.toNat_natCast, ho] at e; cases e
   · exact hm e
  unfold step1P
  rw [if_neg hn, Int.toNat_natCast]
  obtain ⟨e1, e2, e3⟩ := turned_P (r := goP prog i s.mem) (fun o ho => by rw [← h1]; exact hM.go i a.m o ho) ht h3
  exact ⟨e1.symm, by simp only [turnP]; rw [e2, h2], e3, by simp only [turnP]; rw [h4]⟩
theorem steps_P (hM : Machines T abs prog) {N most : Nat} {l : List Int} {a b : OSt M} (h : StepsR T N most l a b) : ∀ {s : PSt}, Same1 abs a s → Same1 abs b (stepsP prog N most l s) := by
 induction h with
 | nil a => exact fun hs => hs
 | cons h1 h2 ih => exact fun hs => ih (step1_P hM h1 hs)
theorem rounds_P (hM : Machines T abs prog) {N most : Nat} {a b : OSt M} (h : Rounds T N most a b) : ∀ (f : Nat) {s : PSt}, most < f + a.ord.length → Same1 abs a s → Same1 abs b (roundsP prog N most f s) := by
 induction h with
 | stop a hn =>
  intro f s hf hs
  cases f with
  | zero => exact hs
  | succ f =>
   unfold roundsP
   rw [if_neg (by rw [← hs.ov, ← hs.ord]; exact hn)]
   exact hs
 | more hgo hst hr ih =>
  rename_i a b c
  intro f s hf hs
  cases f with
  | zero => have := hgo.2; omega
  | succ f =>
   unfold roundsP
   rw [if_pos (by rw [← hs.ov, ← hs.ord]; exact hgo)]
   obtain ⟨i, hi, ho⟩ := leftN_pos hgo.1
   have := hst.progress hi (mem_upto hi) ho hgo.2
   exact ih f (by omega) (steps_P hM hst hs)
theorem ran_P (hM : Machines T abs prog) {N most : Nat} {l : List Int} {m₀ m' : M} {b : OSt M} (h : Ran T N l most m₀ b m') : Same1 abs b (playP prog N most l (abs m₀)) ∧ abs m' = abs b.m := by
 obtain ⟨⟨m₁, ov₁, brk₁, a, h1, h2, h3⟩, h4⟩ := h
 refine ⟨rounds_P hM h3 _ (by omega) (steps_P hM h2 (begun_P hM h1)), ?_⟩
 have : ∀ n m, Go.Car.Ends T b.ov b.m n m → abs m = abs b.m := by
  intro n m h
  induction h with
  | zero => rfl
  | over h _ ih => exact ih
  | kill h _ hk ih => exact (hM.kill _ _ _ hk).trans ih
 exact this _ _ h4
end
end Go.Car
set_option maxHeartbeats 1000000
namespace Go.Car
open Go Go.Conc Go.RowKit
open Go.ConcN (upd upd_ne upd_same)
section
variable {P : Program} {main : Bool} {Kc : Addr → Option Value} {γ : Type} {J : γ → Goroutine → World → Prop}
theorem at_opK (hJ : JS P main Kc J) {b : Frame} {k : List Item} {cs : List Frame} (hb : b.kind ≠ .early) {ops : Array Oper} {i : Nat} {rest : List Nat} {o : Oper} {s : γ} {T : Array Value} {ds : List Deferred} {w : World} {d : Tmp}
 (ho : ops[i]? = some o) (hok : readOp P o.op = true) (hw : Region.wanted o (yielded ops T) = true) (hd : o.dst = some d)
 (hr : ∀ τ dd, ∃ v w', (execOp (Act.mk T []).eval o).run P (re w τ dd) = .ok (.value v) w' ∧ J s (G (b.at ⟨T.setIfInBounds d v, ds⟩ (.inRegion ops rest :: k)) cs) w') : J s (G (b.at ⟨T, ds⟩ (.inRegion ops (i :: rest) :: k)) cs) w := by
 refine at_cons hb hJ ho hw fun τ dd => ?_
 have htame : tame P false (execOp (Act.mk T ds).eval o) := execOp_read o hok _
 obtain ⟨h1, h2⟩ := evs_read (Kc := Kc) htame (re w τ dd)
 refine ⟨h1, h2, ?_⟩
 obtain ⟨v, w', hrun, h⟩ := hr τ dd
 have hrun' : (execOp (Act.mk T ds).eval o).run P (re w τ dd) = .ok (.value v) w' := hrun
 rw [hrun']
 show J s (G (b.at (Act.put ⟨T, ds⟩ o.dst v) _) cs) w'
 rw [hd]
 exact h
theorem at_storeK (hJ : JS P main Kc J) {b : Frame} {k : List Item} {cs : List Frame} (hb : b.kind ≠ .early) {ops : Array Oper} {i : Nat} {rest : List Nat} {o : Oper} {s : γ} {T : Array Value} {ds : List Deferred} {w : World} {t : TypeId} {pa pv : Operand} {ad : Addr}
 (ho : ops[i]? = some o) (hop : o.op = .store t pa pv) (hw : Region.wanted o (yielded ops T) = true) (hd : o.dst = none) (ha : (Act.mk T []).eval pa = .pointer (some ad)) (hK : ∀ j, j < ((Act.mk T []).eval pv).cells.size → Kc (ad.add j) = none) (hbk : ∃ c e f, w.heap[ad.block]? = some (.cells c e f))
 (hr : ∀ τ dd, ∃ w', (execOp (Act.mk T []).eval o).run P (re w τ dd) = .ok .skip w' ∧ J s (G (b.at ⟨T, ds⟩ (.inRegion ops rest :: k)) cs) w') : J s (G (b.at ⟨T, ds⟩ (.inRegion ops (i :: rest) :: k)) cs) w := by
 refine at_cons hb hJ ho hw fun τ dd => ?_
 obtain ⟨h1, h2⟩ := evs_store (Kc := Kc) (ρ := (Act.mk T ds).eval) (w := re w τ dd) hop ha hK hbk
 refine ⟨h1, h2, ?_⟩
 obtain ⟨w', hrun, h⟩ := hr τ dd
 have hrun' : (execOp (Act.mk T ds).eval o).run P (re w τ dd) = .ok .skip w' := hrun
 rw [hrun']
 show J s (G (b.at (Act.put ⟨T, ds⟩ o.dst undef) _) cs) w'
 rw [hd]
 exact h
def backK (ops : Array Oper) : Bool := (List.range ops.size).all fun i => match ops[i]? with
 | some o => o.after.all (fun e => !Region.binds .any e || decide (e.on < i))
 | none => false
def StepK (P : Program) (Kc : Addr → Option Value) (ops : Array Oper) (T : Array Value) (w : World) (o : Oper) (I : Array Value → World → Prop) : Prop :=
 (Region.wanted o (yielded ops T) = false ∧ I (Act.put ⟨T, []⟩ o.dst undef).tmps w) ∨
 (Region.wanted o (yielded ops T) = true ∧ readOp P o.op = true ∧ ∃ d, o.dst = some d ∧ ∃ v w', (execOp (Act.mk T []).eval o).run P w = .ok (.value v) w' ∧ I (T.setIfInBounds d v) w') ∨
 (Region.wanted o (yielded ops T) = true ∧ o.dst = none ∧ (∃ t pa pv ad, o.op = .store t pa pv ∧ (Act.mk T []).eval pa = .pointer (some ad) ∧ (∀ j, j < ((Act.mk T []).eval pv).cells.size → Kc (ad.add j) = none) ∧ ∃ c e f, w.heap[ad.block]? = some (.cells c e f)) ∧ ∃ w', (execOp (Act.mk T []).eval o).run P w = .ok .skip w' ∧ I T w')
theorem at_drawsK (hJ : JS P main Kc J) {b : Frame} {k : List Item} {cs : List Frame} (hb : b.kind ≠ .early) (hm : P.follows .mixedOrders = true) {id : Nat} {ops : Array Oper} {T₀ : Array Value} {ds : List Deferred} {s : γ} {w : World} (I : (Nat → Bool) → Array Value → World → Prop)
 (hback : backK ops = true) (hre : ∀ L T w τ d, I L T w → I L T (re w τ d)) (hI : I (fun _ => false) T₀ w)
 (hstep : ∀ (L : Nat → Bool) (T : Array Value) (w : World) (i : Nat) (o : Oper), I L T w → L i = false → ops[i]? = some o → (∀ e ∈ o.after, Region.binds .any e = true → L e.on = true) → StepK P Kc ops T w o (fun T' w' => I (upd L i true) T' w'))
 (hend : ∀ L T w, (∀ i, i < ops.size → L i = true) → I L T w → J s (G (b.at ⟨T, ds⟩ (.inRegion ops [] :: k)) cs) w) : J s (G (b.at ⟨T₀, ds⟩ (.code (.region id ops true) :: k)) cs) w := by
 have hb' : ∀ i o, ops[i]? = some o → ∀ e ∈ o.after, Region.binds .any e = true → e.on < i := by
  intro i o ho
  have hlt := (Array.getElem?_eq_some_iff.1 ho).1
  unfold backK at hback
  rw [List.all_eq_true] at hback
  have := hback i (List.mem_range.2 hlt)
  rw [ho] at this
  simp only [Array.all_eq_true_iff_forall_mem] at this
  exact fun e he hbe => by have := this e he; simpa [hbe] using this
 have key : ∀ (fuel t : Nat) (listed : Array Bool) (L : Nat → Bool) (T : Array Value) (w : World), listed.size = ops.size → left listed = fuel → (∀ i, i < ops.size → listed.getD i false = L i) → I L T w →
  J s (G (b.at ⟨T, ds⟩ (.inRegion ops (Region.linearise.go .any ops fuel t listed []) :: k)) cs) w := by
  intro fuel
  induction fuel with
  | zero =>
   intro t listed L T w hsz hl hL hi
   refine hend L T w (fun i hlt => ?_) hi
   rw [← hL i hlt]
   have hlt' : i < listed.size := by omega
   cases hv : listed[i] with
   | true => simp [hlt', hv]
   | false => have := left_pos (listed := listed) (i := i) (by simp [hlt', hv]); omega
  | succ fuel ih =>
   intro t listed L T w hsz hl hL hi
   simp only [Region.linearise.go]
   change J s (G (b.at ⟨T, ds⟩ (.inRegion ops (match (Region.ready .any ops listed)[t % (Region.ready .any ops listed).length]? with
    | some i => Region.linearise.go .any ops fuel (t / (Region.ready .any ops listed).length) (listed.setIfInBounds i true) [i]
    | none => [].reverse) :: k)) cs) w
   have hun : ∃ i, listed.getD i true = false := by
    refine Classical.byContradiction fun hn => ?_
    have : left listed = 0 := by
     unfold left
     rw [List.length_eq_zero_iff, List.filter_eq_nil_iff]
     intro x hx hxx
     obtain ⟨i, hi, rfl⟩ := List.getElem_of_mem hx
     have hi' : i < listed.size := by simpa using hi
     have e : listed.toList[i] = listed[i] := by simp
     rw [e] at hxx
     exact hn ⟨i, by simp [hi']; simpa using hxx⟩
    omega
   have hready : ∃ i, i ∈ Region.ready .any ops listed := by
    have : ∀ m i, m = i → listed.getD i true = false → ∃ j, j ∈ Region.ready .any ops listed := by
     intro m
     induction m using Nat.strongRecOn with
     | _ m ihm =>
      intro i hi hun
      subst hi
      have hops : m < ops.size := by have := getD_lt hun; omega
      by_cases hall : ∀ e ∈ (ops[m]'hops).after, Region.binds .any e = true → listed.getD e.on false = true
      · exact ⟨m, mem_ready.2 ⟨hun, _, Array.getElem?_eq_getElem hops, hall⟩⟩
      · obtain ⟨e, he⟩ := Classical.not_forall.1 hall
        obtain ⟨h1, he⟩ := Classical.not_imp.1 he
        obtain ⟨h2, he⟩ := Classical.not_imp.1 he
        have hlt' := hb' m _ (Array.getElem?_eq_getElem hops) e h1 h2
        refine ihm e.on hlt' e.on rfl ?_
        have : e.on < listed.size := by omega
        simp [this] at he ⊢
        exact he
    obtain ⟨i, hi⟩ := hun
    exact this i i rfl hi
   cases hi' : (Region.ready .any ops listed)[t % (Region.ready .any ops listed).length]? with
   | none =>
    exfalso
    obtain ⟨i, hi''⟩ := hready
    have hpos : 0 < (Region.ready .any ops listed).length := List.length_pos_of_mem hi''
    have hlt := Nat.mod_lt t hpos
    rw [List.getElem?_eq_none_iff] at hi'
    omega
   | some i =>
    have hmem := List.mem_of_getElem? hi'
    obtain ⟨hun, o, ho, hall⟩ := mem_ready.1 hmem
    have hilt : i < ops.size := by have := getD_lt hun; omega
    simp only []
    rw [linearise_go_acc, List.reverse_singleton, List.singleton_append]
    have hbk := hb' i o ho
    have hLi : L i = false := by
     rw [← hL i hilt]
     have hlt' : i < listed.size := by omega
     simp [hlt'] at hun ⊢
     exact hun
    have hld : left (listed.setIfInBounds i true) + 1 = left listed := left_set hun
    have hL' : ∀ j, j < ops.size → (listed.setIfInBounds i true).getD j false = upd L i true j := fun j hj => by
     by_cases e : i = j
     · subst e
       have : i < listed.size := by omega
       rw [upd_same]; simp [this]
     · rw [getD_set_ne false e, upd_ne _ _ (fun x => e x.symm)]; exact hL j hj
    have hall' : ∀ e ∈ o.after, Region.binds .any e = true → L e.on = true := fun e he hbe => by
     rw [← hL e.on (by have := hbk e he hbe; omega)]; exact hall e he hbe
    have hst := fun τ dd => hstep L T (re w τ dd) i o (hre _ _ _ τ dd hi) hLi ho hall'
    have hgo := fun T' w' (hI' : I (upd L i true) T' w') => ih (t / (Region.ready .any ops listed).length) (listed.setIfInBounds i true) (upd L i true) T' w' (by simpa using hsz) (by omega) hL' hI'
    cases hwt : Region.wanted o (yielded ops T) with
    | false =>
     rcases hstep L T w i o hi hLi ho hall' with ⟨_, hI'⟩ | ⟨h, _⟩ | ⟨h, _⟩
     · refine hJ.ctl (s := s) (fun w => stepG_unwanted ho hwt) ?_
       have e : (Act.mk T ds).put o.dst undef = ⟨(Act.put ⟨T, []⟩ o.dst undef).tmps, ds⟩ := by cases o.dst <;> rfl
       rw [e]
       exact hgo _ _ hI'
     · rw [hwt] at h; cases h
     · rw [hwt] at h; cases h
    | true =>
     rcases hstep L T w i o hi hLi ho hall' with ⟨h, _⟩ | ⟨_, hro, d, hd, _⟩ | ⟨_, hd, ⟨t', pa, pv, ad, hop, ha, hK, hbk'⟩, _⟩
     · rw [hwt] at h; cases h
     · refine at_opK hJ hb ho hro hwt hd fun τ dd => ?_
       rcases hst τ dd with ⟨h, _⟩ | ⟨_, _, d', hd', v, w', hr, hI'⟩ | ⟨_, hd', _⟩
       · rw [hwt] at h; cases h
       · rw [hd] at hd'
         obtain rfl := Option.some.inj hd'
         exact ⟨v, w', hr, hgo _ _ hI'⟩
       · rw [hd] at hd'; cases hd'
     · refine at_storeK hJ hb ho hop hwt hd ha hK hbk' fun τ dd => ?_
       rcases hst τ dd with ⟨h, _⟩ | ⟨_, _, d', hd', _⟩ | ⟨_, _, _, w', hr, hI'⟩
       · rw [hwt] at h; cases h
       · rw [hd] at hd'; cases hd'
       · exact ⟨w', hr, hgo _ _ hI'⟩
 refine hJ.step _ _ _ rfl fun τ d => ⟨_, _, #[], stepG_region_draw (a := ⟨T₀, ds⟩), ?_, by simp, ?_⟩
 · exact OkD.refl _ _ _
 · refine hJ.re' s _ w τ (d + 1) ?_
   simp only [Region.schedule, hm, Bool.true_or, if_true, Region.linearise]
   refine key _ _ _ (fun _ => false) _ _ (by simp) ?_ (fun i hi => by simp [hi]) hI
   unfold left; simp
def idleGOk (P : Program) (ops : Array Oper) (n : Nat) (same : List Nat) : Bool :=
 (List.range ops.size).all (fun i => match ops[i]? with
  | some o => readOp P o.op && (match o.dst with | some d => decide (d < n) | none => false) && (match o.guard with | some (j, _) => waits ops i j && decide (j < ops.size) | none => true)
  | none => false) &&
 (List.range ops.size).all (fun i => (List.range i).all fun j => dstOf ops i != dstOf ops j) &&
 (List.range ops.size).all (fun i => match ops[i]? with
  | some o => o.after.all (fun e => !Region.binds .any e || decide (e.on < i)) &&
   o.op.operands.all (fun x => match tmpOf x with
    | some t => same.contains t || (List.range ops.size).all fun j => dstOf ops j != some t || waits ops i j
    | none => true)
  | none => false)
theorem at_idleG (hJ : JS P main Kc J) {b : Frame} {k : List Item} {cs : List Frame} (hb : b.kind ≠ .early) (hm : P.follows .mixedOrders = true) {id : Nat} {ops : Array Oper} {a₀ : Array Value} {ds : List Deferred} {s : γ} {w : World} (same : List Nat) (T : Array Value)
 (hok : idleGOk P ops a₀.size same = true) (hT : T.size = a₀.size) (hsame : ∀ t, t ∈ same → a₀[t]? = T[t]?) (hout : ∀ t, (∀ i, i < ops.size → dstOf ops i ≠ some t) → T[t]? = a₀[t]?)
 (hval : ∀ (i : Nat) (o : Oper), ops[i]? = some o → ∀ d, o.dst = some d → (Region.wanted o (yielded ops T) = false ∧ T[d]? = some undef) ∨ (Region.wanted o (yielded ops T) = true ∧ ∃ v, T[d]? = some v ∧ ∀ τ dd, (execOp (Act.mk T []).eval o).run P (re w τ dd) = .ok (.value v) (re w τ dd)))
 (hlast : J s (G (b.at ⟨T, ds⟩ (.inRegion ops [] :: k)) cs) w) : J s (G (b.at ⟨a₀, ds⟩ (.code (.region id ops true) :: k)) cs) w := by
 unfold idleGOk at hok
 simp only [Bool.and_eq_true, List.all_eq_true, List.mem_range] at hok
 obtain ⟨⟨h2, h3⟩, h4⟩ := hok
 have lt : ∀ (i : Nat) (o : Oper), ops[i]? = some o → i < ops.size := fun i o ho => (Array.getElem?_eq_some_iff.1 ho).1
 have plain : ∀ (i : Nat) (o : Oper), ops[i]? = some o → readOp P o.op = true ∧ (∃ d, o.dst = some d ∧ d < a₀.size) ∧ ∀ j wt, o.guard = some (j, wt) → waits ops i j = true ∧ j < ops.size := fun i o ho => by
  have := h2 i (lt i o ho)
  rw [ho] at this
  simp only [Bool.and_eq_true] at this
  obtain ⟨⟨a1, a2⟩, a3⟩ := this
  refine ⟨a1, ?_, fun j wt hg => ?_⟩
  · cases hd : o.dst with
    | none => rw [hd] at a2; cases a2
    | some d => rw [hd] at a2; exact ⟨d, rfl, by simpa using a2⟩
  · rw [hg] at a3; simpa using a3
 have apart : ∀ (i j : Nat) (d : Tmp), i < ops.size → j < i → dstOf ops i = some d → dstOf ops j ≠ some d := fun i j d hi hj hd hd' => by
  have := h3 i hi j hj
  rw [hd, hd'] at this
  simp at this
 have looks : ∀ (i : Nat) (o : Oper) (x : Operand) (t : Tmp) (j : Nat), ops[i]? = some o → x ∈ o.op.operands → tmpOf x = some t → j < ops.size → dstOf ops j = some t → t ∈ same ∨ waits ops i j = true := fun i o x t j ho hx ht hj hd => by
  have := h4 i (lt i o ho)
  rw [ho] at this
  simp only [Bool.and_eq_true, Array.all_eq_true_iff_forall_mem] at this
  have := this.2 x hx
  rw [ht] at this
  simp only [Bool.or_eq_true, List.all_eq_true, List.mem_range, List.contains_iff_mem] at this
  rcases this with h | h
  · exact .inl h
  · have := h j hj
    exact .inr (by simpa [hd] using this)
 have hback : backK ops = true := by
  unfold backK
  rw [List.all_eq_true]
  intro i hi
  have := h4 i (List.mem_range.1 hi)
  cases ho : ops[i]? with
  | none => rw [ho] at this; cases this
  | some o => rw [ho] at this; simp only [Bool.and_eq_true] at this; exact this.1
 refine at_drawsK hJ hb hm (fun L tm w' => (∃ τ d, w' = re w τ d) ∧ tm.size = T.size ∧ (∀ i t, i < ops.size → L i = true → dstOf ops i = some t → tm[t]? = T[t]?) ∧ (∀ t, (∀ i, i < ops.size → L i = true → dstOf ops i ≠ some t) → tm[t]? = a₀[t]?)) hback ?_ ?_ ?_ ?_
 · rintro L tm w' τ d ⟨⟨τ', d', rfl⟩, h⟩
   exact ⟨⟨τ, d, by rw [re_re]⟩, h⟩
 · exact ⟨⟨w.tape, w.drawn, rfl⟩, hT.symm, ⟨fun i t _ h => (by cases h), fun t _ => rfl⟩⟩
 · rintro L tm w' i o ⟨⟨τ, d, rfl⟩, hsz, hon, hoff⟩ hL ho hall
   have hi := lt i o ho
   obtain ⟨hro, ⟨d0, hd0, hdn⟩, hguard⟩ := plain i o ho
   have hdi : dstOf ops i = some d0 := by unfold dstOf; rw [ho]; exact hd0
   have hok' : ∀ cs b, o.op ≠ .select cs b := fun cs b h => by rw [h] at hro; cases hro
   have hex : execOp (Act.mk tm []).eval o = execOp (Act.mk T []).eval o := by
    refine execOp_congr o hok' fun x hx => eval_agree fun t ht => ?_
    by_cases hxt : ∃ j, j < ops.size ∧ dstOf ops j = some t
    · obtain ⟨j, hj, hd⟩ := hxt
      rcases looks i o x t j ho hx ht hj hd with hs | hwt
      · by_cases hl' : L j = true
        · exact hon j t hj hl' hd
        · refine (hoff t fun q hq hlq hdq => ?_).trans (hsame t hs)
          rcases Nat.lt_trichotomy q j with h | h | h
          · exact apart j q t hj h hd hdq
          · exact hl' (h ▸ hlq)
          · exact apart q j t hq h hdq hd
      · obtain ⟨oi, hoi, e, he1, he2, he3⟩ := waits_iff.1 hwt
        rw [ho] at hoi
        obtain rfl := Option.some.inj hoi
        subst he3
        exact hon e.on t hj (hall e he1 he2) hd
    · rw [hoff t (fun j hj _ hd => hxt ⟨j, hj, hd⟩), hout t fun j hj hd => hxt ⟨j, hj, hd⟩]
   have hwd : Region.wanted o (yielded ops tm) = Region.wanted o (yielded ops T) := by
    unfold Region.wanted
    cases hg : o.guard with
    | none => rfl
    | some x =>
     obtain ⟨j, wt⟩ := x
     obtain ⟨hwt, hj⟩ := hguard j wt hg
     obtain ⟨oi, hoi, e, he1, he2, he3⟩ := waits_iff.1 hwt
     rw [ho] at hoi
     obtain rfl := Option.some.inj hoi
     have hLj := hall e he1 he2
     rw [he3] at hLj
     have : yielded ops tm j = yielded ops T j := by
      unfold yielded
      cases hdj : (ops[j]?).bind (·.dst) with
      | none => rfl
      | some t => simp only [al_ob]; rw [hon j t hj hLj hdj]
     simp only [this]
   have hnew : ∀ v, T[d0]? = some v → (∃ τ' d', re w τ d = re w τ' d') ∧ (tm.setIfInBounds d0 v).size = T.size ∧ (∀ i' t, i' < ops.size → upd L i true i' = true → dstOf ops i' = some t → (tm.setIfInBounds d0 v)[t]? = T[t]?) ∧ (∀ t, (∀ i', i' < ops.size → upd L i true i' = true → dstOf ops i' ≠ some t) → (tm.setIfInBounds d0 v)[t]? = a₀[t]?) := fun v hv => by
    refine ⟨⟨τ, d, rfl⟩, by simpa using hsz, fun i' t hi' hL' hd' => ?_, fun t ht => ?_⟩
    · by_cases htd : d0 = t
      · subst htd
        have : d0 < tm.size := by rw [hsz, hT]; exact hdn
        simp [this, hv]
      · rw [al_gn htd]
        by_cases e : i' = i
        · subst e; rw [hdi] at hd'; exact absurd (Option.some.inj hd') htd
        · rw [upd_ne _ _ e] at hL'; exact hon i' t hi' hL' hd'
    · have htd : d0 ≠ t := fun e => by subst e; exact ht i hi (upd_same _ _ _) hdi
      rw [al_gn htd]
      refine hoff t fun j hj hlj => ?_
      by_cases e : j = i
      · subst e; rw [hL] at hlj; cases hlj
      · exact ht j hj (by rw [upd_ne _ _ e]; exact hlj)
   rcases hval i o ho d0 hd0 with ⟨h1, h5⟩ | ⟨h1, v, hv, hrun⟩
   · refine .inl ⟨hwd.trans h1, ?_⟩
     rw [hd0]
     exact hnew undef h5
   · exact .inr (.inl ⟨hwd.trans h1, hro, d0, hd0, v, _, by rw [hex]; exact hrun τ d, hnew v hv⟩)
 · rintro L tm w' hall ⟨⟨τ, d, rfl⟩, hsz, hon, hoff⟩
   have htm : tm = T := by
    apply Array.ext_getElem?
    intro x
    by_cases hx : ∃ j, j < ops.size ∧ dstOf ops j = some x
    · obtain ⟨j, hj, hd⟩ := hx
      exact hon j x hj (hall j hj) hd
    · rw [hoff x (fun j hj _ hd => hx ⟨j, hj, hd⟩), hout x fun j hj hd => hx ⟨j, hj, hd⟩]
   rw [htm]
   exact hJ.re' _ _ _ _ _ hlast
end
end Go.Car
set_option maxHeartbeats 1000000
set_option maxRecDepth 100000
namespace Go.Proofs
open Go Go.Conc Go.RowKit Go.Car
open Go.ConcN (upd upd_ne upd_same)
structure MM where
 ws : List Int
 th : Nat → Mch
 tv : Nat → Value
 cb : Nat → Option Nat
 room : Nat
 begun : Nat → Bool
def MM.mem (m : MM) : Mem := ⟨m.ws, m.th⟩
structure MS where
 N : Nat
 W : Nat
 bw : Nat
 mb : Nat → Nat
 ro : Nat → Option Obj
 base : Nat
 prog : Nat → List Cd
def MS.foot (S : MS) (m : MM) (b : Nat) : Prop := b = S.bw ∨ (∃ i, i < S.N ∧ (b = S.mb i ∨ (m.tv i).ownBlock = some b ∨ m.cb i = some b)) ∨ ∃ o, S.ro b = some o
def toldL (l : List Int) : List Value := l.flatMap fun n => [.bool true, .int .i64 n, .slice none 0 0]
def machC (S : MS) (m : Mch) (tv : Value) : Array Value := #[.slice (some ⟨S.bw, 0, none⟩) S.W S.W, .int .i64 (m.regs 0), .int .i64 (m.regs 1), .int .i64 (m.regs 2), .int .i64 (m.regs 3), tv, .int .i64 m.next]
def cdL (c : Cd) : List Value := [.int .i64 c.d, .int .i64 c.r, .int .i64 c.a, .int .i64 c.b, .int .i64 c.v]
structure MS.Body (S : MS) (m : MM) (w : World) : Prop where
 len : m.ws.length = S.W
 words : w.heap[S.bw]? = some (.cells (m.ws.map (Value.int .i64)).toArray 114)
 mach : ∀ i, i < S.N → w.heap[S.mb i]? = some (.cells (machC S (m.th i) (m.tv i)) 118)
 told : ∀ i, i < S.N → w.ownsRow S.base 38 3 (m.tv i) (m.th i).told.length (toldL (m.th i).told)
 code : ∀ i b, i < S.N → m.cb i = some b → ∃ c, atC (S.prog i) (m.th i) = some c ∧ isStep S.W c = true ∧ w.heap[b]? = some (.cells (cdL c).toArray 74)
 ro : ∀ b o, S.ro b = some o → w.heap[b]? = some o
 inj : ∀ i j, i < S.N → j < S.N → S.mb i = S.mb j → i = j
 rofree : S.ro S.bw = none ∧ (∀ i, i < S.N → S.ro (S.mb i) = none) ∧ (∀ i g, i < S.N → (m.tv i).ownBlock = some g → S.ro g = none) ∧ ∀ i g, i < S.N → m.cb i = some g → S.ro g = none
 sep : ∀ i j g, i < S.N → j < S.N → i ≠ j → (m.tv i).ownBlock = some g → (m.tv j).ownBlock ≠ some g
 lo : S.base ≤ S.bw
 csep : ∀ i j g, i < S.N → j < S.N → i ≠ j → m.cb i = some g → m.cb j ≠ some g
structure MS.Rep (S : MS) (m : MM) (w : World) : Prop where
 body : S.Body m w
 room : ∀ i, i < S.N → (m.th i).told.length + 4096 * (m.room + if m.begun i then 0 else 1) ≤ 8589934592
theorem MS.Body.block {S : MS} {m : MM} {w : World} (h : S.Body m w) {i g : Nat} (hi : i < S.N) (hg : (m.tv i).ownBlock = some g) : ∃ c, w.heap[g]? = some (.cells c 38) := by
 rcases (h.told i hi).2 with ⟨hv, _⟩ | ⟨g2, cap, cur, hv, _, hh, _⟩
 · rw [hv] at hg; cases hg
 · rw [hv] at hg; simp only [Value.ownBlock, al_oi] at hg; subst hg; exact ⟨cur, hh⟩
theorem MS.Body.frame {S : MS} {m : MM} {w w' : World} (h : S.Body m w) (hs : ∀ b, S.foot m b → w'.heap[b]? = w.heap[b]?) : S.Body m w' := by
 have hb : ∀ i g, i < S.N → (m.tv i).ownBlock = some g → w'.heap[g]? = w.heap[g]? := fun i g hi hg => hs g (.inr (.inl ⟨i, hi, .inr (.inl hg)⟩))
 refine ⟨h.len, (hs _ (.inl rfl)).trans h.words, fun i hi => (hs _ (.inr (.inl ⟨i, hi, .inl rfl⟩))).trans (h.mach i hi), fun i hi => ?_, fun i b hi hb => ?_, fun b o hbo => (hs b (.inr (.inr ⟨o, hbo⟩))).trans (h.ro b o hbo), h.inj, h.rofree, h.sep, h.lo, h.csep⟩
 · refine ⟨(h.told i hi).1, ?_⟩
   rcases (h.told i hi).2 with hv | ⟨g, cap, cur, hv, h1, h2, h3⟩
   · exact .inl hv
   · exact .inr ⟨g, cap, cur, hv, h1, (hb i g hi (by rw [hv]; rfl)).trans h2, h3⟩
 · obtain ⟨c, h1, h0, h2⟩ := h.code i b hi hb
   exact ⟨c, h1, h0, (hs b (.inr (.inl ⟨i, hi, .inr (.inr hb)⟩))).trans h2⟩
def MTurn (r : Mem × Bool) (room' : Nat) (i : Nat) (m : MM) (o : Out MM) : Prop :=
 ∃ m', o = (if r.2 then .yield m' else .done m') ∧ m'.mem = r.1 ∧ (∀ j, j ≠ i → m'.tv j = m.tv j) ∧ (∀ j, j ≠ i → m'.cb j = m.cb j) ∧ m'.room = room' ∧ m'.begun = fun j => if j = i then true else m.begun j
theorem MTurn.mem {r : Mem × Bool} {room' i : Nat} {m : MM} {o : Out MM} (h : MTurn r room' i m o) : o.mem.mem = r.1 ∧ (∀ j, j ≠ i → o.mem.tv j = m.tv j) ∧ (∀ j, j ≠ i → o.mem.cb j = m.cb j) ∧ o.mem.begun = fun j => if j = i then true else m.begun j := by
 obtain ⟨m', rfl, h1, h2, h5, h3, h4⟩ := h
 split <;> exact ⟨h1, h2, h5, h4⟩
theorem startP_other (prog : Nat → List Cd) (i : Nat) (μ : Mem) : (startP prog i μ).1.ws = μ.ws ∧ ∀ j, j ≠ i → (startP prog i μ).1.th j = μ.th j := by
 unfold startP Mem.upd
 exact ⟨rfl, fun j hj => by simp [hj]⟩
theorem goP_other (prog : Nat → List Cd) (i : Nat) (μ : Mem) : (goP prog i μ).1.ws.length = μ.ws.length ∧ ∀ j, j ≠ i → (goP prog i μ).1.th j = μ.th j := by
 unfold goP
 split
 · exact ⟨rfl, fun _ _ => rfl⟩
 · unfold Mem.upd
   exact ⟨stepC_len _ _ _, fun j hj => by simp [hj]⟩
def MSame (i : Nat) (m m' : MM) : Prop := m.th i = m'.th i ∧ m.tv i = m'.tv i ∧ m.cb i = m'.cb i ∧ m.begun i = m'.begun i ∧ m.ws.length = m'.ws.length
def MS.thr (S : MS) : Thr MM where
 foot := S.foot
 Rep := S.Rep
 Start i m o := MTurn (startP S.prog i m.mem) m.room i m o
 Go i m o := MTurn (goP S.prog i m.mem) (m.room - 1) i m o
 Kill i m m' := m' = { m with room := m.room - 1 }
 Same := MSame
 left m := m.room
 frame m w w' h hs := ⟨h.body.frame hs, h.room⟩
 lt m w b h hb := by
  rcases hb with rfl | ⟨i, hi, rfl | hg | hg⟩ | ⟨o, ho⟩
  · exact zq4 h.body.words
  · exact zq4 (h.body.mach i hi)
  · obtain ⟨c, hc⟩ := h.body.block hi hg
    exact zq4 hc
  · obtain ⟨c, _, _, hc⟩ := h.body.code i b hi hg
    exact zq4 hc
  · exact zq4 (h.body.ro b o ho)
 refl i m := ⟨rfl, rfl, rfl, rfl, rfl⟩
 trans i m m' m'' h k := ⟨h.1.trans k.1, h.2.1.trans k.2.1, h.2.2.1.trans k.2.2.1, h.2.2.2.1.trans k.2.2.2.1, h.2.2.2.2.trans k.2.2.2.2⟩
 start_same i j m o hij h := by
  obtain ⟨h1, h2, h4, h3⟩ := h.mem
  obtain ⟨k1, k2⟩ := startP_other S.prog j m.mem
  refine ⟨?_, (h2 i hij).symm, (h4 i hij).symm, by rw [h3]; simp [hij], ?_⟩
  · have := k2 i hij; rw [← h1] at this; exact this.symm
  · rw [← h1] at k1; exact (congrArg List.length k1).symm
 go_same i j m o hij h := by
  obtain ⟨h1, h2, h4, h3⟩ := h.mem
  obtain ⟨k1, k2⟩ := goP_other S.prog j m.mem
  refine ⟨?_, (h2 i hij).symm, (h4 i hij).symm, by rw [h3]; simp [hij], ?_⟩
  · have := k2 i hij; rw [← h1] at this; exact this.symm
  · rw [← h1] at k1; exact k1.symm
 kill_same i j m m' hij h := by subst h; exact ⟨rfl, rfl, rfl, rfl, rfl⟩
theorem MS.machines (S : MS) : Machines S.thr MM.mem S.prog := by
 have key : ∀ (r : Mem × Bool) (room' i : Nat) (m : MM) (o : Out MM), MTurn r room' i m o → (∃ m', o = .yield m' ∧ r = (m'.mem, true)) ∨ ∃ m', o = .done m' ∧ r = (m'.mem, false) := by
  rintro ⟨r1, r2⟩ room' i m o ⟨m', rfl, h1, _⟩
  simp only at h1
  subst h1
  cases r2 with
  | true => exact .inl ⟨m', rfl, rfl⟩
  | false => exact .inr ⟨m', rfl, rfl⟩
 exact ⟨fun i m o h => key _ _ _ _ _ h, fun i m o h => key _ _ _ _ _ h, fun i m m' h => by subst h; rfl⟩
theorem load_lone (b off : Nat) (x : Int) (w : World) (h0 : w.cell? ⟨b, off, none⟩ = some (.int .i64 x)) :
 Calls Try.prog 42 #[.pointer (some ⟨b, off, none⟩)] w fun e w' => e = .returned (.int .i64 x) ∧ w' = w := by
 have hl := run_call_load (P := Try.prog) Try.func51 (by kernel_rfl) (by kernel_rfl) (by kernel_rfl) .i64 (by kernel_rfl) h0
 go_enter Try.func42, Try.ntmps42
 go_wp2
 go_ret
 exact ⟨rfl, rfl⟩
theorem store_lone (b off : Nat) (x y : Int) (w : World) (h0 : w.cell? ⟨b, off, none⟩ = some (.int .i64 x)) (f0 : w.frozen? ⟨b, off, none⟩ = false) :
 Calls Try.prog 39 #[.pointer (some ⟨b, off, none⟩), .int .i64 y] w fun e w' => e = .returned (.tuple #[]) ∧ w' = w.setCell ⟨b, off, none⟩ (.int .i64 y) := by
 have hl := run_call_store (P := Try.prog) Try.func48 (by kernel_rfl) (by kernel_rfl) (by kernel_rfl) (by kernel_rfl) (k := .i64) (y := y) h0 f0
 go_enter Try.func39, Try.ntmps39
 go_wp2
 go_end0
 exact ⟨rfl, rfl⟩
theorem add_lone (b off : Nat) (x y : Int) (w : World) (h0 : w.cell? ⟨b, off, none⟩ = some (.int .i64 x)) (f0 : w.frozen? ⟨b, off, none⟩ = false) :
 Calls Try.prog 53 #[.pointer (some ⟨b, off, none⟩), .int .i64 y] w fun e w' => e = .returned (.int .i64 (IntKind.i64.wrap (x + y))) ∧ w' = w.setCell ⟨b, off, none⟩ (.int .i64 (IntKind.i64.wrap (x + y))) := by
 have hl := run_call_add (P := Try.prog) Try.func56 (by kernel_rfl) (by kernel_rfl) (by kernel_rfl) .i64 (by kernel_rfl) (y := y) (s := IntKind.i64.wrap (x + y)) h0 f0 (by rfl)
 go_enter Try.func53, Try.ntmps53
 go_wp2
 go_ret
 have hw : wrap64 (x + y) = IntKind.i64.wrap (x + y) := by rw [IntKind.wrap_i64]; simp only [wrap64]
 rw [hw]
 exact ⟨rfl, rfl⟩
theorem run_call_swap {P : Program} {f : FuncId} {fn : Func} (hf : P.funcs[f]? = some fn) (hname : (fn.name == "runtime.NumGoroutine") = false) (hb : fn.body.isNone = true) (hn : Extern.findNext fn = none) (k : IntKind)
 (he : Extern.find fn = some (Extern.Atomic.swapT (.int k))) {a : Addr} {x y : Int} {w : World} (hc : w.cell? a = some (.int k x)) (hz : w.frozen? a = false) :
 (callFunc f #[.pointer (some a), .int k y]).run P w = .ok (.value (.int k x)) (w.setCell a (.int k y)) := by
 rw [run_callFunc_extern hf hname hb hn he]
 change (Sem.run P (do
  let a' ← asAddr (.pointer (some a))
  let old ← Extern.Atomic.read (.int k) a'
  store a' (.int k y) .atomic
  pure old) w).andThen _ = _
 simp [Extern.Atomic.read, asAddr, asInt, asIntOf, hc, hz, run_store P w a (.int k y) .atomic rfl, Result.andThen]
theorem swap_lone (b off : Nat) (x y : Int) (w : World) (h0 : w.cell? ⟨b, off, none⟩ = some (.int .i64 x)) (f0 : w.frozen? ⟨b, off, none⟩ = false) :
 Calls Try.prog 54 #[.pointer (some ⟨b, off, none⟩), .int .i64 y] w fun e w' => e = .returned (.int .i64 x) ∧ w' = w.setCell ⟨b, off, none⟩ (.int .i64 y) := by
 have hl := run_call_swap (P := Try.prog) Try.func57 (by kernel_rfl) (by kernel_rfl) (by kernel_rfl) .i64 (by kernel_rfl) (y := y) h0 f0
 go_enter Try.func54, Try.ntmps54
 go_wp2
 go_ret
 exact ⟨rfl, rfl⟩
theorem cas_hit_lone (b off : Nat) (x y : Int) (w : World) (h0 : w.cell? ⟨b, off, none⟩ = some (.int .i64 x)) (f0 : w.frozen? ⟨b, off, none⟩ = false) :
 Calls Try.prog 55 #[.pointer (some ⟨b, off, none⟩), .int .i64 x, .int .i64 y] w fun e w' => e = .returned (.bool true) ∧ w' = w.setCell ⟨b, off, none⟩ (.int .i64 y) := by
 have hl := run_call_cas_hit (P := Try.prog) Try.func58 (by kernel_rfl) (by kernel_rfl) (by kernel_rfl) .i64 (by kernel_rfl) (y := y) h0 f0
 go_enter Try.func55, Try.ntmps55
 go_wp2
 go_ret
 exact ⟨rfl, rfl⟩
theorem cas_miss_lone (b off : Nat) (x o y : Int) (w : World) (h0 : w.cell? ⟨b, off, none⟩ = some (.int .i64 x)) (f0 : w.frozen? ⟨b, off, none⟩ = false) (hne : ¬ x = o) :
 Calls Try.prog 55 #[.pointer (some ⟨b, off, none⟩), .int .i64 o, .int .i64 y] w fun e w' => e = .returned (.bool false) ∧ w' = w := by
 have hl := run_call_cas_miss (P := Try.prog) Try.func58 (by kernel_rfl) (by kernel_rfl) (by kernel_rfl) .i64 (by kernel_rfl) (o := o) (y := y) h0 f0 hne
 go_enter Try.func55, Try.ntmps55
 go_wp2
 go_ret
 exact ⟨rfl, rfl⟩
theorem register_lone (b : Nat) (n : Int) (w : World) :
 Calls Try.prog 52 #[.pointer (some ⟨b, 0, none⟩), .int .i64 n] w fun e w' => e = .returned (.pointer (some ⟨b, 1 + ix n, none⟩)) ∧ w' = w := by
 have h1 : -4 < n.tmod 4 := Int.lt_tmod_of_pos n (by omega)
 have h2 : n.tmod 4 < 4 := Int.tmod_lt_of_pos n (by omega)
 have e1 : IntKind.i64.wrap (n.tmod 4 + 4) = n.tmod 4 + 4 := IntWalk.i64_in _ (by omega)
 have e2 := ix_val n
 have h3 := ix_lt n
 have h4 : (0 : Int) ≤ (ix n : Nat) := by omega
 have h5 : ((ix n : Nat) : Int) < 4 := by omega
 go_enter Try.func52, Try.ntmps52
 go_wp2
 go_ret
 exact ⟨rfl, rfl⟩
end Go.Proofs
set_option maxHeartbeats 4000000
set_option maxRecDepth 100000
namespace Go.Proofs
open Go Go.Conc Go.RowKit Go.Car
structure MachB (mb bw W : Nat) (tv : Value) (ws : List Int) (m : Mch) (w : World) : Prop where
 ne : mb ≠ bw
 len : ws.length = W
 hm : w.heap[mb]? = some (.cells #[.slice (some ⟨bw, 0, none⟩) W W, .int .i64 (m.regs 0), .int .i64 (m.regs 1), .int .i64 (m.regs 2), .int .i64 (m.regs 3), tv, .int .i64 m.next] 118)
 hw : w.heap[bw]? = some (.cells (ws.map (Value.int .i64)).toArray 114)
section
variable {mb bw W : Nat} {tv : Value} {ws : List Int} {m : Mch} {w : World}
theorem MachB.same (h : MachB mb bw W tv ws m w) {w' : World} (h1 : w'.heap[mb]? = w.heap[mb]?) (h2 : w'.heap[bw]? = w.heap[bw]?) : MachB mb bw W tv ws m w' := ⟨h.ne, h.len, h1.trans h.hm, h2.trans h.hw⟩
theorem MachB.al (h : MachB mb bw W tv ws m w) (o : Obj) : MachB mb bw W tv ws m (w.alloc o) := ⟨h.ne, h.len, al_old h.hm, al_old h.hw⟩
theorem MachB.c0 (h : MachB mb bw W tv ws m w) : w.cell? ⟨mb, 0, none⟩ = some (.slice (some ⟨bw, 0, none⟩) W W) := (zq1 h.hm).trans rfl
theorem MachB.cn (h : MachB mb bw W tv ws m w) : w.cell? ⟨mb, 6, none⟩ = some (.int .i64 m.next) := (zq1 h.hm).trans rfl
theorem MachB.ct (h : MachB mb bw W tv ws m w) : w.cell? ⟨mb, 5, none⟩ = some tv := (zq1 h.hm).trans rfl
theorem MachB.cr (h : MachB mb bw W tv ws m w) {i : Nat} (hi : i < 4) : w.cell? ⟨mb, 1 + i, none⟩ = some (.int .i64 (m.regs i)) := by
 obtain rfl | rfl | rfl | rfl : i = 0 ∨ i = 1 ∨ i = 2 ∨ i = 3 := by omega
 all_goals exact (zq1 h.hm).trans rfl
theorem MachB.cw (h : MachB mb bw W tv ws m w) {i : Nat} (hi : i < W) : w.cell? ⟨bw, i, none⟩ = some (.int .i64 (ws.getD i 0)) := by
 refine (zq1 h.hw).trans ?_
 have hl := h.len
 simp [hl, hi]
theorem MachB.fm (h : MachB mb bw W tv ws m w) (i : Nat) : w.frozen? ⟨mb, i, none⟩ = false := zqf h.hm
theorem MachB.fw (h : MachB mb bw W tv ws m w) (i : Nat) : w.frozen? ⟨bw, i, none⟩ = false := zqf h.hw
theorem MachB.setR (h : MachB mb bw W tv ws m w) {i : Nat} (hi : i < 4) (v : Int) : MachB mb bw W tv ws (m.set i v) (w.setCell ⟨mb, 1 + i, none⟩ (.int .i64 v)) := by
 refine ⟨h.ne, h.len, ?_, (zqa _ _ _ _ h.ne.symm).trans h.hw⟩
 refine (zqh _ _ _ _ h.hm).trans ?_
 obtain rfl | rfl | rfl | rfl : i = 0 ∨ i = 1 ∨ i = 2 ∨ i = 3 := by omega
 all_goals rfl
theorem MachB.setN (h : MachB mb bw W tv ws m w) (v : Int) : MachB mb bw W tv ws { m with next := v } (w.setCell ⟨mb, 6, none⟩ (.int .i64 v)) := by
 refine ⟨h.ne, h.len, ?_, (zqa _ _ _ _ h.ne.symm).trans h.hw⟩
 exact (zqh _ _ _ _ h.hm).trans rfl
theorem MachB.setT (h : MachB mb bw W tv ws m w) (v : Value) : MachB mb bw W v ws m (w.setCell ⟨mb, 5, none⟩ v) := by
 refine ⟨h.ne, h.len, ?_, (zqa _ _ _ _ h.ne.symm).trans h.hw⟩
 exact (zqh _ _ _ _ h.hm).trans rfl
theorem MachB.setW (h : MachB mb bw W tv ws m w) {i : Nat} (hi : i < W) (v : Int) : MachB mb bw W tv (ws.set i v) m (w.setCell ⟨bw, i, none⟩ (.int .i64 v)) := by
 refine ⟨h.ne, by simpa using h.len, (zqa _ _ _ _ h.ne).trans h.hm, ?_⟩
 refine (zqh _ _ _ _ h.hw).trans ?_
 congr 2
 apply Array.ext_getElem?
 intro j
 simp only [al_gs, al_gl, List.getElem?_map, List.getElem?_set, List.size_toArray, List.length_map]
 by_cases e : i = j
 · subst e; have hl := h.len; simp [hl, hi]
 · simp [e]
end
structure Rest (mb bw : Nat) (w w' : World) : Prop where
 size : w.heap.size ≤ w'.heap.size
 old : ∀ b, b < w.heap.size → b ≠ mb → b ≠ bw → w'.heap[b]? = w.heap[b]?
theorem Rest.al {mb bw : Nat} {w w' : World} (h : Rest mb bw w w') (o : Obj) : Rest mb bw w (w'.alloc o) := ⟨by rw [zq8]; exact Nat.le_succ_of_le h.size, fun b hb h1 h2 => by rw [zqc, if_neg (by have := h.size; omega)]; exact h.old b hb h1 h2⟩
theorem Rest.setM {mb bw : Nat} {w w' : World} (h : Rest mb bw w w') (i : Nat) (v : Value) : Rest mb bw w (w'.setCell ⟨mb, i, none⟩ v) := ⟨by rw [hp_size_set]; exact h.size, fun b hb h1 h2 => (zqa _ _ _ _ h1).trans (h.old b hb h1 h2)⟩
theorem Rest.setW {mb bw : Nat} {w w' : World} (h : Rest mb bw w w') (i : Nat) (v : Value) : Rest mb bw w (w'.setCell ⟨bw, i, none⟩ v) := ⟨by rw [hp_size_set]; exact h.size, fun b hb h1 h2 => (zqa _ _ _ _ h2).trans (h.old b hb h1 h2)⟩
theorem Rest.refl (mb bw : Nat) (w : World) : Rest mb bw w w := ⟨Nat.le_refl _, fun _ _ _ _ => rfl⟩
end Go.Proofs
