/- YtdncabjenacolaaTOver5: part 14 of the proof (the texts behind it, in order). -/
import Derived.Test.YtdncabjenacolaaP13
set_option linter.unusedSimpArgs false
set_option linter.unusedVariables false
set_option linter.unusedSectionVars false
set_option linter.unnecessarySimpa false
set_option maxHeartbeats 1000000
set_option maxRecDepth 100000
namespace Go.Proofs
open Go Go.Conc Go.RowKit Go.Car
theorem WkO.beyond {w w1 w2 : World} {bB : Nat} {wk : Nat → Wk} {n : Nat} {out : Value} {wb : Nat → Option Nat} (h : WkO w bB wk n out wb w1) (hb : Beyond w1 w2) : WkO w bB wk n out wb w2 :=
 ⟨Nat.le_trans h.size hb.1, fun b hlt => (hb.2 b (Nat.lt_of_lt_of_le hlt h.size)).trans (h.old b hlt), ownsRow_of h.orow fun g hg => hb.2 g (own_lt h.orow hg).2.2, h.nl, fun i b hi hbi => ⟨(h.blk i b hi hbi).1, (hb.2 b (zq4 (h.blk i b hi hbi).2)).trans (h.blk i b hi hbi).2⟩⟩
noncomputable def wkWS (N bB : Nat) (wk : Nat → Wk) (wb : Nat → Option Nat) : WS := ⟨N, bB, bB, wb, fun i => (wk i).n, fun i => (wk i).a⟩
def natI (l : List Nat) : List Int := l.map fun (i : Nat) => (i : Int)
structure WOv (N bB : Nat) (wb : Nat → Option Nat) (b : OSt WM) (most : Nat) (w : World) (v : Value) (g : Nat) (w' : World) : Prop where
 size : w.heap.size ≤ w'.heap.size
 old : ∀ x, x < w.heap.size → x ≠ bB → (∀ i b, i < N → wb i = some b → x ≠ b) → w'.heap[x]? = w.heap[x]?
 ord : IntsAt w' v (natI b.ord)
 bd : ∃ bv, w'.heap[bB]? = some (.cells #[bv] 43) ∧ IntsAt w' bv (natI b.ord)
 brk : ∃ br, w'.heap[g]? = some (.cells br 4) ∧ ∀ i, i < N → br[i]? = some (.bool (b.brk i))
 glo : w.heap.size ≤ g
 len : b.ord.length ≤ most
 row : w'.ownsRow w.heap.size 3 1 v b.ord.length (intL (natI b.ord))
theorem row_ints {w : World} {B : Nat} {v : Value} {l : List Int} (h : w.ownsRow B 3 1 v l.length (intL l)) : IntsAt w v l := by
 rcases h.2 with ⟨hv, h0⟩ | ⟨g, cap, cur, hv, hb, hh, h1, h2, h3, h4⟩
 · exact ⟨none, 0, by rw [hv, h0], fun hne => absurd (List.eq_nil_of_length_eq_zero h0) hne⟩
 · refine ⟨_, cap, hv, fun hne => ⟨g, 0, rfl, fun i hi => ?_⟩⟩
   rw [Nat.zero_add, zq1 (off := i) hh]
   have hx : (intL l)[i]? = some (.int .i64 (l.getD i 0)) := by
    unfold intL
    rw [List.getElem?_map, List.getElem?_eq_getElem hi]
    simp [hi]
   have hl := h.1
   rw [← h4, List.getElem?_take] at hx
   split at hx
   · simpa using hx
   · cases hx
theorem walk_over {Fin : Machine → Trace → Prop} (hFin : Back Try.prog Fin) {n0 : Nat} (hn0 : 0 < n0) {wa w : World} {bB n N most Cs : Nat} {wk : Nat → Wk} {out : Value} {wb : Nat → Option Nat} {sched : List Int} {sp : Option Addr} {mo : Int} {c : Frame} {cs : List Frame} (hN : N = min n 64) (hmost : most = min mo.toNat 1048576) (hbB : w.heap[bB]? = some (.cells #[.slice none 0 0] 43)) (hW : WkO wa bB wk n out wb w)
 (hsl : sched.length ≤ 4611686018427387904) (hs : sched ≠ [] → ∃ sb off, sp = some ⟨sb, off, none⟩ ∧ sb ≠ bB ∧ (∀ i b, i < N → wb i = some b → sb ≠ b) ∧ ∀ j x, sched[j]? = some x → w.cell? ⟨sb, off + j, none⟩ = some (.int .i64 x))
 (hmain : ∀ b R v' g cap w', WRan (wkWS N bB wk wb) sched most b R → WOv N bB wb b most w v' g w' → J0 Try.prog Fin (n0 + N) (G (c.finish (.tuple #[v', .bool (decide (0 < leftN b.ov N)), .slice (some ⟨g, 0, none⟩) N cap])) cs) w') :
 J0 Try.prog Fin n0 (G (Frame.enter Try.prog 14 #[out, .slice sp sched.length Cs, .int .i64 mo] .normal) (c :: cs)) w := by
 obtain ⟨p, C, rfl, hob, hpc⟩ := row_form hW.orow
 have hNn : N ≤ n := by omega
 obtain ⟨S, hS⟩ : ∃ S, S = wkWS N bB wk wb := ⟨_, rfl⟩
 obtain ⟨m₀, hm₀⟩ : ∃ m₀ : WM, m₀ = ⟨[], .slice none 0 0, fun _ => 0, most + 100⟩ := ⟨_, rfl⟩
 have hfoot : ∀ x, S.thr.foot m₀ x → x = bB ∨ ∃ i, i < N ∧ wb i = some x := by
  intro x hx
  subst hS hm₀
  rcases hx with h | h | h
  · exact .inl h
  · cases h
  · exact .inr h
 have hrep : S.thr.Rep m₀ w := by
  subst hS hm₀
  refine ⟨⟨hbB, World.ownsRow_nil _ _ _ _, fun i b hi hb => (hW.blk i b (by have : i < N := hi; omega) hb).2, Nat.le_refl _⟩, ?_⟩
  show 0 + (most + 100) ≤ _
  omega
 have hne : ∀ (x : Nat) (cc : Array Value) (T : TypeId) (f : Nat × Nat), w.heap[x]? = some (.cells cc T f) → T ≠ 43 → T ≠ 105 → ¬ S.thr.foot m₀ x := by
  intro x cc T f hx h1 h2 hf
  rcases hfoot x hf with rfl | ⟨i, hi, hb⟩
  · exact h1 (heap_type hx hbB)
  · exact h2 (heap_type hx (hW.blk i x (by omega) hb).2)
 refine over_calls hFin (T := S.thr) (m₀ := m₀) (N := N) (most := most) (tv := fun i => wkV (wb i)) (sched := sched) hn0 hN hmost hrep (by subst hm₀ hS; exact Nat.le_refl _) ?_ ?_ ?_ ?_
 · intro h0
   obtain ⟨g, rfl, hg, hcell⟩ := hpc (by omega)
   obtain ⟨⟨cc, hcc⟩, _, _⟩ := own_lt hW.orow hg
   refine ⟨g, rfl, hne g _ _ _ hcc (by decide) (by decide), fun i hi => hcell i _ ?_⟩
   rw [List.getElem?_map, List.getElem?_range (by omega)]
   rfl
 · intro i hi
   subst hS
   refine walk_runs (S := wkWS N bB wk wb) hi (by show N ≤ 64; omega) (by show (wk i).n < 100; have := (wk i).n_le; omega) ?_ (by rw [hm₀]) _ (fun sg => beyP_end _ sg)
   show (wb i = none ∧ _) ∨ _
   cases hb : wb i with
   | none => exact .inl ⟨rfl, rfl⟩
   | some b => exact .inr ⟨b, hb, rfl⟩
 · refine ⟨hsl, sp, Cs, rfl, fun h0 => ?_⟩
   obtain ⟨sb, off, e, h1, h2, h3⟩ := hs h0
   obtain ⟨x, l, hl⟩ := List.exists_cons_of_ne_nil h0
   refine ⟨sb, off, e, cell_lt (h3 0 x (by rw [hl]; rfl)), fun hf => ?_, h3⟩
   rcases hfoot sb hf with h | ⟨i, hi, hb⟩
   · exact h1 h
   · exact h2 i sb hi hb rfl
 · intro b m' v' g cap w' hO
   subst hS
   obtain ⟨⟨R, hR⟩, hbd⟩ := ran_walk (S := wkWS N bB wk wb) (m₀ := m₀) (by rw [hm₀]; exact fun _ => rfl) (by rw [hm₀]) hO.ran
   refine hmain b R v' g cap w' hR ⟨hO.size, fun x hx h1 h2 => hO.old x hx fun hf => ?_, ?_, ?_, hO.brk, hO.brkl, hO.len, ?_⟩
   · rcases hfoot x hf with h | ⟨i, hi, hb⟩
     · exact h1 h
     · exact h2 i x hi hb rfl
   · refine row_ints (B := w.heap.size) ?_
     have := hO.row
     simp only [natI, intL, List.length_map, List.map_map]
     exact this
   · have hB : (wkWS N bB wk wb).Body m' w' := hO.rep.body
     refine ⟨m'.bv, hB.board, row_ints (B := bB) ?_⟩
     have := hB.own
     rw [hbd] at this
     exact this
   · have := hO.row
     simp only [natI, intL, List.map_map]
     exact this
theorem wkWS_k {wa w : World} {n N bB : Nat} {wk : Nat → Wk} {out : Value} {wb : Nat → Option Nat} (hW : WkO wa bB wk n out wb w) {i : Nat} (hi : i < n) : (wkWS N bB wk wb).k i = (wk i).k ∧ (wkWS N bB wk wb).bad i = (wk i).bad := by
 have h := hW.nl i hi
 unfold WS.k WS.bad Wk.k Wk.bad wkWS
 simp only
 cases hb : wb i with
 | none => rw [h.1 hb]; simp
 | some b =>
  have : (wk i).nl = false := by
   cases hn : (wk i).nl with
   | false => rfl
   | true => rw [h.2 hn] at hb; cases hb
  rw [this]; simp
theorem wk_k_le (x : Wk) : x.k ≤ 31 := by
 have := x.n_le
 unfold Wk.k
 split
 · omega
 · split
   · omega
   · exact this
theorem wstp_congr {N : Nat} {s s' : LS} (h1 : ∀ i, i < N → s.1 i = s'.1 i) (h2 : s.2 = s'.2) (x : Int) : (∀ i, i < N → (wstp N s x).1 i = (wstp N s' x).1 i) ∧ (wstp N s x).2 = (wstp N s' x).2 := by
 unfold wstp
 by_cases hc : 0 ≤ x ∧ x < N
 · have := h1 x.toNat (by omega)
   rw [this]
   by_cases hp : 0 < s'.1 x.toNat
   · rw [if_pos ⟨hc.1, hc.2, hp⟩, if_pos ⟨hc.1, hc.2, hp⟩]
     refine ⟨fun i hi => ?_, by simp only [h2]⟩
     simp only [dec1]
     rw [this, h1 i hi]
   · rw [if_neg (fun h => hp h.2.2), if_neg (fun h => hp h.2.2)]
     exact ⟨h1, h2⟩
 · rw [if_neg (fun h => hc ⟨h.1, h.2.1⟩), if_neg (fun h => hc ⟨h.1, h.2.1⟩)]
   exact ⟨h1, h2⟩
theorem fold_congr {N : Nat} (l : List Int) : ∀ {s s' : LS}, (∀ i, i < N → s.1 i = s'.1 i) → s.2 = s'.2 → (∀ i, i < N → (l.foldl (wstp N) s).1 i = (l.foldl (wstp N) s').1 i) ∧ (l.foldl (wstp N) s).2 = (l.foldl (wstp N) s').2 := by
 induction l with
 | nil => intro s s' h1 h2; exact ⟨h1, h2⟩
 | cons x l ih => intro s s' h1 h2; obtain ⟨k1, k2⟩ := wstp_congr h1 h2 x; exact ih k1 k2
noncomputable def kOf (wk : Nat → Wk) : LS := (fun i => (wk i).k, [])
theorem leftN_zero {ov : Nat → Bool} {N : Nat} (h : ¬ 0 < leftN ov N) : ∀ i, i < N → ov i = true := fun i hi => by
 cases ho : ov i with
 | true => rfl
 | false =>
  have := leftN_set (ov := ov) hi ho
  omega
theorem over_plain {wa w : World} {n N bB : Nat} {wk : Nat → Wk} {out : Value} {wb : Nat → Option Nat} (hW : WkO wa bB wk n out wb w) (hN : N = min n 64) {l : List Int} {most : Nat} {b : OSt WM} {R : Nat} (h : WRan (wkWS N bB wk wb) l most b R) :
 b.ord = (((l ++ cycl N (N * R)).foldl (wstp N) (kOf wk)).2).take most ∧ (1984 < most → leftN b.ov N = 0 ∧ b.ord = ((l ++ cycl N (N * R)).foldl (wstp N) (kOf wk)).2 ∧ (∀ i, i < N → ((l ++ cycl N (N * R)).foldl (wstp N) (kOf wk)).1 i = 0) ∧ ∀ i, i < N → b.brk i = (wk i).bad) := by
 have hk : ∀ i, i < N → (wkWS N bB wk wb).k i = (wk i).k := fun i hi => (wkWS_k hW (by omega)).1
 have hl : (wkWS N bB wk wb).ls b = (l ++ cycl N (N * R)).foldl (wstm N most) (fun i => (wkWS N bB wk wb).k i, []) := h.ls
 obtain ⟨k1, k2, k3, k4⟩ := fold_most N most (l ++ cycl N (N * R)) (fun i => (wkWS N bB wk wb).k i, []) (Nat.zero_le _)
 obtain ⟨c1, c2⟩ := fold_congr (N := N) (l ++ cycl N (N * R)) (s := (fun i => (wkWS N bB wk wb).k i, [])) (s' := kOf wk) hk rfl
 have ho : b.ord = (((l ++ cycl N (N * R)).foldl (wstp N) (kOf wk)).2).take most := by
  rw [← c2, ← k1, ← hl]; rfl
 refine ⟨ho, fun hm => ?_⟩
 have hsum : sumN (fun i => (wkWS N bB wk wb).k i) N ≤ 1984 := Nat.le_trans (sumN_le (c := 31) fun i hi => by rw [hk i hi]; exact wk_k_le _) (by omega)
 have hf := fold_sum N (l ++ cycl N (N * R)) (fun i => (wkWS N bB wk wb).k i, [])
 simp only [List.length_nil, Nat.zero_add] at hf
 have hle : ((l ++ cycl N (N * R)).foldl (wstp N) (fun i => (wkWS N bB wk wb).k i, [])).2.length ≤ most := by omega
 have he := k2 hle
 have hlen : b.ord.length < most := by
  have : b.ord = ((wkWS N bB wk wb).ls b).2 := rfl
  rw [this, hl, he]; omega
 have hst := h.stop
 have h0 : ¬ 0 < leftN b.ov N := fun hp => hst ⟨hp, hlen⟩
 have hov := leftN_zero h0
 have hpos : ∀ i, i < N → b.m.pos i = (wkWS N bB wk wb).k i := fun i hi => by
  have := h.iv.ov i hi
  rw [hov i hi] at this
  exact of_decide_eq_true this.symm
 refine ⟨by omega, ?_, fun i hi => ?_, fun i hi => ?_⟩
 · rw [← c2, ← he, ← hl]; rfl
 · rw [← c1 i hi, ← he, ← hl]
   show (wkWS N bB wk wb).k i - b.m.pos i = 0
   rw [hpos i hi]; omega
 · rw [h.iv.brk i hi, hpos i hi, (wkWS_k hW (by omega)).2]; simp
set_option maxHeartbeats 8000000
set_option maxRecDepth 100000
theorem samei_lone {w : World} {va vb : Value} {l : List Int} (hl : l.length ≤ 1099511627776) (ha : IntsAt w va l) (hb : IntsAt w vb l) :
 Calls Try.prog 16 #[va, vb] w fun e w' => e = .returned (.bool true) ∧ ∃ n, w' = w.drewN n := by
 obtain ⟨pa, ca, rfl, ha⟩ := ha
 obtain ⟨pb, cb, rfl, hb⟩ := hb
 have HA := Lib.hid (And.intro ha hb)
 clear ha hb
 obtain ⟨L, hL⟩ : ∃ L, l.length = L := ⟨_, rfl⟩
 rw [hL] at hl ⊢
 have HL := Lib.hid hL
 clear hL
 go_enter Try.func16, Try.ntmps16
 go_wp2
 go_loopg [5] L (fun k i wr => ∃ (j n : Nat), k = L - j ∧ j ≤ L ∧ i = .int .i64 j ∧ wr = w.drewN n)
 case atStart => exact ⟨0, 0, rfl, Nat.zero_le _, rfl, rfl⟩
 case round =>
  obtain ⟨j, n, hk, hj, rfl, rfl⟩ := hrel
  by_cases hlt : j < L
  · have hlt' : (j : Int) < (L : Int) := by omega
    have hj0 : (0 : Int) ≤ j := by omega
    have hne : l ≠ [] := fun e => by have := HL.out; rw [e] at this; simp at this; omega
    obtain ⟨b1, o1, rfl, h1⟩ := HA.out.1 hne
    obtain ⟨b2, o2, rfl, h2⟩ := HA.out.2 hne
    have k1 := h1 j (by rw [HL.out]; exact hlt)
    have k2 := h2 j (by rw [HL.out]; exact hlt)
    generalize l.getD j 0 = x at k1 k2
    clear h1 h2 hne HA
    go_wp2_with (fail)
    go_quiet (fail)
    go_wp2
    go_roundg (L - (j + 1))
    case measure => omega
    case rel => exact ⟨j + 1, _, rfl, by omega, rfl, rfl⟩
  · obtain rfl : L = j := by omega
    go_wp2
    go_ret
    exact ⟨rfl, n, rfl⟩
theorem make_ints (w : World) (N : Nat) (hN : N ≤ 64) : (Instr.makeSlice 24 (.int .i64 N) (.int .i64 N)).run Try.prog w = .ok (.slice (some ⟨w.heap.size, 0, none⟩) N N) (w.alloc (.cells (Array.replicate N (.int .i64 0)) 3)) := by
 obtain ⟨ti, hti, hz, hz1, hz2⟩ : ∃ ti, Try.prog.info? 3 = some ti ∧ ti.zero = some (.int .i64 0) ∧ ti.size = 1 ∧ ti.bytes = 8 := ⟨_, rfl, rfl, rfl, rfl⟩
 have := run_make (P := Try.prog) w 24 3 ti (.int .i64 0) (by kernel_rfl) hti hz .i64 .i64 N N (by omega) (Int.le_refl _) (by rw [hz2]; omega) (by omega)
 simp only [Int.toNat_natCast, hz1, Nat.mul_one] at this
 rw [this]
 congr 3
 apply Array.ext_getElem?
 intro i
 by_cases hi : i < N
 · simp [madeCells, hi, Nat.mod_one, Value.cells]
 · simp [madeCells, hi]
def natA (N : Nat) (f : Nat → Nat) : Array Value := ((List.range N).map fun i => Value.int .i64 (f i)).toArray
theorem natA_get {N : Nat} {f : Nat → Nat} {i : Nat} (hi : i < N) : (natA N f)[i]? = some (.int .i64 (f i)) := by
 unfold natA
 rw [al_gl, List.getElem?_map, List.getElem?_range hi]; rfl
theorem natA_zero (N : Nat) : Array.replicate N (Value.int .i64 0) = natA N fun _ => 0 := by
 apply Array.ext_getElem?
 intro i
 by_cases hi : i < N
 · rw [natA_get hi]; simp [hi]
 · unfold natA; simp [hi]
theorem natA_set {N : Nat} {f : Nat → Nat} {i x : Nat} : (natA N f).setIfInBounds i (.int .i64 (x : Int)) = natA N fun j => if j = i then x else f j := by
 apply Array.ext_getElem?
 intro j
 rw [al_gs]
 by_cases hj : j < N
 · simp only [natA_get hj]
   by_cases e : i = j
   · subst e
     rw [if_pos rfl, if_pos (by unfold natA; simpa using hj), if_pos rfl]
   · rw [if_neg e, if_neg (Ne.symm e)]
 · have h1 : ∀ f : Nat → Nat, (natA N f)[j]? = none := fun f => by unfold natA; simp [hj]
   rw [h1, h1]
   split
   · split
     · rename_i h; unfold natA at h; simp at h; omega
     · rfl
   · rfl
structure OvL (w : World) (N : Nat) (f : Nat → Nat) (wr : World) : Prop where
 size : w.heap.size < wr.heap.size
 old : ∀ b, b < w.heap.size → wr.heap[b]? = w.heap[b]?
 blk : wr.heap[w.heap.size]? = some (.cells (natA N f) 3)
theorem OvL.start (w : World) (N : Nat) : OvL w N (fun _ => 0) (w.alloc (.cells (Array.replicate N (.int .i64 0)) 3)) :=
 ⟨by rw [zq8]; omega, fun b hb => by rw [zqc, if_neg (by omega)], by rw [← natA_zero]; exact al_new _ _⟩
theorem OvL.drew {w : World} {nn N : Nat} {f : Nat → Nat} {wr : World} (h : OvL (w.drewN nn) N f wr) : OvL w N f wr := ⟨h.size, h.old, h.blk⟩
theorem OvL.set {w : World} {N : Nat} {f : Nat → Nat} {wr : World} (h : OvL w N f wr) (i x : Nat) {f' : Nat → Nat} (hf : ∀ j, j < N → f' j = if j = i then x else f j) : OvL w N f' (wr.setCell ⟨w.heap.size, i, none⟩ (.int .i64 (x : Int))) := by
 refine ⟨by rw [hp_size_set]; exact h.size, fun b hb => by rw [zqa _ _ _ _ (by show b ≠ w.heap.size; omega)]; exact h.old b hb, ?_⟩
 rw [zqf _ _ _ _ h.blk, natA_set]
 congr 2
 unfold natA
 congr 1
 refine List.map_congr_left fun j hj => ?_
 rw [hf j (List.mem_range.1 hj)]
theorem OvL.congr {w : World} {N : Nat} {f f' : Nat → Nat} {wr : World} (h : OvL w N f wr) (hf : ∀ j, j < N → f' j = f j) : OvL w N f' wr := by
 refine ⟨h.size, h.old, h.blk.trans ?_⟩
 congr 2
 unfold natA
 congr 1
 refine List.map_congr_left fun j hj => ?_
 rw [hf j (List.mem_range.1 hj)]
theorem fold_next {N : Nat} {pre post : List Int} {x : Int} {s0 : LS} (hc : 0 ≤ x ∧ x < N ∧ 0 < (pre.foldl (wstp N) s0).1 x.toNat) : (((pre ++ x :: post).foldl (wstp N) s0).2)[(pre.foldl (wstp N) s0).2.length]? = some x.toNat := by
 rw [List.foldl_append, List.foldl_cons]
 generalize pre.foldl (wstp N) s0 = s at hc ⊢
 obtain ⟨r, hr⟩ := fold_pre N post (wstp N s x)
 rw [hr]
 have e : (wstp N s x).2 = s.2 ++ [x.toNat] := by unfold wstp; rw [if_pos hc]
 rw [e]
 simp
theorem take_cut {l : List Int} {j : Nat} (hj : j < l.length) : l = l.take j ++ l.getD j 0 :: l.drop (j + 1) := by
 conv => lhs; rw [← List.take_append_drop j l]
 congr 1
 rw [List.drop_eq_getElem_cons hj]
 simp [hj]
theorem take_more {l : List Int} {j : Nat} (hj : j < l.length) (N : Nat) (s0 : LS) : (l.take (j + 1)).foldl (wstp N) s0 = wstp N ((l.take j).foldl (wstp N) s0) (l.getD j 0) := by
 rw [List.take_add_one, List.foldl_append]
 simp [hj]
theorem ord_next {w : World} {op : Option Addr} {Co N : Nat} {ord : List Nat} (hord : IntsAt w (.slice op ord.length Co) (natI ord)) {k X : Nat} (h : ord[k]? = some X) : ∃ b o, op = some ⟨b, o, none⟩ ∧ w.cell? ⟨b, o + k, none⟩ = some (.int .i64 X) := by
 obtain ⟨p, C, e, hh⟩ := hord
 rw [Value.slice.injEq] at e
 obtain ⟨rfl, -, -⟩ := e
 have hk : k < ord.length := (List.getElem?_eq_some_iff.1 h).1
 obtain ⟨b, o, e2, h2⟩ := hh (fun e => by have : (natI ord).length = 0 := by rw [e]; rfl
                                          rw [show (natI ord).length = ord.length from List.length_map _] at this; omega)
 refine ⟨b, o, e2, ?_⟩
 rw [h2 k (by rw [show (natI ord).length = ord.length from List.length_map _]; exact hk)]
 unfold natI
 rw [List.getD_eq_getElem?_getD, List.getElem?_map, h]; rfl
theorem OvL.dec {w wr : World} {N X y : Nat} {s : LS} (h : OvL w N s.1 wr) (hX : X < N) (hy : s.1 X = y) (hy0 : 0 < y) (hy1 : y ≤ 1984) : OvL w N (wstp N s X).1 (wr.setCell ⟨w.heap.size, X, none⟩ (.int .i64 (wrap64 ((y : Int) - 1)))) ∧ (wstp N s X).2.length = s.2.length + 1 := by
 have e : wstp N s X = (dec1 s.1 X, s.2 ++ [X]) := by
  unfold wstp
  rw [Int.toNat_natCast, if_pos ⟨by omega, by omega, by omega⟩]
 have hw : wrap64 ((y : Int) - 1) = ((y - 1 : Nat) : Int) := by
  rw [wrap64_eq, IntWalk.i64_in _ (by omega)]
  omega
 rw [e, hw]
 exact ⟨h.set X (y - 1) fun j hj => by unfold dec1; rw [hy], by simp⟩
theorem cycl_cut {N t T : Nat} (h : t < T) : ∃ post, cycl N T = cycl N t ++ ((t % N : Nat) : Int) :: post := by
 obtain ⟨d, rfl⟩ : ∃ d, T = t + 1 + d := ⟨T - (t + 1), by omega⟩
 clear h
 induction d with
 | zero => exact ⟨[], cycl_succ N t⟩
 | succ d ih =>
  obtain ⟨post, h⟩ := ih
  refine ⟨post ++ [(((t + 1 + d) % N : Nat) : Int)], ?_⟩
  rw [show t + 1 + (d + 1) = t + 1 + d + 1 by omega, cycl_succ, h, List.append_assoc, List.cons_append]
theorem sum_kOf (wk : Nat → Wk) {N : Nat} (hN : N ≤ 64) (L : List Int) : (L.foldl (wstp N) (kOf wk)).2.length + sumN (L.foldl (wstp N) (kOf wk)).1 N = sumN (fun x => (wk x).k) N ∧ sumN (fun x => (wk x).k) N ≤ 1984 := by
 refine ⟨?_, Nat.le_trans (sumN_le (c := 31) fun i _ => wk_k_le _) (by omega)⟩
 rw [fold_sum]
 show 0 + sumN (fun x => (wk x).k) N = _
 omega
theorem rem_next {t N : Nat} : (((t % N : Nat) : Int) + 1) % (N : Int) = (((t + 1) % N : Nat) : Int) := by
 rw [show (((t % N : Nat) : Int) + 1) = ((t % N + 1 : Nat) : Int) by push_cast; rfl, ← Int.natCast_emod, Nat.mod_add_mod]
theorem OvL.ext {w wr w' : World} {N : Nat} {f : Nat → Nat} (h : OvL w N f wr) (hb : Beyond wr w') : OvL w N f w' :=
 ⟨Nat.lt_of_lt_of_le h.size hb.1, fun b hlt => (hb.2 b (Nat.lt_trans hlt h.size)).trans (h.old b hlt), (hb.2 _ h.size).trans h.blk⟩
theorem OvL.beyond {w wr : World} {N : Nat} {f : Nat → Nat} (h : OvL w N f wr) : Beyond w wr := ⟨Nat.le_of_lt h.size, h.old⟩
noncomputable def ovT (n : Nat) : Code := tailN n (Try.f5.body.getD .skip)
structure OvW (w : World) (lp sp : Option Addr) (n N bB g : Nat) (Cs Co : Nat) (op : Option Addr) (wk : Nat → Wk) (l : List Int) (ord : List Nat) : Prop where
 walks : WalksAt w lp n wk
 sched : IntsAt w (.slice sp l.length Cs) l
 hord : IntsAt w (.slice op ord.length Co) (natI ord)
 bd : ∃ bv, w.heap[bB]? = some (.cells #[bv] 43) ∧ IntsAt w bv (natI ord)
 brk : ∃ br, w.heap[g]? = some (.cells br 4) ∧ ∀ i, i < N → br[i]? = some (.bool (wk i).bad)
theorem turnover_rest {E : Ending → World → Prop} {w : World} {lp sp op : Option Addr} {n N bB g C Cs Co cap : Nat} {wk : Nat → Wk} {l : List Int} {ord : List Nat} {x19 x20 x21 x22 x23 x24 x25 x26 x27 x28 x29 x30 x31 x32 x33 : Value} {R : Nat} (hn : n ≤ 1099511627776) (hN : N = min n 64) (hl : l.length ≤ 1099511627776) (hW : OvW w lp sp n N bB g Cs Co op wk l ord)
 (ho : ord = ((l ++ cycl N (N * R)).foldl (wstp N) (kOf wk)).2) (h0 : ∀ i, i < N → ((l ++ cycl N (N * R)).foldl (wstp N) (kOf wk)).1 i = 0) (hE : ∀ w', Beyond w w' → E (.returned (.bool true)) w') :
 Code.wp Try.prog (ovT 5) (bodyPost Try.prog Try.f5 E) ⟨#[.slice lp n C, .slice sp l.length Cs, undef, undef, .bool false, .pointer (some ⟨bB, 0, none⟩), .slice op ord.length Co, .bool false, .slice (some ⟨g, 0, none⟩) N cap, .int .i64 N, undef, undef, undef, undef, undef, undef, undef, undef, undef, x19, x20, x21, x22, x23, x24, x25, x26, x27, x28, x29, x30, x31, x32, x33, .slice lp n C, .int .i64 n, .int .i64 N, undef, undef, undef, undef, undef, undef, undef, undef, undef, undef, undef, undef, undef, undef, undef, undef, undef, undef, undef, undef, undef, undef, undef, undef, undef, undef, undef, undef, undef, undef, undef, undef, undef, undef, undef, undef, undef, undef, undef, undef, undef, undef, undef, undef, undef, undef, undef, undef, undef, undef, undef, undef, undef, undef, undef, undef, undef, undef, undef, undef, undef, undef, undef, undef, undef, undef, undef, undef, undef, undef, undef, undef, undef, undef, undef, undef, undef, undef, undef, undef, undef, undef, undef, undef, undef, undef, undef, undef, undef, undef, undef, undef, undef, undef, undef, undef, undef, undef, undef, undef, undef, undef, undef, undef, undef, undef, undef, undef, undef, undef, undef, undef, undef, undef, undef, undef, undef, undef, undef, undef, undef, undef, undef, undef], []⟩ w := by
 have HW := Lib.hid hW
 have HO := Lib.hid (And.intro ho h0)
 have HE := Lib.hid hE
 have HN := Lib.hid hN
 have hN64 : N ≤ 64 := by omega
 have hNn : N ≤ n := by omega
 have hol : ord.length ≤ 1984 := by
  have hf := fold_sum N (l ++ cycl N (N * R)) (kOf wk)
  rw [ho]
  have : sumN (kOf wk).1 N ≤ N * 31 := sumN_le fun i hi => wk_k_le (wk i)
  have e : (kOf wk).2.length = 0 := rfl
  omega
 clear hW ho h0 hE
 obtain ⟨u0, hu0⟩ : ∃ c, ovT 5 = c := ⟨_, rfl⟩
 have eu0 := hu0
 rw [hu0]
 simp only [ovT, headC, tailN, Try.f5, al_od] at eu0
 subst eu0
 clear hu0
 obtain ⟨bv, hbd, hbi⟩ := HW.out.bd
 obtain ⟨bp, bC, rfl, hb2⟩ := hbi
 have kb := (zq1 (off := 0) hbd).trans rfl
 have HB := Lib.hid (And.intro hbd hb2)
 clear hbd hb2 hN
 go_wp2_with (fail)
 have hlen : (natI ord).length = ord.length := List.length_map _
 refine Calls.mono (samei_lone (l := natI ord) (by rw [hlen]; omega) HW.out.hord ⟨bp, bC, rfl, HB.out.2⟩) ?_
 rintro e w' ⟨rfl, nn, rfl⟩
 have hN0 : (0 : Int) ≤ N := by omega
 have hN1 : (N : Int) ≤ 64 := by omega
 clear kb hlen
 have hgw : g < w.heap.size := by obtain ⟨br, hbr, _⟩ := HW.out.brk; exact zq4 hbr
 have hmk := fun w => make_ints w N hN64
 go_wp2
 clear hmk
 go_loopg [11, 12] N (fun k a i wr => ∃ j : Nat, k = N - j ∧ j ≤ N ∧ a = .int .i64 (sumN (fun x => (wk x).k) j : Nat) ∧ i = .int .i64 j ∧ OvL w N (fun x => if x < j then (wk x).k else 0) wr)
 case atStart => exact ⟨0, rfl, Nat.zero_le _, rfl, rfl, by rw [show (fun x => if x < 0 then (wk x).k else 0) = fun _ => 0 from by funext x; simp]; exact (OvL.start (w.drewN nn) N).drew⟩
 case round =>
  obtain ⟨j, hk, hj, rfl, rfl, hR⟩ := hrel
  have HR := Lib.hid hR
  clear hR
  by_cases hlt : j < N
  · have hlt' : (j : Int) < (N : Int) := by omega
    have hj0 : (0 : Int) ≤ j := by omega
    obtain ⟨lb, lo, rfl, hc⟩ := HW.out.walks (by omega)
    obtain ⟨e0, e1, e2⟩ := hc j (by omega)
    have hjn : (j : Int) < (n : Int) := by omega
    obtain ⟨x, hx⟩ : ∃ x, wk j = x := ⟨_, rfl⟩
    rw [hx] at e0 e1 e2
    have f0 := HR.out.beyond.cell e0
    have f1 := HR.out.beyond.cell e1
    have f2 := HR.out.beyond.cell e2
    have HX := Lib.hid hx
    clear hc e0 e1 e2 hx
    go_wp2_with (fail)
    refine Calls.mono (does_lone x wr) ?_
    rintro e w2 ⟨rfl, hb2⟩
    have hR2 := HR.out.ext hb2
    obtain ⟨br, hbr, hbb⟩ := HW.out.brk
    have cb := hR2.beyond.cell ((zq1 (off := j) hbr).trans (hbb j hlt))
    rw [HX.out] at cb
    have cl := (zq1 (off := j) hR2.blk).trans (natA_get hlt)
    have zl := hp_frozen (off := j) hR2.blk
    have hk31 : x.k ≤ 31 := wk_k_le x
    have hsum : sumN (fun x => (wk x).k) j ≤ 64 * 31 := Nat.le_trans (sumN_le (c := 31) fun i _ => wk_k_le _) (Nat.mul_le_mul_right 31 (by omega))
    have HS2 := Lib.hid (And.intro hR2 (show sumN (fun x => (wk x).k) (j + 1) = sumN (fun x => (wk x).k) j + x.k by rw [sumN, HX.out]))
    clear hR2 hbr hbb f0 f1 f2 hb2
    generalize hkx : x.k = kx at *
    generalize hbx : x.bad = bx at *
    generalize hsx : sumN (fun x => (wk x).k) j = sx at *
    have hk0 : (0 : Int) ≤ kx := by omega
    have hk1 : (kx : Int) ≤ 31 := by omega
    have hs0 : (0 : Int) ≤ sx := by omega
    have hs1 : (sx : Int) ≤ 1984 := by omega
    have hgl := hgw
    have cb2 : (w2.setCell ⟨w.heap.size, j, none⟩ (.int .i64 (kx : Int))).cell? ⟨g, j, none⟩ = some (.bool bx) := (zqe (zqa _ _ _ _ (by show g ≠ w.heap.size; omega))).trans cb
    clear cb
    cases bx <;> (
     go_wp2
     go_roundg (N - (j + 1))
     case measure => omega
     case rel =>
      refine ⟨j + 1, rfl, by omega, ?_, rfl, ?_⟩
      · rw [HS2.out.2]; push_cast; rfl
      · refine HS2.out.1.set j kx fun i hi => ?_
        by_cases e : i = j
        · subst e; rw [if_pos (by omega), if_pos rfl, HX.out, hkx]
        · by_cases e2 : i < j
          · rw [if_pos (by omega), if_neg e, if_pos e2]
          · rw [if_neg (by omega), if_neg e, if_neg e2])
  · obtain rfl : N = j := by omega
    have HR1 := Lib.hid (HR.out.congr (f' := (kOf wk).1) fun j hj => by simp only [hj, if_true]; rfl)
    clear HR
    obtain ⟨A, hA⟩ : ∃ A, sumN (fun x => (wk x).k) N = A := ⟨_, rfl⟩
    have HA := Lib.hid hA
    rw [hA]
    clear hA
    go_wp2
    go_loopg [15, 16] l.length (fun k a i wr => ∃ j : Nat, k = l.length - j ∧ j ≤ l.length ∧ a = .int .i64 (((l.take j).foldl (wstp N) (kOf wk)).2.length : Nat) ∧ i = .int .i64 j ∧ OvL w N ((l.take j).foldl (wstp N) (kOf wk)).1 wr)
    case atStart => exact ⟨0, rfl, Nat.zero_le _, rfl, rfl, HR1.out⟩
    case round =>
     obtain ⟨j, hk, hj, rfl, rfl, hR⟩ := hrel
     have HR := Lib.hid hR
     clear hR
     by_cases hlt : j < l.length
     · have hlt' : (j : Int) < (l.length : Int) := by omega
       have hj0 : (0 : Int) ≤ j := by omega
       obtain ⟨sp1, sC, e, hsc⟩ := HW.out.sched
       cases e
       obtain ⟨sb, so, rfl, hsc2⟩ := hsc (fun e => by rw [e] at hlt; exact absurd hlt (Nat.not_lt_zero _))
       have fx := HR.out.beyond.cell (hsc2 j hlt)
       clear hsc hsc2
       have hstep := take_more hlt N (kOf wk)
       have hcut := take_cut hlt
       have hnext := fun hc => fold_next (N := N) (pre := l.take j) (post := l.drop (j + 1) ++ cycl N (N * R)) (x := l.getD j 0) (s0 := kOf wk) hc
       rw [← List.cons_append, ← List.append_assoc, ← hcut, ← HO.out.1] at hnext
       have hbound : ((l.take j).foldl (wstp N) (kOf wk)).2.length ≤ 1984 := by
        have hf := fold_sum N (l.take j) (kOf wk)
        have h1 : sumN (kOf wk).1 N ≤ N * 31 := sumN_le fun i hi => wk_k_le (wk i)
        have e : (kOf wk).2.length = 0 := rfl
        omega
       obtain ⟨s, hs⟩ : ∃ s, (l.take j).foldl (wstp N) (kOf wk) = s := ⟨_, rfl⟩
       rw [hs] at hstep hnext hbound HR ⊢
       obtain ⟨x, hx⟩ : ∃ x, l.getD j 0 = x := ⟨_, rfl⟩
       rw [hx] at hstep hnext fx
       obtain ⟨q, hq⟩ : ∃ q, s.2.length = q := ⟨_, rfl⟩
       rw [hq] at hnext hbound ⊢
       have HC := Lib.hid (And.intro hstep (And.intro hs (And.intro hx hq)))
       have HNX := Lib.hid hnext
       clear hstep hcut hnext hs hx hq
       by_cases hx0 : 0 ≤ x
       · obtain ⟨X, rfl⟩ := Int.eq_ofNat_of_zero_le hx0
         by_cases hx1 : (X : Int) < N
         · have cl := (zq1 (off := X) HR.out.blk).trans (natA_get (by omega))
           have zl := hp_frozen (off := X) HR.out.blk
           obtain ⟨y, hy⟩ : ∃ y, s.1 X = y := ⟨_, rfl⟩
           rw [hy] at cl
           by_cases hy0 : (0 : Int) < y
           · have hn := HNX.out ⟨hx0, hx1, by rw [Int.toNat_natCast, hy]; omega⟩
             rw [Int.toNat_natCast] at hn
             obtain ⟨ob, oo, rfl, ho1⟩ := ord_next (N := N) HW.out.hord hn
             have fo := HR.out.beyond.cell ho1
             have hql : (q : Int) < (ord.length : Int) := by have := (List.getElem?_eq_some_iff.1 hn).1; omega
             have hq0 : (0 : Int) ≤ q := by omega
             have hq1 : (q : Int) ≤ 1984 := by omega
             have HY := Lib.hid hy
             clear hn ho1 hy
             go_wp2
             go_roundg (l.length - (j + 1))
             case measure => omega
             case rel =>
              obtain ⟨k1, k2⟩ := HR.out.dec (X := X) (by omega) HY.out (by omega) (by
               have h1 := (sum_kOf wk hN64 (l.take j)).2
               have h2 := (sum_kOf wk hN64 (l.take j)).1
               rw [HC.out.2.1] at h2
               have h3 := sumN_pos (f := s.1) (N := N) (i := X) (by omega)
               have := HY.out
               omega)
              refine ⟨j + 1, rfl, by omega, ?_, rfl, ?_⟩
              · rw [HC.out.1, k2, HC.out.2.2.2]; push_cast; rfl
              · rw [HC.out.1]; exact k1
           · obtain rfl : y = 0 := by omega
             go_wp2
             go_roundg (l.length - (j + 1))
             case measure => omega
             case rel =>
              have e : wstp N s X = s := by unfold wstp; rw [if_neg]; intro h; have := h.2.2; rw [Int.toNat_natCast, hy] at this; omega
              refine ⟨j + 1, rfl, by omega, ?_, rfl, ?_⟩
              · rw [HC.out.1, e, HC.out.2.2.2]
              · rw [HC.out.1, e]; exact HR.out
         · go_wp2
           go_roundg (l.length - (j + 1))
           case measure => omega
           case rel =>
            have e : wstp N s X = s := by unfold wstp; rw [if_neg]; intro h; have := h.2.1; omega
            refine ⟨j + 1, rfl, by omega, ?_, rfl, ?_⟩
            · rw [HC.out.1, e, HC.out.2.2.2]
            · rw [HC.out.1, e]; exact HR.out
       · go_wp2
         go_roundg (l.length - (j + 1))
         case measure => omega
         case rel =>
          have e : wstp N s x = s := by unfold wstp; rw [if_neg]; intro h; have := h.1; omega
          refine ⟨j + 1, rfl, by omega, ?_, rfl, ?_⟩
          · rw [HC.out.1, e, HC.out.2.2.2]
          · rw [HC.out.1, e]; exact HR.out
     · obtain rfl : l.length = j := by omega
       have HR2 := Lib.hid HR.out
       clear HR
       have hat : (l.take l.length).foldl (wstp N) (kOf wk) = (l ++ cycl N 0).foldl (wstp N) (kOf wk) := by rw [List.take_length]; show _ = (l ++ []).foldl _ _; rw [List.append_nil]
       rw [hat] at HR2 ⊢
       clear hat
       have hA2 := HA.out
       have htot := fun L => (sum_kOf wk hN64 L)
       rw [hA2] at htot
       have HT := Lib.hid htot
       have hA1 : A ≤ 1984 := (htot []).2
       have hA3 : (A : Int) ≤ 1984 := by omega
       have hA4 : (0 : Int) ≤ A := by omega
       clear hA2 htot
       go_wp2
       go_loopg [15, 18] (N * R) (fun k a i wr => ∃ t : Nat, k = N * R - t ∧ t ≤ N * R ∧ a = .int .i64 (((l ++ cycl N t).foldl (wstp N) (kOf wk)).2.length : Nat) ∧ i = .int .i64 ((t % N : Nat) : Int) ∧ OvL w N ((l ++ cycl N t).foldl (wstp N) (kOf wk)).1 wr)
       case atStart => exact ⟨0, rfl, Nat.zero_le _, rfl, by rw [Nat.zero_mod]; rfl, HR2.out⟩
       case round =>
        obtain ⟨t, hk, hj, rfl, rfl, hR⟩ := hrel
        have HR := Lib.hid hR
        clear hR
        have hst := (HT.out (l ++ cycl N t)).1
        have hstep : (l ++ cycl N (t + 1)).foldl (wstp N) (kOf wk) = wstp N ((l ++ cycl N t).foldl (wstp N) (kOf wk)) ((t % N : Nat) : Int) := by rw [cycl_succ, ← List.append_assoc, List.foldl_append]; rfl
        have hnext := fun post hc => fold_next (N := N) (pre := l ++ cycl N t) (post := post) (x := ((t % N : Nat) : Int)) (s0 := kOf wk) hc
        obtain ⟨s, hs⟩ : ∃ s, (l ++ cycl N t).foldl (wstp N) (kOf wk) = s := ⟨_, rfl⟩
        rw [hs] at hstep HR hst ⊢
        simp only [hs] at hnext
        obtain ⟨q, hq⟩ : ∃ q, s.2.length = q := ⟨_, rfl⟩
        rw [hq] at hst ⊢
        simp only [hq] at hnext
        have hq0 : (0 : Int) ≤ q := by omega
        have hq1 : (q : Int) ≤ 1984 := by omega
        have HC := Lib.hid (And.intro hstep (And.intro hs (And.intro hq hst)))
        have HNX := Lib.hid hnext
        by_cases hqA : (q : Int) < A
        · have hlt : t < N * R := by
           refine Nat.lt_of_le_of_ne hj fun e => ?_
           have h1 := HO.out.2
           rw [← e, hs] at h1
           have := sumN_zero (f := s.1) (N := N) h1
           omega
          have hNp : 0 < N := by
           rcases Nat.eq_zero_or_pos N with h | h
           · rw [h] at hlt; simp at hlt
           · exact h
          obtain ⟨post, hpost⟩ := cycl_cut (N := N) hlt
          have HNX2 := Lib.hid (hnext post)
          rw [List.append_assoc, ← hpost, ← HO.out.1] at HNX2
          obtain ⟨X, hX⟩ : ∃ X, t % N = X := ⟨_, rfl⟩
          have hXN : X < N := by rw [← hX]; exact Nat.mod_lt _ hNp
          have hrem := rem_next (t := t) (N := N)
          rw [hX] at hrem HNX2 HC ⊢
          have HRM := Lib.hid hrem
          clear hnext hpost hst hs hq hstep HNX hrem
          have hx0 : (0 : Int) ≤ X := by omega
          have hx1 : (X : Int) < N := by omega
          have hNz : ¬ (N : Int) = 0 := by omega
          have cl := (zq1 (off := X) HR.out.blk).trans (natA_get hXN)
          have zl := hp_frozen (off := X) HR.out.blk
          obtain ⟨y, hy⟩ : ∃ y, s.1 X = y := ⟨_, rfl⟩
          rw [hy] at cl
          by_cases hy0 : (0 : Int) < y
          · have hn := HNX2.out ⟨hx0, hx1, by rw [Int.toNat_natCast, hy]; omega⟩
            rw [Int.toNat_natCast] at hn
            obtain ⟨ob, oo, rfl, ho1⟩ := ord_next (N := N) HW.out.hord hn
            have fo := HR.out.beyond.cell ho1
            have hql : (q : Int) < (ord.length : Int) := by have := (List.getElem?_eq_some_iff.1 hn).1; omega
            have hyz : ¬ (y : Int) = 0 := by omega
            have HY := Lib.hid hy
            clear hn ho1 hy
            go_wp2
            go_roundg (N * R - (t + 1))
            case measure => omega
            case rel =>
             obtain ⟨k1, k2⟩ := HR.out.dec (X := X) (by omega) HY.out (by omega) (by
              have h2 := HC.out.2.2.2
              have h3 := sumN_pos (f := s.1) (N := N) (i := X) (by omega)
              have := HY.out
              omega)
             refine ⟨t + 1, rfl, by omega, ?_, by rw [HRM.out], ?_⟩
             · rw [HC.out.1, k2, HC.out.2.2.1]; push_cast; rfl
             · rw [HC.out.1]; exact k1
          · obtain rfl : y = 0 := by omega
            have HY := Lib.hid hy
            clear hy
            go_wp2
            go_roundg (N * R - (t + 1))
            case measure => omega
            case rel =>
             have e : wstp N s X = s := by unfold wstp; rw [if_neg]; intro h; have := h.2.2; rw [Int.toNat_natCast, HY.out] at this; omega
             refine ⟨t + 1, rfl, by omega, ?_, by rw [HRM.out], ?_⟩
             · rw [HC.out.1, e, HC.out.2.2.1]
             · rw [HC.out.1, e]; exact HR.out
        · go_wp2
          have hqo : q = ord.length := by
           have h1 := (HT.out (l ++ cycl N (N * R))).1
           rw [← HO.out.1, sumN_zero HO.out.2] at h1
           omega
          rw [hqo, show ((ord.length : Int) == (ord.length : Int)) = true by simp]
          exact HE.out _ HR.out.beyond
set_option maxHeartbeats 4000000
set_option maxRecDepth 100000
theorem ov0 : Try.f5.body.getD .skip = .seq (headC (ovT 0)) (.seq (headC (ovT 1)) (.seq (headC (ovT 2)) (.seq (headC (ovT 3)) (.seq (headC (ovT 4)) (ovT 5))))) := by kernel_rfl
theorem WkO.re {w w1 : World} {τ : Nat → Question → Nat} {d bB n : Nat} {wk : Nat → Wk} {out : Value} {wb : Nat → Option Nat} (h : WkO (Go.Car.re w τ d) bB wk n out wb w1) : WkO w bB wk n out wb w1 := ⟨h.size, h.old, h.orow, h.nl, h.blk⟩
theorem WkO.to_re {w w1 : World} {τ : Nat → Question → Nat} {d bB n : Nat} {wk : Nat → Wk} {out : Value} {wb : Nat → Option Nat} (h : WkO w bB wk n out wb w1) : WkO w bB wk n out wb (Go.Car.re w1 τ d) := ⟨h.size, h.old, h.orow, h.nl, h.blk⟩
theorem OvW.re {w : World} {lp sp op : Option Addr} {n N bB g Cs Co : Nat} {wk : Nat → Wk} {l : List Int} {ord : List Nat} (h : OvW w lp sp n N bB g Cs Co op wk l ord) (τ : Nat → Question → Nat) (d : Nat) : OvW (Go.Car.re w τ d) lp sp n N bB g Cs Co op wk l ord := ⟨h.walks, h.sched, h.hord, h.bd, h.brk⟩
theorem turnover_run {Post : Value → World → Prop} (hPost : ∀ v w τ d, Post v w → Post v (re w τ d)) {W : World} {lp sp : Option Addr} {C Cs n : Nat} {wk : Nat → Wk} {l : List Int}
 (hn : n ≤ 1099511627776) (hl : l.length ≤ 1099511627776) (hw : WalksAt W lp n wk) (hs : IntsAt W (.slice sp l.length Cs) l)
 (hend : ∀ w', Beyond W w' → Post (.bool true) w') : FinOf Try.prog Post (solo (G (Frame.enter Try.prog 5 #[.slice lp n C, .slice sp l.length Cs] .normal) []) W) #[] := by
 refine j0_run Try.func5 rfl ?_
 have hFin := back_fin (P := Try.prog) Post
 have hJ := j0_JS hFin
 have hC := j0_calm hFin
 have e : Frame.enter Try.prog 5 #[.slice lp n C, .slice sp l.length Cs] .normal = (bN 5).at (enterAct Try.f5 #[.slice lp n C, .slice sp l.length Cs]) [.code ((Try.f5.body).getD .skip)] := by kernel_rfl
 have ea : enterAct Try.f5 #[.slice lp n C, .slice sp l.length Cs] = ⟨#[.slice lp n C, .slice sp l.length Cs, undef, undef, undef, undef, undef, undef, undef, undef, undef, undef, undef, undef, undef, undef, undef, undef, undef, undef, undef, undef, undef, undef, undef, undef, undef, undef, undef, undef, undef, undef, undef, undef, undef, undef, undef, undef, undef, undef, undef, undef, undef, undef, undef, undef, undef, undef, undef, undef, undef, undef, undef, undef, undef, undef, undef, undef, undef, undef, undef, undef, undef, undef, undef, undef, undef, undef, undef, undef, undef, undef, undef, undef, undef, undef, undef, undef, undef, undef, undef, undef, undef, undef, undef, undef, undef, undef, undef, undef, undef, undef, undef, undef, undef, undef, undef, undef, undef, undef, undef, undef, undef, undef, undef, undef, undef, undef, undef, undef, undef, undef, undef, undef, undef, undef, undef, undef, undef, undef, undef, undef, undef, undef, undef, undef, undef, undef, undef, undef, undef, undef, undef, undef, undef, undef, undef, undef, undef, undef, undef, undef, undef, undef, undef, undef, undef, undef, undef, undef, undef, undef, undef, undef, undef, undef, undef, undef, undef, undef, undef], []⟩ := by kernel_rfl
 rw [e, ea, ov0]
 clear e ea
 have HE := Lib.hid hend
 have HI := Lib.hid (And.intro hw hs)
 clear hend hw hs
 refine hJ.ctl (s := 1) (fun w => stepG_seq) ?_
 refine at_lone hJ hC plainM (by kernel_rfl) (fun t w' => t = #[.slice lp n C, .slice sp l.length Cs, undef, undef, .bool false, undef, undef, undef, undef, undef, undef, undef, undef, undef, undef, undef, undef, undef, undef, undef, undef, undef, undef, undef, undef, undef, undef, undef, undef, undef, undef, undef, undef, undef, undef, undef, undef, undef, undef, undef, undef, undef, undef, undef, undef, undef, undef, undef, undef, undef, undef, undef, undef, undef, undef, undef, undef, undef, undef, undef, undef, undef, undef, undef, undef, undef, undef, undef, undef, undef, undef, undef, undef, undef, undef, undef, undef, undef, undef, undef, undef, undef, undef, undef, undef, undef, undef, undef, undef, undef, undef, undef, undef, undef, undef, undef, undef, undef, undef, undef, undef, undef, undef, undef, undef, undef, undef, undef, undef, undef, undef, undef, undef, undef, undef, undef, undef, undef, undef, undef, undef, undef, undef, undef, undef, undef, undef, undef, undef, undef, undef, undef, undef, undef, undef, undef, undef, undef, undef, undef, undef, undef, undef, undef, undef, undef, undef, undef, undef, undef, undef, undef, undef, undef, undef, undef, undef, undef, undef, undef, undef] ∧ ∃ τ d, w' = re W τ d) (fun t w' τ d h => ⟨h.1, by obtain ⟨τ', d', rfl⟩ := h.2; exact ⟨τ, d, by rw [re_re]⟩⟩) (by decide) (fun τ d => ?_) ?_
 · obtain ⟨u0, hu0⟩ : ∃ c, headC (ovT 0) = c := ⟨_, rfl⟩
   have eu0 := hu0
   rw [hu0]
   simp only [ovT, headC, tailN, Try.f5, al_od] at eu0
   subst eu0
   clear hu0
   go_wp2
   exact ⟨rfl, rfl, τ, d, rfl⟩
 rintro t w' ⟨rfl, τ, d, rfl⟩
 refine hJ.re' 1 _ _ τ d ?_
 refine hJ.ctl (s := 1) (fun w => stepG_seq) ?_
 obtain ⟨u1, hu1⟩ : ∃ c, headC (ovT 1) = c := ⟨_, rfl⟩
 have eu1 := hu1
 rw [hu1]
 simp only [ovT, headC, tailN, Try.f5, al_od] at eu1
 subst eu1
 clear hu1
 refine hJ.ctl (s := 1) (fun w => stepG_seq) ?_
 refine hJ.ctl (s := 1) (fun w => stepG_region) ?_
 refine at_call (by decide) hJ (s := 1) rfl rfl (f := 8) (args := #[]) (fun τ d => ?_) (fun τ d => ?_) ?_
 · simp [go_sem, execOp, Act.eval, resolve, Deferred.ofValue, invoke, callFunc, Try.func8, Try.f8]
 · intro e he
   simp [go_sem, execOp, Act.eval, resolve, Deferred.ofValue, invoke, callFunc, Try.func8, Try.f8, Sem.runT_eq] at he
 refine awake_calls hFin (n := 1) (by omega) ?_
 intro w1 hB1
 rw [Frame.finish_at]
 walk_nrm
 refine at_piece (s := 1 + 6) (by decide) hJ (rows0_none _) false (.inr rfl) 1 1 0 rfl rfl rfl (by rfl) ?_
 intro τ d
 simp only [List.drop_succ_cons, List.drop_zero, List.take_succ_cons, List.take_zero]
 go_wp2
 simp only [contAt]
 refine hJ.re' (1 + 6) _ _ τ d ?_
 refine hJ.ctl (s := 1 + 6) (fun w => stepG_region_end) ?_
 refine at_lone hJ hC plainM (by kernel_rfl) (fun t w' => t = #[.slice lp n C, .slice sp l.length Cs, undef, undef, .bool false, undef, undef, undef, undef, undef, undef, undef, undef, undef, undef, undef, undef, undef, undef, .bool true, .bool false, undef, undef, undef, undef, undef, undef, undef, undef, undef, undef, undef, undef, undef, undef, undef, undef, undef, undef, undef, undef, undef, undef, undef, undef, undef, undef, undef, undef, undef, undef, undef, undef, undef, undef, undef, undef, undef, undef, undef, undef, undef, undef, undef, undef, undef, undef, undef, undef, undef, undef, undef, undef, undef, undef, undef, undef, undef, undef, undef, undef, undef, undef, undef, undef, undef, undef, undef, undef, undef, undef, undef, undef, undef, undef, undef, undef, undef, undef, undef, undef, undef, undef, undef, undef, undef, undef, undef, undef, undef, undef, undef, undef, undef, undef, undef, undef, undef, undef, undef, undef, undef, undef, undef, undef, undef, undef, undef, undef, undef, undef, undef, undef, undef, undef, undef, undef, undef, undef, undef, undef, undef, undef, undef, undef, undef, undef, undef, undef, undef, undef, undef, undef, undef, undef, undef, undef, undef, undef, undef, undef] ∧ ∃ τ d, w' = re w1 τ d) (fun t w' τ d h => ⟨h.1, by obtain ⟨τ', d', rfl⟩ := h.2; exact ⟨τ, d, by rw [re_re]⟩⟩) (by decide) (fun τ d => ?_) ?_
 · go_wp2
   exact ⟨rfl, rfl, τ, d, rfl⟩
 rintro t w' ⟨rfl, τ, d, rfl⟩
 refine hJ.re' (1 + 6) _ _ τ d ?_
 obtain ⟨B, hB⟩ : ∃ B, w1.heap.size = B := ⟨_, rfl⟩
 refine hJ.ctl (s := 1 + 6) (fun w => stepG_seq) ?_
 refine at_lone hJ hC plainM (by kernel_rfl) (fun t w' => t = #[.slice lp n C, .slice sp l.length Cs, undef, undef, .bool false, .pointer (some ⟨B, 0, none⟩), undef, undef, undef, undef, undef, undef, undef, undef, undef, undef, undef, undef, undef, .bool true, .bool false, .agg #[.slice none 0 0], .pointer (some ⟨B, 0, none⟩), undef, undef, undef, undef, undef, undef, undef, undef, undef, undef, undef, undef, undef, undef, undef, undef, undef, undef, undef, undef, undef, undef, undef, undef, undef, undef, undef, undef, undef, undef, undef, undef, undef, undef, undef, undef, undef, undef, undef, undef, undef, undef, undef, undef, undef, undef, undef, undef, undef, undef, undef, undef, undef, undef, undef, undef, undef, undef, undef, undef, undef, undef, undef, undef, undef, undef, undef, undef, undef, undef, undef, undef, undef, undef, undef, undef, undef, undef, undef, undef, undef, undef, undef, undef, undef, undef, undef, undef, undef, undef, undef, undef, undef, undef, undef, undef, undef, undef, undef, undef, undef, undef, undef, undef, undef, undef, undef, undef, undef, undef, undef, undef, undef, undef, undef, undef, undef, undef, undef, undef, undef, undef, undef, undef, undef, undef, undef, undef, undef, undef, undef, undef, undef, undef, undef, undef, undef, undef] ∧ ∃ τ d, w' = re (w1.alloc (.cells #[.slice none 0 0] 43)) τ d) (fun t w' τ d h => ⟨h.1, by obtain ⟨τ', d', rfl⟩ := h.2; exact ⟨τ, d, by rw [re_re]⟩⟩) (by decide) (fun τ d => ?_) ?_
 · obtain ⟨u2, hu2⟩ : ∃ c, headC (ovT 2) = c := ⟨_, rfl⟩
   have eu2 := hu2
   rw [hu2]
   simp only [ovT, headC, tailN, Try.f5, al_od] at eu2
   subst eu2
   clear hu2
   subst hB
   go_wp2
   exact ⟨rfl, rfl, τ, d, rfl⟩
 rintro t w' ⟨rfl, τ, d, rfl⟩
 refine hJ.re' (1 + 6) _ _ τ d ?_
 obtain ⟨wa, hwa⟩ : ∃ x, w1.alloc (.cells #[.slice none 0 0] 43) = x := ⟨_, rfl⟩
 have hba : Beyond w1 wa := by rw [← hwa]; exact Beyond.alloc _ _
 have hza : wa.heap.size = B + 1 := by rw [← hwa, zq8, hB]
 have hbd : wa.heap[B]? = some (.cells #[.slice none 0 0] 43) := by rw [← hwa, ← hB]; exact al_new _ _
 rw [hwa]
 clear hwa
 have HA := Lib.hid (And.intro (hB1.trans hba) (And.intro hza (And.intro hbd (show W.heap.size ≤ B by have := hB1.1; omega))))
 clear hB1 hba hza hbd hB
 refine hJ.ctl (s := 1 + 6) (fun w => stepG_seq) ?_
 obtain ⟨u3, hu3⟩ : ∃ c, headC (ovT 3) = c := ⟨_, rfl⟩
 have eu3 := hu3
 rw [hu3]
 simp only [ovT, headC, tailN, Try.f5, al_od] at eu3
 subst eu3
 clear hu3
 refine hJ.ctl (s := 1 + 6) (fun w => stepG_region) ?_
 refine at_piece (s := 1 + 6) (by decide) hJ (rows0_none _) true (.inl rfl) 0 2 12 rfl rfl rfl (by rfl) ?_
 intro τ d
 simp only [List.drop_zero, List.take_succ_cons, List.take_zero]
 go_wp2
 simp only [contAt]
 refine hJ.re' (1 + 6) _ _ τ d ?_
 refine at_call (by decide) hJ (s := 1 + 6) rfl rfl (f := 15) (args := #[.pointer (some ⟨B, 0, none⟩), .slice lp n C]) (fun τ d => ?_) (fun τ d => ?_) ?_
 · simp [go_sem, execOp, Act.eval, resolve, Deferred.ofValue, invoke, callFunc, Try.func15, Try.f15]
 · intro e he
   simp [go_sem, execOp, Act.eval, resolve, Deferred.ofValue, invoke, callFunc, Try.func15, Try.f15, Sem.runT_eq] at he
 refine at_calls_lone hJ hC plainM Try.func15 rfl (by kernel_rfl) (R := fun v w' => ∃ wb, WkO wa B wk n v wb w') (fun v w' τ d h => ?_) (fun τ d => Calls.mono (walkers_lone (bB := B) (re wa τ d) hn (HI.out.1.beyond HA.out.1)) ?_) ?_
 · obtain ⟨wb, h⟩ := h
   exact ⟨wb, h.to_re⟩
 · rintro e w' ⟨o, wb, he, h⟩
   exact ⟨o, he, wb, h.re⟩
 rintro v w2 ⟨wb, hO⟩
 obtain ⟨fp, Cf, rfl, _, _⟩ := row_form hO.orow
 rw [Frame.finish_at]
 walk_nrm
 have HO := Lib.hid hO
 clear hO
 refine at_piece (s := 1 + 6) (by decide) hJ (rows0_none _) false (.inr rfl) 3 3 8 rfl rfl rfl (by rfl) ?_
 intro τ d
 simp only [List.drop_succ_cons, List.drop_zero, List.take_succ_cons, List.take_zero]
 have hb2 : Beyond W w2 := HA.out.1.trans ⟨HO.out.size, HO.out.old⟩
 obtain ⟨sv, w3, hrun, hsr, hbe3⟩ := copy_made (P := Try.prog) (w := re w2 τ d) (t := 24) (ty := 24) (e := 3) (i := (Try.prog.info? 3).getD default) (z := .int .i64 0) (by kernel_rfl) (by kernel_rfl) (by kernel_rfl) (by kernel_rfl) (by kernel_rfl) (by rfl) ((HI.out.2.beyond hb2).re τ d) hl
 obtain ⟨ssp, sC, rfl, _, _⟩ := row_form hsr
 have HS3 := Lib.hid (And.intro hsr (And.intro hbe3 hb2))
 clear hsr hbe3 hb2
 go_wp2_with (at_builtin; go_loud (refine wpList_append_run rfl (.tmp 27) (.tmp 28) 24 rfl hrun ?_))
 simp only [contAt]
 clear hrun
 refine at_call (by decide) hJ (s := 1 + 6) rfl rfl (f := 14) (args := #[.slice fp n Cf, .slice ssp l.length sC, .int .i64 1048576]) (fun τ d => ?_) (fun τ d => ?_) ?_
 · simp [go_sem, execOp, Act.eval, resolve, Deferred.ofValue, invoke, callFunc, Try.func14, Try.f14]
 · intro e he
   simp [go_sem, execOp, Act.eval, resolve, Deferred.ofValue, invoke, callFunc, Try.func14, Try.f14, Sem.runT_eq] at he
 have hb23 : Beyond w2 w3 := ⟨HS3.out.2.1.1, HS3.out.2.1.2⟩
 have hW3 : WkO wa B wk n (.slice fp n Cf) wb w3 := HO.out.beyond hb23
 have hBa : B < wa.heap.size := by have := HA.out.2.1; omega
 have hbd3 : w3.heap[B]? = some (.cells #[.slice none 0 0] 43) := (hW3.old B hBa).trans HA.out.2.2.1
 refine walk_over hFin (n0 := 1 + 6) (by omega) (N := min n 64) (most := 1048576) rfl (by decide) hbd3 hW3 (by omega) (fun hne => ?_) ?_
 · obtain ⟨p, C', e, _, h⟩ := row_form HS3.out.1
   cases e
   obtain ⟨g, e2, hg, hc⟩ := h (List.length_pos_iff.2 hne)
   have hlo : w2.heap.size ≤ g := (own_lt HS3.out.1 hg).2.1
   have h2 := HO.out.size
   refine ⟨g, 0, e2, by omega, fun i b hi hb e => ?_, fun j x hj => ?_⟩
   · have := zq4 (HO.out.blk i b (by omega) hb).2
     omega
   · rw [Nat.zero_add]
     exact hc j _ (by rw [List.getElem?_map, hj]; rfl)
 intro b R v' g cap w4 hR hV
 obtain ⟨k1, k2⟩ := over_plain hW3 rfl hR
 obtain ⟨k3, k4, k5, k6⟩ := k2 (by omega)
 have hb34 : ∀ x, x < wa.heap.size → x ≠ B → w4.heap[x]? = wa.heap[x]? := fun x hx hne => by
  have h1 := hW3.size
  rw [hV.old x (by omega) hne (fun i b hi hb e => by have := (hW3.blk i b (by omega) hb).1; omega)]
  exact hW3.old x hx
 have hbW : Beyond W w4 := by
  have h1 := HA.out.1
  have h2 := HA.out.2.2.2
  have h3 := hW3.size
  have h4 := hV.size
  have h5 := h1.1
  exact ⟨by omega, fun x hx => (hb34 x (by omega) (by omega)).trans (h1.2 x hx)⟩
 obtain ⟨op, Co, hv', hoc⟩ := hV.ord
 rw [show (natI b.ord).length = b.ord.length from List.length_map _] at hv'
 subst hv'
 have hX : OvW w4 lp sp n (min n 64) B g Cs Co op wk l b.ord := by
  refine ⟨HI.out.1.beyond hbW, HI.out.2.beyond hbW, hV.ord, hV.bd, ?_⟩
  obtain ⟨br, h1, h2⟩ := hV.brk
  exact ⟨br, h1, fun i hi => by rw [h2 i hi, k6 i hi]⟩
 rw [show decide (0 < leftN b.ov (min n 64)) = false by rw [k3]; rfl]
 have HX := Lib.hid (And.intro hX (And.intro hbW (And.intro k4 k5)))
 clear hX hbW k1 k2 k3 k4 k5 k6 hR hV hoc hb34 hbd3 hW3 hb23 hBa HS3 HO HA
 generalize b.ord = ord at HX ⊢
 rw [Frame.finish_at]
 walk_nrm
 obtain ⟨N, hN⟩ : ∃ N, min n 64 = N := ⟨_, rfl⟩
 rw [hN] at HX ⊢
 refine at_piece (s := 1 + 6 + N) (by decide) hJ (rows0_none _) false (.inr rfl) 7 7 0 rfl rfl rfl (by rfl) ?_
 intro τ d
 simp only [List.drop_succ_cons, List.drop_zero, List.take_succ_cons, List.take_zero]
 go_wp2
 simp only [contAt]
 refine hJ.re' (1 + 6 + N) _ _ τ d ?_
 refine hJ.ctl (s := 1 + 6 + N) (fun w => stepG_region_end) ?_
 refine hJ.ctl (s := 1 + 6 + N) (fun w => stepG_seq) ?_
 refine at_lone hJ hC plainM (by kernel_rfl) (fun t w' => t = #[.slice lp n C, .slice sp l.length Cs, undef, undef, .bool false, .pointer (some ⟨B, 0, none⟩), .slice op ord.length Co, .bool false, .slice (some ⟨g, 0, none⟩) N cap, .int .i64 (N : Int), undef, undef, undef, undef, undef, undef, undef, undef, undef, .bool true, .bool false, .agg #[.slice none 0 0], .pointer (some ⟨B, 0, none⟩), .tuple #[.slice op ord.length Co, .bool false, .slice (some ⟨g, 0, none⟩) N cap], .pointer (some ⟨B, 0, none⟩), .slice lp n C, .slice fp n Cf, .slice (some ⟨w2.heap.size, 0, none⟩) 0 0, .slice sp l.length Cs, .slice ssp l.length sC, .tuple #[.slice op ord.length Co, .bool false, .slice (some ⟨g, 0, none⟩) N cap], .slice op ord.length Co, .bool false, .slice (some ⟨g, 0, none⟩) N cap, .slice lp n C, .int .i64 (n : Int), .int .i64 (N : Int), undef, undef, undef, undef, undef, undef, undef, undef, undef, undef, undef, undef, undef, undef, undef, undef, undef, undef, undef, undef, undef, undef, undef, undef, undef, undef, undef, undef, undef, undef, undef, undef, undef, undef, undef, undef, undef, undef, undef, undef, undef, undef, undef, undef, undef, undef, undef, undef, undef, undef, undef, undef, undef, undef, undef, undef, undef, undef, undef, undef, undef, undef, undef, undef, undef, undef, undef, undef, undef, undef, undef, undef, undef, undef, undef, undef, undef, undef, undef, undef, undef, undef, undef, undef, undef, undef, undef, undef, undef, undef, undef, undef, undef, undef, undef, undef, undef, undef, undef, undef, undef, undef, undef, undef, undef, undef, undef, undef, undef, undef, undef, undef, undef, undef, undef, undef, undef, undef, undef, undef, undef, undef, undef, undef] ∧ ∃ τ d, w' = re w4 τ d) (fun t w' τ d h => ⟨h.1, by obtain ⟨τ', d', rfl⟩ := h.2; exact ⟨τ, d, by rw [re_re]⟩⟩) (by decide) (fun τ d => ?_) ?_
 · obtain ⟨u4, hu4⟩ : ∃ c, headC (ovT 4) = c := ⟨_, rfl⟩
   have eu4 := hu4
   rw [hu4]
   simp only [ovT, headC, tailN, Try.f5, al_od] at eu4
   subst eu4
   clear hu4
   by_cases h64 : (n : Int) ≤ 64
   · have e : (N : Int) = n := by omega
     rw [e]
     go_wp2
     exact ⟨rfl, rfl, τ, d, rfl⟩
   · have e : (N : Int) = 64 := by omega
     rw [e]
     go_wp2
     exact ⟨rfl, rfl, τ, d, rfl⟩
 rintro t w' ⟨rfl, τ, d, rfl⟩
 refine hJ.re' (1 + 6 + N) _ _ τ d ?_
 refine at_rest_end (P := Try.prog) hPost plainM (by kernel_rfl) rfl (by kernel_rfl) Try.func5 (fun τ d => ?_)
 exact turnover_rest hn hN.symm hl (HX.out.1.re τ d) HX.out.2.2.1 HX.out.2.2.2 fun w' hb => ⟨_, rfl, HE.out _ (HX.out.2.1.trans ⟨hb.1, hb.2⟩)⟩
end Go.Proofs
set_option maxHeartbeats 4000000
set_option maxRecDepth 100000
namespace Go.Proofs
open Go Go.Conc Go.RowKit Go.Car Go.ChangeShapes Go.WideShapes Go.Deep
section
variable {H : Type} {enc : TypeId × Value → H} {P : Program} {w : World} {held : Bool} {sp : Nat → Bool}
theorem walk_open {t : TypeId} {fs : Array Field} (ht : P.underlying t = some (.struct fs)) (hfs : ∀ j, j < 3 → ∃ f, fs[j]? = some f ∧ f.offset = j ∧ P.cellsOf f.type = 1 ∧ P.underlying f.type = some (if j < 2 then .int .i64 else .bool)) (hsz : fs.size = 3)
 {cs : List Value} {x : DataW H × List MemPlace} {fuel : Nat} (h : DataW.trod enc P w 0 sp held fuel t cs = some x) : ∃ y : Wk, cs[0]? = some (.int .i64 y.s) ∧ cs[1]? = some (.int .i64 y.a) ∧ cs[2]? = some (.bool y.nl) := by
 obtain ⟨xs, n, _, _, _, hxl, hx⟩ := DataW.trod_struct ht h
 have part : ∀ (j : Nat) (v : Value), (cs.drop j).take 1 = [v] → cs[j]? = some v := fun j v h6 => by
  have : ((cs.drop j).take 1)[0]? = some v := by rw [h6]; rfl
  rw [List.getElem?_take, if_pos (by omega), List.getElem?_drop, Nat.add_zero] at this
  exact this
 have each : ∀ j, j < 2 → ∃ z : Int, cs[j]? = some (.int .i64 z) := fun j hj => by
  obtain ⟨f, h1, h2, h3, h4⟩ := hfs j (by omega)
  rw [if_pos hj] at h4
  have h5 := hx j f h1
  rw [h2, h3] at h5
  obtain ⟨y, hy⟩ : ∃ y, xs[j]? = some y := ⟨_, List.getElem?_eq_getElem (by omega)⟩
  rw [hy] at h5
  obtain ⟨z, h6, _⟩ := DataW.trod_int h4 h5
  exact ⟨z, part j _ h6⟩
 obtain ⟨z0, h0⟩ := each 0 (by omega)
 obtain ⟨z1, h1⟩ := each 1 (by omega)
 obtain ⟨f, g1, g2, g3, g4⟩ := hfs 2 (by omega)
 rw [if_neg (by omega)] at g4
 have g5 := hx 2 f g1
 rw [g2, g3] at g5
 obtain ⟨y, hy⟩ : ∃ y, xs[2]? = some y := ⟨_, List.getElem?_eq_getElem (by omega)⟩
 rw [hy] at g5
 obtain ⟨z2, g6, _⟩ := DataW.trod_bool g4 g5
 exact ⟨⟨z0, z1, z2⟩, h0, h1, part 2 _ g6⟩
theorem walks_open {t e : TypeId} {fs : Array Field} (ht : P.underlying t = some (.slice e)) (he : P.underlying e = some (.struct fs)) (hc : P.cellsOf e = 3) (hfs : ∀ j, j < 3 → ∃ f, fs[j]? = some f ∧ f.offset = j ∧ P.cellsOf f.type = 1 ∧ P.underlying f.type = some (if j < 2 then .int .i64 else .bool)) (hsz : fs.size = 3)
 {a0 : Option Addr} {len cap : Nat} {d : DataW H} {ps : List MemPlace} {fuel : Nat} (h : DataW.trod enc P w 0 sp held fuel t [.slice a0 len cap] = some (d, ps)) : ∃ wk : Nat → Wk, WalksAt w a0 len wk ∧ lenD d = len := by
 rcases open_slice ht h with ⟨hcs, hx⟩ | ⟨a, len', cap', m, n, D, Pl, hcs, _, hl, _, hm, hx, hcell⟩
 · simp only [List.cons.injEq, Value.slice.injEq, and_true] at hcs
   obtain ⟨rfl, rfl, rfl⟩ := hcs
   cases hx
   exact ⟨fun _ => ⟨0, 0, false⟩, fun h => absurd h (Nat.lt_irrefl _), rfl⟩
 · simp only [List.cons.injEq, Value.slice.injEq, and_true] at hcs
   obtain ⟨rfl, rfl, rfl⟩ := hcs
   have hlm : len ≤ m := by rw [hm]; split <;> omega
   have each : ∀ i, i < len → ∃ y : Wk, w.cell? ((a.add (i * 3)).add 0) = some (.int .i64 y.s) ∧ w.cell? ((a.add (i * 3)).add 1) = some (.int .i64 y.a) ∧ w.cell? ((a.add (i * 3)).add 2) = some (.bool y.nl) := fun i hi => by
    obtain ⟨cs', h1, h2⟩ := hcell i (by omega)
    rw [hc] at h1
    obtain ⟨y, h3, h4, h5⟩ := walk_open he hfs hsz h2
    have hh := (World.cells?_some h1).2.2
    exact ⟨y, (hh 0 (by omega)).trans h3, (hh 1 (by omega)).trans h4, (hh 2 (by omega)).trans h5⟩
   obtain ⟨wk, hwk⟩ : ∃ wk : Nat → Wk, ∀ i, i < len → w.cell? ((a.add (i * 3)).add 0) = some (.int .i64 (wk i).s) ∧ w.cell? ((a.add (i * 3)).add 1) = some (.int .i64 (wk i).a) ∧ w.cell? ((a.add (i * 3)).add 2) = some (.bool (wk i).nl) := by
    classical
    refine ⟨fun i => if h : i < len then (each i h).choose else ⟨0, 0, false⟩, fun i hi => ?_⟩
    simp only [hi, dif_pos]
    exact (each i hi).choose_spec
   cases hx
   refine ⟨wk, fun h0 => ?_, by simp [lenD]⟩
   have hs : a.spot = none := by
    have := (hwk 0 h0).1
    rw [Nat.zero_mul] at this
    exact spot_add (a := a) (by simpa [Addr.add] using this)
   refine ⟨a.block, a.off, by obtain ⟨b, o, s⟩ := a; simp only at hs; rw [hs], fun i hi => ?_⟩
   have := hwk i hi
   rw [add_at hs, add_at rfl, add_at rfl, add_at rfl] at this
   exact this
end
end Go.Proofs
namespace Go.Proofs.Ytdncabjenacolaa
open Go Go.Conc Go.RowKit Go.Car Go.ChangeShapes Go.WideShapes Go.ChangeAt
theorem walk_fields : ∃ fs, Try.prog.underlying 53 = some (.struct fs) ∧ fs.size = 3 ∧ ∀ j, j < 3 → ∃ f, fs[j]? = some f ∧ f.offset = j ∧ Try.prog.cellsOf f.type = 1 ∧ Try.prog.underlying f.type = some (if j < 2 then .int .i64 else .bool) := by
 refine ⟨_, Try.underlying53, rfl, fun j hj => ?_⟩
 obtain rfl | rfl | rfl : j = 0 ∨ j = 1 ∨ j = 2 := by omega
 all_goals exact ⟨_, rfl, rfl, by kernel_rfl, by kernel_rfl⟩
theorem walks_arg {H : Type} {enc : TypeId × Value → H} {W : World} {base : Nat} {v : Value} {d : DataW H} {p : List MemPlace} (hok : Value.okWide Try.prog W .any base 40 v)
 (h : DataW.Trod enc Try.prog W 0 (fun _ => true) true 40 v d p) (hb : Rows.uptoBulk d ≤ 1048576) : ∃ a n C, ∃ wk : Nat → Wk, v = .slice a n C ∧ WalksAt W a n wk ∧ n ≤ 1048576 := by
 obtain ⟨a, len, cap, rfl⟩ := okWide_slice (e := 53) (by kernel_rfl) hok
 obtain ⟨fuel, hf⟩ := h
 obtain ⟨fs, k1, k2, k3⟩ := walk_fields
 obtain ⟨wk, h1, h2⟩ := walks_open (e := 53) (by kernel_rfl) k1 (by kernel_rfl) k3 k2 (by simpa [Value.cells] using hf)
 have := bulk_lenD d
 exact ⟨a, len, cap, wk, rfl, h1, by omega⟩
theorem turnOver_lifted (os : Os) (started : os.Started) (H : Type) (enc : TypeId × Value → H) (F : Stop.Interp) :
 ReturnsInLeavingWide {} Try.checked os 5 .any ((Rows.OpenSpec.upto Rows.turnOverSpec).pre6 enc Try.prog Try.f5 Rows.turnOverUptoRow.domain false) (((Rows.OpenSpec.upto Rows.turnOverSpec).at F).post enc Try.prog Try.f5 false true false false) := by
 refine leaving_of_cond (C := Try.checked) (s := Rows.OpenSpec.upto Rows.turnOverSpec) (k := Rows.uptoSmall) rfl own_knob started Try.func5
  (OpenSpec.witness (enc := enc) (C := Try.checked) (s := Rows.OpenSpec.upto Rows.turnOverSpec) (k := Rows.uptoSmall) rfl false ⟨#[], #[.slice none 0 0, .slice none 0 0], []⟩ 8 (by kernel_rfl) (by kernel_rfl) (by kernel_rfl)
   (x := ([.nil, .nil], [], [])) (by kernel_rfl) rfl (by kernel_rfl)) ?_
 intro W base args ds gs before hval0 hW hk
 have hval : ∀ (j : Nat) t v, Try.f5.params[j]? = some t → args[j]? = some v → Value.okWide Try.prog W .any base t v := hval0
 have hW' := hW
 obtain ⟨p, q, hA0, hV, rfl, _, _⟩ := hW
 have hA : DataW.TrodAll enc Try.prog W 0 (fun _ => true) true Try.f5.params.toList args.toList ds p := hA0
 rw [Try.params5] at hA hval
 obtain ⟨v0, v1, d0, d1, p0, p1, rfl, rfl, rfl, h0, h1⟩ := trodAll_two hA
 obtain ⟨rfl, rfl⟩ := trodVars_none hV
 clear hA0 hval0
 simp only [List.append_nil] at hW' hk
 have hlt : ∀ x ∈ p0 ++ p1, x.block < W.heap.size := fun x hx => by simpa using hW'.lt x hx
 obtain ⟨lp, n, C, wk, rfl, i0, b0⟩ := walks_arg (hval 0 _ v0 rfl rfl) h0 (bulk_small hk (by simp))
 obtain ⟨sp, Cs, l, rfl, i1, b1⟩ := ints_arg (e := 3) (by kernel_rfl) (by kernel_rfl) (by kernel_rfl) (hval 1 _ v1 rfl rfl) h1 (bulk_small hk (by simp))
 obtain ⟨M, last, o, w', t', r1, r2, r3, r4⟩ := turnover_run (Post := fun v w' => v = .bool true ∧ Beyond W w') (fun v w τ d h => ⟨h.1, h.2.1, h.2.2⟩) (C := C) (by omega) (by omega) i0 i1 (fun w' h => ⟨rfl, h⟩)
 refine ⟨M, last, o, w', t', r1, r2, r3, r4.mono fun v hF => ?_⟩
 obtain ⟨⟨rfl, hb⟩, ho, hu⟩ := hF
 have same : ∀ {t : TypeId} (hr : Try.prog.readableRec t = true) (hrow : t < Try.prog.types.size) {v : Value} {d : DataW H} {ps : List MemPlace} (h : DataW.Trod enc Try.prog W 0 (fun _ => true) true t v d ps) (hlt : ∀ x ∈ ps, x.block < W.heap.size), DataW.Trod enc Try.prog w' 0 (fun b => decide (b < W.heap.size)) true t v d ps := fun hr hrow _ _ _ h hlt => reads_same hr hrow h hb hlt
 refine ⟨_, _, _, [], p0 ++ p1, [], hW', trodAll_mk1 (shut_bool Try.underlying4 true), ?_, rfl, kept_same hb ho hu _, fun h => by cases h⟩
 exact trodAll_mk2 (same (by kernel_rfl) (of_decide_eq_true (by kernel_rfl)) h0 fun x hx => hlt x (by simp [hx])) (same (by kernel_rfl) (of_decide_eq_true (by kernel_rfl)) h1 fun x hx => hlt x (by simp [hx]))
theorem turnOver_upto : Rows.TurnOverUptoSaid :=
 holds_leaving_cond 5 Try.f5 rfl rfl rfl rfl rfl rfl rfl ⟨rfl, rfl, rfl, rfl, rfl⟩ rfl rfl rfl rfl rfl (by kernel_rfl) Try.func5 (by kernel_rfl)
  (of_decide_eq_true (by kernel_rfl)) (by unfold Func.isWrapper; first | (rw [if_pos (by decide +kernel)]; kernel_rfl) | (rw [if_neg (by decide +kernel)]; exact ⟨rfl, rfl⟩))
  (fun os started H enc _ F => turnOver_lifted os started H enc F)
end Go.Proofs.Ytdncabjenacolaa
