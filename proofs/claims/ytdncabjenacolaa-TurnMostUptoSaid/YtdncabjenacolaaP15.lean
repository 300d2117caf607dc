/- YtdncabjenacolaaTOver5: part 15 of the proof (the texts behind it, in order). -/
import Derived.Test.YtdncabjenacolaaP14
set_option linter.unusedSimpArgs false
set_option linter.unusedVariables false
set_option linter.unusedSectionVars false
set_option linter.unnecessarySimpa false
set_option maxHeartbeats 1000000
namespace Go.Proofs
open Go Go.Conc Go.RowKit Go.Car
theorem IntsAt.drew {w : World} {v : Value} {l : List Int} (h : IntsAt w v l) (n : Nat) : IntsAt (w.drewN n) v l := h
end Go.Proofs
set_option maxHeartbeats 1000000
set_option maxRecDepth 100000
namespace Go.Proofs
open Go Go.Conc Go.RowKit Go.Car
theorem cycl_more (N t d : Nat) : ∃ post, cycl N (t + d) = cycl N t ++ post := by
 induction d with
 | zero => exact ⟨[], (List.append_nil _).symm⟩
 | succ d ih =>
  obtain ⟨post, h⟩ := ih
  exact ⟨post ++ [(((t + d) % N : Nat) : Int)], by rw [← Nat.add_assoc, cycl_succ, h, List.append_assoc]⟩
theorem fold_idle {N : Nat} (l : List Int) : ∀ {s : LS}, (∀ i, i < N → s.1 i = 0) → l.foldl (wstp N) s = s := by
 induction l with
 | nil => intro s _; rfl
 | cons x l ih =>
  intro s h
  have e : wstp N s x = s := by
   unfold wstp
   rw [if_neg]
   rintro ⟨h1, h2, h3⟩
   rw [h x.toNat (by omega)] at h3
   exact absurd h3 (Nat.lt_irrefl _)
  rw [List.foldl_cons, e]
  exact ih h
theorem fold_runs {N R1 R2 : Nat} {l : List Int} {s0 : LS} (h : ∀ i, i < N → ((l ++ cycl N (N * R1)).foldl (wstp N) s0).1 i = 0) : ∃ r, ((l ++ cycl N (N * R1)).foldl (wstp N) s0).2 = ((l ++ cycl N (N * R2)).foldl (wstp N) s0).2 ++ r := by
 rcases Nat.le_total (N * R2) (N * R1) with hle | hle
 · obtain ⟨post, hp⟩ := cycl_more N (N * R2) (N * R1 - N * R2)
   rw [show N * R2 + (N * R1 - N * R2) = N * R1 by omega] at hp
   rw [hp, ← List.append_assoc, List.foldl_append (l := l ++ cycl N (N * R2))]
   exact fold_pre N post _
 · obtain ⟨post, hp⟩ := cycl_more N (N * R1) (N * R2 - N * R1)
   rw [show N * R1 + (N * R2 - N * R1) = N * R2 by omega] at hp
   refine ⟨[], ?_⟩
   rw [hp, ← List.append_assoc, List.foldl_append (l := l ++ cycl N (N * R1)), fold_idle post h, List.append_nil]
theorem most_plain {wa w : World} {n N bB : Nat} {wk : Nat → Wk} {out : Value} {wb : Nat → Option Nat} (hW : WkO wa bB wk n out wb w) (hN : N = min n 64) {l : List Int} {most : Nat} {b : OSt WM} {R R1 : Nat} (h : WRan (wkWS N bB wk wb) l most b R)
 {full : List Nat} (hf : full = ((l ++ cycl N (N * R1)).foldl (wstp N) (kOf wk)).2) (h0 : ∀ i, i < N → ((l ++ cycl N (N * R1)).foldl (wstp N) (kOf wk)).1 i = 0) :
 b.ord = full.take most ∧ decide (0 < leftN b.ov N) = decide (most < full.length) ∧ (∀ i, i < N → b.brk i = true → (wk i).bad = true) ∧ (¬ most < full.length → ∀ i, i < N → b.brk i = (wk i).bad) := by
 have hk : ∀ i, i < N → (wkWS N bB wk wb).k i = (wk i).k := fun i hi => (wkWS_k hW (by omega)).1
 have hl : (wkWS N bB wk wb).ls b = (l ++ cycl N (N * R)).foldl (wstm N most) (fun i => (wkWS N bB wk wb).k i, []) := h.ls
 obtain ⟨k1, k2, k3, k4⟩ := fold_most N most (l ++ cycl N (N * R)) (fun i => (wkWS N bB wk wb).k i, []) (Nat.zero_le _)
 obtain ⟨c1, c2⟩ := fold_congr (N := N) (l ++ cycl N (N * R)) (s := (fun i => (wkWS N bB wk wb).k i, [])) (s' := kOf wk) hk rfl
 obtain ⟨r, hr⟩ := fold_runs (R2 := R) h0
 rw [← hf] at hr
 have ho : b.ord = (((l ++ cycl N (N * R)).foldl (wstp N) (kOf wk)).2).take most := by
  rw [← c2, ← k1, ← hl]; rfl
 have hsumk : sumN (fun i => (wkWS N bB wk wb).k i) N = sumN (fun x => (wk x).k) N := by
  have : ∀ K, K ≤ N → sumN (fun i => (wkWS N bB wk wb).k i) K = sumN (fun x => (wk x).k) K := by
   intro K
   induction K with
   | zero => intro _; rfl
   | succ K ih => intro hK; simp only [sumN, ih (by omega), hk K (by omega)]
  exact this N (Nat.le_refl _)
 have htot : full.length = sumN (fun x => (wk x).k) N := by
  have := (sum_kOf wk (N := N) (by omega) (l ++ cycl N (N * R1))).1
  rw [← hf, sumN_zero h0] at this
  omega
 have hsum : b.ord.length + sumN (fun i => (wkWS N bB wk wb).k i - b.m.pos i) N = full.length := by
  have h1 : ((wkWS N bB wk wb).ls b).2.length + sumN ((wkWS N bB wk wb).ls b).1 N = ([] : List Nat).length + sumN (fun i => (wkWS N bB wk wb).k i) N := by rw [hl]; exact k4
  rw [htot, ← hsumk]
  simp only [List.length_nil, Nat.zero_add] at h1
  exact h1
 have hzero : leftN b.ov N = 0 → ∀ i, i < N → b.m.pos i = (wkWS N bB wk wb).k i := fun hz i hi => by
  have h1 := h.iv.ov i hi
  rw [leftN_zero (ov := b.ov) (N := N) (by omega) i hi] at h1
  exact of_decide_eq_true h1.symm
 have hlenF : ((l ++ cycl N (N * R)).foldl (wstp N) (kOf wk)).2.length ≤ full.length := by rw [hr, List.length_append]; omega
 have hol : b.ord.length = min most ((l ++ cycl N (N * R)).foldl (wstp N) (kOf wk)).2.length := by rw [ho, List.length_take]
 have hall : leftN b.ov N = 0 → b.ord.length = full.length := fun hz => by
  have hz2 := hzero hz
  have : sumN (fun i => (wkWS N bB wk wb).k i - b.m.pos i) N = 0 := sumN_zero fun i hi => by rw [hz2 i hi]; omega
  omega
 have hst := h.stop
 have hsome : 0 < leftN b.ov N → b.ord.length = most ∧ most < full.length := fun hp => by
  have h1 : ¬ b.ord.length < most := fun h2 => hst ⟨hp, h2⟩
  obtain ⟨i, hi, hov⟩ := leftN_pos hp
  have h2 := h.iv.ov i hi
  rw [hov] at h2
  have h3 := of_decide_eq_false h2.symm
  have h4 := h.iv.pos i hi
  have h5 := sumN_pos (f := fun i => (wkWS N bB wk wb).k i - b.m.pos i) (N := N) (i := i) hi
  have h6 : (wkWS N bB wk wb).N = N := rfl
  omega
 refine ⟨?_, ?_, fun i hi hb => ?_, fun hm i hi => ?_⟩
 · rw [hr, ho]
   by_cases hp : 0 < leftN b.ov N
   · have := hsome hp
     rw [List.take_append_of_le_length (by omega)]
   · have h1 := hall (by omega)
     have h2 : r = [] := by
      have := congrArg List.length hr
      rw [List.length_append] at this
      exact List.eq_nil_of_length_eq_zero (by omega)
     rw [h2, List.append_nil]
 · by_cases hp : 0 < leftN b.ov N
   · rw [decide_eq_true hp, decide_eq_true (hsome hp).2]
   · have h1 := hall (by omega)
     rw [decide_eq_false hp, decide_eq_false (by omega)]
 · have h1 := h.iv.brk i hi
   rw [hb, (wkWS_k hW (by omega)).2] at h1
   cases hbd : (wk i).bad with
   | true => rfl
   | false => rw [hbd] at h1; simp at h1
 · have hp : ¬ 0 < leftN b.ov N := fun hp => hm (hsome hp).2
   have h1 := h.iv.brk i hi
   rw [hzero (by omega) i hi, (wkWS_k hW (by omega)).2] at h1
   rw [h1]; simp
end Go.Proofs
set_option maxHeartbeats 8000000
set_option maxRecDepth 100000
namespace Go.Proofs
open Go Go.Conc Go.RowKit Go.Car
noncomputable def tmT (n : Nat) : Code := tailN n (Try.f6.body.getD .skip)
structure TmW (w : World) (N bB g1 g2 nn : Nat) (Cf Co : Nat) (fp op : Option Addr) (bad sm : Nat → Bool) (full : List Nat) : Prop where
 ful : IntsAt w (.slice fp full.length Cf) (natI full)
 cap : full.length ≤ Cf
 fz : fp = none → full.length = 0 ∧ Cf = 0
 hord : IntsAt w (.slice op nn Co) (natI (full.take nn))
 bd : ∃ bv, w.heap[bB]? = some (.cells #[bv] 43) ∧ IntsAt w bv (natI (full.take nn))
 brk1 : ∃ br, w.heap[g1]? = some (.cells br 4) ∧ ∀ i, i < N → br[i]? = some (.bool (bad i))
 brk2 : ∃ br, w.heap[g2]? = some (.cells br 4) ∧ ∀ i, i < N → br[i]? = some (.bool (sm i))
 sub : ∀ i, i < N → sm i = true → bad i = true
 all : ¬ nn < full.length → ∀ i, i < N → sm i = bad i
theorem turnmost_rest {E : Ending → World → Prop} {w : World} {lp sp fp op : Option Addr} {n N aB bB g1 g2 C Cs Cf Co cap1 cap2 nn : Nat} {mo : Int} {bad sm : Nat → Bool} {l : List Int} {full : List Nat} {x10 x17 x18 x19 x20 x21 x22 x23 x24 x25 x26 x27 x28 x29 x30 x31 x32 x33 x34 x35 x36 x37 x38 x39 x40 x41 x42 x43 x44 x45 x46 : Value} (hN64 : N ≤ 64) (hfl : full.length ≤ 1984) (hnn : nn ≤ full.length) (hW : TmW w N bB g1 g2 nn Cf Co fp op bad sm full)
 (hE : ∀ w', Beyond w w' → E (.returned (.bool true)) w') :
 Code.wp Try.prog (tmT 7) (bodyPost Try.prog Try.f6 E) ⟨#[.slice lp n C, .slice sp l.length Cs, .int .i64 mo, undef, undef, undef, .bool false, .pointer (some ⟨aB, 0, none⟩), .pointer (some ⟨bB, 0, none⟩), .slice fp full.length Cf, x10, .slice (some ⟨g1, 0, none⟩) N cap1, .slice op nn Co, .bool (decide (nn < full.length)), .slice (some ⟨g2, 0, none⟩) N cap2, .int .i64 (nn : Int), undef, x17, x18, x19, x20, x21, x22, x23, x24, x25, x26, x27, x28, x29, x30, x31, x32, x33, x34, x35, x36, x37, x38, x39, x40, x41, x42, x43, x44, x45, x46, undef, undef, undef, undef, undef, undef, undef, undef, undef, undef, undef, undef, undef, undef, undef, undef, undef, undef, undef, undef, undef, undef, undef, undef, undef, undef, undef, undef, undef, undef, undef, undef, undef, undef, undef, undef, undef, undef, undef, undef, undef, undef, undef, undef, undef, undef, undef, undef, undef, undef, undef, undef, undef, undef, undef, undef, undef, undef, undef, undef, undef, undef], []⟩ w := by
 have HW := Lib.hid hW
 have HE := Lib.hid hE
 clear hE
 have hln : (full.take nn).length = nn := by rw [List.length_take]; omega
 have hcap := hW.cap
 have HFZ := Lib.hid hW.fz
 have hnf : (natI full).length = full.length := List.length_map _
 have hno : (natI (full.take nn)).length = nn := (List.length_map _).trans hln
 have hcut : IntsAt w (.slice fp nn Cf) (natI (full.take nn)) := by
  refine ⟨fp, Cf, by rw [hno], fun hne => ?_⟩
  obtain ⟨p, C', e, hh⟩ := hW.ful
  rw [Value.slice.injEq] at e
  obtain ⟨rfl, -, -⟩ := e
  obtain ⟨b, o, e2, h2⟩ := hh (fun e => hne (by have : full = [] := List.map_eq_nil_iff.1 e
                                                rw [this]; simp [natI]))
  refine ⟨b, o, e2, fun i hi => ?_⟩
  rw [hno] at hi
  rw [h2 i (by omega)]
  congr 2
  unfold natI
  rw [List.map_take]
  simp only [List.getD_eq_getElem?_getD, List.getElem?_take, hi, if_true]
 have HC := Lib.hid hcut
 obtain ⟨bv, hbd, hbi⟩ := HW.out.bd
 obtain ⟨bp, bC, rfl, hb2⟩ := hbi
 have kb : w.cell? ⟨bB, 0, none⟩ = some (.slice bp nn bC) := by rw [← hno]; exact (zq1 (off := 0) hbd).trans rfl
 have HB := Lib.hid hb2
 clear hW hcut hbd hb2
 obtain ⟨u0, hu0⟩ : ∃ c, tmT 7 = c := ⟨_, rfl⟩
 have eu0 := hu0
 rw [hu0]
 simp only [tmT, headC, tailN, Try.f6, al_od] at eu0
 subst eu0
 clear hu0
 obtain ⟨L, hL⟩ : ∃ L, full.length = L := ⟨_, rfl⟩
 rw [hL] at hcap hnn HFZ ⊢
 have hnn1 : (nn : Int) ≤ (Cf : Int) := by omega
 have hnn0 : (0 : Int) ≤ nn := by omega
 cases fp with
 | none =>
  obtain ⟨rfl, rfl⟩ := HFZ.out rfl
  obtain rfl : nn = 0 := by omega
  have hst : ¬ (0 : Nat) < 0 := by omega
  · rw [decide_eq_false hst]
    have hlt2 : ¬ ((0 : Nat) : Int) < ((0 : Nat) : Int) := by omega
    have hlt3 : decide (((0 : Nat) : Int) < ((0 : Nat) : Int)) = false := decide_eq_false hlt2
    go_wp2_with (fail)
    refine Calls.mono (samei_lone (l := natI (full.take 0)) (by rw [hno]; omega) HW.out.hord HC.out) ?_
    rintro e w' ⟨rfl, n1, rfl⟩
    go_wp2_with (fail)
    refine Calls.mono (samei_lone (l := natI (full.take 0)) (by rw [hno]; omega) ⟨bp, bC, by rw [hno], HB.out⟩ (HW.out.hord.drew n1)) ?_
    rintro e w' ⟨rfl, n2, rfl⟩
    go_wp2
    go_loopg [16] N (fun k i wr => ∃ j n3 : Nat, k = N - j ∧ j ≤ N ∧ i = .int .i64 j ∧ wr = w.drewN n3)
    case atStart => exact ⟨0, _, rfl, Nat.zero_le _, rfl, rfl⟩
    case round =>
     obtain ⟨j, n3, hk, hj, rfl, rfl⟩ := hrel
     by_cases hlt : j < N
     · have hlt' : (j : Int) < (N : Int) := by omega
       have hj0 : (0 : Int) ≤ j := by omega
       obtain ⟨br1, hb1, hc1⟩ := HW.out.brk1
       obtain ⟨br2, hb2, hc2⟩ := HW.out.brk2
       have d1 := (zq1 (off := j) hb1).trans (hc1 j hlt)
       have d2 := (zq1 (off := j) hb2).trans (hc2 j hlt)
       have hsub := HW.out.sub j hlt
       have hall := HW.out.all (by rw [hL]; omega) j hlt
       clear hb1 hc1 hb2 hc2
       generalize bad j = bx at d1 hsub hall
       generalize sm j = sx at d2 hsub hall
       subst hall
       cases sx <;> (
        go_wp2_with (fail)
        go_quiet (fail)
        go_wp2
        go_roundg (N - (j + 1))
        case measure => omega
        case rel => exact ⟨j + 1, _, rfl, by omega, rfl, rfl⟩)
     · obtain rfl : N = j := by omega
       go_wp2
       exact HE.out (w.drewN n3) ⟨Nat.le_refl _, fun _ _ => rfl⟩
 | some fa =>
  by_cases hst : nn < L
  · rw [decide_eq_true hst]
    have hlt2 : (nn : Int) < (L : Int) := by omega
    have hlt3 : decide ((nn : Int) < (L : Int)) = true := decide_eq_true hlt2
    go_wp2_with (fail)
    refine Calls.mono (samei_lone (l := natI (full.take nn)) (by rw [hno]; omega) HW.out.hord HC.out) ?_
    rintro e w' ⟨rfl, n1, rfl⟩
    go_wp2_with (fail)
    refine Calls.mono (samei_lone (l := natI (full.take nn)) (by rw [hno]; omega) ⟨bp, bC, by rw [hno], HB.out⟩ (HW.out.hord.drew n1)) ?_
    rintro e w' ⟨rfl, n2, rfl⟩
    go_wp2
    go_loopg [16] N (fun k i wr => ∃ j n3 : Nat, k = N - j ∧ j ≤ N ∧ i = .int .i64 j ∧ wr = w.drewN n3)
    case atStart => exact ⟨0, _, rfl, Nat.zero_le _, rfl, rfl⟩
    case round =>
     obtain ⟨j, n3, hk, hj, rfl, rfl⟩ := hrel
     by_cases hlt : j < N
     · have hlt' : (j : Int) < (N : Int) := by omega
       have hj0 : (0 : Int) ≤ j := by omega
       obtain ⟨br1, hb1, hc1⟩ := HW.out.brk1
       obtain ⟨br2, hb2, hc2⟩ := HW.out.brk2
       have d1 := (zq1 (off := j) hb1).trans (hc1 j hlt)
       have d2 := (zq1 (off := j) hb2).trans (hc2 j hlt)
       have hsub := HW.out.sub j hlt
       have hall := True.intro
       clear hb1 hc1 hb2 hc2
       generalize bad j = bx at d1 hsub hall
       generalize sm j = sx at d2 hsub hall
       cases sx <;> cases bx <;> first | (exact absurd (hsub rfl) (by decide)) | (
        go_wp2_with (fail)
        go_quiet (fail)
        go_wp2
        go_roundg (N - (j + 1))
        case measure => omega
        case rel => exact ⟨j + 1, _, rfl, by omega, rfl, rfl⟩)
     · obtain rfl : N = j := by omega
       go_wp2
       exact HE.out (w.drewN n3) ⟨Nat.le_refl _, fun _ _ => rfl⟩
  · rw [decide_eq_false hst]
    have hlt2 : ¬ (nn : Int) < (L : Int) := by omega
    have hlt3 : decide ((nn : Int) < (L : Int)) = false := decide_eq_false hlt2
    go_wp2_with (fail)
    refine Calls.mono (samei_lone (l := natI (full.take nn)) (by rw [hno]; omega) HW.out.hord HC.out) ?_
    rintro e w' ⟨rfl, n1, rfl⟩
    go_wp2_with (fail)
    refine Calls.mono (samei_lone (l := natI (full.take nn)) (by rw [hno]; omega) ⟨bp, bC, by rw [hno], HB.out⟩ (HW.out.hord.drew n1)) ?_
    rintro e w' ⟨rfl, n2, rfl⟩
    go_wp2
    go_loopg [16] N (fun k i wr => ∃ j n3 : Nat, k = N - j ∧ j ≤ N ∧ i = .int .i64 j ∧ wr = w.drewN n3)
    case atStart => exact ⟨0, _, rfl, Nat.zero_le _, rfl, rfl⟩
    case round =>
     obtain ⟨j, n3, hk, hj, rfl, rfl⟩ := hrel
     by_cases hlt : j < N
     · have hlt' : (j : Int) < (N : Int) := by omega
       have hj0 : (0 : Int) ≤ j := by omega
       obtain ⟨br1, hb1, hc1⟩ := HW.out.brk1
       obtain ⟨br2, hb2, hc2⟩ := HW.out.brk2
       have d1 := (zq1 (off := j) hb1).trans (hc1 j hlt)
       have d2 := (zq1 (off := j) hb2).trans (hc2 j hlt)
       have hsub := HW.out.sub j hlt
       have hall := HW.out.all (by rw [hL]; omega) j hlt
       clear hb1 hc1 hb2 hc2
       generalize bad j = bx at d1 hsub hall
       generalize sm j = sx at d2 hsub hall
       subst hall
       cases sx <;> (
        go_wp2_with (fail)
        go_quiet (fail)
        go_wp2
        go_roundg (N - (j + 1))
        case measure => omega
        case rel => exact ⟨j + 1, _, rfl, by omega, rfl, rfl⟩)
     · obtain rfl : N = j := by omega
       go_wp2
       exact HE.out (w.drewN n3) ⟨Nat.le_refl _, fun _ _ => rfl⟩
end Go.Proofs
set_option maxHeartbeats 4000000
set_option maxRecDepth 100000
namespace Go.Proofs
open Go Go.Conc Go.RowKit Go.Car
theorem tm0 : Try.f6.body.getD .skip = .seq (headC (tmT 0)) (.seq (headC (tmT 1)) (.seq (headC (tmT 2)) (.seq (headC (tmT 3)) (.seq (headC (tmT 4)) (.seq (headC (tmT 5)) (.seq (headC (tmT 6)) (tmT 7))))))) := by kernel_rfl
theorem WkO.re' {w w1 : World} {τ : Nat → Question → Nat} {d bB n : Nat} {wk : Nat → Wk} {out : Value} {wb : Nat → Option Nat} (h : WkO (Go.Car.re w τ d) bB wk n out wb w1) : WkO w bB wk n out wb w1 := ⟨h.size, h.old, h.orow, h.nl, h.blk⟩
theorem WkO.to_re' {w w1 : World} {τ : Nat → Question → Nat} {d bB n : Nat} {wk : Nat → Wk} {out : Value} {wb : Nat → Option Nat} (h : WkO w bB wk n out wb w1) : WkO w bB wk n out wb (Go.Car.re w1 τ d) := ⟨h.size, h.old, h.orow, h.nl, h.blk⟩
theorem TmW.re {w : World} {N bB g1 g2 nn Cf Co : Nat} {fp op : Option Addr} {bad sm : Nat → Bool} {full : List Nat} (h : TmW w N bB g1 g2 nn Cf Co fp op bad sm full) (τ : Nat → Question → Nat) (d : Nat) : TmW (Go.Car.re w τ d) N bB g1 g2 nn Cf Co fp op bad sm full := ⟨h.ful, h.cap, h.fz, h.hord, h.bd, h.brk1, h.brk2, h.sub, h.all⟩
theorem WOv.beyond {W wa w w' : World} {N n bB most : Nat} {wk : Nat → Wk} {out : Value} {wb : Nat → Option Nat} {b : OSt WM} {v : Value} {g : Nat} (h : WOv N bB wb b most w v g w') (hW : WkO wa bB wk n out wb w) (hN : N ≤ n) (hb : Beyond W w) (h1 : W.heap.size ≤ bB) (h2 : W.heap.size ≤ wa.heap.size) : Beyond W w' :=
 ⟨Nat.le_trans hb.1 h.size, fun x hx => (h.old x (Nat.lt_of_lt_of_le hx hb.1) (by omega) (fun i b hi hbi e => by have := (hW.blk i b (by omega) hbi).1; omega)).trans (hb.2 x hx)⟩
theorem row_cap {w : World} {B : Nat} {p : Option Addr} {n C : Nat} {xs : List Value} (h : w.ownsRow B 3 1 (.slice p n C) n xs) : n ≤ C ∧ (p = none → n = 0 ∧ C = 0) := by
 rcases h.2 with ⟨hv, h0⟩ | ⟨g, cap, cur, hv, _, _, h1, _⟩
 · rw [Value.slice.injEq] at hv
   obtain ⟨_, h1, h2⟩ := hv
   exact ⟨by omega, fun _ => ⟨h0, h2⟩⟩
 · rw [Value.slice.injEq] at hv
   obtain ⟨rfl, _, rfl⟩ := hv
   exact ⟨h1, fun e => by cases e⟩
theorem sched_for {W w : World} {N bB : Nat} {wb : Nat → Option Nat} {sp : Option Addr} {Cs : Nat} {l : List Int} (hs : IntsAt W (.slice sp l.length Cs) l) (hb : Beyond W w) (h1 : W.heap.size ≤ bB) (h2 : ∀ i b, i < N → wb i = some b → W.heap.size ≤ b) :
 l ≠ [] → ∃ sb off, sp = some ⟨sb, off, none⟩ ∧ sb ≠ bB ∧ (∀ i b, i < N → wb i = some b → sb ≠ b) ∧ ∀ j x, l[j]? = some x → w.cell? ⟨sb, off + j, none⟩ = some (.int .i64 x) := fun hne => by
 obtain ⟨p, C', e, h⟩ := hs
 cases e
 obtain ⟨sb, off, e2, hc⟩ := h hne
 have hlt : sb < W.heap.size := cell_lt (hc 0 (List.length_pos_iff.2 hne))
 refine ⟨sb, off, e2, by omega, fun i b hi hbi => by have := h2 i b hi hbi; omega, fun j x hj => ?_⟩
 have hjl : j < l.length := (List.getElem?_eq_some_iff.1 hj).1
 rw [hb.cell (hc j hjl)]
 rw [List.getD_eq_getElem?_getD, hj]; rfl
theorem turnmost_run {Post : Value → World → Prop} (hPost : ∀ v w τ d, Post v w → Post v (re w τ d)) {W : World} {lp sp : Option Addr} {C Cs n : Nat} {wk : Nat → Wk} {l : List Int} {mo : Int}
 (hn : n ≤ 1099511627776) (hl : l.length ≤ 1099511627776) (hw : WalksAt W lp n wk) (hs : IntsAt W (.slice sp l.length Cs) l)
 (hend : ∀ w', Beyond W w' → Post (.bool true) w') : FinOf Try.prog Post (solo (G (Frame.enter Try.prog 6 #[.slice lp n C, .slice sp l.length Cs, .int .i64 mo] .normal) []) W) #[] := by
 refine j0_run Try.func6 rfl ?_
 have hFin := back_fin (P := Try.prog) Post
 have hJ := j0_JS hFin
 have hC := j0_calm hFin
 have e : Frame.enter Try.prog 6 #[.slice lp n C, .slice sp l.length Cs, .int .i64 mo] .normal = (bN 6).at (enterAct Try.f6 #[.slice lp n C, .slice sp l.length Cs, .int .i64 mo]) [.code ((Try.f6.body).getD .skip)] := by kernel_rfl
 have ea : enterAct Try.f6 #[.slice lp n C, .slice sp l.length Cs, .int .i64 mo] = ⟨#[.slice lp n C, .slice sp l.length Cs, .int .i64 mo, undef, undef, undef, undef, undef, undef, undef, undef, undef, undef, undef, undef, undef, undef, undef, undef, undef, undef, undef, undef, undef, undef, undef, undef, undef, undef, undef, undef, undef, undef, undef, undef, undef, undef, undef, undef, undef, undef, undef, undef, undef, undef, undef, undef, undef, undef, undef, undef, undef, undef, undef, undef, undef, undef, undef, undef, undef, undef, undef, undef, undef, undef, undef, undef, undef, undef, undef, undef, undef, undef, undef, undef, undef, undef, undef, undef, undef, undef, undef, undef, undef, undef, undef, undef, undef, undef, undef, undef, undef, undef, undef, undef, undef, undef, undef, undef, undef, undef, undef, undef, undef, undef, undef, undef, undef, undef], []⟩ := by kernel_rfl
 rw [e, ea, tm0]
 clear e ea
 have HE := Lib.hid hend
 have HI := Lib.hid (And.intro hw hs)
 clear hend hw hs
 refine hJ.ctl (s := 1) (fun w => stepG_seq) ?_
 refine at_lone hJ hC plainM (by kernel_rfl) (fun t w' => t = #[.slice lp n C, .slice sp l.length Cs, .int .i64 mo, undef, undef, undef, .bool false, undef, undef, undef, undef, undef, undef, undef, undef, undef, undef, undef, undef, undef, undef, undef, undef, undef, undef, undef, undef, undef, undef, undef, undef, undef, undef, undef, undef, undef, undef, undef, undef, undef, undef, undef, undef, undef, undef, undef, undef, undef, undef, undef, undef, undef, undef, undef, undef, undef, undef, undef, undef, undef, undef, undef, undef, undef, undef, undef, undef, undef, undef, undef, undef, undef, undef, undef, undef, undef, undef, undef, undef, undef, undef, undef, undef, undef, undef, undef, undef, undef, undef, undef, undef, undef, undef, undef, undef, undef, undef, undef, undef, undef, undef, undef, undef, undef, undef, undef, undef, undef, undef] ∧ ∃ τ d, w' = re W τ d) (fun t w' τ d h => ⟨h.1, by obtain ⟨τ', d', rfl⟩ := h.2; exact ⟨τ, d, by rw [re_re]⟩⟩) (by decide) (fun τ d => ?_) ?_
 · obtain ⟨u0, hu0⟩ : ∃ c, headC (tmT 0) = c := ⟨_, rfl⟩
   have eu0 := hu0
   rw [hu0]
   simp only [tmT, headC, tailN, Try.f6, al_od] at eu0
   subst eu0
   clear hu0
   go_wp2
   exact ⟨rfl, rfl, τ, d, rfl⟩
 rintro t w' ⟨rfl, τ, d, rfl⟩
 refine hJ.re' (1) _ _ τ d ?_
 refine hJ.ctl (s := 1) (fun w => stepG_seq) ?_
 obtain ⟨u1, hu1⟩ : ∃ c, headC (tmT 1) = c := ⟨_, rfl⟩
 have eu1 := hu1
 rw [hu1]
 simp only [tmT, headC, tailN, Try.f6, al_od] at eu1
 subst eu1
 clear hu1
 refine hJ.ctl (s := 1) (fun w => stepG_seq) ?_
 refine hJ.ctl (s := 1) (fun w => stepG_region) ?_
 refine at_call (by decide) hJ (s := 1) rfl rfl (f := 8) (args := #[]) (fun τ d => ?_) (fun τ d => ?_) ?_
 · simp [go_sem, execOp, Act.eval, resolve, Deferred.ofValue, invoke, callFunc, Try.func8, Try.f8]
 · intro e he
   simp [go_sem, execOp, Act.eval, resolve, Deferred.ofValue, invoke, callFunc, Try.func8, Try.f8, Sem.runT_eq] at he
 refine awake_calls hFin (n := 1) (by omega) ?_
 intro w1 hB1
 rw [Frame.finish_at]
 walk_nrm
 refine at_piece (s := 1 + 6) (by decide) hJ (rows0_none _) false (.inr rfl) 1 1 0 rfl rfl rfl (by rfl) ?_
 intro τ d
 simp only [List.drop_succ_cons, List.drop_zero, List.take_succ_cons, List.take_zero]
 go_wp2
 simp only [contAt]
 refine hJ.re' (1 + 6) _ _ τ d ?_
 refine hJ.ctl (s := 1 + 6) (fun w => stepG_region_end) ?_
 refine at_lone hJ hC plainM (by kernel_rfl) (fun t w' => t = #[.slice lp n C, .slice sp l.length Cs, .int .i64 mo, undef, undef, undef, .bool false, undef, undef, undef, undef, undef, undef, undef, undef, undef, undef, .bool true, .bool false, undef, undef, undef, undef, undef, undef, undef, undef, undef, undef, undef, undef, undef, undef, undef, undef, undef, undef, undef, undef, undef, undef, undef, undef, undef, undef, undef, undef, undef, undef, undef, undef, undef, undef, undef, undef, undef, undef, undef, undef, undef, undef, undef, undef, undef, undef, undef, undef, undef, undef, undef, undef, undef, undef, undef, undef, undef, undef, undef, undef, undef, undef, undef, undef, undef, undef, undef, undef, undef, undef, undef, undef, undef, undef, undef, undef, undef, undef, undef, undef, undef, undef, undef, undef, undef, undef, undef, undef, undef, undef] ∧ ∃ τ d, w' = re w1 τ d) (fun t w' τ d h => ⟨h.1, by obtain ⟨τ', d', rfl⟩ := h.2; exact ⟨τ, d, by rw [re_re]⟩⟩) (by decide) (fun τ d => ?_) ?_
 · go_wp2
   exact ⟨rfl, rfl, τ, d, rfl⟩
 rintro t w' ⟨rfl, τ, d, rfl⟩
 refine hJ.re' (1 + 6) _ _ τ d ?_
 obtain ⟨A, hzA⟩ : ∃ x, w1.heap.size = x := ⟨_, rfl⟩
 refine hJ.ctl (s := 1 + 6) (fun w => stepG_seq) ?_
 refine at_lone hJ hC plainM (by kernel_rfl) (fun t w' => t = #[.slice lp n C, .slice sp l.length Cs, .int .i64 mo, undef, undef, undef, .bool false, .pointer (some ⟨A, 0, none⟩), undef, undef, undef, undef, undef, undef, undef, undef, undef, .bool true, .bool false, .agg #[.slice none 0 0], .pointer (some ⟨A, 0, none⟩), undef, undef, undef, undef, undef, undef, undef, undef, undef, undef, undef, undef, undef, undef, undef, undef, undef, undef, undef, undef, undef, undef, undef, undef, undef, undef, undef, undef, undef, undef, undef, undef, undef, undef, undef, undef, undef, undef, undef, undef, undef, undef, undef, undef, undef, undef, undef, undef, undef, undef, undef, undef, undef, undef, undef, undef, undef, undef, undef, undef, undef, undef, undef, undef, undef, undef, undef, undef, undef, undef, undef, undef, undef, undef, undef, undef, undef, undef, undef, undef, undef, undef, undef, undef, undef, undef, undef, undef] ∧ ∃ τ d, w' = re (w1.alloc (.cells #[.slice none 0 0] 43)) τ d) (fun t w' τ d h => ⟨h.1, by obtain ⟨τ', d', rfl⟩ := h.2; exact ⟨τ, d, by rw [re_re]⟩⟩) (by decide) (fun τ d => ?_) ?_
 · obtain ⟨u2, hu2⟩ : ∃ c, headC (tmT 2) = c := ⟨_, rfl⟩
   have eu2 := hu2
   rw [hu2]
   simp only [tmT, headC, tailN, Try.f6, al_od] at eu2
   subst eu2
   clear hu2
   subst hzA
   go_wp2
   exact ⟨rfl, rfl, τ, d, rfl⟩
 rintro t w' ⟨rfl, τ, d, rfl⟩
 refine hJ.re' (1 + 6) _ _ τ d ?_
 obtain ⟨wa, hwa⟩ : ∃ x, w1.alloc (.cells #[.slice none 0 0] 43) = x := ⟨_, rfl⟩
 have hbwa : Beyond w1 wa := by rw [← hwa]; exact Beyond.alloc _ _
 have hzwa : wa.heap.size = A + 1 := by rw [← hwa, zq8, hzA]
 have hnwa : wa.heap[A]? = some (.cells #[.slice none 0 0] 43) := by rw [← hwa, ← hzA]; exact al_new _ _
 rw [hwa]
 clear hwa
 obtain ⟨B, hzB⟩ : ∃ x, wa.heap.size = x := ⟨_, rfl⟩
 refine hJ.ctl (s := 1 + 6) (fun w => stepG_seq) ?_
 refine at_lone hJ hC plainM (by kernel_rfl) (fun t w' => t = #[.slice lp n C, .slice sp l.length Cs, .int .i64 mo, undef, undef, undef, .bool false, .pointer (some ⟨A, 0, none⟩), .pointer (some ⟨B, 0, none⟩), undef, undef, undef, undef, undef, undef, undef, undef, .bool true, .bool false, .agg #[.slice none 0 0], .pointer (some ⟨A, 0, none⟩), .agg #[.slice none 0 0], .pointer (some ⟨B, 0, none⟩), undef, undef, undef, undef, undef, undef, undef, undef, undef, undef, undef, undef, undef, undef, undef, undef, undef, undef, undef, undef, undef, undef, undef, undef, undef, undef, undef, undef, undef, undef, undef, undef, undef, undef, undef, undef, undef, undef, undef, undef, undef, undef, undef, undef, undef, undef, undef, undef, undef, undef, undef, undef, undef, undef, undef, undef, undef, undef, undef, undef, undef, undef, undef, undef, undef, undef, undef, undef, undef, undef, undef, undef, undef, undef, undef, undef, undef, undef, undef, undef, undef, undef, undef, undef, undef, undef] ∧ ∃ τ d, w' = re (wa.alloc (.cells #[.slice none 0 0] 43)) τ d) (fun t w' τ d h => ⟨h.1, by obtain ⟨τ', d', rfl⟩ := h.2; exact ⟨τ, d, by rw [re_re]⟩⟩) (by decide) (fun τ d => ?_) ?_
 · obtain ⟨u3, hu3⟩ : ∃ c, headC (tmT 3) = c := ⟨_, rfl⟩
   have eu3 := hu3
   rw [hu3]
   simp only [tmT, headC, tailN, Try.f6, al_od] at eu3
   subst eu3
   clear hu3
   subst hzB
   go_wp2
   exact ⟨rfl, rfl, τ, d, rfl⟩
 rintro t w' ⟨rfl, τ, d, rfl⟩
 refine hJ.re' (1 + 6) _ _ τ d ?_
 obtain ⟨wv, hwv⟩ : ∃ x, wa.alloc (.cells #[.slice none 0 0] 43) = x := ⟨_, rfl⟩
 have hbwv : Beyond wa wv := by rw [← hwv]; exact Beyond.alloc _ _
 have hzwv : wv.heap.size = B + 1 := by rw [← hwv, zq8, hzB]
 have hnwv : wv.heap[B]? = some (.cells #[.slice none 0 0] 43) := by rw [← hwv, ← hzB]; exact al_new _ _
 rw [hwv]
 clear hwv
 have hAB : B = A + 1 := by omega
 have hA : wv.heap[A]? = some (.cells #[.slice none 0 0] 43) := (hbwv.2 A (by omega)).trans hnwa
 have HA := Lib.hid (And.intro (hB1.trans (hbwa.trans hbwv)) (And.intro hA (And.intro hnwv (And.intro (show W.heap.size ≤ A by have := hB1.1; omega) hzwv))))
 clear hB1 hbwa hbwv hzwa hnwa hzwv hnwv hA hzA hzB
 refine hJ.ctl (s := 1 + 6) (fun w => stepG_seq) ?_
 obtain ⟨u4, hu4⟩ : ∃ c, headC (tmT 4) = c := ⟨_, rfl⟩
 have eu4 := hu4
 rw [hu4]
 simp only [tmT, headC, tailN, Try.f6, al_od] at eu4
 subst eu4
 clear hu4
 refine hJ.ctl (s := 1 + 6) (fun w => stepG_region) ?_
 refine at_piece (s := 1 + 6) (by decide) hJ (rows0_none _) true (.inl rfl) 0 2 10 rfl rfl rfl (by rfl) ?_
 intro τ d
 simp only [List.drop_succ_cons, List.drop_zero, List.take_succ_cons, List.take_zero]
 go_wp2
 simp only [contAt]
 refine hJ.re' (1 + 6) _ _ τ d ?_
 refine at_call (by decide) hJ (s := 1 + 6) rfl rfl (f := 15) (args := #[.pointer (some ⟨A, 0, none⟩), .slice lp n C]) (fun τ d => ?_) (fun τ d => ?_) ?_
 · simp [go_sem, execOp, Act.eval, resolve, Deferred.ofValue, invoke, callFunc, Try.func15, Try.f15]
 · intro e he
   simp [go_sem, execOp, Act.eval, resolve, Deferred.ofValue, invoke, callFunc, Try.func15, Try.f15, Sem.runT_eq] at he
 refine at_calls_lone hJ hC plainM Try.func15 rfl (by kernel_rfl) (R := fun v w' => ∃ wb, WkO wv A wk n v wb w') (fun v w' τ d h => ?_) (fun τ d => Calls.mono (walkers_lone (bB := A) (re wv τ d) hn (HI.out.1.beyond HA.out.1)) ?_) ?_
 · obtain ⟨wb, h⟩ := h
   exact ⟨wb, h.to_re'⟩
 · rintro e w' ⟨o, wb, he, h⟩
   exact ⟨o, he, wb, h.re'⟩
 rintro v w2 ⟨wb1, hO1⟩
 obtain ⟨f1p, C1f, rfl, _, _⟩ := row_form hO1.orow
 rw [Frame.finish_at]
 walk_nrm
 have HO1 := Lib.hid hO1
 clear hO1
 refine at_piece (s := 1 + 6) (by decide) hJ (rows0_none _) true (.inl rfl) 3 1 8 rfl rfl rfl (by rfl) ?_
 intro τ d
 simp only [List.drop_succ_cons, List.drop_zero, List.take_succ_cons, List.take_zero]
 go_wp2
 simp only [contAt]
 refine hJ.re' (1 + 6) _ _ τ d ?_
 refine at_call (by decide) hJ (s := 1 + 6) rfl rfl (f := 14) (args := #[.slice f1p n C1f, .slice sp l.length Cs, .int .i64 1048576]) (fun τ d => ?_) (fun τ d => ?_) ?_
 · simp [go_sem, execOp, Act.eval, resolve, Deferred.ofValue, invoke, callFunc, Try.func14, Try.f14]
 · intro e he
   simp [go_sem, execOp, Act.eval, resolve, Deferred.ofValue, invoke, callFunc, Try.func14, Try.f14, Sem.runT_eq] at he
 have hb2 : Beyond W w2 := HA.out.1.trans ⟨HO1.out.size, HO1.out.old⟩
 have hbd2 : w2.heap[A]? = some (.cells #[.slice none 0 0] 43) := (HO1.out.old A (by have := HA.out.2.2.2.2; omega)).trans HA.out.2.1
 have hWv : W.heap.size ≤ wv.heap.size := HA.out.1.1
 refine walk_over hFin (n0 := 1 + 6) (by omega) (N := min n 64) (most := 1048576) rfl (by decide) hbd2 HO1.out (by omega) (sched_for HI.out.2 hb2 HA.out.2.2.2.1 fun i b hi hb => by have := (HO1.out.blk i b (by omega) hb).1; omega) ?_
 intro b1 R1 v1 g1 cap1 w3 hR1 hV1
 obtain ⟨-, k2⟩ := over_plain HO1.out rfl hR1
 obtain ⟨k3, k4, k5, k6⟩ := k2 (by omega)
 have hb3 : Beyond W w3 := hV1.beyond HO1.out (by omega) hb2 HA.out.2.2.2.1 hWv
 have hB3 : w3.heap[B]? = some (.cells #[.slice none 0 0] 43) := by
  have h1 := HA.out.2.2.2.2
  have h2 := HO1.out.size
  rw [hV1.old B (by omega) (by omega) (fun i b hi hb e => by have := (HO1.out.blk i b (by omega) hb).1; omega), HO1.out.old B (by omega)]
  exact HA.out.2.2.1
 obtain ⟨fp, Cf, hv1, _⟩ := hV1.ord
 rw [show (natI b1.ord).length = b1.ord.length from List.length_map _] at hv1
 subst hv1
 rw [show decide (0 < leftN b1.ov (min n 64)) = false by rw [k3]; rfl]
 have hlen : b1.ord.length ≤ 1984 := by
  have := sum_kOf wk (N := min n 64) (by omega) (l ++ cycl (min n 64) (min n 64 * R1))
  rw [← k4] at this
  omega
 have hbr1 : ∃ br, w3.heap[g1]? = some (.cells br 4) ∧ ∀ i, i < min n 64 → br[i]? = some (.bool (wk i).bad) := by
  obtain ⟨br, h1, h2⟩ := hV1.brk
  exact ⟨br, h1, fun i hi => by rw [h2 i hi, k6 i hi]⟩
 have hrow1 := hV1.row
 have hsz := hV1.size
 have hg1 := hV1.glo
 clear hR1 hV1
 generalize b1.ord = full at k4 hlen hrow1 ⊢
 have HV1 := Lib.hid (And.intro hb3 (And.intro hB3 (And.intro hrow1 (And.intro hbr1 (And.intro hsz (And.intro hg1 (And.intro k4 (And.intro k5 hlen))))))))
 clear hb2 hbd2 hWv k3 k4 k5 k6 hb3 hB3 hlen hbr1 hrow1 hsz hg1
 rw [Frame.finish_at]
 walk_nrm
 refine at_piece (s := 1 + 6 + min n 64) (by decide) hJ (rows0_none _) false (.inr rfl) 5 7 0 rfl rfl rfl (by rfl) ?_
 intro τ d
 simp only [List.drop_succ_cons, List.drop_zero, List.take_succ_cons, List.take_zero]
 go_wp2
 simp only [contAt]
 refine hJ.re' (1 + 6 + min n 64) _ _ τ d ?_
 refine hJ.ctl (s := 1 + 6 + min n 64) (fun w => stepG_region_end) ?_
 refine hJ.ctl (s := 1 + 6 + min n 64) (fun w => stepG_seq) ?_
 obtain ⟨u5, hu5⟩ : ∃ c, headC (tmT 5) = c := ⟨_, rfl⟩
 have eu5 := hu5
 rw [hu5]
 simp only [tmT, headC, tailN, Try.f6, al_od] at eu5
 subst eu5
 clear hu5
 refine hJ.ctl (s := 1 + 6 + min n 64) (fun w => stepG_region) ?_
 refine at_piece (s := 1 + 6 + min n 64) (by decide) hJ (rows0_none _) true (.inl rfl) 0 2 11 rfl rfl rfl (by rfl) ?_
 intro τ d
 simp only [List.drop_succ_cons, List.drop_zero, List.take_succ_cons, List.take_zero]
 go_wp2
 simp only [contAt]
 refine hJ.re' (1 + 6 + min n 64) _ _ τ d ?_
 refine at_call (by decide) hJ (s := 1 + 6 + min n 64) rfl rfl (f := 15) (args := #[.pointer (some ⟨B, 0, none⟩), .slice lp n C]) (fun τ d => ?_) (fun τ d => ?_) ?_
 · simp [go_sem, execOp, Act.eval, resolve, Deferred.ofValue, invoke, callFunc, Try.func15, Try.f15]
 · intro e he
   simp [go_sem, execOp, Act.eval, resolve, Deferred.ofValue, invoke, callFunc, Try.func15, Try.f15, Sem.runT_eq] at he
 refine at_calls_lone hJ hC plainM Try.func15 rfl (by kernel_rfl) (R := fun v w' => ∃ wb, WkO w3 B wk n v wb w') (fun v w' τ d h => ?_) (fun τ d => Calls.mono (walkers_lone (bB := B) (re w3 τ d) hn (HI.out.1.beyond HV1.out.1)) ?_) ?_
 · obtain ⟨wb, h⟩ := h
   exact ⟨wb, h.to_re'⟩
 · rintro e w' ⟨o, wb, he, h⟩
   exact ⟨o, he, wb, h.re'⟩
 rintro v w4 ⟨wb2, hO2⟩
 obtain ⟨f2p, C2f, rfl, _, _⟩ := row_form hO2.orow
 rw [Frame.finish_at]
 walk_nrm
 have HO2 := Lib.hid hO2
 clear hO2
 refine at_piece (s := 1 + 6 + min n 64) (by decide) hJ (rows0_none _) true (.inl rfl) 3 2 8 rfl rfl rfl (by rfl) ?_
 intro τ d
 simp only [List.drop_succ_cons, List.drop_zero, List.take_succ_cons, List.take_zero]
 go_wp2
 simp only [contAt]
 refine hJ.re' (1 + 6 + min n 64) _ _ τ d ?_
 refine at_call (by decide) hJ (s := 1 + 6 + min n 64) rfl rfl (f := 14) (args := #[.slice f2p n C2f, .slice sp l.length Cs, .int .i64 mo]) (fun τ d => ?_) (fun τ d => ?_) ?_
 · simp [go_sem, execOp, Act.eval, resolve, Deferred.ofValue, invoke, callFunc, Try.func14, Try.f14]
 · intro e he
   simp [go_sem, execOp, Act.eval, resolve, Deferred.ofValue, invoke, callFunc, Try.func14, Try.f14, Sem.runT_eq] at he
 have hb4 : Beyond W w4 := HV1.out.1.trans ⟨HO2.out.size, HO2.out.old⟩
 have hBw : B < w2.heap.size := by have := HA.out.2.2.2.2; have := HO1.out.size; omega
 have hB3 : B < w3.heap.size := by have := HV1.out.2.2.2.2.1; omega
 have hWB : W.heap.size ≤ B := by have := HA.out.2.2.2.1; omega
 have hbd4 : w4.heap[B]? = some (.cells #[.slice none 0 0] 43) := (HO2.out.old B hB3).trans HV1.out.2.1
 have hb2o : ∀ i b, i < min n 64 → wb2 i = some b → w3.heap.size ≤ b := fun i b hi hb => (HO2.out.blk i b (by omega) hb).1
 refine walk_over hFin (n0 := 1 + 6 + min n 64) (by omega) (N := min n 64) (most := min mo.toNat 1048576) rfl rfl hbd4 HO2.out (by omega) (sched_for HI.out.2 hb4 hWB fun i b hi hb => by have := hb2o i b hi hb; have := HV1.out.1.1; omega) ?_
 intro b2 R2 v2 g2 cap2 w5 hR2 hV2
 obtain ⟨m1, m2, m3, m4⟩ := most_plain HO2.out rfl hR2 HV1.out.2.2.2.2.2.2.1 HV1.out.2.2.2.2.2.2.2.1
 have hb5 : Beyond W w5 := hV2.beyond HO2.out (by omega) hb4 hWB HV1.out.1.1
 have hlen : full.length ≤ 1984 := HV1.out.2.2.2.2.2.2.2.2
 obtain ⟨nn, hnn⟩ : ∃ nn, min mo.toNat full.length = nn := ⟨_, rfl⟩
 have htk : full.take (min mo.toNat 1048576) = full.take nn := by
  by_cases h : mo.toNat ≤ full.length
  · rw [show min mo.toNat 1048576 = nn by omega]
  · rw [List.take_of_length_le (by omega), List.take_of_length_le (by omega)]
 have hlt : decide (min mo.toNat 1048576 < full.length) = decide (nn < full.length) := by
  by_cases h : nn < full.length
  · rw [decide_eq_true h, decide_eq_true (by omega)]
  · rw [decide_eq_false h, decide_eq_false (by omega)]
 rw [htk] at m1
 rw [hlt] at m2
 have hln : b2.ord.length = nn := by rw [m1, List.length_take]; omega
 obtain ⟨op, Co, hv2, _⟩ := hV2.ord
 rw [show (natI b2.ord).length = nn from (List.length_map _).trans hln] at hv2
 subst hv2
 have keep : ∀ x, w2.heap.size ≤ x → x < w3.heap.size → w5.heap[x]? = w3.heap[x]? := fun x h1 h2 => by
  have h3 := HO2.out.size
  rw [hV2.old x (by omega) (by omega) (fun i b hi hb e => by have := hb2o i b hi hb; omega)]
  exact HO2.out.old x h2
 have hX : TmW w5 (min n 64) B g1 g2 nn Cf Co fp op (fun i => (wk i).bad) b2.brk full := by
  have hc := row_cap HV1.out.2.2.1
  refine ⟨?_, hc.1, hc.2, ?_, ?_, ?_, hV2.brk, m3, fun h => m4 (by omega)⟩
  · have hr := ownsRow_of (w' := w5) HV1.out.2.2.1 fun g hg => keep g (own_lt HV1.out.2.2.1 hg).2.1 (own_lt HV1.out.2.2.1 hg).2.2
    have := row_ints (l := natI full) (by rw [show (natI full).length = full.length from List.length_map _]; exact hr)
    exact this
  · have := hV2.ord
    rw [m1] at this
    exact this
  · have := hV2.bd
    rw [m1] at this
    exact this
  · obtain ⟨br, h1, h2⟩ := HV1.out.2.2.2.1
    exact ⟨br, (keep g1 HV1.out.2.2.2.2.2.1 (zq4 h1)).trans h1, h2⟩
 rw [show decide (0 < leftN b2.ov (min n 64)) = decide (nn < full.length) from m2]
 have HX := Lib.hid (And.intro hX (And.intro hb5 (And.intro hnn hlen)))
 clear hX hb5 hnn hlen htk hlt m1 m2 m3 m4 hln keep hR2 hV2 hb4 hBw hB3 hWB hbd4 hb2o HV1 HO1 HO2 HA
 rw [Frame.finish_at]
 walk_nrm
 refine at_piece (s := 1 + 6 + min n 64 + min n 64) (by decide) hJ (rows0_none _) false (.inr rfl) 6 7 0 rfl rfl rfl (by rfl) ?_
 intro τ d
 simp only [List.drop_succ_cons, List.drop_zero, List.take_succ_cons, List.take_zero]
 go_wp2
 simp only [contAt]
 refine hJ.re' (1 + 6 + min n 64 + min n 64) _ _ τ d ?_
 refine hJ.ctl (s := 1 + 6 + min n 64 + min n 64) (fun w => stepG_region_end) ?_
 refine hJ.ctl (s := 1 + 6 + min n 64 + min n 64) (fun w => stepG_seq) ?_
 refine at_lone hJ hC plainM (by kernel_rfl) (fun t w' => t = #[.slice lp n C, .slice sp l.length Cs, .int .i64 mo, undef, undef, undef, .bool false, .pointer (some ⟨A, 0, none⟩), .pointer (some ⟨B, 0, none⟩), .slice fp full.length Cf, .bool false, .slice (some ⟨g1, 0, none⟩) (min n 64) cap1, .slice op nn Co, .bool (decide (nn < full.length)), .slice (some ⟨g2, 0, none⟩) (min n 64) cap2, .int .i64 (nn : Int), undef, .bool true, .bool false, .agg #[.slice none 0 0], .pointer (some ⟨A, 0, none⟩), .agg #[.slice none 0 0], .pointer (some ⟨B, 0, none⟩), .tuple #[.slice fp full.length Cf, .bool false, .slice (some ⟨g1, 0, none⟩) (min n 64) cap1], .pointer (some ⟨A, 0, none⟩), .slice lp n C, .slice f1p n C1f, .slice sp l.length Cs, .tuple #[.slice fp full.length Cf, .bool false, .slice (some ⟨g1, 0, none⟩) (min n 64) cap1], .slice fp full.length Cf, .bool false, .slice (some ⟨g1, 0, none⟩) (min n 64) cap1, .tuple #[.slice op nn Co, .bool (decide (nn < full.length)), .slice (some ⟨g2, 0, none⟩) (min n 64) cap2], .pointer (some ⟨B, 0, none⟩), .slice lp n C, .slice f2p n C2f, .slice sp l.length Cs, .int .i64 mo, .tuple #[.slice op nn Co, .bool (decide (nn < full.length)), .slice (some ⟨g2, 0, none⟩) (min n 64) cap2], .slice op nn Co, .bool (decide (nn < full.length)), .slice (some ⟨g2, 0, none⟩) (min n 64) cap2, .int .i64 mo, .int .i64 ((mo.toNat : Nat) : Int), .slice fp full.length Cf, .int .i64 (full.length : Int), .int .i64 (nn : Int), undef, undef, undef, undef, undef, undef, undef, undef, undef, undef, undef, undef, undef, undef, undef, undef, undef, undef, undef, undef, undef, undef, undef, undef, undef, undef, undef, undef, undef, undef, undef, undef, undef, undef, undef, undef, undef, undef, undef, undef, undef, undef, undef, undef, undef, undef, undef, undef, undef, undef, undef, undef, undef, undef, undef, undef, undef, undef, undef, undef, undef, undef] ∧ ∃ τ d, w' = re w5 τ d) (fun t w' τ d h => ⟨h.1, by obtain ⟨τ', d', rfl⟩ := h.2; exact ⟨τ, d, by rw [re_re]⟩⟩) (by decide) (fun τ d => ?_) ?_
 · obtain ⟨u6, hu6⟩ : ∃ c, headC (tmT 6) = c := ⟨_, rfl⟩
   have eu6 := hu6
   rw [hu6]
   simp only [tmT, headC, tailN, Try.f6, al_od] at eu6
   subst eu6
   clear hu6
   have hnn := HX.out.2.2.1
   by_cases h1 : mo < 0
   · have e : (nn : Int) = 0 := by omega
     have e2 : ((mo.toNat : Nat) : Int) = 0 := by omega
     rw [e, e2]
     go_wp2
     exact ⟨rfl, rfl, τ, d, rfl⟩
   · obtain ⟨m, rfl⟩ := Int.eq_ofNat_of_zero_le (show 0 ≤ mo by omega)
     rw [Int.toNat_natCast] at hnn ⊢
     by_cases h2 : (m : Int) ≤ full.length
     · have e : (nn : Int) = m := by omega
       rw [e]
       go_wp2
       exact ⟨rfl, rfl, τ, d, rfl⟩
     · have e : (nn : Int) = full.length := by omega
       rw [e]
       go_wp2
       exact ⟨rfl, rfl, τ, d, rfl⟩
 rintro t w' ⟨rfl, τ, d, rfl⟩
 refine hJ.re' (1 + 6 + min n 64 + min n 64) _ _ τ d ?_
 refine at_rest_end (P := Try.prog) hPost plainM (by kernel_rfl) rfl (by kernel_rfl) Try.func6 (fun τ d => ?_)
 exact turnmost_rest (by omega) HX.out.2.2.2 (by have := HX.out.2.2.1; omega) (HX.out.1.re τ d) fun w' hb => ⟨_, rfl, HE.out _ (HX.out.2.1.trans ⟨hb.1, hb.2⟩)⟩
end Go.Proofs
set_option maxHeartbeats 4000000
set_option maxRecDepth 100000
namespace Go.Proofs.Ytdncabjenacolaa
open Go Go.Conc Go.RowKit Go.Car Go.ChangeShapes Go.WideShapes Go.ChangeAt
theorem turnMost_lifted (os : Os) (started : os.Started) (H : Type) (enc : TypeId × Value → H) (F : Stop.Interp) :
 ReturnsInLeavingWide {} Try.checked os 6 .any ((Rows.OpenSpec.upto Rows.turnMostSpec).pre6 enc Try.prog Try.f6 Rows.turnMostUptoRow.domain false) (((Rows.OpenSpec.upto Rows.turnMostSpec).at F).post enc Try.prog Try.f6 false true false false) := by
 refine leaving_of_cond (C := Try.checked) (s := Rows.OpenSpec.upto Rows.turnMostSpec) (k := Rows.uptoSmall) rfl own_knob started Try.func6
  (OpenSpec.witness (enc := enc) (C := Try.checked) (s := Rows.OpenSpec.upto Rows.turnMostSpec) (k := Rows.uptoSmall) rfl false ⟨#[], #[.slice none 0 0, .slice none 0 0, .int .i64 0], []⟩ 8 (by kernel_rfl) (by kernel_rfl) (by kernel_rfl)
   (x := ([.nil, .nil, .lit (.int .i64 0)], [], [])) (by kernel_rfl) rfl (by kernel_rfl)) ?_
 intro W base args ds gs before hval0 hW hk
 have hval : ∀ (j : Nat) t v, Try.f6.params[j]? = some t → args[j]? = some v → Value.okWide Try.prog W .any base t v := hval0
 have hW' := hW
 obtain ⟨p, q, hA0, hV, rfl, _, _⟩ := hW
 have hA : DataW.TrodAll enc Try.prog W 0 (fun _ => true) true Try.f6.params.toList args.toList ds p := hA0
 rw [Try.params6] at hA hval
 obtain ⟨v0, v1, v2, d0, d1, d2, p0, p1, p2, rfl, rfl, rfl, h0, h1, h2⟩ := trodAll_three hA
 obtain ⟨rfl, rfl⟩ := trodVars_none hV
 clear hA0 hval0
 simp only [List.append_nil] at hW' hk
 have hlt : ∀ x ∈ p0 ++ p1 ++ p2, x.block < W.heap.size := fun x hx => by simpa using hW'.lt x hx
 obtain ⟨lp, n, C, wk, rfl, i0, b0⟩ := walks_arg (hval 0 _ v0 rfl rfl) h0 (bulk_small hk (by simp))
 obtain ⟨sp, Cs, l, rfl, i1, b1⟩ := ints_arg (e := 3) (by kernel_rfl) (by kernel_rfl) (by kernel_rfl) (hval 1 _ v1 rfl rfl) h1 (bulk_small hk (by simp))
 obtain ⟨mo, rfl⟩ := okWide_int (k := .i64) (by kernel_rfl) (hval 2 _ v2 rfl rfl)
 obtain ⟨M, last, o, w', t', r1, r2, r3, r4⟩ := turnmost_run (Post := fun v w' => v = .bool true ∧ Beyond W w') (fun v w τ d h => ⟨h.1, h.2.1, h.2.2⟩) (C := C) (mo := mo) (by omega) (by omega) i0 i1 (fun w' h => ⟨rfl, h⟩)
 refine ⟨M, last, o, w', t', r1, r2, r3, r4.mono fun v hF => ?_⟩
 obtain ⟨⟨rfl, hb⟩, ho, hu⟩ := hF
 have same : ∀ {t : TypeId} (hr : Try.prog.readableRec t = true) (hrow : t < Try.prog.types.size) {v : Value} {d : DataW H} {ps : List MemPlace} (h : DataW.Trod enc Try.prog W 0 (fun _ => true) true t v d ps) (hlt : ∀ x ∈ ps, x.block < W.heap.size), DataW.Trod enc Try.prog w' 0 (fun b => decide (b < W.heap.size)) true t v d ps := fun hr hrow _ _ _ h hlt => reads_same hr hrow h hb hlt
 refine ⟨_, _, _, [], p0 ++ (p1 ++ p2), [], hW', trodAll_mk1 (shut_bool Try.underlying4 true), ?_, rfl, kept_same hb ho hu _, fun h => by cases h⟩
 exact trodAll_mk3 (same (by kernel_rfl) (of_decide_eq_true (by kernel_rfl)) h0 fun x hx => hlt x (by simp [hx])) (same (by kernel_rfl) (of_decide_eq_true (by kernel_rfl)) h1 fun x hx => hlt x (by simp [hx])) (same (by kernel_rfl) (of_decide_eq_true (by kernel_rfl)) h2 fun x hx => hlt x (by simp [hx]))
theorem turnMost_upto : Rows.TurnMostUptoSaid :=
 holds_leaving_cond 6 Try.f6 rfl rfl rfl rfl rfl rfl rfl ⟨rfl, rfl, rfl, rfl, rfl⟩ rfl rfl rfl rfl rfl (by kernel_rfl) Try.func6 (by kernel_rfl)
  (of_decide_eq_true (by kernel_rfl)) (by unfold Func.isWrapper; first | (rw [if_pos (by decide +kernel)]; kernel_rfl) | (rw [if_neg (by decide +kernel)]; exact ⟨rfl, rfl⟩))
  (fun os started H enc _ F => turnMost_lifted os started H enc F)
end Go.Proofs.Ytdncabjenacolaa
