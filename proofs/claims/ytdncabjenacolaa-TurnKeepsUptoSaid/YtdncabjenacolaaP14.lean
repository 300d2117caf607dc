/- YtdncabjenacolaaTKeep4: part 14 of the proof (the texts behind it, in order). -/
import Derived.Test.YtdncabjenacolaaP13
set_option linter.unusedSimpArgs false
set_option linter.unusedVariables false
set_option linter.unusedSectionVars false
set_option linter.unnecessarySimpa false
set_option maxHeartbeats 4000000
set_option maxRecDepth 100000
namespace Go.Proofs
open Go Go.Conc Go.RowKit Go.Car
def RownPost (tb : Nat) (cp : Option Addr) (len C base : Nat) (tv : Value) (m m' : Mch) (x : Bool) (w : World) (e : Ending) (w' : World) : Prop :=
 e = .returned (.tuple #[]) ∧ ∃ tv', ThB tb cp len C tv' m' x w' ∧ w'.ownsRow base 38 3 tv' m'.told.length (toldL m'.told) ∧ OwnRest tb tv.ownBlock w w' ∧ ∀ g, tv'.ownBlock = some g → tv.ownBlock = some g ∨ w.heap.size ≤ g
theorem rown_same {tb : Nat} {cp : Option Addr} {len C base : Nat} {tv : Value} {m m' : Mch} {x : Bool} {w w' : World} (h : ThB tb cp len C tv m x w) (ho : w.ownsRow base 38 3 tv m.told.length (toldL m.told)) (ht : m'.told = m.told) (H : ThB tb cp len C tv m' x w') (R : Rest1 tb w w') : RownPost tb cp len C base tv m m' x w (.returned (.tuple #[])) w' := by
 refine ⟨rfl, tv, H, ?_, ⟨R.size, fun b hb hm _ => R.old b hb hm⟩, fun g hg => .inl hg⟩
 rw [ht]
 exact zqd ho fun g hg => R.old g (own_lt ho hg).2.2 fun e => own_ne ho h.hm (by decide) (by rw [hg, e])
theorem rown_plain (tb : Nat) (cp : Option Addr) (len C base : Nat) (tv : Value) (m : Mch) (x : Bool) (c : Cd) (w : World) (hlC : len ≤ 1099511627776) (h : ThB tb cp len C tv m x w) (ho : w.ownsRow base 38 3 tv m.told.length (toldL m.told)) (h6 : c.d ≠ 6) :
 Calls Try.prog 44 #[.pointer (some ⟨tb, 0, none⟩), cdV c] w fun e w' => RownPost tb cp len C base tv m (ownR len c m) x w e w' := by
 obtain ⟨d, r, a, b, v⟩ := c
 simp only at h6
 have htb := zq4 h.hm
 have h1 := h.al (.cells #[.int .i64 d, .int .i64 r, .int .i64 a, .int .i64 b, .int .i64 v] 71)
 have hR := (Rest1.refl tb w).al (.cells #[.int .i64 d, .int .i64 r, .int .i64 a, .int .i64 b, .int .i64 v] 71)
 have hB := al_new w (.cells #[.int .i64 d, .int .i64 r, .int .i64 a, .int .i64 b, .int .i64 v] 71)
 obtain ⟨mo, hmo⟩ : ∃ mo, ownR len ⟨d, r, a, b, v⟩ m = mo := ⟨_, rfl⟩
 rw [hmo]
 have hout : ∀ (m' : Mch) (w' : World), mo = m' → m'.told = m.told → ThB tb cp len C tv m' x w' → Rest1 tb w w' → RownPost tb cp len C base tv m mo x w (.returned (.tuple #[])) w' := fun m' w' e ht H R => by rw [e]; exact rown_same h ho ht H R
 clear h ho
 unfold cdV
 go_enter Try.func44, Try.ntmps44
 obtain ⟨w1, hw1⟩ : ∃ w1, w.alloc (.cells #[.int .i64 d, .int .i64 r, .int .i64 a, .int .i64 b, .int .i64 v] 71) = w1 := ⟨_, rfl⟩
 rw [hw1] at h1 hR hB
 obtain ⟨B0, hB0⟩ : ∃ B0, w.heap.size = B0 := ⟨_, rfl⟩
 rw [hB0] at hB htb
 have cn := h1.cn
 have c0 := h1.c0
 have cra := h1.cr (ix_lt a)
 have crb := h1.cr (ix_lt b)
 have fz1 := h1.fm 1
 have b0 : w1.cell? ⟨B0, 0, none⟩ = some (.int .i64 d) := (zq0 hB).trans rfl
 have b1 : w1.cell? ⟨B0, 1, none⟩ = some (.int .i64 r) := (zq0 hB).trans rfl
 have b2 : w1.cell? ⟨B0, 2, none⟩ = some (.int .i64 a) := (zq0 hB).trans rfl
 have b3 : w1.cell? ⟨B0, 3, none⟩ = some (.int .i64 b) := (zq0 hB).trans rfl
 have b4 : w1.cell? ⟨B0, 4, none⟩ = some (.int .i64 v) := (zq0 hB).trans rfl
 obtain ⟨y, hy⟩ : ∃ y, m.regs (ix a) = y := ⟨_, rfl⟩
 obtain ⟨z, hz⟩ : ∃ z, m.regs (ix b) = z := ⟨_, rfl⟩
 rw [hy] at cra
 rw [hz] at crb
 have H1 := Lib.hid h1
 have HR := Lib.hid hR
 have HO := Lib.hid hout
 clear h1 hR hB hout
 obtain ⟨ir, hir⟩ : ∃ q, ix r = q := ⟨_, rfl⟩
 obtain ⟨ia, hia⟩ : ∃ q, ix a = q := ⟨_, rfl⟩
 obtain ⟨ib, hib⟩ : ∃ q, ix b = q := ⟨_, rfl⟩
 have lr := ix_lt r
 have la := ix_lt a
 have lb := ix_lt b
 have regr : ∀ w, Calls Try.prog 45 #[.int .i64 r] w fun e w' => e = .returned (.int .i64 (ix r)) ∧ w' = w := fun w => reg_lone r w
 have rega : ∀ w, Calls Try.prog 45 #[.int .i64 a] w fun e w' => e = .returned (.int .i64 (ix a)) ∧ w' = w := fun w => reg_lone a w
 have regb : ∀ w, Calls Try.prog 45 #[.int .i64 b] w fun e w' => e = .returned (.int .i64 (ix b)) ∧ w' = w := fun w => reg_lone b w
 rw [hia] at cra la rega
 rw [hib] at crb lb regb
 rw [hir] at lr regr
 have HM := Lib.hid hmo
 have HY := Lib.hid (And.intro hy hz)
 clear hmo
 have HI := Lib.hid (And.intro hir (And.intro hia hib))
 clear hir hia hib hy hz
 have lr0 : (0 : Int) ≤ ir := by omega
 have la0 : (0 : Int) ≤ ia := by omega
 have lb0 : (0 : Int) ≤ ib := by omega
 have lr4 : (ir : Int) < 4 := by omega
 have la4 : (ia : Int) < 4 := by omega
 have lb4 : (ib : Int) < 4 := by omega
 have i1 : ¬ (2 + ia = 1) := by omega
 have i2 : ¬ (1 = 2 + ia) := by omega
 have i3 : ¬ (2 + ib = 1) := by omega
 have i4 : ¬ (1 = 2 + ib) := by omega
 have hB1 : ¬ (tb = B0) := by omega
 have hB2 : ¬ (B0 = tb) := by omega
 have HS := Lib.hid hB0
 go_wp2_with (fail)
 refine Calls.mono (regr _) ?_
 rintro e w' ⟨rfl, rfl⟩
 have H2 := H1.out.setN (wrap64 (m.next + 1))
 have R2 := Rest1.setM HR.out 1 (.int .i64 (wrap64 (m.next + 1)))
 have up : ∀ o, (w1.setCell ⟨tb, 1, none⟩ (.int .i64 (wrap64 (m.next + 1)))).cell? ⟨B0, o, none⟩ = w1.cell? ⟨B0, o, none⟩ := fun o => zqf (zq3 _ _ _ _ hB2)
 have d0 := (up 0).trans b0
 have d1 := (up 1).trans b1
 have d2 := (up 2).trans b2
 have d3 := (up 3).trans b3
 have d4 := (up 4).trans b4
 clear up b0 b1 b2 b3 b4 cra crb cn c0 fz1 hw1
 generalize (w1.setCell ⟨tb, 1, none⟩ (.int .i64 (wrap64 (m.next + 1)))) = w2 at *
 have cra : w2.cell? ⟨tb, 2 + ia, none⟩ = some (.int .i64 y) := by have := H2.cr (ix_lt a); rw [HI.out.2.1, show ({ m with next := wrap64 (m.next + 1) } : Mch).regs = m.regs from rfl] at this; rw [this, ← HI.out.2.1, HY.out.1]
 have crb : w2.cell? ⟨tb, 2 + ib, none⟩ = some (.int .i64 z) := by have := H2.cr (ix_lt b); rw [HI.out.2.2, show ({ m with next := wrap64 (m.next + 1) } : Mch).regs = m.regs from rfl] at this; rw [this, ← HI.out.2.2, HY.out.2]
 have crr : ∃ q, w2.cell? ⟨tb, 2 + ir, none⟩ = some (.int .i64 q) ∧ q = m.regs (ix r) := by have := H2.cr (ix_lt r); exact ⟨_, by rw [← HI.out.1]; exact this, rfl⟩
 obtain ⟨q, crr, hq⟩ := crr
 have HQ := Lib.hid hq
 clear hq
 have c0 := H2.c0
 have cn := H2.cn
 have fzr := H2.fm (2 + ir)
 have fz1 := H2.fm 1
 have H3 := Lib.hid H2
 have R3 := Lib.hid R2
 clear H2 R2
 go_wp2_with (fail)
 go_quiet (first | (go_at_call 45; exact Calls.quiet_of_same (rega _)))
 replace d0 : (w2.drewN nq).cell? ⟨B0, 0, none⟩ = _ := d0
 replace d1 : (w2.drewN nq).cell? ⟨B0, 1, none⟩ = _ := d1
 replace d2 : (w2.drewN nq).cell? ⟨B0, 2, none⟩ = _ := d2
 replace d3 : (w2.drewN nq).cell? ⟨B0, 3, none⟩ = _ := d3
 replace d4 : (w2.drewN nq).cell? ⟨B0, 4, none⟩ = _ := d4
 replace cra : (w2.drewN nq).cell? ⟨tb, 2 + ia, none⟩ = _ := cra
 replace crb : (w2.drewN nq).cell? ⟨tb, 2 + ib, none⟩ = _ := crb
 replace crr : (w2.drewN nq).cell? ⟨tb, 2 + ir, none⟩ = _ := crr
 replace c0 : (w2.drewN nq).cell? ⟨tb, 0, none⟩ = _ := c0
 replace cn : (w2.drewN nq).cell? ⟨tb, 1, none⟩ = _ := cn
 replace fzr : (w2.drewN nq).frozen? ⟨tb, 2 + ir, none⟩ = false := fzr
 replace fz1 : (w2.drewN nq).frozen? ⟨tb, 1, none⟩ = false := fz1
 replace H3 := Lib.hid (H3.out.same (w' := w2.drewN nq) rfl)
 replace R3 := Lib.hid (R3.out.drew nq)
 generalize w2.drewN nq = w3 at *
 go_wp2_with (fail)
 go_quiet (first | (go_at_call 45; exact Calls.quiet_of_same (regb _)))
 replace d0 : (w3.drewN nq).cell? ⟨B0, 0, none⟩ = _ := d0
 replace d1 : (w3.drewN nq).cell? ⟨B0, 1, none⟩ = _ := d1
 replace d2 : (w3.drewN nq).cell? ⟨B0, 2, none⟩ = _ := d2
 replace d3 : (w3.drewN nq).cell? ⟨B0, 3, none⟩ = _ := d3
 replace d4 : (w3.drewN nq).cell? ⟨B0, 4, none⟩ = _ := d4
 replace cra : (w3.drewN nq).cell? ⟨tb, 2 + ia, none⟩ = _ := cra
 replace crb : (w3.drewN nq).cell? ⟨tb, 2 + ib, none⟩ = _ := crb
 replace crr : (w3.drewN nq).cell? ⟨tb, 2 + ir, none⟩ = _ := crr
 replace c0 : (w3.drewN nq).cell? ⟨tb, 0, none⟩ = _ := c0
 replace cn : (w3.drewN nq).cell? ⟨tb, 1, none⟩ = _ := cn
 replace fzr : (w3.drewN nq).frozen? ⟨tb, 2 + ir, none⟩ = false := fzr
 replace fz1 : (w3.drewN nq).frozen? ⟨tb, 1, none⟩ = false := fz1
 replace H3 := Lib.hid (H3.out.same (w' := w3.drewN nq) rfl)
 replace R3 := Lib.hid (R3.out.drew nq)
 generalize w3.drewN nq = w4 at *
 by_cases e1 : d = 1
 · subst e1
   go_wp2_with (fail)
   refine wp_region_pre (k := 7) (C := fun w' => ∃ n, w' = w4.drewN n) (by kernel_rfl) (by kernel_rfl) (by kernel_rfl) (by kernel_rfl) (by kernel_rfl) ⟨1, rfl⟩ ?_
   simp only [List.take_succ_cons, List.take_zero]
   repeat (quiet_step (fail))
   refine wpQuiet_nil ?_
   rintro w' ⟨nq, rfl⟩
   refine wpAny_one (i := 7) (by kernel_rfl) ?_
   simp only [wpOp, al_gl, al_g0, al_g1]
   rw [if_pos (by rfl)]
   refine .inl ?_
   go_simp
   refine wpAny_end (by kernel_rfl) ?_
   go_wp2
   go_end0
   have H5 := H3.out
   rw [wrap64_eq] at H5
   refine HO.out (m.on.set ir v) _ (by rw [← HM.out]; rw [← HI.out.1]; simp [ownR, ownC]) rfl ?_ ?_
   · exact (H5.same (w' := w4.drewN nq) rfl).setR lr v
   · exact Rest1.setM (R3.out.drew nq) _ _
 by_cases e2 : d = 2
 · subst e2
   go_wp2_with (fail)
   go_end0
   have H5 := H3.out
   rw [wrap64_eq] at H5
   refine HO.out (m.on.set ir y) _ (by rw [← HM.out]; rw [← HI.out.1, ← HY.out.1]; simp [ownR, ownC]) rfl ?_ ?_
   · exact H5.setR lr y
   · exact Rest1.setM R3.out _ _
 by_cases e3 : d = 3
 · subst e3
   go_wp2_with (fail)
   go_end0
   have H5 := H3.out
   rw [wrap64_eq] at H5
   refine HO.out (m.on.set ir (IntKind.i64.wrap (y + z))) _ (by rw [← HM.out]; rw [← HI.out.1, ← HY.out.1, ← HY.out.2]; simp [ownR, ownC]) rfl ?_ ?_
   · try simp only [wrap64_eq]
     exact H5.setR lr _
   · exact Rest1.setM R3.out _ _
 by_cases e4 : d = 4
 · subst e4
   by_cases hyz : y = z
   · by_cases hv1 : 0 ≤ v
     · by_cases hv2 : v < (len : Int)
       · go_wp2_with (fail)
         have e0 : (w4.setCell ⟨tb, 1, none⟩ (.int .i64 (-1))).cell? ⟨B0, 4, none⟩ = some (.int .i64 v) := (zqf (zq3 _ _ _ _ hB2)).trans d4
         have e1 : (w4.setCell ⟨tb, 1, none⟩ (.int .i64 (-1))).cell? ⟨tb, 0, none⟩ = some (.slice cp len C) := (H3.out.setN (-1)).c0
         have H4 := Lib.hid (H3.out.setN (-1))
         have R4 := Lib.hid (Rest1.setM R3.out 1 (.int .i64 (-1)))
         clear d0 d1 d2 d3 d4 cra crb crr c0 cn fzr fz1 H3 R3
         generalize w4.setCell ⟨tb, 1, none⟩ (.int .i64 (-1)) = w5 at *
         have fz5 := H4.out.fm 1
         go_quiet (fail)
         replace e0 : (w5.drewN nq).cell? ⟨B0, 4, none⟩ = _ := e0
         replace fz5 : (w5.drewN nq).frozen? ⟨tb, 1, none⟩ = false := fz5
         replace H4 := Lib.hid (H4.out.same (w' := w5.drewN nq) rfl)
         replace R4 := Lib.hid (R4.out.drew nq)
         generalize w5.drewN nq = w6 at *
         have cn6 := H4.out.cn
         go_wp2
         go_end0
         have H5 := H4.out
         have hz : m.regs (ix a) = m.regs (ix b) := by rw [HY.out.1, HY.out.2]; exact hyz
         have hj : jmpR len v = v := if_pos ⟨hv1, hv2⟩
         refine HO.out { m.on with next := v } _ (by rw [← HM.out]; simp [ownR, hz, hj]) rfl ?_ ?_
         · exact H5.setN v
         · exact Rest1.setM R4.out _ _
       · go_wp2_with (fail)
         have e0 : (w4.setCell ⟨tb, 1, none⟩ (.int .i64 (-1))).cell? ⟨B0, 4, none⟩ = some (.int .i64 v) := (zqf (zq3 _ _ _ _ hB2)).trans d4
         have e1 : (w4.setCell ⟨tb, 1, none⟩ (.int .i64 (-1))).cell? ⟨tb, 0, none⟩ = some (.slice cp len C) := (H3.out.setN (-1)).c0
         have H4 := Lib.hid (H3.out.setN (-1))
         have R4 := Lib.hid (Rest1.setM R3.out 1 (.int .i64 (-1)))
         clear d0 d1 d2 d3 d4 cra crb crr c0 cn fzr fz1 H3 R3
         generalize w4.setCell ⟨tb, 1, none⟩ (.int .i64 (-1)) = w5 at *
         have fz5 := H4.out.fm 1
         have hw2 : ¬ v < (len : Int) := by omega
         go_quiet (fail)
         go_wp2
         go_end0
         have H5 := H4.out
         have hz : m.regs (ix a) = m.regs (ix b) := by rw [HY.out.1, HY.out.2]; exact hyz
         have hj : jmpR len v = (-1) := if_neg (by omega)
         refine HO.out { m.on with next := (-1) } _ (by rw [← HM.out]; simp [ownR, hz, hj]) rfl ?_ ?_
         · exact H5.same (w' := w5.drewN nq) rfl
         · exact R4.out.drew nq
     · go_wp2_with (fail)
       have e0 : (w4.setCell ⟨tb, 1, none⟩ (.int .i64 (-1))).cell? ⟨B0, 4, none⟩ = some (.int .i64 v) := (zqf (zq3 _ _ _ _ hB2)).trans d4
       have e1 : (w4.setCell ⟨tb, 1, none⟩ (.int .i64 (-1))).cell? ⟨tb, 0, none⟩ = some (.slice cp len C) := (H3.out.setN (-1)).c0
       have H4 := Lib.hid (H3.out.setN (-1))
       have R4 := Lib.hid (Rest1.setM R3.out 1 (.int .i64 (-1)))
       clear d0 d1 d2 d3 d4 cra crb crr c0 cn fzr fz1 H3 R3
       generalize w4.setCell ⟨tb, 1, none⟩ (.int .i64 (-1)) = w5 at *
       have fz5 := H4.out.fm 1
       have hw1 : ¬ 0 ≤ v := by omega
       go_quiet (fail)
       go_wp2
       go_end0
       have H5 := H4.out
       have hz : m.regs (ix a) = m.regs (ix b) := by rw [HY.out.1, HY.out.2]; exact hyz
       have hj : jmpR len v = (-1) := if_neg (by omega)
       refine HO.out { m.on with next := (-1) } _ (by rw [← HM.out]; simp [ownR, hz, hj]) rfl ?_ ?_
       · exact H5.same (w' := w5.drewN nq) rfl
       · exact R4.out.drew nq
   · go_wp2_with (fail)
     go_end0
     have H5 := H3.out
     rw [wrap64_eq] at H5
     have hz : ¬ m.regs (ix a) = m.regs (ix b) := by rw [HY.out.1, HY.out.2]; omega
     refine HO.out m.on _ (by rw [← HM.out]; simp [ownR, ownC, hz]) rfl ?_ ?_
     · exact H5
     · exact R3.out
 by_cases e5 : d = 5
 · subst e5
   by_cases hyz : y < z
   · by_cases hv1 : 0 ≤ v
     · by_cases hv2 : v < (len : Int)
       · go_wp2_with (fail)
         have e0 : (w4.setCell ⟨tb, 1, none⟩ (.int .i64 (-1))).cell? ⟨B0, 4, none⟩ = some (.int .i64 v) := (zqf (zq3 _ _ _ _ hB2)).trans d4
         have e1 : (w4.setCell ⟨tb, 1, none⟩ (.int .i64 (-1))).cell? ⟨tb, 0, none⟩ = some (.slice cp len C) := (H3.out.setN (-1)).c0
         have H4 := Lib.hid (H3.out.setN (-1))
         have R4 := Lib.hid (Rest1.setM R3.out 1 (.int .i64 (-1)))
         clear d0 d1 d2 d3 d4 cra crb crr c0 cn fzr fz1 H3 R3
         generalize w4.setCell ⟨tb, 1, none⟩ (.int .i64 (-1)) = w5 at *
         have fz5 := H4.out.fm 1
         go_quiet (fail)
         replace e0 : (w5.drewN nq).cell? ⟨B0, 4, none⟩ = _ := e0
         replace fz5 : (w5.drewN nq).frozen? ⟨tb, 1, none⟩ = false := fz5
         replace H4 := Lib.hid (H4.out.same (w' := w5.drewN nq) rfl)
         replace R4 := Lib.hid (R4.out.drew nq)
         generalize w5.drewN nq = w6 at *
         have cn6 := H4.out.cn
         go_wp2
         go_end0
         have H5 := H4.out
         have hz : m.regs (ix a) < m.regs (ix b) := by rw [HY.out.1, HY.out.2]; exact hyz
         have hj : jmpR len v = v := if_pos ⟨hv1, hv2⟩
         refine HO.out { m.on with next := v } _ (by rw [← HM.out]; simp [ownR, hz, hj]) rfl ?_ ?_
         · exact H5.setN v
         · exact Rest1.setM R4.out _ _
       · go_wp2_with (fail)
         have e0 : (w4.setCell ⟨tb, 1, none⟩ (.int .i64 (-1))).cell? ⟨B0, 4, none⟩ = some (.int .i64 v) := (zqf (zq3 _ _ _ _ hB2)).trans d4
         have e1 : (w4.setCell ⟨tb, 1, none⟩ (.int .i64 (-1))).cell? ⟨tb, 0, none⟩ = some (.slice cp len C) := (H3.out.setN (-1)).c0
         have H4 := Lib.hid (H3.out.setN (-1))
         have R4 := Lib.hid (Rest1.setM R3.out 1 (.int .i64 (-1)))
         clear d0 d1 d2 d3 d4 cra crb crr c0 cn fzr fz1 H3 R3
         generalize w4.setCell ⟨tb, 1, none⟩ (.int .i64 (-1)) = w5 at *
         have fz5 := H4.out.fm 1
         have hw2 : ¬ v < (len : Int) := by omega
         go_quiet (fail)
         go_wp2
         go_end0
         have H5 := H4.out
         have hz : m.regs (ix a) < m.regs (ix b) := by rw [HY.out.1, HY.out.2]; exact hyz
         have hj : jmpR len v = (-1) := if_neg (by omega)
         refine HO.out { m.on with next := (-1) } _ (by rw [← HM.out]; simp [ownR, hz, hj]) rfl ?_ ?_
         · exact H5.same (w' := w5.drewN nq) rfl
         · exact R4.out.drew nq
     · go_wp2_with (fail)
       have e0 : (w4.setCell ⟨tb, 1, none⟩ (.int .i64 (-1))).cell? ⟨B0, 4, none⟩ = some (.int .i64 v) := (zqf (zq3 _ _ _ _ hB2)).trans d4
       have e1 : (w4.setCell ⟨tb, 1, none⟩ (.int .i64 (-1))).cell? ⟨tb, 0, none⟩ = some (.slice cp len C) := (H3.out.setN (-1)).c0
       have H4 := Lib.hid (H3.out.setN (-1))
       have R4 := Lib.hid (Rest1.setM R3.out 1 (.int .i64 (-1)))
       clear d0 d1 d2 d3 d4 cra crb crr c0 cn fzr fz1 H3 R3
       generalize w4.setCell ⟨tb, 1, none⟩ (.int .i64 (-1)) = w5 at *
       have fz5 := H4.out.fm 1
       have hw1 : ¬ 0 ≤ v := by omega
       go_quiet (fail)
       go_wp2
       go_end0
       have H5 := H4.out
       have hz : m.regs (ix a) < m.regs (ix b) := by rw [HY.out.1, HY.out.2]; exact hyz
       have hj : jmpR len v = (-1) := if_neg (by omega)
       refine HO.out { m.on with next := (-1) } _ (by rw [← HM.out]; simp [ownR, hz, hj]) rfl ?_ ?_
       · exact H5.same (w' := w5.drewN nq) rfl
       · exact R4.out.drew nq
   · go_wp2_with (fail)
     go_end0
     have H5 := H3.out
     rw [wrap64_eq] at H5
     have hz : ¬ m.regs (ix a) < m.regs (ix b) := by rw [HY.out.1, HY.out.2]; omega
     refine HO.out m.on _ (by rw [← HM.out]; simp [ownR, ownC, hz]) rfl ?_ ?_
     · exact H5
     · exact R3.out
 go_wp2_with (fail)
 go_end0
 have H5 := H3.out
 rw [wrap64_eq] at H5
 refine HO.out m.on _ (by rw [← HM.out]; simp [ownR, ownC, e1, e2, e3, e4, e5, h6]) rfl ?_ ?_
 · exact H5
 · exact R3.out
theorem rown_tell (tb : Nat) (cp : Option Addr) (len C base : Nat) (tv : Value) (m : Mch) (x : Bool) (c : Cd) (w : World) (hlC : len ≤ 1099511627776) (h : ThB tb cp len C tv m x w) (ho : w.ownsRow base 38 3 tv m.told.length (toldL m.told)) (h7 : c.d = 6) (hlen : m.told.length < 8589934592) (hbase : base ≤ w.heap.size) :
 Calls Try.prog 44 #[.pointer (some ⟨tb, 0, none⟩), cdV c] w fun e w' => RownPost tb cp len C base tv m (ownR len c m) x w e w' := by
 obtain ⟨d, r, a, b, v⟩ := c
 simp only at h7
 subst h7
 have htb := zq4 h.hm
 have h1 := h.al (.cells #[.int .i64 6, .int .i64 r, .int .i64 a, .int .i64 b, .int .i64 v] 71)
 have hR := (Rest1.refl tb w).al (.cells #[.int .i64 6, .int .i64 r, .int .i64 a, .int .i64 b, .int .i64 v] 71)
 have hB := al_new w (.cells #[.int .i64 6, .int .i64 r, .int .i64 a, .int .i64 b, .int .i64 v] 71)
 have hs : ownR len ⟨6, r, a, b, v⟩ m = ({ m.on with told := m.told ++ [m.regs (ix r)] } : Mch) := by simp [ownR, ownC]
 rw [hs]
 have hout := And.intro ho (own_ne ho h.hm (by decide))
 unfold RownPost
 clear h ho hs
 unfold cdV
 go_enter Try.func44, Try.ntmps44
 obtain ⟨w1, hw1⟩ : ∃ w1, w.alloc (.cells #[.int .i64 6, .int .i64 r, .int .i64 a, .int .i64 b, .int .i64 v] 71) = w1 := ⟨_, rfl⟩
 rw [hw1] at h1 hR hB
 obtain ⟨B0, hB0⟩ : ∃ B0, w.heap.size = B0 := ⟨_, rfl⟩
 rw [hB0] at hB htb
 have cn := h1.cn
 have c0 := h1.c0
 have cra := h1.cr (ix_lt a)
 have crb := h1.cr (ix_lt b)
 have fz1 := h1.fm 1
 have b0 : w1.cell? ⟨B0, 0, none⟩ = some (.int .i64 6) := (zq0 hB).trans rfl
 have b1 : w1.cell? ⟨B0, 1, none⟩ = some (.int .i64 r) := (zq0 hB).trans rfl
 have b2 : w1.cell? ⟨B0, 2, none⟩ = some (.int .i64 a) := (zq0 hB).trans rfl
 have b3 : w1.cell? ⟨B0, 3, none⟩ = some (.int .i64 b) := (zq0 hB).trans rfl
 have b4 : w1.cell? ⟨B0, 4, none⟩ = some (.int .i64 v) := (zq0 hB).trans rfl
 obtain ⟨y, hy⟩ : ∃ y, m.regs (ix a) = y := ⟨_, rfl⟩
 obtain ⟨z, hz⟩ : ∃ z, m.regs (ix b) = z := ⟨_, rfl⟩
 rw [hy] at cra
 rw [hz] at crb
 try rw [hy] at hyz
 try rw [hz] at hyz
 have H1 := Lib.hid h1
 have HR := Lib.hid hR
 have HO := Lib.hid hout
 clear h1 hR hB hout
 obtain ⟨ir, hir⟩ : ∃ q, ix r = q := ⟨_, rfl⟩
 obtain ⟨ia, hia⟩ : ∃ q, ix a = q := ⟨_, rfl⟩
 obtain ⟨ib, hib⟩ : ∃ q, ix b = q := ⟨_, rfl⟩
 have lr := ix_lt r
 have la := ix_lt a
 have lb := ix_lt b
 have regr : ∀ w, Calls Try.prog 45 #[.int .i64 r] w fun e w' => e = .returned (.int .i64 (ix r)) ∧ w' = w := fun w => reg_lone r w
 have rega : ∀ w, Calls Try.prog 45 #[.int .i64 a] w fun e w' => e = .returned (.int .i64 (ix a)) ∧ w' = w := fun w => reg_lone a w
 have regb : ∀ w, Calls Try.prog 45 #[.int .i64 b] w fun e w' => e = .returned (.int .i64 (ix b)) ∧ w' = w := fun w => reg_lone b w
 rw [hia] at cra la rega
 rw [hib] at crb lb regb
 rw [hir] at lr regr
 have HI := Lib.hid (And.intro hir (And.intro hia hib))
 clear hir hia hib
 have lr0 : (0 : Int) ≤ ir := by omega
 have la0 : (0 : Int) ≤ ia := by omega
 have lb0 : (0 : Int) ≤ ib := by omega
 have lr4 : (ir : Int) < 4 := by omega
 have la4 : (ia : Int) < 4 := by omega
 have lb4 : (ib : Int) < 4 := by omega
 have i1 : ¬ (2 + ia = 1) := by omega
 have i2 : ¬ (1 = 2 + ia) := by omega
 have i3 : ¬ (2 + ib = 1) := by omega
 have i4 : ¬ (1 = 2 + ib) := by omega
 have hB1 : ¬ (tb = B0) := by omega
 have hB2 : ¬ (B0 = tb) := by omega
 have HS := Lib.hid hB0
 go_wp2_with (fail)
 refine Calls.mono (regr _) ?_
 rintro e w' ⟨rfl, rfl⟩
 have H2 := H1.out.setN (wrap64 (m.next + 1))
 have R2 := Rest1.setM HR.out 1 (.int .i64 (wrap64 (m.next + 1)))
 have up : ∀ o, (w1.setCell ⟨tb, 1, none⟩ (.int .i64 (wrap64 (m.next + 1)))).cell? ⟨B0, o, none⟩ = w1.cell? ⟨B0, o, none⟩ := fun o => zqf (zq3 _ _ _ _ hB2)
 have d0 := (up 0).trans b0
 have d1 := (up 1).trans b1
 have d2 := (up 2).trans b2
 have d3 := (up 3).trans b3
 have d4 := (up 4).trans b4
 clear up b0 b1 b2 b3 b4 cra crb cn c0 fz1 hw1
 generalize (w1.setCell ⟨tb, 1, none⟩ (.int .i64 (wrap64 (m.next + 1)))) = w2 at *
 have cra : w2.cell? ⟨tb, 2 + ia, none⟩ = some (.int .i64 y) := by have := H2.cr (ix_lt a); rw [HI.out.2.1, show ({ m with next := wrap64 (m.next + 1) } : Mch).regs = m.regs from rfl] at this; rw [this, ← HI.out.2.1, hy]
 have crb : w2.cell? ⟨tb, 2 + ib, none⟩ = some (.int .i64 z) := by have := H2.cr (ix_lt b); rw [HI.out.2.2, show ({ m with next := wrap64 (m.next + 1) } : Mch).regs = m.regs from rfl] at this; rw [this, ← HI.out.2.2, hz]
 have crr : ∃ q, w2.cell? ⟨tb, 2 + ir, none⟩ = some (.int .i64 q) ∧ q = m.regs (ix r) := by have := H2.cr (ix_lt r); exact ⟨_, by rw [← HI.out.1]; exact this, rfl⟩
 obtain ⟨q, crr, hq⟩ := crr
 have HQ := Lib.hid hq
 clear hq
 have c0 := H2.c0
 have cn := H2.cn
 have fzr := H2.fm (2 + ir)
 have fz1 := H2.fm 1
 have H3 := Lib.hid H2
 have R3 := Lib.hid R2
 clear H2 R2
 go_wp2_with (fail)
 go_quiet (first | (go_at_call 45; exact Calls.quiet_of_same (rega _)))
 replace d0 : (w2.drewN nq).cell? ⟨B0, 0, none⟩ = _ := d0
 replace d1 : (w2.drewN nq).cell? ⟨B0, 1, none⟩ = _ := d1
 replace d2 : (w2.drewN nq).cell? ⟨B0, 2, none⟩ = _ := d2
 replace d3 : (w2.drewN nq).cell? ⟨B0, 3, none⟩ = _ := d3
 replace d4 : (w2.drewN nq).cell? ⟨B0, 4, none⟩ = _ := d4
 replace cra : (w2.drewN nq).cell? ⟨tb, 2 + ia, none⟩ = _ := cra
 replace crb : (w2.drewN nq).cell? ⟨tb, 2 + ib, none⟩ = _ := crb
 replace crr : (w2.drewN nq).cell? ⟨tb, 2 + ir, none⟩ = _ := crr
 replace c0 : (w2.drewN nq).cell? ⟨tb, 0, none⟩ = _ := c0
 replace cn : (w2.drewN nq).cell? ⟨tb, 1, none⟩ = _ := cn
 replace fzr : (w2.drewN nq).frozen? ⟨tb, 2 + ir, none⟩ = false := fzr
 replace fz1 : (w2.drewN nq).frozen? ⟨tb, 1, none⟩ = false := fz1
 replace H3 := Lib.hid (H3.out.same (w' := w2.drewN nq) rfl)
 replace R3 := Lib.hid (R3.out.drew nq)
 generalize w2.drewN nq = w3 at *
 go_wp2_with (fail)
 go_quiet (first | (go_at_call 45; exact Calls.quiet_of_same (regb _)))
 replace d0 : (w3.drewN nq).cell? ⟨B0, 0, none⟩ = _ := d0
 replace d1 : (w3.drewN nq).cell? ⟨B0, 1, none⟩ = _ := d1
 replace d2 : (w3.drewN nq).cell? ⟨B0, 2, none⟩ = _ := d2
 replace d3 : (w3.drewN nq).cell? ⟨B0, 3, none⟩ = _ := d3
 replace d4 : (w3.drewN nq).cell? ⟨B0, 4, none⟩ = _ := d4
 replace cra : (w3.drewN nq).cell? ⟨tb, 2 + ia, none⟩ = _ := cra
 replace crb : (w3.drewN nq).cell? ⟨tb, 2 + ib, none⟩ = _ := crb
 replace crr : (w3.drewN nq).cell? ⟨tb, 2 + ir, none⟩ = _ := crr
 replace c0 : (w3.drewN nq).cell? ⟨tb, 0, none⟩ = _ := c0
 replace cn : (w3.drewN nq).cell? ⟨tb, 1, none⟩ = _ := cn
 replace fzr : (w3.drewN nq).frozen? ⟨tb, 2 + ir, none⟩ = false := fzr
 replace fz1 : (w3.drewN nq).frozen? ⟨tb, 1, none⟩ = false := fz1
 replace H3 := Lib.hid (H3.out.same (w' := w3.drewN nq) rfl)
 replace R3 := Lib.hid (R3.out.drew nq)
 generalize w3.drewN nq = w4 at *
 go_wp2_with (fail)
 obtain ⟨H, hH⟩ : ∃ H, w4.heap.size = H := ⟨_, rfl⟩
 have ct := H3.out.ct
 obtain ⟨ti, hti, hz0, hz1, hz2⟩ : ∃ ti, Try.prog.info? 38 = some ti ∧ ti.zero = some (.agg #[.bool false, .int .i64 0, .slice none 0 0]) ∧ ti.size = 3 ∧ ti.bytes = 40 := ⟨_, rfl, rfl, rfl, rfl⟩
 have hfar := HO.out.2
 have R4 := (R3.out.drew 1).al (.cells #[.bool true, .int .i64 q, .slice none 0 0] 38)
 have hrow : ((w4.drewN 1).alloc (.cells #[.bool true, .int .i64 q, .slice none 0 0] 38)).ownsRow base 38 3 tv m.told.length (toldL m.told) := zqd HO.out.1 fun g hg => R4.old g (own_lt HO.out.1 hg).2.2 fun e => HO.out.2 (by rw [hg, e])
 have hn4 := al_new (w4.drewN 1) (.cells #[.bool true, .int .i64 q, .slice none 0 0] 38)
 obtain ⟨g, cap, w5, hrun, hown, hgrow, hat, hlt5⟩ := run_append_lies (P := Try.prog) ((w4.drewN 1).alloc (.cells #[.bool true, .int .i64 q, .slice none 0 0] 38)) 36 36 base 38 ti (.agg #[.bool false, .int .i64 0, .slice none 0 0]) 3 40 (by kernel_rfl) hti hz0 hz1 hz2 (by rfl) (by decide) tv m.told.length (toldL m.told) hrow ⟨H, 0, none⟩ 1 1 [.bool true, .int .i64 q, .slice none 0 0] rfl (World.news_of_block (by rw [← hH]; exact hn4)) (by simp [Value.oneCell']) (by decide) (by simp only [maxLen]; omega) (by omega) (by have := R4.size; omega) _ rfl
 have ht : tb < ((w4.drewN 1).alloc (.cells #[.bool true, .int .i64 q, .slice none 0 0] 38)).heap.size := by have := R4.size; omega
 have h5tb : w5.heap[tb]? = w4.heap[tb]? := (hgrow.block tb ht (fun e => hfar e.symm)).trans (by rw [zqa, if_neg (by show tb ≠ w4.heap.size; have := zq4 H3.out.hm; omega)]; rfl)
 have H5 := H3.out.same h5tb
 have hct5 : ∀ W, W = w4.drewN 1 ∨ W = (w4.drewN 1).alloc (.cells #[.bool true, .int .i64 q, .slice none 0 0] 38) ∨ W = w5 → ∀ o v, w4.cell? ⟨tb, o, none⟩ = some v → W.cell? ⟨tb, o, none⟩ = some v := by
  rintro W (rfl | rfl | rfl) o v hv
  · exact hv
  · exact (zqf (by rw [zqa, if_neg (by show tb ≠ w4.heap.size; have := zq4 H3.out.hm; omega)]; rfl)).trans hv
  · exact (zqf h5tb).trans hv
 refine wp_region_two (k := 14) (s := 12) (t := 13) (W0 := w4.drewN 1) (W1 := (w4.drewN 1).alloc (.cells #[.bool true, .int .i64 q, .slice none 0 0] 38)) (W2 := w5) (by kernel_rfl) (by kernel_rfl) (by kernel_rfl) (by kernel_rfl) (by decide) (by decide) (by decide) (by kernel_rfl)
  [.pointer (some ⟨tb, 0, none⟩), .pointer (some ⟨tb, 0, none⟩), .pointer (some ⟨tb, 0, none⟩), .pointer (some ⟨tb, 6, none⟩), tv, .pointer (some ⟨tb, 0, none⟩), .int .i64 ir, .pointer (some ⟨tb, 0, none⟩), .pointer (some ⟨tb, 2, none⟩), .pointer (some ⟨tb, 2 + ir, none⟩), .int .i64 q, .agg #[.bool true, .int .i64 q, .slice none 0 0], .slice (some ⟨H, 0, none⟩) 1 1, .slice (some ⟨g, 0, none⟩) (m.told.length + 1) cap] rfl rfl ?_ ?_ ?_ ?_
 · intro i o hi his hit ho W hWW
   replace ct := hct5 W hWW _ _ ct
   replace crr := hct5 W hWW _ _ crr
   clear hWW hct5 d0 d1 d2 d3 d4 cra crb c0 cn
   simp only [putv, dstOf, al_gl, al_g0, al_g1, al_ob, al_g2, List.set_cons_succ, List.set_cons_zero]
   obtain rfl | rfl | rfl | rfl | rfl | rfl | rfl | rfl | rfl | rfl | rfl | rfl : i = 0 ∨ i = 1 ∨ i = 2 ∨ i = 3 ∨ i = 4 ∨ i = 5 ∨ i = 6 ∨ i = 7 ∨ i = 8 ∨ i = 9 ∨ i = 10 ∨ i = 11 := by omega
   all_goals (simp only [al_gl, al_g0, al_g1, al_oi] at ho; subst ho; refine .inl ?_)
   all_goals (simp only [execOp, Act.eval, al_gd, al_gl, al_g0, al_g1, al_od])
   all_goals (try go_simp)
 · intro o ho
   simp only [putv, dstOf, al_gl, al_g0, al_g1, al_ob, al_g2, List.set_cons_succ, List.set_cons_zero]
   simp only [al_gl, al_g0, al_g1, al_oi] at ho; subst ho; refine .inl ?_
   simp only [execOp, Act.eval, al_gd, al_gl, al_g0, al_g1, al_od]
   go_simp
 · intro o ho
   simp only [putv, dstOf, al_gl, al_g0, al_g1, al_ob, al_g2, List.set_cons_succ, List.set_cons_zero]
   simp only [al_gl, al_g0, al_g1, al_oi] at ho; subst ho; refine .inl ?_
   unfold execOp
   simp only [resolve, invoke, builtin, Sem.run_bind, Sem.run_pure, Result.andThen_ok, List.map_toArray, List.map_cons, List.map_nil, Act.eval, al_gd, al_gl, al_g0, al_g1, al_od, hrun]
   rfl
 simp only [putv, dstOf, al_gl, al_g0, al_g1, al_ob, al_g2, List.set_cons_succ, List.set_cons_zero]
 have ct5 := H5.ct
 have fz6 := H5.fm 6
 have H6 := Lib.hid H5
 have HA := Lib.hid (And.intro hown (And.intro hgrow (And.intro hat (And.intro hlt5 R4))))
 clear H5 hown hgrow hat hlt5 hrow hn4 R4 hti hz0 hz1 hz2 hfar ht hct5 hrun h5tb
 refine wpAny_one (i := 14) (by kernel_rfl) ?_
 simp only [wpOp, al_gl, al_g0, al_g1]
 rw [if_pos (by rfl)]
 refine .inl ?_
 go_simp
 refine wpAny_one (i := 15) (by kernel_rfl) ?_
 simp only [wpOp, al_gl, al_g0, al_g1]
 rw [if_pos (by rfl)]
 refine .inl ?_
 go_simp
 refine wpAny_one (i := 16) (by kernel_rfl) ?_
 simp only [wpOp, al_gl, al_g0, al_g1]
 rw [if_pos (by rfl)]
 refine .inl ?_
 go_simp
 refine wpAny_end (by kernel_rfl) ?_
 clear ct5 fz6
 go_wp2
 go_end0
 obtain ⟨hown, hgrow, hat, hlt5, R4⟩ := HA.out
 have hq := HQ.out
 have H7 := H6.out.setT (.slice (some ⟨g, 0, none⟩) (m.told.length + 1) cap)
 rw [wrap64_eq] at H7
 have hs4 := R4.size
 have hfar7 : g ≠ tb := fun e => by subst e; exact absurd (own_ne hown H6.out.hm (by decide)) (by simp [Value.ownBlock])
 refine ⟨rfl, .slice (some ⟨g, 0, none⟩) (m.told.length + 1) cap, ⟨H7.hm⟩, ?_, ⟨?_, fun b hb hm hrow => ?_⟩, fun g' hg' => ?_⟩
 · refine zqd (w := w5) ?_ fun g' hg' => zq3 _ _ _ _ (fun e => hfar7 (by simp only [Value.ownBlock, al_oi] at hg'; rw [hg']; exact e))
   show w5.ownsRow base _ 3 _ (m.told ++ [m.regs (ix r)]).length (toldL (m.told ++ [m.regs (ix r)]))
   rw [← hq]
   simpa [toldL] using hown
 · rw [zqi]; exact Nat.le_trans R4.size hgrow.size
 · rw [zq3 _ _ _ _ hm]
   exact (hgrow.block b (Nat.lt_of_lt_of_le hb R4.size) (fun e => hrow e.symm)).trans (R4.old b hb hm)
 · simp only [Value.ownBlock, al_oi] at hg'
   subst hg'
   rcases hat with h | h
   · exact .inl h
   · right; rw [h]; exact R4.size
theorem rown_lone (tb : Nat) (cp : Option Addr) (len C base : Nat) (tv : Value) (m : Mch) (x : Bool) (c : Cd) (w : World) (hlC : len ≤ 1099511627776) (h : ThB tb cp len C tv m x w) (ho : w.ownsRow base 38 3 tv m.told.length (toldL m.told)) (hlen : m.told.length < 8589934592) (hbase : base ≤ w.heap.size) :
 Calls Try.prog 44 #[.pointer (some ⟨tb, 0, none⟩), cdV c] w fun e w' => RownPost tb cp len C base tv m (ownR len c m) x w e w' := by
 by_cases h6 : c.d = 6
 · exact rown_tell tb cp len C base tv m x c w hlC h ho h6 hlen hbase
 exact rown_plain tb cp len C base tv m x c w hlC h ho h6
structure GoI (tb : Nat) (cp : Option Addr) (len C base : Nat) (pr : List Cd) (W : Nat) (tv0 : Value) (m0 : Mch) (w : World) (j : Nat) (tv : Value) (m : Mch) (wr : World) : Prop where
 b : ThB tb cp len C tv m false wr
 row : wr.ownsRow base 38 3 tv m.told.length (toldL m.told)
 rest : OwnRest tb tv0.ownBlock w wr
 own : ∀ g, tv.ownBlock = some g → tv0.ownBlock = some g ∨ w.heap.size ≤ g
 told : m.told.length ≤ m0.told.length + j
 go : goR pr W (4096 - j) m = goR pr W 4096 m0
def RgoPost (tb : Nat) (cp : Option Addr) (len C base : Nat) (tv0 : Value) (r : Mch × Bool) (w : World) (e : Ending) (w' : World) : Prop :=
 e = .returned (.tuple #[]) ∧ ∃ tv, ThB tb cp len C tv r.1 (!r.2) w' ∧ w'.ownsRow base 38 3 tv r.1.told.length (toldL r.1.told) ∧ OwnRest tb tv0.ownBlock w w' ∧ ∀ g, tv.ownBlock = some g → tv0.ownBlock = some g ∨ w.heap.size ≤ g
section
variable {tb : Nat} {cp : Option Addr} {len C base W : Nat} {pr : List Cd} {tv0 tv : Value} {m0 m : Mch} {w wr : World} {j : Nat}
theorem GoI.below (h : GoI tb cp len C base pr W tv0 m0 w j tv m wr) (ho : w.ownsRow base 38 3 tv0 m0.told.length (toldL m0.told)) (htb : base ≤ tb) (hbase : base ≤ w.heap.size) : ∀ b, b < base → wr.heap[b]? = w.heap[b]? := fun b hb =>
 h.rest.old b (by omega) (by omega) fun e => by have := (own_lt ho e).2.1; omega
theorem GoI.beyond (h : GoI tb cp len C base pr W tv0 m0 w j tv m wr) {w2 : World} (hb : Beyond wr w2) : GoI tb cp len C base pr W tv0 m0 w j tv m w2 := by
 refine ⟨⟨hb.heap h.b.hm⟩, zqd h.row fun g hg => hb.2 g (own_lt h.row hg).2.2, ⟨Nat.le_trans h.rest.size hb.1, fun b hlt h1 h2 => ?_⟩, h.own, h.told, h.go⟩
 rw [hb.2 b (Nat.lt_of_lt_of_le hlt h.rest.size)]
 exact h.rest.old b hlt h1 h2
theorem GoI.ended (h : GoI tb cp len C base pr W tv0 m0 w j tv m wr) (ht : base ≤ tb) (he : goR pr W (4096 - j) m = (m, false)) : RgoPost tb cp len C base tv0 (goR pr W 4096 m0) w (.returned (.tuple #[])) (wr.setCell ⟨tb, 7, none⟩ (.bool true)) := by
 rw [← h.go, he]
 refine ⟨rfl, tv, h.b.setE true, zqd h.row fun g hg => zq3 _ _ _ _ fun e => own_ne h.row h.b.hm (by decide) (by rw [hg, show g = tb from e]), ⟨by rw [zqi]; exact h.rest.size, fun b hb h1 h2 => (zq3 _ _ _ _ h1).trans (h.rest.old b hb h1 h2)⟩, h.own⟩
theorem GoI.stop (h : GoI tb cp len C base pr W tv0 m0 w j tv m wr) (he : goR pr W (4096 - j) m = (m, true)) : RgoPost tb cp len C base tv0 (goR pr W 4096 m0) w (.returned (.tuple #[])) wr := by
 rw [← h.go, he]
 exact ⟨rfl, tv, h.b, h.row, h.rest, h.own⟩
theorem GoI.next (h : GoI tb cp len C base pr W tv0 m0 w j tv m wr) (hj : j < 4096) {c : Cd} (hc : atC pr m = some c) (hs : isStep W c = false) (hl : pr.length = len) {e : Ending} {w' : World} (hp : RownPost tb cp len C base tv m (ownR len c m) false wr e w') : e = .returned (.tuple #[]) ∧ ∃ tv', GoI tb cp len C base pr W tv0 m0 w (j + 1) tv' (ownR len c m) w' := by
 obtain ⟨he, tv', h1, h2, h3, h4⟩ := hp
 refine ⟨he, tv', h1, h2, ⟨Nat.le_trans h.rest.size h3.size, fun b hb hb1 hb2 => ?_⟩, fun g hg => ?_, ?_, ?_⟩
 · by_cases ht : tv.ownBlock = some b
   · rcases h.own b ht with h5 | h5
     · exact absurd h5 hb2
     · omega
   · rw [h3.old b (Nat.lt_of_lt_of_le hb h.rest.size) hb1 ht]; exact h.rest.old b hb hb1 hb2
 · rcases h4 g hg with h5 | h5
   · exact h.own g h5
   · right; exact Nat.le_trans h.rest.size h5
 · have := ownR_told len c m; have := h.told; omega
 · rw [← h.go]
   have e1 : 4096 - j = (4096 - (j + 1)) + 1 := by omega
   rw [e1]
   conv => rhs; unfold goR
   rw [hc]
   simp only [hs, Bool.false_eq_true, if_false, hl]
end
theorem goR_out {pr : List Cd} {W k : Nat} {m : Mch} (h : atC pr m = none) : goR pr W k m = (m, false) := by
 cases k <;> (unfold goR; rw [h])
theorem goR_stand {pr : List Cd} {W k : Nat} {m : Mch} {c : Cd} (h : atC pr m = some c) (hs : isStep W c = true) : goR pr W k m = (m, true) := by
 cases k <;> (unfold goR; rw [h]; simp only [hs, if_true])
theorem goR_tired {pr : List Cd} {W : Nat} {m : Mch} {c : Cd} (h : atC pr m = some c) (hs : isStep W c = false) : goR pr W 0 m = (m, false) := by
 unfold goR; rw [h]; simp only [hs]
theorem rgo_lone {tb : Nat} {cp : Option Addr} {pr : List Cd} {len C base W : Nat} {tv0 : Value} {m0 : Mch} {w : World} (hl : pr.length = len) (hlen : len ≤ 1099511627776) (h : ThB tb cp len C tv0 m0 false w) (ho : w.ownsRow base 38 3 tv0 m0.told.length (toldL m0.told)) (htl : m0.told.length ≤ 4294971392) (htb : base ≤ tb) (hp : CodesAt w base cp pr) :
 Calls Try.prog 28 #[.pointer (some ⟨tb, 0, none⟩), .int .i64 W] w fun e w' => RgoPost tb cp len C base tv0 (goR pr W 4096 m0) w e w' := by
 have hbase : base ≤ w.heap.size := by have := zq4 h.hm; omega
 have hI0 : GoI tb cp len C base pr W tv0 m0 w 0 tv0 m0 w := ⟨h, ho, ⟨Nat.le_refl _, fun _ _ _ _ => rfl⟩, fun g hg => .inl hg, Nat.le_refl _, rfl⟩
 have HP := Lib.hid (And.intro hp (And.intro ho hl))
 have HI0 := Lib.hid hI0
 clear hI0 hp ho h hl
 go_enter Try.func28, Try.ntmps28
 go_wp2
 go_loopg [4] 4096 (fun k i wr => ∃ (j : Nat) (tv : Value) (m : Mch), k = 4096 - j ∧ j ≤ 4096 ∧ i = .int .i64 j ∧ GoI tb cp len C base pr W tv0 m0 w j tv m wr)
 case atStart => exact ⟨0, tv0, m0, rfl, by omega, rfl, HI0.out⟩
 case round =>
  obtain ⟨j, tv, m, hk, hj, rfl, hI⟩ := hrel
  have HI := Lib.hid hI
  clear hI
  have c0 := HI.out.b.c0
  have c1 := HI.out.b.cn
  have c7 := HI.out.b.ce
  have z7 := HI.out.b.fm 7
  have e7 : ∀ n, (wr.drewN n).cell? ⟨tb, 7, none⟩ = some (.bool false) := fun n => c7
  by_cases h0 : m.next < 0
  · have hat : atC pr m = none := by unfold atC; rw [if_neg (by omega)]
    have HT := Lib.hid hat
    clear hat
    go_wp2_with (fail)
    go_quiet (fail)
    go_wp2
    go_end0
    exact (HI.out.beyond (Beyond.drew _ _)).ended htb (goR_out HT.out)
  · have h0' : 0 ≤ m.next := by omega
    by_cases h1 : (len : Int) ≤ m.next
    · have hat : atC pr m = none := by unfold atC; rw [if_neg (by rw [HP.out.2.2]; omega)]
      have HT := Lib.hid hat
      clear hat
      go_wp2_with (fail)
      go_quiet (fail)
      go_wp2
      go_end0
      exact (HI.out.beyond (Beyond.drew _ _)).ended htb (goR_out HT.out)
    · have h1' : m.next < (len : Int) := by omega
      obtain ⟨c, hc⟩ : ∃ c, atC pr m = some c := by
       refine ⟨pr[m.next.toNat]'(by rw [HP.out.2.2]; omega), ?_⟩
       unfold atC
       rw [if_pos ⟨h0', by rw [HP.out.2.2]; exact h1'⟩]
       exact List.getElem?_eq_getElem _
      have HC := Lib.hid hc
      clear hc
      go_wp2_with (fail)
      go_quiet (fail)
      go_wp2_with (fail)
      have hb1 : Beyond wr (wr.drewN nq) := Beyond.drew _ _
      refine Calls.mono (stands_lone (base := base) (HI.out.beyond hb1).b HP.out.2.2 hlen (HP.out.1.keep ((HI.out.beyond hb1).below HP.out.2.1 htb hbase)) HC.out) ?_
      rintro e w2 ⟨rfl, hb2⟩
      have HI2 := Lib.hid ((HI.out.beyond hb1).beyond hb2)
      clear hb1 hb2
      have g0 := HI2.out.b.c0
      have g1 := HI2.out.b.cn
      have g7 := HI2.out.b.ce
      have y7 := HI2.out.b.fm 7
      cases hst : isStep W c with
      | true =>
       have HS := Lib.hid hst
       clear hst
       go_wp2
       go_end0
       exact HI2.out.stop (goR_stand HC.out HS.out)
      | false =>
       have HS := Lib.hid hst
       clear hst
       by_cases hj2 : j = 4096
       · subst hj2
         go_wp2
         go_end0
         exact HI2.out.ended htb (goR_tired HC.out HS.out)
       · have hj3 : ¬ ((j : Int) = 4096) := by omega
         go_wp2_with (fail)
         obtain ⟨hq0, hq1, hq2⟩ := atC_in HC.out
         obtain ⟨gb, go, hcp, hgb, hcc⟩ := HP.out.1 (fun e => by rw [e] at hq2; cases hq2)
         subst hcp
         obtain ⟨q, hq⟩ : ∃ q : Nat, m.next = q := ⟨m.next.toNat, by omega⟩
         rw [hq] at hq0 hq1 g1 h1' h0'
         rw [hq, Int.toNat_natCast] at hq2
         have kp := HI2.out.below HP.out.2.1 htb hbase gb hgb
         have e0 : w2.cell? ⟨gb, go + q * 5, none⟩ = some (.int .i64 c.d) := (zqf kp).trans (hcc q c hq2 0 (by omega))
         have e1 : w2.cell? ⟨gb, go + q * 5 + 1, none⟩ = some (.int .i64 c.r) := (zqf kp).trans (hcc q c hq2 1 (by omega))
         have e2 : w2.cell? ⟨gb, go + q * 5 + 2, none⟩ = some (.int .i64 c.a) := (zqf kp).trans (hcc q c hq2 2 (by omega))
         have e3 : w2.cell? ⟨gb, go + q * 5 + 3, none⟩ = some (.int .i64 c.b) := (zqf kp).trans (hcc q c hq2 3 (by omega))
         have e4 : w2.cell? ⟨gb, go + q * 5 + 4, none⟩ = some (.int .i64 c.v) := (zqf kp).trans (hcc q c hq2 4 (by omega))
         have HH := Lib.hid hq
         clear hq hcc hq0 hq1 hq2 kp hgb c0 c1 c7 z7
         refine wp_region_pre (k := 11) (C := fun w' => ∃ n, w' = w2.drewN n) (by kernel_rfl) (by kernel_rfl) (by kernel_rfl) (by kernel_rfl) (by kernel_rfl) ⟨1, rfl⟩ ?_
         simp only [List.take_succ_cons, List.take_zero]
         repeat (quiet_step (fail))
         refine wpQuiet_nil ?_
         rintro w' ⟨nq2, rfl⟩
         refine wpAny_one (i := 11) (by kernel_rfl) ?_
         simp only [wpOp, al_gl, al_g0, al_g1]
         rw [if_pos (by rfl)]
         refine .inl ?_
         go_simp
         have HI3 := Lib.hid (HI2.out.beyond (Beyond.drew w2 nq2))
         have htold : m.told.length < 8589934592 := by have := HI2.out.told; omega
         refine Calls.mono (rown_lone tb (some ⟨gb, go, none⟩) len C base tv m false c (w2.drewN nq2) hlen HI3.out.b HI3.out.row htold (by have := HI3.out.rest.size; omega)) ?_
         rintro e w3 hp
         obtain ⟨rfl, tv', hI4⟩ := HI3.out.next (by omega) HC.out HS.out HP.out.2.2 hp
         clear hp
         have HI4 := Lib.hid hI4
         clear hI4
         refine wpAny_end (by kernel_rfl) ?_
         go_wp2
         go_roundg (4096 - (j + 1))
         case measure => omega
         case rel => exact ⟨j + 1, tv', _, rfl, by omega, by rfl, HI4.out⟩
theorem row_set {w : World} {B g n cap : Nat} {T : TypeId} {xs : List Value} (h : w.ownsRow B T 1 (.slice (some ⟨g, 0, none⟩) n cap) n xs) (i : Nat) (v : Value) : (w.setCell ⟨g, i, none⟩ v).ownsRow B T 1 (.slice (some ⟨g, 0, none⟩) n cap) n (xs.set i v) := by
 refine ⟨by rw [List.length_set]; exact h.1, ?_⟩
 rcases h.2 with ⟨hv, _⟩ | ⟨g2, cap2, cur, hv, h1, h2, h3, h4, h5, h6⟩
 · cases hv
 · cases hv
   refine .inr ⟨g, cap, cur.setIfInBounds i v, rfl, h1, zqh _ _ _ _ h2, h3, h4, by simpa using h5, ?_⟩
   rw [← h6, Array.toList_setIfInBounds, List.take_set]
theorem row_cell {w : World} {B g n cap : Nat} {T : TypeId} {xs : List Value} (h : w.ownsRow B T 1 (.slice (some ⟨g, 0, none⟩) n cap) n xs) {i : Nat} {x : Value} (hx : xs[i]? = some x) : w.cell? ⟨g, i, none⟩ = some x := by
 have hi : i < xs.length := (List.getElem?_eq_some_iff.1 hx).1
 have hl := h.1
 obtain ⟨p, C, e, _, hc⟩ := row_form h
 cases e
 obtain ⟨g2, e2, _, hc⟩ := hc (by omega)
 cases e2
 exact hc i x hx
structure StI (tb : Nat) (cp : Option Addr) (len C base : Nat) (tv : Value) (sb W scap : Nat) (m : Mch) (ws : List Int) (w : World) : Prop where
 b : ThB tb cp len C tv m false w
 row : w.ownsRow base 38 3 tv m.told.length (toldL m.told)
 wrow : w.ownsRow base 2 1 (.slice (some ⟨sb, 0, none⟩) W scap) W (ws.map (Value.int .i64))
 len : ws.length = W
structure RestS (tb sb : Nat) (w w' : World) : Prop where
 size : w.heap.size ≤ w'.heap.size
 old : ∀ b, b < w.heap.size → b ≠ tb → b ≠ sb → w'.heap[b]? = w.heap[b]?
theorem RestS.refl (tb sb : Nat) (w : World) : RestS tb sb w w := ⟨Nat.le_refl _, fun _ _ _ _ => rfl⟩
theorem RestS.al {tb sb : Nat} {w w' : World} (h : RestS tb sb w w') (o : Obj) : RestS tb sb w (w'.alloc o) := ⟨by rw [zq6]; exact Nat.le_succ_of_le h.size, fun b hb h1 h2 => by rw [zqa, if_neg (by have := h.size; omega)]; exact h.old b hb h1 h2⟩
theorem RestS.setT {tb sb : Nat} {w w' : World} (h : RestS tb sb w w') (i : Nat) (v : Value) : RestS tb sb w (w'.setCell ⟨tb, i, none⟩ v) := ⟨by rw [zqi]; exact h.size, fun b hb h1 h2 => (zq3 _ _ _ _ h1).trans (h.old b hb h1 h2)⟩
theorem RestS.setW {tb sb : Nat} {w w' : World} (h : RestS tb sb w w') (i : Nat) (v : Value) : RestS tb sb w (w'.setCell ⟨sb, i, none⟩ v) := ⟨by rw [zqi]; exact h.size, fun b hb h1 h2 => (zq3 _ _ _ _ h2).trans (h.old b hb h1 h2)⟩
theorem RestS.drew {tb sb : Nat} {w w' : World} (h : RestS tb sb w w') (n : Nat) : RestS tb sb w (w'.drewN n) := ⟨h.size, h.old⟩
section
variable {tb : Nat} {cp : Option Addr} {len C base : Nat} {tv : Value} {sb W scap : Nat} {m : Mch} {ws : List Int} {w : World}
theorem StI.sb_ne (h : StI tb cp len C base tv sb W scap m ws w) : sb ≠ tb := fun e => own_ne h.wrow h.b.hm (by decide) (by rw [e]; rfl)
theorem StI.told_tb (h : StI tb cp len C base tv sb W scap m ws w) : tv.ownBlock ≠ some tb := own_ne h.row h.b.hm (by decide)
theorem StI.told_sb (h : StI tb cp len C base tv sb W scap m ws w) : tv.ownBlock ≠ some sb := fun e => by
 obtain ⟨⟨c, hc⟩, _⟩ := own_lt h.wrow (g := sb) rfl
 exact own_ne h.row hc (by decide) e
theorem StI.al (h : StI tb cp len C base tv sb W scap m ws w) (o : Obj) : StI tb cp len C base tv sb W scap m ws (w.alloc o) := ⟨h.b.al o, row_allocK h.row o, row_allocK h.wrow o, h.len⟩
theorem StI.drew (h : StI tb cp len C base tv sb W scap m ws w) (n : Nat) : StI tb cp len C base tv sb W scap m ws (w.drewN n) := ⟨⟨h.b.hm⟩, h.row, h.wrow, h.len⟩
theorem StI.setN (h : StI tb cp len C base tv sb W scap m ws w) (v : Int) : StI tb cp len C base tv sb W scap { m with next := v } ws (w.setCell ⟨tb, 1, none⟩ (.int .i64 v)) :=
 ⟨h.b.setN v, zqd h.row fun g hg => zq3 _ _ _ _ fun e => h.told_tb (by rw [hg, show g = tb from e]), zqd h.wrow fun g hg => zq3 _ _ _ _ fun e => h.sb_ne (by cases hg; exact e), h.len⟩
theorem StI.setR (h : StI tb cp len C base tv sb W scap m ws w) {i : Nat} (hi : i < 4) (v : Int) : StI tb cp len C base tv sb W scap (m.set i v) ws (w.setCell ⟨tb, 2 + i, none⟩ (.int .i64 v)) :=
 ⟨h.b.setR hi v, zqd h.row fun g hg => zq3 _ _ _ _ fun e => h.told_tb (by rw [hg, show g = tb from e]), zqd h.wrow fun g hg => zq3 _ _ _ _ fun e => h.sb_ne (by cases hg; exact e), h.len⟩
theorem StI.setW (h : StI tb cp len C base tv sb W scap m ws w) (i : Nat) (v : Int) : StI tb cp len C base tv sb W scap m (ws.set i v) (w.setCell ⟨sb, i, none⟩ (.int .i64 v)) :=
 ⟨h.b.same (zq3 _ _ _ _ h.sb_ne.symm), zqd h.row fun g hg => zq3 _ _ _ _ fun e => h.told_sb (by rw [hg, show g = sb from e]), by rw [List.map_set]; exact row_set h.wrow i _, by rw [List.length_set]; exact h.len⟩
theorem StI.cw (h : StI tb cp len C base tv sb W scap m ws w) {i : Nat} (hi : i < W) : w.cell? ⟨sb, i, none⟩ = some (.int .i64 (ws.getD i 0)) := row_cell h.wrow (by simp [h.len, hi])
theorem StI.fw (h : StI tb cp len C base tv sb W scap m ws w) (i : Nat) : w.frozen? ⟨sb, i, none⟩ = false := by
 obtain ⟨⟨c, hc⟩, _⟩ := own_lt h.wrow (g := sb) rfl
 exact zqg hc
end
def RstepPost (tb : Nat) (cp : Option Addr) (len C base : Nat) (tv : Value) (sb W scap : Nat) (pr : List Cd) (r : List Int × Mch) (w : World) (e : Ending) (w' : World) : Prop :=
 e = .returned (.tuple #[]) ∧ ∃ tv', ThB tb cp len C tv' (goR pr W 4096 r.2).1 (!(goR pr W 4096 r.2).2) w' ∧ w'.ownsRow base 38 3 tv' (goR pr W 4096 r.2).1.told.length (toldL (goR pr W 4096 r.2).1.told) ∧ w'.ownsRow base 2 1 (.slice (some ⟨sb, 0, none⟩) W scap) W (r.1.map (Value.int .i64)) ∧
  w.heap.size ≤ w'.heap.size ∧ (∀ b, b < w.heap.size → b ≠ tb → b ≠ sb → tv.ownBlock ≠ some b → w'.heap[b]? = w.heap[b]?) ∧ ∀ g, tv'.ownBlock = some g → tv.ownBlock = some g ∨ w.heap.size ≤ g
theorem rstep_end {tb : Nat} {cp : Option Addr} {len C base : Nat} {tv : Value} {sb W scap : Nat} {pr : List Cd} {m : Mch} {ws : List Int} {w w1 : World} (hl : pr.length = len) (hlen : len ≤ 1099511627776) (htl : m.told.length ≤ 4294971392) (htb : base ≤ tb) (hsb : base ≤ sb) (hp : CodesAt w base cp pr) (hbase : base ≤ w.heap.size)
 (h : StI tb cp len C base tv sb W scap m ws w1) (hR : RestS tb sb w w1) :
 Calls Try.prog 28 #[.pointer (some ⟨tb, 0, none⟩), .int .i64 W] w1 fun e w' => RstepPost tb cp len C base tv sb W scap pr (ws, m) w e w' := by
 refine Calls.mono (rgo_lone (base := base) hl hlen h.b h.row htl htb (hp.keep fun b hb => hR.old b (by omega) (by omega) (by omega))) ?_
 rintro e w' ⟨he, tv', h1, h2, h3, h4⟩
 refine ⟨he, tv', h1, h2, ?_, Nat.le_trans hR.size h3.size, fun b hb n1 n2 n3 => ?_, fun g hg => ?_⟩
 · refine zqd h.wrow fun g hg => ?_
   have hlt := (own_lt h.wrow hg).2.2
   cases hg
   exact h3.old sb hlt h.sb_ne h.told_sb
 · rw [h3.old b (Nat.lt_of_lt_of_le hb hR.size) n1 n3]; exact hR.old b hb n1 n2
 · rcases h4 g hg with h5 | h5
   · exact .inl h5
   · right; exact Nat.le_trans hR.size h5
theorem rstep_lone {tb : Nat} {cp : Option Addr} {len C base : Nat} {tv : Value} {sb W scap : Nat} {pr : List Cd} {m : Mch} {ws : List Int} {w : World} {c : Cd} (hl : pr.length = len) (hlen : len ≤ 1099511627776) (hW : W ≤ 1099511627776) (htl : m.told.length ≤ 4294971392) (htb : base ≤ tb) (hsb : base ≤ sb) (hp : CodesAt w base cp pr) (h : StI tb cp len C base tv sb W scap m ws w) (hc : atC pr m = some c) (hs : isStep W c = true) :
 Calls Try.prog 31 #[.pointer (some ⟨tb, 0, none⟩), .slice (some ⟨sb, 0, none⟩) W scap] w fun e w' => RstepPost tb cp len C base tv sb W scap pr (stepC c ws m) w e w' := by
 have hbase : base ≤ w.heap.size := by have := zq4 h.b.hm; omega
 obtain ⟨hq0, hq1, hq2⟩ := atC_in hc
 obtain ⟨gb, go, hcp, hgb, hcc⟩ := hp (fun e => by rw [e] at hq2; cases hq2)
 subst hcp
 obtain ⟨q, hq⟩ : ∃ q : Nat, m.next = q := ⟨m.next.toNat, by omega⟩
 rw [hl] at hq1
 rw [hq] at hq0 hq1
 rw [hq, Int.toNat_natCast] at hq2
 obtain ⟨d, r, a, b, v⟩ := c
 have hd : 7 ≤ d ∧ d ≤ 11 := by
  unfold isStep at hs
  simp only [Bool.and_eq_true, decide_eq_true_eq] at hs
  exact hs.1.1
 have hab : 0 ≤ a ∧ a < (W : Int) := by
  unfold isStep at hs
  simp only [Bool.and_eq_true, decide_eq_true_eq] at hs
  exact ⟨hs.1.2, hs.2⟩
 obtain ⟨ka, rfl⟩ : ∃ ka : Nat, a = ka := ⟨a.toNat, by omega⟩
 have hka : ka < W := by omega
 have ka0 : (0 : Int) ≤ ka := by omega
 have ka1 : (ka : Int) < (W : Int) := by omega
 have e0 : w.cell? ⟨gb, go + q * 5, none⟩ = some (.int .i64 d) := hcc q _ hq2 0 (by omega)
 have e1 : w.cell? ⟨gb, go + q * 5 + 1, none⟩ = some (.int .i64 r) := hcc q _ hq2 1 (by omega)
 have e2 : w.cell? ⟨gb, go + q * 5 + 2, none⟩ = some (.int .i64 ka) := hcc q _ hq2 2 (by omega)
 have e3 : w.cell? ⟨gb, go + q * 5 + 3, none⟩ = some (.int .i64 b) := hcc q _ hq2 3 (by omega)
 have e4 : w.cell? ⟨gb, go + q * 5 + 4, none⟩ = some (.int .i64 v) := hcc q _ hq2 4 (by omega)
 have c0 := h.b.c0
 have c1 := h.b.cn
 rw [hq] at c1
 obtain ⟨B0, hB0⟩ : ∃ B0, w.heap.size = B0 := ⟨_, rfl⟩
 have htB : tb < B0 := by rw [← hB0]; exact zq4 h.b.hm
 have hsB : sb < B0 := by rw [← hB0]; exact (own_lt h.wrow (g := sb) rfl).2.2
 have H0 := Lib.hid h
 have hend : ∀ (ws' : List Int) (m' : Mch) (w1 : World), stepC ⟨d, r, ka, b, v⟩ ws m = (ws', m') → StI tb (some ⟨gb, go, none⟩) len C base tv sb W scap m' ws' w1 → RestS tb sb w w1 → Calls Try.prog 28 #[.pointer (some ⟨tb, 0, none⟩), .int .i64 W] w1 fun e w' => RstepPost tb (some ⟨gb, go, none⟩) len C base tv sb W scap pr (stepC ⟨d, r, ka, b, v⟩ ws m) w e w' := fun ws' m' w1 hst h1 hR => by
  rw [hst]
  refine rstep_end hl hlen ?_ htb hsb hp hbase h1 hR
  have := stepC_told ⟨d, r, ka, b, v⟩ ws m
  rw [hst] at this
  simp only at this
  rw [this]; exact htl
 have HE := Lib.hid hend
 have HM := Lib.hid hq
 clear hend hcc hq2 hp h hc hs hq hgb hab hl
 go_enter Try.func31, Try.ntmps31
 go_wp2_with (fail)
 refine wp_region_one (k := 11) (s := 10) (W0 := w.drewN 1) (W1 := (w.drewN 1).alloc (.cells #[.int .i64 0, .int .i64 0, .int .i64 0, .int .i64 0, .int .i64 0] 71)) (by kernel_rfl) (by kernel_rfl) (by kernel_rfl) (by kernel_rfl) (by decide)
  [.pointer (some ⟨tb, 0, none⟩), .pointer (some ⟨tb, 0, none⟩), .pointer (some ⟨tb, 0, none⟩), .slice (some ⟨gb, go, none⟩) len C, .pointer (some ⟨tb, 0, none⟩), .pointer (some ⟨tb, 0, none⟩), .pointer (some ⟨tb, 1, none⟩), .int .i64 q, .pointer (some ⟨gb, go + q * 5, none⟩), .agg #[.int .i64 d, .int .i64 r, .int .i64 ka, .int .i64 b, .int .i64 v], .pointer (some ⟨B0, 0, none⟩)] rfl rfl ?_ ?_ ?_
 · intro i o hi his ho W' hWW
   have old : ∀ a v, w.cell? a = some v → W'.cell? a = some v := fun ad v hv => by
    have hlt := cell_lt hv
    rcases hWW with rfl | rfl
    · exact hv
    · exact (zqf (by rw [zqa, if_neg (by show ad.block ≠ w.heap.size; omega)]; rfl)).trans hv
   replace c0 := old _ _ c0
   replace c1 := old _ _ c1
   replace e0 := old _ _ e0
   replace e1 := old _ _ e1
   replace e2 := old _ _ e2
   replace e3 := old _ _ e3
   replace e4 := old _ _ e4
   clear hWW old
   simp only [putv, dstOf, al_gl, al_g0, al_g1, al_ob, al_g2, List.set_cons_succ, List.set_cons_zero]
   obtain rfl | rfl | rfl | rfl | rfl | rfl | rfl | rfl | rfl | rfl : i = 0 ∨ i = 1 ∨ i = 2 ∨ i = 3 ∨ i = 4 ∨ i = 5 ∨ i = 6 ∨ i = 7 ∨ i = 8 ∨ i = 9 := by omega
   all_goals (simp only [al_gl, al_g0, al_g1, al_oi] at ho; subst ho; refine .inl ?_)
   all_goals (simp only [execOp, Act.eval, al_gd, al_gl, al_g0, al_g1, al_od])
   all_goals (try go_simp)
 · intro o ho
   simp only [putv, dstOf, al_gl, al_g0, al_g1, al_ob, al_g2, List.set_cons_succ, List.set_cons_zero]
   simp only [al_gl, al_g0, al_g1, al_oi] at ho; subst ho; refine .inl ?_
   simp only [execOp, Act.eval, al_gd, al_gl, al_g0, al_g1, al_od]
   go_simp
 simp only [putv, dstOf, al_gl, al_g0, al_g1, al_ob, al_g2, List.set_cons_succ, List.set_cons_zero]
 refine wpAny_one (i := 11) (by kernel_rfl) ?_
 simp only [wpOp, al_gl, al_g0, al_g1]
 rw [if_pos (by rfl)]
 refine .inl ?_
 go_simp
 refine wpAny_end (by kernel_rfl) ?_
 have H1 := Lib.hid ((H0.out.drew 1).al (.cells #[.int .i64 d, .int .i64 r, .int .i64 ka, .int .i64 b, .int .i64 v] 71))
 have R1 := Lib.hid (((RestS.refl tb sb w).drew 1).al (.cells #[.int .i64 d, .int .i64 r, .int .i64 ka, .int .i64 b, .int .i64 v] 71))
 have hB : ((w.drewN 1).alloc (.cells #[.int .i64 d, .int .i64 r, .int .i64 ka, .int .i64 b, .int .i64 v] 71)).heap[B0]? = some (.cells #[.int .i64 d, .int .i64 r, .int .i64 ka, .int .i64 b, .int .i64 v] 71) := by rw [← hB0]; exact al_new (w.drewN 1) _
 clear c0 c1 e0 e1 e2 e3 e4 hB0
 generalize (w.drewN 1).alloc (.cells #[.int .i64 d, .int .i64 r, .int .i64 ka, .int .i64 b, .int .i64 v] 71) = w1 at *
 have cn1 := H1.out.b.cn
 have fz1 := H1.out.b.fm 1
 have d0 : w1.cell? ⟨B0, 0, none⟩ = some (.int .i64 d) := (zq0 hB).trans rfl
 have d1 : w1.cell? ⟨B0, 1, none⟩ = some (.int .i64 r) := (zq0 hB).trans rfl
 have d2 : w1.cell? ⟨B0, 2, none⟩ = some (.int .i64 ka) := (zq0 hB).trans rfl
 have d3 : w1.cell? ⟨B0, 3, none⟩ = some (.int .i64 b) := (zq0 hB).trans rfl
 have d4 : w1.cell? ⟨B0, 4, none⟩ = some (.int .i64 v) := (zq0 hB).trans rfl
 clear hB
 obtain ⟨ir, hir⟩ : ∃ q, ix r = q := ⟨_, rfl⟩
 obtain ⟨ib, hib⟩ : ∃ q, ix b = q := ⟨_, rfl⟩
 have lr := ix_lt r
 have lb := ix_lt b
 have regr : ∀ w, Calls Try.prog 45 #[.int .i64 r] w fun e w' => e = .returned (.int .i64 (ix r)) ∧ w' = w := fun w => reg_lone r w
 have regb : ∀ w, Calls Try.prog 45 #[.int .i64 b] w fun e w' => e = .returned (.int .i64 (ix b)) ∧ w' = w := fun w => reg_lone b w
 rw [hib] at lb regb
 rw [hir] at lr regr
 have HI := Lib.hid (And.intro hir hib)
 clear hir hib
 have lr0 : (0 : Int) ≤ ir := by omega
 have lb0 : (0 : Int) ≤ ib := by omega
 have lr4 : (ir : Int) < 4 := by omega
 have lb4 : (ib : Int) < 4 := by omega
 have hBt : B0 ≠ tb := by omega
 have hBs : B0 ≠ sb := by omega
 have hsT : ¬ (sb = tb) := H0.out.sb_ne
 have hsT2 : ¬ (tb = sb) := fun e => H0.out.sb_ne e.symm
 have hBt' : ¬ (B0 = tb) := hBt
 have hBt2 : ¬ (tb = B0) := hBt.symm
 have hBs' : ¬ (B0 = sb) := hBs
 have hBs2 : ¬ (sb = B0) := hBs.symm
 go_wp2_with (fail)
 refine Calls.mono (regr _) ?_
 rintro e w' ⟨rfl, rfl⟩
 have HX := H1.out.setN (wrap64 (m.next + 1))
 have RX := RestS.setT R1.out 1 (.int .i64 (wrap64 (m.next + 1)))
 have up : ∀ o, (w1.setCell ⟨tb, 1, none⟩ (.int .i64 (wrap64 (m.next + 1)))).cell? ⟨B0, o, none⟩ = w1.cell? ⟨B0, o, none⟩ := fun o => zqf (zq3 _ _ _ _ hBt)
 replace d0 := (up 0).trans d0
 replace d1 := (up 1).trans d1
 replace d2 := (up 2).trans d2
 replace d3 := (up 3).trans d3
 replace d4 := (up 4).trans d4
 clear up cn1 fz1
 generalize (w1.setCell ⟨tb, 1, none⟩ (.int .i64 (wrap64 (m.next + 1)))) = w2 at *
 have hmon : { m with next := wrap64 (m.next + 1) } = m.on := by unfold Mch.on; rw [wrap64_eq]
 rw [hmon] at HX
 have HY := Lib.hid HX
 have RY := Lib.hid RX
 clear HX RX hmon
 obtain ⟨xr, hxr⟩ : ∃ q, m.on.regs ir = q := ⟨_, rfl⟩
 obtain ⟨xb, hxb⟩ : ∃ q, m.on.regs ib = q := ⟨_, rfl⟩
 obtain ⟨xw, hxw⟩ : ∃ q, ws.getD ka 0 = q := ⟨_, rfl⟩
 have crr := HY.out.b.cr lr
 have crb := HY.out.b.cr lb
 have cw := HY.out.cw hka
 rw [hxr] at crr
 rw [hxb] at crb
 rw [hxw] at cw
 have fzr := HY.out.b.fm (2 + ir)
 have fzw := HY.out.fw ka
 have HV := Lib.hid (And.intro hxr (And.intro hxb hxw))
 clear hxr hxb hxw
 by_cases e7 : d = 7
 · subst e7
   go_wp2_with (fail)
   refine wp_region_pre (k := 10) (C := fun w' => ∃ n, w' = w2.drewN n) (by kernel_rfl) (by kernel_rfl) (by kernel_rfl) (by kernel_rfl) (by kernel_rfl) ⟨1, rfl⟩ ?_
   simp only [List.take_succ_cons, List.take_zero]
   repeat (quiet_step (fail))
   refine wpQuiet_nil ?_
   rintro w' ⟨nq, rfl⟩
   refine wpAny_one (i := 10) (by kernel_rfl) ?_
   simp only [wpOp, al_gl, al_g0, al_g1]
   rw [if_pos (by rfl)]
   refine .inl ?_
   go_simp
   refine wpAny_end (by kernel_rfl) ?_
   go_wp2_with (fail)
   refine Calls.mono (HE.out _ _ _ ?_ ((HY.out.drew nq).setR lr xw) (RestS.setT (RY.out.drew nq) _ _)) ?_
   · obtain ⟨e1, e2, e3⟩ := HV.out; obtain ⟨e4, e5⟩ := HI.out; subst e1 e2 e3 e4 e5; rfl
   rintro e w' ⟨he, hrest⟩
   subst he
   have HF := Lib.hid hrest
   clear hrest
   go_wp2
   go_end0
   exact ⟨rfl, HF.out⟩
 by_cases e8 : d = 8
 · subst e8
   go_wp2_with (fail)
   refine wp_region_pre (k := 10) (C := fun w' => ∃ n, w' = w2.drewN n) (by kernel_rfl) (by kernel_rfl) (by kernel_rfl) (by kernel_rfl) (by kernel_rfl) ⟨1, rfl⟩ ?_
   simp only [List.take_succ_cons, List.take_zero]
   repeat (quiet_step (fail))
   refine wpQuiet_nil ?_
   rintro w' ⟨nq, rfl⟩
   refine wpAny_one (i := 10) (by kernel_rfl) ?_
   simp only [wpOp, al_gl, al_g0, al_g1]
   rw [if_pos (by rfl)]
   refine .inl ?_
   go_simp
   refine wpAny_end (by kernel_rfl) ?_
   go_wp2_with (fail)
   refine Calls.mono (HE.out _ _ _ ?_ ((HY.out.drew nq).setW ka xr) (RestS.setW (RY.out.drew nq) _ _)) ?_
   · obtain ⟨e1, e2, e3⟩ := HV.out; obtain ⟨e4, e5⟩ := HI.out; subst e1 e2 e3 e4 e5; rfl
   rintro e w' ⟨he, hrest⟩
   subst he
   have HF := Lib.hid hrest
   clear hrest
   go_wp2
   go_end0
   exact ⟨rfl, HF.out⟩
 by_cases e9 : d = 9
 · subst e9
   go_wp2_with (fail)
   refine wp_region_pre (k := 12) (C := fun w' => ∃ n, w' = w2.drewN n) (by kernel_rfl) (by kernel_rfl) (by kernel_rfl) (by kernel_rfl) (by kernel_rfl) ⟨1, rfl⟩ ?_
   simp only [List.take_succ_cons, List.take_zero]
   repeat (quiet_step (fail))
   refine wpQuiet_nil ?_
   rintro w' ⟨nq, rfl⟩
   refine wpAny_one (i := 12) (by kernel_rfl) ?_
   simp only [wpOp, al_gl, al_g0, al_g1]
   rw [if_pos (by rfl)]
   refine .inl ?_
   go_simp
   refine wpAny_end (by kernel_rfl) ?_
   have HX := (HY.out.drew nq).setW ka (IntKind.i64.wrap (xw + v))
   have RX := RestS.setW (RY.out.drew nq) ka (.int .i64 (IntKind.i64.wrap (xw + v)))
   have up : ∀ o, (((w2.drewN nq).setCell ⟨sb, ka, none⟩ (.int .i64 (IntKind.i64.wrap (xw + v))))).cell? ⟨B0, o, none⟩ = w2.cell? ⟨B0, o, none⟩ := fun o => zqf (zq3 _ _ _ _ hBs)
   replace d0 := (up 0).trans d0
   replace d1 := (up 1).trans d1
   replace d2 := (up 2).trans d2
   replace d3 := (up 3).trans d3
   replace d4 := (up 4).trans d4
   clear up crr crb cw fzr fzw
   generalize ((w2.drewN nq).setCell ⟨sb, ka, none⟩ (.int .i64 (IntKind.i64.wrap (xw + v)))) = w3 at *
   have HZ := Lib.hid HX
   have RZ := Lib.hid RX
   clear HX RX
   have cw := HZ.out.cw hka
   have gd : (ws.set ka (IntKind.i64.wrap (xw + v))).getD ka 0 = IntKind.i64.wrap (xw + v) := by simp [H0.out.len, hka]
   rw [gd] at cw
   have crr := HZ.out.b.cr lr
   have fzr := HZ.out.b.fm (2 + ir)
   clear gd
   go_wp2_with (fail)
   refine wp_region_pre (k := 10) (C := fun w' => ∃ n, w' = w3.drewN n) (by kernel_rfl) (by kernel_rfl) (by kernel_rfl) (by kernel_rfl) (by kernel_rfl) ⟨1, rfl⟩ ?_
   simp only [List.take_succ_cons, List.take_zero]
   repeat (quiet_step (fail))
   refine wpQuiet_nil ?_
   rintro w' ⟨nq, rfl⟩
   refine wpAny_one (i := 10) (by kernel_rfl) ?_
   simp only [wpOp, al_gl, al_g0, al_g1]
   rw [if_pos (by rfl)]
   refine .inl ?_
   go_simp
   refine wpAny_end (by kernel_rfl) ?_
   go_wp2_with (fail)
   rw [wrap64_eq]
   refine Calls.mono (HE.out _ _ _ ?_ ((HZ.out.drew nq).setR lr (IntKind.i64.wrap (xw + v))) (RestS.setT (RZ.out.drew nq) _ _)) ?_
   · obtain ⟨e1, e2, e3⟩ := HV.out; obtain ⟨e4, e5⟩ := HI.out; subst e1 e2 e3 e4 e5; rfl
   rintro e w' ⟨he, hrest⟩
   subst he
   have HF := Lib.hid hrest
   clear hrest
   go_wp2
   go_end0
   exact ⟨rfl, HF.out⟩
 by_cases e10 : d = 10
 · subst e10
   go_wp2_with (fail)
   refine wp_region_pre (k := 10) (C := fun w' => ∃ n, w' = w2.drewN n) (by kernel_rfl) (by kernel_rfl) (by kernel_rfl) (by kernel_rfl) (by kernel_rfl) ⟨1, rfl⟩ ?_
   simp only [List.take_succ_cons, List.take_zero]
   repeat (quiet_step (fail))
   refine wpQuiet_nil ?_
   rintro w' ⟨nq, rfl⟩
   refine wpAny_one (i := 10) (by kernel_rfl) ?_
   simp only [wpOp, al_gl, al_g0, al_g1]
   rw [if_pos (by rfl)]
   refine .inl ?_
   go_simp
   refine wpAny_end (by kernel_rfl) ?_
   have HX := (HY.out.drew nq).setW ka xr
   have RX := RestS.setW (RY.out.drew nq) ka (.int .i64 xr)
   have up : ∀ o, (((w2.drewN nq).setCell ⟨sb, ka, none⟩ (.int .i64 xr))).cell? ⟨B0, o, none⟩ = w2.cell? ⟨B0, o, none⟩ := fun o => zqf (zq3 _ _ _ _ hBs)
   replace d0 := (up 0).trans d0
   replace d1 := (up 1).trans d1
   replace d2 := (up 2).trans d2
   replace d3 := (up 3).trans d3
   replace d4 := (up 4).trans d4
   clear up crr crb cw fzr fzw
   generalize ((w2.drewN nq).setCell ⟨sb, ka, none⟩ (.int .i64 xr)) = w3 at *
   have HZ := Lib.hid HX
   have RZ := Lib.hid RX
   clear HX RX
   have crr := HZ.out.b.cr lr
   have fzr := HZ.out.b.fm (2 + ir)
   go_wp2_with (fail)
   refine Calls.mono (HE.out _ _ _ ?_ (HZ.out.setR lr xw) (RestS.setT RZ.out _ _)) ?_
   · obtain ⟨e1, e2, e3⟩ := HV.out; obtain ⟨e4, e5⟩ := HI.out; subst e1 e2 e3 e4 e5; rfl
   rintro e w' ⟨he, hrest⟩
   subst he
   have HF := Lib.hid hrest
   clear hrest
   go_wp2
   go_end0
   exact ⟨rfl, HF.out⟩
 obtain rfl : d = 11 := by omega
 by_cases hxx : xw = xb
 · go_wp2_with (fail)
   subst hxx
   go_quiet (first | (go_at_call 45; exact Calls.quiet_of_same (regb _)))
   replace d0 : (w2.drewN nq).cell? ⟨B0, 0, none⟩ = _ := d0
   replace d1 : (w2.drewN nq).cell? ⟨B0, 1, none⟩ = _ := d1
   replace d2 : (w2.drewN nq).cell? ⟨B0, 2, none⟩ = _ := d2
   replace d3 : (w2.drewN nq).cell? ⟨B0, 3, none⟩ = _ := d3
   replace d4 : (w2.drewN nq).cell? ⟨B0, 4, none⟩ = _ := d4
   replace crr : (w2.drewN nq).cell? ⟨tb, 2 + ir, none⟩ = _ := crr
   replace crb : (w2.drewN nq).cell? ⟨tb, 2 + ib, none⟩ = _ := crb
   replace cw : (w2.drewN nq).cell? ⟨sb, ka, none⟩ = _ := cw
   replace fzr : (w2.drewN nq).frozen? ⟨tb, 2 + ir, none⟩ = false := fzr
   replace fzw : (w2.drewN nq).frozen? ⟨sb, ka, none⟩ = false := fzw
   replace HY := Lib.hid (HY.out.drew nq)
   replace RY := Lib.hid (RY.out.drew nq)
   generalize w2.drewN nq = w3 at *
   go_wp2_with (fail)
   refine Calls.mono (HE.out _ _ _ ?_ ((HY.out.setW ka v).setR lr 1) (RestS.setT (RestS.setW RY.out _ _) _ _)) ?_
   · obtain ⟨e1, e2, e3⟩ := HV.out; obtain ⟨e4, e5⟩ := HI.out; subst e4 e5; exact if_pos (e3.trans e2.symm)
   rintro e w' ⟨he, hrest⟩
   subst he
   have HF := Lib.hid hrest
   clear hrest
   go_wp2
   go_end0
   exact ⟨rfl, HF.out⟩
 · go_wp2_with (fail)
   go_quiet (first | (go_at_call 45; exact Calls.quiet_of_same (regb _)))
   replace d0 : (w2.drewN nq).cell? ⟨B0, 0, none⟩ = _ := d0
   replace d1 : (w2.drewN nq).cell? ⟨B0, 1, none⟩ = _ := d1
   replace d2 : (w2.drewN nq).cell? ⟨B0, 2, none⟩ = _ := d2
   replace d3 : (w2.drewN nq).cell? ⟨B0, 3, none⟩ = _ := d3
   replace d4 : (w2.drewN nq).cell? ⟨B0, 4, none⟩ = _ := d4
   replace crr : (w2.drewN nq).cell? ⟨tb, 2 + ir, none⟩ = _ := crr
   replace crb : (w2.drewN nq).cell? ⟨tb, 2 + ib, none⟩ = _ := crb
   replace cw : (w2.drewN nq).cell? ⟨sb, ka, none⟩ = _ := cw
   replace fzr : (w2.drewN nq).frozen? ⟨tb, 2 + ir, none⟩ = false := fzr
   replace fzw : (w2.drewN nq).frozen? ⟨sb, ka, none⟩ = false := fzw
   replace HY := Lib.hid (HY.out.drew nq)
   replace RY := Lib.hid (RY.out.drew nq)
   generalize w2.drewN nq = w3 at *
   go_wp2_with (fail)
   refine Calls.mono (HE.out _ _ _ ?_ (HY.out.setR lr 0) (RestS.setT RY.out _ _)) ?_
   · obtain ⟨e1, e2, e3⟩ := HV.out; obtain ⟨e4, e5⟩ := HI.out; subst e4 e5; exact if_neg (show ¬ (ws.getD ka 0 = m.on.regs (ix b)) from fun e => hxx (e3.symm.trans (e.trans e2)))
   rintro e w' ⟨he, hrest⟩
   subst he
   have HF := Lib.hid hrest
   clear hrest
   go_wp2
   go_end0
   exact ⟨rfl, HF.out⟩
theorem run_copy_ints {P : Program} {w : World} {base : Nat} {t ty e : TypeId} {i : TypeInfo} {z : Value} (ht : P.underlying t = some (.slice e)) (hi : P.info? e = some i) (hz : i.zero = some z) (hsize : i.size = 1) (hby : i.bytes = 8) (hzs : z.cells.size = 1)
 {sv : Value} {l : List Int} (hs : IntsAt w sv l) (hl : l.length ≤ 1099511627776) (hbase : base ≤ w.heap.size) :
 ∃ v w', (Builtin.append_ #[t, t] ty #[.slice none 0 0, sv]).run P w = .ok v w' ∧ w'.ownsRow base e 1 v l.length (l.map (Value.int .i64)) ∧ Beyond w w' ∧ ∀ g, v.ownBlock = some g → g = w.heap.size := by
 obtain ⟨p, C, rfl, hc⟩ := hs
 by_cases hl0 : l = []
 · subst hl0
   cases p with
   | none =>
    refine ⟨.slice none 0 0, w, ?_, World.ownsRow_nil w base e 1, Beyond.refl w, fun g hg => by cases hg⟩
    simp [Builtin.append_, run_underlying ht, sizeOf, typeInfo, hi, Builtin.lenOf, Builtin.firstCells, loadCells, loadCellsFrom]
   | some a =>
    obtain ⟨v, w', h1, h2, h3, h4, h5⟩ := run_append_own_at (P := P) w base t ty e i z 1 8 ht hi hz hsize hby hzs (by decide) (.slice none 0 0) 0 [] (World.ownsRow_nil w base e 1) a 0 C [] rfl (fun j u h => by cases h) (fun u h => by cases h) (by decide) (by decide) hbase
    refine ⟨v, w', h1, h2, ⟨h3.size, fun b hb => h3.block b hb (by simp [Value.ownBlock])⟩, fun g hg => ?_⟩
    rcases h5 with h5 | h5
    · rw [hg] at h5; cases h5
    · rw [hg] at h5; exact Option.some.inj h5
 · obtain ⟨b, o, rfl, hcc⟩ := hc hl0
   obtain ⟨v, w', h1, h2, h3, h4, h5⟩ := run_append_own_at (P := P) w base t ty e i z 1 8 ht hi hz hsize hby hzs (by decide) (.slice none 0 0) 0 [] (World.ownsRow_nil w base e 1) ⟨b, o, none⟩ l.length C (l.map (Value.int .i64)) (by simp) (fun j u h => by
    have hj : j < l.length := by have := (List.getElem?_eq_some_iff.1 h).1; simpa using this
    have := hcc j hj
    rw [List.getElem?_map] at h
    have e2 : l[j]? = some (l.getD j 0) := by simp [hj]
    rw [e2] at h
    cases h
    rw [show (⟨b, o, none⟩ : Addr).add j = ⟨b, o + j, none⟩ from by unfold Addr.add; split <;> simp [*]]; exact this) (fun u h => by obtain ⟨x, _, rfl⟩ := List.mem_map.1 h; rfl) (by simp only [maxLen]; omega) (by omega) hbase
   refine ⟨v, w', h1, by simpa using h2, ⟨h3.size, fun b hb => h3.block b hb (by simp [Value.ownBlock])⟩, fun g hg => ?_⟩
   rcases h5 with h5 | h5
   · rw [hg] at h5; cases h5
   · rw [hg] at h5; exact Option.some.inj h5
theorem wpList_append_run {P : Program} {ops : Array Oper} {rest : List Oper} {o : Oper} {a : Act} {Q : Exit → Act → World → Prop} {w w' : World} {v : Value} (hgd : o.guard = none) (s x : Operand) (t : TypeId)
 (ho : o.op = .call { callee := .builtin .append, args := #[s, x], argTypes := #[t, t] }) (hr : (Builtin.append_ #[t, t] o.type #[a.eval s, a.eval x]).run P w = .ok v w') (h : wpList P ops Q rest (a.put o.dst v) w') : wpList P ops Q (o :: rest) a w :=
 wpList_plain hgd fun _ hK => by
  unfold Oper.wp execOp
  simp only [ho, resolve, invoke, builtin, Sem.run_bind, Sem.run_pure, Result.andThen_ok, List.map_toArray, List.map_cons, List.map_nil, hr]
  exact hK _ _ h
theorem threads_lone (n : Nat) (w : World) (hn : n ≤ 1099511627776) : Calls Try.prog 27 #[.int .i64 n] w fun e w' => e = .returned (.int .i64 (min n 64 : Nat)) ∧ w' = w := by
 go_enter Try.func27, Try.ntmps27
 by_cases h : n ≤ 64
 · have h1 : (n : Int) ≤ 64 := by omega
   have h2 : ((min n 64 : Nat) : Int) = n := by omega
   rw [h2]
   go_wp2
   go_ret
   exact ⟨rfl, rfl⟩
 · have h1 : ¬ (n : Int) ≤ 64 := by omega
   have h2 : ((min n 64 : Nat) : Int) = 64 := by omega
   rw [h2]
   go_wp2
   go_ret
   exact ⟨rfl, rfl⟩
def BoolsAt (w : World) (v : Value) (en : Nat → Bool) (N : Nat) : Prop := ∃ p C, v = .slice p N C ∧ (0 < N → ∃ b o, p = some ⟨b, o, none⟩ ∧ ∀ i, i < N → w.cell? ⟨b, o + i, none⟩ = some (.bool (en i)))
theorem BoolsAt.beyond {w w' : World} {v : Value} {en : Nat → Bool} {N : Nat} (h : BoolsAt w v en N) (hb : Beyond w w') : BoolsAt w' v en N := by
 obtain ⟨p, C, e, h⟩ := h
 refine ⟨p, C, e, fun h0 => ?_⟩
 obtain ⟨b, o, e2, h2⟩ := h h0
 exact ⟨b, o, e2, fun i hi => hb.cell (h2 i hi)⟩
def allB (en : Nat → Bool) (N : Nat) : Bool := (List.range N).all en
theorem allB_iff {en : Nat → Bool} {N : Nat} : allB en N = true ↔ ∀ i, i < N → en i = true := by unfold allB; simp
theorem over_lone {w : World} {v : Value} {en : Nat → Bool} {N : Nat} (hN : N ≤ 1099511627776) (h : BoolsAt w v en N) : Calls Try.prog 32 #[v] w fun e w' => e = .returned (.bool (allB en N)) ∧ w' = w := by
 obtain ⟨p, C, rfl, hc⟩ := h
 have HC := Lib.hid hc
 clear hc
 go_enter Try.func32, Try.ntmps32
 go_wp2
 go_loopg [3] N (fun k i wr => ∃ (j : Nat), k = N - j ∧ j ≤ N ∧ i = .int .i64 j ∧ wr = w ∧ RowKit.Hid (∀ i, i < j → en i = true))
 case atStart => exact ⟨0, rfl, Nat.zero_le _, rfl, rfl, Lib.hid fun i hi => absurd hi (Nat.not_lt_zero _)⟩
 case round =>
  obtain ⟨j, hk, hj, rfl, rfl, hE⟩ := hrel
  by_cases hlt : j < N
  · have hlt' : (j : Int) < (N : Int) := by omega
    have hj0 : (0 : Int) ≤ j := by omega
    obtain ⟨b, o, rfl, h2⟩ := HC.out (by omega)
    have k1 := h2 j hlt
    cases he : en j with
    | true =>
     rw [he] at k1
     have HE := Lib.hid he
     clear h2 he
     go_wp2
     go_roundg (N - (j + 1))
     case measure => omega
     case rel => exact ⟨j + 1, rfl, by omega, rfl, rfl, Lib.hid fun i hi => by
      by_cases e : i = j
      · rw [e]; exact HE.out
      · exact hE.out i (by omega)⟩
    | false =>
     rw [he] at k1
     have HE := Lib.hid he
     clear h2 he
     go_wp2
     go_ret
     refine ⟨?_, rfl⟩
     have : allB en N = false := by
      cases h : allB en N with
      | false => rfl
      | true => have := allB_iff.1 h j hlt; rw [HE.out] at this; cases this
     rw [this]; rfl
  · obtain rfl : N = j := by omega
    go_wp2
    go_ret
    exact ⟨by rw [allB_iff.2 hE.out]; rfl, rfl⟩
structure TrB (ub : Nat) (lv : Value) (most at_ rnd : Nat) (ov : Value) (w : World) : Prop where
 hm : w.heap[ub]? = some (.cells #[lv, .int .i64 most, .int .i64 at_, .int .i64 rnd, ov] 88)
theorem TrB.c0 {ub : Nat} {lv : Value} {most at_ rnd : Nat} {ov : Value} {w : World} (h : TrB ub lv most at_ rnd ov w) : w.cell? ⟨ub, 0, none⟩ = some lv := (zq0 h.hm).trans rfl
theorem TrB.c1 {ub : Nat} {lv : Value} {most at_ rnd : Nat} {ov : Value} {w : World} (h : TrB ub lv most at_ rnd ov w) : w.cell? ⟨ub, 1, none⟩ = some (.int .i64 most) := (zq0 h.hm).trans rfl
theorem TrB.c2 {ub : Nat} {lv : Value} {most at_ rnd : Nat} {ov : Value} {w : World} (h : TrB ub lv most at_ rnd ov w) : w.cell? ⟨ub, 2, none⟩ = some (.int .i64 at_) := (zq0 h.hm).trans rfl
theorem TrB.c3 {ub : Nat} {lv : Value} {most at_ rnd : Nat} {ov : Value} {w : World} (h : TrB ub lv most at_ rnd ov w) : w.cell? ⟨ub, 3, none⟩ = some (.int .i64 rnd) := (zq0 h.hm).trans rfl
theorem TrB.c4 {ub : Nat} {lv : Value} {most at_ rnd : Nat} {ov : Value} {w : World} (h : TrB ub lv most at_ rnd ov w) : w.cell? ⟨ub, 4, none⟩ = some ov := (zq0 h.hm).trans rfl
theorem TrB.fz {ub : Nat} {lv : Value} {most at_ rnd : Nat} {ov : Value} {w : World} (h : TrB ub lv most at_ rnd ov w) (i : Nat) : w.frozen? ⟨ub, i, none⟩ = false := zqg h.hm
theorem TrB.setA {ub : Nat} {lv : Value} {most at_ rnd : Nat} {ov : Value} {w : World} (h : TrB ub lv most at_ rnd ov w) (n : Nat) : TrB ub lv most n rnd ov (w.setCell ⟨ub, 2, none⟩ (.int .i64 n)) := ⟨(zqh _ _ _ _ h.hm).trans rfl⟩
theorem TrB.setR {ub : Nat} {lv : Value} {most at_ rnd : Nat} {ov : Value} {w : World} (h : TrB ub lv most at_ rnd ov w) (n : Nat) : TrB ub lv most at_ n ov (w.setCell ⟨ub, 3, none⟩ (.int .i64 n)) := ⟨(zqh _ _ _ _ h.hm).trans rfl⟩
theorem TrB.setO {ub : Nat} {lv : Value} {most at_ rnd : Nat} {ov : Value} {w : World} (h : TrB ub lv most at_ rnd ov w) (v : Value) : TrB ub lv most at_ rnd v (w.setCell ⟨ub, 4, none⟩ v) := ⟨(zqh _ _ _ _ h.hm).trans rfl⟩
def NewPost (l : List Int) (mo : Int) (w : World) (e : Ending) (w' : World) : Prop := ∃ ub lv, e = .returned (.pointer (some ⟨ub, 0, none⟩)) ∧ TrB ub lv (min mo.toNat 1048576) 0 0 (.slice none 0 0) w' ∧ w'.ownsRow w.heap.size 3 1 lv l.length (l.map (Value.int .i64)) ∧ Beyond w w' ∧ w.heap.size ≤ ub
theorem newturns_lone {w : World} {sv : Value} {l : List Int} {mo : Int} (hl : l.length ≤ 1099511627776) (hs : IntsAt w sv l) :
 Calls Try.prog 29 #[sv, .int .i64 mo] w fun e w' => NewPost l mo w e w' := by
 obtain ⟨v, w1, hrun, hown, hbe, hat⟩ := run_copy_ints (P := Try.prog) (base := w.heap.size) (t := 24) (ty := 24) (e := 3) (i := (Try.prog.info? 3).getD default) (z := .int .i64 0) (by kernel_rfl) (by kernel_rfl) (by kernel_rfl) (by kernel_rfl) (by kernel_rfl) (by rfl) hs hl (Nat.le_refl _)
 obtain ⟨p, C, rfl, _⟩ := hs
 obtain ⟨vp, vn, vc, rfl⟩ := own_slice hown
 have HR := Lib.hid (And.intro hown (And.intro hbe hat))
 clear hown hbe hat
 go_enter Try.func29, Try.ntmps29
 have key : ∀ k : Nat, (min mo.toNat 1048576 = k) → NewPost l mo w (.returned (.pointer (some ⟨w1.heap.size, 0, none⟩))) (w1.alloc (.cells #[.slice vp vn vc, .int .i64 k, .int .i64 0, .int .i64 0, .slice none 0 0] 88)) := fun k hk => by
  subst hk
  exact ⟨_, _, rfl, ⟨al_new _ _⟩, row_allocK HR.out.1 _, HR.out.2.1.trans (Beyond.alloc _ _), HR.out.2.1.1⟩
 have HK := Lib.hid key
 clear key
 by_cases h0 : mo < 0
 · have h0' : ¬ 0 ≤ mo := by omega
   have hz : min mo.toNat 1048576 = 0 := by omega
   have HZ := Lib.hid hz
   clear hz
   go_wp2_with (at_builtin; go_loud (refine wpList_append_run rfl (.tmp 6) (.tmp 7) 24 rfl hrun ?_))
   go_ret
   exact HK.out 0 HZ.out
 · by_cases h1 : mo ≤ 1048576
   · obtain ⟨k, rfl⟩ : ∃ k : Nat, mo = k := ⟨mo.toNat, by omega⟩
     have hz : min (k : Int).toNat 1048576 = k := by omega
     have hk0 : (0 : Int) ≤ k := by omega
     have HZ := Lib.hid hz
     clear hz
     go_wp2_with (at_builtin; go_loud (refine wpList_append_run rfl (.tmp 6) (.tmp 7) 24 rfl hrun ?_))
     go_ret
     exact HK.out k HZ.out
   · have hz : min mo.toNat 1048576 = 1048576 := by omega
     have hk0 : (0 : Int) ≤ mo := by omega
     have HZ := Lib.hid hz
     clear hz
     go_wp2_with (at_builtin; go_loud (refine wpList_append_run rfl (.tmp 6) (.tmp 7) 24 rfl hrun ?_))
     go_ret
     exact HK.out 1048576 HZ.out
end Go.Proofs
