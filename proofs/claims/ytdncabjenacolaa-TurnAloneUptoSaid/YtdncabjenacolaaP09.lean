/- YtdncabjenacolaaTAlone9: part 9 of the proof (the texts behind it, in order). -/
import Derived.Test.YtdncabjenacolaaP08
set_option linter.unusedSimpArgs false
set_option linter.unusedVariables false
set_option linter.unusedSectionVars false
set_option linter.unnecessarySimpa false
set_option maxHeartbeats 4000000
set_option maxRecDepth 100000
namespace Go.Proofs
open Go Go.Conc Go.RowKit Go.Car
theorem wrap64_eq (n : Int) : wrap64 n = IntKind.i64.wrap n := by rw [IntKind.wrap_i64]; simp only [wrap64]
theorem Rest.drew {mb bw : Nat} {w w1 : World} (h : Rest mb bw w w1) (n : Nat) : Rest mb bw w (w1.drewN n) := ⟨h.size, h.old⟩
def cdV (c : Cd) : Value := .agg #[.int .i64 c.d, .int .i64 c.r, .int .i64 c.a, .int .i64 c.b, .int .i64 c.v]
def StepPost (mb bw W : Nat) (tv : Value) (ws : List Int) (m : Mch) (c : Cd) (w : World) (e : Ending) (w' : World) : Prop := e = .returned (.tuple #[]) ∧ MachB mb bw W tv (stepC c ws m).1 (stepC c ws m).2 w' ∧ Rest mb bw w w'
theorem step_load (mb bw W : Nat) (tv : Value) (ws : List Int) (m : Mch) (c : Cd) (w : World) (h : MachB mb bw W tv ws m w) (hc : isStep W c = true) (h7 : c.d = 7) :
 Calls Try.prog 49 #[.pointer (some ⟨mb, 0, none⟩), cdV c] w fun e w' => StepPost mb bw W tv ws m c w e w' := by
 obtain ⟨d, r, a, b, v⟩ := c
 simp only at h7
 subst h7
 have ha : (0 : Int) ≤ a ∧ a < W := by simpa [isStep] using hc
 obtain ⟨ha0, haW⟩ := ha
 have haN : a.toNat < W := by omega
 have hbw := zq4 h.hw
 have hmb := zq4 h.hm
 have h1 := h.al (.cells #[.int .i64 7, .int .i64 r, .int .i64 a, .int .i64 b, .int .i64 v] 74)
 have hR := (Rest.refl mb bw w).al (.cells #[.int .i64 7, .int .i64 r, .int .i64 a, .int .i64 b, .int .i64 v] 74)
 have hB := al_new w (.cells #[.int .i64 7, .int .i64 r, .int .i64 a, .int .i64 b, .int .i64 v] 74)
 have hn := h.ne
 have e6 := wrap64_eq (m.next + 1)
 have ir := ix_lt r
 have hs : stepC ⟨7, r, a, b, v⟩ ws m = (ws, m.on.set (ix r) (ws.getD a.toNat 0)) := by simp [stepC]
 unfold StepPost
 rw [hs]
 clear h hs hc
 unfold cdV
 go_enter Try.func49, Try.ntmps49
 go_wp2
 generalize w.alloc (.cells #[.int .i64 7, .int .i64 r, .int .i64 a, .int .i64 b, .int .i64 v] 74) = w1 at *
 generalize hB0 : w.heap.size = B0 at *
 have c0 := h1.c0
 have cn := h1.cn
 have cr1 := h1.cr ir
 have cwa := h1.cw haN
 have fwa := h1.fw a.toNat
 have fz6 := h1.fm 6
 have fzr := h1.fm (1 + ix r)
 have b0 : w1.cell? ⟨B0, 0, none⟩ = some (.int .i64 7) := (zq1 hB).trans rfl
 have b1 : w1.cell? ⟨B0, 1, none⟩ = some (.int .i64 r) := (zq1 hB).trans rfl
 have b2 : w1.cell? ⟨B0, 2, none⟩ = some (.int .i64 a) := (zq1 hB).trans rfl
 have b3 : w1.cell? ⟨B0, 3, none⟩ = some (.int .i64 b) := (zq1 hB).trans rfl
 have b4 : w1.cell? ⟨B0, 4, none⟩ = some (.int .i64 v) := (zq1 hB).trans rfl
 obtain ⟨x, hx⟩ : ∃ x, ws.getD a.toNat 0 = x := ⟨_, rfl⟩
 obtain ⟨y, hy⟩ : ∃ y, m.regs (ix r) = y := ⟨_, rfl⟩
 rw [hx] at cwa
 rw [hy] at cr1
 try rw [hx]
 try rw [hy]
 have H1 := Lib.hid h1
 have HR := Lib.hid hR
 clear h1 hR hB hB0
 have i6 : ¬ (1 + ix r = 6) := by omega
 have i6' : ¬ (6 = 1 + ix r) := by omega
 clear ir
 have hne' : ¬ (mb = bw) := hn
 have hne2 : ¬ (bw = mb) := fun e => hn e.symm
 have hB1 : ¬ (mb = B0) := by omega
 have hB2 : ¬ (B0 = mb) := by omega
 have hB3 : ¬ (bw = B0) := by omega
 have hB4 : ¬ (B0 = bw) := by omega
 go_quiet (first | (go_at_call 52; refine Calls.quiet_of_same (register_lone _ _ _)))
 go_wp2_with (fail)
 refine Calls.mono (load_lone bw a.toNat x _ ?_) ?_
 · exact (zqe (zqa _ _ _ _ hne2)).trans cwa
 · rintro e w' ⟨rfl, rfl⟩
   go_wp2
   go_end0
   subst hx hy
   refine ⟨rfl, ?_, ?_⟩
   · try simp only [wrap64_eq]
     exact ((H1.out.same (w' := w1.drewN nq) rfl rfl).setN _).setR (ix_lt r) _
   · exact (Rest.setM (Rest.setM (w' := w1.drewN nq) (HR.out.drew nq) _ _) _ _)
theorem step_store (mb bw W : Nat) (tv : Value) (ws : List Int) (m : Mch) (c : Cd) (w : World) (h : MachB mb bw W tv ws m w) (hc : isStep W c = true) (h7 : c.d = 8) :
 Calls Try.prog 49 #[.pointer (some ⟨mb, 0, none⟩), cdV c] w fun e w' => StepPost mb bw W tv ws m c w e w' := by
 obtain ⟨d, r, a, b, v⟩ := c
 simp only at h7
 subst h7
 have ha : (0 : Int) ≤ a ∧ a < W := by simpa [isStep] using hc
 obtain ⟨ha0, haW⟩ := ha
 have haN : a.toNat < W := by omega
 have hbw := zq4 h.hw
 have hmb := zq4 h.hm
 have h1 := h.al (.cells #[.int .i64 8, .int .i64 r, .int .i64 a, .int .i64 b, .int .i64 v] 74)
 have hR := (Rest.refl mb bw w).al (.cells #[.int .i64 8, .int .i64 r, .int .i64 a, .int .i64 b, .int .i64 v] 74)
 have hB := al_new w (.cells #[.int .i64 8, .int .i64 r, .int .i64 a, .int .i64 b, .int .i64 v] 74)
 have hn := h.ne
 have e6 := wrap64_eq (m.next + 1)
 have ir := ix_lt r
 have hs : stepC ⟨8, r, a, b, v⟩ ws m = (ws.set a.toNat (m.regs (ix r)), m.on) := by simp [stepC]
 unfold StepPost
 rw [hs]
 clear h hs hc
 unfold cdV
 go_enter Try.func49, Try.ntmps49
 go_wp2
 generalize w.alloc (.cells #[.int .i64 8, .int .i64 r, .int .i64 a, .int .i64 b, .int .i64 v] 74) = w1 at *
 generalize hB0 : w.heap.size = B0 at *
 have c0 := h1.c0
 have cn := h1.cn
 have cr1 := h1.cr ir
 have cwa := h1.cw haN
 have fwa := h1.fw a.toNat
 have fz6 := h1.fm 6
 have fzr := h1.fm (1 + ix r)
 have b0 : w1.cell? ⟨B0, 0, none⟩ = some (.int .i64 8) := (zq1 hB).trans rfl
 have b1 : w1.cell? ⟨B0, 1, none⟩ = some (.int .i64 r) := (zq1 hB).trans rfl
 have b2 : w1.cell? ⟨B0, 2, none⟩ = some (.int .i64 a) := (zq1 hB).trans rfl
 have b3 : w1.cell? ⟨B0, 3, none⟩ = some (.int .i64 b) := (zq1 hB).trans rfl
 have b4 : w1.cell? ⟨B0, 4, none⟩ = some (.int .i64 v) := (zq1 hB).trans rfl
 obtain ⟨x, hx⟩ : ∃ x, ws.getD a.toNat 0 = x := ⟨_, rfl⟩
 obtain ⟨y, hy⟩ : ∃ y, m.regs (ix r) = y := ⟨_, rfl⟩
 rw [hx] at cwa
 rw [hy] at cr1
 try rw [hx]
 try rw [hy]
 have H1 := Lib.hid h1
 have HR := Lib.hid hR
 clear h1 hR hB hB0
 have i6 : ¬ (1 + ix r = 6) := by omega
 have i6' : ¬ (6 = 1 + ix r) := by omega
 clear ir
 have hne' : ¬ (mb = bw) := hn
 have hne2 : ¬ (bw = mb) := fun e => hn e.symm
 have hB1 : ¬ (mb = B0) := by omega
 have hB2 : ¬ (B0 = mb) := by omega
 have hB3 : ¬ (bw = B0) := by omega
 have hB4 : ¬ (B0 = bw) := by omega
 go_quiet (first | (go_at_call 52; refine Calls.quiet_of_same (register_lone _ _ _)))
 go_wp2_with (fail)
 refine Calls.mono (store_lone bw a.toNat x y _ ?_ ?_) ?_
 · exact (zqe (zqa _ _ _ _ hne2)).trans cwa
 · exact (frozen_of_same (zqa _ _ _ _ hne2)).trans fwa
 · rintro e w' ⟨rfl, rfl⟩
   go_wp2
   go_end0
   subst hx hy
   refine ⟨rfl, ?_, ?_⟩
   · try simp only [wrap64_eq]
     exact ((H1.out.same (w' := w1.drewN nq) rfl rfl).setN _).setW haN _
   · exact (Rest.setW (Rest.setM (w' := w1.drewN nq) (HR.out.drew nq) _ _) _ _)
theorem step_add (mb bw W : Nat) (tv : Value) (ws : List Int) (m : Mch) (c : Cd) (w : World) (h : MachB mb bw W tv ws m w) (hc : isStep W c = true) (h7 : c.d = 9) :
 Calls Try.prog 49 #[.pointer (some ⟨mb, 0, none⟩), cdV c] w fun e w' => StepPost mb bw W tv ws m c w e w' := by
 obtain ⟨d, r, a, b, v⟩ := c
 simp only at h7
 subst h7
 have ha : (0 : Int) ≤ a ∧ a < W := by simpa [isStep] using hc
 obtain ⟨ha0, haW⟩ := ha
 have haN : a.toNat < W := by omega
 have hbw := zq4 h.hw
 have hmb := zq4 h.hm
 have h1 := h.al (.cells #[.int .i64 9, .int .i64 r, .int .i64 a, .int .i64 b, .int .i64 v] 74)
 have hR := (Rest.refl mb bw w).al (.cells #[.int .i64 9, .int .i64 r, .int .i64 a, .int .i64 b, .int .i64 v] 74)
 have hB := al_new w (.cells #[.int .i64 9, .int .i64 r, .int .i64 a, .int .i64 b, .int .i64 v] 74)
 have hn := h.ne
 have e6 := wrap64_eq (m.next + 1)
 have ir := ix_lt r
 have hs : stepC ⟨9, r, a, b, v⟩ ws m = (ws.set a.toNat (IntKind.i64.wrap (ws.getD a.toNat 0 + v)), m.on.set (ix r) (IntKind.i64.wrap (ws.getD a.toNat 0 + v))) := by simp [stepC]
 unfold StepPost
 rw [hs]
 clear h hs hc
 unfold cdV
 go_enter Try.func49, Try.ntmps49
 go_wp2
 generalize w.alloc (.cells #[.int .i64 9, .int .i64 r, .int .i64 a, .int .i64 b, .int .i64 v] 74) = w1 at *
 generalize hB0 : w.heap.size = B0 at *
 have c0 := h1.c0
 have cn := h1.cn
 have cr1 := h1.cr ir
 have cwa := h1.cw haN
 have fwa := h1.fw a.toNat
 have fz6 := h1.fm 6
 have fzr := h1.fm (1 + ix r)
 have b0 : w1.cell? ⟨B0, 0, none⟩ = some (.int .i64 9) := (zq1 hB).trans rfl
 have b1 : w1.cell? ⟨B0, 1, none⟩ = some (.int .i64 r) := (zq1 hB).trans rfl
 have b2 : w1.cell? ⟨B0, 2, none⟩ = some (.int .i64 a) := (zq1 hB).trans rfl
 have b3 : w1.cell? ⟨B0, 3, none⟩ = some (.int .i64 b) := (zq1 hB).trans rfl
 have b4 : w1.cell? ⟨B0, 4, none⟩ = some (.int .i64 v) := (zq1 hB).trans rfl
 obtain ⟨x, hx⟩ : ∃ x, ws.getD a.toNat 0 = x := ⟨_, rfl⟩
 obtain ⟨y, hy⟩ : ∃ y, m.regs (ix r) = y := ⟨_, rfl⟩
 rw [hx] at cwa
 rw [hy] at cr1
 try rw [hx]
 try rw [hy]
 have H1 := Lib.hid h1
 have HR := Lib.hid hR
 clear h1 hR hB hB0
 have i6 : ¬ (1 + ix r = 6) := by omega
 have i6' : ¬ (6 = 1 + ix r) := by omega
 clear ir
 have hne' : ¬ (mb = bw) := hn
 have hne2 : ¬ (bw = mb) := fun e => hn e.symm
 have hB1 : ¬ (mb = B0) := by omega
 have hB2 : ¬ (B0 = mb) := by omega
 have hB3 : ¬ (bw = B0) := by omega
 have hB4 : ¬ (B0 = bw) := by omega
 go_quiet (first | (go_at_call 52; refine Calls.quiet_of_same (register_lone _ _ _)))
 go_wp2_with (fail)
 refine Calls.mono (add_lone bw a.toNat x v _ ?_ ?_) ?_
 · exact (zqe (zqa _ _ _ _ hne2)).trans cwa
 · exact (frozen_of_same (zqa _ _ _ _ hne2)).trans fwa
 · rintro e w' ⟨rfl, rfl⟩
   go_wp2
   go_end0
   subst hx hy
   refine ⟨rfl, ?_, ?_⟩
   · try simp only [wrap64_eq]
     exact (((H1.out.same (w' := w1.drewN nq) rfl rfl).setN _).setW haN _).setR (ix_lt r) _
   · exact (Rest.setM (Rest.setW (Rest.setM (w' := w1.drewN nq) (HR.out.drew nq) _ _) _ _) _ _)
theorem step_swap (mb bw W : Nat) (tv : Value) (ws : List Int) (m : Mch) (c : Cd) (w : World) (h : MachB mb bw W tv ws m w) (hc : isStep W c = true) (h7 : c.d = 10) :
 Calls Try.prog 49 #[.pointer (some ⟨mb, 0, none⟩), cdV c] w fun e w' => StepPost mb bw W tv ws m c w e w' := by
 obtain ⟨d, r, a, b, v⟩ := c
 simp only at h7
 subst h7
 have ha : (0 : Int) ≤ a ∧ a < W := by simpa [isStep] using hc
 obtain ⟨ha0, haW⟩ := ha
 have haN : a.toNat < W := by omega
 have hbw := zq4 h.hw
 have hmb := zq4 h.hm
 have h1 := h.al (.cells #[.int .i64 10, .int .i64 r, .int .i64 a, .int .i64 b, .int .i64 v] 74)
 have hR := (Rest.refl mb bw w).al (.cells #[.int .i64 10, .int .i64 r, .int .i64 a, .int .i64 b, .int .i64 v] 74)
 have hB := al_new w (.cells #[.int .i64 10, .int .i64 r, .int .i64 a, .int .i64 b, .int .i64 v] 74)
 have hn := h.ne
 have e6 := wrap64_eq (m.next + 1)
 have ir := ix_lt r
 have hs : stepC ⟨10, r, a, b, v⟩ ws m = (ws.set a.toNat (m.regs (ix r)), m.on.set (ix r) (ws.getD a.toNat 0)) := by simp [stepC]
 unfold StepPost
 rw [hs]
 clear h hs hc
 unfold cdV
 go_enter Try.func49, Try.ntmps49
 go_wp2
 generalize w.alloc (.cells #[.int .i64 10, .int .i64 r, .int .i64 a, .int .i64 b, .int .i64 v] 74) = w1 at *
 generalize hB0 : w.heap.size = B0 at *
 have c0 := h1.c0
 have cn := h1.cn
 have cr1 := h1.cr ir
 have cwa := h1.cw haN
 have fwa := h1.fw a.toNat
 have fz6 := h1.fm 6
 have fzr := h1.fm (1 + ix r)
 have b0 : w1.cell? ⟨B0, 0, none⟩ = some (.int .i64 10) := (zq1 hB).trans rfl
 have b1 : w1.cell? ⟨B0, 1, none⟩ = some (.int .i64 r) := (zq1 hB).trans rfl
 have b2 : w1.cell? ⟨B0, 2, none⟩ = some (.int .i64 a) := (zq1 hB).trans rfl
 have b3 : w1.cell? ⟨B0, 3, none⟩ = some (.int .i64 b) := (zq1 hB).trans rfl
 have b4 : w1.cell? ⟨B0, 4, none⟩ = some (.int .i64 v) := (zq1 hB).trans rfl
 obtain ⟨x, hx⟩ : ∃ x, ws.getD a.toNat 0 = x := ⟨_, rfl⟩
 obtain ⟨y, hy⟩ : ∃ y, m.regs (ix r) = y := ⟨_, rfl⟩
 rw [hx] at cwa
 rw [hy] at cr1
 try rw [hx]
 try rw [hy]
 have H1 := Lib.hid h1
 have HR := Lib.hid hR
 clear h1 hR hB hB0
 have i6 : ¬ (1 + ix r = 6) := by omega
 have i6' : ¬ (6 = 1 + ix r) := by omega
 clear ir
 have hne' : ¬ (mb = bw) := hn
 have hne2 : ¬ (bw = mb) := fun e => hn e.symm
 have hB1 : ¬ (mb = B0) := by omega
 have hB2 : ¬ (B0 = mb) := by omega
 have hB3 : ¬ (bw = B0) := by omega
 have hB4 : ¬ (B0 = bw) := by omega
 go_quiet (first | (go_at_call 52; refine Calls.quiet_of_same (register_lone _ _ _)))
 go_wp2_with (fail)
 refine Calls.mono (swap_lone bw a.toNat x y _ ?_ ?_) ?_
 · exact (zqe (zqa _ _ _ _ hne2)).trans cwa
 · exact (frozen_of_same (zqa _ _ _ _ hne2)).trans fwa
 · rintro e w' ⟨rfl, rfl⟩
   go_wp2
   go_end0
   subst hx hy
   refine ⟨rfl, ?_, ?_⟩
   · try simp only [wrap64_eq]
     exact (((H1.out.same (w' := w1.drewN nq) rfl rfl).setN _).setW haN _).setR (ix_lt r) _
   · exact (Rest.setM (Rest.setW (Rest.setM (w' := w1.drewN nq) (HR.out.drew nq) _ _) _ _) _ _)
end Go.Proofs
set_option maxHeartbeats 1000000
namespace Go.Car
open Go Go.RowKit
section
variable {P : Program} {md : Region.Mode} {ops : Array Oper} {C : World → Prop}
def Closed (md : Region.Mode) (ops : Array Oper) (listed : Array Bool) : Prop := ∀ i o e, ops[i]? = some o → listed.getD i false = true → e ∈ o.after → Region.binds md e = true → listed.getD e.on false = true
theorem Closed.set {listed : Array Bool} (h : Closed md ops listed) {i : Nat} (hi : i ∈ Region.ready md ops listed) : Closed md ops (listed.setIfInBounds i true) := by
 obtain ⟨hun, o, ho, hall⟩ := mem_ready.1 hi
 intro j oj e hoj hlj he hb
 refine getD_set_true ?_
 by_cases hji : i = j
 · subst hji
   rw [ho] at hoj
   obtain rfl := Option.some.inj hoj
   exact hall e he hb
 · rw [getD_set_ne false hji] at hlj
   exact h j oj e hoj hlj he hb
def AllWait (md : Region.Mode) (ops : Array Oper) (k : Nat) : Prop := ∀ listed, Closed md ops listed → ∀ j, j ∈ Region.ready md ops listed → k ≤ j → ∀ i, i < k → listed.getD i false = true
def wpAnyR (P : Program) (md : Region.Mode) (ops : Array Oper) (k : Nat) (C : World → Prop) (R : Array Bool → Act → Prop) : Nat → Array Bool → Act → Prop
 | 0, listed, a => (∀ i, i < k → listed.getD i false = true) ∧ R listed a
 | fuel + 1, listed, a => (∃ i, i < k ∧ listed.getD i true = false) ∧ ∀ i ∈ Region.ready md ops listed, i < k ∧ qOp P ops C i (wpAnyR P md ops k C R fuel (listed.setIfInBounds i true)) a
theorem wpAny_of_R {k : Nat} {R : Array Bool → Act → Prop} {Q' : Exit → Act → World → Prop} (hw : ∀ listed, (∃ i, i < k ∧ listed.getD i true = false) → ∃ i, i ∈ Region.ready md ops listed) (r : Nat) (hR : ∀ listed a w, C w → R listed a → wpAny P md ops Q' r listed a w) :
 ∀ (fuel : Nat) (listed : Array Bool) (a : Act) (w : World), C w → wpAnyR P md ops k C R fuel listed a → wpAny P md ops Q' (fuel + r) listed a w
 | 0, listed, a, w, hc, h => by rw [Nat.zero_add]; exact hR _ _ _ hc h.2
 | fuel + 1, listed, a, w, hc, h => by
  have e : fuel + 1 + r = (fuel + r) + 1 := by omega
  rw [e]
  refine ⟨fun h0 => ?_, fun i hi => ?_⟩
  · obtain ⟨i, hi⟩ := hw listed h.1
    rw [h0] at hi; cases hi
  · exact wpOp_of_qOp hc (fun a' w' hc' hh => wpAny_of_R hw r hR fuel _ a' w' hc' hh) (h.2 i hi).2
theorem getD_both {l : Array Bool} {i : Nat} (h : l.getD i true = false) (h' : l.getD i false = true) : False := by
 rcases Nat.lt_or_ge i l.size with hl | hl
 · simp [hl] at h h'; rw [h] at h'; cases h'
 · simp [Array.getElem?_eq_none hl] at h'
theorem wpAnyR_first {k : Nat} {R : Array Bool → Act → Prop} {i : Nat} {oi : Oper} {v : Value} (hi : ops[i]? = some oi) (hik : i < k) (hsel : ∀ (j : Nat) (o : Oper) cs b, ops[j]? = some o → o.op ≠ .select cs b) (hAW : AllWait md ops k) :
 ∀ (fuel : Nat) (listed : Array Bool) (a : Act), Closed md ops listed →
  (∀ j oj, ops[j]? = some oj → j < k → j ≠ i → listed.getD j true = false → (∀ e ∈ oj.after, Region.binds md e = true → e.on ≠ i) → oi.apart ops oj = true) →
  i ∈ Region.ready md ops listed → YieldsIn P ops C oi v a →
  wpAnyR P md ops k C R fuel (listed.setIfInBounds i true) (a.put oi.dst v) → wpAnyR P md ops k C R (fuel + 1) listed a := by
 intro fuel
 induction fuel with
 | zero =>
  intro listed a hcl _ hr hy H
  have hun := (mem_ready.1 hr).1
  refine ⟨⟨i, hik, hun⟩, fun j hj => ?_⟩
  have hjk : j < k := by
   rcases Nat.lt_or_ge j k with h | h
   · exact h
   · exact (getD_both hun (hAW listed hcl j hj h i hik)).elim
  refine ⟨hjk, ?_⟩
  by_cases hji : j = i
  · subst hji; exact hy.qOp hi H
  · have h1 := H.1 j hjk
    rw [getD_set_ne false (Ne.symm hji)] at h1
    exact (getD_both (mem_ready.1 hj).1 h1).elim
 | succ fuel ih =>
  intro listed a hcl hfree hr hy H
  have hun := (mem_ready.1 hr).1
  refine ⟨⟨i, hik, hun⟩, fun j hj => ?_⟩
  have hjk : j < k := by
   rcases Nat.lt_or_ge j k with h | h
   · exact h
   · exact (getD_both hun (hAW listed hcl j hj h i hik)).elim
  refine ⟨hjk, ?_⟩
  by_cases hji : j = i
  · subst hji; exact hy.qOp hi H
  · have h1 := (H.2 j (ready_mono hj hji)).2
    obtain ⟨hjun, oj, hoj, hall⟩ := mem_ready.1 hj
    have hnot : ∀ e ∈ oj.after, Region.binds md e = true → e.on ≠ i := fun e he hb heq => by
     have h1 := hall e he hb
     rw [heq] at h1
     exact getD_both hun h1
    have h2 := qOp_put hoj (hfree j oj hoj hjk hji hjun hnot) (fun cs b => hsel i oi cs b hi) (fun cs b => hsel j oj cs b hoj) hy h1
    have hfree' : ∀ q oq, ops[q]? = some oq → q < k → q ≠ i → (listed.setIfInBounds j true).getD q true = false →
     (∀ e ∈ oq.after, Region.binds md e = true → e.on ≠ i) → oi.apart ops oq = true := fun q oq hq hqk hqi hqun hno => by
     refine hfree q oq hq hqk hqi ?_ hno
     by_cases hjq : j = q
     · subst hjq; exact hjun
     · rw [getD_set_ne true hjq] at hqun; exact hqun
    refine qOp_mono (fun a' h3 => ih (listed.setIfInBounds j true) a' (hcl.set hj) hfree' (ready_mono hr (Ne.symm hji)) h3.1 ?_) h2
    rw [Array.setIfInBounds_comm _ _ hji]
    exact h3.2
def lexR (md : Region.Mode) (ops : Array Oper) (k : Nat) : Nat → Nat → Array Bool → Bool
 | 0, _, listed => (List.range k).all fun i => listed.getD i false
 | fuel + 1, p, listed => (Region.ready md ops listed).contains p && decide (p < k) && ((List.range k).all fun j => j == p || listed.getD j true || (match ops[j]?, ops[p]? with
  | some oj, some op => oj.after.any (fun e => Region.binds md e && e.on == p) || op.apart ops oj
  | _, _ => true)) && lexR md ops k fuel (p + 1) (listed.setIfInBounds p true)
def setsFrom : Nat → Nat → Array Bool → Array Bool
 | 0, _, l => l
 | n + 1, p, l => setsFrom n (p + 1) (l.setIfInBounds p true)
theorem wpAnyR_lex (hs : Region.noSelect ops = true) {k : Nat} (hAW : AllWait md ops k) {Q : Act → Prop} (F : Array Bool) : ∀ (l : List Oper) (p : Nat) (listed : Array Bool) (a : Act), (∀ j, j < l.length → l[j]? = ops[p + j]?) → Closed md ops listed →
 lexR md ops k l.length p listed = true → setsFrom l.length p listed = F → wpQuiet P ops C Q l a → wpAnyR P md ops k C (fun L a => L = F ∧ Q a) l.length listed a
 | [], p, listed, a, _, _, hB, hF, h => by
  refine ⟨fun i hi => ?_, hF, h⟩
  simp only [List.length_nil, lexR, List.all_eq_true, List.mem_range] at hB
  exact hB i hi
 | o :: l, p, listed, a, hl, hcl, hB, hF, h => by
  have h0 : ops[p]? = some o := by have := hl 0 (by simp); simpa using this.symm
  simp only [List.length_cons, lexR, Bool.and_eq_true, List.contains_iff_mem, decide_eq_true_eq, List.all_eq_true, List.mem_range] at hB
  obtain ⟨⟨⟨hr, hpk⟩, hf⟩, hB'⟩ := hB
  have hst : qOp P ops C p (wpQuiet P ops C Q l) a := by unfold qOp; simp only [h0]; exact h
  obtain ⟨v, hy, hK⟩ := yieldsIn_of_qOp h0 hst
  refine wpAnyR_first h0 hpk (Region.noSelect_spec hs) hAW l.length listed a hcl (fun j oj hoj hjk hjp hun hno => ?_) hr hy
   (wpAnyR_lex hs hAW F l (p + 1) _ _ (fun j hj => by have := hl (j + 1) (by simpa using hj); simpa [Nat.add_assoc, Nat.add_comm 1 j] using this) (hcl.set hr) hB' hF hK)
  have := hf j hjk
  rw [hun, hoj, h0] at this
  simp only [Bool.or_false, Bool.or_eq_true, beq_iff_eq, hjp, false_or, Array.any_eq_true] at this
  rcases this with ⟨q, hq, hb⟩ | h
  · simp only [Bool.and_eq_true, beq_iff_eq] at hb
    exact absurd hb.2 (hno _ (Array.getElem_mem hq) hb.1)
  · exact h
def anc (md : Region.Mode) (ops : Array Oper) : Nat → Nat → Nat → Bool
 | 0, _, _ => false
 | f + 1, j, i => match ops[j]? with
  | some o => o.after.toList.any fun e => Region.binds md e && (e.on == i || anc md ops f e.on i)
  | none => false
def allWaitB (md : Region.Mode) (ops : Array Oper) (k : Nat) : Bool := (List.range ops.size).all fun j => decide (j < k) || (List.range k).all fun i => anc md ops ops.size j i
theorem anc_listed {listed : Array Bool} (hc : Closed md ops listed) : ∀ (f j i : Nat) (o : Oper), ops[j]? = some o → (∀ e ∈ o.after, Region.binds md e = true → listed.getD e.on false = true) → anc md ops f j i = true → listed.getD i false = true
 | 0, _, _, _, _, _, h => by cases h
 | f + 1, j, i, o, ho, hall, h => by
  simp only [anc, ho, List.any_eq_true, Bool.and_eq_true, Bool.or_eq_true, beq_iff_eq] at h
  obtain ⟨e, he, hb, h⟩ := h
  have he' : e ∈ o.after := by simpa using he
  have hl := hall e he' hb
  rcases h with rfl | h
  · exact hl
  · cases hoe : ops[e.on]? with
    | none => cases f with
     | zero => cases h
     | succ f => simp only [anc, hoe] at h; cases h
    | some oe => exact anc_listed hc f e.on i oe hoe (fun e' he'' hb' => hc e.on oe e' hoe hl he'' hb') h
theorem allWait_of {k : Nat} (h : allWaitB md ops k = true) : AllWait md ops k := by
 intro listed hc j hj hk i hi
 obtain ⟨_, o, ho, hall⟩ := mem_ready.1 hj
 have hlt := (Array.getElem?_eq_some_iff.1 ho).1
 unfold allWaitB at h
 rw [List.all_eq_true] at h
 have := h j (List.mem_range.2 hlt)
 simp only [Bool.or_eq_true, decide_eq_true_eq, List.all_eq_true, List.mem_range] at this
 rcases this with h | h
 · omega
 · exact anc_listed hc _ j i o ho hall (h i hi)
def backB (md : Region.Mode) (ops : Array Oper) (k : Nat) : Bool := decide (k ≤ ops.size) && (List.range k).all fun i => match ops[i]? with
 | some o => o.after.toList.all (fun e => !Region.binds md e || decide (e.on < i))
 | none => false
theorem back_ready {k : Nat} (h : backB md ops k = true) (listed : Array Bool) (hex : ∃ i, i < k ∧ listed.getD i true = false) : ∃ i, i ∈ Region.ready md ops listed := by
 unfold backB at h
 simp only [Bool.and_eq_true, decide_eq_true_eq, List.all_eq_true, List.mem_range] at h
 obtain ⟨hk, h⟩ := h
 obtain ⟨i, hik, hun⟩ := hex
 have : ∀ m i, m = i → i < k → listed.getD i true = false → ∃ j, j ∈ Region.ready md ops listed := by
  intro m
  induction m using Nat.strongRecOn with
  | _ m ihm =>
   intro i hi hik hun
   subst hi
   have hops : m < ops.size := by omega
   by_cases hall : ∀ e ∈ (ops[m]'hops).after, Region.binds md e = true → listed.getD e.on false = true
   · exact ⟨m, mem_ready.2 ⟨hun, _, Array.getElem?_eq_getElem hops, hall⟩⟩
   · obtain ⟨e, he⟩ := Classical.not_forall.1 hall
     obtain ⟨h1, he⟩ := Classical.not_imp.1 he
     obtain ⟨h2, he⟩ := Classical.not_imp.1 he
     have hb := h m hik
     rw [Array.getElem?_eq_getElem hops] at hb
     simp only [List.all_eq_true] at hb
     have hlt : e.on < m := by have := hb e (by simpa using h1); simpa [h2] using this
     refine ihm e.on hlt e.on rfl (by omega) ?_
     have hm := getD_lt hun
     have : e.on < listed.size := by omega
     simp [this] at he ⊢
     exact he
 exact this i i rfl hik hun
theorem wp_region_pre {id k : Nat} {Q' : Exit → Act → World → Prop} {a : Act} {w : World} (hm : P.follows .mixedOrders = true) (hs : Region.noSelect ops = true) (hback : backB .any ops k = true) (hwait : allWaitB .any ops k = true) (hlex : lexR .any ops k k 0 (Array.replicate ops.size false) = true)
 (hC : C { w with drawn := w.drawn + 1 }) (h : wpQuiet P ops C (fun a' => ∀ w', C w' → wpAny P .any ops Q' (ops.size - k) (setsFrom k 0 (Array.replicate ops.size false)) a' w') (ops.toList.take k) a) : (Code.region id ops true).wp P Q' a w := by
 have hk : k ≤ ops.size := by
  unfold backB at hback
  simp only [Bool.and_eq_true, decide_eq_true_eq] at hback
  exact hback.1
 have hlen : (ops.toList.take k).length = k := by simp; omega
 refine wp_region_any hm ?_
 have hcl : Closed .any ops (Array.replicate ops.size false) := fun i o e _ hl => by
  exfalso
  simp [al_gd, Array.getElem?_replicate] at hl
  split at hl <;> simp at hl
 have h1 := wpAnyR_lex (C := C) hs (allWait_of hwait) (setsFrom k 0 (Array.replicate ops.size false)) (ops.toList.take k) 0 (Array.replicate ops.size false) a (fun j hj => by rw [hlen] at hj; simp [List.getElem?_take, hj]) hcl (by rw [hlen]; exact hlex) (by rw [hlen]) h
 rw [hlen] at h1
 have h2 := wpAny_of_R (Q' := Q') (back_ready hback) (ops.size - k) (fun listed a w hc hR => by rw [hR.1]; exact hR.2 w hc) k _ a _ hC h1
 rw [show k + (ops.size - k) = ops.size by omega] at h2
 exact h2
theorem countP_one : ∀ (k i : Nat) (p q : Nat → Bool), i < k → p i = true → q i = false → (∀ j, j ≠ i → p j = q j) → (List.range k).countP p = (List.range k).countP q + 1
 | 0, i, p, q, hi, _, _, _ => by omega
 | k + 1, i, p, q, hi, hp, hq, h => by
  rw [List.range_succ, List.countP_append, List.countP_append]
  by_cases e : i = k
  · subst e
    have : (List.range i).countP p = (List.range i).countP q := List.countP_congr fun j hj => by rw [h j (by have := List.mem_range.1 hj; omega)]
    simp [this, hp, hq]
  · have ih := countP_one k i p q (by omega) hp hq h
    have e2 := h k (Ne.symm e)
    simp [ih, e2]; omega
theorem wpOp_weak {Q : Exit → Act → World → Prop} {i : Nat} {K K' : Act → World → Prop} {a : Act} {w : World} (h : ∀ a w, K a w → K' a w) (hh : wpOp P ops Q i K a w) : wpOp P ops Q i K' a w := by
 unfold wpOp at *
 split
 · simp only [*] at hh ⊢; exact h _ _ (by simpa [*] using hh)
 · rename_i o ho
   simp only [ho] at hh
   split
   · rename_i hw
     simp only [hw, if_true] at hh
     rcases hh with hh | hh
     · exact .inl (Oper.wp_mono h hh)
     · exact .inr hh
   · rename_i hw
     simp only [hw] at hh
     exact h _ _ hh
theorem wp_region_inv {id k : Nat} {Q' : Exit → Act → World → Prop} {a : Act} {w : World} (hm : P.follows .mixedOrders = true) (hback : backB .any ops k = true) (hwait : allWaitB .any ops k = true) (I : Array Bool → Act → World → Prop)
 (h0 : I (Array.replicate ops.size false) a { w with drawn := w.drawn + 1 })
 (hstep : ∀ (L : Array Bool) (a : Act) (w : World) (i : Nat), L.size = ops.size → i < k → L.getD i true = false → (∀ o, ops[i]? = some o → ∀ e ∈ o.after, Region.binds .any e = true → L.getD e.on false = true) → I L a w → wpOp P ops Q' i (I (L.setIfInBounds i true)) a w)
 (hend : ∀ (a : Act) (w : World), I (Array.ofFn fun i : Fin ops.size => decide (i.val < k)) a w → wpAny P .any ops Q' (ops.size - k) (Array.ofFn fun i : Fin ops.size => decide (i.val < k)) a w) : (Code.region id ops true).wp P Q' a w := by
 have hk : k ≤ ops.size := by
  unfold backB at hback
  simp only [Bool.and_eq_true, decide_eq_true_eq] at hback
  exact hback.1
 refine wp_region_any hm ?_
 have key : ∀ (f : Nat) (L : Array Bool) (a : Act) (w : World), Closed .any ops L → L.size = ops.size → (∀ j, k ≤ j → L.getD j false = false) → (List.range k).countP (fun i => !L.getD i false) = f → I L a w → wpAny P .any ops Q' (f + (ops.size - k)) L a w := by
  intro f
  induction f with
  | zero =>
   intro L a w hcl hsz hno hc hI
   have hall : ∀ i, i < k → L.getD i false = true := by
    intro i hi
    rw [List.countP_eq_zero] at hc
    have := hc i (List.mem_range.2 hi)
    simpa using this
   have hL : L = Array.ofFn fun i : Fin ops.size => decide (i.val < k) := by
    apply Array.ext
    · simp [hsz]
    · intro i h1 h2
      simp only [Array.getElem_ofFn]
      by_cases hik : i < k
      · have := hall i hik
        simp [h1] at this
        rw [this]; simp [hik]
      · have := hno i (by omega)
        simp [h1] at this
        rw [this]; simp [hik]
   rw [Nat.zero_add]
   rw [hL] at hI ⊢
   exact hend a w hI
  | succ f ih =>
   intro L a w hcl hsz hno hc hI
   have hex : ∃ i, i < k ∧ L.getD i true = false := by
    have : 0 < (List.range k).countP (fun i => !L.getD i false) := by omega
    obtain ⟨i, hi, hp⟩ := List.countP_pos_iff.1 this
    have hik := List.mem_range.1 hi
    refine ⟨i, hik, ?_⟩
    have hlt : i < L.size := by omega
    simp [hlt] at hp ⊢
    exact hp
   have e : f + 1 + (ops.size - k) = (f + (ops.size - k)) + 1 := by omega
   rw [e]
   refine ⟨fun hr => ?_, fun i hi => ?_⟩
   · obtain ⟨i, hi⟩ := back_ready hback L hex
     rw [hr] at hi; cases hi
   · have hik : i < k := by
      rcases Nat.lt_or_ge i k with h | h
      · exact h
      · obtain ⟨q, hq, hun⟩ := hex
        exact (getD_both hun (allWait_of hwait L hcl i hi h q hq)).elim
     obtain ⟨hun, o, ho, hall⟩ := mem_ready.1 hi
     refine wpOp_weak (fun a' w' hI' => ih _ a' w' (hcl.set hi) (by simp [hsz]) (fun j hj => ?_) ?_ hI') (hstep L a w i hsz hik hun (fun o' ho' e he hb => by rw [ho] at ho'; cases ho'; exact hall e he hb) hI)
     · rw [getD_set_ne false (by omega)]; exact hno j hj
     · have := countP_one k i (fun j => !L.getD j false) (fun j => !(L.setIfInBounds i true).getD j false) hik ?_ ?_ (fun j hj => ?_)
       · omega
       · have hlt : i < L.size := by omega
         simp [hlt] at hun ⊢; exact hun
       · have hlt : i < L.size := by omega
         simp [hlt]
       · rw [getD_set_ne false (Ne.symm hj)]
 have hcl : Closed .any ops (Array.replicate ops.size false) := fun i o e _ hl => by
  exfalso
  simp [al_gd, Array.getElem?_replicate] at hl
  split at hl <;> simp at hl
 have hf : ∀ i, (Array.replicate ops.size false).getD i false = false := fun i => by
  simp [al_gd, Array.getElem?_replicate]
  split <;> rfl
 have := key k (Array.replicate ops.size false) a _ hcl (by simp) (fun j _ => hf j) (by rw [List.countP_eq_length.2 (fun i _ => by rw [hf i]; rfl), List.length_range]) h0
 rw [show k + (ops.size - k) = ops.size by omega] at this
 exact this
theorem wpAny_one {Q : Exit → Act → World → Prop} {fuel i : Nat} {listed : Array Bool} {a : Act} {w : World} (hr : Region.ready md ops listed = [i]) (h : wpOp P ops Q i (wpAny P md ops Q fuel (listed.setIfInBounds i true)) a w) : wpAny P md ops Q (fuel + 1) listed a w :=
 ⟨fun h0 => (by rw [hr] at h0; cases h0), fun j hj => by rw [hr] at hj; obtain rfl := List.mem_singleton.1 hj; exact h⟩
theorem wpAny_end {Q : Exit → Act → World → Prop} {listed : Array Bool} {a : Act} {w : World} (hr : Region.ready md ops listed = []) (h : Q .normal a w) : wpAny P md ops Q 0 listed a w := ⟨hr, h⟩
end
end Go.Car
set_option maxHeartbeats 4000000
set_option maxRecDepth 100000
namespace Go.Proofs
open Go Go.Conc Go.RowKit Go.Car
theorem step_hit (mb bw W : Nat) (tv : Value) (ws : List Int) (m : Mch) (c : Cd) (w : World) (h : MachB mb bw W tv ws m w) (hc : isStep W c = true) (h7 : c.d = 11) (hx0 : ws.getD c.a.toNat 0 = m.regs (ix c.b)) :
 Calls Try.prog 49 #[.pointer (some ⟨mb, 0, none⟩), cdV c] w fun e w' => StepPost mb bw W tv ws m c w e w' := by
 obtain ⟨d, r, a, b, v⟩ := c
 simp only at h7 hx0
 subst h7
 have ha : (0 : Int) ≤ a ∧ a < W := by simpa [isStep] using hc
 obtain ⟨ha0, haW⟩ := ha
 have haN : a.toNat < W := by omega
 have hbw := zq4 h.hw
 have hmb := zq4 h.hm
 have h1 := h.al (.cells #[.int .i64 11, .int .i64 r, .int .i64 a, .int .i64 b, .int .i64 v] 74)
 have hR := (Rest.refl mb bw w).al (.cells #[.int .i64 11, .int .i64 r, .int .i64 a, .int .i64 b, .int .i64 v] 74)
 have hB := al_new w (.cells #[.int .i64 11, .int .i64 r, .int .i64 a, .int .i64 b, .int .i64 v] 74)
 have hn := h.ne
 have e6 := wrap64_eq (m.next + 1)
 have ir := ix_lt r
 have hs : stepC ⟨11, r, a, b, v⟩ ws m = (ws.set a.toNat v, m.on.set (ix r) 1) := by unfold stepC; simp only []; rw [if_neg (by omega), if_neg (by omega), if_neg (by omega), if_neg (by omega), if_pos hx0]
 unfold StepPost
 rw [hs]
 clear h hs hc
 unfold cdV
 go_enter Try.func49, Try.ntmps49
 go_wp2
 generalize w.alloc (.cells #[.int .i64 11, .int .i64 r, .int .i64 a, .int .i64 b, .int .i64 v] 74) = w1 at *
 generalize hB0 : w.heap.size = B0 at *
 have c0 := h1.c0
 have cn := h1.cn
 have cr1 := h1.cr ir
 have cwa := h1.cw haN
 have fwa := h1.fw a.toNat
 have cr2 := h1.cr (ix_lt b)
 have ib := ix_lt b
 have fz6 := h1.fm 6
 have fzr := h1.fm (1 + ix r)
 have b0 : w1.cell? ⟨B0, 0, none⟩ = some (.int .i64 11) := (zq1 hB).trans rfl
 have b1 : w1.cell? ⟨B0, 1, none⟩ = some (.int .i64 r) := (zq1 hB).trans rfl
 have b2 : w1.cell? ⟨B0, 2, none⟩ = some (.int .i64 a) := (zq1 hB).trans rfl
 have b3 : w1.cell? ⟨B0, 3, none⟩ = some (.int .i64 b) := (zq1 hB).trans rfl
 have b4 : w1.cell? ⟨B0, 4, none⟩ = some (.int .i64 v) := (zq1 hB).trans rfl
 obtain ⟨x, hx⟩ : ∃ x, ws.getD a.toNat 0 = x := ⟨_, rfl⟩
 obtain ⟨y, hy⟩ : ∃ y, m.regs (ix r) = y := ⟨_, rfl⟩
 obtain ⟨z, hz⟩ : ∃ z, m.regs (ix b) = z := ⟨_, rfl⟩
 rw [hx, hz] at hx0
 rw [hz, ← hx0] at cr2
 rw [← hx0] at hz
 rw [hx] at cwa
 rw [hy] at cr1
 try rw [hx]
 try rw [hy]
 have H1 := Lib.hid h1
 have HR := Lib.hid hR
 clear h1 hR hB hB0
 have i6 : ¬ (1 + ix r = 6) := by omega
 have i6' : ¬ (6 = 1 + ix r) := by omega
 have j6 : ¬ (1 + ix b = 6) := by omega
 have j6' : ¬ (6 = 1 + ix b) := by omega
 clear ir ib
 have hne' : ¬ (mb = bw) := hn
 have hne2 : ¬ (bw = mb) := fun e => hn e.symm
 have hB1 : ¬ (mb = B0) := by omega
 have hB2 : ¬ (B0 = mb) := by omega
 have hB3 : ¬ (bw = B0) := by omega
 have hB4 : ¬ (B0 = bw) := by omega
 go_quiet (first | (go_at_call 52; refine Calls.quiet_of_same (register_lone _ _ _)))
 go_wp2_with (fail)
 have H2 := (H1.out.same (w' := w1.drewN nq) rfl rfl).setN (wrap64 (m.next + 1))
 have R2 := Rest.setM (HR.out.drew nq) 6 (.int .i64 (wrap64 (m.next + 1)))
 have d3 : ((w1.drewN nq).setCell ⟨mb, 6, none⟩ (.int .i64 (wrap64 (m.next + 1)))).cell? ⟨B0, 3, none⟩ = some (.int .i64 b) := (zqe (zqa _ _ _ _ hB2)).trans b3
 have d4 : ((w1.drewN nq).setCell ⟨mb, 6, none⟩ (.int .i64 (wrap64 (m.next + 1)))).cell? ⟨B0, 4, none⟩ = some (.int .i64 v) := (zqe (zqa _ _ _ _ hB2)).trans b4
 generalize ((w1.drewN nq).setCell ⟨mb, 6, none⟩ (.int .i64 (wrap64 (m.next + 1)))) = w2 at *
 have e2 := H2.cr (ix_lt b)
 simp only [hz] at e2
 have ew := H2.cw haN
 rw [hx] at ew
 have ewf := H2.fw a.toNat
 clear b0 b1 b2 b3 b4 cr1 cr2 cwa fwa fz6 fzr c0 cn
 have H3 := Lib.hid H2
 have R3 := Lib.hid R2
 clear H2 R2
 refine wp_region_pre (k := 9) (C := fun w' => ∃ n, w' = w2.drewN n) (by kernel_rfl) (by kernel_rfl) (by kernel_rfl) (by kernel_rfl) (by kernel_rfl) ⟨1, rfl⟩ ?_
 simp only [List.take_succ_cons, List.take_zero]
 repeat (quiet_step (first | (go_at_call 52; refine Calls.quiet_of_same (register_lone _ _ _))))
 refine wpQuiet_nil ?_
 rintro w' ⟨nq, rfl⟩
 refine wpAny_one (i := 9) (by kernel_rfl) ?_
 simp only [wpOp, al_gl, al_g0, al_g1]
 rw [if_pos (by rfl)]
 refine .inl ?_
 go_simp
 refine Calls.mono (cas_hit_lone bw a.toNat z v _ (hx0 ▸ ew) ewf) ?_
 rintro e w' ⟨rfl, rfl⟩
 refine wpAny_one (i := 10) (by kernel_rfl) ?_
 simp only [wpOp, al_gl, al_g0, al_g1]
 rw [if_pos (by rfl)]
 refine .inl ?_
 go_simp
 refine wpAny_end (by kernel_rfl) ?_
 have fz1 := H3.out.fm (1 + ix r)
 have er := H3.out.cr (ix_lt r)
 go_wp2
 go_end0
 have H5 := H3.out
 rw [wrap64_eq] at H5
 refine ⟨rfl, ?_, ?_⟩
 · have := (((H5.same (w' := w2.drewN nq) rfl rfl).setW haN v).setR (ix_lt r) 0).setR (ix_lt r) 1
   have e : (Mch.set (Mch.set m.on (ix r) 0) (ix r) 1) = m.on.set (ix r) 1 := by unfold Mch.set; simp only [Mch.mk.injEq, and_true]; funext j; by_cases hj : j = ix r <;> simp [hj]
   rw [← e]; exact this
 · exact Rest.setM (Rest.setM (Rest.setW (R3.out.drew nq) _ _) _ _) _ _
theorem step_miss (mb bw W : Nat) (tv : Value) (ws : List Int) (m : Mch) (c : Cd) (w : World) (h : MachB mb bw W tv ws m w) (hc : isStep W c = true) (h7 : c.d = 11) (hx0 : ¬ ws.getD c.a.toNat 0 = m.regs (ix c.b)) :
 Calls Try.prog 49 #[.pointer (some ⟨mb, 0, none⟩), cdV c] w fun e w' => StepPost mb bw W tv ws m c w e w' := by
 obtain ⟨d, r, a, b, v⟩ := c
 simp only at h7 hx0
 subst h7
 have ha : (0 : Int) ≤ a ∧ a < W := by simpa [isStep] using hc
 obtain ⟨ha0, haW⟩ := ha
 have haN : a.toNat < W := by omega
 have hbw := zq4 h.hw
 have hmb := zq4 h.hm
 have h1 := h.al (.cells #[.int .i64 11, .int .i64 r, .int .i64 a, .int .i64 b, .int .i64 v] 74)
 have hR := (Rest.refl mb bw w).al (.cells #[.int .i64 11, .int .i64 r, .int .i64 a, .int .i64 b, .int .i64 v] 74)
 have hB := al_new w (.cells #[.int .i64 11, .int .i64 r, .int .i64 a, .int .i64 b, .int .i64 v] 74)
 have hn := h.ne
 have e6 := wrap64_eq (m.next + 1)
 have ir := ix_lt r
 have hs : stepC ⟨11, r, a, b, v⟩ ws m = (ws, m.on.set (ix r) 0) := by unfold stepC; simp only []; rw [if_neg (by omega), if_neg (by omega), if_neg (by omega), if_neg (by omega), if_neg hx0]
 unfold StepPost
 rw [hs]
 clear h hs hc
 unfold cdV
 go_enter Try.func49, Try.ntmps49
 go_wp2
 generalize w.alloc (.cells #[.int .i64 11, .int .i64 r, .int .i64 a, .int .i64 b, .int .i64 v] 74) = w1 at *
 generalize hB0 : w.heap.size = B0 at *
 have c0 := h1.c0
 have cn := h1.cn
 have cr1 := h1.cr ir
 have cwa := h1.cw haN
 have fwa := h1.fw a.toNat
 have cr2 := h1.cr (ix_lt b)
 have ib := ix_lt b
 have fz6 := h1.fm 6
 have fzr := h1.fm (1 + ix r)
 have b0 : w1.cell? ⟨B0, 0, none⟩ = some (.int .i64 11) := (zq1 hB).trans rfl
 have b1 : w1.cell? ⟨B0, 1, none⟩ = some (.int .i64 r) := (zq1 hB).trans rfl
 have b2 : w1.cell? ⟨B0, 2, none⟩ = some (.int .i64 a) := (zq1 hB).trans rfl
 have b3 : w1.cell? ⟨B0, 3, none⟩ = some (.int .i64 b) := (zq1 hB).trans rfl
 have b4 : w1.cell? ⟨B0, 4, none⟩ = some (.int .i64 v) := (zq1 hB).trans rfl
 obtain ⟨x, hx⟩ : ∃ x, ws.getD a.toNat 0 = x := ⟨_, rfl⟩
 obtain ⟨y, hy⟩ : ∃ y, m.regs (ix r) = y := ⟨_, rfl⟩
 obtain ⟨z, hz⟩ : ∃ z, m.regs (ix b) = z := ⟨_, rfl⟩
 rw [hx, hz] at hx0
 rw [hz] at cr2
 rw [hx] at cwa
 rw [hy] at cr1
 try rw [hx]
 try rw [hy]
 have H1 := Lib.hid h1
 have HR := Lib.hid hR
 clear h1 hR hB hB0
 have i6 : ¬ (1 + ix r = 6) := by omega
 have i6' : ¬ (6 = 1 + ix r) := by omega
 have j6 : ¬ (1 + ix b = 6) := by omega
 have j6' : ¬ (6 = 1 + ix b) := by omega
 clear ir ib
 have hne' : ¬ (mb = bw) := hn
 have hne2 : ¬ (bw = mb) := fun e => hn e.symm
 have hB1 : ¬ (mb = B0) := by omega
 have hB2 : ¬ (B0 = mb) := by omega
 have hB3 : ¬ (bw = B0) := by omega
 have hB4 : ¬ (B0 = bw) := by omega
 go_quiet (first | (go_at_call 52; refine Calls.quiet_of_same (register_lone _ _ _)))
 go_wp2_with (fail)
 have H2 := (H1.out.same (w' := w1.drewN nq) rfl rfl).setN (wrap64 (m.next + 1))
 have R2 := Rest.setM (HR.out.drew nq) 6 (.int .i64 (wrap64 (m.next + 1)))
 have d3 : ((w1.drewN nq).setCell ⟨mb, 6, none⟩ (.int .i64 (wrap64 (m.next + 1)))).cell? ⟨B0, 3, none⟩ = some (.int .i64 b) := (zqe (zqa _ _ _ _ hB2)).trans b3
 have d4 : ((w1.drewN nq).setCell ⟨mb, 6, none⟩ (.int .i64 (wrap64 (m.next + 1)))).cell? ⟨B0, 4, none⟩ = some (.int .i64 v) := (zqe (zqa _ _ _ _ hB2)).trans b4
 generalize ((w1.drewN nq).setCell ⟨mb, 6, none⟩ (.int .i64 (wrap64 (m.next + 1)))) = w2 at *
 have e2 := H2.cr (ix_lt b)
 simp only [hz] at e2
 have ew := H2.cw haN
 rw [hx] at ew
 have ewf := H2.fw a.toNat
 clear b0 b1 b2 b3 b4 cr1 cr2 cwa fwa fz6 fzr c0 cn
 have H3 := Lib.hid H2
 have R3 := Lib.hid R2
 clear H2 R2
 refine wp_region_pre (k := 9) (C := fun w' => ∃ n, w' = w2.drewN n) (by kernel_rfl) (by kernel_rfl) (by kernel_rfl) (by kernel_rfl) (by kernel_rfl) ⟨1, rfl⟩ ?_
 simp only [List.take_succ_cons, List.take_zero]
 repeat (quiet_step (first | (go_at_call 52; refine Calls.quiet_of_same (register_lone _ _ _))))
 refine wpQuiet_nil ?_
 rintro w' ⟨nq, rfl⟩
 refine wpAny_one (i := 9) (by kernel_rfl) ?_
 simp only [wpOp, al_gl, al_g0, al_g1]
 rw [if_pos (by rfl)]
 refine .inl ?_
 go_simp
 refine Calls.mono (cas_miss_lone bw a.toNat x z v _ ew ewf hx0) ?_
 rintro e w' ⟨rfl, rfl⟩
 refine wpAny_one (i := 10) (by kernel_rfl) ?_
 simp only [wpOp, al_gl, al_g0, al_g1]
 rw [if_pos (by rfl)]
 refine .inl ?_
 go_simp
 refine wpAny_end (by kernel_rfl) ?_
 have fz1 := H3.out.fm (1 + ix r)
 have er := H3.out.cr (ix_lt r)
 go_wp2
 go_end0
 have H5 := H3.out
 rw [wrap64_eq] at H5
 refine ⟨rfl, ?_, ?_⟩
 · exact (H5.same (w' := w2.drewN nq) rfl rfl).setR (ix_lt r) 0
 · exact Rest.setM (R3.out.drew nq) _ _
end Go.Proofs
set_option maxHeartbeats 1000000
namespace Go.Car
open Go Go.Conc Go.RowKit
section
variable {P : Program} {main : Bool} {Kc : Addr → Option Value} {γ : Type} {J : γ → Goroutine → World → Prop}
theorem putG_putv (ops : Array Oper) : ∀ (vs : List (Option Value)) (p : Nat) (T : Array Value), putG ops vs p T = putv ops (vs.map fun v => v.getD undef) p T
 | [], _, _ => rfl
 | v :: vs, p, T => by
  simp only [putG, List.map_cons, putv]
  exact putG_putv ops vs (p + 1) _
theorem evalsG_at {ops : Array Oper} {w : World} : ∀ (vs : List (Option Value)) (p : Nat) (T : Array Value) (j : Nat) (u : Option Value) (o : Oper), evalsG P ops w vs p T → vs[j]? = some u → ops[p + j]? = some o →
 (u = none ∧ Region.wanted o (yielded ops (putG ops (vs.take j) p T)) = false) ∨ ∃ v, u = some v ∧ Region.wanted o (yielded ops (putG ops (vs.take j) p T)) = true ∧ (execOp (Act.mk (putG ops (vs.take j) p T) []).eval o).run P w = .ok (.value v) w := by
 intro vs
 induction vs with
 | nil => intro p T j u o _ hj _; cases hj
 | cons v vs ih =>
  intro p T j u o hev hj ho
  cases j with
  | zero =>
   simp only [al_g0, al_oi] at hj
   subst hj
   cases v with
   | none => exact .inl ⟨rfl, hev.1 o ho⟩
   | some v => exact .inr ⟨v, rfl, hev.1 o ho⟩
  | succ j =>
   have hj' : vs[j]? = some u := by simpa using hj
   have ho' : ops[p + 1 + j]? = some o := by rw [show p + 1 + j = p + (j + 1) by omega]; exact ho
   rw [List.take_succ_cons]
   cases v with
   | none => exact ih (p + 1) _ j u o hev.2 hj' ho'
   | some v => exact ih (p + 1) _ j u o hev.2 hj' ho'
theorem at_evalGd (hJ : JS P main Kc J) {b : Frame} {k : List Item} {cs : List Frame} (hb : b.kind ≠ .early) (hm : P.follows .mixedOrders = true) {id : Nat} {ops : Array Oper} {a : Act} {s : γ} {w : World} (vs : List (Option Value)) (hlen : vs.length = ops.size)
 (hok : idleGOk P ops a.tmps.size [] = true) (hv : ∀ τ d, evalsG P ops (re w τ d) vs 0 a.tmps) (h : J s (G (b.at ⟨putG ops vs 0 a.tmps, a.defers⟩ (.inRegion ops [] :: k)) cs) w) : J s (G (b.at a (.code (.region id ops true) :: k)) cs) w := by
 have hok' := hok
 unfold idleGOk at hok
 simp only [Bool.and_eq_true, List.all_eq_true, List.mem_range] at hok
 obtain ⟨⟨h2, h3⟩, h4⟩ := hok
 have lt : ∀ (i : Nat) (o : Oper), ops[i]? = some o → i < ops.size := fun i o ho => (Array.getElem?_eq_some_iff.1 ho).1
 have dst : ∀ (i : Nat) (o : Oper), ops[i]? = some o → ∃ d, o.dst = some d ∧ d < a.tmps.size := fun i o ho => by
  have := h2 i (lt i o ho)
  rw [ho] at this
  simp only [Bool.and_eq_true] at this
  obtain ⟨⟨_, a2⟩, _⟩ := this
  cases hd : o.dst with
  | none => rw [hd] at a2; cases a2
  | some d => rw [hd] at a2; exact ⟨d, rfl, by simpa using a2⟩
 have apart : ∀ (i j : Nat) (d : Tmp), i < ops.size → j < i → dstOf ops i = some d → dstOf ops j ≠ some d := fun i j d hi hj hd hd' => by
  have := h3 i hi j hj
  rw [hd, hd'] at this
  simp at this
 have back : ∀ i j, waits ops i j = true → j < i := fun i j hw => by
  obtain ⟨o, ho, e, he1, he2, he3⟩ := waits_iff.1 hw
  have := h4 i (lt i o ho)
  rw [ho] at this
  simp only [Bool.and_eq_true, Array.all_eq_true_iff_forall_mem] at this
  have := this.1 e he1
  simp only [he2, Bool.not_true, Bool.false_or, decide_eq_true_eq] at this
  omega
 have hsz : (putG ops vs 0 a.tmps).size = a.tmps.size := by rw [putG_putv, putv_size]
 have hlm : (vs.map fun v => v.getD undef).length = ops.size := by rw [List.length_map, hlen]
 have final : ∀ i x u, vs[i]? = some u → dstOf ops i = some x → x < a.tmps.size → (putG ops vs 0 a.tmps)[x]? = some (u.getD undef) := fun i x u hu hd hx => by
  rw [putG_putv]
  refine putv_at _ 0 _ i _ x (by rw [List.getElem?_map, hu]; rfl) (by rw [Nat.zero_add]; exact hd) hx fun m h1 h2 => ?_
  rw [hlm] at h2
  intro hm
  exact apart m i x (by omega) (by omega) hm hd
 have early : ∀ i x j, j < i → i ≤ ops.size → dstOf ops j = some x → x < a.tmps.size → (putG ops (vs.take i) 0 a.tmps)[x]? = (putG ops vs 0 a.tmps)[x]? := fun i x j hji hi hd hx => by
  have hjl : j < vs.length := by omega
  obtain ⟨u, hu⟩ : ∃ u, vs[j]? = some u := ⟨_, List.getElem?_eq_getElem hjl⟩
  rw [final j x u hu hd hx, putG_putv]
  refine putv_at _ 0 _ j _ x (by rw [List.getElem?_map, List.getElem?_take, if_pos hji, hu]; rfl) (by rw [Nat.zero_add]; exact hd) hx fun m h1 h2 => ?_
  rw [List.length_map, List.length_take] at h2
  intro hm
  exact apart m j x (by omega) (by omega) hm hd
 have never : ∀ (l : List (Option Value)), l.length ≤ ops.size → ∀ x, (∀ j, j < ops.size → dstOf ops j ≠ some x) → (putG ops l 0 a.tmps)[x]? = a.tmps[x]? := fun l hl x hx => by
  rw [putG_putv]
  refine putv_out _ 0 _ x fun j _ h2 => hx j ?_
  rw [List.length_map] at h2; omega
 refine at_idleG (a₀ := a.tmps) (ds := a.defers) hJ hb hm [] (putG ops vs 0 a.tmps) hok' hsz (fun t ht => by cases ht) (fun t ht => never vs (by omega) t ht) ?_ h
 intro i o ho d hd
 have hi := lt i o ho
 obtain ⟨d', hd', hdlt⟩ := dst i o ho
 rw [hd] at hd'
 obtain rfl := Option.some.inj hd'
 have hdi : dstOf ops i = some d := by unfold dstOf; rw [ho]; exact hd
 obtain ⟨u, hu⟩ : ∃ u, vs[i]? = some u := ⟨_, List.getElem?_eq_getElem (by omega)⟩
 have hslot : ∀ j x, waits ops i j = true → dstOf ops j = some x → (putG ops (vs.take i) 0 a.tmps)[x]? = (putG ops vs 0 a.tmps)[x]? := fun j x hw hdj => by
  have hji := back i j hw
  obtain ⟨oj, hoj⟩ : ∃ oj, ops[j]? = some oj := ⟨_, Array.getElem?_eq_getElem (by omega)⟩
  obtain ⟨dj, hdj', hlt⟩ := dst j oj hoj
  have : dstOf ops j = some dj := by unfold dstOf; rw [hoj]; exact hdj'
  rw [this] at hdj
  obtain rfl := Option.some.inj hdj
  exact early i _ j hji (by omega) this hlt
 have hro : readOp P o.op = true ∧ ∀ j wt, o.guard = some (j, wt) → waits ops i j = true ∧ j < ops.size := by
  have := h2 i hi
  rw [ho] at this
  simp only [Bool.and_eq_true] at this
  obtain ⟨⟨a1, a2⟩, a3⟩ := this
  refine ⟨a1, fun j wt hg => ?_⟩
  rw [hg] at a3; simpa using a3
 have hok2 : ∀ cs b, o.op ≠ .select cs b := fun cs b h => by rw [h] at hro; cases hro.1
 have hex : execOp (Act.mk (putG ops (vs.take i) 0 a.tmps) []).eval o = execOp (Act.mk (putG ops vs 0 a.tmps) []).eval o := by
  refine execOp_congr o hok2 fun x hx => eval_agree fun t ht => ?_
  by_cases hxt : ∃ j, j < ops.size ∧ dstOf ops j = some t
  · obtain ⟨j, hj, hdj⟩ := hxt
    have := h4 i hi
    rw [ho] at this
    simp only [Bool.and_eq_true, Array.all_eq_true_iff_forall_mem] at this
    have := this.2 x hx
    rw [ht] at this
    simp only [List.contains_nil, Bool.false_or, List.all_eq_true, List.mem_range] at this
    have := this j hj
    exact hslot j t (by simpa [hdj] using this) hdj
  · have hno : ∀ j, j < ops.size → dstOf ops j ≠ some t := fun j hj hd => hxt ⟨j, hj, hd⟩
    rw [never _ (by rw [List.length_take]; omega) t hno, never _ (by omega) t hno]
 have hwd : Region.wanted o (yielded ops (putG ops (vs.take i) 0 a.tmps)) = Region.wanted o (yielded ops (putG ops vs 0 a.tmps)) := by
  unfold Region.wanted
  cases hg : o.guard with
  | none => rfl
  | some x =>
   obtain ⟨j, wt⟩ := x
   obtain ⟨hwt, hj⟩ := hro.2 j wt hg
   have : yielded ops (putG ops (vs.take i) 0 a.tmps) j = yielded ops (putG ops vs 0 a.tmps) j := by
    unfold yielded
    cases hdj : (ops[j]?).bind (·.dst) with
    | none => rfl
    | some t => simp only [al_ob]; rw [hslot j t hwt hdj]
   simp only [this]
 rcases evalsG_at vs 0 a.tmps i u o (hv w.tape w.drawn) hu (by rw [Nat.zero_add]; exact ho) with ⟨rfl, h1⟩ | ⟨v, rfl, h1, _⟩
 · exact .inl ⟨hwd ▸ h1, final i d none hu hdi hdlt⟩
 · refine .inr ⟨hwd ▸ h1, v, final i d (some v) hu hdi hdlt, fun τ dd => ?_⟩
   rcases evalsG_at vs 0 a.tmps i (some v) o (hv τ dd) hu (by rw [Nat.zero_add]; exact ho) with ⟨h, _⟩ | ⟨v', h, _, hr⟩
   · cases h
   · cases h
     rw [← hex]; exact hr
end
end Go.Car
set_option maxHeartbeats 1000000
namespace Go.Car
open Go Go.RowKit
def yieldsTo (P : Program) (a : Act) (o : Oper) (W : World) (v : Value) (W' : World) : Prop :=
 (execOp a.eval o).run P W = .ok (.value v) W' ∨ ∃ f args, (execOp a.eval o).run P W = .ok (.enter f args) W ∧ Calls P f args W fun e w' => e = .returned v ∧ w' = W'
def chkV (ops : Array Oper) (k n : Nat) : Bool :=
 (List.range k).all (fun i => match ops[i]? with
  | some o => o.guard.isNone && (match o.dst with | some d => decide (d < n) | none => false) && (match o.op with | .select .. => false | _ => true) &&
   o.op.operands.all (fun x => match tmpOf x with
    | some t => (List.range k).all fun j => dstOf ops j != some t || waits ops i j
    | none => true)
  | none => false) &&
 (List.range k).all (fun i => (List.range i).all fun j => dstOf ops i != dstOf ops j)
section
variable {P : Program} {ops : Array Oper}
theorem wp_of_yields {a a' : Act} {o : Oper} {W W' : World} {v : Value} {K : Act → World → Prop} {Q : Exit → Act → World → Prop} (he : execOp a.eval o = execOp a'.eval o) (h : yieldsTo P a' o W v W') (hK : K (a.put o.dst v) W') : o.wp P a W K Q := by
 unfold Oper.wp
 rw [he]
 rcases h with h | ⟨f, args, h, hc⟩
 · rw [h]; exact hK
 · rw [h]
   refine Calls.mono hc ?_
   rintro e w' ⟨rfl, rfl⟩
   exact hK
theorem wp_region_one {id k s : Nat} {Q' : Exit → Act → World → Prop} {T₀ : Array Value} {ds : List Deferred} {w W0 W1 : World} (hm : P.follows .mixedOrders = true) (hback : backB .any ops k = true) (hwait : allWaitB .any ops k = true) (hchk : chkV ops k T₀.size = true) (hsk : s < k)
 (vals : List Value) (hlen : vals.length = k) (h0 : W0 = { w with drawn := w.drawn + 1 })
 (hread : ∀ i o, i < k → i ≠ s → ops[i]? = some o → ∀ W, W = W0 ∨ W = W1 → yieldsTo P ⟨putv ops vals 0 T₀, []⟩ o W (vals.getD i undef) W)
 (hone : ∀ o, ops[s]? = some o → yieldsTo P ⟨putv ops vals 0 T₀, []⟩ o W0 (vals.getD s undef) W1)
 (hend : wpAny P .any ops Q' (ops.size - k) (Array.ofFn fun i : Fin ops.size => decide (i.val < k)) ⟨putv ops vals 0 T₀, ds⟩ W1) : (Code.region id ops true).wp P Q' ⟨T₀, ds⟩ w := by
 have hk : k ≤ ops.size := by
  have := hback
  unfold backB at this
  simp only [Bool.and_eq_true, decide_eq_true_eq] at this
  exact this.1
 unfold chkV at hchk
 simp only [Bool.and_eq_true, List.all_eq_true, List.mem_range] at hchk
 obtain ⟨h1, h2⟩ := hchk
 have plain : ∀ i, i < k → ∃ o d, ops[i]? = some o ∧ o.guard = none ∧ o.dst = some d ∧ dstOf ops i = some d ∧ d < T₀.size ∧ (∀ cs b, o.op ≠ .select cs b) ∧ ∀ x ∈ o.op.operands, ∀ t, tmpOf x = some t → ∀ j, j < k → dstOf ops j = some t → waits ops i j = true := fun i hi => by
  have := h1 i hi
  cases ho : ops[i]? with
  | none => rw [ho] at this; cases this
  | some o =>
   rw [ho] at this
   simp only [Bool.and_eq_true] at this
   obtain ⟨⟨⟨a1, a2⟩, a3⟩, a4⟩ := this
   cases hd : o.dst with
   | none => rw [hd] at a2; cases a2
   | some d =>
    rw [hd] at a2
    refine ⟨o, d, rfl, Option.isNone_iff_eq_none.1 a1, hd, by unfold dstOf; rw [ho]; exact hd, by simpa using a2, (fun cs b h => by rw [h] at a3; cases a3), fun x hx t ht j hj hdj => ?_⟩
    rw [Array.all_eq_true_iff_forall_mem] at a4
    have := a4 x hx
    rw [ht] at this
    simp only [List.all_eq_true, List.mem_range] at this
    have := this j hj
    simpa [hdj] using this
 have apart : ∀ (i j : Nat) (d : Tmp), i < k → j < k → dstOf ops i = some d → dstOf ops j = some d → i = j := fun i j d hi hj hd hd' => by
  rcases Nat.lt_trichotomy i j with h | h | h
  · have := h2 j hj i h; rw [hd, hd'] at this; simp at this
  · exact h
  · have := h2 i hi j h; rw [hd, hd'] at this; simp at this
 have hTs : (putv ops vals 0 T₀).size = T₀.size := putv_size _ _ _
 have final : ∀ i x, i < k → dstOf ops i = some x → (putv ops vals 0 T₀)[x]? = some (vals.getD i undef) := fun i x hi hd => by
  obtain ⟨o, d, ho, _, _, hd', hlt, _⟩ := plain i hi
  rw [hd] at hd'
  obtain rfl := Option.some.inj hd'
  refine putv_at vals 0 _ i _ x (by simp [hlen, hi]) (by rw [Nat.zero_add]; exact hd) hlt fun m a b e => ?_
  have := apart m i x (by omega) hi e hd
  omega
 refine wp_region_inv hm hback hwait (fun L a w' => a.defers = ds ∧ a.tmps.size = T₀.size ∧ (∀ t, (∀ j, j < k → dstOf ops j ≠ some t) → a.tmps[t]? = T₀[t]?) ∧ (∀ j t, j < k → dstOf ops j = some t → L.getD j false = true → a.tmps[t]? = (putv ops vals 0 T₀)[t]?) ∧ w' = if L.getD s false = true then W1 else W0) ?_ ?_ ?_
 · refine ⟨rfl, rfl, fun _ _ => rfl, fun j t _ _ hl => ?_, ?_⟩
   · exfalso
     simp [al_gd, Array.getElem?_replicate] at hl
     split at hl <;> simp at hl
   · rw [if_neg, h0]
     intro hl
     simp [al_gd, Array.getElem?_replicate] at hl
     split at hl <;> simp at hl
 · rintro L a w' i hL hi hun hdep ⟨hd, hsz, hout, hin, hw'⟩
   obtain ⟨o, d, ho, hg, hdst, hdo, hlt, hsel, hops⟩ := plain i hi
   have hun' : L.getD i false = false := by
    have : i < L.size := by omega
    simp [this] at hun ⊢; exact hun
   have hex : execOp a.eval o = execOp (Act.mk (putv ops vals 0 T₀) []).eval o := by
    obtain ⟨tm, dd⟩ := a
    refine execOp_congr o hsel fun x hx => eval_agree fun t ht => ?_
    by_cases hxt : ∃ j, j < k ∧ dstOf ops j = some t
    · obtain ⟨j, hj, hdj⟩ := hxt
      obtain ⟨oi, hoi, e, he1, he2, he3⟩ := waits_iff.1 (hops x hx t ht j hj hdj)
      subst he3
      exact hin e.on t hj hdj (hdep oi hoi e he1 he2)
    · have hno : ∀ j, j < k → dstOf ops j ≠ some t := fun j hj hd => hxt ⟨j, hj, hd⟩
      rw [hout t hno]
      refine (putv_out vals 0 _ t fun j _ hj => hno j (by omega)).symm
   have hwan : Region.wanted o (yielded ops a.tmps) = true := by simp [Region.wanted, hg]
   have hnext : ∀ W', (if (L.setIfInBounds i true).getD s false = true then W1 else W0) = W' → (a.put o.dst (vals.getD i undef)).defers = ds ∧ (a.put o.dst (vals.getD i undef)).tmps.size = T₀.size ∧ (∀ t, (∀ j, j < k → dstOf ops j ≠ some t) → (a.put o.dst (vals.getD i undef)).tmps[t]? = T₀[t]?) ∧
    (∀ j t, j < k → dstOf ops j = some t → (L.setIfInBounds i true).getD j false = true → (a.put o.dst (vals.getD i undef)).tmps[t]? = (putv ops vals 0 T₀)[t]?) ∧ W' = if (L.setIfInBounds i true).getD s false = true then W1 else W0 := by
    intro W' hW
    rw [hdst]
    refine ⟨hd, by simp [Act.put, hsz], fun t ht => ?_, fun j t hj hdj hl => ?_, hW.symm⟩
    · have : d ≠ t := fun e => ht i hi (e ▸ hdo)
      simp only [Act.put]; rw [al_gn this]; exact hout t ht
    · by_cases e : d = t
      · subst e
        rw [final i d hi hdo]
        have : d < a.tmps.size := by rw [hsz]; exact hlt
        simp [Act.put, this]
      · simp only [Act.put]; rw [al_gn e]
        have hji : i ≠ j := fun e2 => by subst e2; rw [hdo] at hdj; exact e (Option.some.inj hdj)
        rw [getD_set_ne false hji] at hl
        exact hin j t hj hdj hl
   unfold wpOp
   simp only [ho, hwan, if_true]
   refine .inl ?_
   by_cases his : i = s
   · subst his
     rw [hun'] at hw'
     simp only [Bool.false_eq_true, if_false] at hw'
     subst hw'
     refine wp_of_yields hex (hone o ho) (hnext W1 ?_)
     have : i < L.size := by omega
     simp [this]
   · have hg' : (L.setIfInBounds i true).getD s false = L.getD s false := getD_set_ne false his
     refine wp_of_yields hex (hread i o hi his ho w' ?_) (hnext w' ?_)
     · rw [hw']; split
       · exact .inr rfl
       · exact .inl rfl
     · rw [hg']; exact hw'.symm
 · rintro ⟨T, dd⟩ w' ⟨hd, hsz, hout, hin, hw'⟩
   have hL : ∀ j, j < k → (Array.ofFn fun i : Fin ops.size => decide (i.val < k)).getD j false = true := fun j hj => by
    have : j < ops.size := by omega
    simp [this, hj]
   rw [if_pos (hL s hsk)] at hw'
   subst hw'
   simp only at hd hsz hout hin
   subst hd
   have : T = putv ops vals 0 T₀ := by
    apply Array.ext_getElem?
    intro x
    by_cases hx : ∃ j, j < k ∧ dstOf ops j = some x
    · obtain ⟨j, hj, hdj⟩ := hx
      exact hin j x hj hdj (hL j hj)
    · have hno : ∀ j, j < k → dstOf ops j ≠ some x := fun j hj hd => hx ⟨j, hj, hd⟩
      rw [hout x hno]
      exact (putv_out vals 0 _ x fun j _ hj => hno j (by omega)).symm
   rw [this]
   exact hend
end
section
variable {P : Program} {ops : Array Oper}
theorem wp_region_vals {id k : Nat} {Q' : Exit → Act → World → Prop} {T₀ : Array Value} {ds : List Deferred} {w W0 : World} (hm : P.follows .mixedOrders = true) (hback : backB .any ops k = true) (hwait : allWaitB .any ops k = true) (hchk : chkV ops k T₀.size = true)
 (vals : List Value) (hlen : vals.length = k) (h0 : W0 = { w with drawn := w.drawn + 1 })
 (WW : Array Bool → World) (hW0 : WW (Array.replicate ops.size false) = W0)
 (hstep : ∀ (L : Array Bool) i o, L.size = ops.size → i < k → L.getD i false = false → ops[i]? = some o → (∀ e ∈ o.after, Region.binds .any e = true → L.getD e.on false = true) → (∀ j oj, ops[j]? = some oj → L.getD j false = true → ∀ e ∈ oj.after, Region.binds .any e = true → L.getD e.on false = true) → yieldsTo P ⟨putv ops vals 0 T₀, []⟩ o (WW L) (vals.getD i undef) (WW (L.setIfInBounds i true)))
 (hend : wpAny P .any ops Q' (ops.size - k) (Array.ofFn fun i : Fin ops.size => decide (i.val < k)) ⟨putv ops vals 0 T₀, ds⟩ (WW (Array.ofFn fun i : Fin ops.size => decide (i.val < k)))) : (Code.region id ops true).wp P Q' ⟨T₀, ds⟩ w := by
 have hk : k ≤ ops.size := by
  have := hback
  unfold backB at this
  simp only [Bool.and_eq_true, decide_eq_true_eq] at this
  exact this.1
 unfold chkV at hchk
 simp only [Bool.and_eq_true, List.all_eq_true, List.mem_range] at hchk
 obtain ⟨h1, h2⟩ := hchk
 have plain : ∀ i, i < k → ∃ o d, ops[i]? = some o ∧ o.guard = none ∧ o.dst = some d ∧ dstOf ops i = some d ∧ d < T₀.size ∧ (∀ cs b, o.op ≠ .select cs b) ∧ ∀ x ∈ o.op.operands, ∀ t, tmpOf x = some t → ∀ j, j < k → dstOf ops j = some t → waits ops i j = true := fun i hi => by
  have := h1 i hi
  cases ho : ops[i]? with
  | none => rw [ho] at this; cases this
  | some o =>
   rw [ho] at this
   simp only [Bool.and_eq_true] at this
   obtain ⟨⟨⟨a1, a2⟩, a3⟩, a4⟩ := this
   cases hd : o.dst with
   | none => rw [hd] at a2; cases a2
   | some d =>
    rw [hd] at a2
    refine ⟨o, d, rfl, Option.isNone_iff_eq_none.1 a1, hd, by unfold dstOf; rw [ho]; exact hd, by simpa using a2, (fun cs b h => by rw [h] at a3; cases a3), fun x hx t ht j hj hdj => ?_⟩
    rw [Array.all_eq_true_iff_forall_mem] at a4
    have := a4 x hx
    rw [ht] at this
    simp only [List.all_eq_true, List.mem_range] at this
    have := this j hj
    simpa [hdj] using this
 have apart : ∀ (i j : Nat) (d : Tmp), i < k → j < k → dstOf ops i = some d → dstOf ops j = some d → i = j := fun i j d hi hj hd hd' => by
  rcases Nat.lt_trichotomy i j with h | h | h
  · have := h2 j hj i h; rw [hd, hd'] at this; simp at this
  · exact h
  · have := h2 i hi j h; rw [hd, hd'] at this; simp at this
 have hTs : (putv ops vals 0 T₀).size = T₀.size := putv_size _ _ _
 have final : ∀ i x, i < k → dstOf ops i = some x → (putv ops vals 0 T₀)[x]? = some (vals.getD i undef) := fun i x hi hd => by
  obtain ⟨o, d, ho, _, _, hd', hlt, _⟩ := plain i hi
  rw [hd] at hd'
  obtain rfl := Option.some.inj hd'
  refine putv_at vals 0 _ i _ x (by simp [hlen, hi]) (by rw [Nat.zero_add]; exact hd) hlt fun m a b e => ?_
  have := apart m i x (by omega) hi e hd
  omega
 refine wp_region_inv hm hback hwait (fun L a w' => a.defers = ds ∧ a.tmps.size = T₀.size ∧ (∀ t, (∀ j, j < k → dstOf ops j ≠ some t) → a.tmps[t]? = T₀[t]?) ∧ (∀ j t, j < k → dstOf ops j = some t → L.getD j false = true → a.tmps[t]? = (putv ops vals 0 T₀)[t]?) ∧ w' = WW L ∧ (∀ j oj, ops[j]? = some oj → L.getD j false = true → ∀ e ∈ oj.after, Region.binds .any e = true → L.getD e.on false = true)) ?_ ?_ ?_
 · refine ⟨rfl, rfl, fun _ _ => rfl, fun j t _ _ hl => ?_, ?_⟩
   · exfalso
     simp [al_gd, Array.getElem?_replicate] at hl
     split at hl <;> simp at hl
   · refine ⟨by rw [hW0, h0], fun j oj _ hl => ?_⟩
     exfalso
     simp [al_gd, Array.getElem?_replicate] at hl
     split at hl <;> simp at hl
 · rintro L a w' i hL hi hun hdep ⟨hd, hsz, hout, hin, hw', hcl⟩
   obtain ⟨o, d, ho, hg, hdst, hdo, hlt, hsel, hops⟩ := plain i hi
   have hun' : L.getD i false = false := by
    have : i < L.size := by omega
    simp [this] at hun ⊢; exact hun
   have hex : execOp a.eval o = execOp (Act.mk (putv ops vals 0 T₀) []).eval o := by
    obtain ⟨tm, dd⟩ := a
    refine execOp_congr o hsel fun x hx => eval_agree fun t ht => ?_
    by_cases hxt : ∃ j, j < k ∧ dstOf ops j = some t
    · obtain ⟨j, hj, hdj⟩ := hxt
      obtain ⟨oi, hoi, e, he1, he2, he3⟩ := waits_iff.1 (hops x hx t ht j hj hdj)
      subst he3
      exact hin e.on t hj hdj (hdep oi hoi e he1 he2)
    · have hno : ∀ j, j < k → dstOf ops j ≠ some t := fun j hj hd => hxt ⟨j, hj, hd⟩
      rw [hout t hno]
      refine (putv_out vals 0 _ t fun j _ hj => hno j (by omega)).symm
   have hwan : Region.wanted o (yielded ops a.tmps) = true := by simp [Region.wanted, hg]
   have hnext : ∀ W', WW (L.setIfInBounds i true) = W' → (a.put o.dst (vals.getD i undef)).defers = ds ∧ (a.put o.dst (vals.getD i undef)).tmps.size = T₀.size ∧ (∀ t, (∀ j, j < k → dstOf ops j ≠ some t) → (a.put o.dst (vals.getD i undef)).tmps[t]? = T₀[t]?) ∧
    (∀ j t, j < k → dstOf ops j = some t → (L.setIfInBounds i true).getD j false = true → (a.put o.dst (vals.getD i undef)).tmps[t]? = (putv ops vals 0 T₀)[t]?) ∧ W' = WW (L.setIfInBounds i true) ∧ (∀ j oj, ops[j]? = some oj → (L.setIfInBounds i true).getD j false = true → ∀ e ∈ oj.after, Region.binds .any e = true → (L.setIfInBounds i true).getD e.on false = true) := by
    intro W' hW
    rw [hdst]
    refine ⟨hd, by simp [Act.put, hsz], fun t ht => ?_, fun j t hj hdj hl => ?_, hW.symm, fun j oj hoj hl e he hb => ?_⟩
    · have : d ≠ t := fun e => ht i hi (e ▸ hdo)
      simp only [Act.put]; rw [al_gn this]; exact hout t ht
    · by_cases e : d = t
      · subst e
        rw [final i d hi hdo]
        have : d < a.tmps.size := by rw [hsz]; exact hlt
        simp [Act.put, this]
      · simp only [Act.put]; rw [al_gn e]
        have hji : i ≠ j := fun e2 => by subst e2; rw [hdo] at hdj; exact e (Option.some.inj hdj)
        rw [getD_set_ne false hji] at hl
        exact hin j t hj hdj hl
    · by_cases hji : i = j
      · subst hji
        exact getD_set_true (hdep oj hoj e he hb)
      · rw [getD_set_ne false hji] at hl
        exact getD_set_true (hcl j oj hoj hl e he hb)
   unfold wpOp
   simp only [ho, hwan, if_true]
   refine .inl ?_
   subst hw'
   exact wp_of_yields hex (hstep L i o hL hi hun' ho (fun e he hb => hdep o ho e he hb) hcl) (hnext _ rfl)
 · rintro ⟨T, dd⟩ w' ⟨hd, hsz, hout, hin, hw', _⟩
   have hL : ∀ j, j < k → (Array.ofFn fun i : Fin ops.size => decide (i.val < k)).getD j false = true := fun j hj => by
    have : j < ops.size := by omega
    simp [this, hj]
   subst hw'
   simp only at hd hsz hout hin
   subst hd
   have : T = putv ops vals 0 T₀ := by
    apply Array.ext_getElem?
    intro x
    by_cases hx : ∃ j, j < k ∧ dstOf ops j = some x
    · obtain ⟨j, hj, hdj⟩ := hx
      exact hin j x hj hdj (hL j hj)
    · have hno : ∀ j, j < k → dstOf ops j ≠ some x := fun j hj hd => hx ⟨j, hj, hd⟩
      rw [hout x hno]
      exact (putv_out vals 0 _ x fun j _ hj => hno j (by omega)).symm
   rw [this]
   exact hend
theorem wp_region_two {id k s t : Nat} {Q' : Exit → Act → World → Prop} {T₀ : Array Value} {ds : List Deferred} {w W0 W1 W2 : World} (hm : P.follows .mixedOrders = true) (hback : backB .any ops k = true) (hwait : allWaitB .any ops k = true) (hchk : chkV ops k T₀.size = true) (hsk : s < k) (htk : t < k) (hst : s ≠ t) (hts : waits ops t s = true)
 (vals : List Value) (hlen : vals.length = k) (h0 : W0 = { w with drawn := w.drawn + 1 })
 (hread : ∀ i o, i < k → i ≠ s → i ≠ t → ops[i]? = some o → ∀ W, W = W0 ∨ W = W1 ∨ W = W2 → yieldsTo P ⟨putv ops vals 0 T₀, []⟩ o W (vals.getD i undef) W)
 (hone : ∀ o, ops[s]? = some o → yieldsTo P ⟨putv ops vals 0 T₀, []⟩ o W0 (vals.getD s undef) W1)
 (htwo : ∀ o, ops[t]? = some o → yieldsTo P ⟨putv ops vals 0 T₀, []⟩ o W1 (vals.getD t undef) W2)
 (hend : wpAny P .any ops Q' (ops.size - k) (Array.ofFn fun i : Fin ops.size => decide (i.val < k)) ⟨putv ops vals 0 T₀, ds⟩ W2) : (Code.region id ops true).wp P Q' ⟨T₀, ds⟩ w := by
 have hk : k ≤ ops.size := by
  have := hback
  unfold backB at this
  simp only [Bool.and_eq_true, decide_eq_true_eq] at this
  exact this.1
 have rep : ∀ j, (Array.replicate ops.size false).getD j false = false := fun j => by
  simp only [al_gd, Array.getElem?_replicate]
  split <;> rfl
 have full : ∀ j, j < k → (Array.ofFn fun i : Fin ops.size => decide (i.val < k)).getD j false = true := fun j hj => by
  have : j < ops.size := by omega
  simp [this, hj]
 refine wp_region_vals hm hback hwait hchk vals hlen h0 (fun L => if L.getD t false = true then W2 else if L.getD s false = true then W1 else W0) ?_ ?_ ?_
 · simp only [rep]; rfl
 · intro L i o hL hi hun ho hdep hcl
   have hiL : i < L.size := by omega
   by_cases his : i = s
   · subst his
     have ht : L.getD t false = false := by
      cases h : L.getD t false with
      | false => rfl
      | true =>
       obtain ⟨oi, hoi, e, he1, he2, he3⟩ := waits_iff.1 hts
       have := hcl t oi hoi h e he1 he2
       rw [he3, hun] at this
       cases this
     have e1 : (L.setIfInBounds i true).getD t false = L.getD t false := getD_set_ne false hst
     have e2 : (L.setIfInBounds i true).getD i false = true := by simp [hiL]
     simp only [e1, e2, ht, hun]
     exact hone o ho
   · by_cases hit : i = t
     · subst hit
       have hs : L.getD s false = true := by
        obtain ⟨oi, hoi, e, he1, he2, he3⟩ := waits_iff.1 hts
        rw [ho] at hoi
        obtain rfl := Option.some.inj hoi
        rw [← he3]
        exact hdep e he1 he2
       have e2 : (L.setIfInBounds i true).getD i false = true := by simp [hiL]
       simp only [e2, hs, hun]
       exact htwo o ho
     · have e1 : (L.setIfInBounds i true).getD t false = L.getD t false := getD_set_ne false hit
       have e2 : (L.setIfInBounds i true).getD s false = L.getD s false := getD_set_ne false his
       simp only [e1, e2]
       refine hread i o hi his hit ho _ ?_
       split
       · exact .inr (.inr rfl)
       · split
         · exact .inr (.inl rfl)
         · exact .inl rfl
 · simp only [full t htk, full s hsk]
   exact hend
end
end Go.Car
set_option maxHeartbeats 4000000
set_option maxRecDepth 100000
namespace Go.Proofs
open Go Go.Conc Go.RowKit Go.Car
structure OwnRest (mb : Nat) (row : Option Nat) (w w' : World) : Prop where
 size : w.heap.size ≤ w'.heap.size
 old : ∀ b, b < w.heap.size → b ≠ mb → row ≠ some b → w'.heap[b]? = w.heap[b]?
def OwnPost (mb bw W base : Nat) (tv : Value) (ws : List Int) (m : Mch) (c : Cd) (w : World) (e : Ending) (w' : World) : Prop :=
 e = .returned (.tuple #[]) ∧ ∃ tv', MachB mb bw W tv' ws (ownC c m) w' ∧ w'.ownsRow base 38 3 tv' (ownC c m).told.length (toldL (ownC c m).told) ∧ OwnRest mb tv.ownBlock w w' ∧ (tv' = tv ∨ ∃ g cap, tv' = .slice (some ⟨g, 0, none⟩) (ownC c m).told.length cap ∧ (tv.ownBlock = some g ∨ w.heap.size ≤ g) ∧ g < w'.heap.size)
theorem own_far {mb bw W base n : Nat} {tv : Value} {ws : List Int} {m : Mch} {xs : List Value} {w : World} (h : MachB mb bw W tv ws m w) (ho : w.ownsRow base 38 3 tv n xs) : tv.ownBlock ≠ some mb ∧ tv.ownBlock ≠ some bw ∧ ∀ g, tv.ownBlock = some g → g < w.heap.size := by
 rcases ho.2 with ⟨hv, _⟩ | ⟨g, cap, cur, hv, _, hh, _⟩
 · rw [hv]; exact ⟨by simp [Value.ownBlock], by simp [Value.ownBlock], by simp [Value.ownBlock]⟩
 · rw [hv]
   simp only [Value.ownBlock]
   refine ⟨fun e => ?_, fun e => ?_, fun g' e => ?_⟩
   · cases e; rw [h.hm] at hh; simp at hh
   · cases e; rw [h.hw] at hh; simp at hh
   · cases e; exact zq4 hh
theorem ownsRow_of {base n : Nat} {tv : Value} {xs : List Value} {w w' : World} {T : TypeId} {k : Nat} (h : w.ownsRow base T k tv n xs) (hs : ∀ g, tv.ownBlock = some g → w'.heap[g]? = w.heap[g]?) : w'.ownsRow base T k tv n xs := by
 refine ⟨h.1, ?_⟩
 rcases h.2 with hv | ⟨g, cap, cur, hv, h1, h2, h3⟩
 · exact .inl hv
 · exact .inr ⟨g, cap, cur, hv, h1, (hs g (by rw [hv]; rfl)).trans h2, h3⟩
theorem own_ne {base n k b : Nat} {tv : Value} {xs : List Value} {w : World} {T T' : TypeId} {c : Array Value} {f : Nat × Nat} (h : w.ownsRow base T k tv n xs) (hb : w.heap[b]? = some (.cells c T' f)) (hne : T ≠ T') : tv.ownBlock ≠ some b := by
 intro e
 rcases h.2 with ⟨hv, _⟩ | ⟨g, cap, cur, hv, _, hh, _⟩
 · rw [hv] at e; cases e
 · rw [hv] at e
   simp only [Value.ownBlock, al_oi] at e
   subst e
   rw [hh] at hb
   simp only [al_oi, Obj.cells.injEq] at hb
   exact hne hb.2.1
theorem ownPost_same {mb bw W base : Nat} {tv : Value} {ws : List Int} {m m' : Mch} {c : Cd} {w w' : World} (h : MachB mb bw W tv ws m w) (ho : w.ownsRow base 38 3 tv m.told.length (toldL m.told)) (hm : ownC c m = m') (ht : m'.told = m.told) (H : MachB mb bw W tv ws m' w') (R : Rest mb bw w w') : OwnPost mb bw W base tv ws m c w (.returned (.tuple #[])) w' := by
 obtain ⟨h1, h2, h3⟩ := own_far h ho
 subst hm
 refine ⟨rfl, tv, H, ?_, ⟨R.size, fun b hb hm _ => ?_⟩, .inl rfl⟩
 · rw [ht]
   exact ownsRow_of ho fun g hg => R.old g (h3 g hg) (fun e => h1 (e ▸ hg)) (fun e => h2 (e ▸ hg))
 · by_cases hbw : b = bw
   · subst hbw; exact H.hw.trans h.hw.symm
   · exact R.old b hb hm hbw
theorem own_lone (mb bw W base : Nat) (tv : Value) (ws : List Int) (m : Mch) (c : Cd) (w : World) (h : MachB mb bw W tv ws m w) (ho : w.ownsRow base 38 3 tv m.told.length (toldL m.told)) (hlen : m.told.length < 8589934592) (hbase : base ≤ w.heap.size) :
 Calls Try.prog 50 #[.pointer (some ⟨mb, 0, none⟩), cdV c] w fun e w' => OwnPost mb bw W base tv ws m c w e w' := by
 obtain ⟨d, r, a, b, v⟩ := c
 have hbw := zq4 h.hw
 have hmb := zq4 h.hm
 have h1 := h.al (.cells #[.int .i64 d, .int .i64 r, .int .i64 a, .int .i64 b, .int .i64 v] 74)
 have hR := (Rest.refl mb bw w).al (.cells #[.int .i64 d, .int .i64 r, .int .i64 a, .int .i64 b, .int .i64 v] 74)
 have hB := al_new w (.cells #[.int .i64 d, .int .i64 r, .int .i64 a, .int .i64 b, .int .i64 v] 74)
 have hn := h.ne
 have hout : ∀ (m' : Mch) (w' : World), ownC ⟨d, r, a, b, v⟩ m = m' → m'.told = m.told → MachB mb bw W tv ws m' w' → Rest mb bw w w' → OwnPost mb bw W base tv ws m ⟨d, r, a, b, v⟩ w (.returned (.tuple #[])) w' := fun m' w' e ht H R => ownPost_same h ho e ht H R
 have HT := Lib.hid (And.intro ho (own_far h ho))
 have HW0 := Lib.hid h.hw
 clear h ho
 unfold cdV
 go_enter Try.func50, Try.ntmps50
 go_wp2
 generalize w.alloc (.cells #[.int .i64 d, .int .i64 r, .int .i64 a, .int .i64 b, .int .i64 v] 74) = w1 at *
 obtain ⟨B0, hB0⟩ : ∃ x, w.heap.size = x := ⟨_, rfl⟩
 rw [hB0] at hB hbw hmb ⊢
 have cn := h1.cn
 have cra := h1.cr (ix_lt a)
 have crb := h1.cr (ix_lt b)
 have fz6 := h1.fm 6
 have b0 : w1.cell? ⟨B0, 0, none⟩ = some (.int .i64 d) := (zq1 hB).trans rfl
 have b1 : w1.cell? ⟨B0, 1, none⟩ = some (.int .i64 r) := (zq1 hB).trans rfl
 have b2 : w1.cell? ⟨B0, 2, none⟩ = some (.int .i64 a) := (zq1 hB).trans rfl
 have b3 : w1.cell? ⟨B0, 3, none⟩ = some (.int .i64 b) := (zq1 hB).trans rfl
 have b4 : w1.cell? ⟨B0, 4, none⟩ = some (.int .i64 v) := (zq1 hB).trans rfl
 obtain ⟨y, hy⟩ : ∃ y, m.regs (ix a) = y := ⟨_, rfl⟩
 obtain ⟨z, hz⟩ : ∃ z, m.regs (ix b) = z := ⟨_, rfl⟩
 rw [hy] at cra
 rw [hz] at crb
 have H1 := Lib.hid h1
 have HR := Lib.hid hR
 have HO := Lib.hid hout
 have HY := Lib.hid (And.intro hy hz)
 have HS := Lib.hid hB0
 clear h1 hR hB hB0 hout hy hz
 have i6 : ¬ (1 + ix r = 6) := by have := ix_lt r; omega
 have i6' : ¬ (6 = 1 + ix r) := by have := ix_lt r; omega
 have hne' : ¬ (mb = bw) := hn
 have hne2 : ¬ (bw = mb) := fun e => hn e.symm
 have hB1 : ¬ (mb = B0) := by omega
 have hB2 : ¬ (B0 = mb) := by omega
 go_quiet (first | (go_at_call 52; refine Calls.quiet_of_same (register_lone _ _ _)))
 by_cases e1 : d = 1
 · subst e1
   go_wp2_with (fail)
   have H2 := (H1.out.same (w' := w1.drewN nq) rfl rfl).setN (wrap64 (m.next + 1))
   have R2 := Rest.setM (HR.out.drew nq) 6 (.int .i64 (wrap64 (m.next + 1)))
   have d1 : ((w1.drewN nq).setCell ⟨mb, 6, none⟩ (.int .i64 (wrap64 (m.next + 1)))).cell? ⟨B0, 1, none⟩ = some (.int .i64 r) := (zqe (zqa _ _ _ _ hB2)).trans b1
   have d4 : ((w1.drewN nq).setCell ⟨mb, 6, none⟩ (.int .i64 (wrap64 (m.next + 1)))).cell? ⟨B0, 4, none⟩ = some (.int .i64 v) := (zqe (zqa _ _ _ _ hB2)).trans b4
   generalize ((w1.drewN nq).setCell ⟨mb, 6, none⟩ (.int .i64 (wrap64 (m.next + 1)))) = w2 at *
   have fz1 := H2.fm (1 + ix r)
   have er1 := H2.cr (ix_lt r)
   clear b0 b1 b2 b3 b4 cra crb fz6 cn
   rw [wrap64_eq] at H2
   have H3 := Lib.hid H2
   have R3 := Lib.hid R2
   clear H2 R2
   refine wp_region_pre (k := 7) (C := fun w' => ∃ n, w' = w2.drewN n) (by kernel_rfl) (by kernel_rfl) (by kernel_rfl) (by kernel_rfl) (by kernel_rfl) ⟨1, rfl⟩ ?_
   simp only [List.take_succ_cons, List.take_zero]
   repeat (quiet_step (first | (go_at_call 52; refine Calls.quiet_of_same (register_lone _ _ _))))
   refine wpQuiet_nil ?_
   rintro w' ⟨nq, rfl⟩
   refine wpAny_one (i := 7) (by kernel_rfl) ?_
   simp only [wpOp, al_gl, al_g0, al_g1]
   rw [if_pos (by rfl)]
   refine .inl ?_
   go_simp
   refine wpAny_end (by kernel_rfl) ?_
   go_wp2
   go_end0
   refine HO.out (m.on.set (ix r) v) _ (by simp [ownC]) rfl ?_ ?_
   · exact (H3.out.same (w' := w2.drewN nq) rfl rfl).setR (ix_lt r) v
   · exact Rest.setM (R3.out.drew nq) _ _
 by_cases e2 : d = 2
 · subst e2
   go_wp2_with (fail)
   have H2 := (H1.out.same (w' := w1.drewN nq) rfl rfl).setN (wrap64 (m.next + 1))
   have R2 := Rest.setM (HR.out.drew nq) 6 (.int .i64 (wrap64 (m.next + 1)))
   have d1 : ((w1.drewN nq).setCell ⟨mb, 6, none⟩ (.int .i64 (wrap64 (m.next + 1)))).cell? ⟨B0, 1, none⟩ = some (.int .i64 r) := (zqe (zqa _ _ _ _ hB2)).trans b1
   have d4 : ((w1.drewN nq).setCell ⟨mb, 6, none⟩ (.int .i64 (wrap64 (m.next + 1)))).cell? ⟨B0, 4, none⟩ = some (.int .i64 v) := (zqe (zqa _ _ _ _ hB2)).trans b4
   generalize ((w1.drewN nq).setCell ⟨mb, 6, none⟩ (.int .i64 (wrap64 (m.next + 1)))) = w2 at *
   have fz1 := H2.fm (1 + ix r)
   have er1 := H2.cr (ix_lt r)
   clear b0 b1 b2 b3 b4 cra crb fz6 cn
   rw [wrap64_eq] at H2
   have H3 := Lib.hid H2
   have R3 := Lib.hid R2
   clear H2 R2
   refine Calls.mono (register_lone _ _ _) ?_
   rintro e w' ⟨rfl, rfl⟩
   go_wp2
   go_end0
   refine HO.out (m.on.set (ix r) y) _ (by rw [← HY.out.1]; simp [ownC]) rfl ?_ ?_
   · exact H3.out.setR (ix_lt r) y
   · exact Rest.setM R3.out _ _
 by_cases e3 : d = 3
 · subst e3
   go_wp2_with (fail)
   have H2 := (H1.out.same (w' := w1.drewN nq) rfl rfl).setN (wrap64 (m.next + 1))
   have R2 := Rest.setM (HR.out.drew nq) 6 (.int .i64 (wrap64 (m.next + 1)))
   have d1 : ((w1.drewN nq).setCell ⟨mb, 6, none⟩ (.int .i64 (wrap64 (m.next + 1)))).cell? ⟨B0, 1, none⟩ = some (.int .i64 r) := (zqe (zqa _ _ _ _ hB2)).trans b1
   have d4 : ((w1.drewN nq).setCell ⟨mb, 6, none⟩ (.int .i64 (wrap64 (m.next + 1)))).cell? ⟨B0, 4, none⟩ = some (.int .i64 v) := (zqe (zqa _ _ _ _ hB2)).trans b4
   generalize ((w1.drewN nq).setCell ⟨mb, 6, none⟩ (.int .i64 (wrap64 (m.next + 1)))) = w2 at *
   have fz1 := H2.fm (1 + ix r)
   have er1 := H2.cr (ix_lt r)
   clear b0 b1 b2 b3 b4 cra crb fz6 cn
   rw [wrap64_eq] at H2
   have H3 := Lib.hid H2
   have R3 := Lib.hid R2
   clear H2 R2
   refine Calls.mono (register_lone _ _ _) ?_
   rintro e w' ⟨rfl, rfl⟩
   go_wp2
   go_end0
   refine HO.out (m.on.set (ix r) (IntKind.i64.wrap (y + z))) _ (by rw [← HY.out.1, ← HY.out.2]; simp [ownC]) rfl ?_ ?_
   · try simp only [wrap64_eq]
     exact H3.out.setR (ix_lt r) _
   · exact Rest.setM R3.out _ _
 by_cases e4 : d = 4
 · subst e4
   by_cases hyz : y = z
   · go_wp2_with (fail)
     have hz : m.regs (ix a) = m.regs (ix b) := by rw [HY.out.1, HY.out.2]; omega
     go_end0
     refine HO.out { m.on with next := v } _ (by simp [ownC, hz]) rfl ?_ ?_
     · try simp only [wrap64_eq]
       exact ((H1.out.same (w' := w1.drewN nq) rfl rfl).setN _).setN v
     · exact Rest.setM (Rest.setM (HR.out.drew nq) _ _) _ _
   · go_wp2_with (fail)
     have hz : ¬ m.regs (ix a) = m.regs (ix b) := by rw [HY.out.1, HY.out.2]; omega
     go_end0
     refine HO.out m.on _ (by simp [ownC, hz]) rfl ?_ ?_
     · try simp only [wrap64_eq]
       exact (H1.out.same (w' := w1.drewN nq) rfl rfl).setN _
     · exact Rest.setM (HR.out.drew nq) _ _
 by_cases e5 : d = 5
 · subst e5
   by_cases hyz : y < z
   · go_wp2_with (fail)
     have hz : m.regs (ix a) < m.regs (ix b) := by rw [HY.out.1, HY.out.2]; omega
     go_end0
     refine HO.out { m.on with next := v } _ (by simp [ownC, hz]) rfl ?_ ?_
     · try simp only [wrap64_eq]
       exact ((H1.out.same (w' := w1.drewN nq) rfl rfl).setN _).setN v
     · exact Rest.setM (Rest.setM (HR.out.drew nq) _ _) _ _
   · go_wp2_with (fail)
     have hz : ¬ m.regs (ix a) < m.regs (ix b) := by rw [HY.out.1, HY.out.2]; omega
     go_end0
     refine HO.out m.on _ (by simp [ownC, hz]) rfl ?_ ?_
     · try simp only [wrap64_eq]
       exact (H1.out.same (w' := w1.drewN nq) rfl rfl).setN _
     · exact Rest.setM (HR.out.drew nq) _ _
 by_cases e6 : d = 6
 · subst e6
   go_wp2_with (fail)
   have H2 := (H1.out.same (w' := w1.drewN nq) rfl rfl).setN (wrap64 (m.next + 1))
   have R2 := Rest.setM (HR.out.drew nq) 6 (.int .i64 (wrap64 (m.next + 1)))
   have d1 : ((w1.drewN nq).setCell ⟨mb, 6, none⟩ (.int .i64 (wrap64 (m.next + 1)))).cell? ⟨B0, 1, none⟩ = some (.int .i64 r) := (zqe (zqa _ _ _ _ hB2)).trans b1
   have d4 : ((w1.drewN nq).setCell ⟨mb, 6, none⟩ (.int .i64 (wrap64 (m.next + 1)))).cell? ⟨B0, 4, none⟩ = some (.int .i64 v) := (zqe (zqa _ _ _ _ hB2)).trans b4
   generalize ((w1.drewN nq).setCell ⟨mb, 6, none⟩ (.int .i64 (wrap64 (m.next + 1)))) = w2 at *
   have fz1 := H2.fm (1 + ix r)
   have er1 := H2.cr (ix_lt r)
   clear b0 b1 b2 b3 b4 cra crb fz6 cn
   rw [wrap64_eq] at H2
   have H3 := Lib.hid H2
   have R3 := Lib.hid R2
   clear H2 R2
   obtain ⟨x, hx⟩ : ∃ x, m.regs (ix r) = x := ⟨_, rfl⟩
   rw [show ({ m with next := IntKind.i64.wrap (m.next + 1) } : Mch).regs (ix r) = x from hx] at er1
   have HQ := Lib.hid hx
   clear hx
   obtain ⟨H, hH⟩ : ∃ H, w2.heap.size = H := ⟨_, rfl⟩
   have ct := H3.out.ct
   obtain ⟨ti, hti, hz0, hz1, hz2⟩ : ∃ ti, Try.prog.info? 38 = some ti ∧ ti.zero = some (.agg #[.bool false, .int .i64 0, .slice none 0 0]) ∧ ti.size = 3 ∧ ti.bytes = 40 := ⟨_, rfl, rfl, rfl, rfl⟩
   obtain ⟨ho0, f1, f2, f3⟩ := HT.out
   have R4 := (R3.out.drew 1).al (.cells #[.bool true, .int .i64 x, .slice none 0 0] 38)
   have hrow : ((w2.drewN 1).alloc (.cells #[.bool true, .int .i64 x, .slice none 0 0] 38)).ownsRow base 38 3 tv m.told.length (toldL m.told) := ownsRow_of ho0 fun g hg => R4.old g (f3 g hg) (fun e => f1 (e ▸ hg)) fun e => f2 (e ▸ hg)
   have hn4 := al_new (w2.drewN 1) (.cells #[.bool true, .int .i64 x, .slice none 0 0] 38)
   obtain ⟨g, cap, w5, hrun, hown, hgrow, hat, hlt5⟩ := run_append_lies (P := Try.prog) ((w2.drewN 1).alloc (.cells #[.bool true, .int .i64 x, .slice none 0 0] 38)) 36 36 base 38 ti (.agg #[.bool false, .int .i64 0, .slice none 0 0]) 3 40 (by kernel_rfl) hti hz0 hz1 hz2 (by rfl) (by decide) tv m.told.length (toldL m.told) hrow ⟨H, 0, none⟩ 1 1 [.bool true, .int .i64 x, .slice none 0 0] rfl (World.news_of_block (by rw [← hH]; exact hn4)) (by simp [Value.oneCell']) (by decide) (by simp only [maxLen]; omega) (by omega) (by have := R4.size; have := HS.out; omega) _ rfl
   have hb : ∀ b, b < w2.heap.size → tv.ownBlock ≠ some b → w5.heap[b]? = w2.heap[b]? := fun b hb hne => (hgrow.block b (by rw [zq8]; exact Nat.lt_succ_of_lt hb) (fun e => hne e.symm)).trans (by rw [zqc, if_neg (by show b ≠ w2.heap.size; omega)]; rfl)
   have htb := zq4 H3.out.hm
   have h5m := hb mb htb f1
   have H5 := H3.out.same h5m (hb bw (zq4 H3.out.hw) f2)
   have hBw : B0 < w2.heap.size := cell_lt d1
   have h5B := hb B0 hBw fun e => by have := f3 _ e; have := HS.out; omega
   have hct : ∀ W, W = w2.drewN 1 ∨ W = (w2.drewN 1).alloc (.cells #[.bool true, .int .i64 x, .slice none 0 0] 38) ∨ W = w5 → ∀ b, b = mb ∨ b = B0 → ∀ o v, w2.cell? ⟨b, o, none⟩ = some v → W.cell? ⟨b, o, none⟩ = some v := by
    rintro W (rfl | rfl | rfl) b hbb o v hv
    · exact hv
    · exact (zqe (by rw [zqc, if_neg (by show b ≠ w2.heap.size; rcases hbb with e | e <;> rw [e] <;> omega)]; rfl)).trans hv
    · rcases hbb with rfl | rfl
      · exact (zqe h5m).trans hv
      · exact (zqe h5B).trans hv
   refine wp_region_two (k := 14) (s := 12) (t := 13) (W0 := w2.drewN 1) (W1 := (w2.drewN 1).alloc (.cells #[.bool true, .int .i64 x, .slice none 0 0] 38)) (W2 := w5) (by kernel_rfl) (by kernel_rfl) (by kernel_rfl) (by kernel_rfl) (by decide) (by decide) (by decide) (by kernel_rfl)
    [.pointer (some ⟨mb, 0, none⟩), .pointer (some ⟨mb, 0, none⟩), .pointer (some ⟨mb, 0, none⟩), .pointer (some ⟨mb, 5, none⟩), tv, .pointer (some ⟨mb, 0, none⟩), .pointer (some ⟨B0, 1, none⟩), .int .i64 r, .pointer (some ⟨mb, 1 + ix r, none⟩), .pointer (some ⟨mb, 1 + ix r, none⟩), .int .i64 x, .agg #[.bool true, .int .i64 x, .slice none 0 0], .slice (some ⟨H, 0, none⟩) 1 1, .slice (some ⟨g, 0, none⟩) (m.told.length + 1) cap] rfl rfl ?_ ?_ ?_ ?_
   · intro i o hi his hit ho W hWW
     replace ct := hct W hWW mb (.inl rfl) _ _ ct
     replace er1 := hct W hWW mb (.inl rfl) _ _ er1
     replace d1 := hct W hWW B0 (.inr rfl) _ _ d1
     clear hWW hct d4
     simp only [putv, dstOf, al_gl, al_g0, al_g1, al_ob, al_g2, List.set_cons_succ, List.set_cons_zero]
     obtain rfl | rfl | rfl | rfl | rfl | rfl | rfl | rfl | rfl | rfl | rfl | rfl : i = 8 ∨ i = 0 ∨ i = 1 ∨ i = 2 ∨ i = 3 ∨ i = 4 ∨ i = 5 ∨ i = 6 ∨ i = 7 ∨ i = 9 ∨ i = 10 ∨ i = 11 := by omega
     · simp only [al_gl, al_g0, al_g1, al_oi] at ho
       subst ho
       refine .inr ⟨52, #[.pointer (some ⟨mb, 0, none⟩), .int .i64 r], ?_, register_lone _ _ _⟩
       simp [go_sem, execOp, Act.eval, resolve, Deferred.ofValue, invoke, callFunc, Try.func52, Try.f52]
     all_goals (simp only [al_gl, al_g0, al_g1, al_oi] at ho; subst ho; refine .inl ?_)
     all_goals (simp only [execOp, Act.eval, al_gd, al_gl, al_g0, al_g1, al_od])
     all_goals (try go_simp)
   · intro o ho
     simp only [putv, dstOf, al_gl, al_g0, al_g1, al_ob, al_g2, List.set_cons_succ, List.set_cons_zero]
     simp only [al_gl, al_g0, al_g1, al_oi] at ho; subst ho; refine .inl ?_
     simp only [execOp, Act.eval, al_gd, al_gl, al_g0, al_g1, al_od]
     go_simp
   · intro o ho
     simp only [putv, dstOf, al_gl, al_g0, al_g1, al_ob, al_g2, List.set_cons_succ, List.set_cons_zero]
     simp only [al_gl, al_g0, al_g1, al_oi] at ho; subst ho; refine .inl ?_
     unfold execOp
     simp only [resolve, invoke, builtin, Sem.run_bind, Sem.run_pure, Result.andThen_ok, List.map_toArray, List.map_cons, List.map_nil, Act.eval, al_gd, al_gl, al_g0, al_g1, al_od, hrun]
     rfl
   simp only [putv, dstOf, al_gl, al_g0, al_g1, al_ob, al_g2, List.set_cons_succ, List.set_cons_zero]
   have ct5 := H5.ct
   have fz5 := H5.fm 5
   have H6 := Lib.hid H5
   have HA := Lib.hid (And.intro hown (And.intro hgrow (And.intro hat (And.intro hlt5 (And.intro R4 (And.intro h5m f1))))))
   clear H5 hown hgrow hat hlt5 hrow hn4 R4 hti hz0 hz1 hz2 ho0 f1 f2 f3 hct hrun h5m h5B hb d1 d4 er1 ct
   refine wpAny_one (i := 14) (by kernel_rfl) ?_
   simp only [wpOp, al_gl, al_g0, al_g1]
   rw [if_pos (by rfl)]
   refine .inl ?_
   go_simp
   refine wpAny_one (i := 15) (by kernel_rfl) ?_
   simp only [wpOp, al_gl, al_g0, al_g1]
   rw [if_pos (by rfl)]
   refine .inl ?_
   go_simp
   refine wpAny_one (i := 16) (by kernel_rfl) ?_
   simp only [wpOp, al_gl, al_g0, al_g1]
   rw [if_pos (by rfl)]
   refine .inl ?_
   go_simp
   refine wpAny_end (by kernel_rfl) ?_
   clear ct5 fz5
   go_wp2
   go_end0
   obtain ⟨hown, hgrow, hat, hlt5, R4, h5m, f1⟩ := HA.out
   have hq := HQ.out
   have H7 := H6.out.setT (.slice (some ⟨g, 0, none⟩) (m.told.length + 1) cap)
   have hs4 := R4.size
   have hfar := own_ne hown H6.out.hm (by decide)
   have eo : ownC ⟨6, r, a, b, v⟩ m = { m.on with told := m.told ++ [m.regs (ix r)] } := by simp [ownC]
   refine ⟨rfl, .slice (some ⟨g, 0, none⟩) (m.told.length + 1) cap, ?_, ?_, ⟨?_, fun b hb hm hrow => ?_⟩, .inr ⟨g, cap, ?_, ?_, ?_⟩⟩
   · rw [eo]; exact ⟨H7.ne, H7.len, H7.hm, H7.hw⟩
   · rw [eo]
     refine ownsRow_of (w := w5) ?_ fun g' hg' => zqa _ _ _ _ (fun e => hfar (by rw [hg', show g' = mb from e]))
     show w5.ownsRow base _ 3 _ (m.told ++ [m.regs (ix r)]).length (toldL (m.told ++ [m.regs (ix r)]))
     rw [hq]
     simpa [toldL] using hown
   · rw [hp_size_set]; exact Nat.le_trans R4.size hgrow.size
   · rw [zqa _ _ _ _ hm]
     have hbb : b < ((w2.drewN 1).alloc (.cells #[.bool true, .int .i64 x, .slice none 0 0] 38)).heap.size := Nat.lt_of_lt_of_le hb R4.size
     by_cases hw : b = bw
     · subst hw
       have h8 := H6.out.hw
       rw [h8]
       exact HW0.out.symm
     · exact (hgrow.block b hbb (fun e => hrow e.symm)).trans (R4.old b hb hm hw)
   · rw [eo]; simp
   · rcases hat with h | h
     · exact .inl h
     · right; rw [h]; exact R4.size
   · rw [hp_size_set]; exact hlt5
 go_wp2_with (fail)
 go_end0
 refine HO.out m.on _ (by simp [ownC, e1, e2, e3, e4, e5, e6]) rfl ?_ ?_
 · try simp only [wrap64_eq]
   exact (H1.out.same (w' := w1.drewN nq) rfl rfl).setN _
 · exact Rest.setM (HR.out.drew nq) _ _
set_option maxHeartbeats 1000000
theorem step_lone (mb bw W : Nat) (tv : Value) (ws : List Int) (m : Mch) (c : Cd) (w : World) (h : MachB mb bw W tv ws m w) (hc : isStep W c = true) :
 Calls Try.prog 49 #[.pointer (some ⟨mb, 0, none⟩), cdV c] w fun e w' => StepPost mb bw W tv ws m c w e w' := by
 have hd : 7 ≤ c.d ∧ c.d ≤ 11 := by
  unfold isStep at hc
  simp only [Bool.and_eq_true, decide_eq_true_eq] at hc
  exact hc.1.1
 by_cases h7 : c.d = 7
 · exact step_load mb bw W tv ws m c w h hc h7
 by_cases h8 : c.d = 8
 · exact step_store mb bw W tv ws m c w h hc h8
 by_cases h9 : c.d = 9
 · exact step_add mb bw W tv ws m c w h hc h9
 by_cases h10 : c.d = 10
 · exact step_swap mb bw W tv ws m c w h hc h10
 have h11 : c.d = 11 := by omega
 by_cases hx : ws.getD c.a.toNat 0 = m.regs (ix c.b)
 · exact step_hit mb bw W tv ws m c w h hc h11 hx
 · exact step_miss mb bw W tv ws m c w h hc h11 hx
end Go.Proofs
set_option maxHeartbeats 1000000
namespace Go.Car
open Go Go.RowKit
section
variable {P : Program} {st : Bool}
theorem tame_aread (t : Extern.Atomic.T) (a : Addr) : tame P st (Extern.Atomic.read t a) := by
 unfold Extern.Atomic.read
 repeat' (first | with_reducible exact Tm.out | with_reducible exact zqd _ (fun _ => zq0 (zqb _) fun _ => zq9 _) _ | with_reducible refine zq5 ?_ | with_reducible refine zq0 ?_ (fun _ => ?_) | split | simp only [])
instance (t : Extern.Atomic.T) (a : Addr) : Tm P st (Extern.Atomic.read t a) := ⟨tame_aread t a⟩
theorem tame_loadT (t : Extern.Atomic.T) (x : Array Value) : tame P true (Extern.Atomic.loadT t x) := by
 unfold Extern.Atomic.loadT
 rcases x with ⟨_ | ⟨a, _ | ⟨b, l⟩⟩⟩
 · exact tame_stuck _
 rotate_left
 · exact tame_stuck _
 change tame P true (do Extern.Atomic.read t (← asAddr a))
 repeat' (first | with_reducible exact Tm.out | with_reducible exact zqd _ (fun _ => zq0 (zqb _) fun _ => zq9 _) _ | with_reducible refine zq5 ?_ | with_reducible refine zq0 ?_ (fun _ => ?_) | split | simp only [])
theorem tame_storeT (x : Array Value) : tame P true (Extern.Atomic.storeT x) := by
 unfold Extern.Atomic.storeT
 rcases x with ⟨_ | ⟨a, _ | ⟨b, _ | ⟨c, l⟩⟩⟩⟩
 · exact tame_stuck _
 · exact tame_stuck _
 rotate_left
 · exact tame_stuck _
 change tame P true (do store (← asAddr a) b .atomic; pure Extern.Atomic.none_)
 repeat' (first | with_reducible exact Tm.out | with_reducible exact zqd _ (fun _ => zq0 (zqb _) fun _ => zq9 _) _ | with_reducible refine zq5 ?_ | with_reducible refine zq0 ?_ (fun _ => ?_) | split | simp only [])
theorem tame_swapT (t : Extern.Atomic.T) (x : Array Value) : tame P true (Extern.Atomic.swapT t x) := by
 unfold Extern.Atomic.swapT
 rcases x with ⟨_ | ⟨a, _ | ⟨b, _ | ⟨c, l⟩⟩⟩⟩
 · exact tame_stuck _
 · exact tame_stuck _
 rotate_left
 · exact tame_stuck _
 change tame P true (do let a ← asAddr a; let old ← Extern.Atomic.read t a; store a b .atomic; pure old)
 repeat' (first | with_reducible exact Tm.out | with_reducible exact zqd _ (fun _ => zq0 (zqb _) fun _ => zq9 _) _ | with_reducible refine zq5 ?_ | with_reducible refine zq0 ?_ (fun _ => ?_) | split | simp only [])
theorem tame_update (k : IntKind) (b : Bool) (x : Array Value) : tame P true (Extern.Atomic.update (Op.intArith .add) k b x) := by
 unfold Extern.Atomic.update
 rcases x with ⟨_ | ⟨a, _ | ⟨y, _ | ⟨c, l⟩⟩⟩⟩
 · exact tame_stuck _
 · exact tame_stuck _
 rotate_left
 · exact tame_stuck _
 change tame P true (do let a ← asAddr a; let old ← Extern.Atomic.read (.int k) a; let new ← Op.intArith .add k (← asInt old) (← asInt y); store a new .atomic; pure (if b then new else old))
 repeat' (first | with_reducible exact Tm.out | with_reducible exact zqd _ (fun _ => zq0 (zqb _) fun _ => zq9 _) _ | with_reducible refine zq5 ?_ | with_reducible refine zq0 ?_ (fun _ => ?_) | split | simp only [])
theorem tame_anyM {α : Type} (f : α → Sem Bool) (h : ∀ a, tame P st (f a)) (l : List α) : tame P st (l.anyM f) := by
 induction l with
 | nil => exact zq9 _
 | cons a l ih =>
  rw [List.anyM]
  refine zq0 (h a) fun b => ?_
  cases b
  · exact ih
  · exact zq9 _
theorem tame_touches (a : Addr) : tame P st (Extern.Atomic.touchesFrozen a) := by
 unfold Extern.Atomic.touchesFrozen
 refine zq0 (tame_viewAt _) fun v => ?_
 split
 · exact tame_frozen _
 · refine zq0 (tame_typeInfo _) fun i => ?_
   simp only []
   split
   · exact tame_u4 _
   · exact tame_anyM _ (fun _ => tame_frozen _) _
instance (a : Addr) : Tm P st (Extern.Atomic.touchesFrozen a) := ⟨tame_touches a⟩
theorem tame_casT (t : Extern.Atomic.T) (x : Array Value) : tame P true (Extern.Atomic.casT t x) := by
 unfold Extern.Atomic.casT
 rcases x with ⟨_ | ⟨a, _ | ⟨b, _ | ⟨c, _ | ⟨d, l⟩⟩⟩⟩⟩
 · exact tame_stuck _
 · exact tame_stuck _
 · exact tame_stuck _
 rotate_left
 · exact tame_stuck _
 change tame P true (asAddr a >>= _)
 repeat' (first | with_reducible exact Tm.out | with_reducible exact zqd _ (fun _ => zq0 (zqb _) fun _ => zq9 _) _ | with_reducible refine zq5 ?_ | with_reducible refine zq0 ?_ (fun _ => ?_) | split | simp only [])
instance (t : Extern.Atomic.T) (a : Addr) : Stdy P (Extern.Atomic.read t a) := ⟨by
 unfold Extern.Atomic.read
 repeat' (first | with_reducible exact Stdy.out | with_reducible refine zq6 ?_ | with_reducible refine zq7 ?_ (fun _ => ?_) | with_reducible refine zq3 ?_ (fun _ => ?_) | exact fun _ _ => rfl | split | simp only [])⟩
theorem steady_loadT (t : Extern.Atomic.T) (x : Array Value) : zq2 P (Extern.Atomic.loadT t x) := by
 unfold Extern.Atomic.loadT
 rcases x with ⟨_ | ⟨a, _ | ⟨b, l⟩⟩⟩
 · exact steady_halt _
 rotate_left
 · exact steady_halt _
 change zq2 P (do Extern.Atomic.read t (← asAddr a))
 repeat' (first | with_reducible exact Stdy.out | with_reducible refine zq6 ?_ | with_reducible refine zq7 ?_ (fun _ => ?_) | with_reducible refine zq3 ?_ (fun _ => ?_) | exact fun _ _ => rfl | split | simp only [])
theorem steady_storeT (x : Array Value) : zq2 P (Extern.Atomic.storeT x) := by
 unfold Extern.Atomic.storeT
 rcases x with ⟨_ | ⟨a, _ | ⟨b, _ | ⟨c, l⟩⟩⟩⟩
 · exact steady_halt _
 · exact steady_halt _
 rotate_left
 · exact steady_halt _
 change zq2 P (do store (← asAddr a) b .atomic; pure Extern.Atomic.none_)
 repeat' (first | with_reducible exact Stdy.out | with_reducible refine zq6 ?_ | with_reducible refine zq7 ?_ (fun _ => ?_) | with_reducible refine zq3 ?_ (fun _ => ?_) | exact fun _ _ => rfl | split | simp only [])
theorem steady_swapT (t : Extern.Atomic.T) (x : Array Value) : zq2 P (Extern.Atomic.swapT t x) := by
 unfold Extern.Atomic.swapT
 rcases x with ⟨_ | ⟨a, _ | ⟨b, _ | ⟨c, l⟩⟩⟩⟩
 · exact steady_halt _
 · exact steady_halt _
 rotate_left
 · exact steady_halt _
 change zq2 P (do let a ← asAddr a; let old ← Extern.Atomic.read t a; store a b .atomic; pure old)
 repeat' (first | with_reducible exact Stdy.out | with_reducible refine zq6 ?_ | with_reducible refine zq7 ?_ (fun _ => ?_) | with_reducible refine zq3 ?_ (fun _ => ?_) | exact fun _ _ => rfl | split | simp only [])
theorem steady_update (k : IntKind) (b : Bool) (x : Array Value) : zq2 P (Extern.Atomic.update (Op.intArith .add) k b x) := by
 unfold Extern.Atomic.update
 rcases x with ⟨_ | ⟨a, _ | ⟨y, _ | ⟨c, l⟩⟩⟩⟩
 · exact steady_halt _
 · exact steady_halt _
 rotate_left
 · exact steady_halt _
 change zq2 P (do let a ← asAddr a; let old ← Extern.Atomic.read (.int k) a; let new ← Op.intArith .add k (← asInt old) (← asInt y); store a new .atomic; pure (if b then new else old))
 repeat' (first | with_reducible exact Stdy.out | with_reducible refine zq6 ?_ | with_reducible refine zq7 ?_ (fun _ => ?_) | with_reducible refine zq3 ?_ (fun _ => ?_) | exact fun _ _ => rfl | split | simp only [])
theorem steady_anyM {α : Type} (f : α → Sem Bool) (h : ∀ a, zq2 P (f a)) (l : List α) : zq2 P (l.anyM f) := by
 induction l with
 | nil => exact steady_pure _
 | cons a l ih =>
  rw [List.anyM]
  refine zq3 (h a) fun b => ?_
  cases b
  · exact ih
  · exact steady_pure _
theorem steady_touches (a : Addr) : zq2 P (Extern.Atomic.touchesFrozen a) := by
 unfold Extern.Atomic.touchesFrozen
 refine zq3 (steady_viewAt _) fun v => ?_
 split
 · exact steady_frozen _
 · refine zq3 (steady_typeInfo _) fun i => ?_
   simp only []
   split
   · exact steady_halt _
   · exact steady_anyM _ (fun _ => steady_frozen _) _
instance (a : Addr) : Stdy P (Extern.Atomic.touchesFrozen a) := ⟨steady_touches a⟩
instance (a b : Option Addr) : Stdy P (samePointer a b) := ⟨steady_samePointer a b⟩
theorem steady_casT (t : Extern.Atomic.T) (x : Array Value) : zq2 P (Extern.Atomic.casT t x) := by
 unfold Extern.Atomic.casT
 rcases x with ⟨_ | ⟨a, _ | ⟨b, _ | ⟨c, _ | ⟨d, l⟩⟩⟩⟩⟩
 · exact steady_halt _
 · exact steady_halt _
 · exact steady_halt _
 rotate_left
 · exact steady_halt _
 change zq2 P (asAddr a >>= _)
 repeat' (first | with_reducible exact Stdy.out | with_reducible refine zq6 ?_ | with_reducible refine zq7 ?_ (fun _ => ?_) | with_reducible refine zq3 ?_ (fun _ => ?_) | exact fun _ _ => rfl | split | simp only [])
end
end Go.Car
