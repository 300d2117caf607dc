/- YtdncabjenacolaaTKeep4: part 15 of the proof (the texts behind it, in order). -/
import Derived.Test.YtdncabjenacolaaP14
set_option linter.unusedSimpArgs false
set_option linter.unusedVariables false
set_option linter.unusedSectionVars false
set_option linter.unnecessarySimpa false
set_option maxHeartbeats 4000000
set_option maxRecDepth 100000
namespace Go.Proofs
open Go Go.Conc Go.RowKit Go.Car
def natL (l : List Nat) : List Value := l.map fun (i : Nat) => .int .i64 i
def boolL (en : Nat → Bool) (N : Nat) : List Value := (List.range N).map fun i => .bool (en i)
structure PkI (ub : Nat) (lv : Value) (most : Nat) (l : List Int) (a r : Nat) (ov : Value) (ord : List Nat) (ev : Value) (en : Nat → Bool) (N base : Nat) (w : World) : Prop where
 t : TrB ub lv most a r ov w
 lrow : w.ownsRow base 3 1 lv l.length (l.map (Value.int .i64))
 orow : w.ownsRow base 3 1 ov ord.length (natL ord)
 erow : w.ownsRow base 4 1 ev N (boolL en N)
 sep : ∀ g, lv.ownBlock = some g → ov.ownBlock ≠ some g
section
variable {ub : Nat} {lv : Value} {most : Nat} {l : List Int} {a r : Nat} {ov : Value} {ord : List Nat} {ev : Value} {en : Nat → Bool} {N base : Nat} {w : World}
theorem PkI.beyond (h : PkI ub lv most l a r ov ord ev en N base w) {w' : World} (hb : Beyond w w') : PkI ub lv most l a r ov ord ev en N base w' :=
 ⟨⟨hb.heap h.t.hm⟩, zqd h.lrow fun g hg => hb.2 g (own_lt h.lrow hg).2.2, zqd h.orow fun g hg => hb.2 g (own_lt h.orow hg).2.2, zqd h.erow fun g hg => hb.2 g (own_lt h.erow hg).2.2, h.sep⟩
theorem PkI.far (h : PkI ub lv most l a r ov ord ev en N base w) (i : Nat) (v : Value) : (w.setCell ⟨ub, i, none⟩ v).ownsRow base 3 1 lv l.length (l.map (Value.int .i64)) ∧ (w.setCell ⟨ub, i, none⟩ v).ownsRow base 3 1 ov ord.length (natL ord) ∧ (w.setCell ⟨ub, i, none⟩ v).ownsRow base 4 1 ev N (boolL en N) :=
 ⟨zqd h.lrow fun g hg => zq3 _ _ _ _ fun e => own_ne h.lrow h.t.hm (by decide) (by rw [hg, show g = ub from e]),
  zqd h.orow fun g hg => zq3 _ _ _ _ fun e => own_ne h.orow h.t.hm (by decide) (by rw [hg, show g = ub from e]),
  zqd h.erow fun g hg => zq3 _ _ _ _ fun e => own_ne h.erow h.t.hm (by decide) (by rw [hg, show g = ub from e])⟩
theorem PkI.setA (h : PkI ub lv most l a r ov ord ev en N base w) (n : Nat) : PkI ub lv most l n r ov ord ev en N base (w.setCell ⟨ub, 2, none⟩ (.int .i64 n)) := ⟨h.t.setA n, (h.far _ _).1, (h.far _ _).2.1, (h.far _ _).2.2, h.sep⟩
theorem PkI.setR (h : PkI ub lv most l a r ov ord ev en N base w) (n : Nat) : PkI ub lv most l a n ov ord ev en N base (w.setCell ⟨ub, 3, none⟩ (.int .i64 n)) := ⟨h.t.setR n, (h.far _ _).1, (h.far _ _).2.1, (h.far _ _).2.2, h.sep⟩
theorem PkI.eb (h : PkI ub lv most l a r ov ord ev en N base w) : BoolsAt w ev en N := by
 obtain ⟨p, C, e, _, hc⟩ := row_form h.erow
 refine ⟨p, C, e, fun h0 => ?_⟩
 obtain ⟨g, e2, _, hc⟩ := hc h0
 refine ⟨g, 0, e2, fun i hi => ?_⟩
 rw [Nat.zero_add]
 exact hc i _ (by simp [boolL, hi])
theorem PkI.lb (h : PkI ub lv most l a r ov ord ev en N base w) : ∃ p C, lv = .slice p l.length C ∧ ∀ i, i < l.length → ∃ g, p = some ⟨g, 0, none⟩ ∧ w.cell? ⟨g, i, none⟩ = some (.int .i64 (l.getD i 0)) := by
 obtain ⟨p, C, e, _, hc⟩ := row_form h.lrow
 refine ⟨p, C, e, fun i hi => ?_⟩
 obtain ⟨g, e2, _, hc⟩ := hc (by omega)
 exact ⟨g, e2, hc i _ (by simp [hi])⟩
end
structure RestU (ub : Nat) (row : Option Nat) (w w' : World) : Prop where
 size : w.heap.size ≤ w'.heap.size
 old : ∀ b, b < w.heap.size → b ≠ ub → row ≠ some b → w'.heap[b]? = w.heap[b]?
theorem RestU.refl (ub : Nat) (row : Option Nat) (w : World) : RestU ub row w w := ⟨Nat.le_refl _, fun _ _ _ _ => rfl⟩
theorem RestU.set {ub : Nat} {row : Option Nat} {w w' : World} (h : RestU ub row w w') (i : Nat) (v : Value) : RestU ub row w (w'.setCell ⟨ub, i, none⟩ v) := ⟨by rw [zqi]; exact h.size, fun b hb h1 h2 => (zq3 _ _ _ _ h1).trans (h.old b hb h1 h2)⟩
theorem RestU.drew {ub : Nat} {row : Option Nat} {w w' : World} (h : RestU ub row w w') (n : Nat) : RestU ub row w (w'.drewN n) := ⟨h.size, h.old⟩
theorem PkI.push {ub : Nat} {lv : Value} {most : Nat} {l : List Int} {a r : Nat} {ov : Value} {ord : List Nat} {ev : Value} {en : Nat → Bool} {N base : Nat} {w w5 : World} {o : Obj} {g cap on x : Nat} (h : PkI ub lv most l a r ov ord ev en N base w) (hno : ord.length = on)
 (hown : w5.ownsRow base 3 1 (.slice (some ⟨g, 0, none⟩) (on + 1) cap) (on + 1) (natL ord ++ [.int .i64 x])) (hgrow : (w.alloc o).grownBy w5 ov.ownBlock) (hat : ov.ownBlock = some g ∨ g = (w.alloc o).heap.size) :
 PkI ub lv most l a r (.slice (some ⟨g, 0, none⟩) (on + 1) cap) (ord ++ [x]) ev en N base (w5.setCell ⟨ub, 4, none⟩ (.slice (some ⟨g, 0, none⟩) (on + 1) cap)) := by
 have k5 : ∀ b, b < w.heap.size → ov.ownBlock ≠ some b → w5.heap[b]? = w.heap[b]? := fun b hb hne => by
  rw [hgrow.block b (by rw [zq6]; omega) (fun e => hne e.symm), zqa, if_neg (by omega)]
 have hub := zq4 h.t.hm
 have hou : ov.ownBlock ≠ some ub := own_ne h.orow h.t.hm (by decide)
 have t5 : TrB ub lv most a r ov w5 := ⟨(k5 ub hub hou).trans h.t.hm⟩
 have l5 : w5.ownsRow base 3 1 lv l.length (l.map (Value.int .i64)) := zqd h.lrow fun q hq => k5 q (own_lt h.lrow hq).2.2 (h.sep q hq)
 have e5 : w5.ownsRow base 4 1 ev N (boolL en N) := zqd h.erow fun q hq => k5 q (own_lt h.erow hq).2.2 fun e => by
  obtain ⟨⟨c1, hc1⟩, _⟩ := own_lt h.erow hq
  exact own_ne h.orow hc1 (by decide) e
 have o5 : w5.ownsRow base 3 1 (.slice (some ⟨g, 0, none⟩) (on + 1) cap) (ord ++ [x]).length (natL (ord ++ [x])) := by
  rw [List.length_append, hno]
  simpa [natL] using hown
 have hgu : g ≠ ub := fun e => own_ne hown t5.hm (by decide) (by rw [e]; rfl)
 refine ⟨t5.setO _, zqd l5 fun q hq => zq3 _ _ _ _ fun e => own_ne l5 t5.hm (by decide) (by rw [hq, show q = ub from e]), zqd o5 fun q hq => zq3 _ _ _ _ fun e => hgu (by simp only [Value.ownBlock, al_oi] at hq; rw [hq]; exact e), zqd e5 fun q hq => zq3 _ _ _ _ fun e => own_ne e5 t5.hm (by decide) (by rw [hq, show q = ub from e]), fun q hq he => ?_⟩
 simp only [Value.ownBlock, al_oi] at he
 subst he
 rcases hat with h1 | h1
 · exact h.sep g hq h1
 · have := (own_lt h.lrow hq).2.2
   rw [zq6] at h1
   omega
theorem RestU.push {ub : Nat} {ov v : Value} {w w4 w5 : World} {o : Obj} (h : RestU ub ov.ownBlock w w4) (hgrow : (w4.alloc o).grownBy w5 ov.ownBlock) : RestU ub ov.ownBlock w (w5.setCell ⟨ub, 4, none⟩ v) := by
 have hs := hgrow.size
 rw [zq6] at hs
 have hs2 := h.size
 refine ⟨by rw [zqi]; omega, fun b hb h1 h2 => ?_⟩
 rw [zq3 _ _ _ _ h1, hgrow.block b (by rw [zq6]; omega) (fun e => h2 e.symm), zqa, if_neg (by omega)]
 exact h.old b hb h1 h2
def PickPost (ub : Nat) (lv : Value) (most : Nat) (l : List Int) (a r : Nat) (ov : Value) (ord : List Nat) (ev : Value) (en : Nat → Bool) (N base : Nat) (w : World) (e : Ending) (w' : World) : Prop :=
 ((allB en N = true ∨ ord.length = most) ∧ e = .returned (.tuple #[.int .i64 0, .bool false]) ∧ ∃ n, w' = w.drewN n) ∨
 (allB en N = false ∧ ord.length ≠ most ∧ ∃ x a' r' ov', e = .returned (.tuple #[.int .i64 (x : Nat), .bool true]) ∧ PickR l N en a r x a' r' ∧ a' ≤ l.length ∧ PkI ub lv most l a' r' ov' (ord ++ [x]) ev en N base w' ∧ RestU ub ov.ownBlock w w' ∧ ∀ g, ov'.ownBlock = some g → ov.ownBlock = some g ∨ w.heap.size ≤ g)
structure PkL (ub : Nat) (lv : Value) (most : Nat) (l : List Int) (a r : Nat) (ov : Value) (ord : List Nat) (ev : Value) (en : Nat → Bool) (N base : Nat) (w : World) (k : Nat) (wr : World) : Prop where
 i : PkI ub lv most l k r ov ord ev en N base wr
 le : a ≤ k ∧ k ≤ l.length
 skip : ∀ j y, a ≤ j → j < k → l[j]? = some y → skipN N en y
 rest : RestU ub ov.ownBlock w wr
structure PkM (ub : Nat) (lv : Value) (most : Nat) (l : List Int) (a r : Nat) (ov : Value) (ord : List Nat) (ev : Value) (en : Nat → Bool) (N base : Nat) (w : World) (v : Nat) (wr : World) : Prop where
 i : PkI ub lv most l l.length v ov ord ev en N base wr
 le : r ≤ v
 skip : ∀ j y, a ≤ j → l[j]? = some y → skipN N en y
 ovr : ∀ j, r ≤ j → j < v → en (j % N) = true
 rest : RestU ub ov.ownBlock w wr
theorem pick_lone {ub : Nat} {lv : Value} {most : Nat} {l : List Int} {a r : Nat} {ov : Value} {ord : List Nat} {ev : Value} {en : Nat → Bool} {N base : Nat} {w : World} (hN : N ≤ 64) (hl : l.length ≤ 1099511627776) (ha : a ≤ l.length) (hr : r ≤ N) (ho : ord.length ≤ 1048576) (hm : most ≤ 1048576) (hbase : base ≤ w.heap.size)
 (h : PkI ub lv most l a r ov ord ev en N base w) : Calls Try.prog 30 #[.pointer (some ⟨ub, 0, none⟩), ev] w fun e w' => PickPost ub lv most l a r ov ord ev en N base w e w' := by
 obtain ⟨ep, eC, rfl, hec⟩ := h.eb
 obtain ⟨lp, lC, rfl, hlc⟩ := h.lb
 obtain ⟨op, on, oC, rfl⟩ := own_slice h.orow
 have hon : on = ord.length := by
  obtain ⟨p, C, e, _⟩ := row_form h.orow
  cases e; rfl
 obtain ⟨L, hL⟩ : ∃ L, l.length = L := ⟨_, rfl⟩
 obtain ⟨no, hno⟩ : ∃ n, ord.length = n := ⟨_, rfl⟩
 rw [hno] at hon
 subst hon
 have HL := Lib.hid hL
 have HN := Lib.hid hno
 have H := Lib.hid h
 have HE := Lib.hid hec
 have c1 := h.t.c1
 have c4 := h.t.c4
 have hbv := h.eb
 rw [hL] at ha hl
 rw [hno] at ho
 clear h hec hlc hL hno
 by_cases hall : allB en N = true
 · have HA := Lib.hid hall
   have ov : ∀ w', Beyond w w' → Calls Try.prog 32 #[.slice ep N eC] w' fun e w'' => e = .returned (.bool true) ∧ w'' = w' := fun w' hb => by
    have := over_lone (N := N) (by omega) (hbv.beyond hb)
    rw [HA.out] at this
    exact this
   have HO := Lib.hid ov
   clear ov hall hbv
   go_enter Try.func30, Try.ntmps30
   go_wp2_with (fail)
   go_quiet (first | (go_at_call 32; exact Calls.quiet_of_same (HO.out _ (Beyond.drew _ _))))
   go_wp2
   go_ret2
   exact .inl ⟨.inl HA.out, rfl, nq, rfl⟩
 · have hall' : allB en N = false := by simpa using hall
   have HA := Lib.hid hall'
   have ov : ∀ w', Beyond w w' → Calls Try.prog 32 #[.slice ep N eC] w' fun e w'' => e = .returned (.bool false) ∧ w'' = w' := fun w' hb => by
    have := over_lone (N := N) (by omega) (hbv.beyond hb)
    rw [HA.out] at this
    exact this
   have HO := Lib.hid ov
   clear ov hall hall' hbv
   by_cases hfull : on = most
   · have hF : ((on : Nat) : Int) = most := by omega
     go_enter Try.func30, Try.ntmps30
     go_wp2_with (fail)
     go_quiet (first | (go_at_call 32; exact Calls.quiet_of_same (HO.out _ (Beyond.drew _ _))))
     go_wp2
     go_ret2
     exact .inl ⟨.inr (by rw [HN.out]; exact hfull), rfl, nq, rfl⟩
   · have hF : ¬ ((on : Nat) : Int) = most := by omega
     go_enter Try.func30, Try.ntmps30
     go_wp2_with (fail)
     go_quiet (first | (go_at_call 32; exact Calls.quiet_of_same (HO.out _ (Beyond.drew _ _))))
     go_wp2_with (fail)
     have hFb : ((on : Int) == (most : Int)) = false := by simpa using hF
     simp only [hFb]
     clear hFb
     have hI0 : PkL ub (.slice lp l.length lC) most l a r (.slice op on oC) ord (.slice ep N eC) en N base w a (w.drewN nq) := ⟨H.out.beyond (Beyond.drew _ _), ⟨Nat.le_refl _, by rw [HL.out]; exact ha⟩, fun j y h1 h2 => by omega, (RestU.refl _ _ _).drew _⟩
     have HI0 := Lib.hid hI0
     clear hI0 c1 c4
     go_loopg [6] (L - a) (fun k x wr => ∃ j, k = L - j ∧ PkL ub (.slice lp l.length lC) most l a r (.slice op on oC) ord (.slice ep N eC) en N base w j wr)
     case atStart => exact ⟨a, rfl, HI0.out⟩
     case round =>
      obtain ⟨j, hk, hI⟩ := hrel
      have HI := Lib.hid hI
      clear hI
      have k2 := HI.out.i.t.c2
      have k0 := HI.out.i.t.c0
      rw [HL.out] at k0
      have hjL := HI.out.le.2
      rw [HL.out] at hjL
      by_cases hlt : j < L
      · have hlt' : (j : Int) < (L : Int) := by omega
        have hj0 : (0 : Int) ≤ j := by omega
        go_wp2_with (fail)
        go_quiet (fail)
        have HI2 := Lib.hid (HI.out.i.beyond (Beyond.drew wr nq))
        have HR2 := Lib.hid (HI.out.rest.drew nq)
        clear k2 k0
        generalize wr.drewN nq = w2 at *
        have k2 := HI2.out.t.c2
        have k0 := HI2.out.t.c0
        rw [HL.out] at k0
        obtain ⟨p', C', e', hlb⟩ := HI2.out.lb
        cases e'
        obtain ⟨lg, rfl, kx⟩ := hlb j (by rw [HL.out]; exact hlt)
        obtain ⟨x, hx⟩ : ∃ x, l.getD j 0 = x := ⟨_, rfl⟩
        rw [hx] at kx
        have HX := Lib.hid hx
        clear hlb hx
        go_wp2_with (fail)
        go_quiet (fail)
        have HI3 := Lib.hid (HI2.out.beyond (Beyond.drew w2 nq))
        have HR3 := Lib.hid (HR2.out.drew nq)
        clear k2 k0 kx
        generalize w2.drewN nq = w3 at *
        have k2 := HI3.out.t.c2
        have f2 := HI3.out.t.fz 2
        have hj1 : ((j : Int) + 1) = ((j + 1 : Nat) : Int) := by omega
        have hHI4 := HI3.out.setA (j + 1)
        have hHR4 := HR3.out.set 2 (.int .i64 ((j + 1 : Nat) : Int))
        rw [← hj1] at hHI4 hHR4
        have HI4 := Lib.hid hHI4
        have HR4 := Lib.hid hHR4
        clear hHI4 hHR4 hj1
        have hnext : skipN N en x → PkL ub (.slice (some ⟨lg, 0, none⟩) l.length lC) most l a r (.slice op on oC) ord (.slice ep N eC) en N base w (j + 1) (w3.setCell ⟨ub, 2, none⟩ (.int .i64 ((j : Int) + 1))) := fun hsk => by
         refine ⟨HI4.out, ⟨by have := HI.out.le.1; omega, by rw [HL.out]; omega⟩, fun i y h1 h2 hy => ?_, HR4.out⟩
         by_cases e : i = j
         · subst e
           have : l[i]? = some (l.getD i 0) := by simp [show i < l.length from by rw [HL.out]; exact hlt]
           rw [this, HX.out] at hy
           cases hy
           exact hsk
         · exact HI.out.skip i y h1 (by omega) hy
        have HNX := Lib.hid hnext
        clear hnext
        by_cases x0 : x < 0
        · have x0' : ¬ 0 ≤ x := by omega
          go_wp2
          go_roundg (L - (j + 1))
          case measure => have := HI.out.le.1; omega
          case rel => exact ⟨j + 1, rfl, HNX.out (.inl x0)⟩
        · have x0' : 0 ≤ x := by omega
          by_cases x1 : (N : Int) ≤ x
          · have x1' : ¬ x < (N : Int) := by omega
            go_wp2
            go_roundg (L - (j + 1))
            case measure => have := HI.out.le.1; omega
            case rel => exact ⟨j + 1, rfl, HNX.out (.inr (.inl x1))⟩
          · obtain ⟨xn, rfl⟩ : ∃ n : Nat, x = n := ⟨x.toNat, by omega⟩
            have x1' : (xn : Int) < (N : Int) := by omega
            have hxN : xn < N := by omega
            obtain ⟨eb, eo, hep, hec⟩ := HE.out (by omega)
            subst hep
            have be : ∀ i, i < N → (w3.setCell ⟨ub, 2, none⟩ (.int .i64 ((j : Int) + 1))).cell? ⟨eb, eo + i, none⟩ = some (.bool (en i)) := fun i hi => by
             obtain ⟨p', C', e', hc⟩ := HI4.out.eb
             cases e'
             obtain ⟨b', o', e2, hc2⟩ := hc (by omega)
             cases e2
             exact hc2 i hi
            have kx := be xn hxN
            have HBE := Lib.hid be
            clear be hec
            cases he : en xn with
            | true =>
             rw [he] at kx
             have HEE := Lib.hid he
             clear he
             go_wp2
             go_roundg (L - (j + 1))
             case measure => have := HI.out.le.1; omega
             case rel => exact ⟨j + 1, rfl, HNX.out (.inr (.inr (by rw [Int.toNat_natCast]; exact HEE.out)))⟩
            | false =>
             rw [he] at kx
             have HEE := Lib.hid he
             clear he
             have c4 := HI4.out.t.c4
             have hrow : (w3.setCell ⟨ub, 2, none⟩ (.int .i64 ((j : Int) + 1))).ownsRow base 3 1 (.slice op on oC) on (natL ord) := by have := HI4.out.orow; rw [HN.out] at this; exact this
             obtain ⟨ti, hti, hz0, hz1, hz2⟩ : ∃ ti, Try.prog.info? 3 = some ti ∧ ti.zero = some (.int .i64 0) ∧ ti.size = 1 ∧ ti.bytes = 8 := ⟨_, rfl, rfl, rfl, rfl⟩
             have TI := Lib.hid (And.intro hti (And.intro hz0 (And.intro hz1 hz2)))
             have HRW := Lib.hid hrow
             clear hti hz0 hz1 hz2 hrow
             go_wp2_with (at_builtin; go_loud (refine wpList_append_lies _ rfl (.tmp 68) (.tmp 70) 24 rfl base 3 ti (.int .i64 0) 1 8 (by kernel_rfl) TI.out.1 TI.out.2.1 TI.out.2.2.1 TI.out.2.2.2 rfl (by decide) _ on (natL ord) rfl (row_allocK HRW.out _) _ 1 1 [.int .i64 xn] rfl rfl (one_new (by simp only [zqi])) (by simp [Value.oneCell']) (by decide) (by simp only [maxLen]; omega) (by omega) (by have := HR4.out.size; rw [zq6]; omega) _ rfl ?next))
             case next =>
              intro g cap w5 hown hgrow hat hlt5
              have hub : w5.heap[ub]? = some (.cells #[.slice (some ⟨lg, 0, none⟩) l.length lC, .int .i64 most, .int .i64 ((j + 1 : Nat) : Int), .int .i64 r, .slice op on oC] 88) := by
               rw [hgrow.block ub (by rw [zq6]; exact Nat.lt_succ_of_lt (zq4 HI4.out.t.hm)) (fun e => own_ne HI4.out.orow HI4.out.t.hm (by decide) e.symm), zqa, if_neg (by have := zq4 HI4.out.t.hm; omega)]
               exact HI4.out.t.hm
              have c54 := (zq0 (off := 4) hub).trans rfl
              have f54 := zqg (off := 4) hub
              have hI5 := HI4.out.push HN.out hown hgrow (by simpa only [zq6, zqi] using hat)
              have hlx : l[j]? = some (xn : Int) := by
               have : l[j]? = some (l.getD j 0) := by simp [show j < l.length from by rw [HL.out]; exact hlt]
               rw [this, HX.out]
              have HLX := Lib.hid hlx
              clear hlx
              have hR5 := HR4.out.push (v := .slice (some ⟨g, 0, none⟩) (on + 1) cap) hgrow
              have hat' : ∀ q, (Value.slice (some ⟨g, 0, none⟩) (on + 1) cap).ownBlock = some q → (Value.slice op on oC).ownBlock = some q ∨ w.heap.size ≤ q := fun q hq => by
               simp only [Value.ownBlock, al_oi] at hq
               subst hq
               rcases hat with h | h
               · exact .inl h
               · right; have := HR4.out.size; simp only [zqi] at this; omega
              have H5 := Lib.hid (And.intro hI5 (And.intro hR5 hat'))
              clear hub hown hgrow hat hlt5 hI5 hR5 hat' c4 kx k2 f2
              go_wp2
              go_ret2
              refine .inr ⟨HA.out, by rw [HN.out]; exact hfull, xn, j + 1, r, _, rfl, PickR.list (k := j) HI.out.le.1 HLX.out hxN HEE.out HI.out.skip, by rw [HL.out]; omega, H5.out.1, H5.out.2.1, H5.out.2.2⟩
      · obtain rfl : L = j := by omega
        obtain ⟨i0, hi0, he0⟩ : ∃ i, i < N ∧ en i = false := by
         have hA := HA.out
         unfold allB at hA
         rw [List.all_eq_false] at hA
         obtain ⟨i, hi, he⟩ := hA
         exact ⟨i, List.mem_range.1 hi, by simpa using he⟩
        have HEI := Lib.hid he0
        clear he0
        have hN0 : 0 < N := by omega
        obtain ⟨eb, eo, hep, _⟩ := HE.out hN0
        subst hep
        go_wp2_with (fail)
        go_quiet (fail)
        have hM0 : PkM ub (.slice lp l.length lC) most l a r (.slice op on oC) ord (.slice (some ⟨eb, eo, none⟩) N eC) en N base w r (wr.drewN nq) := by
         have := HI.out.i.beyond (Beyond.drew wr nq)
         have hl := HL.out
         rw [← hl] at this
         exact ⟨this, Nat.le_refl _, fun i y h1 hy => HI.out.skip i y h1 (by have := (List.getElem?_eq_some_iff.1 hy).1; omega) hy, fun i h1 h2 => by omega, HI.out.rest.drew nq⟩
        have HM0 := Lib.hid hM0
        clear hM0 k2 k0 HI0
        go_wp2_with (fail)
        go_loopg [75] (r + N - r) (fun k x w2 => ∃ v, k = r + N - v ∧ PkM ub (.slice lp l.length lC) most l a r (.slice op on oC) ord (.slice (some ⟨eb, eo, none⟩) N eC) en N base w v w2)
        case atStart => exact ⟨r, rfl, HM0.out⟩
        case round =>
         obtain ⟨v, hk2, hM⟩ := hrel
         have HM := Lib.hid hM
         clear hM
         have hvN : v < r + N := by
          rcases Nat.lt_or_ge v (r + N) with h | h
          · exact h
          · exfalso
            have hr2 := hr
            have key : ∃ u, r ≤ u ∧ u < v ∧ u % N = i0 := by
             by_cases hc : r ≤ i0
             · exact ⟨i0, hc, by omega, Nat.mod_eq_of_lt hi0⟩
             · exact ⟨i0 + N, by omega, by omega, by rw [Nat.add_mod_right, Nat.mod_eq_of_lt hi0]⟩
            obtain ⟨u, h1, h2, h3⟩ := key
            have := HM.out.ovr u h1 h2
            rw [h3, HEI.out] at this
            cases this
         have k3 := HM.out.i.t.c3
         have f3 := HM.out.i.t.fz 3
         have hNI : ¬ ((N : Int) = 0) := by omega
         have e1 : (v : Int).tmod (N : Int) = ((v % N : Nat) : Int) := by rw [Int.tmod_eq_emod_of_nonneg (by omega)]; rfl
         obtain ⟨q, hq⟩ : ∃ q, v % N = q := ⟨_, rfl⟩
         have hqN : q < N := by rw [← hq]; exact Nat.mod_lt _ hN0
         rw [hq] at e1
         have q0 : (0 : Int) ≤ q := by omega
         have q1 : (q : Int) < (N : Int) := by omega
         have be : wr.cell? ⟨eb, eo + q, none⟩ = some (.bool (en q)) := by
          obtain ⟨p', C', e', hc⟩ := HM.out.i.eb
          cases e'
          obtain ⟨b', o', e2, hc2⟩ := hc hN0
          cases e2
          exact hc2 q hqN
         have HQ := Lib.hid hq
         clear hq
         cases he : en q with
         | true =>
          rw [he] at be
          have HEE := Lib.hid he
          clear he
          have hv1 : ((v : Int) + 1) = ((v + 1 : Nat) : Int) := by omega
          have hn : PkM ub (.slice lp l.length lC) most l a r (.slice op on oC) ord (.slice (some ⟨eb, eo, none⟩) N eC) en N base w (v + 1) (wr.setCell ⟨ub, 3, none⟩ (.int .i64 ((v : Int) + 1))) := by
           rw [hv1]
           refine ⟨HM.out.i.setR (v + 1), by have := HM.out.le; omega, HM.out.skip, fun i h1 h2 => ?_, HM.out.rest.set _ _⟩
           by_cases e : i = v
           · rw [e, HQ.out]; exact HEE.out
           · exact HM.out.ovr i h1 (by omega)
          have HNX := Lib.hid hn
          clear hn hv1
          go_wp2
          go_roundg (r + N - (v + 1))
          case measure => omega
          case rel => exact ⟨v + 1, rfl, HNX.out⟩
         | false =>
          rw [he] at be
          have HEE := Lib.hid he
          clear he
          have hq1 : ((q : Int) + 1) = ((q + 1 : Nat) : Int) := by omega
          have hI4 := HM.out.i.setR (q + 1)
          have hR4 := HM.out.rest.set 3 (.int .i64 ((q + 1 : Nat) : Int))
          rw [← hq1] at hI4 hR4
          have HI4 := Lib.hid hI4
          have HR4 := Lib.hid hR4
          clear hI4 hR4 hq1
          have c4 := HI4.out.t.c4
          have hrow : (wr.setCell ⟨ub, 3, none⟩ (.int .i64 ((q : Int) + 1))).ownsRow base 3 1 (.slice op on oC) on (natL ord) := by have := HI4.out.orow; rw [HN.out] at this; exact this
          obtain ⟨ti, hti, hz0, hz1, hz2⟩ : ∃ ti, Try.prog.info? 3 = some ti ∧ ti.zero = some (.int .i64 0) ∧ ti.size = 1 ∧ ti.bytes = 8 := ⟨_, rfl, rfl, rfl, rfl⟩
          have TI := Lib.hid (And.intro hti (And.intro hz0 (And.intro hz1 hz2)))
          have HRW := Lib.hid hrow
          clear hti hz0 hz1 hz2 hrow
          go_wp2_with (at_builtin; go_loud (refine wpList_append_lies _ rfl (.tmp 108) (.tmp 110) 24 rfl base 3 ti (.int .i64 0) 1 8 (by kernel_rfl) TI.out.1 TI.out.2.1 TI.out.2.2.1 TI.out.2.2.2 rfl (by decide) _ on (natL ord) rfl (row_allocK HRW.out _) _ 1 1 [.int .i64 q] rfl rfl (one_new (by simp only [zqi])) (by simp [Value.oneCell']) (by decide) (by simp only [maxLen]; omega) (by omega) (by have := HR4.out.size; rw [zq6]; omega) _ rfl ?next))
          case next =>
           intro g cap w5 hown hgrow hat hlt5
           have hub : w5.heap[ub]? = some (.cells #[.slice lp l.length lC, .int .i64 most, .int .i64 l.length, .int .i64 ((q + 1 : Nat) : Int), .slice op on oC] 88) := by
            rw [hgrow.block ub (by rw [zq6]; exact Nat.lt_succ_of_lt (zq4 HI4.out.t.hm)) (fun e => own_ne HI4.out.orow HI4.out.t.hm (by decide) e.symm), zqa, if_neg (by have := zq4 HI4.out.t.hm; omega)]
            exact HI4.out.t.hm
           have c54 := (zq0 (off := 4) hub).trans rfl
           have f54 := zqg (off := 4) hub
           have hI5 := HI4.out.push HN.out hown hgrow (by simpa only [zq6, zqi] using hat)
           have hR5 := HR4.out.push (v := .slice (some ⟨g, 0, none⟩) (on + 1) cap) hgrow
           have hat' : ∀ q, (Value.slice (some ⟨g, 0, none⟩) (on + 1) cap).ownBlock = some q → (Value.slice op on oC).ownBlock = some q ∨ w.heap.size ≤ q := fun q hq => by
            simp only [Value.ownBlock, al_oi] at hq
            subst hq
            rcases hat with h | h
            · exact .inl h
            · right; have := HR4.out.size; simp only [zqi] at this; omega
           have H5 := Lib.hid (And.intro hI5 (And.intro hR5 hat'))
           clear hub hown hgrow hat hlt5 hI5 hR5 hat' c4 be k3 f3
           go_wp2
           go_ret2
           exact .inr ⟨HA.out, by rw [HN.out]; exact hfull, q, l.length, q + 1, _, rfl, PickR.round (v := v) HM.out.skip HM.out.le HQ.out.symm hN0 HEE.out HM.out.ovr (Nat.le_refl _), Nat.le_refl _, H5.out.1, H5.out.2.1, H5.out.2.2⟩
def thrL (tb : Nat → Nat) (n : Nat) : List Value := (List.range n).map fun i => .pointer (some ⟨tb i, 0, none⟩)
theorem thrL_add (tb : Nat → Nat) (n : Nat) : thrL tb (n + 1) = thrL tb n ++ [.pointer (some ⟨tb n, 0, none⟩)] := by unfold thrL; rw [List.range_succ, List.map_append]; rfl
theorem boolL_add (en : Nat → Bool) (n : Nat) : boolL en (n + 1) = boolL en n ++ [.bool (en n)] := by unfold boolL; rw [List.range_succ, List.map_append]; rfl
theorem boolL_set (en : Nat → Bool) (n x : Nat) (b : Bool) : boolL (updF en x b) n = (boolL en n).set x (.bool b) := by
 apply List.ext_getElem?
 intro i
 unfold boolL
 rw [List.getElem?_set, List.getElem?_map, List.getElem?_map, List.length_map, List.length_range]
 by_cases hi : i < n
 · rw [List.getElem?_range hi]
   by_cases e : x = i
   · subst e; rw [if_pos rfl, if_pos hi]; simp [updF]
   · rw [if_neg e]; simp [updF, Ne.symm e]
 · rw [List.getElem?_eq_none (by simpa using hi)]
   by_cases e : x = i
   · subst e; rw [if_pos rfl, if_neg hi]; rfl
   · rw [if_neg e]; rfl
structure PlI (base W : Nat) (stv lv ev : Value) (prog : Nat → List Cd) (cp : Nat → Option Addr) (C : Nat → Nat) (nl ne n : Nat) (tb : Nat → Nat) (tv : Nat → Value) (th : Nat → Mch) (en er : Nat → Bool) (ws : List Int) (w : World) : Prop where
 st : w.ownsRow base 2 1 stv W (ws.map (Value.int .i64))
 len : ws.length = W
 lrow : w.ownsRow base 78 1 lv nl (thrL tb nl)
 erow : w.ownsRow base 4 1 ev ne (boolL er ne)
 thr : ∀ i, i < n → ThB (tb i) (cp i) (prog i).length (C i) (tv i) (th i) (en i) w
 told : ∀ i, i < n → w.ownsRow base 38 3 (tv i) (th i).told.length (toldL (th i).told)
 lo : ∀ i, i < n → base ≤ tb i
 inj : ∀ i k, i < n → k < n → tb i = tb k → i = k
 sep : ∀ i k g, i < n → k < n → i ≠ k → (tv i).ownBlock = some g → (tv k).ownBlock ≠ some g
section
variable {base W : Nat} {stv lv ev : Value} {prog : Nat → List Cd} {cp : Nat → Option Addr} {C : Nat → Nat} {nl ne n : Nat} {tb : Nat → Nat} {tv : Nat → Value} {th : Nat → Mch} {en er : Nat → Bool} {ws : List Int} {w : World}
theorem PlI.beyond (h : PlI base W stv lv ev prog cp C nl ne n tb tv th en er ws w) {w' : World} (hb : Beyond w w') : PlI base W stv lv ev prog cp C nl ne n tb tv th en er ws w' :=
 ⟨zqd h.st fun g hg => hb.2 g (own_lt h.st hg).2.2, h.len, zqd h.lrow fun g hg => hb.2 g (own_lt h.lrow hg).2.2, zqd h.erow fun g hg => hb.2 g (own_lt h.erow hg).2.2, fun i hi => ⟨hb.heap (h.thr i hi).hm⟩, fun i hi => zqd (h.told i hi) fun g hg => hb.2 g (own_lt (h.told i hi) hg).2.2, h.lo, h.inj, h.sep⟩
theorem PlI.addT (h : PlI base W stv lv ev prog cp C nl ne n tb tv th en er ws w) (hl : nl ≤ n) {t : Nat} {v : Value} {m : Mch} {e : Bool} {q : Option Addr} {c : Nat} (hn : ThB t q (prog n).length c v m e w) (ho : w.ownsRow base 38 3 v m.told.length (toldL m.told)) (hlo : base ≤ t) (hne : ∀ i, i < n → tb i ≠ t) (hsep : ∀ i g, i < n → (tv i).ownBlock = some g → v.ownBlock ≠ some g)  :
 PlI base W stv lv ev prog (updF cp n q) (updF C n c) nl ne (n + 1) (updF tb n t) (updF tv n v) (updF th n m) (updF en n e) er ws w := by
 have e1 : thrL (updF tb n t) nl = thrL tb nl := by
  unfold thrL
  refine List.map_congr_left fun i hi => ?_
  have := List.mem_range.1 hi
  rw [updF_ne _ _ (by omega)]
 refine ⟨h.st, h.len, by rw [e1]; exact h.lrow, h.erow, fun i hi => ?_, fun i hi => ?_, fun i hi => ?_, fun i k hi hk hik => ?_, fun i k g hi hk hik hg => ?_⟩
 · by_cases e : i = n
   · subst e; simp only [updF_same]; exact hn
   · simp only [updF_ne _ _ e]; exact h.thr i (by omega)
 · by_cases e : i = n
   · subst e; simp only [updF_same]; exact ho
   · simp only [updF_ne _ _ e]; exact h.told i (by omega)
 · by_cases e : i = n
   · subst e; simp only [updF_same]; exact hlo
   · simp only [updF_ne _ _ e]; exact h.lo i (by omega)
 · by_cases e : i = n
   · by_cases e' : k = n
     · omega
     · subst e
       rw [updF_same, updF_ne _ _ e'] at hik
       exact absurd hik.symm (hne k (by omega))
   · by_cases e' : k = n
     · subst e'
       rw [updF_same, updF_ne _ _ e] at hik
       exact absurd hik (hne i (by omega))
     · rw [updF_ne _ _ e, updF_ne _ _ e'] at hik
       exact h.inj i k (by omega) (by omega) hik
 · by_cases e : i = n
   · by_cases e' : k = n
     · omega
     · subst e
       rw [updF_same] at hg
       rw [updF_ne _ _ e']
       exact fun h2 => hsep k g (by omega) h2 hg
   · by_cases e' : k = n
     · subst e'
       rw [updF_ne _ _ e] at hg
       rw [updF_same]
       exact hsep i g (by omega) hg
     · rw [updF_ne _ _ e] at hg
       rw [updF_ne _ _ e']
       exact h.sep i k g (by omega) (by omega) hik hg
theorem PlI.pushL (h : PlI base W stv lv ev prog cp C nl ne n tb tv th en er ws w) {w5 : World} {o : Obj} {v : Value} (hown : w5.ownsRow base 78 1 v (nl + 1) (thrL tb nl ++ [.pointer (some ⟨tb nl, 0, none⟩)])) (hgrow : (w.alloc o).grownBy w5 lv.ownBlock) : PlI base W stv v ev prog cp C (nl + 1) ne n tb tv th en er ws w5 := by
 have k5 : ∀ b, b < w.heap.size → lv.ownBlock ≠ some b → w5.heap[b]? = w.heap[b]? := fun b hb hne => by
  rw [hgrow.block b (by rw [zq6]; omega) (fun e => hne e.symm), zqa, if_neg (by omega)]
 have kr : ∀ {T : TypeId} {k m : Nat} {u : Value} {xs : List Value}, w.ownsRow base T k u m xs → T ≠ 78 → w5.ownsRow base T k u m xs := fun hr hT => zqd hr fun g hg => k5 g (own_lt hr hg).2.2 fun e => by
  obtain ⟨⟨c, hc⟩, _⟩ := own_lt hr hg
  exact own_ne h.lrow hc (fun e => hT e.symm) e
 exact ⟨kr h.st (by decide), h.len, by rw [thrL_add]; exact hown, kr h.erow (by decide), fun i hi => (h.thr i hi).same (k5 _ (zq4 (h.thr i hi).hm) (own_ne h.lrow (h.thr i hi).hm (by decide))), fun i hi => kr (h.told i hi) (by decide), h.lo, h.inj, h.sep⟩
theorem PlI.pushE (h : PlI base W stv lv ev prog cp C nl ne n tb tv th en er ws w) {w5 : World} {o : Obj} {v : Value} {b : Bool} (hown : w5.ownsRow base 4 1 v (ne + 1) (boolL er ne ++ [.bool b])) (hgrow : (w.alloc o).grownBy w5 ev.ownBlock) : PlI base W stv lv v prog cp C nl (ne + 1) n tb tv th en (updF er ne b) ws w5 := by
 have k5 : ∀ b, b < w.heap.size → ev.ownBlock ≠ some b → w5.heap[b]? = w.heap[b]? := fun b hb hne => by
  rw [hgrow.block b (by rw [zq6]; omega) (fun e => hne e.symm), zqa, if_neg (by omega)]
 have kr : ∀ {T : TypeId} {k m : Nat} {u : Value} {xs : List Value}, w.ownsRow base T k u m xs → T ≠ 4 → w5.ownsRow base T k u m xs := fun hr hT => zqd hr fun g hg => k5 g (own_lt hr hg).2.2 fun e => by
  obtain ⟨⟨c, hc⟩, _⟩ := own_lt hr hg
  exact own_ne h.erow hc (fun e => hT e.symm) e
 have e2 : boolL (updF er ne b) (ne + 1) = boolL er ne ++ [.bool b] := by
  rw [boolL_add, updF_same]
  congr 1
  unfold boolL
  refine List.map_congr_left fun i hi => ?_
  have := List.mem_range.1 hi
  rw [updF_ne _ _ (by omega)]
 exact ⟨kr h.st (by decide), h.len, kr h.lrow (by decide), by rw [e2]; exact hown, fun i hi => (h.thr i hi).same (k5 _ (zq4 (h.thr i hi).hm) (own_ne h.erow (h.thr i hi).hm (by decide))), fun i hi => kr (h.told i hi) (by decide), h.lo, h.inj, h.sep⟩
theorem PlI.step {sb scap x : Nat} (h : PlI base W (.slice (some ⟨sb, 0, none⟩) W scap) lv ev prog cp C nl ne n tb tv th en er ws w) (hx : x < n) {ws' : List Int} {m' : Mch} {b : Bool} {v : Value} {w' : World} (hl : ws'.length = W) (h1 : ThB (tb x) (cp x) (prog x).length (C x) v m' b w') (h2 : w'.ownsRow base 38 3 v m'.told.length (toldL m'.told)) (h3 : w'.ownsRow base 2 1 (.slice (some ⟨sb, 0, none⟩) W scap) W (ws'.map (Value.int .i64)))
 (hs : w.heap.size ≤ w'.heap.size) (hold : ∀ b, b < w.heap.size → b ≠ tb x → b ≠ sb → (tv x).ownBlock ≠ some b → w'.heap[b]? = w.heap[b]?) (hown : ∀ g, v.ownBlock = some g → (tv x).ownBlock = some g ∨ w.heap.size ≤ g) :
 PlI base W (.slice (some ⟨sb, 0, none⟩) W scap) lv ev prog cp C nl ne n tb (updF tv x v) (updF th x m') (updF en x b) er ws' w' := by
 obtain ⟨⟨cs, hsb⟩, _⟩ := own_lt h.st (g := sb) rfl
 have kr : ∀ {T : TypeId} {k m : Nat} {u : Value} {xs : List Value}, w.ownsRow base T k u m xs → T ≠ 81 → T ≠ 2 → (∀ g, u.ownBlock = some g → (tv x).ownBlock ≠ some g) → w'.ownsRow base T k u m xs := fun hr hT1 hT2 hT3 => zqd hr fun g hg => by
  refine hold g (own_lt hr hg).2.2 (fun e => ?_) (fun e => ?_) (hT3 g hg)
  · exact own_ne hr (h.thr x hx).hm hT1 (by rw [hg, e])
  · exact own_ne hr hsb hT2 (by rw [hg, e])
 have ne38 : ∀ {T : TypeId} {k m : Nat} {u : Value} {xs : List Value}, w.ownsRow base T k u m xs → T ≠ 38 → ∀ g, u.ownBlock = some g → (tv x).ownBlock ≠ some g := fun hr hT g hg e => by
  obtain ⟨⟨c, hc⟩, _⟩ := own_lt hr hg
  exact own_ne (h.told x hx) hc (fun e => hT e.symm) e
 refine ⟨h3, hl, kr h.lrow (by decide) (by decide) (ne38 h.lrow (by decide)), kr h.erow (by decide) (by decide) (ne38 h.erow (by decide)), fun i hi => ?_, fun i hi => ?_, h.lo, h.inj, fun i k g hi hk hik hg => ?_⟩
 · by_cases e : i = x
   · subst e; simp only [updF_same]; exact h1
   · simp only [updF_ne _ _ e]
     refine (h.thr i hi).same (hold _ (zq4 (h.thr i hi).hm) (fun e2 => e (h.inj i x hi hx e2)) (fun e2 => ?_) (own_ne (h.told x hx) (h.thr i hi).hm (by decide)))
     rw [← e2] at hsb
     exact absurd (heap_type (h.thr i hi).hm hsb) (by decide)
 · by_cases e : i = x
   · subst e; simp only [updF_same]; exact h2
   · simp only [updF_ne _ _ e]
     exact kr (h.told i hi) (by decide) (by decide) fun g hg => h.sep i x g hi hx e hg
 · by_cases e : i = x
   · subst e
     rw [updF_same] at hg
     rw [updF_ne _ _ (Ne.symm hik)]
     rcases hown g hg with h5 | h5
     · exact h.sep i k g hi hk hik h5
     · intro h6; have := (own_lt (h.told k hk) h6).2.2; omega
   · rw [updF_ne _ _ e] at hg
     by_cases e' : k = x
     · subst e'
       rw [updF_same]
       intro h6
       rcases hown g h6 with h5 | h5
       · exact h.sep i k g hi hk hik hg h5
       · have := (own_lt (h.told i hi) hg).2.2; omega
     · rw [updF_ne _ _ e']
       exact h.sep i k g hi hk hik hg
theorem PlI.setE {eb ecap x : Nat} {b : Bool} (h : PlI base W stv lv (.slice (some ⟨eb, 0, none⟩) ne ecap) prog cp C nl ne n tb tv th en er ws w) : PlI base W stv lv (.slice (some ⟨eb, 0, none⟩) ne ecap) prog cp C nl ne n tb tv th en (updF er x b) ws (w.setCell ⟨eb, x, none⟩ (.bool b)) := by
 obtain ⟨⟨cs, heb⟩, _⟩ := own_lt h.erow (g := eb) rfl
 have kr : ∀ {T : TypeId} {k m : Nat} {u : Value} {xs : List Value}, w.ownsRow base T k u m xs → T ≠ 4 → (w.setCell ⟨eb, x, none⟩ (.bool b)).ownsRow base T k u m xs := fun hr hT => zqd hr fun g hg => zq3 _ _ _ _ fun e => own_ne hr heb hT (by rw [hg, show g = eb from e])
 refine ⟨kr h.st (by decide), h.len, kr h.lrow (by decide), by rw [boolL_set]; exact row_set h.erow x _, fun i hi => (h.thr i hi).same (zq3 _ _ _ _ fun e => ?_), fun i hi => kr (h.told i hi) (by decide), h.lo, h.inj, h.sep⟩
 rw [← show tb i = eb from e] at heb
 exact absurd (heap_type (h.thr i hi).hm heb) (by decide)
theorem PlI.keepU (h : PlI base W stv lv ev prog cp C nl ne n tb tv th en er ws w) {ub : Nat} {ov : Value} {lsv : Value} {most a r k : Nat} {xs : List Value} (ht : TrB ub lsv most a r ov w) (ho : w.ownsRow base 3 1 ov k xs) {w' : World} (hR : RestU ub ov.ownBlock w w') : PlI base W stv lv ev prog cp C nl ne n tb tv th en er ws w' := by
 have kr : ∀ {T : TypeId} {k m : Nat} {u : Value} {xs : List Value}, w.ownsRow base T k u m xs → T ≠ 88 → T ≠ 3 → w'.ownsRow base T k u m xs := fun hr hT1 hT2 => zqd hr fun g hg => by
  refine hR.old g (own_lt hr hg).2.2 (fun e => own_ne hr ht.hm hT1 (by rw [hg, e])) fun e => ?_
  obtain ⟨⟨c, hc⟩, _⟩ := own_lt hr hg
  exact own_ne ho hc (fun e => hT2 e.symm) e
 refine ⟨kr h.st (by decide) (by decide), h.len, kr h.lrow (by decide) (by decide), kr h.erow (by decide) (by decide), fun i hi => (h.thr i hi).same (hR.old _ (zq4 (h.thr i hi).hm) (fun e => ?_) (own_ne ho (h.thr i hi).hm (by decide))), fun i hi => kr (h.told i hi) (by decide) (by decide), h.lo, h.inj, h.sep⟩
 have hh := (h.thr i hi).hm
 rw [e] at hh
 exact absurd (heap_type hh ht.hm) (by decide)
theorem PkI.keepS {ub : Nat} {lsv : Value} {most : Nat} {l : List Int} {a r : Nat} {ov : Value} {ord : List Nat} {en0 : Nat → Bool} {N : Nat} (k : PkI ub lsv most l a r ov ord ev en0 N base w) (h : PlI base W stv lv ev prog cp C nl ne n tb tv th en er ws w) {x sb : Nat} (hx : x < n) (hsb : ∃ c, w.heap[sb]? = some (.cells c 2)) {w' : World}
 (hold : ∀ b, b < w.heap.size → b ≠ tb x → b ≠ sb → (tv x).ownBlock ≠ some b → w'.heap[b]? = w.heap[b]?) : PkI ub lsv most l a r ov ord ev en0 N base w' := by
 obtain ⟨cs, hsb⟩ := hsb
 have kr : ∀ {T : TypeId} {k m : Nat} {u : Value} {xs : List Value}, w.ownsRow base T k u m xs → T ≠ 81 → T ≠ 2 → T ≠ 38 → w'.ownsRow base T k u m xs := fun hr hT1 hT2 hT3 => zqd hr fun g hg => by
  refine hold g (own_lt hr hg).2.2 (fun e => own_ne hr (h.thr x hx).hm hT1 (by rw [hg, e])) (fun e => own_ne hr hsb hT2 (by rw [hg, e])) fun e => ?_
  obtain ⟨⟨c, hc⟩, _⟩ := own_lt hr hg
  exact own_ne (h.told x hx) hc (fun e => hT3 e.symm) e
 refine ⟨⟨(hold ub (zq4 k.t.hm) (fun e => ?_) (fun e => ?_) (own_ne (h.told x hx) k.t.hm (by decide))).trans k.t.hm⟩, kr k.lrow (by decide) (by decide) (by decide), kr k.orow (by decide) (by decide) (by decide), kr k.erow (by decide) (by decide) (by decide), k.sep⟩
 · have hh := (h.thr x hx).hm
   rw [← e] at hh
   exact absurd (heap_type hh k.t.hm) (by decide)
 · rw [← e] at hsb
   exact absurd (heap_type hsb k.t.hm) (by decide)
theorem PkI.setE {ub : Nat} {lsv : Value} {most : Nat} {l : List Int} {a r : Nat} {ov : Value} {ord : List Nat} {en0 : Nat → Bool} {N eb ecap x : Nat} {b : Bool} (k : PkI ub lsv most l a r ov ord (.slice (some ⟨eb, 0, none⟩) N ecap) en0 N base w) : PkI ub lsv most l a r ov ord (.slice (some ⟨eb, 0, none⟩) N ecap) (updF en0 x b) N base (w.setCell ⟨eb, x, none⟩ (.bool b)) := by
 obtain ⟨⟨cs, heb⟩, _⟩ := own_lt k.erow (g := eb) rfl
 have kr : ∀ {T : TypeId} {k m : Nat} {u : Value} {xs : List Value}, w.ownsRow base T k u m xs → T ≠ 4 → (w.setCell ⟨eb, x, none⟩ (.bool b)).ownsRow base T k u m xs := fun hr hT => zqd hr fun g hg => zq3 _ _ _ _ fun e => own_ne hr heb hT (by rw [hg, show g = eb from e])
 refine ⟨⟨(zq3 _ _ _ _ fun e => ?_).trans k.t.hm⟩, kr k.lrow (by decide), kr k.orow (by decide), by rw [boolL_set]; exact row_set k.erow x _, k.sep⟩
 rw [← show ub = eb from e] at heb
 exact absurd (heap_type heb k.t.hm) (by decide)
end
def TraceF (B : Nat) (w : World) (v : Value) (N : Nat) (tolds : Nat → List Int) (ord st : List Int) (stuck : Bool) : Prop := ∀ w'' : World, (∀ b, B ≤ b → b < w.heap.size → w''.heap[b]? = w.heap[b]?) → TraceAt w'' v N tolds ord st stuck
def refP (prog : Nat → List Cd) (N : Nat) (mo : Int) (l : List Int) (ws : List Int) : PSt := playP prog N (min mo.toNat 1048576) l ⟨ws, fun _ => mchZ⟩
def RplayPost (prog : Nat → List Cd) (N : Nat) (mo : Int) (l ws : List Int) (w : World) (e : Ending) (w' : World) : Prop :=
 ∃ v, e = .returned v ∧ Beyond w w' ∧ TraceF w.heap.size w' v N (fun i => ((refP prog N mo l ws).mem.th i).told) ((refP prog N mo l ws).ord.map fun (i : Nat) => (i : Int)) (refP prog N mo l ws).mem.ws (decide (0 < leftN (refP prog N mo l ws).ov N)) ∧ (refP prog N mo l ws).ord.length ≤ 1048576 ∧ (∀ i, i < N → ((refP prog N mo l ws).mem.th i).told.length ≤ 4294971392) ∧ (refP prog N mo l ws).mem.ws.length = ws.length
structure BgI (base W : Nat) (stv : Value) (prog : Nat → List Cd) (ws : List Int) (w wA : World) (j : Nat) (lv ev : Value) (cp : Nat → Option Addr) (C : Nat → Nat) (tb : Nat → Nat) (tv : Nat → Value) (th : Nat → Mch) (en : Nat → Bool) (wr : World) : Prop where
 p : PlI base W stv lv ev prog cp C j j j tb tv th en en ws wr
 r : RefS prog ws th en j (beginP prog ⟨ws, fun _ => mchZ⟩ j)
 be : Beyond wA wr
 co : ∀ i, i < j → CodesAt w base (cp i) (prog i)
structure OldH (H : Nat) (w wr : World) : Prop where
 size : H + 1 ≤ wr.heap.size
 old : ∀ b, b < H → wr.heap[b]? = w.heap[b]?
 res : wr.heap[H]? = some (.cells #[.slice none 0 0, .slice none 0 0, .slice none 0 0, .bool false] 28)
theorem OldH.beyond {H : Nat} {w wr w' : World} (h : OldH H w wr) (hb : Beyond wr w') : OldH H w w' := ⟨Nat.le_trans h.size hb.1, fun b hlt => (hb.2 b (by have := h.size; omega)).trans (h.old b hlt), hb.heap h.res⟩
structure RnI (H W : Nat) (stv lv ev : Value) (prog : Nat → List Cd) (cp : Nat → Option Addr) (C : Nat → Nat) (N : Nat) (tb : Nat → Nat) (P : PSt) (l : List Int) (most ub : Nat) (lsv : Value) (w : World) (a r : Nat) (ov : Value) (tv : Nat → Value) (th : Nat → Mch) (en : Nat → Bool) (ws : List Int) (s : PSt) (wr : World) : Prop where
 p : PlI H W stv lv ev prog cp C N N N tb tv th en en ws wr
 rs : RefS prog ws th en N s
 k : PkI ub lsv most l a r ov s.ord ev en N H wr
 inv : playInv prog l N most P a r s
 le : a ≤ l.length ∧ r ≤ N ∧ s.ord.length ≤ most
 old : OldH H w wr
 ub : H ≤ ub
theorem RnI.over {H W : Nat} {stv lv ev : Value} {prog : Nat → List Cd} {cp : Nat → Option Addr} {C : Nat → Nat} {N : Nat} {tb : Nat → Nat} {P : PSt} {l : List Int} {most ub : Nat} {lsv : Value} {w : World} {a r : Nat} {ov : Value} {tv : Nat → Value} {th : Nat → Mch} {en : Nat → Bool} {ws : List Int} {s : PSt} {wr : World}
 (h : RnI H W stv lv ev prog cp C N tb P l most ub lsv w a r ov tv th en ws s wr) (hs : allB en N = true ∨ s.ord.length = most) : P = s := by
 refine playInv_stop h.inv ?_
 rcases hs with hs | hs
 · left
   have : ∀ i, i < N → s.ov i = true := fun i hi => by rw [← h.rs.hen i hi]; exact allB_iff.1 hs i hi
   rcases Nat.eq_zero_or_pos (leftN s.ov N) with h0 | h0
   · exact h0
   · obtain ⟨i, hi, he⟩ := leftN_pos h0
     rw [this i hi] at he
     cases he
 · exact .inr hs
theorem RnI.next {H W sb scap eb ecap : Nat} {lv : Value} {prog : Nat → List Cd} {cp : Nat → Option Addr} {C : Nat → Nat} {N : Nat} {tb : Nat → Nat} {P : PSt} {l : List Int} {most ub : Nat} {lsv : Value} {w : World} {a r : Nat} {ov : Value} {tv : Nat → Value} {th : Nat → Mch} {en : Nat → Bool} {ws : List Int} {s : PSt} {wr w2 w3 : World} {x a' r' : Nat} {ov' : Value} {c : Cd} {e : Ending}
 (h : RnI H W (.slice (some ⟨sb, 0, none⟩) W scap) lv (.slice (some ⟨eb, 0, none⟩) N ecap) prog cp C N tb P l most ub lsv w a r ov tv th en ws s wr) (hmost : most ≤ 1048576) (hne : s.ord.length ≠ most)
 (hpk : PickR l N en a r x a' r') (ha' : a' ≤ l.length) (hk : PkI ub lsv most l a' r' ov' (s.ord ++ [x]) (.slice (some ⟨eb, 0, none⟩) N ecap) en N H w2) (hR : RestU ub ov.ownBlock wr w2)
 (hc : atC (prog x) (th x) = some c) (hp : RstepPost (tb x) (cp x) (prog x).length (C x) H (tv x) sb W scap (prog x) (stepC c ws (th x)) w2 e w3) :
 e = .returned (.tuple #[]) ∧ ∃ v b, w3.cell? ⟨tb x, 7, none⟩ = some (.bool b) ∧ w3.ownsRow H 78 1 lv N (thrL tb N) ∧ w3.ownsRow H 4 1 (.slice (some ⟨eb, 0, none⟩) N ecap) N (boolL en N) ∧ RnI H W (.slice (some ⟨sb, 0, none⟩) W scap) lv (.slice (some ⟨eb, 0, none⟩) N ecap) prog cp C N tb P l most ub lsv w a' r' ov' (updF tv x v) (updF th x (goR (prog x) ws.length 4096 (stepC c ws (th x)).2).1) (updF en x b) (stepC c ws (th x)).1 (turnP x (goP prog x s.mem) s (s.ord ++ [x])) (w3.setCell ⟨eb, x, none⟩ (.bool b)) := by
 obtain ⟨hx, hex⟩ := hpk.lt
 have p2 := h.p.keepU h.k.t h.k.orow hR
 obtain ⟨he, v, t3, o3, s3, z3, old3, own3⟩ := hp
 have hlW : ws.length = W := h.p.len
 rw [← hlW] at s3 t3 o3
 have hl' : (stepC c ws (th x)).1.length = W := by rw [stepC_len]; exact hlW
 have p3 := p2.step hx hl' t3 o3 (by rw [hlW] at s3; exact s3) z3 old3 own3
 have p4 := p3.setE (x := x) (b := !(goR (prog x) ws.length 4096 (stepC c ws (th x)).2).2)
 have k3 := hk.keepS p2 hx (own_lt p2.st rfl).1 old3
 have k4 := k3.setE (x := x) (b := !(goR (prog x) ws.length 4096 (stepC c ws (th x)).2).2)
 have hs := h.le.2.2
 have hres : ∀ {T : TypeId} {m n : Nat} {u : Value} {xs : List Value} {w' : World}, w'.ownsRow H T m u n xs → ∀ g, u.ownBlock = some g → H ≤ g ∧ ∃ c, w'.heap[g]? = some (.cells c T) := fun hr g hg => ⟨(own_lt hr hg).2.1, (own_lt hr hg).1⟩
 have old2 : OldH H w w2 := by
  refine ⟨Nat.le_trans h.old.size hR.size, fun b hb => ?_, ?_⟩
  · rw [hR.old b (by have := h.old.size; omega) (by have := h.ub; omega) (fun e => by have := (hres h.k.orow b e).1; omega)]; exact h.old.old b hb
  · rw [hR.old H (by have := h.old.size; omega) (fun e => ?_) (fun e => ?_)]; exact h.old.res
    · have := h.old.res; rw [e] at this; exact absurd (heap_type this h.k.t.hm) (by decide)
    · obtain ⟨_, cc, hcc⟩ := hres h.k.orow H e
      exact absurd (heap_type hcc h.old.res) (by decide)
 have hsb := hres p2.st sb rfl
 have heb := hres p3.erow eb rfl
 have old3' : OldH H w w3 := by
  refine ⟨Nat.le_trans old2.size z3, fun b hb => ?_, ?_⟩
  · rw [old3 b (by have := old2.size; omega) (by have := p2.lo x hx; omega) (by have := hsb.1; omega) (fun e => by have := (hres (p2.told x hx) b e).1; omega)]; exact old2.old b hb
  · rw [old3 H (by have := old2.size; omega) (fun e => ?_) (fun e => ?_) (fun e => ?_)]; exact old2.res
    · have := old2.res; rw [e] at this; exact absurd (heap_type this (p2.thr x hx).hm) (by decide)
    · obtain ⟨_, cc, hcc⟩ := hsb; rw [← e] at hcc; exact absurd (heap_type hcc old2.res) (by decide)
    · obtain ⟨_, cc, hcc⟩ := hres (p2.told x hx) H e; exact absurd (heap_type hcc old2.res) (by decide)
 refine ⟨he, v, _, t3.ce, p3.lrow, p3.erow, p4, h.rs.step hx hex hc (by omega), ?_, playInv_step h.inv (by omega) ?_, ⟨ha', ?_, ?_⟩, ⟨by rw [zqi]; exact old3'.size, fun b hb => ?_, ?_⟩, h.ub⟩
 · exact k4
 · have : PickR l N s.ov a r x a' r' := by
    have hen := h.rs.hen
    have hsk : ∀ y, skipN N en y → skipN N s.ov y := fun y hy => by
     rcases hy with h1 | h1 | h1
     · exact .inl h1
     · exact .inr (.inl h1)
     · by_cases h2 : y < 0
       · exact .inl h2
       by_cases h3 : (N : Int) ≤ y
       · exact .inr (.inl h3)
       · exact .inr (.inr (by rw [← hen _ (by omega)]; exact h1))
    cases hpk with
    | list hka hxx hN he hs => exact .list hka hxx hN (by rw [← hen _ hN]; exact he) fun j y h1 h2 h3 => hsk y (hs j y h1 h2 h3)
    | round hs hr hxx hN he hv ha => exact .round (fun j y h1 h2 => hsk y (hs j y h1 h2)) hr hxx hN (by rw [← hen _ hx]; exact he) (fun j h1 h2 => by rw [← hen _ (Nat.mod_lt _ hN)]; exact hv j h1 h2) ha
   exact this
 · cases hpk with
   | list hk hxx hN he hs => exact h.le.2.1
   | round hs hr hxx hN he hv ha => exact hx
 · simp only [turnP, List.length_append, List.length_cons, List.length_nil]; omega
 · rw [zq3 _ _ _ _ (show b ≠ eb by have := heb.1; omega)]; exact old3'.old b hb
 · rw [zq3 _ _ _ _ (show H ≠ eb from fun e => by obtain ⟨_, cc, hcc⟩ := heb; rw [← e] at hcc; exact absurd (heap_type hcc old3'.res) (by decide))]; exact old3'.res
theorem RnI.beyond {H W : Nat} {stv lv ev : Value} {prog : Nat → List Cd} {cp : Nat → Option Addr} {C : Nat → Nat} {N : Nat} {tb : Nat → Nat} {P : PSt} {l : List Int} {most ub : Nat} {lsv : Value} {w : World} {a r : Nat} {ov : Value} {tv : Nat → Value} {th : Nat → Mch} {en : Nat → Bool} {ws : List Int} {s : PSt} {wr w' : World}
 (h : RnI H W stv lv ev prog cp C N tb P l most ub lsv w a r ov tv th en ws s wr) (hb : Beyond wr w') : RnI H W stv lv ev prog cp C N tb P l most ub lsv w a r ov tv th en ws s w' := ⟨h.p.beyond hb, h.rs, h.k.beyond hb, h.inv, h.le, h.old.beyond hb, h.ub⟩
theorem ints_of_row {w : World} {B n : Nat} {T : TypeId} {v : Value} {l : List Int} (h : w.ownsRow B T 1 v n (l.map (Value.int .i64))) : IntsAt w v l := by
 have hn : l.length = n := by have := h.1; simpa using this
 obtain ⟨p, C, e, _, hc⟩ := row_form h
 refine ⟨p, C, by rw [hn]; exact e, fun hl => ?_⟩
 have h0 : 0 < l.length := List.length_pos_iff.2 hl
 obtain ⟨g, e2, _, hc⟩ := hc (by omega)
 refine ⟨g, 0, e2, fun i hi => ?_⟩
 rw [Nat.zero_add]
 exact hc i _ (by simp [hi])
structure AnI (w0 : World) (base : Nat) (j : Nat) (av : List Value) (ans ov sv : Value) (b : Bool) (wr : World) : Prop where
 size : w0.heap.size + 1 ≤ wr.heap.size
 old : ∀ b, b < w0.heap.size → wr.heap[b]? = w0.heap[b]?
 var : wr.heap[w0.heap.size]? = some (.cells #[ans, ov, sv, .bool b] 28)
 arow : wr.ownsRow (w0.heap.size + 1) 36 1 ans j av
theorem AnI.next {w0 : World} {base j : Nat} {av : List Value} {ans ov sv x : Value} {b : Bool} {wr w5 : World} (h : AnI w0 base j av ans ov sv b wr) {g cap n : Nat}
 (hown : w5.ownsRow (w0.heap.size + 1) 36 1 (.slice (some ⟨g, 0, none⟩) (j + 1) cap) (j + 1) (av ++ [x])) (hgrow : ((wr.drewN n).alloc (.cells #[x] 36)).grownBy w5 ans.ownBlock) :
 AnI w0 base (j + 1) (av ++ [x]) (.slice (some ⟨g, 0, none⟩) (j + 1) cap) ov sv b (w5.setCell ⟨w0.heap.size, 0, none⟩ (.slice (some ⟨g, 0, none⟩) (j + 1) cap)) := by
 have hs := h.size
 have hs5 : wr.heap.size + 1 ≤ w5.heap.size := by have := hgrow.size; rw [zq6] at this; exact this
 have h5 : ∀ b, b < wr.heap.size → ans.ownBlock ≠ some b → w5.heap[b]? = wr.heap[b]? := fun b hb hne => by
  rw [hgrow.block b (by rw [zq6]; exact Nat.lt_succ_of_lt hb) (fun e => hne e.symm), zqa, if_neg (by show b ≠ wr.heap.size; omega)]; rfl
 have hlo : ∀ g, ans.ownBlock = some g → w0.heap.size + 1 ≤ g := fun g hg => (own_lt h.arow hg).2.1
 have hv5 : w5.heap[w0.heap.size]? = _ := (h5 _ (by omega) (fun e => by have := hlo _ e; omega)).trans h.var
 refine ⟨by rw [zqi]; omega, fun b hb => ?_, (zqh _ _ _ _ hv5).trans rfl, ?_⟩
 · rw [zq3 _ _ _ _ (show b ≠ w0.heap.size by omega), h5 b (by omega) (fun e => by have := hlo _ e; omega)]; exact h.old b hb
 · refine zqd hown fun g' hg' => zq3 _ _ _ _ ?_
   have := (own_lt hown hg').2.1
   show g' ≠ w0.heap.size; omega
theorem toldL_get : ∀ (l : List Int) (i : Nat), i < l.length → (toldL l)[i * 3]? = some (.bool true) ∧ (toldL l)[i * 3 + 1]? = some (.int .i64 (l.getD i 0)) ∧ (toldL l)[i * 3 + 2]? = some (.slice none 0 0)
 | [], i, hi => absurd hi (Nat.not_lt_zero _)
 | a :: l, 0, _ => ⟨rfl, rfl, rfl⟩
 | a :: l, i + 1, hi => by
  have := toldL_get l i (by simpa using hi)
  have e : toldL (a :: l) = .bool true :: .int .i64 a :: .slice none 0 0 :: toldL l := rfl
  rw [e, show (i + 1) * 3 = i * 3 + 1 + 1 + 1 by omega]
  simp only [al_g1, List.getD_cons_succ]
  exact this
theorem ans_of_row {w : World} {B n : Nat} {v : Value} {l : List Int} (h : w.ownsRow B 38 3 v n (toldL l)) (hn : l.length = n) : AnsAt w v l := by
 rcases h.2 with ⟨hv, h0⟩ | ⟨g, cap, cur, hv, hb, hh, h1, h2, h3, h4⟩
 · exact ⟨none, 0, by rw [hn, h0]; exact (by rw [hv]), fun hl => absurd (List.length_eq_zero_iff.1 (by omega)) hl⟩
 · refine ⟨_, cap, by rw [hn]; exact hv, fun _ => ⟨g, 0, rfl, fun i hi => ?_⟩⟩
   have key : ∀ x v, (toldL l)[x]? = some v → w.cell? ⟨g, x, none⟩ = some v := fun x v hx => by
    rw [zq0 (off := x) hh]
    rw [← h4, List.getElem?_take] at hx
    split at hx
    · simpa using hx
    · cases hx
   obtain ⟨g1, g2, g3⟩ := toldL_get l i hi
   rw [Nat.zero_add]
   exact ⟨key _ _ g1, key _ _ g2, key _ _ g3⟩
theorem allB_left {en ov : Nat → Bool} {N : Nat} (h : ∀ i, i < N → en i = ov i) : (!allB en N) = decide (0 < leftN ov N) := by
 cases ha : allB en N with
 | true =>
  have h0 : leftN ov N = 0 := by
   rcases Nat.eq_zero_or_pos (leftN ov N) with h0 | h0
   · exact h0
   · obtain ⟨i, hi, he⟩ := leftN_pos h0
     rw [← h i hi, allB_iff.1 ha i hi] at he
     cases he
  simp [h0]
 | false =>
  have : 0 < leftN ov N := by
   rcases Nat.eq_zero_or_pos (leftN ov N) with h0 | h0
   · have : allB en N = true := allB_iff.2 fun i hi => by rw [h i hi]; exact leftN_zero h0 hi
     rw [ha] at this; cases this
   · exact h0
  simp [this]
theorem RnI.final {H W : Nat} {stv lv ev : Value} {prog : Nat → List Cd} {cp : Nat → Option Addr} {C : Nat → Nat} {N : Nat} {tb : Nat → Nat} {P : PSt} {l : List Int} {most ub : Nat} {lsv : Value} {w : World} {a r : Nat} {ov : Value} {tv : Nat → Value} {th : Nat → Mch} {en : Nat → Bool} {ws : List Int} {s : PSt} {w3 : World}
 (h : RnI H W stv lv ev prog cp C N tb P l most ub lsv w a r ov tv th en ws s w3) (hH : w.heap.size = H) (hPs : P = s) {ans : Value} {wr w9 : World} (ha : AnI w3 H N ((List.range N).map tv) ans ov stv (!allB en N) wr) (hs : wr.heap.size ≤ w9.heap.size) (h9 : ∀ b, b ≠ H → w9.heap[b]? = wr.heap[b]?) :
 Beyond w w9 ∧ TraceF H w9 (.agg #[ans, ov, stv, .bool (!allB en N)]) N (fun i => (P.mem.th i).told) (P.ord.map fun (i : Nat) => (i : Int)) P.mem.ws (decide (0 < leftN P.ov N)) := by
 rw [hPs]
 have hH3 := h.old.size
 have k9 : ∀ b, b < w3.heap.size → b ≠ H → w9.heap[b]? = w3.heap[b]? := fun b hb hne => (h9 b hne).trans (ha.old b hb)
 have kr : ∀ {T : TypeId} {k m : Nat} {u : Value} {xs : List Value}, w3.ownsRow H T k u m xs → T ≠ 28 → w9.ownsRow H T k u m xs := fun hr hT => zqd hr fun g hg => k9 g (own_lt hr hg).2.2 fun e => own_ne hr h.old.res hT (by rw [hg, e])
 refine ⟨⟨by have := ha.size; omega, fun b hb => ?_⟩, fun w'' hw => ?_⟩
 · rw [k9 b (by omega) (by omega)]; exact h.old.old b (by omega)
 · have kr : ∀ {T : TypeId} {k m : Nat} {u : Value} {xs : List Value}, w3.ownsRow H T k u m xs → T ≠ 28 → w''.ownsRow H T k u m xs := fun hr hT => zqd (kr hr hT) fun g hg => hw g (own_lt hr hg).2.1 (own_lt (kr hr hT) hg).2.2
   have har : w''.ownsRow (w3.heap.size + 1) 36 1 ans N ((List.range N).map tv) := zqd ha.arow fun g hg => by
    have h1 := (own_lt ha.arow hg).2
    exact (hw g (by omega) (by omega)).trans (h9 g (by omega))
   obtain ⟨p, C', e, _, hc⟩ := row_form har
   refine ⟨p, C', ov, stv, by rw [e, allB_left h.rs.hen], ?_, ?_, fun h0 => ?_⟩
   · refine ints_of_row (B := H) (n := s.ord.length) (T := 3) ?_
     rw [List.map_map]
     exact kr h.k.orow (by decide)
   · refine ints_of_row (B := H) (n := W) (T := 2) ?_
     rw [← h.rs.hws]
     exact kr h.p.st (by decide)
   · obtain ⟨g, e2, _, hc⟩ := hc h0
     refine ⟨g, 0, e2, fun i hi => ⟨tv i, ?_, ?_⟩⟩
     · rw [Nat.zero_add]; exact hc i _ (by simp [hi])
     · have h1 := kr (h.p.told i hi) (by decide)
       rw [(h.rs.hth i hi).told] at h1
       exact ans_of_row h1 rfl
theorem rplay_lone {w : World} {wv sv : Value} {pp : Option Addr} {n Cp : Nat} {prog : Nat → List Cd} {ws l : List Int} {mo : Int} {N : Nat} (hN : N = min n 64) (hn : n ≤ 1099511627776) (hW : ws.length ≤ 1099511627776) (hl : l.length ≤ 1099511627776) (hlen : ∀ i, i < n → (prog i).length ≤ 1099511627776) (hw : IntsAt w wv ws) (hs : IntsAt w sv l) (hp : RefProgs w pp n prog) :
 Calls Try.prog 12 #[wv, .slice pp n Cp, sv, .int .i64 mo] w fun e w' => RplayPost prog N mo l ws w e w' := by
 obtain ⟨H, hH⟩ : ∃ H, w.heap.size = H := ⟨_, rfl⟩
 have hA0 : ∃ wA, w.alloc (.cells #[.slice none 0 0, .slice none 0 0, .slice none 0 0, .bool false] 28) = wA ∧ Beyond w wA ∧ wA.heap.size = H + 1 ∧ wA.heap[H]? = some (.cells #[.slice none 0 0, .slice none 0 0, .slice none 0 0, .bool false] 28) := ⟨_, rfl, Beyond.alloc _ _, by rw [zq6, hH], by rw [← hH]; exact al_new _ _⟩
 obtain ⟨wA, hwA, hbA, hsA, hAH⟩ := hA0
 obtain ⟨stv, w1, hrun, hown, hbe, hat⟩ := run_copy_ints (P := Try.prog) (base := H) (t := 22) (ty := 22) (e := 2) (i := (Try.prog.info? 2).getD default) (z := .int .i64 0) (by kernel_rfl) (by kernel_rfl) (by kernel_rfl) (by kernel_rfl) (by kernel_rfl) (by rfl) (hw.beyond hbA) hW (by omega)
 obtain ⟨wp, wC, rfl, _⟩ := hw
 obtain ⟨svp, svC, hsv, _⟩ := id hs
 subst hsv
 obtain ⟨vp, vn, vc, rfl⟩ := own_slice hown
 have hvn : vn = ws.length := by obtain ⟨p, C, e, _⟩ := row_form hown; cases e; rfl
 obtain ⟨W, hWW⟩ : ∃ W, ws.length = W := ⟨_, rfl⟩
 rw [hWW] at hvn
 subst hvn
 have HR := Lib.hid (And.intro hown (And.intro hbe hat))
 have HW := Lib.hid hWW
 have HP := Lib.hid (And.intro hp hlen)
 have HS := Lib.hid hs
 rw [hWW] at hrun ⊢
 clear hown hbe hat hlen hp hs
 have HA := Lib.hid (And.intro hbA (And.intro hsA hAH))
 clear hbA hsA hAH
 have HNN := Lib.hid hN
 have hNn : N ≤ n := by omega
 have hN64 : N ≤ 64 := by omega
 go_enter Try.func12, Try.ntmps12
 go_wp2_with (at_builtin; go_loud (refine wpList_append_run rfl (.tmp 19) (.tmp 20) 22 rfl hrun ?_))
 clear hrun
 have thr : ∀ w, Calls Try.prog 27 #[.int .i64 n] w fun e w' => e = .returned (.int .i64 N) ∧ w' = w := fun w => by rw [HNN.out]; exact threads_lone n w hn
 have HH := Lib.hid hH
 clear hN hWW hwA hH
 have hI0 : BgI H vn (.slice vp vn vc) prog ws w wA 0 (.slice none 0 0) (.slice none 0 0) (fun _ => none) (fun _ => 0) (fun _ => 0) (fun _ => .slice none 0 0) (fun _ => mchZ) (fun _ => false) w1 := by
  refine ⟨⟨?_, HW.out, World.ownsRow_nil _ _ _ _, World.ownsRow_nil _ _ _ _, fun i hi => absurd hi (Nat.not_lt_zero _), fun i hi => absurd hi (Nat.not_lt_zero _), fun i hi => absurd hi (Nat.not_lt_zero _), fun i k hi => absurd hi (Nat.not_lt_zero _), fun i k g hi => absurd hi (Nat.not_lt_zero _)⟩, RefS.zero _ _ _ _, HR.out.2.1, fun i hi => absurd hi (Nat.not_lt_zero _)⟩
  have := HR.out.1
  rw [HW.out] at this
  exact this
 have HI0 := Lib.hid hI0
 clear hI0
 go_loopg [10, 11, 12] N (fun k lv' ev' i wr => ∃ (j : Nat) (lv ev : Value) (cp : Nat → Option Addr) (C : Nat → Nat) (tb : Nat → Nat) (tv : Nat → Value) (th : Nat → Mch) (en : Nat → Bool), lv = lv' ∧ ev = ev' ∧ k = N - j ∧ j ≤ N ∧ i = .int .i64 j ∧ BgI H vn (.slice vp vn vc) prog ws w wA j lv ev cp C tb tv th en wr)
 case atStart => exact ⟨0, _, _, _, _, _, _, _, _, rfl, rfl, rfl, Nat.zero_le _, rfl, HI0.out⟩
 case round =>
  obtain ⟨j, lv, ev, cp, C, tb, tv, th, en, hlv, hev, hk, hj, rfl, hI⟩ := hrel
  subst hlv hev
  have HI := Lib.hid hI
  clear hI
  by_cases hlt : j < N
  · have hlt' : (j : Int) < (N : Int) := by omega
    have hj0 : (0 : Int) ≤ j := by omega
    have hjn : (j : Int) < (n : Int) := by omega
    obtain ⟨pb, po, rfl, hc⟩ := HP.out.1 (by omega)
    obtain ⟨q, Cq, hc1, hc2⟩ := hc j (by omega)
    have c1 := (HA.out.1.trans HI.out.be).cell hc1
    have hL := HP.out.2 j (by omega)
    obtain ⟨L, hLL⟩ : ∃ L, (prog j).length = L := ⟨_, rfl⟩
    rw [hLL] at c1 hL
    have HLL := Lib.hid hLL
    have hco : CodesAt w H q (prog j) := fun hne => by
     obtain ⟨gb, go, e, hcc⟩ := hc2 hne
     refine ⟨gb, go, e, ?_, hcc⟩
     obtain ⟨c, hcd⟩ : ∃ c, (prog j)[0]? = some c := ⟨_, List.getElem?_eq_getElem (by cases h : prog j with | nil => exact absurd h hne | cons _ _ => simp)⟩
     have h0 : w.cell? ⟨gb, go + 0 * 5 + 0, none⟩ = some (.int .i64 c.d) := hcc 0 c hcd 0 (by omega)
     have := cell_lt h0
     rw [HH.out] at this
     exact this
    have HCO := Lib.hid hco
    clear hc hc1 hc2 hLL hco
    go_wp2_with (fail)
    refine Calls.mono (thr _) ?_
    rintro e w' ⟨rfl, hww⟩
    obtain rfl := hww.symm
    clear hww
    go_wp2_with (fail)
    obtain ⟨tn, htn⟩ : ∃ t, wr.heap.size = t := ⟨_, rfl⟩
    obtain ⟨w2, hw2⟩ : ∃ w2, wr.alloc (.cells #[.slice q L Cq, .int .i64 0, .int .i64 0, .int .i64 0, .int .i64 0, .int .i64 0, .slice none 0 0, .bool false] 81) = w2 := ⟨_, rfl⟩
    have hb2 : Beyond wr w2 := by rw [← hw2]; exact Beyond.alloc _ _
    have hT2 : ThB tn q L Cq (.slice none 0 0) mchZ false w2 := ⟨by rw [← hw2, ← htn]; exact al_new _ _⟩
    have hs2 : w2.heap.size = tn + 1 := by rw [← hw2, zq6, htn]
    rw [hw2, htn]
    have HT := Lib.hid (And.intro htn (And.intro hb2 (And.intro hT2 hs2)))
    have hHle : H ≤ tn := by rw [← htn]; have := HI.out.be.1; have := HA.out.2.1; omega
    clear hw2 htn hb2 hT2 hs2 c1
    refine Calls.mono (rgo_lone (pr := prog j) (base := H) HLL.out hL HT.out.2.2.1 (World.ownsRow_nil _ _ _ _) (by decide) hHle (HCO.out.keep fun b hb => ?_)) ?_
    · have h1 := HT.out.2.1.2 b (by have := HT.out.1; omega)
      have h2 := (HA.out.1.trans HI.out.be).2 b (by rw [HH.out]; exact hb)
      exact h1.trans h2
    rintro e w3 ⟨rfl, tvn, hT3, ho3, hr3, hown3⟩
    have hb3 : Beyond wr w3 := by
     have hs := HT.out.2.2.2
     have ht := HT.out.1
     refine ⟨by have := hr3.size; omega, fun b hb => ?_⟩
     rw [hr3.old b (by omega) (by omega) (by simp [Value.ownBlock])]
     exact HT.out.2.1.2 b hb
    have hP3 : PlI H vn (.slice vp vn vc) lv ev prog (updF cp j q) (updF C j Cq) j j (j + 1) (updF tb j tn) (updF tv j tvn) (updF th j (goR (prog j) vn 4096 mchZ).1) (updF en j (!(goR (prog j) vn 4096 mchZ).2)) en ws w3 := by
     refine (HI.out.p.beyond hb3).addT (Nat.le_refl _) (by rw [HLL.out]; exact hT3) ho3 hHle (fun i hi e => ?_) (fun i g hi hg e => ?_)
     · have := zq4 (HI.out.p.thr i hi).hm
       rw [HT.out.1] at this
       omega
     · have h1 := (own_lt (HI.out.p.told i hi) hg).2.2
       rcases hown3 g e with h2 | h2
       · cases h2
       · have h3 := HT.out.2.2.2; have h4 := HT.out.1; omega
    have HP3 := Lib.hid hP3
    have HB3 := Lib.hid hb3
    have ce3 := hT3.ce
    clear hP3 hb3 hT3 ho3 hr3 hown3
    obtain ⟨bgo, hbgo⟩ : ∃ b, (goR (prog j) vn 4096 mchZ).2 = b := ⟨_, rfl⟩
    rw [hbgo] at ce3
    have HBG := Lib.hid hbgo
    clear hbgo
    obtain ⟨ti, hti, hz0, hz1, hz2⟩ : ∃ ti, Try.prog.info? 78 = some ti ∧ ti.zero = some (.pointer none) ∧ ti.size = 1 ∧ ti.bytes = 8 := ⟨_, rfl, rfl, rfl, rfl⟩
    have TI := Lib.hid (And.intro hti (And.intro hz0 (And.intro hz1 hz2)))
    clear hti hz0 hz1 hz2
    go_wp2_with (at_builtin; go_loud (refine wpList_append_lies _ rfl (.tmp 39) (.tmp 41) 76 rfl H 78 ti (.pointer none) 1 8 (by kernel_rfl) TI.out.1 TI.out.2.1 TI.out.2.2.1 TI.out.2.2.2 rfl (by decide) _ j (thrL (updF tb j tn) j) rfl (row_allocK HP3.out.lrow _) _ 1 1 [.pointer (some ⟨tn, 0, none⟩)] rfl rfl (one_new rfl) (by simp [Value.oneCell']) (by decide) (by simp only [maxLen]; omega) (by omega) (by have := HB3.out.1; have := HT.out.1; rw [zq6]; omega) _ rfl ?next))
    case next =>
     intro g1 cap1 w4 hown hgrow hat hlt4
     have hP4 := HP3.out.pushL (v := .slice (some ⟨g1, 0, none⟩) (j + 1) cap1) (by rw [updF_same]; exact hown) hgrow
     have ce4 := (hP4.thr j (by omega)).ce
     rw [updF_same, updF_same] at ce4
     rw [HBG.out] at ce4
     have hb4 : w3.heap.size ≤ w4.heap.size ∧ ∀ b, b < wA.heap.size → w4.heap[b]? = w3.heap[b]? := by
      have hs := hgrow.size
      rw [zq6] at hs
      refine ⟨by omega, fun b hb => ?_⟩
      have h1 := HI.out.be.1
      have h2 := HB3.out.1
      rw [hgrow.block b (by rw [zq6]; omega) (fun e => ?_), zqa, if_neg (by omega)]
      obtain ⟨⟨c, hc⟩, hHb, _⟩ := own_lt HP3.out.lrow e.symm
      have hbH : b = H := by have := HA.out.2.1; omega
      subst hbH
      exact absurd (heap_type hc ((HI.out.be.trans HB3.out).heap HA.out.2.2)) (by decide)
     have HP4 := Lib.hid hP4
     have HB4 := Lib.hid hb4
     clear hown hgrow hat hlt4 hP4 hb4 ce3
     obtain ⟨ti2, hti, hz0, hz1, hz2⟩ : ∃ ti, Try.prog.info? 4 = some ti ∧ ti.zero = some (.bool false) ∧ ti.size = 1 ∧ ti.bytes = 1 := ⟨_, rfl, rfl, rfl, rfl⟩
     have TI2 := Lib.hid (And.intro hti (And.intro hz0 (And.intro hz1 hz2)))
     clear hti hz0 hz1 hz2
     go_wp2_with (at_builtin; go_loud (refine wpList_append_lies _ rfl (.tmp 43) (.tmp 48) 44 rfl H 4 ti2 (.bool false) 1 1 (by kernel_rfl) TI2.out.1 TI2.out.2.1 TI2.out.2.2.1 TI2.out.2.2.2 rfl (by decide) _ j (boolL en j) rfl (row_allocK HP4.out.erow _) _ 1 1 [.bool (!bgo)] rfl rfl (one_new rfl) (by simp [Value.oneCell']) (by decide) (by simp only [maxLen]; omega) (by omega) (by have := HB3.out.1; have := HT.out.1; have := HB4.out.1; rw [zq6]; omega) _ rfl ?next))
     case next =>
      intro g2 cap2 w5 hown hgrow hat hlt5
      have hP5 := HP4.out.pushE (v := .slice (some ⟨g2, 0, none⟩) (j + 1) cap2) (b := !bgo) hown hgrow
      have hb5 : Beyond wA w5 := by
       have hs := hgrow.size
       rw [zq6] at hs
       have h1 := HI.out.be.1
       have h2 := HB3.out.1
       have h4 := HB4.out.1
       refine ⟨by omega, fun b hb => ?_⟩
       rw [hgrow.block b (by rw [zq6]; omega) (fun e => ?_), zqa, if_neg (by omega)]
       · rw [HB4.out.2 b hb, HB3.out.2 b (by omega), HI.out.be.2 b hb]
       · obtain ⟨⟨c, hc⟩, hHb, _⟩ := own_lt HP4.out.erow e.symm
         have hbH : b = H := by have := HA.out.2.1; omega
         subst hbH
         have hX := (HB4.out.2 b hb).trans ((HI.out.be.trans HB3.out).heap HA.out.2.2)
         exact absurd (heap_type hc hX) (by decide)
      have hfin : BgI H vn (.slice vp vn vc) prog ws w wA (j + 1) (.slice (some ⟨g1, 0, none⟩) (j + 1) cap1) (.slice (some ⟨g2, 0, none⟩) (j + 1) cap2) (updF cp j q) (updF C j Cq) (updF tb j tn) (updF tv j tvn) (updF th j (goR (prog j) ws.length 4096 mchZ).1) (updF en j (!(goR (prog j) ws.length 4096 mchZ).2)) w5 := by
       refine ⟨?_, HI.out.r.begin, hb5, fun i hi => ?_⟩
       · rw [HW.out]
         have := HBG.out
         rw [this]
         exact (by rw [← HBG.out]; rw [← HBG.out] at hP5; exact hP5)
       · by_cases e : i = j
         · subst e; rw [updF_same]; exact HCO.out
         · rw [updF_ne _ _ e]; exact HI.out.co i (by omega)
      have HF := Lib.hid hfin
      clear hown hgrow hat hlt5 hP5 hb5 hfin
      go_wp2
      go_roundg (N - (j + 1))
      case measure => omega
      case rel => exact ⟨j + 1, _, _, _, _, _, _, _, _, rfl, rfl, rfl, by omega, rfl, HF.out⟩
  · obtain rfl : N = j := by omega
    go_wp2_with (fail)
    refine Calls.mono (thr _) ?_
    rintro e w' ⟨rfl, hww⟩
    obtain rfl := hww.symm
    clear hww
    go_wp2_with (fail)
    refine Calls.mono (newturns_lone (mo := mo) hl (HS.out.beyond (HA.out.1.trans HI.out.be))) ?_
    rintro e w2 ⟨ub, lsv, rfl, ht, hlr, hbe2, hub⟩
    obtain ⟨most, hmost⟩ : ∃ x, min mo.toNat 1048576 = x := ⟨_, rfl⟩
    have hm : most ≤ 1048576 := by omega
    rw [hmost] at ht
    have hR0 : RnI H vn (.slice vp vn vc) lv ev prog cp C N tb (refP prog N mo l ws) l most ub lsv w 0 0 (.slice none 0 0) tv th en ws (beginP prog ⟨ws, fun _ => mchZ⟩ N) w2 := by
     have hsz := HI.out.be.1
     have h1 := HA.out.2.1
     have h0 := HH.out
     have hord := begin_ord prog ⟨ws, fun _ => mchZ⟩ N
     have p2 := HI.out.p.beyond hbe2
     refine ⟨p2, HI.out.r, ⟨ht, ownsRow_base hlr (by omega), ?_, p2.erow, fun g _ h => by cases h⟩, ?_, ⟨Nat.zero_le _, Nat.zero_le _, by rw [hord]; exact Nat.zero_le _⟩, OldH.beyond ⟨by omega, fun b hb => HA.out.1.2 b (by omega), HA.out.2.2⟩ (HI.out.be.trans hbe2), by omega⟩
     · rw [hord]; exact World.ownsRow_nil _ _ _ _
     · have := playInv_start (prog := prog) (N := N) (most := most) l ⟨ws, fun _ => mchZ⟩
       unfold refP
       rw [hmost]
       exact this
    have HR0 := Lib.hid hR0
    have HM := Lib.hid hmost
    have HC := Lib.hid HI.out.co
    clear hR0 ht hlr hbe2 hub hmost
    go_wp2_with (fail)
    go_loopg [] most (fun k wr => ∃ (a r : Nat) (ov : Value) (tv2 : Nat → Value) (th2 : Nat → Mch) (en2 : Nat → Bool) (ws2 : List Int) (s : PSt), k = most - s.ord.length ∧ RnI H vn (.slice vp vn vc) lv ev prog cp C N tb (refP prog N mo l ws) l most ub lsv w a r ov tv2 th2 en2 ws2 s wr)
    case atStart => exact ⟨0, 0, _, _, _, _, _, _, by rw [begin_ord]; rfl, HR0.out⟩
    case round =>
     obtain ⟨a, r, ov, tv2, th2, en2, ws2, s, hk, hR⟩ := hrel
     have HR := Lib.hid hR
     have hle := hR.le
     have hbase : H ≤ wr.heap.size := Nat.le_trans (Nat.le_succ _) hR.old.size
     clear hR
     go_wp2_with (fail)
     refine Calls.mono (pick_lone hN64 hl hle.1 hle.2.1 (by omega) hm hbase HR.out.k) ?_
     rintro e w3 (⟨hst, rfl, nn, hw3⟩ | ⟨hall, hne, x, a', r', ov', rfl, hpk, ha', hk2, hRU, hown⟩)
     · have hR3 : RnI H vn (.slice vp vn vc) lv ev prog cp C N tb (refP prog N mo l ws) l most ub lsv w a r ov tv2 th2 en2 ws2 s w3 := by rw [hw3]; exact HR.out.beyond (Beyond.drew _ _)
       have hPs := hR3.over hst
       obtain ⟨op, on, oC, rfl⟩ := own_slice hR3.k.orow
       obtain ⟨lp, lC, rfl, _, hlc⟩ := row_form hR3.p.lrow
       have c4 := hR3.k.t.c4
       obtain ⟨H1, hH1⟩ : ∃ x, w3.heap.size = x := ⟨_, rfl⟩
       have hbW : ∀ W : World, W = w3.drewN 1 ∨ W = (w3.drewN 1).alloc (.cells #[.slice none 0 0, .slice none 0 0, .slice none 0 0, .bool false] 28) → Beyond w3 W := fun W hW => by
        rcases hW with rfl | rfl
        · exact Beyond.drew _ _
        · exact (Beyond.drew _ _).trans (Beyond.alloc _ _)
       obtain ⟨bo, hbo⟩ : ∃ b, allB en2 N = b := ⟨_, rfl⟩
       have hov : ∀ W : World, W = w3.drewN 1 ∨ W = (w3.drewN 1).alloc (.cells #[.slice none 0 0, .slice none 0 0, .slice none 0 0, .bool false] 28) → Calls Try.prog 32 #[ev] W fun e w' => e = .returned (.bool bo) ∧ w' = W := fun W hW => by
        rw [← hbo]; exact over_lone (by omega) (hR3.k.eb.beyond (hbW W hW))
       have HX := Lib.hid (And.intro hR3 (And.intro hPs (And.intro hH1 (And.intro hbo hlc))))
       have C4 := Lib.hid c4
       have HBW := Lib.hid hbW
       have HOV := Lib.hid hov
       clear hR3 hPs hbo hlc hst hw3 c4 hbW hov
       go_wp2_with (fail)
       refine wp_region_one (k := 10) (s := 9) (W0 := w3.drewN 1) (W1 := (w3.drewN 1).alloc (.cells #[.slice none 0 0, .slice none 0 0, .slice none 0 0, .bool false] 28)) (by kernel_rfl) (by kernel_rfl) (by kernel_rfl) (by kernel_rfl) (by decide)
        [.pointer (some ⟨ub, 0, none⟩), .pointer (some ⟨ub, 0, none⟩), .pointer (some ⟨ub, 4, none⟩), .slice op on oC, .slice vp vn vc, ev, .bool bo, .bool (!bo), .agg #[.slice none 0 0, .slice op on oC, .slice vp vn vc, .bool (!bo)], .pointer (some ⟨H1, 0, none⟩)] rfl rfl ?_ ?_ ?_
       · intro i o hi his ho W hWW
         have q4 := (HBW.out W hWW).cell C4.out
         have qov := HOV.out W hWW
         clear hWW
         simp only [putv, dstOf, al_gl, al_g0, al_g1, al_ob, al_g2, List.set_cons_succ, List.set_cons_zero]
         obtain rfl | rfl | rfl | rfl | rfl | rfl | rfl | rfl | rfl : i = 6 ∨ i = 0 ∨ i = 1 ∨ i = 2 ∨ i = 3 ∨ i = 4 ∨ i = 5 ∨ i = 7 ∨ i = 8 := by omega
         · simp only [al_gl, al_g0, al_g1, al_oi] at ho
           subst ho
           refine .inr ⟨32, #[ev], ?_, qov⟩
           simp [go_sem, execOp, Act.eval, resolve, Deferred.ofValue, invoke, callFunc, Try.func32, Try.f32]
         all_goals (simp only [al_gl, al_g0, al_g1, al_oi] at ho; subst ho; refine .inl ?_)
         all_goals (simp only [execOp, Act.eval, al_gd, al_gl, al_g0, al_g1, al_od])
         all_goals (clear qov)
         all_goals (try go_simp)
       · intro o ho
         simp only [putv, dstOf, al_gl, al_g0, al_g1, al_ob, al_g2, List.set_cons_succ, List.set_cons_zero]
         simp only [al_gl, al_g0, al_g1, al_oi] at ho; subst ho; refine .inl ?_
         simp only [execOp, Act.eval, al_gd, al_gl, al_g0, al_g1, al_od]
         go_simp
       simp only [putv, dstOf, al_gl, al_g0, al_g1, al_ob, al_g2, List.set_cons_succ, List.set_cons_zero]
       refine wpAny_one (i := 10) (by kernel_rfl) ?_
       simp only [wpOp, al_gl, al_g0, al_g1]
       rw [if_pos (by rfl)]
       refine .inl ?_
       go_simp
       refine wpAny_end (by kernel_rfl) ?_
       have hA1 : AnI w3 H 0 [] (.slice none 0 0) (.slice op on oC) (.slice vp vn vc) (!bo) ((w3.drewN 1).alloc (.cells #[.slice none 0 0, .slice op on oC, .slice vp vn vc, .bool (!bo)] 28)) :=
        ⟨by rw [zq6]; exact Nat.le_refl _, fun b hb => ((Beyond.drew w3 1).trans (Beyond.alloc _ _)).2 b hb, al_new (w3.drewN 1) _, World.ownsRow_nil _ _ _ _⟩
       generalize (w3.drewN 1).alloc (.cells #[.slice none 0 0, .slice op on oC, .slice vp vn vc, .bool (!bo)] 28) = w5 at hA1 ⊢
       have HA1 := Lib.hid hA1
       clear hA1 C4 HBW HOV
       go_wp2_with (fail)
       go_loopg [18] N (fun k i wr => ∃ (j : Nat) (ans : Value), k = N - j ∧ j ≤ N ∧ i = .int .i64 j ∧ AnI w3 H j ((List.range j).map tv2) ans (.slice op on oC) (.slice vp vn vc) (!bo) wr)
       case atStart => exact ⟨0, .slice none 0 0, rfl, Nat.zero_le _, rfl, HA1.out⟩
       case round =>
        obtain ⟨j, ans, hk, hj, rfl, hA⟩ := hrel
        have HA2 := Lib.hid hA
        clear hA
        by_cases hlt : j < N
        · obtain ⟨lb, rfl, _, hlc2⟩ := HX.out.2.2.2.2 (by omega)
          have hlbl := (own_lt HX.out.1.p.lrow (g := lb) rfl).2.2
          have c1 := (zqf (HA2.out.old lb hlbl)).trans (hlc2 j (.pointer (some ⟨tb j, 0, none⟩)) (by simp [thrL, hlt]))
          have htl := zq4 (HX.out.1.p.thr j hlt).hm
          have c2 := (zqf (HA2.out.old (tb j) htl)).trans (HX.out.1.p.thr j hlt).ct
          obtain ⟨xp, xn, xc, hx⟩ := own_slice (HX.out.1.p.told j hlt)
          rw [hx] at c2
          obtain ⟨tbj, htbj⟩ : ∃ x, tb j = x := ⟨_, rfl⟩
          rw [htbj] at c1 c2 htl
          have HX2 := Lib.hid hx
          have hlt' : (j : Int) < (N : Int) := by omega
          have hj0 : (0 : Int) ≤ j := by omega
          have c3 := (zq0 (off := 0) HA2.out.var).trans rfl
          rw [HX.out.2.2.1] at c3
          have hbl : tbj < wr.heap.size := cell_lt c2
          have hll : lb < wr.heap.size := cell_lt c1
          have hHl : H1 < wr.heap.size := cell_lt c3
          clear hx htbj hlc2 hlbl htl
          have C1 := Lib.hid c1
          have C2 := Lib.hid c2
          have C3 := Lib.hid c3
          clear c1 c2 c3
          go_wp2_with (fail)
          refine wp_region_one (k := 10) (s := 9) (W0 := wr.drewN 1) (W1 := (wr.drewN 1).alloc (.cells #[.slice xp xn xc] 36)) (by kernel_rfl) (by kernel_rfl) (by kernel_rfl) (by kernel_rfl) (by decide)
           [.pointer (some ⟨H1, 0, none⟩), ans, .slice (some ⟨lb, 0, none⟩) N lC, .int .i64 j, .pointer (some ⟨lb, j, none⟩), .pointer (some ⟨tbj, 0, none⟩), .pointer (some ⟨tbj, 0, none⟩), .pointer (some ⟨tbj, 6, none⟩), .slice xp xn xc, .slice (some ⟨wr.heap.size, 0, none⟩) 1 1] rfl rfl ?_ ?_ ?_
          · intro i o hi his ho W hWW
            have hbe : Beyond wr W := by
             rcases hWW with rfl | rfl
             · exact Beyond.drew _ _
             · exact (Beyond.drew _ _).trans (Beyond.alloc _ _)
            have q1 := hbe.cell C1.out
            have q2 := hbe.cell C2.out
            have q3 := hbe.cell C3.out
            clear hWW hbe
            simp only [putv, dstOf, al_gl, al_g0, al_g1, al_ob, al_g2, List.set_cons_succ, List.set_cons_zero]
            obtain rfl | rfl | rfl | rfl | rfl | rfl | rfl | rfl | rfl : i = 0 ∨ i = 1 ∨ i = 2 ∨ i = 3 ∨ i = 4 ∨ i = 5 ∨ i = 6 ∨ i = 7 ∨ i = 8 := by omega
            all_goals (simp only [al_gl, al_g0, al_g1, al_oi] at ho; subst ho; refine .inl ?_)
            all_goals (simp only [execOp, Act.eval, al_gd, al_gl, al_g0, al_g1, al_od])
            all_goals (try go_simp)
          · intro o ho
            simp only [putv, dstOf, al_gl, al_g0, al_g1, al_ob, al_g2, List.set_cons_succ, List.set_cons_zero]
            simp only [al_gl, al_g0, al_g1, al_oi] at ho; subst ho; refine .inl ?_
            simp only [execOp, Act.eval, al_gd, al_gl, al_g0, al_g1, al_od]
            go_simp
          simp only [putv, dstOf, al_gl, al_g0, al_g1, al_ob, al_g2, List.set_cons_succ, List.set_cons_zero]
          refine wpAny_one (i := 10) (by kernel_rfl) ?_
          simp only [wpOp, al_gl, al_g0, al_g1]
          rw [if_pos (by rfl)]
          refine .inl ?_
          obtain ⟨ti, hti, hz0, hz1, hz2⟩ : ∃ ti, Try.prog.info? 36 = some ti ∧ ti.zero = some (.slice none 0 0) ∧ ti.size = 1 ∧ ti.bytes = 24 := ⟨_, rfl, rfl, rfl, rfl⟩
          have harow : ((wr.drewN 1).alloc (.cells #[.slice xp xn xc] 36)).ownsRow (w3.heap.size + 1) 36 1 ans j ((List.range j).map tv2) := row_alloc (zqd HA2.out.arow fun _ _ => rfl) _
          refine wp_append_lies _ (.tmp 93) (.tmp 101) 26 (by rfl) (w3.heap.size + 1) 36 ti (.slice none 0 0) 1 24 (by kernel_rfl) hti hz0 hz1 hz2 (by rfl) (by decide) ans j ((List.range j).map tv2) (by rfl) harow ⟨wr.heap.size, 0, none⟩ 1 1 [.slice xp xn xc] (by rfl) rfl (one_new rfl) (by simp [Value.oneCell']) (by decide) (by simp only [maxLen]; omega) (by omega) (by have := HA2.out.size; rw [zq6, drewN_size]; omega) _ rfl fun g2 cap w6 hown hgrow hat hlt6 => ?_
          have L5 := Lib.hid (HA2.out.next hown hgrow)
          have h5b : w6.heap[H1]? = some (.cells #[ans, .slice op on oC, .slice vp vn vc, .bool (!bo)] 28) := by
           rw [hgrow.block H1 (by rw [zq6]; exact Nat.lt_succ_of_lt hHl) (fun e => by have h1 := (own_lt HA2.out.arow e.symm).2.1; have := HX.out.2.2.1; omega), zqa, if_neg (by show H1 ≠ wr.heap.size; omega), ← HX.out.2.2.1]
           exact HA2.out.var
          have h5v := (zq0 (off := 0) h5b).trans rfl
          have h5z := zqg (off := 0) h5b
          clear h5b hown hgrow hat hlt6 harow hti hz0 hz1 hz2
          refine wpAny_one (i := 11) (by kernel_rfl) ?_
          simp only [wpOp, al_gl, al_g0, al_g1]
          rw [if_pos (by rfl)]
          refine .inl ?_
          go_simp
          refine wpAny_one (i := 12) (by kernel_rfl) ?_
          simp only [wpOp, al_gl, al_g0, al_g1]
          rw [if_pos (by rfl)]
          refine .inl ?_
          go_simp
          refine wpAny_end (by kernel_rfl) ?_
          clear h5v h5z
          go_wp2
          go_roundg (N - (j + 1))
          case measure => omega
          case rel =>
           refine ⟨j + 1, .slice (some ⟨g2, 0, none⟩) (j + 1) cap, rfl, by omega, rfl, ?_⟩
           rw [List.range_succ, List.map_append]
           simp only [List.map_cons, List.map_nil, HX2.out, ← HX.out.2.2.1]
           exact L5.out
        · obtain rfl : N = j := by omega
          obtain ⟨pa, na, ca, rfl⟩ := own_slice HA2.out.arow
          have hvar := HA2.out.var
          rw [HX.out.2.2.1] at hvar
          have v0 := (zq0 (off := 0) hvar).trans rfl
          have v1 := (zq0 (off := 1) hvar).trans rfl
          have v2 := (zq0 (off := 2) hvar).trans rfl
          have v3 := (zq0 (off := 3) hvar).trans rfl
          have hHlt : H < w3.heap.size := by have := HX.out.1.old.size; omega
          have hres := (HA2.out.old H hHlt).trans HX.out.1.old.res
          have r0 := (zq0 (off := 0) hres).trans rfl
          have r1 := (zq0 (off := 1) hres).trans rfl
          have r2 := (zq0 (off := 2) hres).trans rfl
          have r3 := (zq0 (off := 3) hres).trans rfl
          have z0 := zqg (off := 0) hres
          have z1 := zqg (off := 1) hres
          have z2 := zqg (off := 2) hres
          have z3 := zqg (off := 3) hres
          have hne : ¬ (H = H1) := by have := HX.out.2.2.1; omega
          have hne2 : ¬ (H1 = H) := by have := HX.out.2.2.1; omega
          have HRES := Lib.hid hres
          clear hvar hres hHlt
          go_wp2
          have b0 := HRES.out
          have b1 := zqh wr H 0 (.slice pa na ca) b0
          have b2 := zqh _ H 1 (.slice op on oC) b1
          have b3 := zqh _ H 2 (.slice vp vn vc) b2
          have b4 := zqh _ H 3 (.bool (!bo)) b3
          clear r0 r1 r2 r3 z0 z1 z2 z3 v0 v1 v2 v3 b0 b1 b2 b3
          have k0 := (zq0 (off := 0) b4).trans rfl
          have k1 := (zq0 (off := 1) b4).trans rfl
          have k2 := (zq0 (off := 2) b4).trans rfl
          have k3 := (zq0 (off := 3) b4).trans rfl
          have hfin : wr.heap.size ≤ ((((wr.setCell ⟨H, 0, none⟩ (.slice pa na ca)).setCell ⟨H, 1, none⟩ (.slice op on oC)).setCell ⟨H, 2, none⟩ (.slice vp vn vc)).setCell ⟨H, 3, none⟩ (.bool (!bo))).heap.size ∧ ∀ b, b ≠ H → ((((wr.setCell ⟨H, 0, none⟩ (.slice pa na ca)).setCell ⟨H, 1, none⟩ (.slice op on oC)).setCell ⟨H, 2, none⟩ (.slice vp vn vc)).setCell ⟨H, 3, none⟩ (.bool (!bo))).heap[b]? = wr.heap[b]? := by
           refine ⟨by simp only [zqi]; exact Nat.le_refl _, fun b hb => ?_⟩
           rw [zq3 _ _ _ _ (show b ≠ H from hb), zq3 _ _ _ _ (show b ≠ H from hb), zq3 _ _ _ _ (show b ≠ H from hb), zq3 _ _ _ _ (show b ≠ H from hb)]
          generalize ((((wr.setCell ⟨H, 0, none⟩ (.slice pa na ca)).setCell ⟨H, 1, none⟩ (.slice op on oC)).setCell ⟨H, 2, none⟩ (.slice vp vn vc)).setCell ⟨H, 3, none⟩ (.bool (!bo))) = w9 at *
          refine ⟨rfl, .agg #[.slice pa na ca, .slice op on oC, .slice vp vn vc, .bool (!bo)], ?_, ?_⟩
          · simp only [results, Try.f12]
            simp [go_sem, k0, k1, k2, k3]
          · have ha := HA2.out
            have hbo := HX.out.2.2.2.1
            rw [← hbo] at ha ⊢
            have := HX.out.1.final HH.out HX.out.2.1 ha hfin.1 hfin.2
            have hle := HX.out.1.le.2.2
            refine ⟨_, rfl, this.1, by rw [HH.out]; exact this.2, ?_, fun i hi => ?_, ?_⟩
            · rw [HX.out.2.1]; omega
            · have h1 := HX.out.1.rs.htold i hi
              rw [(HX.out.1.rs.hth i hi).told] at h1
              rw [HX.out.2.1]; omega
            · rw [HX.out.2.1, ← HX.out.1.rs.hws, HX.out.1.p.len]; exact HW.out.symm
     · obtain ⟨hx, hex⟩ := hpk.lt
       obtain ⟨c, hc, hcs⟩ := HR.out.rs.hat x hx hex
       have p3 := HR.out.p.keepU HR.out.k.t HR.out.k.orow hRU
       rw [HR.out.p.len] at hcs
       have hv0 : 0 < vn := by
        unfold isStep at hcs
        simp only [Bool.and_eq_true, decide_eq_true_eq] at hcs
        omega
       obtain ⟨q1, C1, e1, _, hq1⟩ := row_form p3.lrow
       obtain ⟨lb, rfl, _, hlc⟩ := hq1 (by omega)
       subst e1
       obtain ⟨q2, C2, e1, _, hq2⟩ := row_form p3.erow
       obtain ⟨eb, rfl, _, _⟩ := hq2 (by omega)
       subst e1
       obtain ⟨q3, C3, e1, _, hq3⟩ := row_form p3.st
       obtain ⟨sb, rfl, _, _⟩ := hq3 hv0
       cases e1
       clear hq1 hq2 hq3
       have lc := hlc x (.pointer (some ⟨tb x, 0, none⟩)) (by simp [thrL, hx])
       have hx0 : (0 : Int) ≤ x := by omega
       have hx1 : (x : Int) < (N : Int) := by omega
       have hlt2 : s.ord.length < most := by have := HR.out.le.2.2; omega
       have HK := Lib.hid (And.intro hpk (And.intro ha' (And.intro hk2 (And.intro hRU (And.intro p3 (And.intro hc (And.intro hcs (And.intro hne (And.intro hex hx)))))))))
       clear hpk ha' hk2 hRU p3 hc hcs hne hex hx hlc hown hall
       go_wp2_with (fail)
       refine Calls.mono (rstep_lone (base := H) (pr := prog x) (c := c) (C := C x) (m := th2 x) (ws := ws2) (tv := tv2 x) (cp := cp x) rfl (HP.out.2 x (by have := HK.out.2.2.2.2.2.2.2.2.2; omega)) (by have := HW.out; omega) ?_ (HK.out.2.2.2.2.1.lo x HK.out.2.2.2.2.2.2.2.2.2) ?_ ((HC.out x HK.out.2.2.2.2.2.2.2.2.2).keep fun b hb => ?_) ⟨?_, HK.out.2.2.2.2.1.told x HK.out.2.2.2.2.2.2.2.2.2, HK.out.2.2.2.2.1.st, HK.out.2.2.2.2.1.len⟩ HK.out.2.2.2.2.2.1 HK.out.2.2.2.2.2.2.1) ?_
       · have h1 := HR.out.rs.htold x HK.out.2.2.2.2.2.2.2.2.2
         have h2 := HR.out.le.2.2
         omega
       · exact (own_lt HK.out.2.2.2.2.1.st rfl).2.1
       · rw [HK.out.2.2.2.1.old b (by omega) (by have := HR.out.ub; omega) (fun e => by have := (own_lt HR.out.k.orow e).2.1; omega)]
         exact HR.out.old.old b hb
       · have := HK.out.2.2.2.2.1.thr x HK.out.2.2.2.2.2.2.2.2.2
         rw [HK.out.2.2.2.2.2.2.2.2.1] at this
         exact this
       rintro e w4 hps
       obtain ⟨rfl, v, b, hce, hlr4, her4, hR4⟩ := HR.out.next hm HK.out.2.2.2.2.2.2.2.1 HK.out.1 HK.out.2.1 HK.out.2.2.1 HK.out.2.2.2.1 HK.out.2.2.2.2.2.1 hps
       have lc4 := row_cell hlr4 (i := x) (x := .pointer (some ⟨tb x, 0, none⟩)) (by simp [thrL, HK.out.2.2.2.2.2.2.2.2.2])
       have ec4 := row_cell her4 (i := x) (x := .bool (en2 x)) (by simp [boolL, HK.out.2.2.2.2.2.2.2.2.2])
       obtain ⟨⟨ce4, heb4⟩, _⟩ := own_lt her4 (g := eb) rfl
       have fz4 : w4.frozen? ⟨eb, x, none⟩ = false := zqg heb4
       have HR4 := Lib.hid hR4
       clear hps hlr4 her4 heb4 hR4 lc
       go_wp2
       go_roundg (most - (s.ord.length + 1))
       case measure => omega
       case rel => exact ⟨a', r', ov', _, _, _, _, _, by simp [turnP], HR4.out⟩
end Go.Proofs
set_option maxHeartbeats 1000000
namespace Go.Car
open Go Go.Conc Go.RowKit
section
variable {P : Program}
def FinOf (P : Program) (Post : Value → World → Prop) (m : Machine) (T : Trace) : Prop :=
 ∃ N last o w' t', runNT P (N + 1) m T = (.ended o w', t') ∧ runN P N m = .next last ∧ step P last = .ended o w' ∧ Conc.Good P (fun v w => Post v w ∧ w.os = m.world.os ∧ w.output = m.world.output) last o w' t'
theorem back_fin (Post : Value → World → Prop) : Back P (FinOf P Post) := by
 intro N m T m' T' hrun e1 e2 ⟨M, last, o, w', t', h1, h2, h3, h4⟩
 rw [e1, e2] at h4
 have hn : runN P N m = .next m' := by rw [← runNT_fst P _ _ T, hrun]
 refine ⟨N + M, last, o, w', t', ?_, ?_, h3, h4⟩
 · rw [Nat.add_assoc, runNT_add, hrun]; exact h1
 · rw [runN_add, hn]; exact h2
theorem j0_end {Post : Value → World → Prop} (hPost : ∀ v w τ d, Post v w → Post v (re w τ d)) {n : Nat} {b : Frame} (hb : b.kind = .normal) (hini : P.inits.idxOf? b.fn = none) {fn : Func} (hf : P.funcs[b.fn]? = some fn) {t : Array Value} {todo : List Item} {w : World} {v : Value}
 (hr : (results fn t).run P w = .ok v w) (hp : Post v w) : J0 P (FinOf P Post) n (G { b.at ⟨t, []⟩ todo with mode := .returning } []) w := by
 intro τ d Mem B gs sl T q hM hsz hg hR
 obtain ⟨hL, hP⟩ := ring_end hR hM (fun _ _ => rfl)
 obtain ⟨es, hes⟩ : ∃ es, ((results fn t).runT P w #[]).2 = es := ⟨_, rfl⟩
 have hT : ∀ τ d, (results fn t).runT P (re w τ d) #[] = (.ok v (re w τ d), es) := fun τ d => by
  obtain ⟨_, _, h3⟩ := runT_re _ (tame_more _ (tame_results (P := P) fn t)) w #[]
  have h4 : ((results fn t).runT P w #[]).1 = .ok v w := by rw [Sem.runT_eq]; exact hr
  have := h3 τ d (fun j hj => by rw [h4] at hj; simp only [resW] at hj; omega)
  rw [h4, hes] at this
  simp only [resRe, resW, Nat.sub_self, Nat.add_zero] at this
  exact this
 have hcalm : ∀ e ∈ es, calmEv true e := fun e he => by
  rw [← hes] at he
  have := (runT_calm _ (tame_results (P := P) fn t) w #[] e he).resolve_left (by simp)
  exact ⟨this.1, fun h => by cases h⟩
 obtain ⟨B2, hB2⟩ := low_exists es
 have hP2 : Past (fun _ => False) (max B B2) T := hP.mono (Nat.le_max_left _ _)
 refine beside_ends (Shun := fun _ => False) (B := max B B2) (D := fun _ _ _ => False) (n := 0) (fun _ _ _ h => h.elim) hg hL hP2 ?_
 rintro w₁ ⟨d₁, rfl⟩
 have hw : ∃ τ' d', (((re w τ 0).at d).at d₁) = re w τ' d' := ⟨τ, d₁, rfl⟩
 obtain ⟨τ', d', hw⟩ := hw
 rw [hw]
 refine ⟨rfl, v, seen P b.fn es, ?_, fun e he => ?_, hPost _ _ _ _ hp, rfl, rfl⟩
 · simp only [G, stepG, unwind, Frame.at, hf, hT τ' d', GStep.after, doReturn]
   simp [GStep.after, hb, hini]
 · have he' := mem_seen he
   obtain ⟨k1, k2⟩ := calm_marks (hcalm e he')
   exact ⟨fun x _ h => h.elim, k1, k2, MemAct.low_mono (Nat.le_max_right _ _) (hB2 e he')⟩
theorem j0_run {Post : Value → World → Prop} {f : FuncId} {fn : Func} {c : Code} {args : Array Value} {W : World} (hf : P.funcs[f]? = some fn) (hb : fn.body = some c)
 (h : J0 P (FinOf P Post) 1 (G (Frame.enter P f args .normal) []) W) : FinOf P Post (solo (G (Frame.enter P f args .normal) []) W) #[] := by
 have hL : Leavers P (#[] : Trace) #[G (Frame.enter P f args .normal) []] (fun _ => 0) := ⟨fun i g hi hg => by
  rcases i with _ | i
  · omega
  · simp at hg, fun j _ => rfl⟩
 have hP : Past (fun _ => False) 0 (#[] : Trace) := past_nil
 have hR := ring_begin (P := P) (K := KK (fun _ => none)) (Still := StillK (fun _ => none)) (w := W.at W.drawn) (B := 0) (fun l ⟨a, v, _, hv⟩ => by cases hv) hL hP (KK_none _)
 have := h W.tape W.drawn (fun g => g = 0) 0 #[G (Frame.enter P f args .normal) []] none #[] (fun _ => 0) rfl rfl rfl hR
 rw [solo_eq_crowd]
 exact this
end
end Go.Car
namespace Go.Car
open Go Go.Conc Go.RowKit
section
variable {P : Program} {A : FuncId → Bool}
theorem at_rest_end {Post : Value → World → Prop} (hPost : ∀ v w τ d, Post v w → Post v (re w τ d)) (hP : Plain P A) {c : Code} (hc : okCode P A c = true) {n : Nat} {b : Frame} (hb : b.kind = .normal) (hini : P.inits.idxOf? b.fn = none) {fn : Func} (hf : P.funcs[b.fn]? = some fn) {t : Array Value} {w : World}
 (h : ∀ τ d, Code.wp P c (bodyPost P fn fun e w' => ∃ v, e = .returned v ∧ Post v w') ⟨t, []⟩ (re w τ d)) : J0 P (FinOf P Post) n (G (b.at ⟨t, []⟩ [.code c]) []) w := by
 have hFin := back_fin (P := P) Post
 have hJ := j0_JS hFin
 have hC := j0_calm hFin
 let Φ : Act → World → Prop := fun a w => ∃ v, (results fn a.tmps).run P w = .ok v w ∧ Post v w
 have hΦ : ∀ a w τ d, Φ a w → Φ a (re w τ d) := fun a w τ d ⟨v, h1, h2⟩ => ⟨v, results_re h1 τ d, hPost _ _ _ _ h2⟩
 have hleave : ∀ (t : Array Value) (w : World) (todo : List Item), Φ ⟨t, []⟩ w → J0 P (FinOf P Post) n (G { b.at ⟨t, []⟩ todo with mode := .returning } []) w := fun t w todo ⟨v, h1, h2⟩ => j0_end hPost hb hini hf h1 h2
 refine wpJ_lone (Q := fun s' e a' w' => s' = n ∧ (e = .normal ∨ e = .ret) ∧ a'.defers = [] ∧ Φ a' w') hJ hC hP hc Φ Φ hΦ hΦ (fun τ d => ?_) (fun t w h => ⟨rfl, .inl rfl, rfl, h⟩) (fun t w h => ⟨rfl, .inr rfl, rfl, h⟩) b [] [] (by rw [hb]; decide) ?_
 · refine Code.wp_mono ?_ (h τ d)
   intro e a w hh
   cases e with
   | normal => obtain ⟨h1, v, h2, v', h3, h4⟩ := hh; cases h3; exact ⟨h1, v, h2, h4⟩
   | ret => obtain ⟨h1, v, h2, v', h3, h4⟩ := hh; cases h3; exact ⟨h1, v, h2, h4⟩
   | panic ch => obtain ⟨h1, v, h2, _⟩ := hh; cases h2
   | outgrown => obtain ⟨v, h2, _⟩ := hh; cases h2
   | _ => exact hh
 · rintro s' e ⟨t', ds⟩ w' ⟨rfl, he, hd, h⟩
   simp only at hd
   subst hd
   rcases he with rfl | rfl
   · exact hJ.ctl (fun w => stepG_end) (hleave t' w' [] h)
   · exact fun todo => hleave t' w' todo h
end
end Go.Car
set_option maxHeartbeats 4000000
set_option maxRecDepth 100000
namespace Go.Proofs
open Go Go.Conc Go.RowKit Go.Car
theorem run_copy_onto {P : Program} {w : World} {base : Nat} {t ty e : TypeId} {i : TypeInfo} {z : Value} (ht : P.underlying t = some (.slice e)) (hi : P.info? e = some i) (hz : i.zero = some z) (hsize : i.size = 1) (hby : i.bytes = 8) (hzs : z.cells.size = 1)
 {b0 : Nat} (hb0 : w.ownsRow base e 1 (.slice (some ⟨b0, 0, none⟩) 0 0) 0 []) {sv : Value} {l : List Int} (hs : IntsAt w sv l) (hl : l.length ≤ 1099511627776) (hbase : base ≤ w.heap.size) :
 ∃ v w', (Builtin.append_ #[t, t] ty #[.slice (some ⟨b0, 0, none⟩) 0 0, sv]).run P w = .ok v w' ∧ w'.ownsRow base e 1 v l.length (l.map (Value.int .i64)) ∧ w.heap.size ≤ w'.heap.size ∧ ∀ b, b < w.heap.size → b ≠ b0 → w'.heap[b]? = w.heap[b]? := by
 obtain ⟨p, C, rfl, hc⟩ := hs
 by_cases hl0 : l = []
 · subst hl0
   cases p with
   | none =>
    refine ⟨.slice (some ⟨b0, 0, none⟩) 0 0, w, ?_, hb0, Nat.le_refl _, fun _ _ _ => rfl⟩
    simp [Builtin.append_, run_underlying ht, sizeOf, typeInfo, hi, Builtin.lenOf, Builtin.firstCells, loadCells, loadCellsFrom, storeCells]
   | some a =>
    obtain ⟨v, w', h1, h2, h3, h4, h5⟩ := run_append_own_at (P := P) w base t ty e i z 1 8 ht hi hz hsize hby hzs (by decide) (.slice (some ⟨b0, 0, none⟩) 0 0) 0 [] hb0 a 0 C [] rfl (fun j u h => by cases h) (fun u h => by cases h) (by decide) (by decide) hbase
    exact ⟨v, w', h1, h2, h3.size, fun b hb hne => h3.block b hb (by simp [Value.ownBlock, hne])⟩
 · obtain ⟨b, o, rfl, hcc⟩ := hc hl0
   obtain ⟨v, w', h1, h2, h3, h4, h5⟩ := run_append_own_at (P := P) w base t ty e i z 1 8 ht hi hz hsize hby hzs (by decide) (.slice (some ⟨b0, 0, none⟩) 0 0) 0 [] hb0 ⟨b, o, none⟩ l.length C (l.map (Value.int .i64)) (by simp) (fun j u h => by
    have hj : j < l.length := by have := (List.getElem?_eq_some_iff.1 h).1; simpa using this
    have := hcc j hj
    rw [List.getElem?_map] at h
    have e2 : l[j]? = some (l.getD j 0) := by simp [hj]
    rw [e2] at h
    cases h
    rw [show (⟨b, o, none⟩ : Addr).add j = ⟨b, o + j, none⟩ from by unfold Addr.add; split <;> simp [*]]; exact this) (fun u h => by obtain ⟨x, _, rfl⟩ := List.mem_map.1 h; rfl) (by simp only [maxLen]; omega) (by omega) hbase
   exact ⟨v, w', h1, by simpa using h2, h3.size, fun b hb hne => h3.block b hb (by simp [Value.ownBlock, hne])⟩
theorem row_made (w : World) (e : TypeId) : (w.alloc (.cells #[] e)).ownsRow w.heap.size e 1 (.slice (some ⟨w.heap.size, 0, none⟩) 0 0) 0 [] :=
 ⟨rfl, .inr ⟨w.heap.size, 0, #[], rfl, Nat.le_refl _, al_new _ _, by simp, by simp, by simp, by simp⟩⟩
theorem PlayRes.trace {w w' : World} {N W : Nat} {P : PSt} {ans v st : Value} {tv : Nat → Value} (h : PlayRes w N W P ans v st tv w') :
 TraceF w.heap.size w' (.agg #[ans, v, st, .bool (decide (0 < leftN P.ov N))]) N (fun i => (P.mem.th i).told) (P.ord.map fun (i : Nat) => (i : Int)) P.mem.ws (decide (0 < leftN P.ov N)) := fun w'' hw => by
 have kr : ∀ {T : TypeId} {k m : Nat} {u : Value} {xs : List Value}, w'.ownsRow w.heap.size T k u m xs → w''.ownsRow w.heap.size T k u m xs := fun hr => zqd hr fun g hg => hw g (own_lt hr hg).2.1 (own_lt hr hg).2.2
 obtain ⟨p, C, e, _, hc⟩ := row_form (kr h.arow)
 refine ⟨p, C, v, st, by rw [e], ?_, ints_of_row (kr h.srow), fun h0 => ?_⟩
 · refine ints_of_row (B := w.heap.size) (n := P.ord.length) (T := 3) ?_
   rw [List.map_map]
   exact kr h.orow
 · obtain ⟨g, e2, _, hc⟩ := hc h0
   refine ⟨g, 0, e2, fun i hi => ⟨tv i, ?_, ans_of_row (kr (h.told i hi)) rfl⟩⟩
   rw [Nat.zero_add]; exact hc i _ (by simp [hi])
theorem TraceF.at' {B : Nat} {w : World} {v : Value} {N : Nat} {tolds : Nat → List Int} {ord st : List Int} {stuck : Bool} (h : TraceF B w v N tolds ord st stuck) : TraceAt w v N tolds ord st stuck := h w fun _ _ _ => rfl
theorem IntsAt.re {w : World} {v : Value} {l : List Int} (h : IntsAt w v l) (τ : Nat → Question → Nat) (d : Nat) : IntsAt (re w τ d) v l := h
theorem RefProgs.beyond {w w' : World} {pp : Option Addr} {n : Nat} {prog : Nat → List Cd} (h : RefProgs w pp n prog) (hb : Beyond w w') : RefProgs w' pp n prog := fun h0 => by
 obtain ⟨pb, po, e, hc⟩ := h h0
 refine ⟨pb, po, e, fun i hi => ?_⟩
 obtain ⟨q, C, h1, h2⟩ := hc i hi
 refine ⟨q, C, hb.cell h1, fun hne => ?_⟩
 obtain ⟨gb, go, e2, hcc⟩ := h2 hne
 refine ⟨gb, go, e2, fun k c hk j hj => ?_⟩
 have h3 := hcc k c hk j hj
 have h4 : ∃ v, (cdL c)[j]? = some v := by
  obtain rfl | rfl | rfl | rfl | rfl : j = 0 ∨ j = 1 ∨ j = 2 ∨ j = 3 ∨ j = 4 := by omega
  all_goals exact ⟨_, rfl⟩
 obtain ⟨v, hv⟩ := h4
 rw [hv] at h3 ⊢
 exact hb.cell h3
end Go.Proofs
