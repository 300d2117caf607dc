/- YtdncabjenacolaaTKeep4: part 13 of the proof (the texts behind it, in order). -/
import Derived.Test.YtdncabjenacolaaP12
set_option linter.unusedSimpArgs false
set_option linter.unusedVariables false
set_option linter.unusedSectionVars false
set_option linter.unnecessarySimpa false
set_option maxHeartbeats 4000000
set_option maxRecDepth 100000
namespace Go.Proofs
open Go Go.Conc Go.RowKit Go.Car
def RefProgs (w : World) (pp : Option Addr) (n : Nat) (prog : Nat → List Cd) : Prop :=
 0 < n → ∃ pb po, pp = some ⟨pb, po, none⟩ ∧ ∀ i, i < n → ∃ q C, w.cell? ⟨pb, po + i, none⟩ = some (.slice q (prog i).length C) ∧
  ((prog i) ≠ [] → ∃ gb go, q = some ⟨gb, go, none⟩ ∧ ∀ (k : Nat) (c : Cd), (prog i)[k]? = some c → ∀ j, j < 5 → w.cell? ⟨gb, go + k * 5 + j, none⟩ = (cdL c)[j]?)
structure CdO (w : World) (j : Nat) (out : Value) (pvs : Nat → Value) (prog : Nat → List Cd) (wr : World) : Prop where
 size : w.heap.size ≤ wr.heap.size
 old : ∀ b, b < w.heap.size → wr.heap[b]? = w.heap[b]?
 orow : wr.ownsRow w.heap.size 69 1 out j ((List.range j).map pvs)
 prow : ∀ i, i < j → wr.ownsRow w.heap.size 74 5 (pvs i) (prog i).length (progL (prog i))
structure CdI (w : World) (s0 j k : Nat) (out l : Value) (pvs : Nat → Value) (prog : Nat → List Cd) (wr : World) : Prop where
 o : CdO w j out pvs prog wr
 lrow : wr.ownsRow s0 74 5 l k (progL ((prog j).take k))
 lo : w.heap.size ≤ s0 ∧ s0 ≤ wr.heap.size
 ap : ∀ i g, i < j → (pvs i).ownBlock = some g → g < s0
theorem CdO.start (w : World) (pvs : Nat → Value) (prog : Nat → List Cd) : CdO w 0 (.slice none 0 0) pvs prog w := ⟨Nat.le_refl _, fun _ _ => rfl, World.ownsRow_nil _ _ _ _, fun i hi => absurd hi (Nat.not_lt_zero _)⟩
theorem CdO.inner {w wr : World} {j : Nat} {out : Value} {pvs : Nat → Value} {prog : Nat → List Cd} (h : CdO w j out pvs prog wr) : CdI w wr.heap.size j 0 out (.slice none 0 0) pvs prog wr := by
 refine ⟨h, ?_, ⟨h.size, Nat.le_refl _⟩, fun i g hi hg => (own_lt (h.prow i hi) hg).2.2⟩
 rw [List.take_zero]
 exact World.ownsRow_nil _ _ _ _
theorem progL_take {l : List Cd} {k : Nat} {c : Cd} (h : l[k]? = some c) : progL (l.take (k + 1)) = progL (l.take k) ++ cdL c := by
 unfold progL
 rw [List.take_add_one, List.flatMap_append, h]
 simp
theorem CdI.next {w wr w5 : World} {s0 j k : Nat} {out l : Value} {pvs : Nat → Value} {prog : Nat → List Cd} (h : CdI w s0 j k out l pvs prog wr) {c : Cd} (hc : (prog j)[k]? = some c) {o1 o2 : Obj} {l' : Value}
 (hown : w5.ownsRow s0 74 5 l' (k + 1) (progL ((prog j).take k) ++ cdL c)) (hgrow : ((wr.alloc o1).alloc o2).grownBy w5 l.ownBlock) : CdI w s0 j (k + 1) out l' pvs prog w5 := by
 have hs5 : wr.heap.size + 2 ≤ w5.heap.size := by have := hgrow.size; simp only [zq6] at this; exact this
 have h5 : ∀ b, b < wr.heap.size → l.ownBlock ≠ some b → w5.heap[b]? = wr.heap[b]? := fun b hb hne => by
  rw [hgrow.block b (by simp only [zq6]; omega) (fun e => hne e.symm), zqa, if_neg (by rw [zq6]; omega), zqa, if_neg (by omega)]
 have hlo := h.lo
 have hos := h.o.size
 refine ⟨⟨by omega, fun b hb => ?_, ?_, fun i hi => ?_⟩, by rw [progL_take hc]; exact hown, ⟨hlo.1, by omega⟩, h.ap⟩
 · rw [h5 b (by omega) (fun e => by have := (own_lt h.lrow e).2.1; omega)]; exact h.o.old b hb
 · refine zqd h.o.orow fun g hg => ?_
   obtain ⟨⟨c1, hc1⟩, _, hlt⟩ := own_lt h.o.orow hg
   refine h5 g hlt fun e => ?_
   obtain ⟨⟨c2, hc2⟩, _⟩ := own_lt h.lrow e
   exact absurd (heap_type hc1 hc2) (by decide)
 · refine zqd (h.o.prow i hi) fun g hg => ?_
   have hlt := (own_lt (h.o.prow i hi) hg).2.2
   exact h5 g hlt fun e => by have := (own_lt h.lrow e).2.1; have := h.ap i g hi hg; omega
theorem CdI.done {w wr w5 : World} {s0 j : Nat} {out l : Value} {pvs : Nat → Value} {prog : Nat → List Cd} (h : CdI w s0 j (prog j).length out l pvs prog wr) {o1 : Obj} {out' : Value}
 (hown : w5.ownsRow w.heap.size 69 1 out' (j + 1) ((List.range j).map pvs ++ [l])) (hgrow : (wr.alloc o1).grownBy w5 out.ownBlock) : CdO w (j + 1) out' (fun i => if i = j then l else pvs i) prog w5 := by
 have hs5 : wr.heap.size + 1 ≤ w5.heap.size := by have := hgrow.size; simp only [zq6] at this; exact this
 have h5 : ∀ b, b < wr.heap.size → out.ownBlock ≠ some b → w5.heap[b]? = wr.heap[b]? := fun b hb hne => by
  rw [hgrow.block b (by simp only [zq6]; omega) (fun e => hne e.symm), zqa, if_neg (by omega)]
 have hlo := h.lo
 have hos := h.o.size
 have hcode : ∀ {B n : Nat} {v : Value} {xs : List Value}, wr.ownsRow B 74 5 v n xs → w5.ownsRow B 74 5 v n xs := fun hr => zqd hr fun g hg => by
  obtain ⟨⟨c1, hc1⟩, _, hlt⟩ := own_lt hr hg
  refine h5 g hlt fun e => ?_
  obtain ⟨⟨c2, hc2⟩, _⟩ := own_lt h.o.orow e
  exact absurd (heap_type hc1 hc2) (by decide)
 refine ⟨by omega, fun b hb => ?_, by rw [map_upd]; exact hown, fun i hi => ?_⟩
 · rw [h5 b (by omega) (fun e => by have := (own_lt h.o.orow e).2.1; omega)]; exact h.o.old b hb
 · by_cases e : i = j
   · subst e
     simp only [if_true]
     have := hcode h.lrow
     rw [List.take_length] at this
     exact ownsRow_base this hlo.1
   · simp only [e, if_false]
     exact hcode (h.o.prow i (by omega))
theorem CdO.progs {w wr : World} {n : Nat} {p : Option Addr} {C : Nat} {pvs : Nat → Value} {prog : Nat → List Cd} (h : CdO w n (.slice p n C) pvs prog wr) (N : Nat) (hN : N ≤ n) : ProgsAt wr p n N prog (fun b => w.heap.size ≤ b ∧ b < wr.heap.size) := by
 refine ⟨fun h0 => ?_, hN, fun b hb => hb.2⟩
 rcases h.orow.2 with ⟨_, hn⟩ | ⟨g, cap, cur, hv, h1, h2, h3, h4, h5, h6⟩
 · omega
 · cases hv
   refine ⟨g, cur, rfl, ⟨h1, zq4 h2⟩, h2, fun i hi => ⟨pvs i, ?_, ?_⟩⟩
   · have : ((List.range n).map pvs)[i]? = some (pvs i) := by rw [List.getElem?_map, List.getElem?_range (by omega)]; rfl
     rw [← h6, List.getElem?_take] at this
     split at this
     · simpa using this
     · cases this
   · rcases (h.prow i (by omega)).2 with ⟨hv, hl⟩ | ⟨g2, cap2, cur2, hv, k1, k2, k3, k4, k5, k6⟩
     · exact .inl ⟨hv, List.eq_nil_of_length_eq_zero hl⟩
     · exact .inr ⟨g2, cap2, cur2, hv, ⟨k1, zq4 k2⟩, k2, k6⟩
theorem news_new {w : World} {cs : Array Value} {T : TypeId} {B : Nat} (hB : w.heap.size = B) : ∀ j u, cs.toList[j]? = some u → (w.alloc (.cells cs T)).cell? ((⟨B, 0, none⟩ : Addr).add j) = some u := by subst hB; exact World.news_of_block (al_new w _)
theorem row_allocK {w : World} {B k : Nat} {e : TypeId} {v : Value} {n : Nat} {xs : List Value} (h : w.ownsRow B e k v n xs) (o : Obj) : (w.alloc o).ownsRow B e k v n xs := zqd h fun g hg => by rw [zqa, if_neg (by have := (own_lt h hg).2.2; omega)]
theorem codes_lone {pp : Option Addr} {n Cp : Nat} {prog : Nat → List Cd} (w : World) (hn : n ≤ 1099511627776) (hlen : ∀ i, i < n → (prog i).length ≤ 1099511627776) (hp : RefProgs w pp n prog) :
 Calls Try.prog 10 #[.slice pp n Cp] w fun e w' => ∃ out pvs, e = .returned out ∧ CdO w n out pvs prog w' := by
 have HP := Lib.hid hp
 have HL := Lib.hid hlen
 clear hp hlen
 go_enter Try.func10, Try.ntmps10
 go_wp2
 go_loopg [3, 4] n (fun k o i wr => ∃ (j : Nat) (pvs : Nat → Value) (out : Value), out = o ∧ k = n - j ∧ j ≤ n ∧ i = .int .i64 j ∧ CdO w j out pvs prog wr)
 case atStart => exact ⟨0, fun _ => .slice none 0 0, _, rfl, rfl, Nat.zero_le _, rfl, CdO.start w _ _⟩
 case round =>
  obtain ⟨j, pvs, out, ho, hk, hj, rfl, hR⟩ := hrel
  subst ho
  have HR := Lib.hid hR
  clear hR
  by_cases hlt : j < n
  · have hlt' : (j : Int) < (n : Int) := by omega
    have hj0 : (0 : Int) ≤ j := by omega
    obtain ⟨pb, po, rfl, hc⟩ := HP.out (by omega)
    obtain ⟨q, C, hc1, hc2⟩ := hc j hlt
    have HC2 := Lib.hid hc2
    have HPB := Lib.hid (cell_lt hc1)
    obtain ⟨L, hL⟩ : ∃ L, (prog j).length = L := ⟨_, rfl⟩
    rw [hL] at hc1
    have HLe := Lib.hid hL
    have HC1 := Lib.hid hc1
    clear hc hc2 hL hc1
    go_wp2
    have HI := Lib.hid HR.out.inner
    go_loopg [5, 6] L (fun k l i wr2 => ∃ (kk : Nat) (lv : Value), lv = l ∧ k = L - kk ∧ kk ≤ L ∧ i = .int .i64 kk ∧ CdI w wr.heap.size j kk out lv pvs prog wr2)
    case atStart => exact ⟨0, _, rfl, rfl, Nat.zero_le _, rfl, HI.out⟩
    case round =>
     obtain ⟨kk, lv, hlv, hk2, hj2, rfl, hR2⟩ := hrel
     subst hlv
     have HR2 := Lib.hid hR2
     clear hR2
     have cP := (zqf (HR2.out.o.old pb HPB.out)).trans HC1.out
     by_cases hlt2 : kk < L
     · have hlt2' : (kk : Int) < (L : Int) := by omega
       have hkk0 : (0 : Int) ≤ kk := by omega
       obtain ⟨c, hcd⟩ : ∃ c, (prog j)[kk]? = some c := ⟨_, List.getElem?_eq_getElem (by rw [HLe.out]; exact hlt2)⟩
       obtain ⟨gb, go, rfl, hcc⟩ := HC2.out (fun e => by rw [e] at hcd; cases hcd)
       have e0 := hcc kk c hcd 0 (by omega)
       have e1 := hcc kk c hcd 1 (by omega)
       have e2 := hcc kk c hcd 2 (by omega)
       have e3 := hcc kk c hcd 3 (by omega)
       have e4 := hcc kk c hcd 4 (by omega)
       have hgb : gb < w.heap.size := cell_lt (e0.trans rfl)
       have f0 : wr.cell? ⟨gb, go + kk * 5, none⟩ = some (.int .i64 c.d) := (zqf (HR2.out.o.old gb hgb)).trans e0
       have f1 : wr.cell? ⟨gb, go + kk * 5 + 1, none⟩ = some (.int .i64 c.r) := (zqf (HR2.out.o.old gb hgb)).trans e1
       have f2 : wr.cell? ⟨gb, go + kk * 5 + 2, none⟩ = some (.int .i64 c.a) := (zqf (HR2.out.o.old gb hgb)).trans e2
       have f3 : wr.cell? ⟨gb, go + kk * 5 + 3, none⟩ = some (.int .i64 c.b) := (zqf (HR2.out.o.old gb hgb)).trans e3
       have f4 : wr.cell? ⟨gb, go + kk * 5 + 4, none⟩ = some (.int .i64 c.v) := (zqf (HR2.out.o.old gb hgb)).trans e4
       have HCD := Lib.hid hcd
       have HLL := Lib.hid (HL.out j hlt)
       clear e0 e1 e2 e3 e4 hcc hgb hcd
       obtain ⟨ti, hti, hz0, hz1, hz2⟩ : ∃ ti, Try.prog.info? 74 = some ti ∧ ti.zero = some (.agg #[.int .i64 0, .int .i64 0, .int .i64 0, .int .i64 0, .int .i64 0]) ∧ ti.size = 5 ∧ ti.bytes = 40 := ⟨_, rfl, rfl, rfl, rfl⟩
       have TI := Lib.hid (And.intro hti (And.intro hz0 (And.intro hz1 hz2)))
       clear hti hz0 hz1 hz2
       have hb1 : kk < 1099511627776 := by have := HLL.out; have := HLe.out; omega
       go_wp2_with (at_builtin; go_loud (refine wpList_append_lies _ rfl (.tmp 30) (.tmp 42) 69 rfl _ 74 ti (.agg #[.int .i64 0, .int .i64 0, .int .i64 0, .int .i64 0, .int .i64 0]) 5 40 (by kernel_rfl) TI.out.1 TI.out.2.1 TI.out.2.2.1 TI.out.2.2.2 rfl (by decide) _ kk (progL ((prog j).take kk)) rfl (row_allocK (row_allocK HR2.out.lrow _) _) _ 1 1 [.int .i64 c.d, .int .i64 c.r, .int .i64 c.a, .int .i64 c.b, .int .i64 c.v] rfl rfl (news_new (by simp only [zq6])) (by simp [Value.oneCell']) (by decide) (by simp only [maxLen]; omega) (by omega) (by have := HR2.out.lo; simp only [zq6]; omega) _ rfl ?next))
       case next =>
        intro g cap w5 hown hgrow hat hlt5
        have HN := Lib.hid (HR2.out.next HCD.out hown hgrow)
        clear hown hgrow hat hlt5
        go_wp2
        go_roundg (L - (kk + 1))
        case measure => omega
        case rel => exact ⟨kk + 1, _, rfl, rfl, by omega, rfl, HN.out⟩
     · obtain rfl : L = kk := by omega
       obtain ⟨ti, hti, hz0, hz1, hz2⟩ : ∃ ti, Try.prog.info? 69 = some ti ∧ ti.zero = some (.slice none 0 0) ∧ ti.size = 1 ∧ ti.bytes = 24 := ⟨_, rfl, rfl, rfl, rfl⟩
       have TI := Lib.hid (And.intro hti (And.intro hz0 (And.intro hz1 hz2)))
       clear hti hz0 hz1 hz2
       obtain ⟨lp, ln, lc, rfl⟩ := own_slice HR2.out.lrow
       go_wp2_with (at_builtin; go_loud (refine wpList_append_lies _ rfl (.tmp 44) (.tmp 46) 30 rfl w.heap.size 69 ti (.slice none 0 0) 1 24 (by kernel_rfl) TI.out.1 TI.out.2.1 TI.out.2.2.1 TI.out.2.2.2 rfl (by decide) _ j ((List.range j).map pvs) rfl (row_alloc HR2.out.o.orow _) _ 1 1 [.slice lp ln lc] rfl rfl (one_new rfl) (by simp [Value.oneCell']) (by decide) (by simp only [maxLen]; omega) (by omega) (by have := HR2.out.o.size; simp only [zq6]; omega) _ rfl ?next))
       case next =>
        intro g cap w5 hown hgrow hat hlt5
        have HN := Lib.hid (CdI.done (by rw [HLe.out]; exact HR2.out) hown hgrow)
        clear hown hgrow hat hlt5
        go_wp2
        go_roundg (n - (j + 1))
        case measure => omega
        case rel => exact ⟨j + 1, _, _, rfl, rfl, by omega, rfl, HN.out⟩
  · obtain rfl : n = j := by omega
    go_wp2
    go_ret
    exact ⟨_, pvs, rfl, HR.out⟩
def adderP : List Cd := [⟨7, 0, 0, 0, 0⟩, ⟨1, 1, 0, 0, 1⟩, ⟨3, 0, 0, 1, 0⟩, ⟨8, 0, 0, 0, 0⟩, ⟨6, 0, 0, 0, 0⟩]
theorem adder_lone (w : World) : Calls Try.prog 22 #[] w fun e w' => e = .returned (.slice (some ⟨w.heap.size, 0, none⟩) 5 5) ∧ w' = w.alloc (.cells (progL adderP).toArray 71) := by
 go_enter Try.func22, Try.ntmps22
 go_wp2
 go_ret
 exact ⟨rfl, rfl⟩
theorem awake_a : (playP (fun _ => adderP) 2 100 [0, 1, 0, 1] ⟨[0], fun _ => mch0⟩).mem.ws = [1] ∧ (playP (fun _ => adderP) 2 100 [0, 1, 0, 1] ⟨[0], fun _ => mch0⟩).ord = [0, 1, 0, 1] ∧ decide (0 < leftN (playP (fun _ => adderP) 2 100 [0, 1, 0, 1] ⟨[0], fun _ => mch0⟩).ov 2) = false := by
 refine ⟨by kernel_rfl, by kernel_rfl, by kernel_rfl⟩
theorem awake_b : (playP (fun _ => adderP) 2 100 [0, 0, 1, 1] ⟨[0], fun _ => mch0⟩).mem.ws = [2] := by kernel_rfl
theorem awake_c : (playP (fun _ => adderP) 2 3 [] ⟨[0], fun _ => mch0⟩).ord.length = 3 ∧ decide (0 < leftN (playP (fun _ => adderP) 2 3 [] ⟨[0], fun _ => mch0⟩).ov 2) = true := ⟨by kernel_rfl, by kernel_rfl⟩
noncomputable def awT (n : Nat) : Code := tailN n (Try.f8.body.getD .skip)
theorem aw0 : Try.f8.body.getD .skip = .seq (headC (awT 0)) (.seq (headC (awT 1)) (.seq (headC (awT 2)) (.seq (headC (awT 3)) (.seq (headC (awT 4)) (awT 5))))) := by kernel_rfl
theorem ProgsAt.ext {w w' : World} {pp : Option Addr} {n N : Nat} {prog : Nat → List Cd} {PB : Nat → Prop} (h : ProgsAt w pp n N prog PB) (hs : w.heap.size ≤ w'.heap.size) (ho : ∀ b, b < w.heap.size → w'.heap[b]? = w.heap[b]?) : ProgsAt w' pp n N prog PB := by
 refine ⟨fun h0 => ?_, h.le, fun b hb => Nat.lt_of_lt_of_le (h.lt b hb) hs⟩
 obtain ⟨pb, cur, e, h1, h2, h3⟩ := h.at' h0
 refine ⟨pb, cur, e, h1, (ho pb (h.lt pb h1)).trans h2, fun i hi => ?_⟩
 obtain ⟨pv, h4, h5⟩ := h3 i hi
 refine ⟨pv, h4, ?_⟩
 rcases h5 with h5 | ⟨g, cap, c2, h5, h6, h7, h8⟩
 · exact .inl h5
 · exact .inr ⟨g, cap, c2, h5, h6, (ho g (h.lt g h6)).trans h7, h8⟩
def Beyond (w w' : World) : Prop := w.heap.size ≤ w'.heap.size ∧ ∀ b, b < w.heap.size → w'.heap[b]? = w.heap[b]?
theorem Beyond.refl (w : World) : Beyond w w := ⟨Nat.le_refl _, fun _ _ => rfl⟩
theorem Beyond.trans {w w' w'' : World} (h : Beyond w w') (k : Beyond w' w'') : Beyond w w'' := ⟨Nat.le_trans h.1 k.1, fun b hb => (k.2 b (Nat.lt_of_lt_of_le hb h.1)).trans (h.2 b hb)⟩
theorem Beyond.alloc (w : World) (o : Obj) : Beyond w (w.alloc o) := ⟨by rw [zq6]; omega, fun b hb => by rw [zqa, if_neg (by omega)]⟩
theorem Beyond.heap {w w' : World} (h : Beyond w w') {b : Nat} {o : Obj} (hb : w.heap[b]? = some o) : w'.heap[b]? = some o := (h.2 b (zq4 hb)).trans hb
theorem Beyond.cell {w w' : World} (h : Beyond w w') {a : Addr} {v : Value} (hb : w.cell? a = some v) : w'.cell? a = some v := (zqf (h.2 a.block (cell_lt hb))).trans hb
theorem PlayRes.beyond {w w' : World} {N W : Nat} {P : PSt} {ans v st : Value} {tv : Nat → Value} (h : PlayRes w N W P ans v st tv w') : Beyond w w' := ⟨h.size, h.old⟩
def AwC (w : World) (H : Nat) (t : Array Value) (w' : World) : Prop := ∃ op Cp, t = #[.bool false, .slice op 2 Cp, undef, undef, undef, .slice (some ⟨H, 0, none⟩) 5 5, .slice (some ⟨H + 1, 0, none⟩) 5 5, .slice (some ⟨H + 1 + 1, 0, none⟩) 2 2, .slice op 2 Cp, undef, undef, undef, undef, undef, undef, undef, undef, undef, undef, undef, undef, undef, undef, undef, undef, undef, undef, undef, undef, undef, undef, undef, undef, undef, undef, undef, undef, undef, undef, undef, undef, undef, undef, undef, undef, undef, undef, undef, undef, undef, undef, undef, undef, undef, undef, undef, undef, undef, undef, undef, undef, undef, undef, undef, undef, undef, undef, undef, undef, undef, undef, undef, undef, undef, undef] ∧ Beyond w w' ∧ ProgsAt w' op 2 2 (fun _ => adderP) (fun b => H + 1 + 1 + 1 ≤ b ∧ b < w'.heap.size)
theorem awake_calls {Fin : Machine → Trace → Prop} (hFin : Back Try.prog Fin) {n : Nat} (hn : 0 < n) {w : World} {c : Frame} {cs : List Frame} (hmain : ∀ w', Beyond w w' → J0 Try.prog Fin (n + 6) (G (c.finish (.bool true)) cs) w') :
 J0 Try.prog Fin n (G (Frame.enter Try.prog 8 #[] .normal) (c :: cs)) w := by
 have hJ := j0_JS hFin
 have hC := j0_calm hFin
 have e : Frame.enter Try.prog 8 #[] .normal = (bN 8).at (enterAct Try.f8 #[]) [.code ((Try.f8.body).getD .skip)] := by kernel_rfl
 have ea : enterAct Try.f8 #[] = ⟨#[undef, undef, undef, undef, undef, undef, undef, undef, undef, undef, undef, undef, undef, undef, undef, undef, undef, undef, undef, undef, undef, undef, undef, undef, undef, undef, undef, undef, undef, undef, undef, undef, undef, undef, undef, undef, undef, undef, undef, undef, undef, undef, undef, undef, undef, undef, undef, undef, undef, undef, undef, undef, undef, undef, undef, undef, undef, undef, undef, undef, undef, undef, undef, undef, undef, undef, undef, undef, undef, undef, undef, undef, undef, undef, undef], []⟩ := by kernel_rfl
 rw [e, ea, aw0]
 clear e ea
 have hm := Lib.hid hmain
 clear hmain
 obtain ⟨H, hH⟩ : ∃ H, w.heap.size = H := ⟨_, rfl⟩
 refine hJ.ctl (s := n) (fun w => stepG_seq) ?_
 refine at_lone hJ hC plainM (by kernel_rfl) (fun t w' => t = #[.bool false, undef, undef, undef, undef, undef, undef, undef, undef, undef, undef, undef, undef, undef, undef, undef, undef, undef, undef, undef, undef, undef, undef, undef, undef, undef, undef, undef, undef, undef, undef, undef, undef, undef, undef, undef, undef, undef, undef, undef, undef, undef, undef, undef, undef, undef, undef, undef, undef, undef, undef, undef, undef, undef, undef, undef, undef, undef, undef, undef, undef, undef, undef, undef, undef, undef, undef, undef, undef, undef, undef, undef, undef, undef, undef] ∧ ∃ τ d, w' = re w τ d) (fun t w' τ d h => ⟨h.1, by obtain ⟨τ', d', rfl⟩ := h.2; exact ⟨τ, d, by rw [re_re]⟩⟩) (by decide) (fun τ d => ?_) ?_
 · obtain ⟨u0, hu0⟩ : ∃ c, headC (awT 0) = c := ⟨_, rfl⟩
   have eu0 := hu0
   rw [hu0]
   simp only [awT, headC, tailN, Try.f8, al_od] at eu0
   subst eu0
   clear hu0
   go_wp2
   exact ⟨rfl, rfl, τ, d, rfl⟩
 rintro t w' ⟨rfl, τ, d, rfl⟩
 refine hJ.re' n _ _ τ d ?_
 refine hJ.ctl (s := n) (fun w => stepG_seq) ?_
 refine at_lone hJ hC plainM (by kernel_rfl) (AwC w H) (fun t w' τ d h => ?_) (by decide) (fun τ d => ?_) ?_
 · obtain ⟨op, Cp, h1, h2, h3⟩ := h
   exact ⟨op, Cp, h1, ⟨h2.1, h2.2⟩, ⟨h3.at', h3.le, h3.lt⟩⟩
 · obtain ⟨u0, hu0⟩ : ∃ c, headC (awT 1) = c := ⟨_, rfl⟩
   have eu0 := hu0
   rw [hu0]
   simp only [awT, headC, tailN, Try.f8, al_od] at eu0
   subst eu0
   clear hu0
   go_wp2_with (fail)
   refine Calls.mono (adder_lone _) ?_
   rintro e w' ⟨rfl, rfl⟩
   go_wp2_with (fail)
   refine Calls.mono (adder_lone _) ?_
   rintro e w' ⟨rfl, rfl⟩
   go_wp2_with (fail)
   obtain ⟨W3, hW3⟩ : ∃ W3, ((((re w τ d).alloc (.cells (progL adderP).toArray 71)).alloc (.cells (progL adderP).toArray 71)).alloc (.cells #[.slice (some ⟨H, 0, none⟩) 5 5, .slice (some ⟨H + 1, 0, none⟩) 5 5] 62)) = W3 := ⟨_, rfl⟩
   rw [hW3]
   have hsz : W3.heap.size = H + 1 + 1 + 1 := by rw [← hW3]; simp only [zq6, re_size, hH]
   have b0 : W3.heap[H]? = some (.cells (progL adderP).toArray 71) := by rw [← hW3, ← hH]; exact al_old (al_old (al_new (re w τ d) _))
   have b1 : W3.heap[H + 1]? = some (.cells (progL adderP).toArray 71) := by rw [← hW3]; refine al_old ?_; rw [zqa, if_pos (by rw [zq6, re_size, hH])]
   have b2 : W3.heap[H + 1 + 1]? = some (.cells #[.slice (some ⟨H, 0, none⟩) 5 5, .slice (some ⟨H + 1, 0, none⟩) 5 5] 62) := by rw [← hW3, zqa, if_pos (by simp only [zq6, re_size, hH])]
   have hbe : Beyond w W3 := by
    have h1 : Beyond w (re w τ d) := ⟨Nat.le_refl _, fun _ _ => rfl⟩
    rw [← hW3]
    exact ((h1.trans (Beyond.alloc _ _)).trans (Beyond.alloc _ _)).trans (Beyond.alloc _ _)
   clear hW3
   have hcell : ∀ B : Nat, W3.heap[B]? = some (.cells (progL adderP).toArray 71) → ∀ (k : Nat) (c : Cd), adderP[k]? = some c → ∀ j, j < 5 → W3.cell? ⟨B, 0 + k * 5 + j, none⟩ = (cdL c)[j]? := fun B hB k c hk j hj => by
    rw [zq0 hB, Nat.zero_add, ← progL_get adderP k c hk j hj]; simp
   have hrp : RefProgs W3 (some ⟨H + 1 + 1, 0, none⟩) 2 (fun _ => adderP) := fun _ => ⟨H + 1 + 1, 0, rfl, fun i hi => by
    have : i = 0 ∨ i = 1 := by omega
    rcases this with rfl | rfl
    · exact ⟨_, _, (zq0 b2).trans rfl, fun _ => ⟨H, 0, rfl, hcell H b0⟩⟩
    · exact ⟨_, _, (zq0 b2).trans rfl, fun _ => ⟨H + 1, 0, rfl, hcell (H + 1) b1⟩⟩⟩
   refine Calls.mono (codes_lone (Cp := 2) W3 (by decide) (fun i hi => by decide) hrp) ?_
   rintro e w' ⟨out, pvs, rfl, hO⟩
   obtain ⟨op, Cp, rfl, _, _⟩ := row_form hO.orow
   have HO := Lib.hid (And.intro hO (And.intro hbe hsz))
   clear hO hbe hsz hrp hcell b0 b1 b2
   go_wp2
   refine ⟨rfl, op, Cp, rfl, HO.out.2.1.trans ⟨HO.out.1.size, HO.out.1.old⟩, ?_⟩
   have := HO.out.1.progs 2 (Nat.le_refl _)
   rw [HO.out.2.2] at this
   exact this
 intro t w1 hh
 obtain ⟨op, Cp, rfl, hB1, hP1⟩ := hh
 generalize hPB : (fun b => H + 1 + 1 + 1 ≤ b ∧ b < w1.heap.size) = PB at hP1
 clear hPB hH
 refine hJ.ctl (s := n) (fun w => stepG_seq) ?_
 obtain ⟨u1, hu1⟩ : ∃ c, headC (awT 2) = c := ⟨_, rfl⟩
 have eu1 := hu1
 rw [hu1]
 simp only [awT, headC, tailN, Try.f8, al_od] at eu1
 subst eu1
 clear hu1
 refine hJ.ctl (s := n) (fun w => stepG_region) ?_
 have HK1 := Lib.hid (And.intro hB1 (And.intro hP1 True.intro))
 clear hB1 hP1
 refine at_piece (s := n) (by decide) hJ (rows0_none _) true (.inl rfl) 0 3 3 rfl rfl rfl (by rfl) ?_
 intro τ d
 simp only [List.drop_zero, List.take_succ_cons, List.take_zero]
 go_wp2
 simp only [contAt, re_alloc]
 refine hJ.re' n _ _ τ d ?_
 obtain ⟨wa1, hwa1⟩ : ∃ x, ((w1.alloc (.cells #[.int .i64 0] 2)).alloc (.cells #[.int .i64 0, .int .i64 1, .int .i64 0, .int .i64 1] 3)) = x := ⟨_, rfl⟩
 obtain ⟨hB1, hP1, hpf1⟩ := HK1.out
 have hbe1 : Beyond w1 wa1 := by rw [← hwa1]; exact (Beyond.alloc _ _).trans (Beyond.alloc _ _)
 have hwd1 : wa1.heap[w1.heap.size]? = some (.cells #[.int .i64 0] 2) := by rw [← hwa1]; exact al_old (al_new _ _)
 have hsc1 : wa1.heap[w1.heap.size + 1]? = some (.cells #[.int .i64 0, .int .i64 1, .int .i64 0, .int .i64 1] 3) := by rw [← hwa1, zqa, if_pos (by rw [zq6])]
 rw [hwa1]
 clear hwa1
 refine at_call (by decide) hJ (s := n) rfl rfl (f := 9) (args := #[.slice (some ⟨w1.heap.size, 0, none⟩) 1 1, .slice op 2 Cp, .slice (some ⟨w1.heap.size + 1, 0, none⟩) 4 4, .int .i64 100]) (fun τ d => ?_) (fun τ d => ?_) ?_
 · simp [go_sem, execOp, Act.eval, resolve, Deferred.ofValue, invoke, callFunc, Try.func9, Try.f9]
 · intro e he
   simp [go_sem, execOp, Act.eval, resolve, Deferred.ofValue, invoke, callFunc, Try.func9, Try.f9, Sem.runT_eq] at he
 refine play_calls hFin (n := n) (by omega) (W := 1) (C := 1) (np := 2) (Cp := Cp) (Cs := 4) (ws := [0]) (sched := [0, 1, 0, 1]) (prog := fun _ => adderP) (PB := PB) (mo := 100) (N := 2) rfl (by decide) (by decide) (by decide) (fun _ => ⟨_, 0, rfl, fun i hi => by
  obtain rfl : i = 0 := by omega
  exact (zq0 hwd1).trans rfl⟩) rfl (hP1.ext hbe1.1 hbe1.2) (fun _ => ⟨w1.heap.size + 1, 0, rfl, fun hPBx => by have := hP1.lt _ hPBx; omega, fun j x hj => by
  have hj4 : j < 4 := (List.getElem?_eq_some_iff.1 hj).1
  rw [zq0 hsc1]
  obtain rfl | rfl | rfl | rfl : j = 0 ∨ j = 1 ∨ j = 2 ∨ j = 3 := by omega
  all_goals (simp at hj; subst hj; rfl)⟩) ?_
 intro ans1 ord1 st1 tv1 v1 hR1
 rw [show min (100 : Int).toNat 1048576 = 100 from by decide] at hR1 ⊢
 obtain ⟨pa1, ca1, rfl, _, _⟩ := row_form hR1.arow
 obtain ⟨pv1, cv1, rfl, _, _⟩ := row_form hR1.orow
 obtain ⟨ps1, cst1, rfl, _, hst1⟩ := row_form hR1.srow
 obtain ⟨g1, rfl, _, hcl1⟩ := hst1 (by decide)
 have hbv1 : Beyond w1 v1 := hbe1.trans hR1.beyond
 have hol : (playP (fun _ => adderP) 2 100 [0, 1, 0, 1] ⟨[0], fun _ => mch0⟩).ord.length = 4 := by rw [awake_a.2.1]; rfl
 rw [hol, awake_a.2.2]
 have hx1 : v1.cell? ⟨g1, 0, none⟩ = some (.int .i64 1) := hcl1 0 _ (by rw [awake_a.1]; rfl)
 rw [Frame.finish_at]
 walk_nrm
 have HQ1 := Lib.hid (And.intro hB1 (And.intro hP1 (And.intro hpf1 (And.intro hbv1 hx1))))
 clear hR1 hcl1 hst1 hB1 hP1 hpf1 hbv1 hx1 hbe1 hwd1 HK1 hsc1 hol
 refine at_piece (s := (n + 2)) (by decide) hJ (rows0_none _) false (.inr rfl) 4 2 0 rfl rfl rfl (by rfl) ?_
 intro τ d
 simp only [List.drop_succ_cons, List.drop_zero, List.take_succ_cons, List.take_zero]
 generalize hvr : re v1 τ d = vr
 go_wp2
 simp only [contAt]
 subst hvr
 simp only [re_alloc, re_size]
 refine hJ.re' (n + 2) _ _ τ d ?_
 obtain ⟨w2, hw2⟩ : ∃ x, v1.alloc (.cells #[.slice pa1 2 ca1, .slice pv1 4 cv1, .slice (some ⟨g1, 0, none⟩) 1 cst1, .bool false] 28) = x := ⟨_, rfl⟩
 have hbn1 : Beyond v1 w2 := by rw [← hw2]; exact Beyond.alloc _ _
 have hT1 : w2.heap[v1.heap.size]? = some (.cells #[.slice pa1 2 ca1, .slice pv1 4 cv1, .slice (some ⟨g1, 0, none⟩) 1 cst1, .bool false] 28) := by rw [← hw2]; exact al_new _ _
 rw [hw2]
 clear hw2
 obtain ⟨bT1, hbT1⟩ : ∃ x, v1.heap.size = x := ⟨_, rfl⟩
 rw [hbT1] at hT1 ⊢
 clear hbT1
 obtain ⟨hB1, hP1, hpf1, hbv1, hx1⟩ := HQ1.out
 have hB2 := hB1.trans (hbv1.trans hbn1)
 have hP2 := hP1.ext (hbv1.trans hbn1).1 (hbv1.trans hbn1).2
 have hF1 := And.intro hpf1 (And.intro hbv1 (And.intro hbn1 (And.intro hx1 hT1)))
 clear hB1 hP1 hpf1 hbv1 hbn1 hx1 hT1 HQ1
 refine hJ.ctl (s := (n + 2)) (fun w => stepG_region_end) ?_
 refine hJ.ctl (s := (n + 2)) (fun w => stepG_seq) ?_
 obtain ⟨u2, hu2⟩ : ∃ c, headC (awT 3) = c := ⟨_, rfl⟩
 have eu2 := hu2
 rw [hu2]
 simp only [awT, headC, tailN, Try.f8, al_od] at eu2
 subst eu2
 clear hu2
 refine hJ.ctl (s := (n + 2)) (fun w => stepG_region) ?_
 have HK2 := Lib.hid (And.intro hB2 (And.intro hP2 hF1))
 clear hB2 hP2 hF1
 refine at_piece (s := (n + 2)) (by decide) hJ (rows0_none _) true (.inl rfl) 0 3 3 rfl rfl rfl (by rfl) ?_
 intro τ d
 simp only [List.drop_zero, List.take_succ_cons, List.take_zero]
 go_wp2
 simp only [contAt, re_alloc]
 refine hJ.re' (n + 2) _ _ τ d ?_
 obtain ⟨wa2, hwa2⟩ : ∃ x, ((w2.alloc (.cells #[.int .i64 0] 2)).alloc (.cells #[.int .i64 0, .int .i64 0, .int .i64 1, .int .i64 1] 3)) = x := ⟨_, rfl⟩
 obtain ⟨hB2, hP2, hpf2⟩ := HK2.out
 have hbe2 : Beyond w2 wa2 := by rw [← hwa2]; exact (Beyond.alloc _ _).trans (Beyond.alloc _ _)
 have hwd2 : wa2.heap[w2.heap.size]? = some (.cells #[.int .i64 0] 2) := by rw [← hwa2]; exact al_old (al_new _ _)
 have hsc2 : wa2.heap[w2.heap.size + 1]? = some (.cells #[.int .i64 0, .int .i64 0, .int .i64 1, .int .i64 1] 3) := by rw [← hwa2, zqa, if_pos (by rw [zq6])]
 rw [hwa2]
 clear hwa2
 refine at_call (by decide) hJ (s := (n + 2)) rfl rfl (f := 9) (args := #[.slice (some ⟨w2.heap.size, 0, none⟩) 1 1, .slice op 2 Cp, .slice (some ⟨w2.heap.size + 1, 0, none⟩) 4 4, .int .i64 100]) (fun τ d => ?_) (fun τ d => ?_) ?_
 · simp [go_sem, execOp, Act.eval, resolve, Deferred.ofValue, invoke, callFunc, Try.func9, Try.f9]
 · intro e he
   simp [go_sem, execOp, Act.eval, resolve, Deferred.ofValue, invoke, callFunc, Try.func9, Try.f9, Sem.runT_eq] at he
 refine play_calls hFin (n := (n + 2)) (by omega) (W := 1) (C := 1) (np := 2) (Cp := Cp) (Cs := 4) (ws := [0]) (sched := [0, 0, 1, 1]) (prog := fun _ => adderP) (PB := PB) (mo := 100) (N := 2) rfl (by decide) (by decide) (by decide) (fun _ => ⟨_, 0, rfl, fun i hi => by
  obtain rfl : i = 0 := by omega
  exact (zq0 hwd2).trans rfl⟩) rfl (hP2.ext hbe2.1 hbe2.2) (fun _ => ⟨w2.heap.size + 1, 0, rfl, fun hPBx => by have := hP2.lt _ hPBx; omega, fun j x hj => by
  have hj4 : j < 4 := (List.getElem?_eq_some_iff.1 hj).1
  rw [zq0 hsc2]
  obtain rfl | rfl | rfl | rfl : j = 0 ∨ j = 1 ∨ j = 2 ∨ j = 3 := by omega
  all_goals (simp at hj; subst hj; rfl)⟩) ?_
 intro ans2 ord2 st2 tv2 v2 hR2
 rw [show min (100 : Int).toNat 1048576 = 100 from by decide] at hR2 ⊢
 obtain ⟨pa2, ca2, rfl, _, _⟩ := row_form hR2.arow
 obtain ⟨pv2, cv2, rfl, _, _⟩ := row_form hR2.orow
 obtain ⟨ps2, cst2, rfl, _, hst2⟩ := row_form hR2.srow
 obtain ⟨g2, rfl, _, hcl2⟩ := hst2 (by decide)
 have hbv2 : Beyond w2 v2 := hbe2.trans hR2.beyond
 have hx2 : v2.cell? ⟨g2, 0, none⟩ = some (.int .i64 2) := hcl2 0 _ (by rw [awake_b]; rfl)
 obtain ⟨ol2, hol2⟩ : ∃ x, (playP (fun _ => adderP) 2 100 [0, 0, 1, 1] ⟨[0], fun _ => mch0⟩).ord.length = x := ⟨_, rfl⟩
 obtain ⟨lf2, hlf2⟩ : ∃ x, decide (0 < leftN (playP (fun _ => adderP) 2 100 [0, 0, 1, 1] ⟨[0], fun _ => mch0⟩).ov 2) = x := ⟨_, rfl⟩
 rw [hol2, hlf2]
 rw [Frame.finish_at]
 walk_nrm
 have HQ2 := Lib.hid (And.intro hB2 (And.intro hP2 (And.intro hpf2 (And.intro hbv2 hx2))))
 clear hR2 hcl2 hst2 hB2 hP2 hpf2 hbv2 hx2 hbe2 hwd2 HK2 hsc2 hol2 hlf2
 refine at_piece (s := (n + 2 + 2)) (by decide) hJ (rows0_none _) false (.inr rfl) 4 2 0 rfl rfl rfl (by rfl) ?_
 intro τ d
 simp only [List.drop_succ_cons, List.drop_zero, List.take_succ_cons, List.take_zero]
 generalize hvr : re v2 τ d = vr
 go_wp2
 simp only [contAt]
 subst hvr
 simp only [re_alloc, re_size]
 refine hJ.re' (n + 2 + 2) _ _ τ d ?_
 obtain ⟨w3, hw3⟩ : ∃ x, v2.alloc (.cells #[.slice pa2 2 ca2, .slice pv2 ol2 cv2, .slice (some ⟨g2, 0, none⟩) 1 cst2, .bool lf2] 28) = x := ⟨_, rfl⟩
 have hbn2 : Beyond v2 w3 := by rw [← hw3]; exact Beyond.alloc _ _
 have hT2 : w3.heap[v2.heap.size]? = some (.cells #[.slice pa2 2 ca2, .slice pv2 ol2 cv2, .slice (some ⟨g2, 0, none⟩) 1 cst2, .bool lf2] 28) := by rw [← hw3]; exact al_new _ _
 rw [hw3]
 clear hw3
 obtain ⟨bT2, hbT2⟩ : ∃ x, v2.heap.size = x := ⟨_, rfl⟩
 rw [hbT2] at hT2 ⊢
 clear hbT2
 obtain ⟨hB2, hP2, hpf2, hbv2, hx2⟩ := HQ2.out
 have hB3 := hB2.trans (hbv2.trans hbn2)
 have hP3 := hP2.ext (hbv2.trans hbn2).1 (hbv2.trans hbn2).2
 have hF2 := And.intro hpf2 (And.intro hbv2 (And.intro hbn2 (And.intro hx2 hT2)))
 clear hB2 hP2 hpf2 hbv2 hbn2 hx2 hT2 HQ2
 refine hJ.ctl (s := (n + 2 + 2)) (fun w => stepG_region_end) ?_
 refine hJ.ctl (s := (n + 2 + 2)) (fun w => stepG_seq) ?_
 obtain ⟨u3, hu3⟩ : ∃ c, headC (awT 4) = c := ⟨_, rfl⟩
 have eu3 := hu3
 rw [hu3]
 simp only [awT, headC, tailN, Try.f8, al_od] at eu3
 subst eu3
 clear hu3
 refine hJ.ctl (s := (n + 2 + 2)) (fun w => stepG_region) ?_
 have HK3 := Lib.hid (And.intro hB3 (And.intro hP3 hF2))
 clear hB3 hP3 hF2
 refine at_piece (s := (n + 2 + 2)) (by decide) hJ (rows0_none _) true (.inl rfl) 0 2 3 rfl rfl rfl (by rfl) ?_
 intro τ d
 simp only [List.drop_zero, List.take_succ_cons, List.take_zero]
 go_wp2
 simp only [contAt, re_alloc]
 refine hJ.re' (n + 2 + 2) _ _ τ d ?_
 obtain ⟨wa3, hwa3⟩ : ∃ x, (w3.alloc (.cells #[.int .i64 0] 2)) = x := ⟨_, rfl⟩
 obtain ⟨hB3, hP3, hpf3⟩ := HK3.out
 have hbe3 : Beyond w3 wa3 := by rw [← hwa3]; exact Beyond.alloc _ _
 have hwd3 : wa3.heap[w3.heap.size]? = some (.cells #[.int .i64 0] 2) := by rw [← hwa3]; exact al_new _ _
 rw [hwa3]
 clear hwa3
 refine at_call (by decide) hJ (s := (n + 2 + 2)) rfl rfl (f := 9) (args := #[.slice (some ⟨w3.heap.size, 0, none⟩) 1 1, .slice op 2 Cp, .slice none 0 0, .int .i64 3]) (fun τ d => ?_) (fun τ d => ?_) ?_
 · simp [go_sem, execOp, Act.eval, resolve, Deferred.ofValue, invoke, callFunc, Try.func9, Try.f9]
 · intro e he
   simp [go_sem, execOp, Act.eval, resolve, Deferred.ofValue, invoke, callFunc, Try.func9, Try.f9, Sem.runT_eq] at he
 refine play_calls hFin (n := (n + 2 + 2)) (by omega) (W := 1) (C := 1) (np := 2) (Cp := Cp) (Cs := 0) (ws := [0]) (sched := []) (prog := fun _ => adderP) (PB := PB) (mo := 3) (N := 2) rfl (by decide) (by decide) (by decide) (fun _ => ⟨_, 0, rfl, fun i hi => by
  obtain rfl : i = 0 := by omega
  exact (zq0 hwd3).trans rfl⟩) rfl (hP3.ext hbe3.1 hbe3.2) (fun h => absurd rfl h) ?_
 intro ans3 ord3 st3 tv3 v3 hR3
 rw [show min (3 : Int).toNat 1048576 = 3 from by decide] at hR3 ⊢
 obtain ⟨pa3, ca3, rfl, _, _⟩ := row_form hR3.arow
 obtain ⟨pv3, cv3, rfl, _, _⟩ := row_form hR3.orow
 obtain ⟨ps3, cst3, rfl, _, hst3⟩ := row_form hR3.srow
 obtain ⟨g3, rfl, _, hcl3⟩ := hst3 (by decide)
 have hbv3 : Beyond w3 v3 := hbe3.trans hR3.beyond
 have hx3 : True := True.intro
 rw [awake_c.1, awake_c.2]
 rw [Frame.finish_at]
 walk_nrm
 have HQ3 := Lib.hid (And.intro hB3 (And.intro hP3 (And.intro hpf3 (And.intro hbv3 hx3))))
 clear hR3 hcl3 hst3 hB3 hP3 hpf3 hbv3 hx3 hbe3 hwd3 HK3
 refine at_piece (s := (n + 2 + 2 + 2)) (by decide) hJ (rows0_none _) false (.inr rfl) 3 2 0 rfl rfl rfl (by rfl) ?_
 intro τ d
 simp only [List.drop_succ_cons, List.drop_zero, List.take_succ_cons, List.take_zero]
 generalize hvr : re v3 τ d = vr
 go_wp2
 simp only [contAt]
 subst hvr
 simp only [re_alloc, re_size]
 refine hJ.re' (n + 2 + 2 + 2) _ _ τ d ?_
 obtain ⟨w4, hw4⟩ : ∃ x, v3.alloc (.cells #[.slice pa3 2 ca3, .slice pv3 3 cv3, .slice (some ⟨g3, 0, none⟩) 1 cst3, .bool true] 28) = x := ⟨_, rfl⟩
 have hbn3 : Beyond v3 w4 := by rw [← hw4]; exact Beyond.alloc _ _
 have hT3 : w4.heap[v3.heap.size]? = some (.cells #[.slice pa3 2 ca3, .slice pv3 3 cv3, .slice (some ⟨g3, 0, none⟩) 1 cst3, .bool true] 28) := by rw [← hw4]; exact al_new _ _
 rw [hw4]
 clear hw4
 obtain ⟨bT3, hbT3⟩ : ∃ x, v3.heap.size = x := ⟨_, rfl⟩
 rw [hbT3] at hT3 ⊢
 clear hbT3
 obtain ⟨hB3, hP3, hpf3, hbv3, hx3⟩ := HQ3.out
 have hB4 := hB3.trans (hbv3.trans hbn3)
 have hP4 := hP3.ext (hbv3.trans hbn3).1 (hbv3.trans hbn3).2
 have hF3 := And.intro hpf3 (And.intro hbv3 (And.intro hbn3 (And.intro hx3 hT3)))
 clear hB3 hP3 hpf3 hbv3 hbn3 hx3 hT3 HQ3
 refine hJ.ctl (s := (n + 2 + 2 + 2)) (fun w => stepG_region_end) ?_
 obtain ⟨⟨⟨_, hbv1, hbn1, hx1, hT1⟩, hbv2, hbn2, hx2, hT2⟩, hbv3, hbn3, _, hT3⟩ := hF3
 have c3 : Beyond w3 w4 := hbv3.trans hbn3
 have c2 : Beyond w2 w4 := (hbv2.trans hbn2).trans c3
 have k10 := (zq0 (off := 0) (c2.heap hT1)).trans rfl
 have k11 := (zq0 (off := 1) (c2.heap hT1)).trans rfl
 have k12 := (zq0 (off := 2) (c2.heap hT1)).trans rfl
 have k13 := (zq0 (off := 3) (c2.heap hT1)).trans rfl
 have k20 := (zq0 (off := 0) (c3.heap hT2)).trans rfl
 have k21 := (zq0 (off := 1) (c3.heap hT2)).trans rfl
 have k22 := (zq0 (off := 2) (c3.heap hT2)).trans rfl
 have k23 := (zq0 (off := 3) (c3.heap hT2)).trans rfl
 have k30 := (zq0 (off := 0) hT3).trans rfl
 have k31 := (zq0 (off := 1) hT3).trans rfl
 have k32 := (zq0 (off := 2) hT3).trans rfl
 have k33 := (zq0 (off := 3) hT3).trans rfl
 have x1 := (hbn1.trans c2).cell hx1
 have x2 := (hbn2.trans c3).cell hx2
 clear hbv1 hbn1 hx1 hT1 hbv2 hbn2 hx2 hT2 hbv3 hbn3 hT3 c2 c3 hP4
 have HB := Lib.hid hB4
 clear hB4
 refine at_rest_lone hJ hC plainM (by kernel_rfl) (fun v w' => v = .bool true ∧ Beyond w w') (fun v w' τ d h => ⟨h.1, ⟨h.2.1, h.2.2⟩⟩) rfl Try.func8 (fun τ d => ?_) ?_
 · obtain ⟨u0, hu0⟩ : ∃ c, awT 5 = c := ⟨_, rfl⟩
   have eu0 := hu0
   rw [hu0]
   simp only [awT, headC, tailN, Try.f8, al_od] at eu0
   subst eu0
   clear hu0
   go_wp2
   go_ret
   exact ⟨_, rfl, rfl, ⟨HB.out.1, HB.out.2⟩⟩
 · rintro v w' ⟨rfl, h⟩
   exact hm.out w' h
def IntsAt (w : World) (v : Value) (l : List Int) : Prop := ∃ p C, v = .slice p l.length C ∧ (l ≠ [] → ∃ b o, p = some ⟨b, o, none⟩ ∧ ∀ i, i < l.length → w.cell? ⟨b, o + i, none⟩ = some (.int .i64 (l.getD i 0)))
theorem IntsAt.drew {w : World} {v : Value} {l : List Int} (h : IntsAt w v l) (n : Nat) : IntsAt (w.drewN n) v l := h
theorem IntsAt.beyond {w w' : World} {v : Value} {l : List Int} (h : IntsAt w v l) (hb : Beyond w w') : IntsAt w' v l := by
 obtain ⟨p, C, e, h⟩ := h
 refine ⟨p, C, e, fun hl => ?_⟩
 obtain ⟨b, o, e2, h2⟩ := h hl
 exact ⟨b, o, e2, fun i hi => hb.cell (h2 i hi)⟩
theorem numbers_same {w : World} {va vb : Value} {l : List Int} (hl : l.length ≤ 1099511627776) (ha : IntsAt w va l) (hb : IntsAt w vb l) :
 Calls Try.prog 13 #[va, vb] w fun e w' => e = .returned (.bool true) ∧ ∃ n, w' = w.drewN n := by
 obtain ⟨pa, ca, rfl, ha⟩ := ha
 obtain ⟨pb, cb, rfl, hb⟩ := hb
 have HA := Lib.hid (And.intro ha hb)
 clear ha hb
 obtain ⟨L, hL⟩ : ∃ L, l.length = L := ⟨_, rfl⟩
 rw [hL] at hl ⊢
 have HL := Lib.hid hL
 clear hL
 go_enter Try.func13, Try.ntmps13
 go_wp2
 go_loopg [5] L (fun k i wr => ∃ (j n : Nat), k = L - j ∧ j ≤ L ∧ i = .int .i64 j ∧ wr = w.drewN n)
 case atStart => exact ⟨0, 0, rfl, Nat.zero_le _, rfl, rfl⟩
 case round =>
  obtain ⟨j, n, hk, hj, rfl, rfl⟩ := hrel
  by_cases hlt : j < L
  · have hlt' : (j : Int) < (L : Int) := by omega
    have hj0 : (0 : Int) ≤ j := by omega
    have hne : l ≠ [] := fun e => by have := HL.out; rw [e] at this; simp at this; omega
    obtain ⟨b1, o1, rfl, h1⟩ := HA.out.1 hne
    obtain ⟨b2, o2, rfl, h2⟩ := HA.out.2 hne
    have k1 := h1 j (by rw [HL.out]; exact hlt)
    have k2 := h2 j (by rw [HL.out]; exact hlt)
    generalize l.getD j 0 = x at k1 k2
    clear h1 h2 hne HA
    go_wp2_with (fail)
    go_quiet (fail)
    go_wp2
    go_roundg (L - (j + 1))
    case measure => omega
    case rel => exact ⟨j + 1, _, rfl, by omega, rfl, rfl⟩
  · obtain rfl : L = j := by omega
    go_wp2
    go_ret
    exact ⟨rfl, n, rfl⟩
theorem ints_same {w : World} {va vb : Value} {l : List Int} (hl : l.length ≤ 1099511627776) (ha : IntsAt w va l) (hb : IntsAt w vb l) :
 Calls Try.prog 25 #[va, vb] w fun e w' => e = .returned (.bool true) ∧ ∃ n, w' = w.drewN n := by
 obtain ⟨pa, ca, rfl, ha⟩ := ha
 obtain ⟨pb, cb, rfl, hb⟩ := hb
 have HA := Lib.hid (And.intro ha hb)
 clear ha hb
 obtain ⟨L, hL⟩ : ∃ L, l.length = L := ⟨_, rfl⟩
 rw [hL] at hl ⊢
 have HL := Lib.hid hL
 clear hL
 go_enter Try.func25, Try.ntmps25
 go_wp2
 go_loopg [5] L (fun k i wr => ∃ (j n : Nat), k = L - j ∧ j ≤ L ∧ i = .int .i64 j ∧ wr = w.drewN n)
 case atStart => exact ⟨0, 0, rfl, Nat.zero_le _, rfl, rfl⟩
 case round =>
  obtain ⟨j, n, hk, hj, rfl, rfl⟩ := hrel
  by_cases hlt : j < L
  · have hlt' : (j : Int) < (L : Int) := by omega
    have hj0 : (0 : Int) ≤ j := by omega
    have hne : l ≠ [] := fun e => by have := HL.out; rw [e] at this; simp at this; omega
    obtain ⟨b1, o1, rfl, h1⟩ := HA.out.1 hne
    obtain ⟨b2, o2, rfl, h2⟩ := HA.out.2 hne
    have k1 := h1 j (by rw [HL.out]; exact hlt)
    have k2 := h2 j (by rw [HL.out]; exact hlt)
    generalize l.getD j 0 = x at k1 k2
    clear h1 h2 hne HA
    go_wp2_with (fail)
    go_quiet (fail)
    go_wp2
    go_roundg (L - (j + 1))
    case measure => omega
    case rel => exact ⟨j + 1, _, rfl, by omega, rfl, rfl⟩
  · obtain rfl : L = j := by omega
    go_wp2
    go_ret
    exact ⟨rfl, n, rfl⟩
def AnsAt (w : World) (v : Value) (l : List Int) : Prop := ∃ p C, v = .slice p l.length C ∧ (l ≠ [] → ∃ b o, p = some ⟨b, o, none⟩ ∧ ∀ i, i < l.length → w.cell? ⟨b, o + i * 3, none⟩ = some (.bool true) ∧ w.cell? ⟨b, o + i * 3 + 1, none⟩ = some (.int .i64 (l.getD i 0)) ∧ w.cell? ⟨b, o + i * 3 + 2, none⟩ = some (.slice none 0 0))
theorem AnsAt.drew {w : World} {v : Value} {l : List Int} (h : AnsAt w v l) (n : Nat) : AnsAt (w.drewN n) v l := h
theorem AnsAt.beyond {w w' : World} {v : Value} {l : List Int} (h : AnsAt w v l) (hb : Beyond w w') : AnsAt w' v l := by
 obtain ⟨p, C, e, h⟩ := h
 refine ⟨p, C, e, fun hl => ?_⟩
 obtain ⟨b, o, e2, h2⟩ := h hl
 exact ⟨b, o, e2, fun i hi => ⟨hb.cell (h2 i hi).1, hb.cell (h2 i hi).2.1, hb.cell (h2 i hi).2.2⟩⟩
theorem nil_same (w : World) : Calls Try.prog 13 #[.slice none 0 0, .slice none 0 0] w fun e w' => e = .returned (.bool true) ∧ ∃ n, w' = w.drewN n :=
 numbers_same (l := []) (by decide) ⟨none, 0, rfl, fun h => absurd rfl h⟩ ⟨none, 0, rfl, fun h => absurd rfl h⟩
theorem answers_same {w : World} {va vb : Value} {l : List Int} (hl : l.length ≤ 1099511627776) (ha : AnsAt w va l) (hb : AnsAt w vb l) :
 Calls Try.prog 26 #[va, vb] w fun e w' => e = .returned (.bool true) ∧ ∃ n, w' = w.drewN n := by
 obtain ⟨pa, ca, rfl, ha⟩ := ha
 obtain ⟨pb, cb, rfl, hb⟩ := hb
 have HA := Lib.hid (And.intro ha hb)
 clear ha hb
 obtain ⟨L, hL⟩ : ∃ L, l.length = L := ⟨_, rfl⟩
 rw [hL] at hl ⊢
 have HL := Lib.hid hL
 clear hL
 go_enter Try.func26, Try.ntmps26
 go_wp2
 go_loopg [5] L (fun k i wr => ∃ (j n : Nat), k = L - j ∧ j ≤ L ∧ i = .int .i64 j ∧ wr = w.drewN n)
 case atStart => exact ⟨0, 0, rfl, Nat.zero_le _, rfl, rfl⟩
 case round =>
  obtain ⟨j, n, hk, hj, rfl, hwr⟩ := hrel
  have HW := Lib.hid hwr
  have hcell : ∀ a, wr.cell? a = w.cell? a := fun a => by rw [hwr]; rfl
  clear hwr
  by_cases hlt : j < L
  · have hlt' : (j : Int) < (L : Int) := by omega
    have hj0 : (0 : Int) ≤ j := by omega
    have hne : l ≠ [] := fun e => by have := HL.out; rw [e] at this; simp at this; omega
    obtain ⟨b1, o1, rfl, h1⟩ := HA.out.1 hne
    obtain ⟨b2, o2, rfl, h2⟩ := HA.out.2 hne
    obtain ⟨k1, k2, k3⟩ := h1 j (by rw [HL.out]; exact hlt)
    obtain ⟨m1, m2, m3⟩ := h2 j (by rw [HL.out]; exact hlt)
    rw [← hcell] at k1 k2 k3 m1 m2 m3
    generalize l.getD j 0 = x at k2 m2
    clear hcell
    clear h1 h2 hne HA
    go_wp2_with (fail)
    go_quiet (first | (go_at_call 13; exact Calls.quiet_of (nil_same _)))
    go_wp2
    go_roundg (L - (j + 1))
    case measure => omega
    case rel => exact ⟨j + 1, n + nq, rfl, by omega, rfl, by rw [HW.out, World.drewN_drewN]⟩
  · obtain rfl : L = j := by omega
    go_wp2
    go_ret
    exact ⟨rfl, n, HW.out⟩
def TraceAt (w : World) (v : Value) (N : Nat) (tolds : Nat → List Int) (ord st : List Int) (stuck : Bool) : Prop := ∃ p C ov sv, v = .agg #[.slice p N C, ov, sv, .bool stuck] ∧ IntsAt w ov ord ∧ IntsAt w sv st ∧
 (0 < N → ∃ b o, p = some ⟨b, o, none⟩ ∧ ∀ i, i < N → ∃ vi, w.cell? ⟨b, o + i, none⟩ = some vi ∧ AnsAt w vi (tolds i))
theorem TraceAt.beyond {w w' : World} {v : Value} {N : Nat} {tolds : Nat → List Int} {ord st : List Int} {stuck : Bool} (h : TraceAt w v N tolds ord st stuck) (hb : Beyond w w') : TraceAt w' v N tolds ord st stuck := by
 obtain ⟨p, C, ov, sv, e, h1, h2, h3⟩ := h
 refine ⟨p, C, ov, sv, e, h1.beyond hb, h2.beyond hb, fun h0 => ?_⟩
 obtain ⟨b, o, e2, h4⟩ := h3 h0
 refine ⟨b, o, e2, fun i hi => ?_⟩
 obtain ⟨vi, h5, h6⟩ := h4 i hi
 exact ⟨vi, hb.cell h5, h6.beyond hb⟩
theorem Beyond.drew (w : World) (n : Nat) : Beyond w (w.drewN n) := ⟨Nat.le_refl _, fun _ _ => rfl⟩
theorem trace_same {w : World} {va vb : Value} {N : Nat} {tolds : Nat → List Int} {ord st : List Int} {stuck : Bool} (hN : N ≤ 1099511627776) (ho : ord.length ≤ 1099511627776) (hs : st.length ≤ 1099511627776) (ht : ∀ i, i < N → (tolds i).length ≤ 1099511627776)
 (ha : TraceAt w va N tolds ord st stuck) (hb : TraceAt w vb N tolds ord st stuck) :
 Calls Try.prog 11 #[va, vb] w fun e w' => e = .returned (.bool true) ∧ Beyond w w' := by
 obtain ⟨pa, ca, oa, sa, rfl, ha⟩ := ha
 obtain ⟨pb, cb, ob, sb, rfl, hb⟩ := hb
 have HA := Lib.hid (And.intro ha (And.intro hb (And.intro ho (And.intro hs ht))))
 clear ha hb ho hs ht
 obtain ⟨poa, coa, hoa, hoa2⟩ := HA.out.1.1
 obtain ⟨pob, cob, hob, hob2⟩ := HA.out.2.1.1
 obtain ⟨psa, csa, hsa, hsa2⟩ := HA.out.1.2.1
 obtain ⟨psb, csb, hsb, hsb2⟩ := HA.out.2.1.2.1
 subst hoa hob hsa hsb
 clear hoa2 hob2 hsa2 hsb2
 obtain ⟨lo, hlo⟩ : ∃ x, ord.length = x := ⟨_, rfl⟩
 obtain ⟨ls, hls⟩ : ∃ x, st.length = x := ⟨_, rfl⟩
 rw [hlo, hls] at HA ⊢
 have Ho := Lib.hid hlo
 have Hs := Lib.hid hls
 clear hlo hls
 have hcc : ∀ w' : World, ∃ W1, ((w'.alloc (.cells #[.slice pa N ca, .slice poa lo coa, .slice psa ls csa, .bool stuck] 28)).alloc (.cells #[.slice pb N cb, .slice pob lo cob, .slice psb ls csb, .bool stuck] 28)) = W1 ∧ Beyond w' W1 ∧ W1.heap[w'.heap.size]? = some (.cells #[.slice pa N ca, .slice poa lo coa, .slice psa ls csa, .bool stuck] 28) ∧ W1.heap[w'.heap.size + 1]? = some (.cells #[.slice pb N cb, .slice pob lo cob, .slice psb ls csb, .bool stuck] 28) := fun w' => by
  refine ⟨_, rfl, (Beyond.alloc _ _).trans (Beyond.alloc _ _), al_old (al_new _ _), ?_⟩
  rw [zqa, if_pos (by rw [zq6])]
 obtain ⟨W1, hW1, hbe, hA1, hB1⟩ := hcc w
 clear hcc
 have HB := Lib.hid hbe
 have a0 := (zq0 (off := 0) hA1).trans rfl
 have a1 := (zq0 (off := 1) hA1).trans rfl
 have a2 := (zq0 (off := 2) hA1).trans rfl
 have a3 := (zq0 (off := 3) hA1).trans rfl
 have b0 := (zq0 (off := 0) hB1).trans rfl
 have b1 := (zq0 (off := 1) hB1).trans rfl
 have b2 := (zq0 (off := 2) hB1).trans rfl
 have b3 := (zq0 (off := 3) hB1).trans rfl
 clear hA1 hB1 hbe
 go_enter Try.func11, Try.ntmps11
 go_wp2_with (fail)
 refine Calls.mono (by have := ints_same (w := W1) (by rw [Ho.out]; exact HA.out.2.2.1) (HA.out.1.1.beyond HB.out) (HA.out.2.1.1.beyond HB.out); exact this) ?_
 rintro e w' ⟨rfl, n1, rfl⟩
 go_wp2_with (fail)
 refine Calls.mono (by have := numbers_same (w := W1.drewN n1) (by rw [Hs.out]; exact HA.out.2.2.2.1) (HA.out.1.2.1.beyond HB.out) (HA.out.2.1.2.1.beyond HB.out); exact this) ?_
 rintro e w' ⟨rfl, n2, rfl⟩
 go_wp2_with (fail)
 clear hW1
 go_loopg [5] N (fun k i wr => ∃ (j n : Nat), k = N - j ∧ j ≤ N ∧ i = .int .i64 j ∧ wr = W1.drewN n)
 case atStart => exact ⟨0, n1 + n2, rfl, Nat.zero_le _, rfl, by first | rfl | (rw [World.drewN_drewN])⟩
 case round =>
  obtain ⟨j, n, hk, hj, rfl, hwr⟩ := hrel
  have HW := Lib.hid hwr
  have hcell : ∀ a, wr.cell? a = W1.cell? a := fun a => by rw [hwr]; rfl
  have hsz : Beyond w wr := by rw [hwr]; exact HB.out.trans (Beyond.drew _ _)
  clear hwr
  rw [← hcell] at a0 a1 a2 a3 b0 b1 b2 b3
  clear hcell
  by_cases hlt : j < N
  · have hlt' : (j : Int) < (N : Int) := by omega
    have hj0 : (0 : Int) ≤ j := by omega
    obtain ⟨q1, o1, rfl, h1⟩ := HA.out.1.2.2 (by omega)
    obtain ⟨q2, o2, rfl, h2⟩ := HA.out.2.1.2.2 (by omega)
    obtain ⟨v1, k1, A1⟩ := h1 j hlt
    obtain ⟨v2, k2, A2⟩ := h2 j hlt
    have l1 := HA.out.2.2.2.2 j hlt
    replace k1 := hsz.cell k1
    replace k2 := hsz.cell k2
    replace A1 := A1.beyond hsz
    replace A2 := A2.beyond hsz
    obtain ⟨r1, c1, rfl, _⟩ := id A1
    obtain ⟨r2, c2, rfl, _⟩ := id A2
    generalize tolds j = tj at A1 A2 l1 k1 k2
    obtain ⟨lj, hlj⟩ : ∃ x, tj.length = x := ⟨_, rfl⟩
    rw [hlj] at A1 A2 k1 k2
    have HD := Lib.hid (And.intro A1 (And.intro A2 l1))
    clear h1 h2 A1 A2 l1 hlj hsz
    go_wp2_with (fail)
    go_quiet (first | (go_at_call 26; exact Calls.quiet_of (answers_same HD.out.2.2 HD.out.1 HD.out.2.1)))
    go_wp2
    go_roundg (N - (j + 1))
    case measure => omega
    case rel => exact ⟨j + 1, n + nq, rfl, by omega, rfl, by rw [HW.out, World.drewN_drewN]⟩
  · obtain rfl : N = j := by omega
    go_wp2
    go_ret
    exact ⟨rfl, hsz⟩
end Go.Proofs
namespace Go.Car
open Go
def jmpR (len : Nat) (v : Int) : Int := if 0 ≤ v ∧ v < len then v else -1
def ownR (len : Nat) (c : Cd) (m : Mch) : Mch :=
 if c.d = 4 then (if m.regs (ix c.a) = m.regs (ix c.b) then { m.on with next := jmpR len c.v } else m.on) else
 if c.d = 5 then (if m.regs (ix c.a) < m.regs (ix c.b) then { m.on with next := jmpR len c.v } else m.on) else ownC c m
def goR (prog : List Cd) (W : Nat) : Nat → Mch → Mch × Bool
 | 0, m => match atC prog m with | none => (m, false) | some c => (m, isStep W c)
 | k + 1, m => match atC prog m with | none => (m, false) | some c => if isStep W c then (m, true) else goR prog W k (ownR prog.length c m)
theorem ownR_told (len : Nat) (c : Cd) (m : Mch) : (ownR len c m).told.length ≤ m.told.length + 1 := by
 unfold ownR
 repeat' split
 · exact Nat.le_succ _
 · exact Nat.le_succ _
 · exact Nat.le_succ _
 · exact Nat.le_succ _
 · exact ownC_told c m
theorem goR_told (prog : List Cd) (W : Nat) : ∀ (k : Nat) (m : Mch), (goR prog W k m).1.told.length ≤ m.told.length + k := by
 intro k
 induction k with
 | zero => intro m; unfold goR; split <;> exact Nat.le_refl _
 | succ k ih =>
  intro m
  unfold goR
  split
  · exact Nat.le_add_right _ _
  · rename_i c hc
    split
    · exact Nat.le_add_right _ _
    · have := ih (ownR prog.length c m); have := ownR_told prog.length c m; omega
structure MRel (len : Nat) (r m : Mch) : Prop where
 regs : r.regs = m.regs
 told : r.told = m.told
 next : r.next = m.next ∨ ((r.next < 0 ∨ (len : Int) ≤ r.next) ∧ (m.next < 0 ∨ (len : Int) ≤ m.next))
theorem MRel.at_eq {prog : List Cd} {r m : Mch} (h : MRel prog.length r m) : atC prog r = atC prog m := by
 unfold Go.Car.atC
 rcases h.next with e | ⟨e1, e2⟩
 · rw [e]
 · rw [if_neg (by omega), if_neg (by omega)]
theorem atC_in {prog : List Cd} {m : Mch} {c : Cd} (h : atC prog m = some c) : 0 ≤ m.next ∧ m.next < prog.length ∧ prog[m.next.toNat]? = some c := by
 unfold atC at h
 split at h
 · rename_i hh; exact ⟨hh.1, hh.2, h⟩
 · cases h
theorem MRel.same {prog : List Cd} {r m : Mch} (h : MRel prog.length r m) {c : Cd} (hc : Go.Car.atC prog r = some c) : r.next = m.next := by
 rcases h.next with e | ⟨e1, e2⟩
 · exact e
 · have := atC_in hc; omega
theorem MRel.own {prog : List Cd} {r m : Mch} (h : MRel prog.length r m) {c : Cd} (hc : Go.Car.atC prog r = some c) : MRel prog.length (ownR prog.length c r) (ownC c m) := by
 have hn := h.same hc
 obtain ⟨regs, told, next, most⟩ := r
 obtain ⟨regs', told', next', most'⟩ := m
 obtain ⟨h1, h2, _⟩ := h
 simp only at h1 h2 hn
 subst h1 h2 hn
 have hj : ∀ (x y : Mch), x.regs = y.regs → x.told = y.told → MRel prog.length { x with next := jmpR prog.length c.v } { y with next := c.v } := fun x y e1 e2 => ⟨e1, e2, by
  unfold jmpR
  by_cases h : 0 ≤ c.v ∧ c.v < prog.length
  · rw [if_pos h]; exact .inl rfl
  · rw [if_neg h]; right; constructor
    · left; show (-1 : Int) < 0; omega
    · show c.v < 0 ∨ (prog.length : Int) ≤ c.v; omega⟩
 have keep : ∀ (d : Int), d = c.d → d ≠ 4 → d ≠ 5 → ownR prog.length c ⟨regs, told, next, most⟩ = ownC c ⟨regs, told, next, most⟩ := fun d e n4 n5 => by
  subst e; unfold ownR; rw [if_neg n4, if_neg n5]
 by_cases h4 : c.d = 4
 · have eR : ownR prog.length c ⟨regs, told, next, most⟩ = if regs (ix c.a) = regs (ix c.b) then { (Mch.on ⟨regs, told, next, most⟩) with next := jmpR prog.length c.v } else Mch.on ⟨regs, told, next, most⟩ := by
    unfold ownR; rw [if_pos h4]
   have eC : ownC c ⟨regs, told, next, most'⟩ = if regs (ix c.a) = regs (ix c.b) then { (Mch.on ⟨regs, told, next, most'⟩) with next := c.v } else Mch.on ⟨regs, told, next, most'⟩ := by
    unfold ownC; rw [if_neg (show ¬ c.d = 1 by omega), if_neg (show ¬ c.d = 2 by omega), if_neg (show ¬ c.d = 3 by omega), if_pos h4]
   rw [eR, eC]
   by_cases he : regs (ix c.a) = regs (ix c.b)
   · rw [if_pos he, if_pos he]; exact hj _ _ rfl rfl
   · rw [if_neg he, if_neg he]; exact ⟨rfl, rfl, .inl rfl⟩
 by_cases h5 : c.d = 5
 · have eR : ownR prog.length c ⟨regs, told, next, most⟩ = if regs (ix c.a) < regs (ix c.b) then { (Mch.on ⟨regs, told, next, most⟩) with next := jmpR prog.length c.v } else Mch.on ⟨regs, told, next, most⟩ := by
    unfold ownR; rw [if_neg h4, if_pos h5]
   have eC : ownC c ⟨regs, told, next, most'⟩ = if regs (ix c.a) < regs (ix c.b) then { (Mch.on ⟨regs, told, next, most'⟩) with next := c.v } else Mch.on ⟨regs, told, next, most'⟩ := by
    unfold ownC; rw [if_neg (show ¬ c.d = 1 by omega), if_neg (show ¬ c.d = 2 by omega), if_neg (show ¬ c.d = 3 by omega), if_neg h4, if_pos h5]
   rw [eR, eC]
   by_cases he : regs (ix c.a) < regs (ix c.b)
   · rw [if_pos he, if_pos he]; exact hj _ _ rfl rfl
   · rw [if_neg he, if_neg he]; exact ⟨rfl, rfl, .inl rfl⟩
 rw [keep _ rfl h4 h5]
 unfold ownC
 by_cases h1 : c.d = 1
 · rw [if_pos h1, if_pos h1]; exact ⟨rfl, rfl, .inl rfl⟩
 rw [if_neg h1, if_neg h1]
 by_cases h2 : c.d = 2
 · rw [if_pos h2, if_pos h2]; exact ⟨rfl, rfl, .inl rfl⟩
 rw [if_neg h2, if_neg h2]
 by_cases h3 : c.d = 3
 · rw [if_pos h3, if_pos h3]; exact ⟨rfl, rfl, .inl rfl⟩
 rw [if_neg h3, if_neg h3, if_neg h4, if_neg h4, if_neg h5, if_neg h5]
 by_cases h6 : c.d = 6
 · rw [if_pos h6, if_pos h6]; exact ⟨rfl, rfl, .inl rfl⟩
 · rw [if_neg h6, if_neg h6]; exact ⟨rfl, rfl, .inl rfl⟩
theorem ownC_most (c : Cd) (m : Mch) : (ownC c m).most = m.most := by
 unfold ownC Mch.on Mch.set; repeat' split
 all_goals rfl
theorem MRel.go {prog : List Cd} {W : Nat} : ∀ (k : Nat) {r m : Mch}, MRel prog.length r m → m.most ≠ 0 → MRel prog.length (goR prog W k r).1 (goOn prog W k m).1 ∧ (goR prog W k r).2 = (goOn prog W k m).2 ∧ ((goOn prog W k m).1.most = m.most ∨ (goOn prog W k m).1.most = IntKind.i64.wrap (m.most - 1)) := by
 have stop : ∀ {r m : Mch}, MRel prog.length r m → m.most ≠ 0 → MRel prog.length r (stopC m).1 ∧ true = (stopC m).2 ∧ ((stopC m).1.most = m.most ∨ (stopC m).1.most = IntKind.i64.wrap (m.most - 1)) := fun h hm => by
  unfold stopC
  rw [if_neg hm]
  exact ⟨⟨h.regs, h.told, h.next⟩, rfl, .inr rfl⟩
 intro k
 induction k with
 | zero =>
  intro r m h hm
  unfold goR goOn
  rw [h.at_eq]
  cases atC prog m with
  | none => exact ⟨h, rfl, .inl rfl⟩
  | some c =>
   simp only
   by_cases hs : isStep W c = true
   · simp only [hs, if_true]; exact stop h hm
   · have hs' : isStep W c = false := by simpa using hs
     simp only [hs', Bool.false_eq_true, if_false]
     exact ⟨h, trivial, .inl trivial⟩
 | succ k ih =>
  intro r m h hm
  unfold goR goOn
  have e := h.at_eq
  cases hc : atC prog m with
  | none => rw [e, hc]; exact ⟨h, rfl, .inl rfl⟩
  | some c =>
   rw [e, hc]
   simp only
   by_cases hs : isStep W c = true
   · simp only [hs, if_true]; exact stop h hm
   · have hs' : isStep W c = false := by simpa using hs
     simp only [hs', Bool.false_eq_true, if_false]
     have := ih (h.own (e.trans hc)) (by rw [ownC_most]; exact hm)
     rw [ownC_most] at this
     exact this
theorem MRel.step {prog : List Cd} {r m : Mch} (h : MRel prog.length r m) {c : Cd} (hc : Go.Car.atC prog r = some c) (ws : List Int) : (stepC c ws r).1 = (stepC c ws m).1 ∧ MRel prog.length (stepC c ws r).2 (stepC c ws m).2 ∧ (stepC c ws m).2.most = m.most := by
 have hn := h.same hc
 obtain ⟨regs, told, next, most⟩ := r
 obtain ⟨regs', told', next', most'⟩ := m
 obtain ⟨h1, h2, _⟩ := h
 simp only at h1 h2 hn
 subst h1 h2 hn
 unfold stepC
 repeat' split
 all_goals exact ⟨rfl, ⟨rfl, rfl, .inl rfl⟩, rfl⟩
def skipN (N : Nat) (en : Nat → Bool) (y : Int) : Prop := y < 0 ∨ (N : Int) ≤ y ∨ en y.toNat = true
inductive PickR (l : List Int) (N : Nat) (en : Nat → Bool) : Nat → Nat → Nat → Nat → Nat → Prop
 | list {a r k x : Nat} (hk : a ≤ k) (hx : l[k]? = some (x : Int)) (hN : x < N) (he : en x = false) (hs : ∀ j y, a ≤ j → j < k → l[j]? = some y → skipN N en y) : PickR l N en a r x (k + 1) r
 | round {a r x v a' : Nat} (hs : ∀ j y, a ≤ j → l[j]? = some y → skipN N en y) (hr : r ≤ v) (hx : x = v % N) (hN : 0 < N) (he : en x = false) (hv : ∀ j, r ≤ j → j < v → en (j % N) = true) (ha : l.length ≤ a') : PickR l N en a r x a' (x + 1)
theorem PickR.lt {l : List Int} {N a r x a' r' : Nat} {en : Nat → Bool} (h : PickR l N en a r x a' r') : x < N ∧ en x = false := by
 cases h with
 | list hk hx hN he hs => exact ⟨hN, he⟩
 | round hs hr hx hN he hv ha => exact ⟨by rw [hx]; exact Nat.mod_lt _ hN, he⟩
section
variable {prog : Nat → List Cd} {N most : Nat}
theorem step1P_skip {y : Int} {s : PSt} (h : skipN N s.ov y) : step1P prog N most y s = s := by
 unfold step1P
 rw [if_pos]
 rcases h with h | h | h
 · exact .inl h
 · exact .inr (.inl h)
 · exact .inr (.inr (.inl h))
theorem stepsP_skip {s : PSt} : ∀ (L : List Int), (∀ y ∈ L, skipN N s.ov y) → stepsP prog N most L s = s
 | [], _ => rfl
 | y :: L, h => by
  unfold stepsP
  rw [List.foldl_cons, step1P_skip (h y (by simp))]
  exact stepsP_skip L fun z hz => h z (by simp [hz])
theorem stepsP_full {s : PSt} (h : s.ord.length = most) : ∀ (L : List Int), stepsP prog N most L s = s
 | [] => rfl
 | y :: L => by
  have e : step1P prog N most y s = s := by unfold step1P; rw [if_pos (.inr (.inr (.inr h)))]
  unfold stepsP
  rw [List.foldl_cons, e]
  exact stepsP_full h L
theorem stepsP_app (L1 L2 : List Int) (s : PSt) : stepsP prog N most (L1 ++ L2) s = stepsP prog N most L2 (stepsP prog N most L1 s) := List.foldl_append
theorem leftN_zero {ov : Nat → Bool} (h : leftN ov N = 0) {i : Nat} (hi : i < N) : ov i = true := by
 cases e : ov i with
 | true => rfl
 | false => have := leftN_set hi e; omega
theorem leftN_some {ov : Nat → Bool} {i : Nat} (hi : i < N) (e : ov i = false) : 0 < leftN ov N := by have := leftN_set hi e; omega
theorem stepsP_done {s : PSt} (h : leftN s.ov N = 0) (L : List Int) : stepsP prog N most L s = s := by
 refine stepsP_skip L fun y _ => ?_
 by_cases h1 : y < 0
 · exact .inl h1
 by_cases h2 : (N : Int) ≤ y
 · exact .inr (.inl h2)
 · exact .inr (.inr (leftN_zero h (by omega)))
theorem roundsP_stop {f : Nat} {s : PSt} (h : ¬ (0 < leftN s.ov N ∧ s.ord.length < most)) : roundsP prog N most f s = s := by
 cases f with
 | zero => rfl
 | succ f => unfold roundsP; rw [if_neg h]
theorem step1P_go {x : Nat} {s : PSt} (hx : x < N) (he : s.ov x = false) (hm : s.ord.length ≠ most) : step1P prog N most x s = turnP x (goP prog x s.mem) s (s.ord ++ [x]) := by
 unfold step1P
 rw [if_neg]
 · rw [Int.toNat_natCast]
 · rintro (h | h | h | h)
   · omega
   · omega
   · rw [Int.toNat_natCast, he] at h; cases h
   · exact hm h
theorem steps_cut {L : List Int} {k : Nat} {x : Nat} {s : PSt} (hk : L[k]? = some (x : Int)) (hs : ∀ j y, j < k → L[j]? = some y → skipN N s.ov y) (hx : x < N) (he : s.ov x = false) (hm : s.ord.length ≠ most) :
 stepsP prog N most L s = stepsP prog N most (L.drop (k + 1)) (turnP x (goP prog x s.mem) s (s.ord ++ [x])) := by
 obtain ⟨hlt, hg⟩ := List.getElem?_eq_some_iff.1 hk
 have e : L = L.take k ++ (x : Int) :: L.drop (k + 1) := by
  rw [← hg, List.getElem_cons_drop, List.take_append_drop]
 have e2 : stepsP prog N most L s = stepsP prog N most (L.take k ++ (x : Int) :: L.drop (k + 1)) s := by rw [← e]
 rw [e2, stepsP_app, stepsP_skip (L.take k) fun y hy => ?_]
 · show List.foldl _ _ _ = _
   rw [List.foldl_cons, step1P_go hx he hm]
   rfl
 · obtain ⟨j, hj⟩ := List.mem_iff_getElem?.1 hy
   rw [List.getElem?_take] at hj
   split at hj
   · rename_i hh; exact hs j y hh hj
   · cases hj
def playInv (prog : Nat → List Cd) (l : List Int) (N most : Nat) (P : PSt) (a r : Nat) (s : PSt) : Prop :=
 r ≤ N ∧ ∃ f q, most < f + s.ord.length ∧ (q = r ∨ (r = 0 ∧ q = N)) ∧ roundsP prog N most f (stepsP prog N most ((upto N).drop q) (stepsP prog N most (l.drop a) s)) = P
theorem playInv_start (l : List Int) (μ : Mem) : playInv prog l N most (playP prog N most l μ) 0 0 (beginP prog μ N) := by
 refine ⟨Nat.zero_le _, most + 1, N, by omega, .inr ⟨rfl, rfl⟩, ?_⟩
 have : (upto N).drop N = [] := List.drop_eq_nil_of_le (by rw [upto_len]; exact Nat.le_refl _)
 rw [this]
 rfl
theorem playInv_stop {l : List Int} {P s : PSt} {a r : Nat} (h : playInv prog l N most P a r s) (hs : leftN s.ov N = 0 ∨ s.ord.length = most) : P = s := by
 obtain ⟨_, f, q, _, _, h⟩ := h
 rcases hs with hs | hs
 · rw [stepsP_done hs, stepsP_done hs, roundsP_stop (by omega)] at h; exact h.symm
 · rw [stepsP_full hs, stepsP_full hs, roundsP_stop (by omega)] at h; exact h.symm
theorem upto_drop {q j : Nat} (h : q + j < N) : ((upto N).drop q)[j]? = some ((q + j : Nat) : Int) := by rw [List.getElem?_drop, upto_get h]
theorem upto_drop_lt {q j : Nat} {y : Int} (h : ((upto N).drop q)[j]? = some y) : y = ((q + j : Nat) : Int) ∧ q + j < N := by
 have h2 := h
 rw [List.getElem?_drop] at h2
 have hlt : q + j < N := by have := (List.getElem?_eq_some_iff.1 h2).1; rw [upto_len] at this; exact this
 rw [upto_get hlt] at h2
 exact ⟨(Option.some.inj h2).symm, hlt⟩
theorem playInv_step {l : List Int} {P s : PSt} {a r x a' r' : Nat} (h : playInv prog l N most P a r s) (hm : s.ord.length < most) (hp : PickR l N s.ov a r x a' r') : playInv prog l N most P a' r' (turnP x (goP prog x s.mem) s (s.ord ++ [x])) := by
 obtain ⟨hrN, f, q, hf, hq, h⟩ := h
 have hl1 : (turnP x (goP prog x s.mem) s (s.ord ++ [x])).ord.length = s.ord.length + 1 := by simp [turnP]
 cases hp with
 | list hk hx hN he hs =>
  rename_i k
  refine ⟨hrN, f, q, by omega, hq, ?_⟩
  rw [steps_cut (k := k - a) (x := x) (by rw [List.getElem?_drop, show a + (k - a) = k from by omega]; exact hx) (fun j y hj hy => hs (a + j) y (by omega) (by omega) (by rw [List.getElem?_drop] at hy; exact hy)) hN he (by omega), List.drop_drop, show a + (k - a + 1) = k + 1 from by omega] at h
  exact h
 | round hs hr hx hN he hv ha =>
  rename_i v
  have hxN : x < N := by rw [hx]; exact Nat.mod_lt _ hN
  have e1 : stepsP prog N most (l.drop a) s = s := stepsP_skip _ fun y hy => by
   obtain ⟨j, hj⟩ := List.mem_iff_getElem?.1 hy
   rw [List.getElem?_drop] at hj
   exact hs (a + j) y (by omega) hj
  have e2 : l.drop a' = [] := List.drop_eq_nil_of_le ha
  rw [e1] at h
  by_cases hc : q ≤ v ∧ v < N
  · have hxv : x = v := by rw [hx, Nat.mod_eq_of_lt hc.2]
    subst hxv
    refine ⟨by omega, f, x + 1, by omega, .inl rfl, ?_⟩
    rw [e2]
    rw [steps_cut (k := x - q) (x := x) (by rw [upto_drop (by omega), show q + (x - q) = x from by omega]) (fun j y hj hy => ?_) hxN he (by omega), List.drop_drop, show q + (x - q + 1) = x + 1 from by omega] at h
    · exact h
    · obtain ⟨rfl, hlt⟩ := upto_drop_lt hy
      have := hv (q + j) (by omega) (by omega)
      rw [Nat.mod_eq_of_lt hlt] at this
      exact .inr (.inr (by rw [Int.toNat_natCast]; exact this))
  · have e3 : stepsP prog N most ((upto N).drop q) s = s := stepsP_skip _ fun y hy => by
     obtain ⟨j, hj⟩ := List.mem_iff_getElem?.1 hy
     obtain ⟨rfl, hlt⟩ := upto_drop_lt hj
     have := hv (q + j) (by omega) (by omega)
     rw [Nat.mod_eq_of_lt hlt] at this
     exact .inr (.inr (by rw [Int.toNat_natCast]; exact this))
    rw [e3] at h
    cases f with
    | zero => omega
    | succ f =>
     unfold roundsP at h
     rw [if_pos ⟨leftN_some hxN he, hm⟩] at h
     refine ⟨by omega, f, x + 1, by omega, .inl rfl, ?_⟩
     rw [e2]
     rw [steps_cut (L := upto N) (k := x) (x := x) (upto_get hxN) (fun j y hj hy => ?_) hxN he (by omega)] at h
     · exact h
     · have hjN : j < N := by omega
       rw [upto_get hjN] at hy
       cases hy
       have key : ∃ u, r ≤ u ∧ u < v ∧ u % N = j := by
        by_cases hvN : v < N
        · have : x = v := by rw [hx, Nat.mod_eq_of_lt hvN]
          refine ⟨j, by omega, by omega, Nat.mod_eq_of_lt hjN⟩
        · have hdiv : v = N * (v / N) + x := by rw [hx]; exact (Nat.div_add_mod v N).symm
          have h1 : 1 ≤ v / N := (Nat.le_div_iff_mul_le hN).2 (by omega)
          have h2 : N * 1 ≤ N * (v / N) := Nat.mul_le_mul_left N h1
          refine ⟨N * (v / N) + j, by omega, by omega, ?_⟩
          rw [Nat.mul_add_mod, Nat.mod_eq_of_lt hjN]
       obtain ⟨u, h1, h2, h3⟩ := key
       have := hv u h1 h2
       rw [h3] at this
       exact .inr (.inr (by rw [Int.toNat_natCast]; exact this))
end
end Go.Car
namespace Go.Car
open Go
theorem goR_at (prog : List Cd) (W : Nat) : ∀ (k : Nat) (m : Mch), (goR prog W k m).2 = true → ∃ c, atC prog (goR prog W k m).1 = some c ∧ isStep W c = true := by
 intro k
 induction k with
 | zero =>
  intro m h
  unfold goR at h ⊢
  cases hc : atC prog m with
  | none => rw [hc] at h; cases h
  | some c => rw [hc] at h; exact ⟨c, hc, h⟩
 | succ k ih =>
  intro m h
  unfold goR at h ⊢
  cases hc : atC prog m with
  | none => rw [hc] at h; cases h
  | some c =>
   rw [hc] at h
   simp only at h ⊢
   by_cases hs : isStep W c = true
   · simp only [hs, if_true]; exact ⟨c, hc, hs⟩
   · have hs' : isStep W c = false := by simpa using hs
     simp only [hs', Bool.false_eq_true, if_false] at h ⊢
     exact ih _ h
def mchZ : Mch := ⟨fun _ => 0, [], 0, -1⟩
def updF {α : Type} (f : Nat → α) (i : Nat) (x : α) : Nat → α := fun j => if j = i then x else f j
theorem updF_same {α : Type} (f : Nat → α) (i : Nat) (x : α) : updF f i x i = x := if_pos rfl
theorem updF_ne {α : Type} (f : Nat → α) {i j : Nat} (x : α) (h : j ≠ i) : updF f i x j = f j := if_neg h
structure RefS (prog : Nat → List Cd) (ws : List Int) (th : Nat → Mch) (en : Nat → Bool) (n : Nat) (s : PSt) : Prop where
 hws : ws = s.mem.ws
 hth : ∀ i, i < n → MRel (prog i).length (th i) (s.mem.th i)
 hen : ∀ i, i < n → en i = s.ov i
 hat : ∀ i, i < n → en i = false → ∃ c, atC (prog i) (th i) = some c ∧ isStep ws.length c = true
 hmost : ∀ i, ∃ k : Nat, k ≤ 1 + s.ord.length ∧ (s.mem.th i).most = -1 - (k : Int)
 htold : ∀ i, i < n → (th i).told.length ≤ 4096 * (1 + s.ord.length)
theorem begin_ord (prog : Nat → List Cd) (μ : Mem) : ∀ n, (beginP prog μ n).ord = []
 | 0 => rfl
 | n + 1 => begin_ord prog μ n
theorem begin_th (prog : Nat → List Cd) (μ : Mem) : ∀ n j, n ≤ j → (beginP prog μ n).mem.th j = μ.th j ∧ (beginP prog μ n).ov j = false
 | 0, j, _ => ⟨rfl, rfl⟩
 | n + 1, j, h => by
  obtain ⟨h1, h2⟩ := begin_th prog μ n j (by omega)
  unfold beginP turnP startP
  constructor
  · show (Mem.upd _ _ _).th j = _
    unfold Mem.upd
    simp only
    rw [if_neg (by omega)]
    exact h1
  · show (ite _ _ _ : Nat → Bool) j = _
    split
    · exact h2
    · simp only; rw [if_neg (by omega)]; exact h2
theorem begin_ws (prog : Nat → List Cd) (μ : Mem) : ∀ n, (beginP prog μ n).mem.ws = μ.ws
 | 0 => rfl
 | n + 1 => begin_ws prog μ n
theorem RefS.zero (prog : Nat → List Cd) (ws : List Int) (th : Nat → Mch) (en : Nat → Bool) : RefS prog ws th en 0 (beginP prog ⟨ws, fun _ => mchZ⟩ 0) :=
 ⟨rfl, fun i hi => absurd hi (Nat.not_lt_zero _), fun i hi => absurd hi (Nat.not_lt_zero _), fun i hi => absurd hi (Nat.not_lt_zero _), fun i => ⟨0, Nat.zero_le _, rfl⟩, fun i hi => absurd hi (Nat.not_lt_zero _)⟩
theorem wrap_most {k : Nat} (h : k ≤ 4000000) : IntKind.i64.wrap (-1 - (k : Int) - 1) = -1 - ((k + 1 : Nat) : Int) := by
 rw [IntWalk.i64_in _ (by omega)]
 omega
theorem RefS.begin {prog : Nat → List Cd} {ws : List Int} {th : Nat → Mch} {en : Nat → Bool} {n : Nat} (h : RefS prog ws th en n (beginP prog ⟨ws, fun _ => mchZ⟩ n)) :
 RefS prog ws (updF th n (goR (prog n) ws.length 4096 mchZ).1) (updF en n (!(goR (prog n) ws.length 4096 mchZ).2)) (n + 1) (beginP prog ⟨ws, fun _ => mchZ⟩ (n + 1)) := by
 have hws := begin_ws prog ⟨ws, fun _ => mchZ⟩ n
 obtain ⟨hth, hov⟩ := begin_th prog ⟨ws, fun _ => mchZ⟩ n n (Nat.le_refl _)
 have hord := begin_ord prog ⟨ws, fun _ => mchZ⟩ n
 obtain ⟨g1, g2, g3⟩ := MRel.go (prog := prog n) (W := ws.length) 4096 (r := mchZ) (m := mchZ) ⟨rfl, rfl, .inl rfl⟩ (by decide)
 simp only at hws hth
 have e1 : ∀ i, (beginP prog ⟨ws, fun _ => mchZ⟩ (n + 1)).mem.th i = if i = n then (goOn (prog n) ws.length 4096 mchZ).1 else (beginP prog ⟨ws, fun _ => mchZ⟩ n).mem.th i := fun i => by
  show (Mem.upd _ _ _).th i = _
  unfold Mem.upd
  simp only
  rw [hws, hth]
 have e2 : ∀ i, (beginP prog ⟨ws, fun _ => mchZ⟩ (n + 1)).ov i = if i = n then !(goOn (prog n) ws.length 4096 mchZ).2 else (beginP prog ⟨ws, fun _ => mchZ⟩ n).ov i := fun i => by
  show (ite ((goOn (prog n) (beginP prog ⟨ws, fun _ => mchZ⟩ n).mem.ws.length 4096 ((beginP prog ⟨ws, fun _ => mchZ⟩ n).mem.th n)).2 = true) _ _ : Nat → Bool) i = _
  rw [hws, hth]
  by_cases e : i = n
  · subst e
    rw [if_pos rfl]
    cases hb : (goOn (prog i) ws.length 4096 mchZ).2 with
    | true => simp [hov]
    | false => simp
  · rw [if_neg e]
    cases hb : (goOn (prog n) ws.length 4096 mchZ).2 with
    | true => simp
    | false => simp [e]
 refine ⟨h.hws, fun i hi => ?_, fun i hi => ?_, fun i hi he => ?_, fun i => ?_, fun i hi => ?_⟩
 · rw [e1]
   by_cases e : i = n
   · subst e; rw [updF_same, if_pos rfl]; exact g1
   · rw [updF_ne _ _ e, if_neg e]; exact h.hth i (by omega)
 · rw [e2]
   by_cases e : i = n
   · subst e; rw [updF_same, if_pos rfl, g2]
   · rw [updF_ne _ _ e, if_neg e]; exact h.hen i (by omega)
 · by_cases e : i = n
   · subst e
     rw [updF_same] at he ⊢
     exact goR_at _ _ _ _ (by simpa using he)
   · rw [updF_ne _ _ e] at he ⊢
     exact h.hat i (by omega) he
 · rw [e1]
   by_cases e : i = n
   · rw [if_pos e]
     rcases g3 with g3 | g3
     · exact ⟨0, Nat.zero_le _, by rw [g3]; rfl⟩
     · exact ⟨1, Nat.le_add_right _ _, by rw [g3]; exact wrap_most (k := 0) (by omega)⟩
   · rw [if_neg e]
     obtain ⟨k, hk, hm⟩ := h.hmost i
     exact ⟨k, hk, hm⟩
 · have eo : (beginP prog ⟨ws, fun _ => mchZ⟩ (n + 1)).ord = [] := begin_ord _ _ _
   rw [eo]
   by_cases e : i = n
   · subst e
     rw [updF_same]
     have := goR_told (prog i) ws.length 4096 mchZ
     have e0 : mchZ.told.length = 0 := rfl
     simp only [List.length_nil]
     omega
   · rw [updF_ne _ _ e]
     have := h.htold i (by omega)
     rw [hord] at this
     exact this
theorem RefS.step {prog : Nat → List Cd} {ws : List Int} {th : Nat → Mch} {en : Nat → Bool} {N x : Nat} {s : PSt} (h : RefS prog ws th en N s) (hx : x < N) (hex : en x = false) {c : Cd} (hc : atC (prog x) (th x) = some c) (hl : s.ord.length ≤ 1048576) :
 RefS prog (stepC c ws (th x)).1 (updF th x (goR (prog x) ws.length 4096 (stepC c ws (th x)).2).1) (updF en x (!(goR (prog x) ws.length 4096 (stepC c ws (th x)).2).2)) N (turnP x (goP prog x s.mem) s (s.ord ++ [x])) := by
 have hr := h.hth x hx
 obtain ⟨s1, s2, s3⟩ := hr.step hc ws
 obtain ⟨k, hk, hm⟩ := h.hmost x
 obtain ⟨g1, g2, g3⟩ := MRel.go (prog := prog x) (W := ws.length) 4096 s2 (by rw [s3, hm]; omega)
 have hc2 : atC (prog x) (s.mem.th x) = some c := hr.at_eq.symm.trans hc
 have hws := h.hws
 have egp : goP prog x s.mem = (({ s.mem with ws := (stepC c ws (s.mem.th x)).1 } : Mem).upd x (goOn (prog x) ws.length 4096 (stepC c ws (s.mem.th x)).2).1, (goOn (prog x) ws.length 4096 (stepC c ws (s.mem.th x)).2).2) := by
  unfold goP
  rw [hc2, ← hws]
 have e1 : ∀ i, (turnP x (goP prog x s.mem) s (s.ord ++ [x])).mem.th i = if i = x then (goOn (prog x) ws.length 4096 (stepC c ws (s.mem.th x)).2).1 else s.mem.th i := fun i => by
  rw [egp]; rfl
 have e2 : ∀ i, (turnP x (goP prog x s.mem) s (s.ord ++ [x])).ov i = if i = x then (if (goOn (prog x) ws.length 4096 (stepC c ws (s.mem.th x)).2).2 then s.ov x else true) else s.ov i := fun i => by
  rw [egp]
  unfold turnP
  simp only
  by_cases e : i = x
  · subst e
    rw [if_pos rfl]
    split <;> simp
  · rw [if_neg e]
    split
    · rfl
    · simp [e]
 have hlen : (stepC c ws (th x)).1.length = ws.length := stepC_len c ws (th x)
 refine ⟨?_, fun i hi => ?_, fun i hi => ?_, fun i hi he => ?_, fun i => ?_, fun i hi => ?_⟩
 · rw [egp]; exact s1
 · rw [e1]
   by_cases e : i = x
   · subst e; rw [updF_same, if_pos rfl]; exact g1
   · rw [updF_ne _ _ e, if_neg e]; exact h.hth i hi
 · rw [e2]
   by_cases e : i = x
   · subst e
     rw [updF_same, if_pos rfl, g2, ← h.hen i hi, hex]
     cases (goOn (prog i) ws.length 4096 (stepC c ws (s.mem.th i)).2).2 <;> rfl
   · rw [updF_ne _ _ e, if_neg e]; exact h.hen i hi
 · rw [hlen]
   by_cases e : i = x
   · subst e
     rw [updF_same] at he ⊢
     exact goR_at _ _ _ _ (by simpa using he)
   · rw [updF_ne _ _ e] at he ⊢
     exact h.hat i hi he
 · have eo : (turnP x (goP prog x s.mem) s (s.ord ++ [x])).ord.length = s.ord.length + 1 := by simp [turnP]
   rw [e1, eo]
   by_cases e : i = x
   · rw [if_pos e]
     rcases g3 with g3 | g3
     · exact ⟨k, by omega, by rw [g3, s3, hm]⟩
     · exact ⟨k + 1, by omega, by rw [g3, s3, hm]; exact wrap_most (by omega)⟩
   · rw [if_neg e]
     obtain ⟨k, hk, hm⟩ := h.hmost i
     exact ⟨k, by omega, hm⟩
 · have eo : (turnP x (goP prog x s.mem) s (s.ord ++ [x])).ord.length = s.ord.length + 1 := by simp [turnP]
   rw [eo]
   by_cases e : i = x
   · subst e
     rw [updF_same]
     have h1 := goR_told (prog i) ws.length 4096 (stepC c ws (th i)).2
     have h2 := stepC_told c ws (th i)
     have h3 := h.htold i hi
     rw [h2] at h1
     omega
   · rw [updF_ne _ _ e]
     have := h.htold i hi
     omega
end Go.Car
set_option maxHeartbeats 4000000
set_option maxRecDepth 100000
namespace Go.Proofs
open Go Go.Conc Go.RowKit Go.Car
def CodesAt (w : World) (base : Nat) (q : Option Addr) (l : List Cd) : Prop := l ≠ [] → ∃ gb go, q = some ⟨gb, go, none⟩ ∧ gb < base ∧ ∀ (k : Nat) (c : Cd), l[k]? = some c → ∀ j, j < 5 → w.cell? ⟨gb, go + k * 5 + j, none⟩ = (cdL c)[j]?
theorem CodesAt.keep {w w' : World} {base : Nat} {q : Option Addr} {l : List Cd} (h : CodesAt w base q l) (hb : ∀ b, b < base → w'.heap[b]? = w.heap[b]?) : CodesAt w' base q l := fun hl => by
 obtain ⟨gb, go, e, hg, h⟩ := h hl
 refine ⟨gb, go, e, hg, fun k c hk j hj => ?_⟩
 rw [← h k c hk j hj]
 exact zqf (hb gb hg)
structure ThB (tb : Nat) (cp : Option Addr) (len C : Nat) (tv : Value) (m : Mch) (e : Bool) (w : World) : Prop where
 hm : w.heap[tb]? = some (.cells #[.slice cp len C, .int .i64 m.next, .int .i64 (m.regs 0), .int .i64 (m.regs 1), .int .i64 (m.regs 2), .int .i64 (m.regs 3), tv, .bool e] 81)
section
variable {tb : Nat} {cp : Option Addr} {len C : Nat} {tv : Value} {m : Mch} {e : Bool} {w : World}
theorem ThB.same (h : ThB tb cp len C tv m e w) {w' : World} (h1 : w'.heap[tb]? = w.heap[tb]?) : ThB tb cp len C tv m e w' := ⟨h1.trans h.hm⟩
theorem ThB.al (h : ThB tb cp len C tv m e w) (o : Obj) : ThB tb cp len C tv m e (w.alloc o) := ⟨al_old h.hm⟩
theorem ThB.c0 (h : ThB tb cp len C tv m e w) : w.cell? ⟨tb, 0, none⟩ = some (.slice cp len C) := (zq0 h.hm).trans rfl
theorem ThB.cn (h : ThB tb cp len C tv m e w) : w.cell? ⟨tb, 1, none⟩ = some (.int .i64 m.next) := (zq0 h.hm).trans rfl
theorem ThB.cr (h : ThB tb cp len C tv m e w) {i : Nat} (hi : i < 4) : w.cell? ⟨tb, 2 + i, none⟩ = some (.int .i64 (m.regs i)) := by
 obtain rfl | rfl | rfl | rfl : i = 0 ∨ i = 1 ∨ i = 2 ∨ i = 3 := by omega
 all_goals exact (zq0 h.hm).trans rfl
theorem ThB.ct (h : ThB tb cp len C tv m e w) : w.cell? ⟨tb, 6, none⟩ = some tv := (zq0 h.hm).trans rfl
theorem ThB.ce (h : ThB tb cp len C tv m e w) : w.cell? ⟨tb, 7, none⟩ = some (.bool e) := (zq0 h.hm).trans rfl
theorem ThB.fm (h : ThB tb cp len C tv m e w) (i : Nat) : w.frozen? ⟨tb, i, none⟩ = false := zqg h.hm
theorem ThB.setN (h : ThB tb cp len C tv m e w) (v : Int) : ThB tb cp len C tv { m with next := v } e (w.setCell ⟨tb, 1, none⟩ (.int .i64 v)) := ⟨(zqh _ _ _ _ h.hm).trans rfl⟩
theorem ThB.setR (h : ThB tb cp len C tv m e w) {i : Nat} (hi : i < 4) (v : Int) : ThB tb cp len C tv (m.set i v) e (w.setCell ⟨tb, 2 + i, none⟩ (.int .i64 v)) := by
 refine ⟨(zqh _ _ _ _ h.hm).trans ?_⟩
 obtain rfl | rfl | rfl | rfl : i = 0 ∨ i = 1 ∨ i = 2 ∨ i = 3 := by omega
 all_goals rfl
theorem ThB.setT (h : ThB tb cp len C tv m e w) (v : Value) : ThB tb cp len C v m e (w.setCell ⟨tb, 6, none⟩ v) := ⟨(zqh _ _ _ _ h.hm).trans rfl⟩
theorem ThB.setE (h : ThB tb cp len C tv m e w) (v : Bool) : ThB tb cp len C tv m v (w.setCell ⟨tb, 7, none⟩ (.bool v)) := ⟨(zqh _ _ _ _ h.hm).trans rfl⟩
end
structure Rest1 (tb : Nat) (w w' : World) : Prop where
 size : w.heap.size ≤ w'.heap.size
 old : ∀ b, b < w.heap.size → b ≠ tb → w'.heap[b]? = w.heap[b]?
theorem Rest1.refl (tb : Nat) (w : World) : Rest1 tb w w := ⟨Nat.le_refl _, fun _ _ _ => rfl⟩
theorem Rest1.al {tb : Nat} {w w' : World} (h : Rest1 tb w w') (o : Obj) : Rest1 tb w (w'.alloc o) := ⟨by rw [zq6]; exact Nat.le_succ_of_le h.size, fun b hb h1 => by rw [zqa, if_neg (by have := h.size; omega)]; exact h.old b hb h1⟩
theorem Rest1.setM {tb : Nat} {w w' : World} (h : Rest1 tb w w') (i : Nat) (v : Value) : Rest1 tb w (w'.setCell ⟨tb, i, none⟩ v) := ⟨by rw [zqi]; exact h.size, fun b hb h1 => (zq3 _ _ _ _ h1).trans (h.old b hb h1)⟩
theorem Rest1.drew {tb : Nat} {w w' : World} (h : Rest1 tb w w') (n : Nat) : Rest1 tb w (w'.drewN n) := ⟨h.size, h.old⟩
theorem reg_lone (n : Int) (w : World) : Calls Try.prog 45 #[.int .i64 n] w fun e w' => e = .returned (.int .i64 (ix n)) ∧ w' = w := by
 have h1 : -4 < n.tmod 4 := Int.lt_tmod_of_pos n (by omega)
 have h2 : n.tmod 4 < 4 := Int.tmod_lt_of_pos n (by omega)
 have e1 : IntKind.i64.wrap (n.tmod 4 + 4) = n.tmod 4 + 4 := IntWalk.i64_in _ (by omega)
 have e2 := ix_val n
 go_enter Try.func45, Try.ntmps45
 go_wp2
 go_ret
 exact ⟨rfl, rfl⟩
theorem stands_lone {tb : Nat} {cp : Option Addr} {pr : List Cd} {len C W : Nat} {tv : Value} {m : Mch} {e : Bool} {w : World} {c : Cd} (h : ThB tb cp len C tv m e w) (hl : pr.length = len) (hlen : len ≤ 1099511627776) {base : Nat} (hp : CodesAt w base cp pr) (hc : atC pr m = some c) :
 Calls Try.prog 43 #[.pointer (some ⟨tb, 0, none⟩), .int .i64 W] w fun e w' => e = .returned (.bool (isStep W c)) ∧ Beyond w w' := by
 obtain ⟨h0, hn, hg⟩ := atC_in hc
 obtain ⟨gb, go, rfl, _, hcc⟩ := hp (fun e => by rw [e] at hg; cases hg)
 obtain ⟨k, hk⟩ : ∃ k : Nat, m.next = k := ⟨m.next.toNat, by omega⟩
 rw [hk] at h0 hn
 rw [hk, Int.toNat_natCast] at hg
 have c0 := h.c0
 have c1 := h.cn
 rw [hk] at c1
 have e0 : w.cell? ⟨gb, go + k * 5, none⟩ = some (.int .i64 c.d) := hcc k c hg 0 (by omega)
 have e1 : w.cell? ⟨gb, go + k * 5 + 1, none⟩ = some (.int .i64 c.r) := hcc k c hg 1 (by omega)
 have e2 : w.cell? ⟨gb, go + k * 5 + 2, none⟩ = some (.int .i64 c.a) := hcc k c hg 2 (by omega)
 have e3 : w.cell? ⟨gb, go + k * 5 + 3, none⟩ = some (.int .i64 c.b) := hcc k c hg 3 (by omega)
 have e4 : w.cell? ⟨gb, go + k * 5 + 4, none⟩ = some (.int .i64 c.v) := hcc k c hg 4 (by omega)
 rw [hl] at hn
 obtain ⟨d, r, a, b, v⟩ := c
 clear hcc hg hc h hp hl hk
 go_enter Try.func43, Try.ntmps43
 go_wp2_with (fail)
 obtain ⟨H, hH⟩ : ∃ H, w.heap.size = H := ⟨_, rfl⟩
 refine wp_region_one (k := 11) (s := 10) (W0 := w.drewN 1) (W1 := (w.drewN 1).alloc (.cells #[.int .i64 0, .int .i64 0, .int .i64 0, .int .i64 0, .int .i64 0] 71)) (by kernel_rfl) (by kernel_rfl) (by kernel_rfl) (by kernel_rfl) (by decide)
  [.pointer (some ⟨tb, 0, none⟩), .pointer (some ⟨tb, 0, none⟩), .pointer (some ⟨tb, 0, none⟩), .slice (some ⟨gb, go, none⟩) len C, .pointer (some ⟨tb, 0, none⟩), .pointer (some ⟨tb, 0, none⟩), .pointer (some ⟨tb, 1, none⟩), .int .i64 k, .pointer (some ⟨gb, go + k * 5, none⟩), .agg #[.int .i64 d, .int .i64 r, .int .i64 a, .int .i64 b, .int .i64 v], .pointer (some ⟨H, 0, none⟩)] rfl rfl ?_ ?_ ?_
 · intro i o hi his ho W hWW
   have old : ∀ a v, w.cell? a = some v → W.cell? a = some v := fun ad v hv => by
    have hlt := cell_lt hv
    rcases hWW with rfl | rfl
    · exact hv
    · exact (zqf (by rw [zqa, if_neg (by show ad.block ≠ w.heap.size; omega)]; rfl)).trans hv
   replace c0 := old _ _ c0
   replace c1 := old _ _ c1
   replace e0 := old _ _ e0
   replace e1 := old _ _ e1
   replace e2 := old _ _ e2
   replace e3 := old _ _ e3
   replace e4 := old _ _ e4
   clear hWW old
   simp only [putv, dstOf, al_gl, al_g0, al_g1, al_ob, al_g2, List.set_cons_succ, List.set_cons_zero]
   obtain rfl | rfl | rfl | rfl | rfl | rfl | rfl | rfl | rfl | rfl : i = 0 ∨ i = 1 ∨ i = 2 ∨ i = 3 ∨ i = 4 ∨ i = 5 ∨ i = 6 ∨ i = 7 ∨ i = 8 ∨ i = 9 := by omega
   all_goals (simp only [al_gl, al_g0, al_g1, al_oi] at ho; subst ho; refine .inl ?_)
   all_goals (simp only [execOp, Act.eval, al_gd, al_gl, al_g0, al_g1, al_od])
   all_goals (try go_simp)
 · intro o ho
   simp only [putv, dstOf, al_gl, al_g0, al_g1, al_ob, al_g2, List.set_cons_succ, List.set_cons_zero]
   simp only [al_gl, al_g0, al_g1, al_oi] at ho; subst ho; refine .inl ?_
   simp only [execOp, Act.eval, al_gd, al_gl, al_g0, al_g1, al_od]
   go_simp
 simp only [putv, dstOf, al_gl, al_g0, al_g1, al_ob, al_g2, List.set_cons_succ, List.set_cons_zero]
 refine wpAny_one (i := 11) (by kernel_rfl) ?_
 simp only [wpOp, al_gl, al_g0, al_g1]
 rw [if_pos (by rfl)]
 refine .inl ?_
 go_simp
 have hbe : Beyond w ((w.drewN 1).alloc (.cells #[.int .i64 d, .int .i64 r, .int .i64 a, .int .i64 b, .int .i64 v] 71)) := (Beyond.drew w 1).trans (Beyond.alloc _ _)
 have hB : ((w.drewN 1).alloc (.cells #[.int .i64 d, .int .i64 r, .int .i64 a, .int .i64 b, .int .i64 v] 71)).heap[H]? = some (.cells #[.int .i64 d, .int .i64 r, .int .i64 a, .int .i64 b, .int .i64 v] 71) := by rw [← hH]; exact al_new (w.drewN 1) _
 generalize (w.drewN 1).alloc (.cells #[.int .i64 d, .int .i64 r, .int .i64 a, .int .i64 b, .int .i64 v] 71) = w1 at *
 have d0 : w1.cell? ⟨H, 0, none⟩ = some (.int .i64 d) := (zq0 hB).trans rfl
 have d2 : w1.cell? ⟨H, 2, none⟩ = some (.int .i64 a) := (zq0 hB).trans rfl
 have HB := Lib.hid hbe
 clear hB hbe e0 e1 e2 e3 e4 c0 c1 hH
 refine wpAny_end (by kernel_rfl) ?_
 by_cases h1 : 7 ≤ d
 · by_cases h2 : d ≤ 11
   · by_cases h3 : 0 ≤ a
     · by_cases h4 : a < (W : Int)
       · go_wp2
         go_ret
         exact ⟨by simp [isStep, h1, h2, h3, h4], HB.out⟩
       · go_wp2
         go_ret
         exact ⟨by simp [isStep, h1, h2, h3, h4], HB.out⟩
     · go_wp2
       go_ret
       exact ⟨by simp [isStep, h1, h2, h3]; try omega, HB.out⟩
   · go_wp2
     go_ret
     exact ⟨by simp [isStep, h1, h2]; try omega, HB.out⟩
 · go_wp2
   go_ret
   exact ⟨by simp [isStep, h1]; try omega, HB.out⟩
end Go.Proofs
