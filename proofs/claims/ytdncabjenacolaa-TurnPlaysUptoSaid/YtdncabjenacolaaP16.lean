/- YtdncabjenacolaaTLaw5: part 16 of the proof (the texts behind it, in order). -/
import Derived.Test.YtdncabjenacolaaP15
set_option linter.unusedSimpArgs false
set_option linter.unusedVariables false
set_option linter.unusedSectionVars false
set_option linter.unnecessarySimpa false
set_option maxHeartbeats 4000000
set_option maxRecDepth 100000
namespace Go.Proofs
open Go Go.Conc Go.RowKit Go.Car
theorem run_copy_onto {P : Program} {w : World} {base : Nat} {t ty e : TypeId} {i : TypeInfo} {z : Value} (ht : P.underlying t = some (.slice e)) (hi : P.info? e = some i) (hz : i.zero = some z) (hsize : i.size = 1) (hby : i.bytes = 8) (hzs : z.cells.size = 1)
 {b0 : Nat} (hb0 : w.ownsRow base e 1 (.slice (some ⟨b0, 0, none⟩) 0 0) 0 []) {sv : Value} {l : List Int} (hs : IntsAt w sv l) (hl : l.length ≤ 1099511627776) (hbase : base ≤ w.heap.size) :
 ∃ v w', (Builtin.append_ #[t, t] ty #[.slice (some ⟨b0, 0, none⟩) 0 0, sv]).run P w = .ok v w' ∧ w'.ownsRow base e 1 v l.length (l.map (Value.int .i64)) ∧ w.heap.size ≤ w'.heap.size ∧ ∀ b, b < w.heap.size → b ≠ b0 → w'.heap[b]? = w.heap[b]? := by
 obtain ⟨p, C, rfl, hc⟩ := hs
 by_cases hl0 : l = []
 · subst hl0
   cases p with
   | none =>
    refine ⟨.slice (some ⟨b0, 0, none⟩) 0 0, w, ?_, hb0, Nat.le_refl _, fun _ _ _ => rfl⟩
    simp [Builtin.append_, run_underlying ht, sizeOf, typeInfo, hi, Builtin.lenOf, Builtin.firstCells, loadCells, loadCellsFrom, storeCells]
   | some a =>
    obtain ⟨v, w', h1, h2, h3, h4, h5⟩ := run_append_own_at (P := P) w base t ty e i z 1 8 ht hi hz hsize hby hzs (by decide) (.slice (some ⟨b0, 0, none⟩) 0 0) 0 [] hb0 a 0 C [] rfl (fun j u h => by cases h) (fun u h => by cases h) (by decide) (by decide) hbase
    exact ⟨v, w', h1, h2, h3.size, fun b hb hne => h3.block b hb (by simp [Value.ownBlock, hne])⟩
 · obtain ⟨b, o, rfl, hcc⟩ := hc hl0
   obtain ⟨v, w', h1, h2, h3, h4, h5⟩ := run_append_own_at (P := P) w base t ty e i z 1 8 ht hi hz hsize hby hzs (by decide) (.slice (some ⟨b0, 0, none⟩) 0 0) 0 [] hb0 ⟨b, o, none⟩ l.length C (l.map (Value.int .i64)) (by simp) (fun j u h => by
    have hj : j < l.length := by have := (List.getElem?_eq_some_iff.1 h).1; simpa using this
    have := hcc j hj
    rw [List.getElem?_map] at h
    have e2 : l[j]? = some (l.getD j 0) := by simp [hj]
    rw [e2] at h
    cases h
    rw [show (⟨b, o, none⟩ : Addr).add j = ⟨b, o + j, none⟩ from by unfold Addr.add; split <;> simp [*]]; exact this) (fun u h => by obtain ⟨x, _, rfl⟩ := List.mem_map.1 h; rfl) (by simp only [maxLen]; omega) (by omega) hbase
   exact ⟨v, w', h1, by simpa using h2, h3.size, fun b hb hne => h3.block b hb (by simp [Value.ownBlock, hne])⟩
theorem row_made (w : World) (e : TypeId) : (w.alloc (.cells #[] e)).ownsRow w.heap.size e 1 (.slice (some ⟨w.heap.size, 0, none⟩) 0 0) 0 [] :=
 ⟨rfl, .inr ⟨w.heap.size, 0, #[], rfl, Nat.le_refl _, al_new _ _, by simp, by simp, by simp, by simp⟩⟩
theorem copy_made {P : Program} {w : World} {t ty e : TypeId} {i : TypeInfo} {z : Value} (ht : P.underlying t = some (.slice e)) (hi : P.info? e = some i) (hz : i.zero = some z) (hsize : i.size = 1) (hby : i.bytes = 8) (hzs : z.cells.size = 1)
 {sv : Value} {l : List Int} (hs : IntsAt w sv l) (hl : l.length ≤ 1099511627776) :
 ∃ v w', (Builtin.append_ #[t, t] ty #[.slice (some ⟨w.heap.size, 0, none⟩) 0 0, sv]).run P (w.alloc (.cells #[] e)) = .ok v w' ∧ w'.ownsRow w.heap.size e 1 v l.length (l.map (Value.int .i64)) ∧ Beyond w w' := by
 obtain ⟨v, w', h1, h2, h3, h4⟩ := run_copy_onto (ty := ty) ht hi hz hsize hby hzs (row_made w e) (hs.beyond (Beyond.alloc _ _)) hl (by rw [zq7]; omega)
 rw [zq7] at h3
 exact ⟨v, w', h1, h2, by omega, fun b hb => (h4 b (by rw [zq7]; omega) (by omega)).trans ((Beyond.alloc w _).2 b hb)⟩
theorem PlayRes.trace {w w' : World} {N W : Nat} {P : PSt} {ans v st : Value} {tv : Nat → Value} (h : PlayRes w N W P ans v st tv w') :
 TraceAt w' (.agg #[ans, v, st, .bool (decide (0 < leftN P.ov N))]) N (fun i => (P.mem.th i).told) (P.ord.map fun (i : Nat) => (i : Int)) P.mem.ws (decide (0 < leftN P.ov N)) := by
 obtain ⟨p, C, e, _, hc⟩ := row_form h.arow
 refine ⟨p, C, v, st, by rw [e], ?_, ints_of_row h.srow, fun h0 => ?_⟩
 · refine ints_of_row (B := w.heap.size) (n := P.ord.length) (T := 3) ?_
   rw [List.map_map]
   exact h.orow
 · obtain ⟨g, e2, _, hc⟩ := hc h0
   refine ⟨g, 0, e2, fun i hi => ⟨tv i, ?_, ans_of_row (h.told i hi) rfl⟩⟩
   rw [Nat.zero_add]; exact hc i _ (by simp [hi])
theorem IntsAt.re {w : World} {v : Value} {l : List Int} (h : IntsAt w v l) (τ : Nat → Question → Nat) (d : Nat) : IntsAt (re w τ d) v l := h
def TpI (w1 : World) (ws : List Int) (T : Value → Value → Array Value) (t : Array Value) (w' : World) : Prop := ∃ inv b0v, t = T inv b0v ∧ Beyond w1 w' ∧ w'.ownsRow w1.heap.size 2 1 inv ws.length (ws.map (Value.int .i64))
theorem RefProgs.beyond {w w' : World} {pp : Option Addr} {n : Nat} {prog : Nat → List Cd} (h : RefProgs w pp n prog) (hb : Beyond w w') : RefProgs w' pp n prog := fun h0 => by
 obtain ⟨pb, po, e, hc⟩ := h h0
 refine ⟨pb, po, e, fun i hi => ?_⟩
 obtain ⟨q, C, h1, h2⟩ := hc i hi
 refine ⟨q, C, hb.cell h1, fun hne => ?_⟩
 obtain ⟨gb, go, e2, hcc⟩ := h2 hne
 refine ⟨gb, go, e2, fun k c hk j hj => ?_⟩
 have h3 := hcc k c hk j hj
 have h4 : ∃ v, (cdL c)[j]? = some v := by
  obtain rfl | rfl | rfl | rfl | rfl : j = 0 ∨ j = 1 ∨ j = 2 ∨ j = 3 ∨ j = 4 := by omega
  all_goals exact ⟨_, rfl⟩
 obtain ⟨v, hv⟩ := h4
 rw [hv] at h3 ⊢
 exact hb.cell h3
noncomputable def tpT (n : Nat) : Code := tailN n (Try.f3.body.getD .skip)
theorem tp0 : Try.f3.body.getD .skip = .seq (headC (tpT 0)) (.seq (headC (tpT 1)) (.seq (headC (tpT 2)) (.seq (headC (tpT 3)) (tpT 4)))) := by kernel_rfl
theorem turnplays_run {Post : Value → World → Prop} (hPost : ∀ v w τ d, Post v w → Post v (re w τ d)) {W : World} {wp pp sp : Option Addr} {C Cp Cs n : Nat} {ws l : List Int} {prog : Nat → List Cd} {mo : Int}
 (hn : n ≤ 1099511627776) (hW : ws.length ≤ 1099511627776) (hl : l.length ≤ 1099511627776) (hlen : ∀ i, i < n → (prog i).length ≤ 1099511627776) (hw : IntsAt W (.slice wp ws.length C) ws) (hs : IntsAt W (.slice sp l.length Cs) l) (hp : RefProgs W pp n prog)
 (hend : ∀ w', Beyond W w' → Post (.bool true) w') : FinOf Try.prog Post (solo (G (Frame.enter Try.prog 3 #[.slice wp ws.length C, .slice pp n Cp, .slice sp l.length Cs, .int .i64 mo] .normal) []) W) #[] := by
 refine j0_run Try.func3 rfl ?_
 have hFin := back_fin (P := Try.prog) Post
 have hJ := j0_JS hFin
 have hC := j0_calm hFin
 have e : Frame.enter Try.prog 3 #[.slice wp ws.length C, .slice pp n Cp, .slice sp l.length Cs, .int .i64 mo] .normal = (bN 3).at (enterAct Try.f3 #[.slice wp ws.length C, .slice pp n Cp, .slice sp l.length Cs, .int .i64 mo]) [.code ((Try.f3.body).getD .skip)] := by kernel_rfl
 have ea : enterAct Try.f3 #[.slice wp ws.length C, .slice pp n Cp, .slice sp l.length Cs, .int .i64 mo] = ⟨#[.slice wp ws.length C, .slice pp n Cp, .slice sp l.length Cs, .int .i64 mo, undef, undef, undef, undef, undef, undef, undef, undef, undef, undef, undef, undef, undef, undef, undef, undef, undef, undef, undef, undef, undef, undef, undef, undef, undef, undef, undef, undef, undef, undef, undef, undef], []⟩ := by kernel_rfl
 rw [e, ea, tp0]
 clear e ea
 have HE := Lib.hid hend
 have HI := Lib.hid (And.intro hw (And.intro hs (And.intro hp hlen)))
 clear hend hw hs hp hlen
 refine hJ.ctl (s := 1) (fun w => stepG_seq) ?_
 refine at_lone hJ hC plainM (by kernel_rfl) (fun t w' => t = #[.slice wp ws.length C, .slice pp n Cp, .slice sp l.length Cs, .int .i64 mo, undef, undef, undef, undef, .bool false, undef, undef, undef, undef, undef, undef, undef, undef, undef, undef, undef, undef, undef, undef, undef, undef, undef, undef, undef, undef, undef, undef, undef, undef, undef, undef, undef] ∧ ∃ τ d, w' = re W τ d) (fun t w' τ d h => ⟨h.1, by obtain ⟨τ', d', rfl⟩ := h.2; exact ⟨τ, d, by rw [re_re]⟩⟩) (by decide) (fun τ d => ?_) ?_
 · obtain ⟨u0, hu0⟩ : ∃ c, headC (tpT 0) = c := ⟨_, rfl⟩
   have eu0 := hu0
   rw [hu0]
   simp only [tpT, headC, tailN, Try.f3, al_od] at eu0
   subst eu0
   clear hu0
   go_wp2
   exact ⟨rfl, rfl, τ, d, rfl⟩
 rintro t w' ⟨rfl, τ, d, rfl⟩
 refine hJ.re' 1 _ _ τ d ?_
 refine hJ.ctl (s := 1) (fun w => stepG_seq) ?_
 obtain ⟨u1, hu1⟩ : ∃ c, headC (tpT 1) = c := ⟨_, rfl⟩
 have eu1 := hu1
 rw [hu1]
 simp only [tpT, headC, tailN, Try.f3, al_od] at eu1
 subst eu1
 clear hu1
 refine hJ.ctl (s := 1) (fun w => stepG_seq) ?_
 refine hJ.ctl (s := 1) (fun w => stepG_region) ?_
 refine at_call (by decide) hJ (s := 1) rfl rfl (f := 8) (args := #[]) (fun τ d => ?_) (fun τ d => ?_) ?_
 · simp [go_sem, execOp, Act.eval, resolve, Deferred.ofValue, invoke, callFunc, Try.func8, Try.f8]
 · intro e he
   simp [go_sem, execOp, Act.eval, resolve, Deferred.ofValue, invoke, callFunc, Try.func8, Try.f8, Sem.runT_eq] at he
 refine awake_calls hFin (n := 1) (by omega) ?_
 intro w1 hB1
 rw [Frame.finish_at]
 walk_nrm
 refine at_piece (s := 1 + 6) (by decide) hJ (rows0_none _) false (.inr rfl) 1 1 0 rfl rfl rfl (by rfl) ?_
 intro τ d
 simp only [List.drop_succ_cons, List.drop_zero, List.take_succ_cons, List.take_zero]
 go_wp2
 simp only [contAt]
 refine hJ.re' (1 + 6) _ _ τ d ?_
 refine hJ.ctl (s := 1 + 6) (fun w => stepG_region_end) ?_
 refine at_lone hJ hC plainM (by kernel_rfl) (fun t w' => t = #[.slice wp ws.length C, .slice pp n Cp, .slice sp l.length Cs, .int .i64 mo, undef, undef, undef, undef, .bool false, undef, undef, .bool true, .bool false, undef, undef, undef, undef, undef, undef, undef, undef, undef, undef, undef, undef, undef, undef, undef, undef, undef, undef, undef, undef, undef, undef, undef] ∧ ∃ τ d, w' = re w1 τ d) (fun t w' τ d h => ⟨h.1, by obtain ⟨τ', d', rfl⟩ := h.2; exact ⟨τ, d, by rw [re_re]⟩⟩) (by decide) (fun τ d => ?_) ?_
 · go_wp2
   exact ⟨rfl, rfl, τ, d, rfl⟩
 rintro t w' ⟨rfl, τ, d, rfl⟩
 refine hJ.re' (1 + 6) _ _ τ d ?_
 refine hJ.ctl (s := 1 + 6) (fun w => stepG_seq) ?_
 refine at_lone hJ hC plainM (by kernel_rfl) (TpI w1 ws fun inv b0v => #[.slice wp ws.length C, .slice pp n Cp, .slice sp l.length Cs, .int .i64 mo, undef, undef, undef, undef, .bool false, inv, undef, .bool true, .bool false, b0v, .slice wp ws.length C, inv, undef, undef, undef, undef, undef, undef, undef, undef, undef, undef, undef, undef, undef, undef, undef, undef, undef, undef, undef, undef]) (fun t w' τ d h => ?_) (by decide) (fun τ d => ?_) ?_
 · obtain ⟨inv, b0v, h1, h2, h3⟩ := h
   exact ⟨inv, b0v, h1, ⟨h2.1, h2.2⟩, h3⟩
 · obtain ⟨u2, hu2⟩ : ∃ c, headC (tpT 2) = c := ⟨_, rfl⟩
   have eu2 := hu2
   rw [hu2]
   simp only [tpT, headC, tailN, Try.f3, al_od] at eu2
   subst eu2
   clear hu2
   obtain ⟨v, w2, hrun, hown, hbe⟩ := copy_made (P := Try.prog) (w := re w1 τ d) (t := 22) (ty := 22) (e := 2) (i := (Try.prog.info? 2).getD default) (z := .int .i64 0) (by kernel_rfl) (by kernel_rfl) (by kernel_rfl) (by kernel_rfl) (by kernel_rfl) (by rfl) ((HI.out.1.beyond hB1).re τ d) hW
   have HR := Lib.hid (And.intro hown hbe)
   clear hown hbe
   go_wp2_with (at_builtin; go_loud (refine wpList_append_run rfl (.tmp 13) (.tmp 14) 22 rfl hrun ?_))
   exact ⟨rfl, v, _, rfl, ⟨HR.out.2.1, HR.out.2.2⟩, HR.out.1⟩
 rintro t w2 ⟨inv, b0v, rfl, hB2, hin⟩
 refine hJ.ctl (s := 1 + 6) (fun w => stepG_seq) ?_
 obtain ⟨u3, hu3⟩ : ∃ c, headC (tpT 3) = c := ⟨_, rfl⟩
 have eu3 := hu3
 rw [hu3]
 simp only [tpT, headC, tailN, Try.f3, al_od] at eu3
 subst eu3
 clear hu3
 refine hJ.ctl (s := 1 + 6) (fun w => stepG_region) ?_
 have HB := Lib.hid (And.intro hB1 (And.intro hB2 hin))
 clear hB1 hB2 hin
 refine at_piece (s := 1 + 6) (by decide) hJ (rows0_none _) true (.inl rfl) 0 2 8 rfl rfl rfl (by rfl) ?_
 intro τ d
 simp only [List.drop_zero, List.take_succ_cons, List.take_zero]
 go_wp2
 simp only [contAt]
 refine hJ.re' (1 + 6) _ _ τ d ?_
 refine at_call (by decide) hJ (s := 1 + 6) rfl rfl (f := 10) (args := #[.slice pp n Cp]) (fun τ d => ?_) (fun τ d => ?_) ?_
 · simp [go_sem, execOp, Act.eval, resolve, Deferred.ofValue, invoke, callFunc, Try.func10, Try.f10]
 · intro e he
   simp [go_sem, execOp, Act.eval, resolve, Deferred.ofValue, invoke, callFunc, Try.func10, Try.f10, Sem.runT_eq] at he
 refine at_calls_lone hJ hC plainM Try.func10 rfl (by kernel_rfl) (R := fun v w' => ∃ pvs, CdO w2 n v pvs prog w') (fun v w' τ d h => ?_) (fun τ d => Calls.mono (codes_lone (re w2 τ d) hn HI.out.2.2.2 (HI.out.2.2.1.beyond (HB.out.1.trans HB.out.2.1))) ?_) ?_
 · obtain ⟨pvs, h⟩ := h
   exact ⟨pvs, h.size, h.old, h.orow, h.prow⟩
 · rintro e w' ⟨o, pvs, he, h⟩
   exact ⟨o, he, pvs, h.size, h.old, h.orow, h.prow⟩
 rintro v w3 ⟨pvs, hO⟩
 obtain ⟨op, Co, rfl, _, _⟩ := row_form hO.orow
 obtain ⟨ip, iC, rfl, _, _⟩ := row_form HB.out.2.2
 rw [Frame.finish_at]
 walk_nrm
 have HO := Lib.hid hO
 clear hO
 refine at_piece (s := 1 + 6) (by decide) hJ (rows0_none _) false (.inr rfl) 3 4 3 rfl rfl rfl (by rfl) ?_
 intro τ d
 simp only [List.drop_succ_cons, List.drop_zero, List.take_succ_cons, List.take_zero]
 have hb3 : Beyond W w3 := (HB.out.1.trans HB.out.2.1).trans ⟨HO.out.size, HO.out.old⟩
 obtain ⟨sv, w4, hrun, hsr, hbe4⟩ := copy_made (P := Try.prog) (w := re w3 τ d) (t := 24) (ty := 24) (e := 3) (i := (Try.prog.info? 3).getD default) (z := .int .i64 0) (by kernel_rfl) (by kernel_rfl) (by kernel_rfl) (by kernel_rfl) (by kernel_rfl) (by rfl) ((HI.out.2.1.beyond hb3).re τ d) hl
 obtain ⟨ssp, sC, rfl, _, _⟩ := row_form hsr
 have HS4 := Lib.hid (And.intro hsr (And.intro hbe4 hb3))
 clear hsr hbe4 hb3
 go_wp2_with (at_builtin; go_loud (refine wpList_append_run rfl (.tmp 19) (.tmp 20) 24 rfl hrun ?_))
 simp only [contAt]
 clear hrun
 refine at_call (by decide) hJ (s := 1 + 6) rfl rfl (f := 9) (args := #[.slice ip ws.length iC, .slice op n Co, .slice ssp l.length sC, .int .i64 mo]) (fun τ d => ?_) (fun τ d => ?_) ?_
 · simp [go_sem, execOp, Act.eval, resolve, Deferred.ofValue, invoke, callFunc, Try.func9, Try.f9]
 · intro e he
   simp [go_sem, execOp, Act.eval, resolve, Deferred.ofValue, invoke, callFunc, Try.func9, Try.f9, Sem.runT_eq] at he
 have hbe34 : Beyond w3 w4 := ⟨HS4.out.2.1.1, HS4.out.2.1.2⟩
 have hin4 : IntsAt w4 (.slice ip ws.length iC) ws := (ints_of_row HB.out.2.2).beyond (Beyond.trans ⟨HO.out.size, HO.out.old⟩ hbe34)
 have hpr := (HO.out.progs (min n 64) (Nat.min_le_left _ _)).ext hbe34.1 hbe34.2
 refine play_calls hFin (n := 1 + 6) (by omega) (W := ws.length) (C := iC) (np := n) (Cp := Co) (Cs := sC) (ws := ws) (sched := l) (prog := prog) (PB := fun b => w2.heap.size ≤ b ∧ b < w3.heap.size) (mo := mo) (N := min n 64) rfl hW (by omega) (by omega) (fun h0 => ?_) rfl hpr (fun hne => ?_) ?_
 · obtain ⟨p, C', e, h⟩ := hin4
   cases e
   exact h (fun e => by rw [e] at h0; exact absurd h0 (Nat.lt_irrefl _))
 · obtain ⟨p, C', e, _, h⟩ := row_form HS4.out.1
   cases e
   obtain ⟨g, e2, hg, hc⟩ := h (List.length_pos_iff.2 hne)
   have hlo : w3.heap.size ≤ g := (own_lt HS4.out.1 hg).2.1
   refine ⟨g, 0, e2, fun hh => by omega, fun j x hj => ?_⟩
   rw [Nat.zero_add]
   exact hc j _ (by rw [List.getElem?_map, hj]; rfl)
 intro ans v st tv w5 hR
 have hT := hR.trace
 obtain ⟨pa, ca, rfl, _, _⟩ := row_form hR.arow
 obtain ⟨pv, cv, rfl, _, _⟩ := row_form hR.orow
 obtain ⟨ps, cst, rfl, _, _⟩ := row_form hR.srow
 obtain ⟨bst, hbst⟩ : ∃ b, decide (0 < leftN (playP prog (min n 64) (min mo.toNat 1048576) l ⟨ws, fun _ => mch0⟩).ov (min n 64)) = b := ⟨_, rfl⟩
 obtain ⟨olen, holen⟩ : ∃ b, (playP prog (min n 64) (min mo.toNat 1048576) l ⟨ws, fun _ => mch0⟩).ord.length = b := ⟨_, rfl⟩
 have hin5 := hin4.beyond hR.beyond
 have hb5 : Beyond W w5 := (HS4.out.2.2.trans hbe34).trans hR.beyond
 rw [hbst, holen]
 rw [hbst, holen] at hT
 rw [Frame.finish_at]
 walk_nrm
 have HT := Lib.hid (And.intro hT (And.intro hin5 (And.intro hb5 (And.intro hbst holen))))
 clear hT hin5 hb5 hbst holen hR hpr hin4 hbe34 HS4 HO HB
 refine at_piece (s := 1 + 6 + min n 64) (by decide) hJ (rows0_none _) false (.inr rfl) 8 2 0 rfl rfl rfl (by rfl) ?_
 intro τ d
 simp only [List.drop_succ_cons, List.drop_zero, List.take_succ_cons, List.take_zero]
 generalize hvr : re w5 τ d = vr
 go_wp2
 simp only [contAt]
 subst hvr
 simp only [re_alloc, re_size]
 refine hJ.re' (1 + 6 + min n 64) _ _ τ d ?_
 obtain ⟨w6, hw6⟩ : ∃ x, w5.alloc (.cells #[.slice pa (min n 64) ca, .slice pv olen cv, .slice ps ws.length cst, .bool bst] 28) = x := ⟨_, rfl⟩
 have hbn : Beyond w5 w6 := by rw [← hw6]; exact Beyond.alloc _ _
 have hT6 : w6.heap[w5.heap.size]? = some (.cells #[.slice pa (min n 64) ca, .slice pv olen cv, .slice ps ws.length cst, .bool bst] 28) := by rw [← hw6]; exact al_new _ _
 rw [hw6]
 clear hw6
 obtain ⟨bT, hbT⟩ : ∃ x, w5.heap.size = x := ⟨_, rfl⟩
 rw [hbT] at hT6 ⊢
 clear hbT
 have HQ := Lib.hid (And.intro (HT.out.1.beyond hbn) (And.intro (HT.out.2.1.beyond hbn) (And.intro (HT.out.2.2.1.trans hbn) HT.out.2.2.2)))
 have k0 := (zq0 (off := 0) hT6).trans rfl
 have k1 := (zq0 (off := 1) hT6).trans rfl
 have k2 := (zq0 (off := 2) hT6).trans rfl
 have k3 := (zq0 (off := 3) hT6).trans rfl
 clear hT6 hbn HT
 refine hJ.ctl (s := 1 + 6 + min n 64) (fun w => stepG_region_end) ?_
 refine at_rest_end (P := Try.prog) hPost plainM (by kernel_rfl) rfl (by kernel_rfl) Try.func3 (fun τ d => ?_)
 obtain ⟨u4, hu4⟩ : ∃ c, tpT 4 = c := ⟨_, rfl⟩
 have eu4 := hu4
 rw [hu4]
 simp only [tpT, headC, tailN, Try.f3, al_od] at eu4
 subst eu4
 clear hu4
 go_wp2_with (fail)
 refine wp_region_held (S := fun w' => Beyond w6 w') (by kernel_rfl) ?_
 obtain ⟨w7, hw7⟩ : ∃ x, ({ re w6 τ d with drawn := (re w6 τ d).drawn + 1 } : World) = x := ⟨_, rfl⟩
 have hS0 : Beyond w6 w7 := by rw [← hw7]; exact ⟨Nat.le_refl _, fun _ _ => rfl⟩
 rw [hw7]
 clear hw7
 refine wpAnyH_take (i := 0) (v := .agg #[.slice pa (min n 64) ca, .slice pv olen cv, .slice ps ws.length cst, .bool bst]) rfl (by kernel_rfl) (by kernel_rfl) (by kernel_rfl) (fun _ _ _ h => h) (.inl ⟨by rfl, fun w' hw' => ?_⟩) hS0 ?_
 · replace k0 := hw'.cell k0
   replace k1 := hw'.cell k1
   replace k2 := hw'.cell k2
   replace k3 := hw'.cell k3
   go_simp
 try simp only [Act.put, al_g2, List.set_cons_zero, List.set_cons_succ]
 refine wpAnyH_take (i := 1) (v := .slice wp ws.length C) rfl (by kernel_rfl) (by kernel_rfl) (by kernel_rfl) (fun _ _ _ h => h) (.inl ⟨by rfl, fun w' hw' => ?_⟩) hS0 ?_
 · go_simp
 try simp only [Act.put, al_g2, List.set_cons_zero, List.set_cons_succ]
 refine wpAnyH_take (i := 2) (v := .slice pp n Cp) rfl (by kernel_rfl) (by kernel_rfl) (by kernel_rfl) (fun _ _ _ h => h) (.inl ⟨by rfl, fun w' hw' => ?_⟩) hS0 ?_
 · go_simp
 try simp only [Act.put, al_g2, List.set_cons_zero, List.set_cons_succ]
 refine wpAnyH_take (i := 3) (v := .slice sp l.length Cs) rfl (by kernel_rfl) (by kernel_rfl) (by kernel_rfl) (fun _ _ _ h => h) (.inl ⟨by rfl, fun w' hw' => ?_⟩) hS0 ?_
 · go_simp
 try simp only [Act.put, al_g2, List.set_cons_zero, List.set_cons_succ]
 refine wpAnyH_take (i := 4) (v := .int .i64 mo) rfl (by kernel_rfl) (by kernel_rfl) (by kernel_rfl) (fun _ _ _ h => h) (.inl ⟨by rfl, fun w' hw' => ?_⟩) hS0 ?_
 · go_simp
 try simp only [Act.put, al_g2, List.set_cons_zero, List.set_cons_succ]
 refine wpAnyH_all (rs := [5]) (by kernel_rfl) (by simp) (fun i hi => ?_)
 obtain rfl : i = 5 := by simpa using hi
 simp only [wpOp, al_gl, al_g0, al_g1]
 rw [if_pos (by rfl)]
 refine .inl ?_
 go_simp
 have hb7 := HQ.out.2.2.1.trans hS0
 refine Calls.mono (rplay_lone (N := min n 64) rfl hn hW hl HI.out.2.2.2 (HI.out.1.beyond hb7) (HI.out.2.1.beyond hb7) (HI.out.2.2.1.beyond hb7)) ?_
 rintro e w8 ⟨v8, rfl, hb8, hT8, ho8, ht8, hs8⟩
 have hS1 := hS0.trans hb8
 refine ⟨hS1, ?_⟩
 have HT8 := Lib.hid (And.intro hT8 (And.intro ho8 (And.intro ht8 hs8)))
 clear hT8 ho8 ht8 hs8
 try simp only [Act.put, al_g2, List.set_cons_zero, List.set_cons_succ]
 refine wpAnyH_all (rs := [6]) (by kernel_rfl) (by simp) (fun i hi => ?_)
 obtain rfl : i = 6 := by simpa using hi
 simp only [wpOp, al_gl, al_g0, al_g1]
 rw [if_pos (by rfl)]
 refine .inl ?_
 go_simp
 have hT1 : TraceAt w8 (.agg #[.slice pa (min n 64) ca, .slice pv olen cv, .slice ps ws.length cst, .bool bst]) (min n 64) (fun i => ((refP prog (min n 64) mo l ws).mem.th i).told) ((refP prog (min n 64) mo l ws).ord.map fun (i : Nat) => (i : Int)) (refP prog (min n 64) mo l ws).mem.ws bst := HQ.out.1.beyond hS1
 have hT2 := HT8.out.1
 have hst : decide (0 < leftN (refP prog (min n 64) mo l ws).ov (min n 64)) = bst := HQ.out.2.2.2.1
 rw [hst] at hT2
 refine Calls.mono (trace_same (by omega) (by rw [List.length_map]; have := HT8.out.2.1; omega) (by rw [HT8.out.2.2.2]; exact hW) (fun i hi => by have := HT8.out.2.2.1 i hi; omega) hT1 hT2) ?_
 rintro e w9 ⟨rfl, hb9⟩
 have hS2 := hS1.trans hb9
 refine ⟨hS2, ?_⟩
 clear hT1 hT2 hst
 try simp only [Act.put, al_g2, List.set_cons_zero, List.set_cons_succ]
 replace hS0 := hS2
 refine wpAnyH_take (i := 7) (v := .bool true) rfl (by kernel_rfl) (by kernel_rfl) (by kernel_rfl) (fun _ _ _ h => h) (.inl ⟨by rfl, fun w' hw' => ?_⟩) hS0 ?_
 · go_simp
 try simp only [Act.put, al_g2, List.set_cons_zero, List.set_cons_succ]
 refine wpAnyH_take (i := 8) (v := .slice ip ws.length iC) rfl (by kernel_rfl) (by kernel_rfl) (by kernel_rfl) (fun _ _ _ h => h) (.inl ⟨by rfl, fun w' hw' => ?_⟩) hS0 ?_
 · go_simp
 try simp only [Act.put, al_g2, List.set_cons_zero, List.set_cons_succ]
 refine wpAnyH_take (i := 9) (v := .slice wp ws.length C) rfl (by kernel_rfl) (by kernel_rfl) (by kernel_rfl) (fun _ _ _ h => h) (.inl ⟨by rfl, fun w' hw' => ?_⟩) hS0 ?_
 · go_simp
 try simp only [Act.put, al_g2, List.set_cons_zero, List.set_cons_succ]
 refine wpAnyH_all (rs := [10]) (by kernel_rfl) (by simp) (fun i hi => ?_)
 obtain rfl : i = 10 := by simpa using hi
 simp only [wpOp, al_gl, al_g0, al_g1]
 rw [if_pos (by rfl)]
 refine .inl ?_
 go_simp
 refine Calls.mono (numbers_same hW (HQ.out.2.1.beyond hS2) (HI.out.1.beyond (HQ.out.2.2.1.trans hS2))) ?_
 rintro e w10 ⟨rfl, nn, rfl⟩
 have hS3 : Beyond w6 (w9.drewN nn) := ⟨hS2.1, hS2.2⟩
 refine ⟨hS3, ?_⟩
 try simp only [Act.put, al_g2, List.set_cons_zero, List.set_cons_succ]
 replace hS0 := hS3
 refine wpAnyH_all (rs := [11]) (by kernel_rfl) (by simp) (fun i hi => ?_)
 obtain rfl : i = 11 := by simpa using hi
 simp only [wpOp, al_gl, al_g0, al_g1]
 rw [if_pos (by rfl)]
 refine .inl ?_
 go_simp
 first | (change wpAnyH _ _ _ _ _ _ _ _ _) | refine And.intro hS0 ?_
 refine wpAnyH_all (rs := [12]) (by kernel_rfl) (by simp) (fun i hi => ?_)
 obtain rfl : i = 12 := by simpa using hi
 simp only [wpOp, al_gl, al_g0, al_g1]
 rw [if_pos (by rfl)]
 refine .inl ?_
 go_simp
 first | (change wpAnyH _ _ _ _ _ _ _ _ _) | refine And.intro hS0 ?_
 refine wpAnyH_done (by kernel_rfl) ?_ _
 go_wp2
 go_ret
 exact ⟨_, rfl, HE.out _ (HQ.out.2.2.1.trans hS3)⟩
end Go.Proofs
set_option maxHeartbeats 4000000
namespace Go.Proofs
open Go Go.Conc Go.RowKit Go.Car Go.ChangeShapes Go.WideShapes Go.Deep
theorem add_at {a : Addr} (h : a.spot = none) (i : Nat) : a.add i = ⟨a.block, a.off + i, none⟩ := by
 obtain ⟨b, o, s⟩ := a
 simp only at h
 subst h
 unfold Addr.add
 split
 · rename_i e; rw [e]; rfl
 · rfl
theorem spot_none {w : World} {a : Addr} {v : Value} (h : w.cell? a = some v) : a.spot = none := by
 unfold World.cell? at h
 split at h
 · split at h
   · cases h
   · rename_i hh; simpa using hh
 · cases h
theorem spot_add {w : World} {a : Addr} {v : Value} (h : w.cell? (a.add 0) = some v) : a.spot = none := spot_none (a := a) (by simpa [Addr.add] using h)
def lenD {H : Type} : DataW H → Nat
 | .slice e _ => e.length
 | _ => 0
section
variable {H : Type} {enc : TypeId × Value → H} {P : Program} {w : World} {held : Bool} {sp : Nat → Bool}
theorem ints_open {t e : TypeId} (ht : P.underlying t = some (.slice e)) (he : P.underlying e = some (.int .i64)) (hc : P.cellsOf e = 1) {a0 : Option Addr} {len cap : Nat} {d : DataW H} {ps : List MemPlace} {fuel : Nat}
 (h : DataW.trod enc P w 0 sp held fuel t [.slice a0 len cap] = some (d, ps)) : ∃ l : List Int, l.length = len ∧ IntsAt w (.slice a0 len cap) l ∧ lenD d = len := by
 rcases open_ints ht he hc h with ⟨hcs, hx⟩ | ⟨a, len', cap', zs, hcs, _, hl, hm, hz, hx, hcell, _⟩
 · simp only [List.cons.injEq, Value.slice.injEq, and_true] at hcs
   obtain ⟨rfl, rfl, rfl⟩ := hcs
   cases hx
   exact ⟨[], rfl, ⟨none, 0, rfl, fun h => absurd rfl h⟩, rfl⟩
 · simp only [List.cons.injEq, Value.slice.injEq, and_true] at hcs
   obtain ⟨rfl, rfl, rfl⟩ := hcs
   cases hx
   have hlz : len ≤ zs.length := by rw [hz]; split <;> omega
   have hlt : (zs.take len).length = len := by rw [List.length_take]; omega
   refine ⟨zs.take len, hlt, ⟨some a, cap, by rw [hlt], fun hne => ?_⟩, by simp [lenD, lits, hlt]; omega⟩
   have h0 : 0 < len := by rw [← hlt]; exact List.length_pos_iff.2 hne
   have hs := spot_add (hcell 0 (by omega))
   refine ⟨a.block, a.off, by obtain ⟨b, o, s⟩ := a; simp only at hs; rw [hs], fun i hi => ?_⟩
   rw [hlt] at hi
   have := hcell i (by omega)
   rw [add_at hs] at this
   rw [this]
   simp [List.getD_eq_getElem?_getD, List.getElem?_take, hi]
theorem code_open {t : TypeId} {fs : Array Field} (ht : P.underlying t = some (.struct fs)) (hfs : ∀ j, j < 5 → ∃ f, fs[j]? = some f ∧ f.offset = j ∧ P.cellsOf f.type = 1 ∧ P.underlying f.type = some (.int .i64)) (hsz : fs.size = 5)
 {cs : List Value} {x : DataW H × List MemPlace} {fuel : Nat} (h : DataW.trod enc P w 0 sp held fuel t cs = some x) : ∃ c : Cd, ∀ j, j < 5 → cs[j]? = (cdL c)[j]? := by
 obtain ⟨xs, n, _, _, _, hxl, hx⟩ := DataW.trod_struct ht h
 have each : ∀ j, j < 5 → ∃ z : Int, cs[j]? = some (.int .i64 z) := fun j hj => by
  obtain ⟨f, h1, h2, h3, h4⟩ := hfs j hj
  have h5 := hx j f h1
  rw [h2, h3] at h5
  obtain ⟨y, hy⟩ : ∃ y, xs[j]? = some y := ⟨_, List.getElem?_eq_getElem (by omega)⟩
  rw [hy] at h5
  obtain ⟨z, h6, _⟩ := DataW.trod_int h4 h5
  refine ⟨z, ?_⟩
  have : ((cs.drop j).take 1)[0]? = some (.int .i64 z) := by rw [h6]; rfl
  rw [List.getElem?_take, if_pos (by omega), List.getElem?_drop, Nat.add_zero] at this
  exact this
 obtain ⟨z0, h0⟩ := each 0 (by omega)
 obtain ⟨z1, h1⟩ := each 1 (by omega)
 obtain ⟨z2, h2⟩ := each 2 (by omega)
 obtain ⟨z3, h3⟩ := each 3 (by omega)
 obtain ⟨z4, h4⟩ := each 4 (by omega)
 refine ⟨⟨z0, z1, z2, z3, z4⟩, fun j hj => ?_⟩
 obtain rfl | rfl | rfl | rfl | rfl : j = 0 ∨ j = 1 ∨ j = 2 ∨ j = 3 ∨ j = 4 := by omega
 · exact h0
 · exact h1
 · exact h2
 · exact h3
 · exact h4
theorem codes_open {t e : TypeId} {fs : Array Field} (ht : P.underlying t = some (.slice e)) (he : P.underlying e = some (.struct fs)) (hc : P.cellsOf e = 5) (hfs : ∀ j, j < 5 → ∃ f, fs[j]? = some f ∧ f.offset = j ∧ P.cellsOf f.type = 1 ∧ P.underlying f.type = some (.int .i64)) (hsz : fs.size = 5)
 {cs : List Value} {d : DataW H} {ps : List MemPlace} {fuel : Nat} (h : DataW.trod enc P w 0 sp held fuel t cs = some (d, ps)) :
 ∃ (q : Option Addr) (l : List Cd) (C : Nat), cs = [.slice q l.length C] ∧ lenD d = l.length ∧ (l ≠ [] → ∃ gb go, q = some ⟨gb, go, none⟩ ∧ ∀ (k : Nat) (c : Cd), l[k]? = some c → ∀ j, j < 5 → w.cell? ⟨gb, go + k * 5 + j, none⟩ = (cdL c)[j]?) := by
 rcases open_slice ht h with ⟨hcs, hx⟩ | ⟨a, len, cap, m, n, D, Pl, hcs, _, hl, _, hm, hx, hcell⟩
 · cases hx
   exact ⟨none, [], 0, hcs, rfl, fun h => absurd rfl h⟩
 · have hlm : len ≤ m := by rw [hm]; split <;> omega
   have each : ∀ i, i < len → ∃ c : Cd, ∀ j, j < 5 → w.cell? ((a.add (i * 5)).add j) = (cdL c)[j]? := fun i hi => by
    obtain ⟨cs', h1, h2⟩ := hcell i (by omega)
    rw [hc] at h1
    obtain ⟨c, h3⟩ := code_open he hfs hsz h2
    exact ⟨c, fun j hj => ((World.cells?_some h1).2.2 j hj).trans (h3 j hj)⟩
   obtain ⟨c, hcc⟩ : ∃ c : Nat → Cd, ∀ i, i < len → ∀ j, j < 5 → w.cell? ((a.add (i * 5)).add j) = (cdL (c i))[j]? := by
    classical
    refine ⟨fun i => if h : i < len then (each i h).choose else ⟨0, 0, 0, 0, 0⟩, fun i hi => ?_⟩
    simp only [hi, dif_pos]
    exact (each i hi).choose_spec
   cases hx
   refine ⟨some a, (List.range len).map c, cap, by simpa using hcs, by simp [lenD], fun hne => ?_⟩
   have h0 : 0 < len := by have := List.length_pos_iff.2 hne; simpa using this
   have hs : a.spot = none := by
    have := hcc 0 h0 0 (by omega)
    rw [Nat.zero_mul] at this
    exact spot_add (a := a) (v := .int .i64 (c 0).d) (by simpa [Addr.add, cdL] using this)
   refine ⟨a.block, a.off, by obtain ⟨b, o, s⟩ := a; simp only at hs; rw [hs], fun k cc hk j hj => ?_⟩
   have hkl : k < len := by have := (List.getElem?_eq_some_iff.1 hk).1; simpa using this
   have := hcc k hkl j hj
   rw [add_at hs, add_at rfl] at this
   rw [this]
   rw [List.getElem?_map, List.getElem?_range hkl] at hk
   cases hk
   rfl
theorem progs_open {t e e2 : TypeId} {fs : Array Field} (ht : P.underlying t = some (.slice e)) (hc1 : P.cellsOf e = 1) (he : P.underlying e = some (.slice e2)) (he2 : P.underlying e2 = some (.struct fs)) (hc : P.cellsOf e2 = 5) (hfs : ∀ j, j < 5 → ∃ f, fs[j]? = some f ∧ f.offset = j ∧ P.cellsOf f.type = 1 ∧ P.underlying f.type = some (.int .i64)) (hsz : fs.size = 5)
 {a0 : Option Addr} {len cap : Nat} {d : DataW H} {ps : List MemPlace} {fuel : Nat} (h : DataW.trod enc P w 0 sp held fuel t [.slice a0 len cap] = some (d, ps)) :
 ∃ prog : Nat → List Cd, RefProgs w a0 len prog ∧ lenD d = len ∧ (∀ i, i < len → ∃ x es sp', d = .slice es sp' ∧ es[i]? = some x ∧ lenD x = (prog i).length) := by
 rcases open_slice1 ht hc1 h with ⟨hcs, hx⟩ | ⟨a, len', cap', m, n, V, D, Pl, hcs, _, hl, _, hm, hx, hcell⟩
 · simp only [List.cons.injEq, Value.slice.injEq, and_true] at hcs
   obtain ⟨rfl, rfl, rfl⟩ := hcs
   cases hx
   exact ⟨fun _ => [], fun h => absurd h (Nat.lt_irrefl _), rfl, fun i hi => absurd hi (Nat.not_lt_zero _)⟩
 · simp only [List.cons.injEq, Value.slice.injEq, and_true] at hcs
   obtain ⟨rfl, rfl, rfl⟩ := hcs
   have hlm : len ≤ m := by rw [hm]; split <;> omega
   have each : ∀ i, i < len → ∃ l : List Cd, ∃ q C, V i = .slice q l.length C ∧ lenD (D i) = l.length ∧ (l ≠ [] → ∃ gb go, q = some ⟨gb, go, none⟩ ∧ ∀ (k : Nat) (c : Cd), l[k]? = some c → ∀ j, j < 5 → w.cell? ⟨gb, go + k * 5 + j, none⟩ = (cdL c)[j]?) := fun i hi => by
    obtain ⟨q, l, C, h1, h2, h3⟩ := codes_open he he2 hc hfs hsz (hcell i (by omega)).2
    simp only [List.cons.injEq, and_true] at h1
    exact ⟨l, q, C, h1, h2, h3⟩
   obtain ⟨prog, hpr⟩ : ∃ prog : Nat → List Cd, ∀ i, i < len → ∃ q C, V i = .slice q (prog i).length C ∧ lenD (D i) = (prog i).length ∧ (prog i ≠ [] → ∃ gb go, q = some ⟨gb, go, none⟩ ∧ ∀ (k : Nat) (c : Cd), (prog i)[k]? = some c → ∀ j, j < 5 → w.cell? ⟨gb, go + k * 5 + j, none⟩ = (cdL c)[j]?) := by
    classical
    refine ⟨fun i => if h : i < len then (each i h).choose else [], fun i hi => ?_⟩
    simp only [hi, dif_pos]
    exact (each i hi).choose_spec
   cases hx
   refine ⟨prog, fun h0 => ?_, by simp [lenD], fun i hi => ⟨D i, _, _, rfl, by simp [hi], (hpr i hi).choose_spec.choose_spec.2.1⟩⟩
   have hs := spot_add (hcell 0 (by omega)).1
   refine ⟨a.block, a.off, by obtain ⟨b, o, s⟩ := a; simp only at hs; rw [hs], fun i hi => ?_⟩
   obtain ⟨q, C, h1, _, h3⟩ := hpr i hi
   have := (hcell i (by omega)).1
   rw [add_at hs, h1] at this
   exact ⟨q, C, this, h3⟩
end
end Go.Proofs
namespace Go.Car
open Go Go.Conc
theorem leaving_of_cond {H : Type} {enc : TypeId × Value → H} {a : Assume} {C : Checked} {os : Os} {f : FuncId} {fn : Func} {s : OpenSpec} {k : (H : Type) → List (DataW H) → Bool} (hk : s.cond = some k) {F : Stop.Interp} {conds : List PathCond} {apart fresh handsOn again : Bool}
 (own : ownKnob C.prog.godebug = none) (started : os.Started) (hfn : C.prog.funcs[f]? = some fn)
 (witness : ∃ (w : World) (tape : Tape) (i : Input), w.os = os ∧ (w.forCall tape i).Shaped C.prog ∧ i.vars = [] ∧ Input.okWide C.prog (w.forCall tape i) .any w.heap.size f i ∧
  s.pre6 enc C.prog fn conds apart (w.forCall tape i).memory i.args ∧ a.holds C.prog (lone (Frame.enter C.prog f i.args .normal) [] (w.forCall tape i)))
 (runs : ∀ (W : World) (base : Nat) (args : Array Value) (ds gs : List (DataW H)) (before : List MemPlace),
  (∀ (j : Nat) t v, fn.params[j]? = some t → args[j]? = some v → Value.okWide C.prog W .any base t v) →
  DataW.Whole enc C.prog fn.params.toList s.vars apart W args.toList ds gs before → k H (ds ++ gs) = true →
  ∃ M last o w' t', runNT C.prog (M + 1) (solo (G (Frame.enter C.prog f args .normal) []) W) #[] = (.ended o w', t') ∧ runN C.prog M (solo (G (Frame.enter C.prog f args .normal) []) W) = .next last ∧
   step C.prog last = .ended o w' ∧ Conc.Good C.prog (fun v W' => (s.at F).post enc C.prog fn apart fresh handsOn again W args v W') last o w' t') :
 ReturnsInLeavingWide a C os f .any (s.pre6 enc C.prog fn conds apart) ((s.at F).post enc C.prog fn apart fresh handsOn again) := by
 refine returnsInLeavingWide_of_good own started witness ?_
 intro w tape i _ _ _ hok hpre _
 obtain ⟨_, _, _, fn', hfn', _, _, _, _, hval⟩ := hok
 obtain rfl : fn' = fn := Option.some.inj (hfn'.symm.trans hfn)
 obtain ⟨ds, gs, before, hw, _, hkk⟩ := (OpenSpec.pre_some hk conds apart _ _).1 hpre.1
 obtain ⟨M, last, o, w', t', h1, h2, h3, h4⟩ := runs (w.forCall tape i) w.heap.size i.args ds gs before hval (DataW.Whole.of_heap (w' := w.forCall tape i) (by rfl) hw) hkk
 exact ⟨M, last, o, w', t', h1, h2, h3, h4.mono fun v hp => ChangeSpec.post_blind hp⟩
theorem holds_leaving_cond {p : Pinned} {s : OpenSpec} {c : OpenClaim} (f : FuncId) (fn : Func)
 (hn : c.program = p.name) (hs : c.sum = p.sum) (hsp : c.spec = s.name)
 (hstart : c.start = .entering) (hout : c.outside = []) (hin : c.inits = []) (hun : c.under = none) (hi4 : c.initsInPlace = [] ∧ c.initsUnfollowed = false ∧ c.initsRecurse = false ∧ c.initsNamed = [] ∧ c.initsPassed = []) (hnb : c.noBlocks = false) (hlv : c.leaving = true) (hfo : c.followed = none) (hnar : c.narrowed = s.cond.isSome) (hstill : c.still = false)
 (hfn : p.checked.prog.funcNamed c.func = some f) (hf : p.checked.prog.funcs[f]? = some fn)
 (closed : joinedFacts p.checked.prog f fn s.bare c = true)
 (hinst : fn.isInstance p.checked.prog c.origin c.targs) (hwrap : fn.isWrapper p.checked.prog c.wrapper c.mainSum)
 (h : ∀ os : Os, os.Started → ∀ (H : Type) (enc : TypeId × Value → H), (∀ a b, enc a = enc b → a = b) → ∀ F : Stop.Interp,
  ReturnsInLeavingWide c.assume p.checked os f .any (c.pre enc p.checked.prog fn s) ((s.at F).post enc p.checked.prog fn c.apart c.fresh c.handsOn c.again)) : c.holds p s := by
 simp only [joinedFacts, Bool.and_eq_true, beq_iff_eq, Array.all_eq_true_iff_forall_mem, List.all_eq_true, decide_eq_true_eq] at closed
 obtain ⟨⟨⟨⟨⟨⟨⟨⟨⟨⟨⟨⟨⟨⟨⟨⟨⟨⟨⟨⟨⟨⟨⟨⟨⟨⟨⟨⟨⟨⟨⟨a1, a2⟩, a3⟩, a4⟩, a5⟩, a6⟩, a7⟩, a8⟩, a9⟩, a10⟩, a11⟩, a12⟩, a13⟩, a14⟩, a15⟩, a16⟩, a17⟩, b17⟩, a18⟩, a19⟩, a20⟩, a21⟩, a22⟩, a23⟩, b23⟩, a24⟩, b24⟩, c24⟩, a25⟩, a26⟩, a27⟩, a28⟩ := closed
 have quiet : ∀ os : Os, Stop.quiet p.checked.prog os := fun os k hk => by rw [a9] at hk; cases hk
 have fits : c.startFits p.checked.prog := by unfold OpenClaim.startFits; rw [hstart]; exact a24
 have told : c.startTold p.checked.prog := by unfold OpenClaim.startTold; rw [hstart]; exact ⟨hin, hun, hi4⟩
 have named : namedTie p.checked.prog c.namedList s.vars = true := by unfold OpenClaim.namedList; rw [hfo]; exact a5
 have worded : p.checked.prog.envWorded = true := by unfold Program.envWorded; rw [a9]; rfl
 have world0 : ∃ os : Os, c.world os ∧ Stop.quiet p.checked.prog os := ⟨_, by unfold OpenClaim.world; rw [hout, hstart]; exact WideRow.started_initial, quiet _⟩
 have lists0 : c.lists p.checked.prog [] := by unfold OpenClaim.lists; rw [hfo]
 refine ⟨a1, hn, hs, hsp, a2, a3, fits, told, f, fn, hfn, hf, ⟨a4, a19⟩, (fun hb => by rw [hnb] at hb; cases hb), named, hinst, hwrap,
  a6.trans a7.symm, ⟨a8.trans a9.symm, worded, b23⟩, a10, a11, a12, a13, a14, ⟨a15, a27, a28⟩, ⟨a16, a20⟩, ⟨a17, a21, a25, a26⟩, ⟨a22, b24, c24, b17⟩, (by rw [hout, hnar]; cases hsh : c.shortTexts with | none => simp | some _ => rw [hsh] at a23; cases a23), fun n hn' => varReadable_some (a18 n hn'),
  world0, [], lists0, fun os st _ H enc inj => ?_⟩
 have st' : os.Started := by unfold OpenClaim.world at st; rw [hout, hstart] at st; exact st
 rw [OpenClaim.post_not_still hstill]
 unfold OpenClaim.form
 rw [hstart, a6]
 intro F
 have e1 : c.okInput = Input.okWide := by unfold OpenClaim.okInput; rw [hnb]
 have e2 : c.atReturn p.checked.prog = leavingAtReturn p.checked.prog := by unfold OpenClaim.atReturn; rw [hlv]
 have e3 : c.always p.checked.prog [] = nothingAlways := by unfold OpenClaim.always; rw [hfo]
 have e4 : s.post enc p.checked.prog fn F c.outside c.apart c.fresh c.handsOn c.again = (s.at F).post enc p.checked.prog fn c.apart c.fresh c.handsOn c.again := by rw [hout]; rfl
 rw [e1, e2, e3]
 show ReturnsInOpen _ _ _ _ _ _ _ _ (s.post enc p.checked.prog fn F c.outside c.apart c.fresh c.handsOn c.again) _ _
 rw [e4]
 exact h os st' H enc inj F a24
end Go.Car
set_option maxHeartbeats 4000000
set_option maxRecDepth 100000
namespace Go.Proofs.Ytdncabjenacolaa
open Go Go.Conc Go.RowKit Go.Car Go.ChangeShapes Go.WideShapes Go.ChangeAt
theorem bulk_one {H : Type} (d : DataW H) : 1 ≤ Rows.uptoBulk d := by
 cases d with
 | lit l => cases l <;> simp [Rows.uptoBulk]
 | nil => simp [Rows.uptoBulk]
 | ptr d => simp [Rows.uptoBulk]
 | slice elems spare => simp [Rows.uptoBulk]
 | agg parts => simp [Rows.uptoBulk]
 | iface t d => simp [Rows.uptoBulk]
 | map entries => simp [Rows.uptoBulk]
 | held h => simp [Rows.uptoBulk]
theorem bulk_mem {H : Type} {d : DataW H} {l : List (DataW H)} (h : d ∈ l) : Rows.uptoBulk d ≤ Rows.uptoBulkAll l := by
 induction l with
 | nil => cases h
 | cons x r ih =>
  simp only [Rows.uptoBulkAll]
  rcases List.mem_cons.1 h with e | e
  · subst e; omega
  · have := ih e; omega
theorem bulk_length {H : Type} (l : List (DataW H)) : l.length ≤ Rows.uptoBulkAll l := by
 induction l with
 | nil => simp [Rows.uptoBulkAll]
 | cons x r ih => have := bulk_one x; simp only [Rows.uptoBulkAll, List.length_cons]; omega
theorem bulk_lenD {H : Type} (d : DataW H) : lenD d ≤ Rows.uptoBulk d := by
 cases d with
 | slice e s => have := bulk_length e; simp only [lenD, Rows.uptoBulk]; omega
 | _ => exact Nat.zero_le _
theorem bulk_part {H : Type} {x : DataW H} {es sp : List (DataW H)} {i : Nat} (h : es[i]? = some x) : Rows.uptoBulk x ≤ Rows.uptoBulk (.slice es sp) := by
 have := bulk_mem (List.mem_of_getElem? h)
 simp only [Rows.uptoBulk]
 omega
theorem bulk_small {H : Type} {l : List (DataW H)} (hk : Rows.uptoSmall H l = true) {d : DataW H} (h : d ∈ l) : Rows.uptoBulk d ≤ 1048576 := by
 have h1 := of_decide_eq_true hk
 have h2 := bulk_mem h
 omega
theorem own_knob : ownKnob Try.prog.godebug = none := by kernel_rfl
theorem laid_out : laidOutB Try.prog = true := by kernel_rfl
theorem reads_same {H : Type} {enc : TypeId × Value → H} {t : TypeId} (hr : Try.prog.readableRec t = true) (hrow : t < Try.prog.types.size) {W w' : World} {v : Value} {d : DataW H} {ps : List MemPlace}
 (h : DataW.Trod enc Try.prog W 0 (fun _ => true) true t v d ps) (hb : Beyond W w') (hlt : ∀ x ∈ ps, x.block < W.heap.size) : DataW.Trod enc Try.prog w' 0 (fun b => decide (b < W.heap.size)) true t v d ps :=
 DataW.Trod.of_heap (w := { w' with os := W.os, tape := W.tape, output := W.output }) (by rfl) (Below.trod laid_out hr hrow h ⟨rfl, rfl, rfl, hb.1, hb.2⟩ hlt)
theorem kept_same {W w' : World} (hb : Beyond W w') (ho : w'.os = W.os) (hu : w'.output = W.output) (may : MemPlace → Prop) : W.keptBut w' may := by
 have h := Below.frame (W := W) (w' := { w' with os := W.os, tape := W.tape, output := W.output }) ⟨rfl, rfl, rfl, hb.1, hb.2⟩ may
 exact ⟨ho, hu, h.2.2⟩
theorem code_fields : ∃ fs, Try.prog.underlying 71 = some (.struct fs) ∧ fs.size = 5 ∧ ∀ j, j < 5 → ∃ f, fs[j]? = some f ∧ f.offset = j ∧ Try.prog.cellsOf f.type = 1 ∧ Try.prog.underlying f.type = some (.int .i64) := by
 refine ⟨_, Try.underlying71, rfl, fun j hj => ?_⟩
 obtain rfl | rfl | rfl | rfl | rfl : j = 0 ∨ j = 1 ∨ j = 2 ∨ j = 3 ∨ j = 4 := by omega
 all_goals exact ⟨_, rfl, rfl, by kernel_rfl, by kernel_rfl⟩
theorem ints_arg {H : Type} {enc : TypeId × Value → H} {W : World} {t e : TypeId} (ht : Try.prog.underlying t = some (.slice e)) (he : Try.prog.underlying e = some (.int .i64)) (hc : Try.prog.cellsOf e = 1) {base : Nat} {v : Value} {d : DataW H} {p : List MemPlace} (hok : Value.okWide Try.prog W .any base t v)
 (h : DataW.Trod enc Try.prog W 0 (fun _ => true) true t v d p) (hb : Rows.uptoBulk d ≤ 1048576) : ∃ a C, ∃ l : List Int, v = .slice a l.length C ∧ IntsAt W (.slice a l.length C) l ∧ l.length ≤ 1048576 := by
 obtain ⟨a, len, cap, rfl⟩ := okWide_slice ht hok
 obtain ⟨fuel, hf⟩ := h
 obtain ⟨l, h1, h2, h3⟩ := ints_open ht he hc (by simpa [Value.cells] using hf)
 have := bulk_lenD d
 exact ⟨a, cap, l, by rw [h1], by rw [h1]; exact h2, by omega⟩
theorem progs_arg {H : Type} {enc : TypeId × Value → H} {W : World} {base : Nat} {v : Value} {d : DataW H} {p : List MemPlace} (hok : Value.okWide Try.prog W .any base 23 v)
 (h : DataW.Trod enc Try.prog W 0 (fun _ => true) true 23 v d p) (hb : Rows.uptoBulk d ≤ 1048576) : ∃ a n C, ∃ prog : Nat → List Cd, v = .slice a n C ∧ RefProgs W a n prog ∧ n ≤ 1048576 ∧ ∀ i, i < n → (prog i).length ≤ 1048576 := by
 obtain ⟨a, len, cap, rfl⟩ := okWide_slice (e := 62) (by kernel_rfl) hok
 obtain ⟨fuel, hf⟩ := h
 obtain ⟨fs, k1, k2, k3⟩ := code_fields
 obtain ⟨prog, h1, h2, h3⟩ := progs_open (e := 62) (e2 := 71) (by kernel_rfl) (by kernel_rfl) (by kernel_rfl) k1 (by kernel_rfl) k3 k2 (by simpa [Value.cells] using hf)
 have := bulk_lenD d
 refine ⟨a, len, cap, prog, rfl, h1, by omega, fun i hi => ?_⟩
 obtain ⟨x, es, sp, rfl, hx, hl⟩ := h3 i hi
 have := bulk_part (sp := sp) hx
 have := bulk_lenD x
 omega
theorem turnPlays_lifted (os : Os) (started : os.Started) (H : Type) (enc : TypeId × Value → H) (F : Stop.Interp) :
 ReturnsInLeavingWide {} Try.checked os 3 .any ((Rows.OpenSpec.upto Rows.turnPlaysSpec).pre6 enc Try.prog Try.f3 Rows.turnPlaysUptoRow.domain false) (((Rows.OpenSpec.upto Rows.turnPlaysSpec).at F).post enc Try.prog Try.f3 false true false false) := by
 refine leaving_of_cond (C := Try.checked) (s := Rows.OpenSpec.upto Rows.turnPlaysSpec) (k := Rows.uptoSmall) rfl own_knob started Try.func3
  (OpenSpec.witness (enc := enc) (C := Try.checked) (s := Rows.OpenSpec.upto Rows.turnPlaysSpec) (k := Rows.uptoSmall) rfl false ⟨#[], #[.slice none 0 0, .slice none 0 0, .slice none 0 0, .int .i64 0], []⟩ 8 (by kernel_rfl) (by kernel_rfl) (by kernel_rfl)
   (x := ([.nil, .nil, .nil, .lit (.int .i64 0)], [], [])) (by kernel_rfl) rfl (by kernel_rfl)) ?_
 intro W base args ds gs before hval0 hW hk
 have hval : ∀ (j : Nat) t v, Try.f3.params[j]? = some t → args[j]? = some v → Value.okWide Try.prog W .any base t v := hval0
 have hW' := hW
 obtain ⟨p, q, hA0, hV, rfl, _, _⟩ := hW
 have hA : DataW.TrodAll enc Try.prog W 0 (fun _ => true) true Try.f3.params.toList args.toList ds p := hA0
 rw [Try.params3] at hA hval
 obtain ⟨v0, v1, v2, v3, d0, d1, d2, d3, p0, p1, p2, p3, rfl, rfl, rfl, h0, h1, h2, h3⟩ := trodAll_four hA
 obtain ⟨rfl, rfl⟩ := trodVars_none hV
 clear hA0 hval0
 simp only [List.append_nil] at hW' hk
 have hlt : ∀ x ∈ p0 ++ p1 ++ p2 ++ p3, x.block < W.heap.size := fun x hx => by simpa using hW'.lt x hx
 obtain ⟨wp, C, ws, rfl, i0, b0⟩ := ints_arg (e := 2) (by kernel_rfl) (by kernel_rfl) (by kernel_rfl) (hval 0 _ v0 rfl rfl) h0 (bulk_small hk (by simp))
 obtain ⟨pp, n, Cp, prog, rfl, i1, b1, b1'⟩ := progs_arg (hval 1 _ v1 rfl rfl) h1 (bulk_small hk (by simp))
 obtain ⟨sp, Cs, l, rfl, i2, b2⟩ := ints_arg (e := 3) (by kernel_rfl) (by kernel_rfl) (by kernel_rfl) (hval 2 _ v2 rfl rfl) h2 (bulk_small hk (by simp))
 obtain ⟨mo, rfl⟩ := okWide_int (k := .i64) (by kernel_rfl) (hval 3 _ v3 rfl rfl)
 obtain ⟨M, last, o, w', t', r1, r2, r3, r4⟩ := turnplays_run (Post := fun v w' => v = .bool true ∧ Beyond W w') (fun v w τ d h => ⟨h.1, h.2.1, h.2.2⟩) (mo := mo) (by omega) (by omega) (by omega) (fun i hi => by have := b1' i hi; omega) i0 i2 i1 (fun w' h => ⟨rfl, h⟩)
 refine ⟨M, last, o, w', t', r1, r2, r3, r4.mono fun v hF => ?_⟩
 obtain ⟨⟨rfl, hb⟩, ho, hu⟩ := hF
 have same : ∀ {t : TypeId} (hr : Try.prog.readableRec t = true) (hrow : t < Try.prog.types.size) {v : Value} {d : DataW H} {ps : List MemPlace} (h : DataW.Trod enc Try.prog W 0 (fun _ => true) true t v d ps) (hlt : ∀ x ∈ ps, x.block < W.heap.size), DataW.Trod enc Try.prog w' 0 (fun b => decide (b < W.heap.size)) true t v d ps := fun hr hrow _ _ _ h hlt => reads_same hr hrow h hb hlt
 refine ⟨_, _, _, [], p0 ++ (p1 ++ (p2 ++ p3)), [], hW', trodAll_mk1 (shut_bool Try.underlying4 true), ?_, rfl, kept_same hb ho hu _, fun h => by cases h⟩
 exact trodAll_mk4 (same (by kernel_rfl) (of_decide_eq_true (by kernel_rfl)) h0 fun x hx => hlt x (by simp [hx])) (same (by kernel_rfl) (of_decide_eq_true (by kernel_rfl)) h1 fun x hx => hlt x (by simp [hx])) (same (by kernel_rfl) (of_decide_eq_true (by kernel_rfl)) h2 fun x hx => hlt x (by simp [hx])) (same (by kernel_rfl) (of_decide_eq_true (by kernel_rfl)) h3 fun x hx => hlt x (by simp [hx]))
theorem turnPlays_upto : Rows.TurnPlaysUptoSaid :=
 holds_leaving_cond 3 Try.f3 rfl rfl rfl rfl rfl rfl rfl ⟨rfl, rfl, rfl, rfl, rfl⟩ rfl rfl rfl rfl rfl (by kernel_rfl) Try.func3 (by kernel_rfl)
  (of_decide_eq_true (by kernel_rfl)) (by unfold Func.isWrapper; first | (rw [if_pos (by decide +kernel)]; kernel_rfl) | (rw [if_neg (by decide +kernel)]; exact ⟨rfl, rfl⟩))
  (fun os started H enc _ F => turnPlays_lifted os started H enc F)
end Go.Proofs.Ytdncabjenacolaa
