/- YtdncabjenacolaaTAlone9: part 12 of the proof (the texts behind it, in order). -/
import Derived.Test.YtdncabjenacolaaP11
set_option linter.unusedSimpArgs false
set_option linter.unusedVariables false
set_option linter.unusedSectionVars false
set_option linter.unnecessarySimpa false
set_option maxHeartbeats 4000000
set_option maxRecDepth 100000
namespace Go.Proofs
open Go Go.Conc Go.RowKit Go.Car
noncomputable def playT (n : Nat) : Code := tailN n (Try.f9.body.getD .skip)
theorem play0 : Try.f9.body.getD .skip = .seq (headC (playT 0)) (.seq (headC (playT 1)) (.seq (headC (playT 2)) (playT 3))) := by kernel_rfl
theorem MRes.re {w w' : World} {ws : List Int} {W N : Nat} {pv : Value} {most : Int} {mb b1 b3 : Nat → Nat} {av fv : Value} (h : MRes w ws W N pv most mb b1 b3 av fv w') (τ : Nat → Question → Nat) (d : Nat) : MRes w ws W N pv most mb b1 b3 av fv (Go.Car.re w' τ d) :=
 ⟨h.size, h.old, h.prg, h.mst, h.wds, h.arow, h.frow, h.mac, h.bx1, h.bx3, h.lo, h.inc, h.ne1, h.lo1⟩
theorem MRes.of_re {w w' : World} {τ : Nat → Question → Nat} {d : Nat} {ws : List Int} {W N : Nat} {pv : Value} {most : Int} {mb b1 b3 : Nat → Nat} {av fv : Value} (h : MRes (Go.Car.re w τ d) ws W N pv most mb b1 b3 av fv w') : MRes w ws W N pv most mb b1 b3 av fv w' :=
 ⟨h.size, h.old, h.prg, h.mst, h.wds, h.arow, h.frow, h.mac, h.bx1, h.bx3, h.lo, h.inc, h.ne1, h.lo1⟩
theorem PlayRes.re {w w' : World} {N W : Nat} {P : PSt} {ans v st : Value} {tv : Nat → Value} (h : PlayRes w N W P ans v st tv w') (τ : Nat → Question → Nat) (d : Nat) : PlayRes w N W P ans v st tv (Go.Car.re w' τ d) :=
 ⟨h.size, h.old, h.arow, h.told, h.orow, h.srow, h.sep, h.len⟩
theorem TRes.of_re {w w' : World} {τ : Nat → Question → Nat} {d : Nat} {N W : Nat} {tv : Nat → Value} {ws : List Int} {ans st : Value} (h : TRes (Go.Car.re w τ d) N W tv ws ans st w') : TRes w N W tv ws ans st w' := ⟨h.size, h.old, h.arow, h.srow⟩
theorem PlayRes.ext {w w1 w' : World} {N W : Nat} {P : PSt} {ans v st : Value} {tv : Nat → Value} (h : PlayRes w N W P ans v st tv w1) {b : Nat} (hsz : w1.heap.size ≤ w'.heap.size) (hold : ∀ x, x < w1.heap.size → x ≠ b → w'.heap[x]? = w1.heap[x]?) (hb : w.heap.size ≤ b)
 (h1 : ans.ownBlock ≠ some b) (h2 : ∀ i, i < N → (tv i).ownBlock ≠ some b) (h3 : v.ownBlock ≠ some b) (h4 : st.ownBlock ≠ some b) : PlayRes w N W P ans v st tv w' := by
 have hs := h.size
 refine ⟨by omega, fun x hx => (hold x (by omega) (by omega)).trans (h.old x hx), ownsRow_of h.arow fun g hg => ?_, fun i hi => ownsRow_of (h.told i hi) fun g hg => ?_, ownsRow_of h.orow fun g hg => ?_, ownsRow_of h.srow fun g hg => ?_, h.sep, h.len⟩
 · exact hold g (own_lt h.arow hg).2.2 (fun e => h1 (e ▸ hg))
 · exact hold g (own_lt (h.told i hi) hg).2.2 (fun e => h2 i hi (e ▸ hg))
 · exact hold g (own_lt h.orow hg).2.2 (fun e => h3 (e ▸ hg))
 · exact hold g (own_lt h.srow hg).2.2 (fun e => h4 (e ▸ hg))
theorem PlayRes.base {w w0 w' : World} {N W : Nat} {P : PSt} {ans v st : Value} {tv : Nat → Value} (h : PlayRes w N W P ans v st tv w') (hs : w0.heap.size ≤ w.heap.size) (ho : ∀ b, b < w0.heap.size → w.heap[b]? = w0.heap[b]?) : PlayRes w0 N W P ans v st tv w' :=
 ⟨Nat.le_trans hs h.size, fun b hb => (h.old b (by omega)).trans (ho b hb), ownsRow_base h.arow hs, fun i hi => ownsRow_base (h.told i hi) hs, ownsRow_base h.orow hs, ownsRow_base h.srow hs, h.sep, h.len⟩
theorem row_form {w : World} {B N : Nat} {T : TypeId} {v : Value} {xs : List Value} (h : w.ownsRow B T 1 v N xs) : ∃ p C, v = .slice p N C ∧ (v.ownBlock = p.map (·.block)) ∧ (0 < N → ∃ g, p = some ⟨g, 0, none⟩ ∧ v.ownBlock = some g ∧ ∀ i x, xs[i]? = some x → w.cell? ⟨g, i, none⟩ = some x) := by
 rcases h.2 with ⟨hv, h0⟩ | ⟨g, cap, cur, hv, hb, hh, h1, h2, h3, h4⟩
 · subst h0; exact ⟨none, 0, hv, by rw [hv]; rfl, fun h => absurd h (Nat.lt_irrefl _)⟩
 · refine ⟨_, cap, hv, by rw [hv]; rfl, fun _ => ⟨g, rfl, by rw [hv]; rfl, fun i x hx => ?_⟩⟩
   rw [zq1 (off := i) hh]
   have hi : i < xs.length := (List.getElem?_eq_some_iff.1 hx).1
   have hl := h.1
   rw [← h4, List.getElem?_take] at hx
   split at hx
   · simpa using hx
   · cases hx
theorem play_calls {Fin : Machine → Trace → Prop} (hFin : Back Try.prog Fin) {n : Nat} (hn : 0 < n) {wp pp sp : Option Addr} {W C np Cp Cs : Nat} {ws sched : List Int} {prog : Nat → List Cd} {PB : Nat → Prop} {mo : Int} {w : World} {c : Frame} {cs : List Frame}
 (hl : ws.length = W) (hW : W ≤ 1099511627776) (hnp : np ≤ 4611686018427387904) (hsl : sched.length ≤ 4611686018427387904) (hws : 0 < W → ∃ wb wo, wp = some ⟨wb, wo, none⟩ ∧ ∀ i, i < W → w.cell? ⟨wb, wo + i, none⟩ = some (.int .i64 (ws.getD i 0)))
 {N : Nat} (hN : N = min np 64) (hp : ProgsAt w pp np N prog PB) (hs : sched ≠ [] → ∃ sb off, sp = some ⟨sb, off, none⟩ ∧ ¬ PB sb ∧ ∀ j x, sched[j]? = some x → w.cell? ⟨sb, off + j, none⟩ = some (.int .i64 x))
 (hmain : ∀ ans v st tv w', PlayRes w N W (playP prog N (min mo.toNat 1048576) sched ⟨ws, fun _ => mch0⟩) ans v st tv w' → J0 Try.prog Fin (n + N) (G (c.finish (.agg #[ans, v, st, .bool (decide (0 < leftN (playP prog N (min mo.toNat 1048576) sched ⟨ws, fun _ => mch0⟩).ov N))])) cs) w') :
 J0 Try.prog Fin n (G (Frame.enter Try.prog 9 #[.slice wp W C, .slice pp np Cp, .slice sp sched.length Cs, .int .i64 mo] .normal) (c :: cs)) w := by
 have hJ := j0_JS hFin
 have hC := j0_calm hFin
 have e : Frame.enter Try.prog 9 #[.slice wp W C, .slice pp np Cp, .slice sp sched.length Cs, .int .i64 mo] .normal = (bN 9).at (enterAct Try.f9 #[.slice wp W C, .slice pp np Cp, .slice sp sched.length Cs, .int .i64 mo]) [.code ((Try.f9.body).getD .skip)] := by kernel_rfl
 have ea : enterAct Try.f9 #[.slice wp W C, .slice pp np Cp, .slice sp sched.length Cs, .int .i64 mo] = ⟨#[.slice wp W C, .slice pp np Cp, .slice sp sched.length Cs, .int .i64 mo, undef, undef, undef, undef, undef, undef, undef, undef, undef, undef, undef, undef, undef, undef, undef, undef, undef, undef, undef, undef, undef, undef, undef, undef, undef, undef, undef, undef, undef, undef, undef, undef, undef, undef, undef], []⟩ := by kernel_rfl
 rw [e, ea, play0]
 clear e ea
 have hm := Lib.hid hmain
 clear hmain
 obtain ⟨H, hH⟩ : ∃ H, w.heap.size = H := ⟨_, rfl⟩
 refine hJ.ctl (s := n) (fun w => stepG_seq) ?_
 refine at_lone hJ hC plainM (by kernel_rfl) (fun t w' => t = #[.slice wp W C, .slice pp np Cp, .slice sp sched.length Cs, .int .i64 mo, undef, undef, undef, undef, .pointer (some ⟨H, 0, none⟩), undef, undef, undef, undef, undef, undef, undef, undef, undef, undef, undef, undef, undef, undef, undef, undef, undef, undef, undef, undef, undef, undef, undef, undef, undef, undef, undef, undef, undef, undef] ∧ ∃ τ d, w' = re (w.alloc (.cells #[.slice none 0 0, .slice none 0 0, .slice none 0 0, .bool false] 28)) τ d) (fun t w' τ d h => ⟨h.1, by obtain ⟨τ', d', rfl⟩ := h.2; exact ⟨τ, d, by rw [re_re]⟩⟩) (by decide) (fun τ d => ?_) ?_
 · obtain ⟨u0, hu0⟩ : ∃ c, headC (playT 0) = c := ⟨_, rfl⟩
   have eu0 := hu0
   rw [hu0]
   simp only [playT, headC, tailN, Try.f9, al_od] at eu0
   subst eu0
   clear hu0
   go_wp2
   exact ⟨rfl, rfl, τ, d, rfl⟩
 rintro t w' ⟨rfl, τ, d, rfl⟩
 refine hJ.re' n _ _ τ d ?_
 have hwa : (w.alloc (.cells #[.slice none 0 0, .slice none 0 0, .slice none 0 0, .bool false] 28)).heap.size = H + 1 := by rw [zq8, hH]
 have hob : ∀ b, b < H → (w.alloc (.cells #[.slice none 0 0, .slice none 0 0, .slice none 0 0, .bool false] 28)).heap[b]? = w.heap[b]? := fun b hb => by rw [zqc, if_neg (by omega)]
 have hzb : (w.alloc (.cells #[.slice none 0 0, .slice none 0 0, .slice none 0 0, .bool false] 28)).heap[H]? = some (.cells #[.slice none 0 0, .slice none 0 0, .slice none 0 0, .bool false] 28) := hH ▸ al_new w _
 obtain ⟨wa, hwae⟩ : ∃ wa, w.alloc (.cells #[.slice none 0 0, .slice none 0 0, .slice none 0 0, .bool false] 28) = wa := ⟨_, rfl⟩
 rw [hwae] at hwa hob hzb ⊢
 clear hwae
 have hws2 : 0 < W → ∃ wb wo, wp = some ⟨wb, wo, none⟩ ∧ ∀ i, i < W → wa.cell? ⟨wb, wo + i, none⟩ = some (.int .i64 (ws.getD i 0)) := fun h0 => by
  obtain ⟨wb, wo, e, h⟩ := hws h0
  exact ⟨wb, wo, e, fun i hi => (zqe (hob wb (by rw [← hH]; exact cell_lt (h i hi)))).trans (h i hi)⟩
 have hp2 : ProgsAt wa pp np N prog PB := by
  refine ⟨fun h0 => ?_, hp.le, fun b hb => by have := hp.lt b hb; omega⟩
  obtain ⟨pb, cur, e, h1, h2, h3⟩ := hp.at' h0
  refine ⟨pb, cur, e, h1, (hob pb (by rw [← hH]; exact hp.lt pb h1)).trans h2, fun i hi => ?_⟩
  obtain ⟨pv, h4, h5⟩ := h3 i hi
  refine ⟨pv, h4, ?_⟩
  rcases h5 with h5 | ⟨g, cap, c2, h5, h6, h7, h8⟩
  · exact .inl h5
  · exact .inr ⟨g, cap, c2, h5, h6, (hob g (by rw [← hH]; exact hp.lt g h6)).trans h7, h8⟩
 have hs2 : sched ≠ [] → ∃ sb off, sp = some ⟨sb, off, none⟩ ∧ ¬ PB sb ∧ sb < H ∧ ∀ j x, sched[j]? = some x → wa.cell? ⟨sb, off + j, none⟩ = some (.int .i64 x) := fun h0 => by
  obtain ⟨sb, off, e, h1, h2⟩ := hs h0
  obtain ⟨x, l, hsl⟩ := List.exists_cons_of_ne_nil h0
  have hlt : sb < H := by rw [← hH]; exact cell_lt (h2 0 x (by rw [hsl]; rfl))
  exact ⟨sb, off, e, h1, hlt, fun j x hj => (zqe (hob sb hlt)).trans (h2 j x hj)⟩
 have hPBw : ∀ b, PB b → b < H := fun b hb => by rw [← hH]; exact hp.lt b hb
 clear hp hs hws
 refine hJ.ctl (s := n) (fun w => stepG_seq) ?_
 refine at_lone hJ hC plainM (by kernel_rfl) (fun t w' => ∃ mb b1 b3 av fv, t = #[.slice wp W C, .slice pp np Cp, .slice sp sched.length Cs, .int .i64 mo, undef, undef, undef, undef, .pointer (some ⟨H, 0, none⟩), .slice (some ⟨H + 1 + 2, 0, none⟩) W W, av, fv, undef, undef, undef, undef, .tuple #[.slice (some ⟨H + 1 + 2, 0, none⟩) W W, av, fv], .slice wp W C, .slice pp np Cp, .tuple #[.slice (some ⟨H + 1 + 2, 0, none⟩) W W, av, fv], .slice (some ⟨H + 1 + 2, 0, none⟩) W W, av, fv, undef, undef, undef, undef, undef, undef, undef, undef, undef, undef, undef, undef, undef, undef, undef, undef] ∧ MRes wa ws W N (.slice pp np Cp) (-1) mb b1 b3 av fv w') (fun t w' τ d h => ?_) (by decide) (fun τ d => ?_) ?_
 · obtain ⟨mb, b1, b3, av, fv, h1, h2⟩ := h
   exact ⟨mb, b1, b3, av, fv, h1, h2.re τ d⟩
 · obtain ⟨u0, hu0⟩ : ∃ c, headC (playT 1) = c := ⟨_, rfl⟩
   have eu0 := hu0
   rw [hu0]
   simp only [playT, headC, tailN, Try.f9, al_od] at eu0
   subst eu0
   clear hu0
   have HM := Lib.hid (machines_lone (pp := pp) (n := np) (Cp := Cp) (C := C) (-1) (re wa τ d) hl hW hnp hws2)
   have HH := Lib.hid (And.intro hH (And.intro hwa hN))
   clear hws2 hp2 hs2 hob hzb hwa hH hN hl hW hnp hPBw
   go_wp2_with (fail)
   refine Calls.mono HM.out ?_
   rintro e w' ⟨mb, b1, b3, av, fv, rfl, hR⟩
   have hR2 := Lib.hid hR.of_re
   clear hR
   rw [show (re wa τ d).heap.size = H + 1 from HH.out.2.1]
   go_wp2
   refine ⟨rfl, mb, b1, b3, av, fv, rfl, ?_⟩
   rw [HH.out.2.2]
   exact hR2.out
 rintro t w1 ⟨mb, b1, b3, av, fv, rfl, hR⟩
 obtain ⟨ap, Ca, rfl, hao, hap⟩ := row_form hR.arow
 obtain ⟨fp, Cf, rfl, hfo, hfp⟩ := row_form hR.frow
 have hN64 : N ≤ 64 := by omega
 refine hJ.ctl (s := n) (fun w => stepG_seq) ?_
 have hroom : 4096 * (min mo.toNat 1048576 + 100 + 1) ≤ 8589934592 := by omega
 have hrep := rep0 (prog := prog) (PB := PB) (room := min mo.toNat 1048576 + 100) hR hl (fun b hb => by have := hPBw b hb; omega) hroom
 obtain ⟨u0, hu0⟩ : ∃ c, headC (playT 2) = c := ⟨_, rfl⟩
 have eu0 := hu0
 rw [hu0]
 simp only [playT, headC, tailN, Try.f9, al_od] at eu0
 subst eu0
 clear hu0
 refine hJ.ctl (s := n) (fun w => stepG_region) ?_
 have HR := Lib.hid hR
 have HP := Lib.hid hrep
 have HX := Lib.hid (And.intro hp2 (And.intro hs2 (And.intro hws2 (And.intro hob (And.intro hzb (And.intro hwa hPBw))))))
 have HA := Lib.hid (And.intro hao (And.intro hap (And.intro hfo hfp)))
 clear hR hrep hp2 hs2 hws2 hob hzb hwa hao hap hfo hfp hPBw
 refine at_piece (s := n) (by decide) hJ (zqg _) true (.inl rfl) 0 3 8 rfl rfl rfl (by rfl) ?_
 intro τ d
 simp only [List.drop_zero, List.take_succ_cons, List.take_zero]
 go_wp2
 simp only [contAt]
 refine hJ.re' n _ _ τ d ?_
 refine at_call (by decide) hJ (s := n) rfl rfl (f := 14) (args := #[.slice fp N Cf, .slice sp sched.length Cs, .int .i64 mo]) (fun τ d => ?_) (fun τ d => ?_) ?_
 · simp [go_sem, execOp, Act.eval, resolve, Deferred.ofValue, invoke, callFunc, Try.func14, Try.f14]
 · intro e he
   simp [go_sem, execOp, Act.eval, resolve, Deferred.ofValue, invoke, callFunc, Try.func14, Try.f14, Sem.runT_eq] at he
 obtain ⟨hp2, hs2, hws2, hob, hzb, hwa, hPBw⟩ := HX.out
 obtain ⟨hao, hap, hfo, hfp⟩ := HA.out
 refine over_calls hFin (T := (msOf wa w1 N W mb b1 b3 prog PB).thr) (m₀ := mm0 ws (min mo.toNat 1048576 + 100)) (N := N) (most := min mo.toNat 1048576) (tv := fun i => cloOf wa.heap.size (b1 i) (b3 i)) (sched := sched) hn (by omega) rfl HP.out (Nat.le_refl _) ?_ (fun i hi => runs0 HR.out hp2 NEnd hi) ?_ ?_
 · intro h0
   obtain ⟨g, e, hg, hc⟩ := hfp h0
   refine ⟨g, e, fun hf => ?_, fun i hi => hc i _ (by simp [cloL, hi])⟩
   obtain ⟨⟨cc, hcc⟩, hlo, hlt⟩ := own_lt HR.out.frow hg
   rcases foot0 HR.out hf with h1 | ⟨_, h1 | ⟨i, hi, h1 | h1 | h1⟩⟩
   · have := hPBw g h1; omega
   · have h3 := HR.out.lo1 g (.inr hg); omega
   · exact heap_ne hcc (HR.out.mac i hi) (by decide) h1
   · exact heap_ne hcc (HR.out.bx1 i hi) (by decide) h1
   · exact heap_ne hcc (HR.out.bx3 i hi) (by decide) h1
 · refine ⟨hsl, sp, Cs, rfl, fun h0 => ?_⟩
   obtain ⟨sb, off, e, h1, h2, h3⟩ := hs2 h0
   refine ⟨sb, off, e, by have := HR.out.size; omega, fun hf => ?_, fun j x hj => (zqe (HR.out.old sb (by omega))).trans (h3 j x hj)⟩
   rcases foot0 HR.out hf with h4 | ⟨h4, _⟩
   · exact h1 h4
   · omega
 intro b m' v g capg w2 ho
 rw [Frame.finish_at]
 walk_nrm
 obtain ⟨pv', nv', cv', rfl⟩ := own_slice ho.row
 have HO := Lib.hid ho
 clear ho
 obtain ⟨stuck, hstuck⟩ : ∃ x, decide (0 < leftN b.ov N) = x := ⟨_, rfl⟩
 rw [hstuck]
 refine at_piece (s := n + N) (by decide) hJ (zqg _) true (.inl rfl) 4 7 0 rfl rfl rfl (by rfl) ?_
 intro τ d
 simp only [List.drop_succ_cons, List.drop_zero, List.take_succ_cons, List.take_zero]
 go_wp2
 simp only [contAt]
 refine hJ.re' (n + N) _ _ τ d ?_
 refine hJ.ctl (s := n + N) (fun w => stepG_region_end) ?_
 refine at_rest_lone hJ hC plainM (by kernel_rfl) (fun v w' => ∃ ans st tv, v = .agg #[ans, .slice pv' nv' cv', st, .bool stuck] ∧ PlayRes w N W (playP prog N (min mo.toNat 1048576) sched ⟨ws, fun _ => mch0⟩) ans (.slice pv' nv' cv') st tv w') (fun v w' τ d ⟨ans, st, tv, h1, h2⟩ => ⟨ans, st, tv, h1, h2.re τ d⟩) rfl Try.func9 (fun τ d => ?_) ?_
 · obtain ⟨u0, hu0⟩ : ∃ c, playT 3 = c := ⟨_, rfl⟩
   have eu0 := hu0
   rw [hu0]
   simp only [playT, headC, tailN, Try.f9, al_od] at eu0
   subst eu0
   clear hu0
   have hrep2 : (msOf wa w1 N W mb b1 b3 prog PB).Rep m' w2 := HO.out.rep
   have hB2 := hrep2.body
   have hbwe : (⟨wa.heap.size + 2, 0, none⟩ : Addr) = ⟨H + 1 + 2, 0, none⟩ := by rw [hwa]
   have HT : RowKit.Hid (Calls Try.prog 24 #[.slice (some ⟨H + 1 + 2, 0, none⟩) W W, .slice ap N Ca] (re w2 τ d) fun e w' => ∃ ans st, e = .returned (.agg #[ans, .slice none 0 0, st, .bool false]) ∧ TRes (re w2 τ d) N W m'.tv m'.ws ans st w') := by
    rw [← hbwe]
    exact (trace_lone (p := ap) (Ca := Ca) (mb := mb) (N := N) (re w2 τ d) hB2.len hW hN64 hB2.words (fun h0 => by
     obtain ⟨g', e, hg, hc⟩ := hap h0
     refine ⟨g', e, fun i hi => ?_⟩
     have h1 := hc i _ (by simp [ptrL, hi] : (ptrL mb N)[i]? = some (.pointer (some ⟨mb i, 0, none⟩)))
     refine (zqe (HO.out.old g' (cell_lt h1) fun hf => ?_)).trans h1
     obtain ⟨⟨cc, hcc⟩, hlo, hlt⟩ := own_lt HR.out.arow hg
     rcases foot0 HR.out hf with h2 | ⟨_, h2 | ⟨j, hj, h2 | h2 | h2⟩⟩
     · have := hPBw g' h2; omega
     · have h3 := HR.out.lo1 g' (.inl hg); omega
     · exact heap_ne hcc (HR.out.mac j hj) (by decide) h2
     · exact HR.out.ne1 j hj (h2 ▸ hg)
     · exact heap_ne hcc (HR.out.bx3 j hj) (by decide) h2) (fun i hi => (hB2.machB hi).ct) (fun i hi => own_slice (hB2.told i hi)))
   have HPP := Lib.hid (fun (ans st : Value) (w3 : World) (ht : TRes w2 N W m'.tv m'.ws ans st w3) => play_pure hl HR.out hp2 HO.out ht)
   have HZ := Lib.hid (And.intro hzb (And.intro hwa (And.intro hH hob)))
   clear hrep2 hB2 hp2 hs2 hws2 hob hzb hwa hPBw hao hap hfo hfp HX HA HP hH hN hl hW hnp
   clear hbwe
   go_wp2_with (fail)
   refine Calls.mono HT.out ?_
   rintro e w3 ⟨ans, st, rfl, hT⟩
   obtain ⟨pa, na, ca, rfl⟩ := own_slice hT.arow
   obtain ⟨ps, ns, cs', rfl⟩ := own_slice hT.srow
   have hPR := (HPP.out _ _ _ hT.of_re).1
   have b0 : w3.heap[H]? = some (.cells #[.slice none 0 0, .slice none 0 0, .slice none 0 0, .bool false] 28) := (hPR.old H (by rw [HZ.out.2.1]; omega)).trans HZ.out.1
   have hHlt : H < w3.heap.size := zq4 b0
   have HPR := Lib.hid hPR
   have HT2 := Lib.hid hT
   clear hT hPR
   have r0 := (zq1 (off := 0) b0).trans rfl
   have r1 := (zq1 (off := 1) b0).trans rfl
   have r2 := (zq1 (off := 2) b0).trans rfl
   have r3 := (zq1 (off := 3) b0).trans rfl
   have z0 := zqf (off := 0) b0
   have z1 := zqf (off := 1) b0
   have z2 := zqf (off := 2) b0
   have z3 := zqf (off := 3) b0
   have hne : ¬ (H = w3.heap.size) := by omega
   have hne2 : ¬ (w3.heap.size = H) := by omega
   have B0 := Lib.hid b0
   clear b0
   go_wp2
   clear r0 r1 r2 r3 z0 z1 z2 z3 hne hne2
   have b1' := zqh w3 H 0 (.slice pa na ca) B0.out
   have b2' := zqh _ H 1 (.slice pv' nv' cv') b1'
   have b3' := zqh _ H 2 (.slice ps ns cs') b2'
   have b4' := zqh _ H 3 (.bool stuck) b3'
   have hext : ∀ x, x < w3.heap.size → x ≠ H → ((((w3.setCell ⟨H, 0, none⟩ (.slice pa na ca)).setCell ⟨H, 1, none⟩ (.slice pv' nv' cv')).setCell ⟨H, 2, none⟩ (.slice ps ns cs')).setCell ⟨H, 3, none⟩ (.bool stuck)).heap[x]? = w3.heap[x]? := fun x _ hx => by
    rw [zqa _ _ _ _ hx, zqa _ _ _ _ hx, zqa _ _ _ _ hx, zqa _ _ _ _ hx]
   have hsz8 : ((((w3.setCell ⟨H, 0, none⟩ (.slice pa na ca)).setCell ⟨H, 1, none⟩ (.slice pv' nv' cv')).setCell ⟨H, 2, none⟩ (.slice ps ns cs')).setCell ⟨H, 3, none⟩ (.bool stuck)).heap.size = w3.heap.size := by simp only [hp_size_set]
   generalize ((((w3.setCell ⟨H, 0, none⟩ (.slice pa na ca)).setCell ⟨H, 1, none⟩ (.slice pv' nv' cv')).setCell ⟨H, 2, none⟩ (.slice ps ns cs')).setCell ⟨H, 3, none⟩ (.bool stuck)) = w8 at b4' hext hsz8 ⊢
   clear b1' b2' b3'
   have b9 := al_old (o := .cells #[.slice pa na ca, .slice pv' nv' cv', .slice ps ns cs', .bool stuck] 28) b4'
   have k0 := (zq1 (off := 0) b9).trans rfl
   have k1 := (zq1 (off := 1) b9).trans rfl
   have k2 := (zq1 (off := 2) b9).trans rfl
   have k3 := (zq1 (off := 3) b9).trans rfl
   have hPR := HPR.out
   have hlo : ∀ {T : TypeId} {k n : Nat} {v : Value} {xs : List Value}, w3.ownsRow wa.heap.size T k v n xs → v.ownBlock ≠ some H := fun h e => by
    have h1 := (own_lt h e).2.1; have h2 := HZ.out.2.1; omega
   have hbase : PlayRes w N W (playP prog N (min mo.toNat 1048576) sched ⟨ws, fun _ => mch0⟩) (.slice pa na ca) (.slice pv' nv' cv') (.slice ps ns cs') m'.tv w3 := hPR.base (by have := HZ.out.2.1; have := HZ.out.2.2.1; omega) (fun x hx => HZ.out.2.2.2 x (by have := HZ.out.2.2.1; omega))
   have hfin := hbase.ext (w' := w8.alloc (.cells #[.slice pa na ca, .slice pv' nv' cv', .slice ps ns cs', .bool stuck] 28)) (b := H) (by rw [zq8]; omega) (fun x hx hxH => by rw [zqc, if_neg (by omega)]; exact hext x hx hxH) (by have := HZ.out.2.2.1; omega) (hlo hPR.arow) (fun i hi => hlo (hPR.told i hi)) (hlo hPR.orow) (hlo hPR.srow)
   refine ⟨rfl, .agg #[.slice pa na ca, .slice pv' nv' cv', .slice ps ns cs', .bool stuck], ?_, _, rfl, _, _, _, rfl, hfin⟩
   simp only [results, Try.f9]
   simp [go_sem, k0, k1, k2, k3]
 · rintro v w' ⟨ans, st, tv, rfl, h⟩
   have h2 := hm.out ans _ st tv w' h
   rw [← hstuck, play_left HO.out]
   exact h2
def RefProgs (w : World) (pp : Option Addr) (n : Nat) (prog : Nat → List Cd) : Prop :=
 0 < n → ∃ pb po, pp = some ⟨pb, po, none⟩ ∧ ∀ i, i < n → ∃ q C, w.cell? ⟨pb, po + i, none⟩ = some (.slice q (prog i).length C) ∧
  ((prog i) ≠ [] → ∃ gb go, q = some ⟨gb, go, none⟩ ∧ ∀ (k : Nat) (c : Cd), (prog i)[k]? = some c → ∀ j, j < 5 → w.cell? ⟨gb, go + k * 5 + j, none⟩ = (cdL c)[j]?)
structure CdO (w : World) (j : Nat) (out : Value) (pvs : Nat → Value) (prog : Nat → List Cd) (wr : World) : Prop where
 size : w.heap.size ≤ wr.heap.size
 old : ∀ b, b < w.heap.size → wr.heap[b]? = w.heap[b]?
 orow : wr.ownsRow w.heap.size 69 1 out j ((List.range j).map pvs)
 prow : ∀ i, i < j → wr.ownsRow w.heap.size 74 5 (pvs i) (prog i).length (progL (prog i))
structure CdI (w : World) (s0 j k : Nat) (out l : Value) (pvs : Nat → Value) (prog : Nat → List Cd) (wr : World) : Prop where
 o : CdO w j out pvs prog wr
 lrow : wr.ownsRow s0 74 5 l k (progL ((prog j).take k))
 lo : w.heap.size ≤ s0 ∧ s0 ≤ wr.heap.size
 ap : ∀ i g, i < j → (pvs i).ownBlock = some g → g < s0
theorem CdO.start (w : World) (pvs : Nat → Value) (prog : Nat → List Cd) : CdO w 0 (.slice none 0 0) pvs prog w := ⟨Nat.le_refl _, fun _ _ => rfl, World.ownsRow_nil _ _ _ _, fun i hi => absurd hi (Nat.not_lt_zero _)⟩
theorem CdO.inner {w wr : World} {j : Nat} {out : Value} {pvs : Nat → Value} {prog : Nat → List Cd} (h : CdO w j out pvs prog wr) : CdI w wr.heap.size j 0 out (.slice none 0 0) pvs prog wr := by
 refine ⟨h, ?_, ⟨h.size, Nat.le_refl _⟩, fun i g hi hg => (own_lt (h.prow i hi) hg).2.2⟩
 rw [List.take_zero]
 exact World.ownsRow_nil _ _ _ _
theorem progL_take {l : List Cd} {k : Nat} {c : Cd} (h : l[k]? = some c) : progL (l.take (k + 1)) = progL (l.take k) ++ cdL c := by
 unfold progL
 rw [List.take_add_one, List.flatMap_append, h]
 simp
theorem CdI.next {w wr w5 : World} {s0 j k : Nat} {out l : Value} {pvs : Nat → Value} {prog : Nat → List Cd} (h : CdI w s0 j k out l pvs prog wr) {c : Cd} (hc : (prog j)[k]? = some c) {o1 o2 : Obj} {l' : Value}
 (hown : w5.ownsRow s0 74 5 l' (k + 1) (progL ((prog j).take k) ++ cdL c)) (hgrow : ((wr.alloc o1).alloc o2).grownBy w5 l.ownBlock) : CdI w s0 j (k + 1) out l' pvs prog w5 := by
 have hs5 : wr.heap.size + 2 ≤ w5.heap.size := by have := hgrow.size; simp only [zq8] at this; exact this
 have h5 : ∀ b, b < wr.heap.size → l.ownBlock ≠ some b → w5.heap[b]? = wr.heap[b]? := fun b hb hne => by
  rw [hgrow.block b (by simp only [zq8]; omega) (fun e => hne e.symm), zqc, if_neg (by rw [zq8]; omega), zqc, if_neg (by omega)]
 have hlo := h.lo
 have hos := h.o.size
 refine ⟨⟨by omega, fun b hb => ?_, ?_, fun i hi => ?_⟩, by rw [progL_take hc]; exact hown, ⟨hlo.1, by omega⟩, h.ap⟩
 · rw [h5 b (by omega) (fun e => by have := (own_lt h.lrow e).2.1; omega)]; exact h.o.old b hb
 · refine ownsRow_of h.o.orow fun g hg => ?_
   obtain ⟨⟨c1, hc1⟩, _, hlt⟩ := own_lt h.o.orow hg
   refine h5 g hlt fun e => ?_
   obtain ⟨⟨c2, hc2⟩, _⟩ := own_lt h.lrow e
   exact absurd (heap_type hc1 hc2) (by decide)
 · refine ownsRow_of (h.o.prow i hi) fun g hg => ?_
   have hlt := (own_lt (h.o.prow i hi) hg).2.2
   exact h5 g hlt fun e => by have := (own_lt h.lrow e).2.1; have := h.ap i g hi hg; omega
theorem CdI.done {w wr w5 : World} {s0 j : Nat} {out l : Value} {pvs : Nat → Value} {prog : Nat → List Cd} (h : CdI w s0 j (prog j).length out l pvs prog wr) {o1 : Obj} {out' : Value}
 (hown : w5.ownsRow w.heap.size 69 1 out' (j + 1) ((List.range j).map pvs ++ [l])) (hgrow : (wr.alloc o1).grownBy w5 out.ownBlock) : CdO w (j + 1) out' (fun i => if i = j then l else pvs i) prog w5 := by
 have hs5 : wr.heap.size + 1 ≤ w5.heap.size := by have := hgrow.size; simp only [zq8] at this; exact this
 have h5 : ∀ b, b < wr.heap.size → out.ownBlock ≠ some b → w5.heap[b]? = wr.heap[b]? := fun b hb hne => by
  rw [hgrow.block b (by simp only [zq8]; omega) (fun e => hne e.symm), zqc, if_neg (by omega)]
 have hlo := h.lo
 have hos := h.o.size
 have hcode : ∀ {B n : Nat} {v : Value} {xs : List Value}, wr.ownsRow B 74 5 v n xs → w5.ownsRow B 74 5 v n xs := fun hr => ownsRow_of hr fun g hg => by
  obtain ⟨⟨c1, hc1⟩, _, hlt⟩ := own_lt hr hg
  refine h5 g hlt fun e => ?_
  obtain ⟨⟨c2, hc2⟩, _⟩ := own_lt h.o.orow e
  exact absurd (heap_type hc1 hc2) (by decide)
 refine ⟨by omega, fun b hb => ?_, by rw [map_upd]; exact hown, fun i hi => ?_⟩
 · rw [h5 b (by omega) (fun e => by have := (own_lt h.o.orow e).2.1; omega)]; exact h.o.old b hb
 · by_cases e : i = j
   · subst e
     simp only [if_true]
     have := hcode h.lrow
     rw [List.take_length] at this
     exact ownsRow_base this hlo.1
   · simp only [e, if_false]
     exact hcode (h.o.prow i (by omega))
theorem CdO.progs {w wr : World} {n : Nat} {p : Option Addr} {C : Nat} {pvs : Nat → Value} {prog : Nat → List Cd} (h : CdO w n (.slice p n C) pvs prog wr) (N : Nat) (hN : N ≤ n) : ProgsAt wr p n N prog (fun b => w.heap.size ≤ b ∧ b < wr.heap.size) := by
 refine ⟨fun h0 => ?_, hN, fun b hb => hb.2⟩
 rcases h.orow.2 with ⟨_, hn⟩ | ⟨g, cap, cur, hv, h1, h2, h3, h4, h5, h6⟩
 · omega
 · cases hv
   refine ⟨g, cur, rfl, ⟨h1, zq4 h2⟩, h2, fun i hi => ⟨pvs i, ?_, ?_⟩⟩
   · have : ((List.range n).map pvs)[i]? = some (pvs i) := by rw [List.getElem?_map, List.getElem?_range (by omega)]; rfl
     rw [← h6, List.getElem?_take] at this
     split at this
     · simpa using this
     · cases this
   · rcases (h.prow i (by omega)).2 with ⟨hv, hl⟩ | ⟨g2, cap2, cur2, hv, k1, k2, k3, k4, k5, k6⟩
     · exact .inl ⟨hv, List.eq_nil_of_length_eq_zero hl⟩
     · exact .inr ⟨g2, cap2, cur2, hv, ⟨k1, zq4 k2⟩, k2, k6⟩
theorem news_new {w : World} {cs : Array Value} {T : TypeId} {B : Nat} (hB : w.heap.size = B) : ∀ j u, cs.toList[j]? = some u → (w.alloc (.cells cs T)).cell? ((⟨B, 0, none⟩ : Addr).add j) = some u := by subst hB; exact World.news_of_block (al_new w _)
theorem row_allocK {w : World} {B k : Nat} {e : TypeId} {v : Value} {n : Nat} {xs : List Value} (h : w.ownsRow B e k v n xs) (o : Obj) : (w.alloc o).ownsRow B e k v n xs := ownsRow_of h fun g hg => by rw [zqc, if_neg (by have := (own_lt h hg).2.2; omega)]
theorem codes_lone {pp : Option Addr} {n Cp : Nat} {prog : Nat → List Cd} (w : World) (hn : n ≤ 1099511627776) (hlen : ∀ i, i < n → (prog i).length ≤ 1099511627776) (hp : RefProgs w pp n prog) :
 Calls Try.prog 10 #[.slice pp n Cp] w fun e w' => ∃ out pvs, e = .returned out ∧ CdO w n out pvs prog w' := by
 have HP := Lib.hid hp
 have HL := Lib.hid hlen
 clear hp hlen
 go_enter Try.func10, Try.ntmps10
 go_wp2
 go_loopg [3, 4] n (fun k o i wr => ∃ (j : Nat) (pvs : Nat → Value) (out : Value), out = o ∧ k = n - j ∧ j ≤ n ∧ i = .int .i64 j ∧ CdO w j out pvs prog wr)
 case atStart => exact ⟨0, fun _ => .slice none 0 0, _, rfl, rfl, Nat.zero_le _, rfl, CdO.start w _ _⟩
 case round =>
  obtain ⟨j, pvs, out, ho, hk, hj, rfl, hR⟩ := hrel
  subst ho
  have HR := Lib.hid hR
  clear hR
  by_cases hlt : j < n
  · have hlt' : (j : Int) < (n : Int) := by omega
    have hj0 : (0 : Int) ≤ j := by omega
    obtain ⟨pb, po, rfl, hc⟩ := HP.out (by omega)
    obtain ⟨q, C, hc1, hc2⟩ := hc j hlt
    have HC2 := Lib.hid hc2
    have HPB := Lib.hid (cell_lt hc1)
    obtain ⟨L, hL⟩ : ∃ L, (prog j).length = L := ⟨_, rfl⟩
    rw [hL] at hc1
    have HLe := Lib.hid hL
    have HC1 := Lib.hid hc1
    clear hc hc2 hL hc1
    go_wp2
    have HI := Lib.hid HR.out.inner
    go_loopg [5, 6] L (fun k l i wr2 => ∃ (kk : Nat) (lv : Value), lv = l ∧ k = L - kk ∧ kk ≤ L ∧ i = .int .i64 kk ∧ CdI w wr.heap.size j kk out lv pvs prog wr2)
    case atStart => exact ⟨0, _, rfl, rfl, Nat.zero_le _, rfl, HI.out⟩
    case round =>
     obtain ⟨kk, lv, hlv, hk2, hj2, rfl, hR2⟩ := hrel
     subst hlv
     have HR2 := Lib.hid hR2
     clear hR2
     have cP := (zqe (HR2.out.o.old pb HPB.out)).trans HC1.out
     by_cases hlt2 : kk < L
     · have hlt2' : (kk : Int) < (L : Int) := by omega
       have hkk0 : (0 : Int) ≤ kk := by omega
       obtain ⟨c, hcd⟩ : ∃ c, (prog j)[kk]? = some c := ⟨_, List.getElem?_eq_getElem (by rw [HLe.out]; exact hlt2)⟩
       obtain ⟨gb, go, rfl, hcc⟩ := HC2.out (fun e => by rw [e] at hcd; cases hcd)
       have e0 := hcc kk c hcd 0 (by omega)
       have e1 := hcc kk c hcd 1 (by omega)
       have e2 := hcc kk c hcd 2 (by omega)
       have e3 := hcc kk c hcd 3 (by omega)
       have e4 := hcc kk c hcd 4 (by omega)
       have hgb : gb < w.heap.size := cell_lt (e0.trans rfl)
       have f0 : wr.cell? ⟨gb, go + kk * 5, none⟩ = some (.int .i64 c.d) := (zqe (HR2.out.o.old gb hgb)).trans e0
       have f1 : wr.cell? ⟨gb, go + kk * 5 + 1, none⟩ = some (.int .i64 c.r) := (zqe (HR2.out.o.old gb hgb)).trans e1
       have f2 : wr.cell? ⟨gb, go + kk * 5 + 2, none⟩ = some (.int .i64 c.a) := (zqe (HR2.out.o.old gb hgb)).trans e2
       have f3 : wr.cell? ⟨gb, go + kk * 5 + 3, none⟩ = some (.int .i64 c.b) := (zqe (HR2.out.o.old gb hgb)).trans e3
       have f4 : wr.cell? ⟨gb, go + kk * 5 + 4, none⟩ = some (.int .i64 c.v) := (zqe (HR2.out.o.old gb hgb)).trans e4
       have HCD := Lib.hid hcd
       have HLL := Lib.hid (HL.out j hlt)
       clear e0 e1 e2 e3 e4 hcc hgb hcd
       obtain ⟨ti, hti, hz0, hz1, hz2⟩ : ∃ ti, Try.prog.info? 74 = some ti ∧ ti.zero = some (.agg #[.int .i64 0, .int .i64 0, .int .i64 0, .int .i64 0, .int .i64 0]) ∧ ti.size = 5 ∧ ti.bytes = 40 := ⟨_, rfl, rfl, rfl, rfl⟩
       have TI := Lib.hid (And.intro hti (And.intro hz0 (And.intro hz1 hz2)))
       clear hti hz0 hz1 hz2
       have hb1 : kk < 1099511627776 := by have := HLL.out; have := HLe.out; omega
       go_wp2_with (at_builtin; go_loud (refine wpList_append_lies _ rfl (.tmp 30) (.tmp 42) 69 rfl _ 74 ti (.agg #[.int .i64 0, .int .i64 0, .int .i64 0, .int .i64 0, .int .i64 0]) 5 40 (by kernel_rfl) TI.out.1 TI.out.2.1 TI.out.2.2.1 TI.out.2.2.2 rfl (by decide) _ kk (progL ((prog j).take kk)) rfl (row_allocK (row_allocK HR2.out.lrow _) _) _ 1 1 [.int .i64 c.d, .int .i64 c.r, .int .i64 c.a, .int .i64 c.b, .int .i64 c.v] rfl rfl (news_new (by simp only [zq8])) (by simp [Value.oneCell']) (by decide) (by simp only [maxLen]; omega) (by omega) (by have := HR2.out.lo; simp only [zq8]; omega) _ rfl ?next))
       case next =>
        intro g cap w5 hown hgrow hat hlt5
        have HN := Lib.hid (HR2.out.next HCD.out hown hgrow)
        clear hown hgrow hat hlt5
        go_wp2
        go_roundg (L - (kk + 1))
        case measure => omega
        case rel => exact ⟨kk + 1, _, rfl, rfl, by omega, rfl, HN.out⟩
     · obtain rfl : L = kk := by omega
       obtain ⟨ti, hti, hz0, hz1, hz2⟩ : ∃ ti, Try.prog.info? 69 = some ti ∧ ti.zero = some (.slice none 0 0) ∧ ti.size = 1 ∧ ti.bytes = 24 := ⟨_, rfl, rfl, rfl, rfl⟩
       have TI := Lib.hid (And.intro hti (And.intro hz0 (And.intro hz1 hz2)))
       clear hti hz0 hz1 hz2
       obtain ⟨lp, ln, lc, rfl⟩ := own_slice HR2.out.lrow
       go_wp2_with (at_builtin; go_loud (refine wpList_append_lies _ rfl (.tmp 44) (.tmp 46) 30 rfl w.heap.size 69 ti (.slice none 0 0) 1 24 (by kernel_rfl) TI.out.1 TI.out.2.1 TI.out.2.2.1 TI.out.2.2.2 rfl (by decide) _ j ((List.range j).map pvs) rfl (row_alloc HR2.out.o.orow _) _ 1 1 [.slice lp ln lc] rfl rfl (one_new rfl) (by simp [Value.oneCell']) (by decide) (by simp only [maxLen]; omega) (by omega) (by have := HR2.out.o.size; simp only [zq8]; omega) _ rfl ?next))
       case next =>
        intro g cap w5 hown hgrow hat hlt5
        have HN := Lib.hid (CdI.done (by rw [HLe.out]; exact HR2.out) hown hgrow)
        clear hown hgrow hat hlt5
        go_wp2
        go_roundg (n - (j + 1))
        case measure => omega
        case rel => exact ⟨j + 1, _, _, rfl, rfl, by omega, rfl, HN.out⟩
  · obtain rfl : n = j := by omega
    go_wp2
    go_ret
    exact ⟨_, pvs, rfl, HR.out⟩
def adderP : List Cd := [⟨7, 0, 0, 0, 0⟩, ⟨1, 1, 0, 0, 1⟩, ⟨3, 0, 0, 1, 0⟩, ⟨8, 0, 0, 0, 0⟩, ⟨6, 0, 0, 0, 0⟩]
theorem adder_lone (w : World) : Calls Try.prog 22 #[] w fun e w' => e = .returned (.slice (some ⟨w.heap.size, 0, none⟩) 5 5) ∧ w' = w.alloc (.cells (progL adderP).toArray 71) := by
 go_enter Try.func22, Try.ntmps22
 go_wp2
 go_ret
 exact ⟨rfl, rfl⟩
theorem awake_a : (playP (fun _ => adderP) 2 100 [0, 1, 0, 1] ⟨[0], fun _ => mch0⟩).mem.ws = [1] ∧ (playP (fun _ => adderP) 2 100 [0, 1, 0, 1] ⟨[0], fun _ => mch0⟩).ord = [0, 1, 0, 1] ∧ decide (0 < leftN (playP (fun _ => adderP) 2 100 [0, 1, 0, 1] ⟨[0], fun _ => mch0⟩).ov 2) = false := by
 refine ⟨by kernel_rfl, by kernel_rfl, by kernel_rfl⟩
theorem awake_b : (playP (fun _ => adderP) 2 100 [0, 0, 1, 1] ⟨[0], fun _ => mch0⟩).mem.ws = [2] := by kernel_rfl
theorem awake_c : (playP (fun _ => adderP) 2 3 [] ⟨[0], fun _ => mch0⟩).ord.length = 3 ∧ decide (0 < leftN (playP (fun _ => adderP) 2 3 [] ⟨[0], fun _ => mch0⟩).ov 2) = true := ⟨by kernel_rfl, by kernel_rfl⟩
noncomputable def awT (n : Nat) : Code := tailN n (Try.f8.body.getD .skip)
theorem aw0 : Try.f8.body.getD .skip = .seq (headC (awT 0)) (.seq (headC (awT 1)) (.seq (headC (awT 2)) (.seq (headC (awT 3)) (.seq (headC (awT 4)) (awT 5))))) := by kernel_rfl
theorem ProgsAt.ext {w w' : World} {pp : Option Addr} {n N : Nat} {prog : Nat → List Cd} {PB : Nat → Prop} (h : ProgsAt w pp n N prog PB) (hs : w.heap.size ≤ w'.heap.size) (ho : ∀ b, b < w.heap.size → w'.heap[b]? = w.heap[b]?) : ProgsAt w' pp n N prog PB := by
 refine ⟨fun h0 => ?_, h.le, fun b hb => Nat.lt_of_lt_of_le (h.lt b hb) hs⟩
 obtain ⟨pb, cur, e, h1, h2, h3⟩ := h.at' h0
 refine ⟨pb, cur, e, h1, (ho pb (h.lt pb h1)).trans h2, fun i hi => ?_⟩
 obtain ⟨pv, h4, h5⟩ := h3 i hi
 refine ⟨pv, h4, ?_⟩
 rcases h5 with h5 | ⟨g, cap, c2, h5, h6, h7, h8⟩
 · exact .inl h5
 · exact .inr ⟨g, cap, c2, h5, h6, (ho g (h.lt g h6)).trans h7, h8⟩
def Beyond (w w' : World) : Prop := w.heap.size ≤ w'.heap.size ∧ ∀ b, b < w.heap.size → w'.heap[b]? = w.heap[b]?
theorem Beyond.trans {w w' w'' : World} (h : Beyond w w') (k : Beyond w' w'') : Beyond w w'' := ⟨Nat.le_trans h.1 k.1, fun b hb => (k.2 b (Nat.lt_of_lt_of_le hb h.1)).trans (h.2 b hb)⟩
theorem Beyond.alloc (w : World) (o : Obj) : Beyond w (w.alloc o) := ⟨by rw [zq8]; omega, fun b hb => by rw [zqc, if_neg (by omega)]⟩
theorem Beyond.heap {w w' : World} (h : Beyond w w') {b : Nat} {o : Obj} (hb : w.heap[b]? = some o) : w'.heap[b]? = some o := (h.2 b (zq4 hb)).trans hb
theorem Beyond.cell {w w' : World} (h : Beyond w w') {a : Addr} {v : Value} (hb : w.cell? a = some v) : w'.cell? a = some v := (zqe (h.2 a.block (cell_lt hb))).trans hb
theorem PlayRes.beyond {w w' : World} {N W : Nat} {P : PSt} {ans v st : Value} {tv : Nat → Value} (h : PlayRes w N W P ans v st tv w') : Beyond w w' := ⟨h.size, h.old⟩
def AwC (w : World) (H : Nat) (t : Array Value) (w' : World) : Prop := ∃ op Cp, t = #[.bool false, .slice op 2 Cp, undef, undef, undef, .slice (some ⟨H, 0, none⟩) 5 5, .slice (some ⟨H + 1, 0, none⟩) 5 5, .slice (some ⟨H + 1 + 1, 0, none⟩) 2 2, .slice op 2 Cp, undef, undef, undef, undef, undef, undef, undef, undef, undef, undef, undef, undef, undef, undef, undef, undef, undef, undef, undef, undef, undef, undef, undef, undef, undef, undef, undef, undef, undef, undef, undef, undef, undef, undef, undef, undef, undef, undef, undef, undef, undef, undef, undef, undef, undef, undef, undef, undef, undef, undef, undef, undef, undef, undef, undef, undef, undef, undef, undef, undef, undef, undef, undef, undef, undef, undef] ∧ Beyond w w' ∧ ProgsAt w' op 2 2 (fun _ => adderP) (fun b => H + 1 + 1 + 1 ≤ b ∧ b < w'.heap.size)
theorem awake_calls {Fin : Machine → Trace → Prop} (hFin : Back Try.prog Fin) {n : Nat} (hn : 0 < n) {w : World} {c : Frame} {cs : List Frame} (hmain : ∀ w', Beyond w w' → J0 Try.prog Fin (n + 6) (G (c.finish (.bool true)) cs) w') :
 J0 Try.prog Fin n (G (Frame.enter Try.prog 8 #[] .normal) (c :: cs)) w := by
 have hJ := j0_JS hFin
 have hC := j0_calm hFin
 have e : Frame.enter Try.prog 8 #[] .normal = (bN 8).at (enterAct Try.f8 #[]) [.code ((Try.f8.body).getD .skip)] := by kernel_rfl
 have ea : enterAct Try.f8 #[] = ⟨#[undef, undef, undef, undef, undef, undef, undef, undef, undef, undef, undef, undef, undef, undef, undef, undef, undef, undef, undef, undef, undef, undef, undef, undef, undef, undef, undef, undef, undef, undef, undef, undef, undef, undef, undef, undef, undef, undef, undef, undef, undef, undef, undef, undef, undef, undef, undef, undef, undef, undef, undef, undef, undef, undef, undef, undef, undef, undef, undef, undef, undef, undef, undef, undef, undef, undef, undef, undef, undef, undef, undef, undef, undef, undef, undef], []⟩ := by kernel_rfl
 rw [e, ea, aw0]
 clear e ea
 have hm := Lib.hid hmain
 clear hmain
 obtain ⟨H, hH⟩ : ∃ H, w.heap.size = H := ⟨_, rfl⟩
 refine hJ.ctl (s := n) (fun w => stepG_seq) ?_
 refine at_lone hJ hC plainM (by kernel_rfl) (fun t w' => t = #[.bool false, undef, undef, undef, undef, undef, undef, undef, undef, undef, undef, undef, undef, undef, undef, undef, undef, undef, undef, undef, undef, undef, undef, undef, undef, undef, undef, undef, undef, undef, undef, undef, undef, undef, undef, undef, undef, undef, undef, undef, undef, undef, undef, undef, undef, undef, undef, undef, undef, undef, undef, undef, undef, undef, undef, undef, undef, undef, undef, undef, undef, undef, undef, undef, undef, undef, undef, undef, undef, undef, undef, undef, undef, undef, undef] ∧ ∃ τ d, w' = re w τ d) (fun t w' τ d h => ⟨h.1, by obtain ⟨τ', d', rfl⟩ := h.2; exact ⟨τ, d, by rw [re_re]⟩⟩) (by decide) (fun τ d => ?_) ?_
 · obtain ⟨u0, hu0⟩ : ∃ c, headC (awT 0) = c := ⟨_, rfl⟩
   have eu0 := hu0
   rw [hu0]
   simp only [awT, headC, tailN, Try.f8, al_od] at eu0
   subst eu0
   clear hu0
   go_wp2
   exact ⟨rfl, rfl, τ, d, rfl⟩
 rintro t w' ⟨rfl, τ, d, rfl⟩
 refine hJ.re' n _ _ τ d ?_
 refine hJ.ctl (s := n) (fun w => stepG_seq) ?_
 refine at_lone hJ hC plainM (by kernel_rfl) (AwC w H) (fun t w' τ d h => ?_) (by decide) (fun τ d => ?_) ?_
 · obtain ⟨op, Cp, h1, h2, h3⟩ := h
   exact ⟨op, Cp, h1, ⟨h2.1, h2.2⟩, ⟨h3.at', h3.le, h3.lt⟩⟩
 · obtain ⟨u0, hu0⟩ : ∃ c, headC (awT 1) = c := ⟨_, rfl⟩
   have eu0 := hu0
   rw [hu0]
   simp only [awT, headC, tailN, Try.f8, al_od] at eu0
   subst eu0
   clear hu0
   go_wp2_with (fail)
   refine Calls.mono (adder_lone _) ?_
   rintro e w' ⟨rfl, rfl⟩
   go_wp2_with (fail)
   refine Calls.mono (adder_lone _) ?_
   rintro e w' ⟨rfl, rfl⟩
   go_wp2_with (fail)
   obtain ⟨W3, hW3⟩ : ∃ W3, ((((re w τ d).alloc (.cells (progL adderP).toArray 71)).alloc (.cells (progL adderP).toArray 71)).alloc (.cells #[.slice (some ⟨H, 0, none⟩) 5 5, .slice (some ⟨H + 1, 0, none⟩) 5 5] 62)) = W3 := ⟨_, rfl⟩
   rw [hW3]
   have hsz : W3.heap.size = H + 1 + 1 + 1 := by rw [← hW3]; simp only [zq8, re_size, hH]
   have b0 : W3.heap[H]? = some (.cells (progL adderP).toArray 71) := by rw [← hW3, ← hH]; exact al_old (al_old (al_new (re w τ d) _))
   have b1 : W3.heap[H + 1]? = some (.cells (progL adderP).toArray 71) := by rw [← hW3]; refine al_old ?_; rw [zqc, if_pos (by rw [zq8, re_size, hH])]
   have b2 : W3.heap[H + 1 + 1]? = some (.cells #[.slice (some ⟨H, 0, none⟩) 5 5, .slice (some ⟨H + 1, 0, none⟩) 5 5] 62) := by rw [← hW3, zqc, if_pos (by simp only [zq8, re_size, hH])]
   have hbe : Beyond w W3 := by
    have h1 : Beyond w (re w τ d) := ⟨Nat.le_refl _, fun _ _ => rfl⟩
    rw [← hW3]
    exact ((h1.trans (Beyond.alloc _ _)).trans (Beyond.alloc _ _)).trans (Beyond.alloc _ _)
   clear hW3
   have hcell : ∀ B : Nat, W3.heap[B]? = some (.cells (progL adderP).toArray 71) → ∀ (k : Nat) (c : Cd), adderP[k]? = some c → ∀ j, j < 5 → W3.cell? ⟨B, 0 + k * 5 + j, none⟩ = (cdL c)[j]? := fun B hB k c hk j hj => by
    rw [zq1 hB, Nat.zero_add, ← progL_get adderP k c hk j hj]; simp
   have hrp : RefProgs W3 (some ⟨H + 1 + 1, 0, none⟩) 2 (fun _ => adderP) := fun _ => ⟨H + 1 + 1, 0, rfl, fun i hi => by
    have : i = 0 ∨ i = 1 := by omega
    rcases this with rfl | rfl
    · exact ⟨_, _, (zq1 b2).trans rfl, fun _ => ⟨H, 0, rfl, hcell H b0⟩⟩
    · exact ⟨_, _, (zq1 b2).trans rfl, fun _ => ⟨H + 1, 0, rfl, hcell (H + 1) b1⟩⟩⟩
   refine Calls.mono (codes_lone (Cp := 2) W3 (by decide) (fun i hi => by decide) hrp) ?_
   rintro e w' ⟨out, pvs, rfl, hO⟩
   obtain ⟨op, Cp, rfl, _, _⟩ := row_form hO.orow
   have HO := Lib.hid (And.intro hO (And.intro hbe hsz))
   clear hO hbe hsz hrp hcell b0 b1 b2
   go_wp2
   refine ⟨rfl, op, Cp, rfl, HO.out.2.1.trans ⟨HO.out.1.size, HO.out.1.old⟩, ?_⟩
   have := HO.out.1.progs 2 (Nat.le_refl _)
   rw [HO.out.2.2] at this
   exact this
 intro t w1 hh
 obtain ⟨op, Cp, rfl, hB1, hP1⟩ := hh
 generalize hPB : (fun b => H + 1 + 1 + 1 ≤ b ∧ b < w1.heap.size) = PB at hP1
 clear hPB hH
 refine hJ.ctl (s := n) (fun w => stepG_seq) ?_
 obtain ⟨u1, hu1⟩ : ∃ c, headC (awT 2) = c := ⟨_, rfl⟩
 have eu1 := hu1
 rw [hu1]
 simp only [awT, headC, tailN, Try.f8, al_od] at eu1
 subst eu1
 clear hu1
 refine hJ.ctl (s := n) (fun w => stepG_region) ?_
 have HK1 := Lib.hid (And.intro hB1 (And.intro hP1 True.intro))
 clear hB1 hP1
 refine at_piece (s := n) (by decide) hJ (zqg _) true (.inl rfl) 0 3 3 rfl rfl rfl (by rfl) ?_
 intro τ d
 simp only [List.drop_zero, List.take_succ_cons, List.take_zero]
 go_wp2
 simp only [contAt, re_alloc]
 refine hJ.re' n _ _ τ d ?_
 obtain ⟨wa1, hwa1⟩ : ∃ x, ((w1.alloc (.cells #[.int .i64 0] 2)).alloc (.cells #[.int .i64 0, .int .i64 1, .int .i64 0, .int .i64 1] 3)) = x := ⟨_, rfl⟩
 obtain ⟨hB1, hP1, hpf1⟩ := HK1.out
 have hbe1 : Beyond w1 wa1 := by rw [← hwa1]; exact (Beyond.alloc _ _).trans (Beyond.alloc _ _)
 have hwd1 : wa1.heap[w1.heap.size]? = some (.cells #[.int .i64 0] 2) := by rw [← hwa1]; exact al_old (al_new _ _)
 have hsc1 : wa1.heap[w1.heap.size + 1]? = some (.cells #[.int .i64 0, .int .i64 1, .int .i64 0, .int .i64 1] 3) := by rw [← hwa1, zqc, if_pos (by rw [zq8])]
 rw [hwa1]
 clear hwa1
 refine at_call (by decide) hJ (s := n) rfl rfl (f := 9) (args := #[.slice (some ⟨w1.heap.size, 0, none⟩) 1 1, .slice op 2 Cp, .slice (some ⟨w1.heap.size + 1, 0, none⟩) 4 4, .int .i64 100]) (fun τ d => ?_) (fun τ d => ?_) ?_
 · simp [go_sem, execOp, Act.eval, resolve, Deferred.ofValue, invoke, callFunc, Try.func9, Try.f9]
 · intro e he
   simp [go_sem, execOp, Act.eval, resolve, Deferred.ofValue, invoke, callFunc, Try.func9, Try.f9, Sem.runT_eq] at he
 refine play_calls hFin (n := n) (by omega) (W := 1) (C := 1) (np := 2) (Cp := Cp) (Cs := 4) (ws := [0]) (sched := [0, 1, 0, 1]) (prog := fun _ => adderP) (PB := PB) (mo := 100) (N := 2) rfl (by decide) (by decide) (by decide) (fun _ => ⟨_, 0, rfl, fun i hi => by
  obtain rfl : i = 0 := by omega
  exact (zq1 hwd1).trans rfl⟩) rfl (hP1.ext hbe1.1 hbe1.2) (fun _ => ⟨w1.heap.size + 1, 0, rfl, fun hPBx => by have := hP1.lt _ hPBx; omega, fun j x hj => by
  have hj4 : j < 4 := (List.getElem?_eq_some_iff.1 hj).1
  rw [zq1 hsc1]
  obtain rfl | rfl | rfl | rfl : j = 0 ∨ j = 1 ∨ j = 2 ∨ j = 3 := by omega
  all_goals (simp at hj; subst hj; rfl)⟩) ?_
 intro ans1 ord1 st1 tv1 v1 hR1
 rw [show min (100 : Int).toNat 1048576 = 100 from by decide] at hR1 ⊢
 obtain ⟨pa1, ca1, rfl, _, _⟩ := row_form hR1.arow
 obtain ⟨pv1, cv1, rfl, _, _⟩ := row_form hR1.orow
 obtain ⟨ps1, cst1, rfl, _, hst1⟩ := row_form hR1.srow
 obtain ⟨g1, rfl, _, hcl1⟩ := hst1 (by decide)
 have hbv1 : Beyond w1 v1 := hbe1.trans hR1.beyond
 have hol : (playP (fun _ => adderP) 2 100 [0, 1, 0, 1] ⟨[0], fun _ => mch0⟩).ord.length = 4 := by rw [awake_a.2.1]; rfl
 rw [hol, awake_a.2.2]
 have hx1 : v1.cell? ⟨g1, 0, none⟩ = some (.int .i64 1) := hcl1 0 _ (by rw [awake_a.1]; rfl)
 rw [Frame.finish_at]
 walk_nrm
 have HQ1 := Lib.hid (And.intro hB1 (And.intro hP1 (And.intro hpf1 (And.intro hbv1 hx1))))
 clear hR1 hcl1 hst1 hB1 hP1 hpf1 hbv1 hx1 hbe1 hwd1 HK1 hsc1 hol
 refine at_piece (s := (n + 2)) (by decide) hJ (zqg _) false (.inr rfl) 4 2 0 rfl rfl rfl (by rfl) ?_
 intro τ d
 simp only [List.drop_succ_cons, List.drop_zero, List.take_succ_cons, List.take_zero]
 generalize hvr : re v1 τ d = vr
 go_wp2
 simp only [contAt]
 subst hvr
 simp only [re_alloc, re_size]
 refine hJ.re' (n + 2) _ _ τ d ?_
 obtain ⟨w2, hw2⟩ : ∃ x, v1.alloc (.cells #[.slice pa1 2 ca1, .slice pv1 4 cv1, .slice (some ⟨g1, 0, none⟩) 1 cst1, .bool false] 28) = x := ⟨_, rfl⟩
 have hbn1 : Beyond v1 w2 := by rw [← hw2]; exact Beyond.alloc _ _
 have hT1 : w2.heap[v1.heap.size]? = some (.cells #[.slice pa1 2 ca1, .slice pv1 4 cv1, .slice (some ⟨g1, 0, none⟩) 1 cst1, .bool false] 28) := by rw [← hw2]; exact al_new _ _
 rw [hw2]
 clear hw2
 obtain ⟨bT1, hbT1⟩ : ∃ x, v1.heap.size = x := ⟨_, rfl⟩
 rw [hbT1] at hT1 ⊢
 clear hbT1
 obtain ⟨hB1, hP1, hpf1, hbv1, hx1⟩ := HQ1.out
 have hB2 := hB1.trans (hbv1.trans hbn1)
 have hP2 := hP1.ext (hbv1.trans hbn1).1 (hbv1.trans hbn1).2
 have hF1 := And.intro hpf1 (And.intro hbv1 (And.intro hbn1 (And.intro hx1 hT1)))
 clear hB1 hP1 hpf1 hbv1 hbn1 hx1 hT1 HQ1
 refine hJ.ctl (s := (n + 2)) (fun w => stepG_region_end) ?_
 refine hJ.ctl (s := (n + 2)) (fun w => stepG_seq) ?_
 obtain ⟨u2, hu2⟩ : ∃ c, headC (awT 3) = c := ⟨_, rfl⟩
 have eu2 := hu2
 rw [hu2]
 simp only [awT, headC, tailN, Try.f8, al_od] at eu2
 subst eu2
 clear hu2
 refine hJ.ctl (s := (n + 2)) (fun w => stepG_region) ?_
 have HK2 := Lib.hid (And.intro hB2 (And.intro hP2 hF1))
 clear hB2 hP2 hF1
 refine at_piece (s := (n + 2)) (by decide) hJ (zqg _) true (.inl rfl) 0 3 3 rfl rfl rfl (by rfl) ?_
 intro τ d
 simp only [List.drop_zero, List.take_succ_cons, List.take_zero]
 go_wp2
 simp only [contAt, re_alloc]
 refine hJ.re' (n + 2) _ _ τ d ?_
 obtain ⟨wa2, hwa2⟩ : ∃ x, ((w2.alloc (.cells #[.int .i64 0] 2)).alloc (.cells #[.int .i64 0, .int .i64 0, .int .i64 1, .int .i64 1] 3)) = x := ⟨_, rfl⟩
 obtain ⟨hB2, hP2, hpf2⟩ := HK2.out
 have hbe2 : Beyond w2 wa2 := by rw [← hwa2]; exact (Beyond.alloc _ _).trans (Beyond.alloc _ _)
 have hwd2 : wa2.heap[w2.heap.size]? = some (.cells #[.int .i64 0] 2) := by rw [← hwa2]; exact al_old (al_new _ _)
 have hsc2 : wa2.heap[w2.heap.size + 1]? = some (.cells #[.int .i64 0, .int .i64 0, .int .i64 1, .int .i64 1] 3) := by rw [← hwa2, zqc, if_pos (by rw [zq8])]
 rw [hwa2]
 clear hwa2
 refine at_call (by decide) hJ (s := (n + 2)) rfl rfl (f := 9) (args := #[.slice (some ⟨w2.heap.size, 0, none⟩) 1 1, .slice op 2 Cp, .slice (some ⟨w2.heap.size + 1, 0, none⟩) 4 4, .int .i64 100]) (fun τ d => ?_) (fun τ d => ?_) ?_
 · simp [go_sem, execOp, Act.eval, resolve, Deferred.ofValue, invoke, callFunc, Try.func9, Try.f9]
 · intro e he
   simp [go_sem, execOp, Act.eval, resolve, Deferred.ofValue, invoke, callFunc, Try.func9, Try.f9, Sem.runT_eq] at he
 refine play_calls hFin (n := (n + 2)) (by omega) (W := 1) (C := 1) (np := 2) (Cp := Cp) (Cs := 4) (ws := [0]) (sched := [0, 0, 1, 1]) (prog := fun _ => adderP) (PB := PB) (mo := 100) (N := 2) rfl (by decide) (by decide) (by decide) (fun _ => ⟨_, 0, rfl, fun i hi => by
  obtain rfl : i = 0 := by omega
  exact (zq1 hwd2).trans rfl⟩) rfl (hP2.ext hbe2.1 hbe2.2) (fun _ => ⟨w2.heap.size + 1, 0, rfl, fun hPBx => by have := hP2.lt _ hPBx; omega, fun j x hj => by
  have hj4 : j < 4 := (List.getElem?_eq_some_iff.1 hj).1
  rw [zq1 hsc2]
  obtain rfl | rfl | rfl | rfl : j = 0 ∨ j = 1 ∨ j = 2 ∨ j = 3 := by omega
  all_goals (simp at hj; subst hj; rfl)⟩) ?_
 intro ans2 ord2 st2 tv2 v2 hR2
 rw [show min (100 : Int).toNat 1048576 = 100 from by decide] at hR2 ⊢
 obtain ⟨pa2, ca2, rfl, _, _⟩ := row_form hR2.arow
 obtain ⟨pv2, cv2, rfl, _, _⟩ := row_form hR2.orow
 obtain ⟨ps2, cst2, rfl, _, hst2⟩ := row_form hR2.srow
 obtain ⟨g2, rfl, _, hcl2⟩ := hst2 (by decide)
 have hbv2 : Beyond w2 v2 := hbe2.trans hR2.beyond
 have hx2 : v2.cell? ⟨g2, 0, none⟩ = some (.int .i64 2) := hcl2 0 _ (by rw [awake_b]; rfl)
 obtain ⟨ol2, hol2⟩ : ∃ x, (playP (fun _ => adderP) 2 100 [0, 0, 1, 1] ⟨[0], fun _ => mch0⟩).ord.length = x := ⟨_, rfl⟩
 obtain ⟨lf2, hlf2⟩ : ∃ x, decide (0 < leftN (playP (fun _ => adderP) 2 100 [0, 0, 1, 1] ⟨[0], fun _ => mch0⟩).ov 2) = x := ⟨_, rfl⟩
 rw [hol2, hlf2]
 rw [Frame.finish_at]
 walk_nrm
 have HQ2 := Lib.hid (And.intro hB2 (And.intro hP2 (And.intro hpf2 (And.intro hbv2 hx2))))
 clear hR2 hcl2 hst2 hB2 hP2 hpf2 hbv2 hx2 hbe2 hwd2 HK2 hsc2 hol2 hlf2
 refine at_piece (s := (n + 2 + 2)) (by decide) hJ (zqg _) false (.inr rfl) 4 2 0 rfl rfl rfl (by rfl) ?_
 intro τ d
 simp only [List.drop_succ_cons, List.drop_zero, List.take_succ_cons, List.take_zero]
 generalize hvr : re v2 τ d = vr
 go_wp2
 simp only [contAt]
 subst hvr
 simp only [re_alloc, re_size]
 refine hJ.re' (n + 2 + 2) _ _ τ d ?_
 obtain ⟨w3, hw3⟩ : ∃ x, v2.alloc (.cells #[.slice pa2 2 ca2, .slice pv2 ol2 cv2, .slice (some ⟨g2, 0, none⟩) 1 cst2, .bool lf2] 28) = x := ⟨_, rfl⟩
 have hbn2 : Beyond v2 w3 := by rw [← hw3]; exact Beyond.alloc _ _
 have hT2 : w3.heap[v2.heap.size]? = some (.cells #[.slice pa2 2 ca2, .slice pv2 ol2 cv2, .slice (some ⟨g2, 0, none⟩) 1 cst2, .bool lf2] 28) := by rw [← hw3]; exact al_new _ _
 rw [hw3]
 clear hw3
 obtain ⟨bT2, hbT2⟩ : ∃ x, v2.heap.size = x := ⟨_, rfl⟩
 rw [hbT2] at hT2 ⊢
 clear hbT2
 obtain ⟨hB2, hP2, hpf2, hbv2, hx2⟩ := HQ2.out
 have hB3 := hB2.trans (hbv2.trans hbn2)
 have hP3 := hP2.ext (hbv2.trans hbn2).1 (hbv2.trans hbn2).2
 have hF2 := And.intro hpf2 (And.intro hbv2 (And.intro hbn2 (And.intro hx2 hT2)))
 clear hB2 hP2 hpf2 hbv2 hbn2 hx2 hT2 HQ2
 refine hJ.ctl (s := (n + 2 + 2)) (fun w => stepG_region_end) ?_
 refine hJ.ctl (s := (n + 2 + 2)) (fun w => stepG_seq) ?_
 obtain ⟨u3, hu3⟩ : ∃ c, headC (awT 4) = c := ⟨_, rfl⟩
 have eu3 := hu3
 rw [hu3]
 simp only [awT, headC, tailN, Try.f8, al_od] at eu3
 subst eu3
 clear hu3
 refine hJ.ctl (s := (n + 2 + 2)) (fun w => stepG_region) ?_
 have HK3 := Lib.hid (And.intro hB3 (And.intro hP3 hF2))
 clear hB3 hP3 hF2
 refine at_piece (s := (n + 2 + 2)) (by decide) hJ (zqg _) true (.inl rfl) 0 2 3 rfl rfl rfl (by rfl) ?_
 intro τ d
 simp only [List.drop_zero, List.take_succ_cons, List.take_zero]
 go_wp2
 simp only [contAt, re_alloc]
 refine hJ.re' (n + 2 + 2) _ _ τ d ?_
 obtain ⟨wa3, hwa3⟩ : ∃ x, (w3.alloc (.cells #[.int .i64 0] 2)) = x := ⟨_, rfl⟩
 obtain ⟨hB3, hP3, hpf3⟩ := HK3.out
 have hbe3 : Beyond w3 wa3 := by rw [← hwa3]; exact Beyond.alloc _ _
 have hwd3 : wa3.heap[w3.heap.size]? = some (.cells #[.int .i64 0] 2) := by rw [← hwa3]; exact al_new _ _
 rw [hwa3]
 clear hwa3
 refine at_call (by decide) hJ (s := (n + 2 + 2)) rfl rfl (f := 9) (args := #[.slice (some ⟨w3.heap.size, 0, none⟩) 1 1, .slice op 2 Cp, .slice none 0 0, .int .i64 3]) (fun τ d => ?_) (fun τ d => ?_) ?_
 · simp [go_sem, execOp, Act.eval, resolve, Deferred.ofValue, invoke, callFunc, Try.func9, Try.f9]
 · intro e he
   simp [go_sem, execOp, Act.eval, resolve, Deferred.ofValue, invoke, callFunc, Try.func9, Try.f9, Sem.runT_eq] at he
 refine play_calls hFin (n := (n + 2 + 2)) (by omega) (W := 1) (C := 1) (np := 2) (Cp := Cp) (Cs := 0) (ws := [0]) (sched := []) (prog := fun _ => adderP) (PB := PB) (mo := 3) (N := 2) rfl (by decide) (by decide) (by decide) (fun _ => ⟨_, 0, rfl, fun i hi => by
  obtain rfl : i = 0 := by omega
  exact (zq1 hwd3).trans rfl⟩) rfl (hP3.ext hbe3.1 hbe3.2) (fun h => absurd rfl h) ?_
 intro ans3 ord3 st3 tv3 v3 hR3
 rw [show min (3 : Int).toNat 1048576 = 3 from by decide] at hR3 ⊢
 obtain ⟨pa3, ca3, rfl, _, _⟩ := row_form hR3.arow
 obtain ⟨pv3, cv3, rfl, _, _⟩ := row_form hR3.orow
 obtain ⟨ps3, cst3, rfl, _, hst3⟩ := row_form hR3.srow
 obtain ⟨g3, rfl, _, hcl3⟩ := hst3 (by decide)
 have hbv3 : Beyond w3 v3 := hbe3.trans hR3.beyond
 have hx3 : True := True.intro
 rw [awake_c.1, awake_c.2]
 rw [Frame.finish_at]
 walk_nrm
 have HQ3 := Lib.hid (And.intro hB3 (And.intro hP3 (And.intro hpf3 (And.intro hbv3 hx3))))
 clear hR3 hcl3 hst3 hB3 hP3 hpf3 hbv3 hx3 hbe3 hwd3 HK3
 refine at_piece (s := (n + 2 + 2 + 2)) (by decide) hJ (zqg _) false (.inr rfl) 3 2 0 rfl rfl rfl (by rfl) ?_
 intro τ d
 simp only [List.drop_succ_cons, List.drop_zero, List.take_succ_cons, List.take_zero]
 generalize hvr : re v3 τ d = vr
 go_wp2
 simp only [contAt]
 subst hvr
 simp only [re_alloc, re_size]
 refine hJ.re' (n + 2 + 2 + 2) _ _ τ d ?_
 obtain ⟨w4, hw4⟩ : ∃ x, v3.alloc (.cells #[.slice pa3 2 ca3, .slice pv3 3 cv3, .slice (some ⟨g3, 0, none⟩) 1 cst3, .bool true] 28) = x := ⟨_, rfl⟩
 have hbn3 : Beyond v3 w4 := by rw [← hw4]; exact Beyond.alloc _ _
 have hT3 : w4.heap[v3.heap.size]? = some (.cells #[.slice pa3 2 ca3, .slice pv3 3 cv3, .slice (some ⟨g3, 0, none⟩) 1 cst3, .bool true] 28) := by rw [← hw4]; exact al_new _ _
 rw [hw4]
 clear hw4
 obtain ⟨bT3, hbT3⟩ : ∃ x, v3.heap.size = x := ⟨_, rfl⟩
 rw [hbT3] at hT3 ⊢
 clear hbT3
 obtain ⟨hB3, hP3, hpf3, hbv3, hx3⟩ := HQ3.out
 have hB4 := hB3.trans (hbv3.trans hbn3)
 have hP4 := hP3.ext (hbv3.trans hbn3).1 (hbv3.trans hbn3).2
 have hF3 := And.intro hpf3 (And.intro hbv3 (And.intro hbn3 (And.intro hx3 hT3)))
 clear hB3 hP3 hpf3 hbv3 hbn3 hx3 hT3 HQ3
 refine hJ.ctl (s := (n + 2 + 2 + 2)) (fun w => stepG_region_end) ?_
 obtain ⟨⟨⟨_, hbv1, hbn1, hx1, hT1⟩, hbv2, hbn2, hx2, hT2⟩, hbv3, hbn3, _, hT3⟩ := hF3
 have c3 : Beyond w3 w4 := hbv3.trans hbn3
 have c2 : Beyond w2 w4 := (hbv2.trans hbn2).trans c3
 have k10 := (zq1 (off := 0) (c2.heap hT1)).trans rfl
 have k11 := (zq1 (off := 1) (c2.heap hT1)).trans rfl
 have k12 := (zq1 (off := 2) (c2.heap hT1)).trans rfl
 have k13 := (zq1 (off := 3) (c2.heap hT1)).trans rfl
 have k20 := (zq1 (off := 0) (c3.heap hT2)).trans rfl
 have k21 := (zq1 (off := 1) (c3.heap hT2)).trans rfl
 have k22 := (zq1 (off := 2) (c3.heap hT2)).trans rfl
 have k23 := (zq1 (off := 3) (c3.heap hT2)).trans rfl
 have k30 := (zq1 (off := 0) hT3).trans rfl
 have k31 := (zq1 (off := 1) hT3).trans rfl
 have k32 := (zq1 (off := 2) hT3).trans rfl
 have k33 := (zq1 (off := 3) hT3).trans rfl
 have x1 := (hbn1.trans c2).cell hx1
 have x2 := (hbn2.trans c3).cell hx2
 clear hbv1 hbn1 hx1 hT1 hbv2 hbn2 hx2 hT2 hbv3 hbn3 hT3 c2 c3 hP4
 have HB := Lib.hid hB4
 clear hB4
 refine at_rest_lone hJ hC plainM (by kernel_rfl) (fun v w' => v = .bool true ∧ Beyond w w') (fun v w' τ d h => ⟨h.1, ⟨h.2.1, h.2.2⟩⟩) rfl Try.func8 (fun τ d => ?_) ?_
 · obtain ⟨u0, hu0⟩ : ∃ c, awT 5 = c := ⟨_, rfl⟩
   have eu0 := hu0
   rw [hu0]
   simp only [awT, headC, tailN, Try.f8, al_od] at eu0
   subst eu0
   clear hu0
   go_wp2
   go_ret
   exact ⟨_, rfl, rfl, ⟨HB.out.1, HB.out.2⟩⟩
 · rintro v w' ⟨rfl, h⟩
   exact hm.out w' h
end Go.Proofs
namespace Go.Car
open Go
structure MRel (len : Nat) (r m : Mch) : Prop where
 regs : r.regs = m.regs
 told : r.told = m.told
 next : r.next = m.next ∨ ((r.next < 0 ∨ (len : Int) ≤ r.next) ∧ (m.next < 0 ∨ (len : Int) ≤ m.next))
theorem ownC_most (c : Cd) (m : Mch) : (ownC c m).most = m.most := by
 unfold ownC Mch.on Mch.set; repeat' split
 all_goals rfl
section
variable {prog : Nat → List Cd} {N most : Nat}
end
end Go.Car
namespace Go.Car
open Go
end Go.Car
set_option maxHeartbeats 4000000
set_option maxRecDepth 100000
namespace Go.Proofs
open Go Go.Conc Go.RowKit Go.Car
section
variable {tb : Nat} {cp : Option Addr} {len C : Nat} {tv : Value} {m : Mch} {e : Bool} {w : World}
end
section
variable {tb : Nat} {cp : Option Addr} {len C base W : Nat} {pr : List Cd} {tv0 tv : Value} {m0 m : Mch} {w wr : World} {j : Nat}
end
section
variable {tb : Nat} {cp : Option Addr} {len C base : Nat} {tv : Value} {sb W scap : Nat} {m : Mch} {ws : List Int} {w : World}
end
section
variable {ub : Nat} {lv : Value} {most : Nat} {l : List Int} {a r : Nat} {ov : Value} {ord : List Nat} {ev : Value} {en : Nat → Bool} {N base : Nat} {w : World}
end
section
variable {base W : Nat} {stv lv ev : Value} {prog : Nat → List Cd} {cp : Nat → Option Addr} {C : Nat → Nat} {nl ne n : Nat} {tb : Nat → Nat} {tv : Nat → Value} {th : Nat → Mch} {en er : Nat → Bool} {ws : List Int} {w : World}
end
end Go.Proofs
set_option maxHeartbeats 1000000
namespace Go.Car
open Go Go.Conc Go.RowKit
section
variable {P : Program}
def FinOf (P : Program) (Post : Value → World → Prop) (m : Machine) (T : Trace) : Prop :=
 ∃ N last o w' t', runNT P (N + 1) m T = (.ended o w', t') ∧ runN P N m = .next last ∧ step P last = .ended o w' ∧ Conc.Good P (fun v w => Post v w ∧ w.os = m.world.os ∧ w.output = m.world.output) last o w' t'
theorem back_fin (Post : Value → World → Prop) : Back P (FinOf P Post) := by
 intro N m T m' T' hrun e1 e2 ⟨M, last, o, w', t', h1, h2, h3, h4⟩
 rw [e1, e2] at h4
 have hn : runN P N m = .next m' := by rw [← runNT_fst P _ _ T, hrun]
 refine ⟨N + M, last, o, w', t', ?_, ?_, h3, h4⟩
 · rw [Nat.add_assoc, runNT_add, hrun]; exact h1
 · rw [runN_add, hn]; exact h2
theorem j0_end {Post : Value → World → Prop} (hPost : ∀ v w τ d, Post v w → Post v (re w τ d)) {n : Nat} {b : Frame} (hb : b.kind = .normal) (hini : P.inits.idxOf? b.fn = none) {fn : Func} (hf : P.funcs[b.fn]? = some fn) {t : Array Value} {todo : List Item} {w : World} {v : Value}
 (hr : (results fn t).run P w = .ok v w) (hp : Post v w) : J0 P (FinOf P Post) n (G { b.at ⟨t, []⟩ todo with mode := .returning } []) w := by
 intro τ d Mem B gs sl T q hM hsz hg hR
 obtain ⟨hL, hP⟩ := ring_end hR hM (fun _ _ => rfl)
 obtain ⟨es, hes⟩ : ∃ es, ((results fn t).runT P w #[]).2 = es := ⟨_, rfl⟩
 have hT : ∀ τ d, (results fn t).runT P (re w τ d) #[] = (.ok v (re w τ d), es) := fun τ d => by
  obtain ⟨_, _, h3⟩ := runT_re _ (tame_more _ (tame_results (P := P) fn t)) w #[]
  have h4 : ((results fn t).runT P w #[]).1 = .ok v w := by rw [Sem.runT_eq]; exact hr
  have := h3 τ d (fun j hj => by rw [h4] at hj; simp only [resW] at hj; omega)
  rw [h4, hes] at this
  simp only [resRe, resW, Nat.sub_self, Nat.add_zero] at this
  exact this
 have hcalm : ∀ e ∈ es, calmEv true e := fun e he => by
  rw [← hes] at he
  have := (runT_calm _ (tame_results (P := P) fn t) w #[] e he).resolve_left (by simp)
  exact ⟨this.1, fun h => by cases h⟩
 obtain ⟨B2, hB2⟩ := low_exists es
 have hP2 : Past (fun _ => False) (max B B2) T := hP.mono (Nat.le_max_left _ _)
 refine beside_ends (Shun := fun _ => False) (B := max B B2) (D := fun _ _ _ => False) (n := 0) (fun _ _ _ h => h.elim) hg hL hP2 ?_
 rintro w₁ ⟨d₁, rfl⟩
 have hw : ∃ τ' d', (((re w τ 0).at d).at d₁) = re w τ' d' := ⟨τ, d₁, rfl⟩
 obtain ⟨τ', d', hw⟩ := hw
 rw [hw]
 refine ⟨rfl, v, seen P b.fn es, ?_, fun e he => ?_, hPost _ _ _ _ hp, rfl, rfl⟩
 · simp only [G, stepG, unwind, Frame.at, hf, hT τ' d', GStep.after, doReturn]
   simp [GStep.after, hb, hini]
 · have he' := mem_seen he
   obtain ⟨k1, k2⟩ := calm_marks (hcalm e he')
   exact ⟨fun x _ h => h.elim, k1, k2, MemAct.low_mono (Nat.le_max_right _ _) (hB2 e he')⟩
theorem j0_run {Post : Value → World → Prop} {f : FuncId} {fn : Func} {c : Code} {args : Array Value} {W : World} (hf : P.funcs[f]? = some fn) (hb : fn.body = some c)
 (h : J0 P (FinOf P Post) 1 (G (Frame.enter P f args .normal) []) W) : FinOf P Post (solo (G (Frame.enter P f args .normal) []) W) #[] := by
 have hL : Leavers P (#[] : Trace) #[G (Frame.enter P f args .normal) []] (fun _ => 0) := ⟨fun i g hi hg => by
  rcases i with _ | i
  · omega
  · simp at hg, fun j _ => rfl⟩
 have hP : Past (fun _ => False) 0 (#[] : Trace) := past_nil
 have hR := ring_begin (P := P) (K := KK (fun _ => none)) (Still := StillK (fun _ => none)) (w := W.at W.drawn) (B := 0) (fun l ⟨a, v, _, hv⟩ => by cases hv) hL hP (KK_none _)
 have := h W.tape W.drawn (fun g => g = 0) 0 #[G (Frame.enter P f args .normal) []] none #[] (fun _ => 0) rfl rfl rfl hR
 rw [solo_eq_crowd]
 exact this
end
end Go.Car
namespace Go.Car
open Go Go.Conc Go.RowKit
section
variable {P : Program} {A : FuncId → Bool}
theorem at_rest_end {Post : Value → World → Prop} (hPost : ∀ v w τ d, Post v w → Post v (re w τ d)) (hP : Plain P A) {c : Code} (hc : okCode P A c = true) {n : Nat} {b : Frame} (hb : b.kind = .normal) (hini : P.inits.idxOf? b.fn = none) {fn : Func} (hf : P.funcs[b.fn]? = some fn) {t : Array Value} {w : World}
 (h : ∀ τ d, Code.wp P c (bodyPost P fn fun e w' => ∃ v, e = .returned v ∧ Post v w') ⟨t, []⟩ (re w τ d)) : J0 P (FinOf P Post) n (G (b.at ⟨t, []⟩ [.code c]) []) w := by
 have hFin := back_fin (P := P) Post
 have hJ := j0_JS hFin
 have hC := j0_calm hFin
 let Φ : Act → World → Prop := fun a w => ∃ v, (results fn a.tmps).run P w = .ok v w ∧ Post v w
 have hΦ : ∀ a w τ d, Φ a w → Φ a (re w τ d) := fun a w τ d ⟨v, h1, h2⟩ => ⟨v, results_re h1 τ d, hPost _ _ _ _ h2⟩
 have hleave : ∀ (t : Array Value) (w : World) (todo : List Item), Φ ⟨t, []⟩ w → J0 P (FinOf P Post) n (G { b.at ⟨t, []⟩ todo with mode := .returning } []) w := fun t w todo ⟨v, h1, h2⟩ => j0_end hPost hb hini hf h1 h2
 refine wpJ_lone (Q := fun s' e a' w' => s' = n ∧ (e = .normal ∨ e = .ret) ∧ a'.defers = [] ∧ Φ a' w') hJ hC hP hc Φ Φ hΦ hΦ (fun τ d => ?_) (fun t w h => ⟨rfl, .inl rfl, rfl, h⟩) (fun t w h => ⟨rfl, .inr rfl, rfl, h⟩) b [] [] (by rw [hb]; decide) ?_
 · refine Code.wp_mono ?_ (h τ d)
   intro e a w hh
   cases e with
   | normal => obtain ⟨h1, v, h2, v', h3, h4⟩ := hh; cases h3; exact ⟨h1, v, h2, h4⟩
   | ret => obtain ⟨h1, v, h2, v', h3, h4⟩ := hh; cases h3; exact ⟨h1, v, h2, h4⟩
   | panic ch => obtain ⟨h1, v, h2, _⟩ := hh; cases h2
   | outgrown => obtain ⟨v, h2, _⟩ := hh; cases h2
   | _ => exact hh
 · rintro s' e ⟨t', ds⟩ w' ⟨rfl, he, hd, h⟩
   simp only at hd
   subst hd
   rcases he with rfl | rfl
   · exact hJ.ctl (fun w => stepG_end) (hleave t' w' [] h)
   · exact fun todo => hleave t' w' todo h
end
end Go.Car
set_option maxHeartbeats 4000000
set_option maxRecDepth 100000
namespace Go.Proofs
open Go Go.Conc Go.RowKit Go.Car
end Go.Proofs
set_option maxHeartbeats 4000000
namespace Go.Proofs
open Go Go.Conc Go.RowKit Go.Car Go.ChangeShapes Go.WideShapes Go.Deep
section
variable {H : Type} {enc : TypeId × Value → H} {P : Program} {w : World} {held : Bool} {sp : Nat → Bool}
end
end Go.Proofs
namespace Go.Car
open Go Go.Conc
theorem leaving_of_cond {H : Type} {enc : TypeId × Value → H} {a : Assume} {C : Checked} {os : Os} {f : FuncId} {fn : Func} {s : OpenSpec} {k : (H : Type) → List (DataW H) → Bool} (hk : s.cond = some k) {F : Stop.Interp} {conds : List PathCond} {apart fresh handsOn again : Bool}
 (own : ownKnob C.prog.godebug = none) (started : os.Started) (hfn : C.prog.funcs[f]? = some fn)
 (witness : ∃ (w : World) (tape : Tape) (i : Input), w.os = os ∧ (w.forCall tape i).Shaped C.prog ∧ i.vars = [] ∧ Input.okWide C.prog (w.forCall tape i) .any w.heap.size f i ∧
  s.pre6 enc C.prog fn conds apart (w.forCall tape i).memory i.args ∧ a.holds C.prog (lone (Frame.enter C.prog f i.args .normal) [] (w.forCall tape i)))
 (runs : ∀ (W : World) (base : Nat) (args : Array Value) (ds gs : List (DataW H)) (before : List MemPlace),
  (∀ (j : Nat) t v, fn.params[j]? = some t → args[j]? = some v → Value.okWide C.prog W .any base t v) →
  DataW.Whole enc C.prog fn.params.toList s.vars apart W args.toList ds gs before → k H (ds ++ gs) = true →
  ∃ M last o w' t', runNT C.prog (M + 1) (solo (G (Frame.enter C.prog f args .normal) []) W) #[] = (.ended o w', t') ∧ runN C.prog M (solo (G (Frame.enter C.prog f args .normal) []) W) = .next last ∧
   step C.prog last = .ended o w' ∧ Conc.Good C.prog (fun v W' => (s.at F).post enc C.prog fn apart fresh handsOn again W args v W') last o w' t') :
 ReturnsInLeavingWide a C os f .any (s.pre6 enc C.prog fn conds apart) ((s.at F).post enc C.prog fn apart fresh handsOn again) := by
 refine returnsInLeavingWide_of_good own started witness ?_
 intro w tape i _ _ _ hok hpre _
 obtain ⟨_, _, _, fn', hfn', _, _, _, _, hval⟩ := hok
 obtain rfl : fn' = fn := Option.some.inj (hfn'.symm.trans hfn)
 obtain ⟨ds, gs, before, hw, _, hkk⟩ := (OpenSpec.pre_some hk conds apart _ _).1 hpre.1
 obtain ⟨M, last, o, w', t', h1, h2, h3, h4⟩ := runs (w.forCall tape i) w.heap.size i.args ds gs before hval (DataW.Whole.of_heap (w' := w.forCall tape i) (by rfl) hw) hkk
 exact ⟨M, last, o, w', t', h1, h2, h3, h4.mono fun v hp => ChangeSpec.post_blind hp⟩
theorem holds_leaving_cond {p : Pinned} {s : OpenSpec} {c : OpenClaim} (f : FuncId) (fn : Func)
 (hn : c.program = p.name) (hs : c.sum = p.sum) (hsp : c.spec = s.name)
 (hstart : c.start = .entering) (hout : c.outside = []) (hin : c.inits = []) (hun : c.under = none) (hi4 : c.initsInPlace = [] ∧ c.initsUnfollowed = false ∧ c.initsRecurse = false ∧ c.initsNamed = [] ∧ c.initsPassed = []) (hnb : c.noBlocks = false) (hlv : c.leaving = true) (hfo : c.followed = none) (hnar : c.narrowed = s.cond.isSome) (hstill : c.still = false)
 (hfn : p.checked.prog.funcNamed c.func = some f) (hf : p.checked.prog.funcs[f]? = some fn)
 (closed : joinedFacts p.checked.prog f fn s.bare c = true)
 (hinst : fn.isInstance p.checked.prog c.origin c.targs) (hwrap : fn.isWrapper p.checked.prog c.wrapper c.mainSum)
 (h : ∀ os : Os, os.Started → ∀ (H : Type) (enc : TypeId × Value → H), (∀ a b, enc a = enc b → a = b) → ∀ F : Stop.Interp,
  ReturnsInLeavingWide c.assume p.checked os f .any (c.pre enc p.checked.prog fn s) ((s.at F).post enc p.checked.prog fn c.apart c.fresh c.handsOn c.again)) : c.holds p s := by
 simp only [joinedFacts, Bool.and_eq_true, beq_iff_eq, Array.all_eq_true_iff_forall_mem, List.all_eq_true, decide_eq_true_eq] at closed
 obtain ⟨⟨⟨⟨⟨⟨⟨⟨⟨⟨⟨⟨⟨⟨⟨⟨⟨⟨⟨⟨⟨⟨⟨⟨⟨⟨⟨⟨⟨⟨⟨a1, a2⟩, a3⟩, a4⟩, a5⟩, a6⟩, a7⟩, a8⟩, a9⟩, a10⟩, a11⟩, a12⟩, a13⟩, a14⟩, a15⟩, a16⟩, a17⟩, b17⟩, a18⟩, a19⟩, a20⟩, a21⟩, a22⟩, a23⟩, b23⟩, a24⟩, b24⟩, c24⟩, a25⟩, a26⟩, a27⟩, a28⟩ := closed
 have quiet : ∀ os : Os, Stop.quiet p.checked.prog os := fun os k hk => by rw [a9] at hk; cases hk
 have fits : c.startFits p.checked.prog := by unfold OpenClaim.startFits; rw [hstart]; exact a24
 have told : c.startTold p.checked.prog := by unfold OpenClaim.startTold; rw [hstart]; exact ⟨hin, hun, hi4⟩
 have named : namedTie p.checked.prog c.namedList s.vars = true := by unfold OpenClaim.namedList; rw [hfo]; exact a5
 have worded : p.checked.prog.envWorded = true := by unfold Program.envWorded; rw [a9]; rfl
 have world0 : ∃ os : Os, c.world os ∧ Stop.quiet p.checked.prog os := ⟨_, by unfold OpenClaim.world; rw [hout, hstart]; exact WideRow.started_initial, quiet _⟩
 have lists0 : c.lists p.checked.prog [] := by unfold OpenClaim.lists; rw [hfo]
 refine ⟨a1, hn, hs, hsp, a2, a3, fits, told, f, fn, hfn, hf, ⟨a4, a19⟩, (fun hb => by rw [hnb] at hb; cases hb), named, hinst, hwrap,
  a6.trans a7.symm, ⟨a8.trans a9.symm, worded, b23⟩, a10, a11, a12, a13, a14, ⟨a15, a27, a28⟩, ⟨a16, a20⟩, ⟨a17, a21, a25, a26⟩, ⟨a22, b24, c24, b17⟩, (by rw [hout, hnar]; cases hsh : c.shortTexts with | none => simp | some _ => rw [hsh] at a23; cases a23), fun n hn' => varReadable_some (a18 n hn'),
  world0, [], lists0, fun os st _ H enc inj => ?_⟩
 have st' : os.Started := by unfold OpenClaim.world at st; rw [hout, hstart] at st; exact st
 rw [OpenClaim.post_not_still hstill]
 unfold OpenClaim.form
 rw [hstart, a6]
 intro F
 have e1 : c.okInput = Input.okWide := by unfold OpenClaim.okInput; rw [hnb]
 have e2 : c.atReturn p.checked.prog = leavingAtReturn p.checked.prog := by unfold OpenClaim.atReturn; rw [hlv]
 have e3 : c.always p.checked.prog [] = nothingAlways := by unfold OpenClaim.always; rw [hfo]
 have e4 : s.post enc p.checked.prog fn F c.outside c.apart c.fresh c.handsOn c.again = (s.at F).post enc p.checked.prog fn c.apart c.fresh c.handsOn c.again := by rw [hout]; rfl
 rw [e1, e2, e3]
 show ReturnsInOpen _ _ _ _ _ _ _ _ (s.post enc p.checked.prog fn F c.outside c.apart c.fresh c.handsOn c.again) _ _
 rw [e4]
 exact h os st' H enc inj F a24
end Go.Car
set_option maxHeartbeats 4000000
set_option maxRecDepth 100000
namespace Go.Proofs.Ytdncabjenacolaa
open Go Go.Conc Go.RowKit Go.Car Go.ChangeShapes Go.WideShapes Go.ChangeAt
theorem own_knob : ownKnob Try.prog.godebug = none := by kernel_rfl
theorem laid_out : laidOutB Try.prog = true := by kernel_rfl
theorem reads_same {H : Type} {enc : TypeId × Value → H} {t : TypeId} (hr : Try.prog.readableRec t = true) (hrow : t < Try.prog.types.size) {W w' : World} {v : Value} {d : DataW H} {ps : List MemPlace}
 (h : DataW.Trod enc Try.prog W 0 (fun _ => true) true t v d ps) (hb : Beyond W w') (hlt : ∀ x ∈ ps, x.block < W.heap.size) : DataW.Trod enc Try.prog w' 0 (fun b => decide (b < W.heap.size)) true t v d ps :=
 DataW.Trod.of_heap (w := { w' with os := W.os, tape := W.tape, output := W.output }) (by rfl) (Below.trod laid_out hr hrow h ⟨rfl, rfl, rfl, hb.1, hb.2⟩ hlt)
theorem kept_same {W w' : World} (hb : Beyond W w') (ho : w'.os = W.os) (hu : w'.output = W.output) (may : MemPlace → Prop) : W.keptBut w' may := by
 have h := Below.frame (W := W) (w' := { w' with os := W.os, tape := W.tape, output := W.output }) ⟨rfl, rfl, rfl, hb.1, hb.2⟩ may
 exact ⟨ho, hu, h.2.2⟩
end Go.Proofs.Ytdncabjenacolaa
set_option maxHeartbeats 1000000
set_option maxRecDepth 100000
namespace Go.Proofs
open Go Go.Conc Go.RowKit Go.Car
open Go.ConcN (upd upd_ne upd_same)
structure WM where
 bd : List Int
 bv : Value
 pos : Nat → Nat
 room : Nat
structure WS where
 N : Nat
 bB : Nat
 base : Nat
 wb : Nat → Option Nat
 steps : Nat → Nat
 aft : Nat → Int
def intL (l : List Int) : List Value := l.map (Value.int .i64)
end Go.Proofs
