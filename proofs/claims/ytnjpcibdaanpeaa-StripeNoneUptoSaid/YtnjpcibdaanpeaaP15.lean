/- YtnjpcibdaanpeaaSNone6: part 15 of the proof (the texts behind it, in order). -/
import Derived.Test.YtnjpcibdaanpeaaP14
set_option linter.unusedSimpArgs false
set_option linter.unusedVariables false
set_option linter.unusedSectionVars false
set_option linter.unnecessarySimpa false
set_option maxHeartbeats 8000000
set_option maxRecDepth 100000
namespace Go.Proofs
open Go Go.Conc Go.RowKit Go.Car
theorem zero_rep {w : World} : StrRep w.heap.size none 1 [0] (w.alloc (.cells #[.int .i64 0, .slice none 0 0] 63)) := ⟨rfl, by decide, by decide, al_new _ _, fun mb h => (by cases h), fun _ => rfl⟩
theorem stripenone_run {Post : Value → World → Prop} (hPost : ∀ v w τ d, Post v w → Post v (re w τ d)) {W : World} {p : Option Addr} {C : Nat} {ops : List OpX} (hl : ops.length ≤ 4611686018427387904) (hO : OpsIn W (.slice p ops.length C) ops) (hend : ∀ w', Beyond W w' → Post (.bool true) w') :
 FinOf Try.prog Post (solo (G (Frame.enter Try.prog 6 #[.slice p ops.length C] .normal) []) W) #[] := by
 refine j0_run Try.func6 rfl ?_
 have hFin := back_fin (P := Try.prog) Post
 have hJ := j0_JS hFin
 have hC := j0_calm hFin
 have e : Frame.enter Try.prog 6 #[.slice p ops.length C] .normal = (bN 6).at (enterAct Try.f6 #[.slice p ops.length C]) [.code ((Try.f6.body).getD .skip)] := by kernel_rfl
 have ea : enterAct Try.f6 #[.slice p ops.length C] = ⟨#[.slice p ops.length C, undef, undef, undef, undef, undef, undef, undef, undef, undef, undef, undef, undef, undef, undef, undef, undef, undef, undef, undef, undef, undef, undef, undef, undef, undef, undef, undef, undef, undef, undef, undef, undef, undef, undef, undef, undef, undef, undef, undef, undef, undef, undef, undef, undef, undef, undef, undef, undef, undef, undef, undef, undef, undef, undef, undef, undef, undef, undef, undef, undef, undef, undef, undef, undef, undef, undef, undef, undef, undef, undef, undef, undef, undef, undef, undef, undef, undef, undef, undef, undef, undef, undef, undef, undef, undef, undef, undef, undef, undef, undef, undef, undef, undef, undef, undef, undef, undef, undef, undef], []⟩ := by kernel_rfl
 rw [e, ea, sn0]
 clear e ea
 refine hJ.ctl (s := 1) (fun w => stepG_seq) ?_
 refine at_lone hJ hC plainM (by kernel_rfl) (fun t w' => t = #[.slice p ops.length C, undef, .bool false, undef, undef, undef, undef, undef, undef, undef, undef, undef, undef, undef, undef, undef, undef, undef, undef, undef, undef, undef, undef, undef, undef, undef, undef, undef, undef, undef, undef, undef, undef, undef, undef, undef, undef, undef, undef, undef, undef, undef, undef, undef, undef, undef, undef, undef, undef, undef, undef, undef, undef, undef, undef, undef, undef, undef, undef, undef, undef, undef, undef, undef, undef, undef, undef, undef, undef, undef, undef, undef, undef, undef, undef, undef, undef, undef, undef, undef, undef, undef, undef, undef, undef, undef, undef, undef, undef, undef, undef, undef, undef, undef, undef, undef, undef, undef, undef, undef] ∧ ∃ τ d, w' = re W τ d) (fun t w' τ d h => ⟨h.1, by obtain ⟨τ', d', rfl⟩ := h.2; exact ⟨τ, d, by rw [re_re]⟩⟩) (by decide) (fun τ d => ?_) ?_
 · obtain ⟨u0, hu0⟩ : ∃ c, headC (snT 0) = c := ⟨_, rfl⟩
   have eu0 := hu0
   rw [hu0]
   simp only [cSeqL, cSeqR, cBlk, cLoop, snT, headC, tailN, Try.f6, al_od] at eu0
   subst eu0
   clear hu0
   go_wp2
   exact ⟨rfl, rfl, τ, d, rfl⟩
 rintro t w' ⟨rfl, τ, d, rfl⟩
 refine hJ.re' 1 _ _ τ d ?_
 refine hJ.ctl (s := 1) (fun w => stepG_seq) ?_
 obtain ⟨u1, hu1⟩ : ∃ c, headC (snT 1) = c := ⟨_, rfl⟩
 have eu1 := hu1
 rw [hu1]
 simp only [snT, headC, tailN, Try.f6, al_od] at eu1
 subst eu1
 clear hu1
 refine hJ.ctl (s := 1) (fun w => stepG_seq) ?_
 refine hJ.ctl (s := 1) (fun w => stepG_region) ?_
 refine at_call (by decide) hJ (s := 1) rfl rfl (f := 8) (args := #[]) (fun τ d => ?_) (fun τ d => ?_) ?_
 · simp [go_sem, execOp, Act.eval, resolve, Deferred.ofValue, invoke, callFunc, Try.func8, Try.f8, OpX.val]
 · intro e he
   simp [go_sem, execOp, Act.eval, resolve, Deferred.ofValue, invoke, callFunc, Try.func8, Try.f8, OpX.val, Sem.runT_eq] at he
 refine fixed_calls hFin (n := 1) (by decide) ?_
 intro w1 hb1
 rw [Frame.finish_at]
 walk_nrm
 refine at_piece (s := 1 + 4) (by decide) hJ (zqe _) false (.inr rfl) 1 1 0 rfl rfl rfl (by rfl) ?_
 intro τ d
 simp only [List.drop_succ_cons, List.drop_zero, List.take_succ_cons, List.take_zero]
 go_wp2
 simp only [contAt]
 refine hJ.re' (1 + 4) _ _ τ d ?_
 refine hJ.ctl (s := 1 + 4) (fun w => stepG_region_end) ?_
 refine hJ.ctl (s := 1 + 4) (fun w => stepG_cond (t := false) rfl) ?_
 rw [if_neg (by decide)]
 refine hJ.ctl (s := 1 + 4) (fun w => stepG_skip) ?_
 refine hJ.ctl (s := 1 + 4) (fun w => stepG_seq) ?_
 refine at_lone hJ hC plainM (by kernel_rfl) (fun t w' => t = #[.slice p ops.length C, undef, .bool false, .pointer none, undef, undef, undef, undef, undef, undef, undef, .bool true, .bool false, undef, undef, undef, undef, undef, undef, undef, undef, undef, undef, undef, undef, undef, undef, undef, undef, undef, undef, undef, undef, undef, undef, undef, undef, undef, undef, undef, undef, undef, undef, undef, undef, undef, undef, undef, undef, undef, undef, undef, undef, undef, undef, undef, undef, undef, undef, undef, undef, undef, undef, undef, undef, undef, undef, undef, undef, undef, undef, undef, undef, undef, undef, undef, undef, undef, undef, undef, undef, undef, undef, undef, undef, undef, undef, undef, undef, undef, undef, undef, undef, undef, undef, undef, undef, undef, undef, undef] ∧ ∃ τ d, w' = re w1 τ d) (fun t w' τ d h => ⟨h.1, by obtain ⟨τ', d', rfl⟩ := h.2; exact ⟨τ, d, by rw [re_re]⟩⟩) (by decide) (fun τ d => ?_) ?_
 · obtain ⟨u0, hu0⟩ : ∃ c, headC (snT 2) = c := ⟨_, rfl⟩
   have eu0 := hu0
   rw [hu0]
   simp only [cSeqL, cSeqR, cBlk, cLoop, snT, headC, tailN, Try.f6, al_od] at eu0
   subst eu0
   clear hu0
   go_wp2
   exact ⟨rfl, rfl, τ, d, rfl⟩
 rintro t w' ⟨rfl, τ, d, rfl⟩
 refine hJ.re' (1 + 4) _ _ τ d ?_
 obtain ⟨K, hK⟩ : ∃ K, w1.heap.size = K := ⟨_, rfl⟩
 have HK := Lib.hid (And.intro hK hb1)
 clear hK hb1
 refine hJ.ctl (s := 1 + 4) (fun w => stepG_seq) ?_
 refine at_lone hJ hC plainM (by kernel_rfl) (fun t w' => t = #[.slice p ops.length C, undef, .bool false, .pointer none, .pointer (some ⟨K, 0, none⟩), .pointer (some ⟨K + 2, 0, none⟩), undef, undef, undef, undef, undef, .bool true, .bool false, .agg #[.int .i64 0, .slice none 0 0], .pointer (some ⟨K, 0, none⟩), .pointer (some ⟨K + 2, 0, none⟩), undef, undef, undef, undef, undef, undef, undef, undef, undef, undef, undef, undef, undef, undef, undef, undef, undef, undef, undef, undef, undef, undef, undef, undef, undef, undef, undef, undef, undef, undef, undef, undef, undef, undef, undef, undef, undef, undef, undef, undef, undef, undef, undef, undef, undef, undef, undef, undef, undef, undef, undef, undef, undef, undef, undef, undef, undef, undef, undef, undef, undef, undef, undef, undef, undef, undef, undef, undef, undef, undef, undef, undef, undef, undef, undef, undef, undef, undef, undef, undef, undef, undef, undef, undef] ∧ SnF W (K + 3) K (K + 2) (K + 1) [0] w') (fun t w' τ d h => ⟨h.1, h.2.re τ d⟩) (by decide) (fun τ d => ?_) ?_
 · obtain ⟨u0, hu0⟩ : ∃ c, headC (snT 3) = c := ⟨_, rfl⟩
   have eu0 := hu0
   rw [hu0]
   simp only [cSeqL, cSeqR, cBlk, cLoop, snT, headC, tailN, Try.f6, al_od] at eu0
   subst eu0
   clear hu0
   have hs0 : (re w1 τ d).heap.size = K := HK.out.1
   have hbW : RowKit.Hid (Beyond W (re w1 τ d)) := Lib.hid (HK.out.2.trans (Beyond.re _ _ _))
   generalize re w1 τ d = w2 at hs0 hbW ⊢
   have HS := Lib.hid hs0
   have HN := Lib.hid (new_lone 1 (w2.alloc (.cells #[.int .i64 0, .slice none 0 0] 63)))
   have HZ := Lib.hid (zero_rep (w := w2))
   have HA := Lib.hid (Beyond.alloc w2 (.cells #[.int .i64 0, .slice none 0 0] 63))
   have HSZ := Lib.hid (zqc w2 (.cells #[.int .i64 0, .slice none 0 0] 63))
   clear hs0
   go_wp2_with (fail)
   generalize (w2.alloc (.cells #[.int .i64 0, .slice none 0 0] 63)) = w3 at HN HZ HA HSZ ⊢
   refine Calls.mono HN.out ?_
   rintro e w4 ⟨rfl, hR⟩
   have hF : SnF W (K + 3) K (K + 2) (K + 1) [0] w4 := by
    have h1 := HS.out
    have h2 := HSZ.out
    have h3 := hbW.out.1
    have h4 := hR.size
    have hb4 : Beyond w3 w4 := ⟨by omega, hR.old⟩
    have hr := hR.rep
    rw [show w3.heap.size = K + 1 by omega] at hr
    have hz := HZ.out
    rw [h1] at hz
    exact ⟨(hbW.out.trans HA.out).trans hb4, (strCore _ _ _).frame _ _ _ hz fun b hb => hb4.2 b ((strCore _ _ _).lt _ _ _ hz hb), hr, by omega, by omega, by omega⟩
   have HF := Lib.hid hF
   clear hF hR
   rw [HS.out, show w3.heap.size = K + 1 by have h1 := HS.out; have h2 := HSZ.out; omega]
   go_wp2
   exact ⟨rfl, rfl, HF.out⟩
 rintro t w' ⟨rfl, hF⟩
 refine hJ.ctl (s := 1 + 4) (fun w => stepG_seq) ?_
 rw [snT4]
 refine hJ.ctl (s := 1 + 4) (fun w => stepG_seq) ?_
 refine at_lone hJ hC plainM (by kernel_rfl) (fun t w'' => t = #[.slice p ops.length C, undef, .bool false, .pointer none, .pointer (some ⟨K, 0, none⟩), .pointer (some ⟨K + 2, 0, none⟩), .int .i64 (0 : Nat), undef, undef, undef, undef, .bool true, .bool false, .agg #[.int .i64 0, .slice none 0 0], .pointer (some ⟨K, 0, none⟩), .pointer (some ⟨K + 2, 0, none⟩), undef, undef, undef, undef, undef, undef, undef, undef, undef, undef, undef, undef, undef, undef, undef, undef, undef, undef, undef, undef, undef, undef, undef, undef, undef, undef, undef, undef, undef, undef, undef, undef, undef, undef, undef, undef, undef, undef, undef, undef, undef, undef, undef, undef, undef, undef, undef, undef, undef, undef, undef, undef, undef, undef, undef, undef, undef, undef, undef, undef, undef, undef, undef, undef, undef, undef, undef, undef, undef, undef, undef, undef, undef, undef, undef, undef, undef, undef, undef, undef, undef, undef, undef, undef] ∧ SnF W (K + 3) K (K + 2) (K + 1) [0] w'') (fun t w' τ d h => ⟨h.1, h.2.re τ d⟩) (by decide) (fun τ d => ?_) ?_
 · obtain ⟨u0, hu0⟩ : ∃ c, cSeqL (headC (snT 4)) = c := ⟨_, rfl⟩
   have eu0 := hu0
   rw [hu0]
   simp only [cSeqL, cSeqR, cBlk, cLoop, snT, headC, tailN, Try.f6, al_od] at eu0
   subst eu0
   clear hu0
   have HF := Lib.hid (hF.re τ d)
   clear hF
   go_wp2
   exact ⟨rfl, rfl, HF.out⟩
 clear hF
 rintro t w'' ⟨rfl, hF⟩
 refine sn_loop (s := 1 + 4) hFin (K := K) (S0 := K + 3) hl hO ⟨_, _, _, _, _, _, _, _, _, _, _, _, _, _, _, _, _, _, _, _, _, _, _, _, _, _, _, _, _, _, _, _, _, _, _, _, _, _, _, _, _, _, _, _, _, _, _, _, _, _, _, _, _, _, _, _, _, _, _, _, _, _, _, _, _, _, _, _, _, _, _, _, _, _, _, _, _, _, _, _, _, _, _, _, _, _, _, _, _, _, _, _, _, _, [0], rfl, hF⟩ _ _ _ (by decide) ?_
 rintro s' e a' wz ⟨rfl, rfl, z1, z7, z8, z9, z10, z11, z12, z13, z14, z15, z16, z17, z18, z19, z20, z21, z22, z23, z24, z25, z26, z27, z28, z29, z30, z31, z32, z33, z34, z35, z36, z37, z38, z39, z40, z41, z42, z43, z44, z45, z46, z47, z48, z49, z50, z51, z52, z53, z54, z55, z56, z57, z58, z59, z60, z61, z62, z63, z64, z65, z66, z67, z68, z69, z70, z71, z72, z73, z74, z75, z76, z77, z78, z79, z80, z81, z82, z83, z84, z85, z86, z87, z88, z89, z90, z91, z92, z93, z94, z95, z96, z97, z98, z99, l, rfl, hZ⟩
 show J0 _ _ _ _ _
 refine at_rest_end (P := Try.prog) hPost plainM (by kernel_rfl) rfl (by kernel_rfl) Try.func6 (fun τ d => ?_)
 obtain ⟨u5, hu5⟩ : ∃ c, snT 5 = c := ⟨_, rfl⟩
 have eu5 := hu5
 rw [hu5]
 simp only [snT, headC, tailN, Try.f6, al_od] at eu5
 subst eu5
 clear hu5
 have HE := Lib.hid (hend _ (hZ.be.trans (Beyond.re wz τ d)))
 clear hend hZ hF
 go_wp2
 go_ret
 exact ⟨_, rfl, HE.out⟩
end Go.Proofs
set_option maxHeartbeats 4000000
set_option maxRecDepth 100000
namespace Go.Proofs.Ytnjpcibdaanpeaa
open Go Go.Conc Go.RowKit Go.Car Go.ChangeShapes Go.WideShapes Go.ChangeAt
theorem stripeNone_lifted (os : Os) (started : os.Started) (H : Type) (enc : TypeId × Value → H) (F : Stop.Interp) :
 ReturnsInLeavingWide {} Try.checked os 6 .any ((Rows.OpenSpec.upto Rows.stripeNoneSpec).pre6 enc Try.prog Try.f6 Rows.stripeNoneUptoRow.domain false) (((Rows.OpenSpec.upto Rows.stripeNoneSpec).at F).post enc Try.prog Try.f6 false true false false) := by
 refine leaving_of_cond (C := Try.checked) (s := Rows.OpenSpec.upto Rows.stripeNoneSpec) (k := Rows.uptoSmall) rfl own_knob started Try.func6
  (OpenSpec.witness (enc := enc) (C := Try.checked) (s := Rows.OpenSpec.upto Rows.stripeNoneSpec) (k := Rows.uptoSmall) rfl false ⟨#[], #[.slice none 0 0], []⟩ 8 (by kernel_rfl) (by kernel_rfl) (by kernel_rfl)
   (x := ([.nil], [], [])) (by kernel_rfl) rfl (by kernel_rfl)) ?_
 intro W base args ds gs before hval0 hW hk
 have hval : ∀ (j : Nat) t v, Try.f6.params[j]? = some t → args[j]? = some v → Value.okWide Try.prog W .any base t v := hval0
 have hW' := hW
 obtain ⟨p, q, hA0, hV, rfl, _, _⟩ := hW
 have hA : DataW.TrodAll enc Try.prog W 0 (fun _ => true) true Try.f6.params.toList args.toList ds p := hA0
 rw [Try.params6] at hA hval
 obtain ⟨v0, d0, rfl, rfl, h0⟩ := trodAll_one hA
 obtain ⟨rfl, rfl⟩ := trodVars_none hV
 clear hA0 hval0
 simp only [List.append_nil] at hW' hk
 have hlt : ∀ x ∈ p, x.block < W.heap.size := fun x hx => by simpa using hW'.lt x hx
 obtain ⟨a, C, l, rfl, i0, b0⟩ := opl_arg (hval 0 _ v0 rfl rfl) h0 (bulk_small hk (by simp))
 have hO : OpsIn W (.slice a l.length C) l := ⟨a, C, rfl, fun hne => by
  obtain ⟨g, go, e, h⟩ := i0 hne
  exact ⟨g, go, e, fun k op hk j x hx => (h k op hk j (by have := (List.getElem?_eq_some_iff.1 hx).1; simpa [OpX.cells] using this)).trans hx⟩⟩
 obtain ⟨M, last, o, w', t', r1, r2, r3, r4⟩ := stripenone_run (Post := fun v w' => v = .bool true ∧ Beyond W w') (fun v w τ d h => ⟨h.1, h.2.1, h.2.2⟩) (C := C) (by omega) hO (fun w' h => ⟨rfl, h⟩)
 refine ⟨M, last, o, w', t', r1, r2, r3, r4.mono fun v hF => ?_⟩
 obtain ⟨⟨rfl, hb⟩, ho, hu⟩ := hF
 have same : ∀ {t : TypeId} (hr : Try.prog.readableRec t = true) (hrow : t < Try.prog.types.size) {v : Value} {d : DataW H} {ps : List MemPlace} (h : DataW.Trod enc Try.prog W 0 (fun _ => true) true t v d ps) (hlt : ∀ x ∈ ps, x.block < W.heap.size), DataW.Trod enc Try.prog w' 0 (fun b => decide (b < W.heap.size)) true t v d ps := fun hr hrow _ _ _ h hlt => reads_same hr hrow h hb hlt
 refine ⟨_, _, _, [], p, [], hW', trodAll_mk1 (shut_bool Try.underlying4 true), ?_, rfl, kept_same hb ho hu _, fun h => by cases h⟩
 exact trodAll_mk1 (same (by kernel_rfl) (of_decide_eq_true (by kernel_rfl)) h0 fun x hx => hlt x hx)
theorem stripeNone_upto : Rows.StripeNoneUptoSaid :=
 holds_leaving_cond 6 Try.f6 rfl rfl rfl rfl rfl rfl rfl ⟨rfl, rfl, rfl, rfl, rfl⟩ rfl rfl rfl rfl rfl (by kernel_rfl) Try.func6 (by kernel_rfl)
  (of_decide_eq_true (by kernel_rfl)) (by unfold Func.isWrapper; first | (rw [if_pos (by decide +kernel)]; kernel_rfl) | (rw [if_neg (by decide +kernel)]; exact ⟨rfl, rfl⟩))
  (fun os started H enc _ F => stripeNone_lifted os started H enc F)
end Go.Proofs.Ytnjpcibdaanpeaa
