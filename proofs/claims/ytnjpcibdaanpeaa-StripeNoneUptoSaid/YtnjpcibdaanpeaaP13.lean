/- YtnjpcibdaanpeaaSNone6: part 13 of the proof (the texts behind it, in order). -/
import Derived.Test.YtnjpcibdaanpeaaP12
set_option linter.unusedSimpArgs false
set_option linter.unusedVariables false
set_option linter.unusedSectionVars false
set_option linter.unnecessarySimpa false
set_option maxHeartbeats 4000000
set_option maxRecDepth 100000
namespace Go.Proofs
open Go Go.Conc Go.RowKit Go.Car
theorem DRes.re {w w' : World} {N n : Nat} {dv : Value} {sp : Nat → Option Addr} {L Cp : Nat → Nat} {ob ib : Nat → Nat} {fv : Value} (h : DRes w N dv sp L Cp n ob ib fv w') (τ : Nat → Question → Nat) (d : Nat) : DRes w N dv sp L Cp n ob ib fv (Go.Car.re w' τ d) := h.of_heap rfl
theorem DRes.of_re {w w' : World} {τ : Nat → Question → Nat} {d : Nat} {N n : Nat} {dv : Value} {sp : Nat → Option Addr} {L Cp : Nat → Nat} {ob ib : Nat → Nat} {fv : Value} (h : DRes (Go.Car.re w τ d) N dv sp L Cp n ob ib fv w') : DRes w N dv sp L Cp n ob ib fv w' :=
 ⟨h.size, h.old, h.db, h.ab, h.hb, h.frow, h.obx, h.ibx, h.lo, h.inc⟩
theorem ops_row_form {w : World} {B N : Nat} {T : TypeId} {v : Value} {xs : List Value} (h : w.ownsRow B T 1 v N xs) : ∃ p C, v = .slice p N C ∧ (v.ownBlock = p.map (·.block)) ∧ (0 < N → ∃ g, p = some ⟨g, 0, none⟩ ∧ v.ownBlock = some g ∧ ∀ i x, xs[i]? = some x → w.cell? ⟨g, i, none⟩ = some x) := by
 rcases h.2 with ⟨hv, h0⟩ | ⟨g, cap, cur, hv, hb, hh, h1, h2, h3, h4⟩
 · subst h0; exact ⟨none, 0, hv, by rw [hv]; rfl, fun h => absurd h (Nat.lt_irrefl _)⟩
 · refine ⟨_, cap, hv, by rw [hv]; rfl, fun _ => ⟨g, rfl, by rw [hv]; rfl, fun i x hx => ?_⟩⟩
   rw [zq1 (off := i) hh]
   have hi : i < xs.length := (List.getElem?_eq_some_iff.1 hx).1
   have hl := h.1
   rw [← h4, List.getElem?_take] at hx
   split at hx
   · simpa using hx
   · cases hx
theorem ops_calls {Fin : Machine → Trace → Prop} (hFin : Back Try.prog Fin) {n : Nat} (hn : 0 < n) {A : FuncId → Bool} (hP : Plain Try.prog A) (hRS : RowsS Try.prog A) {M1 S1 : Type} {C : Core M1 S1} {RP : Nat → Option Obj} {l₀ : M1} {w : World}
 {np Cn N Cs : Nat} {pp scp : Option Addr} {sp : Nat → Option Addr} {L Cp : Nat → Nat} {ops : Nat → List OpX} {sched : List Int} {mo : Int} {f : FuncId} {first caps : Array Value} {fn : Func} {cc : Code} (hf : Try.prog.funcs[f]? = some fn) (hb' : fn.body = some cc) (hnm : (fn.name == "runtime.NumGoroutine") = false)
 (hb : BRep C RP ⟨l₀, fun _ _ => none⟩ w) (ho : OpsAt w RP pp np N sp L Cp ops) (hsl : sched.length ≤ 4611686018427387904)
 (hs : sched ≠ [] → ∃ sb off, scp = some ⟨sb, off, none⟩ ∧ RP sb = none ∧ ¬ C.foot l₀ sb ∧ ∀ j x, sched[j]? = some x → w.cell? ⟨sb, off + j, none⟩ = some (.int .i64 x))
 {dop : Nat → OpX → Proc (S1 × (Nat → List Ans)) Ans} (hdeep : ∀ i op k, (dop i op).Deep k)
 (hdo : ∀ (ro : Nat → Option Obj) (ab : Nat) (pr : Nat → Proc (S1 × (Nat → List Ans)) Unit) (st : Nat) (cr : Frame) (rest : List Frame) (EN : List PanicEntry → Prop) (i : Nat) (o : List Ans) (op : OpX), (∀ b x, RP b = some x → ro b = some x) → i < N →
  SpecR (thrSys hP hRS (prodCore C (ansCore tT ab N)) ownA ro pr 72 (.pointer (some ⟨st, 0, none⟩)) cr rest NEnd EN i o) f (first ++ #[.iface 108 (.pointer (some ⟨st, 0, none⟩)), .int .i64 i, op.val] ++ caps) (dop i op) (AnsV 2))
 {c : Frame} {cs : List Frame}
 (hmain : ∀ ab v l' am w', OpsRes C N l₀ w (playT (fun i => opsP i (dop i) (ops i)) N (min mo.toNat 1048576) sched (C.st l₀, fun _ => [])) ab v l' am w' →
  J0 Try.prog Fin (n + N) (G (c.finish (.agg #[.slice (some ⟨ab, 0, none⟩) N N, v, .slice none 0 0, .bool (decide (0 < leftN (playT (fun i => opsP i (dop i) (ops i)) N (min mo.toNat 1048576) sched (C.st l₀, fun _ => [])).ov N))])) cs) w') :
 J0 Try.prog Fin n (G (Frame.enter Try.prog 26 #[.slice pp np Cn, .func (.func f) first caps, .slice scp sched.length Cs, .int .i64 mo] .normal) (c :: cs)) w := by
 have hJ := j0_JS hFin
 have hC := j0_calm hFin
 have e : Frame.enter Try.prog 26 #[.slice pp np Cn, .func (.func f) first caps, .slice scp sched.length Cs, .int .i64 mo] .normal = (bN 26).at (enterAct Try.f26 #[.slice pp np Cn, .func (.func f) first caps, .slice scp sched.length Cs, .int .i64 mo]) [.code ((Try.f26.body).getD .skip)] := by kernel_rfl
 have ea : enterAct Try.f26 #[.slice pp np Cn, .func (.func f) first caps, .slice scp sched.length Cs, .int .i64 mo] = ⟨#[.slice pp np Cn, .func (.func f) first caps, .slice scp sched.length Cs, .int .i64 mo, undef, undef, undef, undef, undef, undef, undef, undef, undef, undef, undef, undef, undef, undef, undef, undef, undef, undef, undef, undef, undef, undef, undef, undef, undef, undef, undef, undef], []⟩ := by kernel_rfl
 rw [e, ea, ops0]
 clear e ea
 have hm := Lib.hid hmain
 clear hmain
 obtain ⟨H, hH⟩ : ∃ H, w.heap.size = H := ⟨_, rfl⟩
 refine hJ.ctl (s := n) (fun w => stepG_seq) ?_
 refine at_lone hJ hC plainMD (by kernel_rfl) (fun t w' => t = #[.slice pp np Cn, .func (.func f) first caps, .slice scp sched.length Cs, .int .i64 mo, undef, undef, undef, undef, .pointer (some ⟨H, 0, none⟩), undef, undef, undef, undef, undef, undef, undef, undef, undef, undef, undef, undef, undef, undef, undef, undef, undef, undef, undef, undef, undef, undef, undef] ∧ ∃ τ d, w' = re (w.alloc (.cells #[.slice none 0 0, .slice none 0 0, .slice none 0 0, .bool false] 31)) τ d) (fun t w' τ d h => ⟨h.1, by obtain ⟨τ', d', rfl⟩ := h.2; exact ⟨τ, d, by rw [re_re]⟩⟩) (by decide) (fun τ d => ?_) ?_
 · obtain ⟨u0, hu0⟩ : ∃ c, headC (opsT 0) = c := ⟨_, rfl⟩
   have eu0 := hu0
   rw [hu0]
   simp only [opsT, headC, tailN, Try.f26, al_od] at eu0
   subst eu0
   clear hu0 hdo hdeep hs ho hb hf hb' hnm
   go_wp2
   exact ⟨rfl, rfl, τ, d, rfl⟩
 rintro t w' ⟨rfl, τ, d, rfl⟩
 refine hJ.re' n _ _ τ d ?_
 have hwa : (w.alloc (.cells #[.slice none 0 0, .slice none 0 0, .slice none 0 0, .bool false] 31)).heap.size = H + 1 := by rw [zqc, hH]
 have hob : ∀ b, b < H → (w.alloc (.cells #[.slice none 0 0, .slice none 0 0, .slice none 0 0, .bool false] 31)).heap[b]? = w.heap[b]? := fun b hb => by rw [zq9, if_neg (by omega)]
 have hzb : (w.alloc (.cells #[.slice none 0 0, .slice none 0 0, .slice none 0 0, .bool false] 31)).heap[H]? = some (.cells #[.slice none 0 0, .slice none 0 0, .slice none 0 0, .bool false] 31) := hH ▸ al_new w _
 obtain ⟨wa, hwae⟩ : ∃ wa, w.alloc (.cells #[.slice none 0 0, .slice none 0 0, .slice none 0 0, .bool false] 31) = wa := ⟨_, rfl⟩
 rw [hwae] at hwa hob hzb ⊢
 clear hwae
 have hlw : ∀ b, C.foot l₀ b → b < H := fun b h => by rw [← hH]; exact C.lt _ _ _ hb.core h
 have hba : BRep C RP ⟨l₀, fun _ _ => none⟩ wa := hb.frame fun b h => hob b (by rw [← hH]; exact hb.lt h)
 have hat : 0 < np → ∃ tb to', pp = some ⟨tb, to', none⟩ ∧ ∀ i, i < N → wa.cell? ⟨tb, to' + i, none⟩ = some (.slice (sp i) (L i) (Cp i)) := fun h0 => by
  obtain ⟨tb, to', e, h1⟩ := ho.at' h0
  exact ⟨tb, to', e, fun i hi => (cell_of_same (hob tb (by rw [← hH]; exact cell_lt (h1 i hi)))).trans (h1 i hi)⟩
 have hs2 : sched ≠ [] → ∃ sb off, scp = some ⟨sb, off, none⟩ ∧ RP sb = none ∧ ¬ C.foot l₀ sb ∧ sb < H ∧ ∀ j x, sched[j]? = some x → wa.cell? ⟨sb, off + j, none⟩ = some (.int .i64 x) := fun h0 => by
  obtain ⟨sb, off, e, h1, h1', h2⟩ := hs h0
  obtain ⟨x, l, hsl⟩ := List.exists_cons_of_ne_nil h0
  have hlt : sb < H := by rw [← hH]; exact cell_lt (h2 0 x (by rw [hsl]; rfl))
  exact ⟨sb, off, e, h1, h1', hlt, fun j x hj => (cell_of_same (hob sb hlt)).trans (h2 j x hj)⟩
 have hNe := ho.eq
 have hN64 : N ≤ 64 := by omega
 have hnp := ho.le
 have hrow := ho.row
 have hlen := ho.len
 have hop := ho.op
 clear ho hs hb
 refine hJ.ctl (s := n) (fun w => stepG_seq) ?_
 refine at_lone hJ hC plainMD (by kernel_rfl) (fun t w' => ∃ ob ib fv, t = #[.slice pp np Cn, .func (.func f) first caps, .slice scp sched.length Cs, .int .i64 mo, undef, undef, undef, undef, .pointer (some ⟨H, 0, none⟩), fv, .slice (some ⟨H + 1 + 1, 0, none⟩) N N, undef, undef, undef, .tuple #[fv, .slice (some ⟨H + 1 + 1, 0, none⟩) N N], .slice pp np Cn, .func (.func f) first caps, .tuple #[fv, .slice (some ⟨H + 1 + 1, 0, none⟩) N N], fv, .slice (some ⟨H + 1 + 1, 0, none⟩) N N, undef, undef, undef, undef, undef, undef, undef, undef, undef, undef, undef, undef] ∧ DRes wa N (.func (.func f) first caps) sp L Cp N ob ib fv w') (fun t w' τ d h => ?_) (by decide) (fun τ d => ?_) ?_
 · obtain ⟨ob, ib, fv, h1, h2⟩ := h
   exact ⟨ob, ib, fv, h1, h2.re τ d⟩
 · obtain ⟨u0, hu0⟩ : ∃ c, headC (opsT 1) = c := ⟨_, rfl⟩
   have eu0 := hu0
   rw [hu0]
   simp only [opsT, headC, tailN, Try.f26, al_od] at eu0
   subst eu0
   clear hu0
   have HM := Lib.hid (doing_lone (pp := pp) (n := np) (Cn := Cn) (dv := .func (.func f) first caps) (sp := sp) (L := L) (Cp := Cp) ⟨_, _, _, rfl⟩ (re wa τ d) hnp (fun i hi => hrow i (by rw [hNe]; exact hi)) (fun h0 => by
    obtain ⟨tb, to', e, h1⟩ := hat h0
    exact ⟨tb, to', e, fun i hi => h1 i (by rw [hNe]; exact hi)⟩))
   rw [← hNe] at HM
   have HH := Lib.hid (And.intro hH hwa)
   clear hs2 hat hlw hba hob hzb hH hwa hNe hN64 hnp hrow hlen hop hdo hdeep hf hb' hnm hsl
   go_wp2_with (fail)
   refine Calls.mono HM.out ?_
   rintro e w' ⟨ob, ib, fv, rfl, hR⟩
   have hR2 := Lib.hid hR.of_re
   clear hR
   rw [show (re wa τ d).heap.size = H + 1 from HH.out.2]
   go_wp2
   exact ⟨rfl, ob, ib, fv, rfl, hR2.out⟩
 rintro t w1 ⟨ob, ib, fv, rfl, hR⟩
 obtain ⟨fp, Cf, rfl, hfo, hfp⟩ := ops_row_form hR.frow
 refine hJ.ctl (s := n) (fun w => stepG_seq) ?_
 have hrep1 := ops_rep hR hba
 obtain ⟨u0, hu0⟩ : ∃ c, headC (opsT 2) = c := ⟨_, rfl⟩
 have eu0 := hu0
 rw [hu0]
 simp only [opsT, headC, tailN, Try.f26, al_od] at eu0
 subst eu0
 clear hu0
 refine hJ.ctl (s := n) (fun w => stepG_region) ?_
 have HR := Lib.hid hR
 have HP := Lib.hid hrep1
 have HX := Lib.hid (And.intro hat (And.intro hs2 (And.intro hob (And.intro hzb (And.intro hwa (And.intro hlw (And.intro hba (And.intro hrow (And.intro hlen hop)))))))))
 have HA := Lib.hid (And.intro hfo hfp)
 have HNE := Lib.hid hNe
 clear hNe
 have HD := Lib.hid (And.intro hdo (And.intro hdeep (And.intro hf (And.intro hb' hnm))))
 clear hR hrep1 hat hs2 hob hzb hwa hfo hfp hlw hba hrow hlen hop hdo hdeep hf hb' hnm
 refine at_piece (s := n) (by decide) hJ (zqe _) true (.inl rfl) 0 3 8 rfl rfl rfl (by rfl) ?_
 intro τ d
 simp only [List.drop_zero, List.take_succ_cons, List.take_zero]
 go_wp2
 simp only [contAt]
 refine hJ.re' n _ _ τ d ?_
 refine at_call (by decide) hJ (s := n) rfl rfl (f := 38) (args := #[.slice fp N Cf, .slice scp sched.length Cs, .int .i64 mo]) (fun τ d => ?_) (fun τ d => ?_) ?_
 · simp [go_sem, execOp, Act.eval, resolve, Deferred.ofValue, invoke, callFunc, Try.func38, Try.f38]
 · intro e he
   simp [go_sem, execOp, Act.eval, resolve, Deferred.ofValue, invoke, callFunc, Try.func38, Try.f38, Sem.runT_eq] at he
 obtain ⟨hat, hs2, hob, hzb, hwa, hlw, hba, hrow, hlen, hop⟩ := HX.out
 obtain ⟨hfo, hfp⟩ := HA.out
 obtain ⟨hdo, hdeep, hf, hb', hnm⟩ := HD.out
 have hRo : ∀ i, i < N → DoRo (roOf RP wa.heap.size N ob ib w1) i N (wa.heap.size + 1) (ob i) wa.heap.size (ib i) (wa.heap.size + 2) (sp i) (min (L i) 65536) (Cp i) (ops i) f first caps := fun i hi => ops_ro HR.out hba hN64 hlen hop hi
 have hfree : ∀ x, wa.heap.size + 3 ≤ x → w1.heap[x]? ≠ none → (∀ i, i < N → x ≠ ob i ∧ x ≠ ib i) → ¬ (C.foot l₀ x ∨ x = wa.heap.size + 1 ∨ roOf RP wa.heap.size N ob ib w1 x ≠ none) := fun x hx _ hne h => by
  rcases h with h | h | h
  · have := hlw x h; omega
  · omega
  · cases ho : roOf RP wa.heap.size N ob ib w1 x with
    | none => exact h ho
    | some o =>
     rcases roOf_some ho with h2 | ⟨h2, _⟩
     · have := heap_lt (hba.rod x o h2); omega
     · rcases h2 with h2 | h2 | ⟨i, hi, h2 | h2⟩
       · omega
       · omega
       · exact (hne i hi).1 h2
       · exact (hne i hi).2 h2
 refine over_calls hFin (T := thrOf (prodCore C (ansCore tT (wa.heap.size + 1) N)) ownA (roOf RP wa.heap.size N ob ib w1) (fun i => opsP i (dop i) (ops i))) (m₀ := mOps l₀ (min mo.toNat 1048576 + 100)) (N := N) (most := min mo.toNat 1048576) (tv := fun i => cloD wa.heap.size (ob i) (ib i)) (sched := sched) hn (by have := HNE.out; omega) rfl (ops_rep0 HP.out) (Nat.le_refl _) ?_ (fun i hi => ?_) ?_ ?_
 · intro h0
   obtain ⟨g, e, hg, hc⟩ := hfp h0
   refine ⟨g, e, fun hf => ?_, fun i hi => hc i _ (by simp [clsD, hi])⟩
   obtain ⟨⟨cc, hcc⟩, hlo, hlt⟩ := own_lt HR.out.frow hg
   refine hfree g hlo (by rw [hcc]; simp) (fun i hi => ⟨fun e => ?_, fun e => ?_⟩) (ops_foot0 hf)
   · exact heap_ne hcc (HR.out.obx i hi) (by decide) e
   · exact heap_ne hcc (HR.out.ibx i hi) (by decide) e
 · refine thr_runs hP hRS (fn := Try.f47) (c := (Try.f47.body).getD .skip) Try.func47 rfl rfl (fun k => opsP_deep (fun op => hdeep i op k) _) (fun st cr rest EN s m w hA hown => ?_)
   exact doing_calls hP hRS hf hb' hnm (hRo i hi) (fun o op => hdo _ _ _ st cr rest EN i o op (fun b x h => roOf_rp h) hi) s m w hA hown
 · refine ⟨hsl, scp, Cs, rfl, fun h0 => ?_⟩
   obtain ⟨sb, off, e, h1, h1', h2, h3⟩ := hs2 h0
   refine ⟨sb, off, e, by have := HR.out.size; omega, fun hf => ?_, fun j x hj => (cell_of_same (HR.out.old sb (by omega))).trans (h3 j x hj)⟩
   rcases ops_foot0 hf with h4 | h4 | h4
   · exact h1' h4
   · omega
   · cases ho : roOf RP wa.heap.size N ob ib w1 sb with
     | none => exact h4 ho
     | some o =>
      rcases roOf_some ho with h5 | ⟨h5, _⟩
      · rw [h1] at h5; cases h5
      · rcases h5 with h5 | h5 | ⟨i, hi, h5⟩
        · omega
        · omega
        · have := HR.out.lo i hi
          rcases h5 with h5 | h5 <;> omega
 intro b m' v g capg w2 ho
 obtain ⟨hres, hleft⟩ := ops_res HR.out hba ho
 have hvrow := ho.row
 clear ho
 rw [Frame.finish_at]
 walk_nrm
 obtain ⟨pv', cv', rfl, _⟩ := own_slice hvrow
 clear hvrow
 generalize b.ord.length = nv' at hres ⊢
 have HO := Lib.hid hres
 rw [hleft]
 have hHw := heap_lt hzb
 clear hleft hres
 obtain ⟨stuck, hstuck⟩ : ∃ x, decide (0 < leftN (playT (fun i => opsP i (dop i) (ops i)) N (min mo.toNat 1048576) sched (C.st l₀, fun _ => [])).ov N) = x := ⟨_, rfl⟩
 rw [hstuck]
 have HST := Lib.hid hstuck
 clear hstuck
 refine at_piece (s := n + N) (by decide) hJ (zqe _) true (.inl rfl) 4 7 0 rfl rfl rfl (by rfl) ?_
 intro τ d
 simp only [List.drop_succ_cons, List.drop_zero, List.take_succ_cons, List.take_zero]
 go_wp2
 simp only [contAt]
 refine hJ.re' (n + N) _ _ τ d ?_
 refine hJ.ctl (s := n + N) (fun w => stepG_region_end) ?_
 have hze : w2.heap[H]? = some (.cells #[.slice none 0 0, .slice none 0 0, .slice none 0 0, .bool false] 31) := (HO.out.old H hHw (fun h => by have := hlw H h; omega)).trans hzb
 refine at_rest_lone hJ hC plainMD (by kernel_rfl) (fun v w' => v = .agg #[.slice (some ⟨H + 1 + 1, 0, none⟩) N N, .slice pv' nv' cv', .slice none 0 0, .bool stuck] ∧ ∃ l' am, OpsRes C N l₀ w (playT (fun i => opsP i (dop i) (ops i)) N (min mo.toNat 1048576) sched (C.st l₀, fun _ => [])) (H + 1 + 1) (.slice pv' nv' cv') l' am w') (fun v w' τ d ⟨h1, l', am, h2⟩ => ⟨h1, l', am, h2.re τ d⟩) rfl Try.func26 (fun τ d => ?_) ?_
 · obtain ⟨u0, hu0⟩ : ∃ c, opsT 3 = c := ⟨_, rfl⟩
   have eu0 := hu0
   rw [hu0]
   simp only [opsT, headC, tailN, Try.f26, al_od] at eu0
   subst eu0
   clear hu0
   have HZ := Lib.hid (And.intro hH (And.intro hwa (And.intro hob hlw)))
   have b0 : (re w2 τ d).heap[H]? = some (.cells #[.slice none 0 0, .slice none 0 0, .slice none 0 0, .bool false] 31) := hze
   have hre := HO.out.re τ d
   clear HO
   generalize re w2 τ d = w3 at b0 hre ⊢
   have HPR := Lib.hid hre
   clear hre hfree hRo hat hs2 hob hzb hwa hlw hba hrow hlen hop hfo hfp hdo hdeep hf hb' hnm hze hHw HX HA HD HP HR hH hsl hN64 hnp hm
   have r0 := (zq1 (off := 0) b0).trans rfl
   have r1 := (zq1 (off := 1) b0).trans rfl
   have r2 := (zq1 (off := 2) b0).trans rfl
   have r3 := (zq1 (off := 3) b0).trans rfl
   have z0 := zqb (off := 0) b0
   have z1 := zqb (off := 1) b0
   have z2 := zqb (off := 2) b0
   have z3 := zqb (off := 3) b0
   have B0 := Lib.hid b0
   clear b0
   go_wp2
   clear r0 r1 r2 r3 z0 z1 z2 z3
   have b1' := zqf w3 H 0 (.slice (some ⟨H + 1 + 1, 0, none⟩) N N) B0.out
   have b2' := zqf _ H 1 (.slice pv' nv' cv') b1'
   have b3' := zqf _ H 2 (.slice none 0 0) b2'
   have b4' := zqf _ H 3 (.bool stuck) b3'
   have hext : ∀ x, x < w3.heap.size → x ≠ H → ((((w3.setCell ⟨H, 0, none⟩ (.slice (some ⟨H + 1 + 1, 0, none⟩) N N)).setCell ⟨H, 1, none⟩ (.slice pv' nv' cv')).setCell ⟨H, 2, none⟩ (.slice none 0 0)).setCell ⟨H, 3, none⟩ (.bool stuck)).heap[x]? = w3.heap[x]? := fun x _ hx => by
    rw [hp_set_ne _ _ _ _ hx, hp_set_ne _ _ _ _ hx, hp_set_ne _ _ _ _ hx, hp_set_ne _ _ _ _ hx]
   have hsz8 : ((((w3.setCell ⟨H, 0, none⟩ (.slice (some ⟨H + 1 + 1, 0, none⟩) N N)).setCell ⟨H, 1, none⟩ (.slice pv' nv' cv')).setCell ⟨H, 2, none⟩ (.slice none 0 0)).setCell ⟨H, 3, none⟩ (.bool stuck)).heap.size = w3.heap.size := by simp only [hp_size_set]
   generalize ((((w3.setCell ⟨H, 0, none⟩ (.slice (some ⟨H + 1 + 1, 0, none⟩) N N)).setCell ⟨H, 1, none⟩ (.slice pv' nv' cv')).setCell ⟨H, 2, none⟩ (.slice none 0 0)).setCell ⟨H, 3, none⟩ (.bool stuck)) = w8 at b4' hext hsz8 ⊢
   clear b1' b2' b3'
   have k0 := (zq1 (off := 0) b4').trans rfl
   have k1 := (zq1 (off := 1) b4').trans rfl
   have k2 := (zq1 (off := 2) b4').trans rfl
   have k3 := (zq1 (off := 3) b4').trans rfl
   have hres := HPR.out
   rw [HZ.out.2.1] at hres
   refine ⟨rfl, .agg #[.slice (some ⟨H + 1 + 1, 0, none⟩) N N, .slice pv' nv' cv', .slice none 0 0, .bool stuck], ?_, _, rfl, rfl, _, _, hres.ext HZ.out.1 HZ.out.2.1 HZ.out.2.2.1 HZ.out.2.2.2 (by omega) hext⟩
   simp only [results, Try.f26]
   simp [go_sem, k0, k1, k2, k3]
 · rintro v w' ⟨rfl, l', am, h⟩
   have h2 := hm.out _ _ l' am w' h
   rw [HST.out] at h2
   exact h2
noncomputable def splT (n : Nat) : Code := tailN n (Try.f10.body.getD .skip)
theorem spl0 : Try.f10.body.getD .skip = .seq (headC (splT 0)) (.seq (headC (splT 1)) (.seq (headC (splT 2)) (splT 3))) := by kernel_rfl
structure PlayedR {S1 : Type} (N : Nat) (w : World) (r : TSt (S1 × (Nat → List Ans))) (st : List Int) (ab : Nat) (ov sv : Value) (am : AnsM) (w' : World) : Prop where
 size : w.heap.size ≤ w'.heap.size
 old : ∀ b, b < w.heap.size → w'.heap[b]? = w.heap[b]?
 ans : AnsRep tT ab N am w'
 ast : am.st = r.s.2
 abl : w.heap.size ≤ ab
 ansn : ∀ i b, i < N → am.X i b ≠ none → w.heap.size ≤ b
 orow : w'.ownsRow w.heap.size 3 1 ov r.ord.length (r.ord.map fun (i : Nat) => .int .i64 i)
 srow : w'.ownsRow w.heap.size 2 1 sv st.length (st.map (Value.int .i64))
 rowf : ∀ x, ov.ownBlock = some x → x ≠ ab ∧ ∀ i, i < N → am.X i x = none
 srowf : ∀ x, sv.ownBlock = some x → x ≠ ab ∧ (∀ i, i < N → am.X i x = none) ∧ ov.ownBlock ≠ some x
theorem PlayedR.re {S1 : Type} {N : Nat} {w w' : World} {r : TSt (S1 × (Nat → List Ans))} {st : List Int} {ab : Nat} {ov sv : Value} {am : AnsM} (h : PlayedR N w r st ab ov sv am w') (τ : Nat → Question → Nat) (d : Nat) : PlayedR N w r st ab ov sv am (Go.Car.re w' τ d) :=
 ⟨h.size, h.old, ⟨h.ans.hd, h.ans.row, h.ans.blk, h.ans.nab, h.ans.sep⟩, h.ast, h.abl, h.ansn, h.orow, h.srow, h.rowf, h.srowf⟩
theorem played_of {M1 S1 : Type} {C : Core M1 S1} {N H : Nat} {l₀ l' : M1} {w wb w2 w' : World} {r : TSt (S1 × (Nat → List Ans))} {ab : Nat} {v sv : Value} {am : AnsM} {st : List Int} (h : OpsRes C N l₀ wb r ab v l' am w2) (hw : w.heap.size = H) (hwb : H + 1 ≤ wb.heap.size) (hob : ∀ b, b < H → wb.heap[b]? = w.heap[b]?)
 (hl : ∀ b, C.foot l₀ b → H + 1 ≤ b) (hsz : w2.heap.size ≤ w'.heap.size) (hold : ∀ x, x < w2.heap.size → x ≠ H → w'.heap[x]? = w2.heap[x]?) (hs : w'.ownsRow w2.heap.size 2 1 sv st.length (st.map (Value.int .i64))) : PlayedR N w r st ab v sv am w' := by
 have h1 := h.size
 have h2 := h.abl
 have han : ∀ i b, i < N → am.X i b ≠ none → H + 1 ≤ b := fun i b hi hb => (h.ansn i b hi hb).elim (hl b) (fun x => by omega)
 refine ⟨by omega, fun b hb => (hold b (by omega) (by omega)).trans ((h.old b (by omega) fun x => by have := hl b x; omega).trans (hob b (by omega))), ⟨(hold ab (heap_lt h.ans.hd) (by omega)).trans h.ans.hd, h.ans.row, fun i b o hi hb => (hold b (heap_lt (h.ans.blk i b o hi hb)) (by have := han i b hi (by rw [hb]; simp); omega)).trans (h.ans.blk i b o hi hb), h.ans.nab, h.ans.sep⟩, h.ast, by omega, fun i b hi hb => by have := han i b hi hb; omega, ?_, ownsRow_base hs (by omega), fun x hx => (h.rowf x hx).2, fun x hx => ?_⟩
 · refine ownsRow_base (ownsRow_of h.row fun g hg => hold g (own_lt h.row hg).2.2 ?_) (by omega)
   have := (own_lt h.row hg).2.1
   omega
 · have h3 := (own_lt hs hx).2.1
   refine ⟨?_, fun i hi => ?_, fun e => ?_⟩
   · have := heap_lt h.ans.hd; omega
   · cases ho : am.X i x with
     | none => rfl
     | some o => have := heap_lt (h.ans.blk i x o hi ho); omega
   · have := (own_lt h.row e).2.2; omega
def strPr (ws : List Int) (ops : Nat → List OpX) (i : Nat) : Proc (List Int × (Nat → List Ans)) Unit := opsP i (doP (stripesN ws.length)) (ops i)
def strT (ws : List Int) (ops : Nat → List OpX) (N : Nat) (mo : Int) (sched : List Int) : TSt (List Int × (Nat → List Ans)) := playT (strPr ws ops) N (min mo.toNat 1048576) sched (begunL ws, fun _ => [])
section
variable {S2 : Type}
theorem tick_deep {k : Nat} : (Proc.tick : Proc (List Int × S2) Unit).Deep k := (Proc.Deep.ret _).then
theorem onL_deep {α : Type} {k : Nat} (f : List Int → List Int × α) : (onL f : Proc (List Int × S2) α).Deep k := Proc.Deep.act _
theorem foldP_deep (g : Nat → Int → List Int → List Int × Int) (N k : Nat) : ∀ n j acc, (foldP g N n j acc : Proc (List Int × S2) Int).Deep k
 | 0, _, _ => Proc.Deep.ret _
 | n + 1, j, acc => (tick_deep.bind fun _ => onL_deep _).bind fun x => foldP_deep g N k n (j + 1) _
theorem addP_deep (N k : Nat) (a v : Int) : (addP N a v : Proc (List Int × S2) Int).Deep k := tick_deep.bind fun _ => onL_deep _
theorem evenB_deep (N k : Nat) (seen : List Int) : ∀ n j acc, (evenB N seen n j acc : Proc (List Int × S2) (Int × Bool)).Deep k
 | 0, _, _ => Proc.Deep.ret _
 | n + 1, j, acc => by
  unfold evenB
  refine (tick_deep.bind fun _ => onL_deep _).bind fun x => ?_
  split
  · exact evenB_deep N k seen n (j + 1) acc
  · exact Proc.Deep.ret _
theorem evenA_deep (N k : Nat) : ∀ n j seen acc, (evenA N n j seen acc : Proc (List Int × S2) (Int × Bool)).Deep k
 | 0, _, _, _ => evenB_deep _ _ _ _ _ _
 | n + 1, j, seen, acc => (tick_deep.bind fun _ => onL_deep _).bind fun x => evenA_deep N k n (j + 1) _ _
theorem doP_deep (N k : Nat) (op : OpX) : (doP N op : Proc (List Int × S2) Ans).Deep k := by
 unfold doP
 repeat' split
 · exact (addP_deep _ _ _ _).bind fun _ => Proc.Deep.ret _
 · exact (foldP_deep _ _ _ _ _ _).bind fun _ => Proc.Deep.ret _
 · exact (foldP_deep _ _ _ _ _ _).bind fun _ => Proc.Deep.ret _
 · exact ((addP_deep _ _ _ _).bind fun _ => (addP_deep _ _ _ _).bind fun _ => Proc.Deep.ret _).bind fun _ => Proc.Deep.ret _
 · exact (evenA_deep _ _ _ _ _ _).bind fun _ => Proc.Deep.ret _
 · exact Proc.Deep.ret _
end
theorem do_turn {cb : Nat} {z : Option Nat} {NS N ab : Nat} (hp : 0 < NS) (hl : NS ≤ 64) (ro : Nat → Option Obj) (pr : Nat → Proc (List Int × (Nat → List Ans)) Unit) (st : Nat) (cr : Frame) (rest : List Frame) (EN : List PanicEntry → Prop) (i : Nat) (o : List Ans) (op : OpX) :
 SpecR (thrSys plainM rowsM (prodCore (strCore cb z NS) (ansCore tT ab N)) ownA ro pr 72 (.pointer (some ⟨st, 0, none⟩)) cr rest NEnd EN i o) 27 (#[.pointer (some ⟨cb, 0, none⟩)] ++ #[.iface 108 (.pointer (some ⟨st, 0, none⟩)), .int .i64 i, op.val] ++ #[]) (doP NS op) (AnsV 2) :=
 do_spec _ (atoms_of_alone _ (I := fun s => ownA i s = o) (fun l l' s h => h) (fun l l' s j _ => rfl) hp hl (step_stand _ (thr_step plainM rowsM o))) (i : Int) op
theorem strplay_calls {Fin : Machine → Trace → Prop} (hFin : Back Try.prog Fin) {n : Nat} (hn : 0 < n) {RP : Nat → Option Obj} {w : World} {wl Cw np Cn N Cs : Nat} {wp pp scp : Option Addr} {sp : Nat → Option Addr} {L Cp : Nat → Nat} {ops : Nat → List OpX} {ws sched : List Int} {mo : Int}
 (hwl : ws.length = wl) (hwn : wl ≤ 4611686018427387904) (hws : 0 < wl → ∃ wb wo, wp = some ⟨wb, wo, none⟩ ∧ ∀ i, i < wl → w.cell? ⟨wb, wo + i, none⟩ = some (.int .i64 (ws.getD i 0)))
 (hRP : ∀ b o, RP b = some o → w.heap[b]? = some o) (ho : OpsAt w RP pp np N sp L Cp ops) (hsl : sched.length ≤ 4611686018427387904)
 (hs : sched ≠ [] → ∃ sb off, scp = some ⟨sb, off, none⟩ ∧ RP sb = none ∧ ∀ j x, sched[j]? = some x → w.cell? ⟨sb, off + j, none⟩ = some (.int .i64 x))
 {c : Frame} {cs : List Frame}
 (hmain : ∀ ab ov sv am w', PlayedR N w (strT ws ops N mo sched) (strT ws ops N mo sched).s.1 ab ov sv am w' →
  J0 Try.prog Fin (n + N) (G (c.finish (.agg #[.slice (some ⟨ab, 0, none⟩) N N, ov, sv, .bool (decide (0 < leftN (strT ws ops N mo sched).ov N))])) cs) w') :
 J0 Try.prog Fin n (G (Frame.enter Try.prog 10 #[.slice wp wl Cw, .slice pp np Cn, .slice scp sched.length Cs, .int .i64 mo] .normal) (c :: cs)) w := by
 have hJ := j0_JS hFin
 have hC := j0_calm hFin
 have e : Frame.enter Try.prog 10 #[.slice wp wl Cw, .slice pp np Cn, .slice scp sched.length Cs, .int .i64 mo] .normal = (bN 10).at (enterAct Try.f10 #[.slice wp wl Cw, .slice pp np Cn, .slice scp sched.length Cs, .int .i64 mo]) [.code ((Try.f10.body).getD .skip)] := by kernel_rfl
 have ea : enterAct Try.f10 #[.slice wp wl Cw, .slice pp np Cn, .slice scp sched.length Cs, .int .i64 mo] = ⟨#[.slice wp wl Cw, .slice pp np Cn, .slice scp sched.length Cs, .int .i64 mo, undef, undef, undef, undef, undef, undef, undef, undef, undef, undef, undef, undef, undef, undef, undef, undef, undef, undef, undef], []⟩ := by kernel_rfl
 rw [e, ea, spl0]
 clear e ea
 have hm := Lib.hid hmain
 clear hmain
 obtain ⟨H, hH⟩ : ∃ H, w.heap.size = H := ⟨_, rfl⟩
 refine hJ.ctl (s := n) (fun w => stepG_seq) ?_
 refine at_lone hJ hC plainM (by kernel_rfl) (fun t w' => t = #[.slice wp wl Cw, .slice pp np Cn, .slice scp sched.length Cs, .int .i64 mo, undef, undef, undef, undef, .pointer (some ⟨H, 0, none⟩), undef, undef, undef, undef, undef, undef, undef, undef, undef, undef, undef, undef, undef, undef] ∧ ∃ τ d, w' = re (w.alloc (.cells #[.slice none 0 0, .slice none 0 0, .slice none 0 0, .bool false] 31)) τ d) (fun t w' τ d h => ⟨h.1, by obtain ⟨τ', d', rfl⟩ := h.2; exact ⟨τ, d, by rw [re_re]⟩⟩) (by decide) (fun τ d => ?_) ?_
 · obtain ⟨u0, hu0⟩ : ∃ c, headC (splT 0) = c := ⟨_, rfl⟩
   have eu0 := hu0
   rw [hu0]
   simp only [splT, headC, tailN, Try.f10, al_od] at eu0
   subst eu0
   clear hu0 hs ho hRP hws
   go_wp2
   exact ⟨rfl, rfl, τ, d, rfl⟩
 rintro t w' ⟨rfl, τ, d, rfl⟩
 refine hJ.re' n _ _ τ d ?_
 have hwa : (w.alloc (.cells #[.slice none 0 0, .slice none 0 0, .slice none 0 0, .bool false] 31)).heap.size = H + 1 := by rw [zqc, hH]
 have hob : ∀ b, b < H → (w.alloc (.cells #[.slice none 0 0, .slice none 0 0, .slice none 0 0, .bool false] 31)).heap[b]? = w.heap[b]? := fun b hb => by rw [zq9, if_neg (by omega)]
 have hzb : (w.alloc (.cells #[.slice none 0 0, .slice none 0 0, .slice none 0 0, .bool false] 31)).heap[H]? = some (.cells #[.slice none 0 0, .slice none 0 0, .slice none 0 0, .bool false] 31) := hH ▸ al_new w _
 obtain ⟨wa, hwae⟩ : ∃ wa, w.alloc (.cells #[.slice none 0 0, .slice none 0 0, .slice none 0 0, .bool false] 31) = wa := ⟨_, rfl⟩
 rw [hwae] at hwa hob hzb ⊢
 clear hwae
 refine hJ.ctl (s := n) (fun w => stepG_seq) ?_
 refine at_lone hJ hC plainM (by kernel_rfl) (fun t w' => t = #[.slice wp wl Cw, .slice pp np Cn, .slice scp sched.length Cs, .int .i64 mo, undef, undef, undef, undef, .pointer (some ⟨H, 0, none⟩), .pointer (some ⟨H + 1 + 1, 0, none⟩), undef, .slice wp wl Cw, .pointer (some ⟨H + 1 + 1, 0, none⟩), undef, undef, undef, undef, undef, undef, undef, undef, undef, undef] ∧ NewStr wa (stripesN wl) (begunL ws) w') (fun t w' τ d h => ⟨h.1, h.2.re τ d⟩) (by decide) (fun τ d => ?_) ?_
 · obtain ⟨u0, hu0⟩ : ∃ c, headC (splT 1) = c := ⟨_, rfl⟩
   have eu0 := hu0
   rw [hu0]
   simp only [splT, headC, tailN, Try.f10, al_od] at eu0
   subst eu0
   clear hu0
   have HM := Lib.hid (begun_lone (p := wp) (n := wl) (C := Cw) (ws := ws) (re wa τ d) hwl hwn (fun h0 => by
    obtain ⟨wb, wo, e, h1⟩ := hws h0
    exact ⟨wb, wo, e, fun i hi => (cell_of_same (hob wb (by rw [← hH]; exact cell_lt (h1 i hi)))).trans (h1 i hi)⟩))
   have HH := Lib.hid (And.intro hH hwa)
   clear hs ho hRP hws hob hzb hH hwa hwl hwn hsl
   go_wp2_with (fail)
   refine Calls.mono HM.out ?_
   rintro e w' ⟨rfl, hR⟩
   have hR2 : RowKit.Hid (NewStr wa (stripesN wl) (begunL ws) w') := Lib.hid ⟨hR.rep, hR.size, hR.old⟩
   clear hR
   rw [show (re wa τ d).heap.size = H + 1 from HH.out.2]
   go_wp2
   exact ⟨rfl, rfl, hR2.out⟩
 rintro t wb ⟨rfl, hR⟩
 have hrep := hR.rep
 have hwb := hR.size
 have hobb : ∀ b, b < H → wb.heap[b]? = w.heap[b]? := fun b hb => (hR.old b (by omega)).trans (hob b hb)
 have hzb2 : wb.heap[H]? = some (.cells #[.slice none 0 0, .slice none 0 0, .slice none 0 0, .bool false] 31) := (hR.old H (by omega)).trans hzb
 rw [hwa] at hrep hwb
 clear hR hzb hob hwa
 have hlt : ∀ b o, RP b = some o → b < H := fun b o h => by rw [← hH]; exact heap_lt (hRP b o h)
 have hnf : ∀ b, (strCore (H + 1 + 1) (some (H + 1)) (stripesN wl)).foot (begunL ws) b → H + 1 ≤ b := fun b hb => by
  rcases hb with e | e
  · omega
  · injection e with e; omega
 have hB : BRep (strCore (H + 1 + 1) (some (H + 1)) (stripesN wl)) RP ⟨begunL ws, fun _ _ => none⟩ wb := by
  refine ⟨hrep, fun i b o h => (by cases h), fun b o h => (hobb b (hlt b o h)).trans (hRP b o h), fun i b h => absurd rfl h, fun i j b _ h => absurd rfl h, fun b h hf => ?_, fun i b _ => rfl⟩
  cases ho : RP b with
  | none => exact h ho
  | some o => have := hlt b o ho; have := hnf b hf; omega
 have hOp : OpsAt wb RP pp np N sp L Cp ops := by
  refine ⟨ho.eq, ho.le, fun h0 => ?_, ho.row, ho.len, ho.op⟩
  obtain ⟨tb, to', e, h1⟩ := ho.at' h0
  exact ⟨tb, to', e, fun i hi => (cell_of_same (hobb tb (by rw [← hH]; exact cell_lt (h1 i hi)))).trans (h1 i hi)⟩
 have hsc : sched ≠ [] → ∃ sb off, scp = some ⟨sb, off, none⟩ ∧ RP sb = none ∧ ¬ (strCore (H + 1 + 1) (some (H + 1)) (stripesN wl)).foot (begunL ws) sb ∧ ∀ j x, sched[j]? = some x → wb.cell? ⟨sb, off + j, none⟩ = some (.int .i64 x) := fun h0 => by
  obtain ⟨sb, off, e, h1, h2⟩ := hs h0
  obtain ⟨x, l, hsl⟩ := List.exists_cons_of_ne_nil h0
  have hlt : sb < H := by rw [← hH]; exact cell_lt (h2 0 x (by rw [hsl]; rfl))
  exact ⟨sb, off, e, h1, fun hf => by have := hnf sb hf; omega, fun j x hj => (cell_of_same (hobb sb hlt)).trans (h2 j x hj)⟩
 have hst := stripesN_pos wl
 clear ho hs hRP hlt hws
 refine hJ.ctl (s := n) (fun w => stepG_seq) ?_
 obtain ⟨u0, hu0⟩ : ∃ c, headC (splT 2) = c := ⟨_, rfl⟩
 have eu0 := hu0
 rw [hu0]
 simp only [splT, headC, tailN, Try.f10, al_od] at eu0
 subst eu0
 clear hu0
 refine hJ.ctl (s := n) (fun w => stepG_region) ?_
 have HX := Lib.hid (And.intro hB (And.intro hOp (And.intro hsc (And.intro hnf (And.intro hobb (And.intro hzb2 hwb))))))
 have HE := Lib.hid (And.intro hwl (And.intro hH (And.intro hst hrep.len)))
 clear hB hOp hsc hnf hobb hzb2 hwb hwl hH hst hrep
 refine at_piece (s := n) (by decide) hJ (zqe _) true (.inl rfl) 0 5 3 rfl rfl rfl (by rfl) ?_
 intro τ d
 simp only [List.drop_zero, List.take_succ_cons, List.take_zero]
 go_wp2
 simp only [contAt]
 refine hJ.re' n _ _ τ d ?_
 refine at_call (by decide) hJ (s := n) rfl rfl (f := 26) (args := #[.slice pp np Cn, .func (.func 27) #[.pointer (some ⟨H + 1 + 1, 0, none⟩)] #[], .slice scp sched.length Cs, .int .i64 mo]) (fun τ d => ?_) (fun τ d => ?_) ?_
 · simp [go_sem, execOp, Act.eval, resolve, Deferred.ofValue, invoke, callFunc, Try.func26, Try.f26]
 · intro e he
   simp [go_sem, execOp, Act.eval, resolve, Deferred.ofValue, invoke, callFunc, Try.func26, Try.f26, Sem.runT_eq] at he
 obtain ⟨hB, hOp, hsc, hnf, hobb, hzb2, hwb⟩ := HX.out
 obtain ⟨hwl, hH, hst, hlen⟩ := HE.out
 refine ops_calls hFin hn plainM rowsM (fn := Try.f27) (cc := (Try.f27.body).getD .skip) Try.func27 rfl rfl hB hOp hsl hsc (dop := fun _ => doP (stripesN wl)) (fun i op k => doP_deep _ _ _) (fun ro ab pr st cr rest EN i o op _ _ => do_turn hst.1 hst.2 ro pr st cr rest EN i o op) ?_
 intro ab v l' am w2 hO
 rw [Frame.finish_at]
 walk_nrm
 have hTe : playT (fun i => opsP i (doP (stripesN wl)) (ops i)) N (min mo.toNat 1048576) sched ((strCore (H + 1 + 1) (some (H + 1)) (stripesN wl)).st (begunL ws), fun _ => []) = strT ws ops N mo sched := by
  unfold strT strPr
  rw [hwl]
  rfl
 rw [hTe] at hO ⊢
 obtain ⟨pv', cv', rfl, _⟩ := own_slice hO.row
 have hl' : (strT ws ops N mo sched).s.1 = l' := hO.st.symm
 have hze : w2.heap[H]? = some (.cells #[.slice none 0 0, .slice none 0 0, .slice none 0 0, .bool false] 31) := (hO.old H (by omega) (fun h => by have := hnf H h; omega)).trans hzb2
 generalize (strT ws ops N mo sched).ord.length = nv' at hO ⊢
 have HO := Lib.hid hO
 have HZ := Lib.hid (And.intro hze hl')
 obtain ⟨stuck, hstuck⟩ : ∃ x, decide (0 < leftN (strT ws ops N mo sched).ov N) = x := ⟨_, rfl⟩
 rw [hstuck]
 have HST := Lib.hid hstuck
 clear hstuck hO hze hl' hTe hB hOp hsc hnf hobb hzb2 hwb hwl hH hst hlen
 have hwl := HE.out.1
 refine at_piece (s := n + N) (by decide) hJ (zqe _) false (.inr rfl) 6 2 0 rfl rfl rfl (by rfl) ?_
 intro τ d
 simp only [List.drop_succ_cons, List.drop_zero, List.take_succ_cons, List.take_zero]
 have HO2 := Lib.hid (HO.out.re τ d)
 have HZ2 : RowKit.Hid ((re w2 τ d).heap[H]? = some (.cells #[.slice none 0 0, .slice none 0 0, .slice none 0 0, .bool false] 31) ∧ (strT ws ops N mo sched).s.1 = l') := Lib.hid HZ.out
 clear HO HZ
 generalize re w2 τ d = w3 at HO2 HZ2 ⊢
 go_wp2
 simp only [contAt]
 refine hJ.ctl (s := n + N) (fun w => stepG_region_end) ?_
 have hT := al_new w3 (.cells #[.slice (some ⟨ab, 0, none⟩) N N, .slice pv' nv' cv', .slice none 0 0, .bool stuck] 31)
 have hoT : ∀ b, b < w3.heap.size → (w3.alloc (.cells #[.slice (some ⟨ab, 0, none⟩) N N, .slice pv' nv' cv', .slice none 0 0, .bool stuck] 31)).heap[b]? = w3.heap[b]? := fun b hb => by rw [zq9, if_neg (by omega)]
 have hsT : (w3.alloc (.cells #[.slice (some ⟨ab, 0, none⟩) N N, .slice pv' nv' cv', .slice none 0 0, .bool stuck] 31)).heap.size = w3.heap.size + 1 := zqc _ _
 generalize (w3.alloc (.cells #[.slice (some ⟨ab, 0, none⟩) N N, .slice pv' nv' cv', .slice none 0 0, .bool stuck] 31)) = w4 at hT hoT hsT ⊢
 obtain ⟨T, hTT⟩ : ∃ T, w3.heap.size = T := ⟨_, rfl⟩
 rw [hTT] at hT hoT hsT ⊢
 have HT := Lib.hid (And.intro hT (And.intro hoT (And.intro hsT hTT)))
 clear hT hoT hsT hTT
 refine at_rest_lone hJ hC plainM (by kernel_rfl) (fun v w' => ∃ sv am, v = .agg #[.slice (some ⟨ab, 0, none⟩) N N, .slice pv' nv' cv', sv, .bool stuck] ∧ PlayedR N w (strT ws ops N mo sched) (strT ws ops N mo sched).s.1 ab (.slice pv' nv' cv') sv am w') (fun v w' τ d ⟨sv, am, h1, h2⟩ => ⟨sv, am, h1, h2.re τ d⟩) rfl Try.func10 (fun τ d => ?_) ?_
 · obtain ⟨u0, hu0⟩ : ∃ c, splT 3 = c := ⟨_, rfl⟩
   have eu0 := hu0
   rw [hu0]
   simp only [splT, headC, tailN, Try.f10, al_od] at eu0
   subst eu0
   clear hu0
   obtain ⟨hT, hoT, hsT, hTT⟩ := HT.out
   have hT' : (re w4 τ d).heap[T]? = some (.cells #[.slice (some ⟨ab, 0, none⟩) N N, .slice pv' nv' cv', .slice none 0 0, .bool stuck] 31) := hT
   have hoT' : ∀ b, b < T → (re w4 τ d).heap[b]? = w3.heap[b]? := hoT
   have hsT' : (re w4 τ d).heap.size = T + 1 := hsT
   have hHl : H < T := by rw [← hTT]; exact heap_lt HZ2.out.1
   have hall := all_lone ((strCore (H + 1 + 1) (some (H + 1)) (stripesN wl)).frame _ _ _ HO2.out.rep fun b hb => hoT' b (by rw [← hTT]; exact (strCore (H + 1 + 1) (some (H + 1)) (stripesN wl)).lt _ _ _ HO2.out.rep hb))
   generalize re w4 τ d = w5 at hT' hoT' hsT' hall ⊢
   have HA := Lib.hid hall
   have HW := Lib.hid (And.intro hT' (And.intro hoT' (And.intro hsT' (And.intro hTT hHl))))
   clear hT hoT hsT hTT hT' hoT' hsT' hall HT hHl hwl hm
   go_wp2_with (fail)
   refine Calls.mono HA.out ?_
   rintro e w6 ⟨sv, rfl, hI⟩
   obtain ⟨sp', sc', rfl, -, -⟩ := own_slice hI.row
   obtain ⟨sl, hsl'⟩ : ∃ x, l'.length = x := ⟨_, rfl⟩
   rw [hsl'] at hI ⊢
   have hI2 := Lib.hid (And.intro hI hsl')
   clear hsl'
   have b1 : w6.heap[T]? = some (.cells #[.slice (some ⟨ab, 0, none⟩) N N, .slice pv' nv' cv', .slice none 0 0, .bool stuck] 31) := (hI.old T (by have := HW.out.2.2.1; omega)).trans HW.out.1
   have b0 : w6.heap[H]? = some (.cells #[.slice none 0 0, .slice none 0 0, .slice none 0 0, .bool false] 31) := (hI.old H (by have := HW.out.2.2.1; have := HW.out.2.2.2.2; omega)).trans ((HW.out.2.1 H HW.out.2.2.2.2).trans HZ2.out.1)
   have hne : ¬ (T = H) := by have := HW.out.2.2.2.2; omega
   have hne2 : ¬ (H = T) := by omega
   clear hI
   have c0 := (zq1 (off := 0) b1).trans rfl
   have c1 := (zq1 (off := 1) b1).trans rfl
   have c2 := (zq1 (off := 2) b1).trans rfl
   have c3 := (zq1 (off := 3) b1).trans rfl
   have y2 := zqb (off := 2) b1
   have r0 := (zq1 (off := 0) b0).trans rfl
   have r1 := (zq1 (off := 1) b0).trans rfl
   have r2 := (zq1 (off := 2) b0).trans rfl
   have r3 := (zq1 (off := 3) b0).trans rfl
   have z0 := zqb (off := 0) b0
   have z1 := zqb (off := 1) b0
   have z2 := zqb (off := 2) b0
   have z3 := zqb (off := 3) b0
   have B0 := Lib.hid b0
   have B1 := Lib.hid b1
   clear b0 b1
   go_wp2
   clear c0 c1 c2 c3 y2 r0 r1 r2 r3 z0 z1 z2 z3
   have b0 : (w6.setCell ⟨T, 2, none⟩ (.slice sp' sl sc')).heap[H]? = some (.cells #[.slice none 0 0, .slice none 0 0, .slice none 0 0, .bool false] 31) := by rw [hp_set_ne _ _ _ _ hne2]; exact B0.out
   have b1' := zqf _ H 0 (.slice (some ⟨ab, 0, none⟩) N N) b0
   have b2' := zqf _ H 1 (.slice pv' nv' cv') b1'
   have b3' := zqf _ H 2 (.slice sp' sl sc') b2'
   have b4' := zqf _ H 3 (.bool stuck) b3'
   have hext : ∀ x, x ≠ T → x ≠ H → (((((w6.setCell ⟨T, 2, none⟩ (.slice sp' sl sc')).setCell ⟨H, 0, none⟩ (.slice (some ⟨ab, 0, none⟩) N N)).setCell ⟨H, 1, none⟩ (.slice pv' nv' cv')).setCell ⟨H, 2, none⟩ (.slice sp' sl sc')).setCell ⟨H, 3, none⟩ (.bool stuck)).heap[x]? = w6.heap[x]? := fun x hx1 hx => by
    rw [hp_set_ne _ _ _ _ hx, hp_set_ne _ _ _ _ hx, hp_set_ne _ _ _ _ hx, hp_set_ne _ _ _ _ hx, hp_set_ne _ _ _ _ hx1]
   have hsz8 : (((((w6.setCell ⟨T, 2, none⟩ (.slice sp' sl sc')).setCell ⟨H, 0, none⟩ (.slice (some ⟨ab, 0, none⟩) N N)).setCell ⟨H, 1, none⟩ (.slice pv' nv' cv')).setCell ⟨H, 2, none⟩ (.slice sp' sl sc')).setCell ⟨H, 3, none⟩ (.bool stuck)).heap.size = w6.heap.size := by simp only [hp_size_set]
   generalize (((((w6.setCell ⟨T, 2, none⟩ (.slice sp' sl sc')).setCell ⟨H, 0, none⟩ (.slice (some ⟨ab, 0, none⟩) N N)).setCell ⟨H, 1, none⟩ (.slice pv' nv' cv')).setCell ⟨H, 2, none⟩ (.slice sp' sl sc')).setCell ⟨H, 3, none⟩ (.bool stuck)) = w8 at b4' hext hsz8 ⊢
   clear b1' b2' b3' b0
   have k0 := (zq1 (off := 0) b4').trans rfl
   have k1 := (zq1 (off := 1) b4').trans rfl
   have k2 := (zq1 (off := 2) b4').trans rfl
   have k3 := (zq1 (off := 3) b4').trans rfl
   obtain ⟨_, hoT, hsT, hTT, hHl⟩ := HW.out
   obtain ⟨hI, hsl2⟩ := hI2.out
   have hwl := HE.out.1
   obtain ⟨hB, hOp, hsc, hnf, hobb, hzb2, hwb⟩ := HX.out
   have hrow : w8.ownsRow w3.heap.size 2 1 (.slice sp' sl sc') (strT ws ops N mo sched).s.1.length ((strT ws ops N mo sched).s.1.map (Value.int .i64)) := by
    rw [HZ2.out.2, hsl2]
    have hrI := hI.row
    rw [hsl2] at hrI
    have q : w8.ownsRow w5.heap.size 2 1 (.slice sp' sl sc') sl (l'.map (Value.int .i64)) := ownsRow_of hrI fun g hg => by
     have h1 := (own_lt hrI hg).2.1
     exact hext g (by omega) (by omega)
    exact ownsRow_base q (by omega)
   have hfin : PlayedR N w (strT ws ops N mo sched) (strT ws ops N mo sched).s.1 ab (.slice pv' nv' cv') (.slice sp' sl sc') am w8 := by
    refine played_of HO2.out HE.out.2.1 (by omega) hobb hnf (by have := hI.size; omega) (fun x hx hxH => ?_) hrow
    rw [hext x (by omega) hxH, hI.old x (by omega)]
    exact hoT x (by omega)
   refine ⟨rfl, .agg #[.slice (some ⟨ab, 0, none⟩) N N, .slice pv' nv' cv', .slice sp' sl sc', .bool stuck], ?_, _, rfl, _, _, rfl, hfin⟩
   simp only [results, Try.f10]
   simp [go_sem, k0, k1, k2, k3]
 · rintro v w' ⟨sv, am, rfl, h⟩
   have h2 := hm.out _ _ sv am w' h
   rw [HST.out] at h2
   exact h2
section
variable {Ml S α : Type} {C : Core Ml S} {ro : Nat → Option Obj} {i : Nat}
theorem step_nil {main : Bool} {Kc : Addr → Option Value} {J : Goroutine → World → Prop} (hJ : JS Try.prog main Kc (fun (_ : Unit) => J)) (hC : CalmJ Try.prog main (fun (_ : Unit) => J)) (m₀ : BM Ml) (w₀ : World) (T : S × Option α × Nat) :
 StepY (seqSys plainM hJ hC C ro i 0 m₀ w₀ T) 33 #[.nilIface] := by
 obtain ⟨Y, hY⟩ : ∃ Y, seqSys plainM hJ hC C ro i 0 m₀ w₀ T = Y := ⟨_, rfl⟩
 have hskip : ∀ (K : Unit → Proc S α) (s : Y.γ) (B : Nat → Option Obj) (w : World), Y.AtB B s w (Proc.tick.bind K) → Y.AtB B s w (K ()) := by
  subst hY
  rintro K s B w ⟨m, h1, h2, h3⟩
  exact ⟨m, h1, LoneAt.skip h2, h3⟩
 rw [hY]
 clear hY
 intro K s m w hA
 refine BodyY.calls ⟨_, _, Try.func33, rfl, ?_⟩
 simp only [enterAct, Try.ntmps33, List.size_toArray, List.length_cons, List.length_nil, Nat.reduceAdd, Nat.reduceSub, Array.replicate_succ, Array.replicate_zero, List.push_toArray, List.append_toArray, List.nil_append, List.cons_append]
 have hA : Y.AtB (m.box i) s w (Proc.tick.bind K) := ⟨m, rfl, hA⟩
 obtain ⟨B, hB0⟩ : ∃ B, m.box i = B := ⟨_, rfl⟩
 rw [hB0] at hA ⊢
 clear hB0
 apply YSys.seq0 hA (by kernel_rfl)
 · intro wc hB
   go_wp2
   exact ⟨rfl, Ext1.refl _, rfl⟩
 intro w hA
 refine wpY_cond Y.jc rfl ?_
 rw [if_neg (by decide)]
 refine wpY_skip Y.jc ?_
 have h := hskip K s B w hA
 exact ⟨rfl, .inl ⟨_, resultsC_none rfl _, (), h.choose, rfl, h.choose_spec⟩⟩
end
def unitCore : Core Unit Unit where
 foot _ _ := False
 Rep _ _ := True
 st l := l
 frame _ _ _ h _ := h
 lt _ _ _ _ hb := hb.elim
 pin _ := 0
section
variable {M2 S2 α : Type} {D : Core M2 S2} {cb : Nat} {z : Option Nat} {N : Nat}
end
section
variable {α : Type} {cb : Nat} {z : Option Nat} {N : Nat} {l : List Int}
structure StrAft (cb : Nat) (z : Option Nat) (N : Nat) (l' : List Int) (w w' : World) : Prop where
 rep : StrRep cb z N l' w'
 size : w.heap.size ≤ w'.heap.size
 old : ∀ b, b < w.heap.size → b ≠ cb → z ≠ some b → w'.heap[b]? = w.heap[b]?
end
theorem str_nilJ {Fin : Machine → Trace → Prop} (hFin : Back Try.prog Fin) {n : Nat} {α : Type} {cb : Nat} {z : Option Nat} {N : Nat} {l : List Int} {f : FuncId} {args : Array Value} {p : Proc (List Int × Unit) α} {val : α → Value} {w : World} {a : α} {l' : List Int} (hspec : ∀ Y : YSys Try.prog aM (prodCore (strCore cb z N) unitCore) (fun _ => none) 0 α, StrAtoms Y .nilIface → SpecY Y f args p val) (hT : (p.run (l, ())).2.1 = some a) (hl' : (p.run (l, ())).1.1 = l') (h : StrRep cb z N l w) {cl : Frame} {cs : List Frame}
 (hq : ∀ w', StrAft cb z N l' w w' → J0 Try.prog Fin n (G (cl.finish (val a)) cs) w') : J0 Try.prog Fin n (G (Frame.enter Try.prog f args .normal) (cl :: cs)) w := by
 have hJ : JS Try.prog true (fun _ => none) (fun (_ : Unit) => J0 Try.prog Fin n) := ⟨fun _ g w τ d h => (j0_JS hFin).re' n g w τ d h, fun _ g w h1 h2 => (j0_JS hFin).step n g w h1 h2⟩
 have hC : CalmJ Try.prog true (fun (_ : Unit) => J0 Try.prog Fin n) := fun _ fr cs w h => j0_calm hFin n fr cs w h
 have hpos := h.pos
 have hle := h.le
 refine seq_calls (C := prodCore (strCore cb z N) unitCore) (ro := fun _ => none) (i := 0) (p := p) (val := val) (m₀ := ⟨(l, ()), fun _ _ => none⟩) plainM hJ hC ⟨⟨h, trivial, fun b _ hb => hb⟩, fun i b o h => (by cases h), fun b o h => (by cases h), fun i b h => absurd rfl h, fun i j b _ h => absurd rfl h, fun b h => absurd rfl h, fun i b h => rfl⟩ ⟨a, hT⟩ 0 (hspec _ (atoms_of_alone _ (fun _ _ _ _ => trivial) (fun _ _ _ => trivial) hpos hle (step_nil _ _ _ _ _))) ?_
 intro a' m' w' _ hL
 obtain ⟨n', h1, _, _⟩ := hL.run
 simp only [Tree.run, Prod.mk.injEq] at h1
 obtain ⟨h1, h2, rfl⟩ := h1
 have e1 : a' = a := Option.some.inj (h2.trans hT)
 subst e1
 have e2 : m'.l.1 = l' := (congrArg Prod.fst h1).trans hl'
 refine hq w' ⟨e2 ▸ hL.rep.core.1, hL.size, fun b hb h6 h7 => hL.old b hb ?_⟩
 rintro (((h8 | h8) | h8) | h9 | h9)
 · exact h6 h8
 · exact h7 h8
 · exact h8.elim
 · exact h9.elim fun i h => absurd rfl h
 · exact absurd rfl h9
set_option maxHeartbeats 1000000
set_option maxRecDepth 100000
theorem ints_of_row {w : World} {B : Nat} {T : TypeId} {v : Value} {l : List Int} (h : w.ownsRow B T 1 v l.length (l.map (Value.int .i64))) : IntsAt w v l := by
 rcases h.2 with ⟨hv, h0⟩ | ⟨g, cap, cur, hv, hb, hh, h1, h2, h3, h4⟩
 · exact ⟨none, 0, by rw [hv, h0], fun hne => absurd (List.length_eq_zero_iff.1 h0) hne⟩
 · refine ⟨_, cap, hv, fun _ => ⟨g, 0, rfl, fun i hi => ?_⟩⟩
   rw [zq1 hh, Nat.zero_add]
   have e : (l.map (Value.int .i64))[i]? = some (.int .i64 (l.getD i 0)) := by simp [hi]
   rw [← h4, List.getElem?_take, if_pos (by omega)] at e
   simpa using e
theorem rowB_ints {X : Nat → Option Obj} {T : TypeId} {v : Value} {l : List Int} {w : World} (h : RowB X T 1 v l.length (l.map (Value.int .i64))) (hX : ∀ b o, X b = some o → w.heap[b]? = some o) : IntsAt w v l := ints_of_row (h.own hX)
theorem ansL_get {tI : TypeId} {X : Nat → Option Obj} {l : List Ans} {cs : List Value} (h : AnsL tI X l cs) : ∀ {i : Nat} {a : Ans}, l[i]? = some a → ∃ Y sl, cs[i * 3]? = some (.bool a.ok) ∧ cs[i * 3 + 1]? = some (.int .i64 a.n) ∧ cs[i * 3 + 2]? = some sl ∧ RowB Y tI 1 sl a.l.length (a.l.map (Value.int .i64)) ∧ ∀ b o, Y b = some o → X b = some o := by
 induction h with
 | nil => intro i a hi; simp at hi
 | snoc h ha hd ih =>
  rename_i X Y l cs cs' a'
  intro i a hi
  have hlen := h.len
  rcases Nat.lt_or_ge i l.length with hlt | hge
  · rw [List.getElem?_append_left hlt] at hi
    obtain ⟨Z, sl, h1, h2, h3, h4, h5⟩ := ih hi
    refine ⟨Z, sl, ?_, ?_, ?_, h4, fun b o hb => ?_⟩
    · rw [List.getElem?_append_left (by omega)]; exact h1
    · rw [List.getElem?_append_left (by omega)]; exact h2
    · rw [List.getElem?_append_left (by omega)]; exact h3
    · have h6 := h5 b o hb
      unfold orB
      cases hY : Y b with
      | none => simp [h6]
      | some y => have := hd b (by rw [hY]; simp); rw [this] at h6; cases h6
  · have e : i = l.length := by
     have := (List.getElem?_eq_some_iff.1 hi).1
     simp at this; omega
    subst e
    simp at hi
    subst hi
    obtain ⟨sl, rfl, hr⟩ := ha
    refine ⟨Y, sl, ?_, ?_, ?_, hr, fun b o hb => by simp [orB, hb]⟩
    · rw [List.getElem?_append_right (by omega), hlen]; simp
    · rw [List.getElem?_append_right (by omega), hlen]; simp
    · rw [List.getElem?_append_right (by omega), hlen]; simp
theorem ansR_at {tA tI : TypeId} {X : Nat → Option Obj} {hv : Value} {l : List Ans} {w : World} (h : AnsR tA tI X hv l) (hX : ∀ b o, X b = some o → w.heap[b]? = some o) : AnsAt w hv l := by
 obtain ⟨Xr, XL, cs, hr, hL, rfl, hd⟩ := h
 rcases hr.2 with ⟨hv, h0, _⟩ | ⟨g, cap, cur, rfl, rfl, h1, h2, h3, h4⟩
 · exact ⟨none, 0, by rw [hv, h0], fun hne => absurd (List.length_eq_zero_iff.1 h0) hne⟩
 · refine ⟨_, cap, rfl, fun _ => ⟨g, 0, rfl, fun i a hi => ?_⟩⟩
   have hg : w.heap[g]? = some (.cells cur tA (0, 0)) := hX g _ (by simp [orB])
   obtain ⟨Y, sl, e1, e2, e3, e4, e5⟩ := ansL_get hL hi
   have hil := (List.getElem?_eq_some_iff.1 hi).1
   have get : ∀ {j : Nat} {v : Value}, j < l.length * 3 → cs[j]? = some v → w.cell? ⟨g, 0 + j, none⟩ = some v := fun {j v} hj e => by
    rw [zq1 hg, Nat.zero_add]
    rw [← h4, List.getElem?_take, if_pos hj] at e
    simpa using e
   refine ⟨get (by omega) e1, ?_, sl, ?_, rowB_ints e4 fun b o hb => hX b o ?_⟩
   · exact get (by omega) e2
   · exact get (by omega) e3
   · have h6 := e5 b o hb
     by_cases hbg : b = g
     · subst hbg
       have := hd b (by simp)
       rw [this] at h6; cases h6
     · simp [orB, hbg, h6]
theorem ansRep_at {ab N : Nat} {m : AnsM} {w : World} (h : AnsRep tT ab N m w) {i : Nat} (hi : i < N) : w.cell? ⟨ab, i, none⟩ = some (m.hv i) ∧ AnsAt w (m.hv i) (m.st i) := by
 refine ⟨(zq1 h.hd).trans ?_, ansR_at (h.row i hi) fun b o hb => h.blk i b o hi hb⟩
 simp [hi]
set_option maxHeartbeats 4000000
set_option maxRecDepth 100000
noncomputable def fxT (n : Nat) : Code := tailN n (Try.f8.body.getD .skip)
theorem fx0 : Try.f8.body.getD .skip = .seq (headC (fxT 0)) (.seq (headC (fxT 1)) (.seq (headC (fxT 2)) (.seq (headC (fxT 3)) (.seq (headC (fxT 4)) (fxT 5))))) := by kernel_rfl
theorem two_ops {w : World} {rb p0 p1 : Nat} {k : Int} (hr : w.heap[rb]? = some (.cells #[.slice (some ⟨p0, 0, none⟩) 1 1, .slice (some ⟨p1, 0, none⟩) 2 2] 34)) (h0 : w.heap[p0]? = some (.cells #[.int .i64 k, .int .i64 0, .int .i64 0, .int .i64 0] 46)) (h1 : w.heap[p1]? = some (.cells #[.int .i64 1, .int .i64 0, .int .i64 1, .int .i64 0, .int .i64 1, .int .i64 1, .int .i64 1, .int .i64 0] 46)) :
 OpsAt w (fun b => if b = p0 ∨ b = p1 then w.heap[b]? else none) (some ⟨rb, 0, none⟩) 2 2 (fun i => if i = 0 then some ⟨p0, 0, none⟩ else some ⟨p1, 0, none⟩) (fun i => if i = 0 then 1 else 2) (fun i => if i = 0 then 1 else 2) (fun i => if i = 0 then [⟨k, 0, 0, 0⟩] else [⟨1, 0, 1, 0⟩, ⟨1, 1, 1, 0⟩]) := by
 refine ⟨rfl, by decide, fun _ => ⟨rb, 0, rfl, fun i hi => ?_⟩, fun i hi => ?_, fun i hi => ?_, fun i hi k' op hop => ?_⟩
 · rw [zq1 hr]
   obtain rfl | rfl : i = 0 ∨ i = 1 := by omega
   · rfl
   · rfl
 · obtain rfl | rfl : i = 0 ∨ i = 1 := by omega
   · exact ⟨by decide, by decide, fun h => (by cases h)⟩
   · exact ⟨by decide, by decide, fun h => (by cases h)⟩
 · obtain rfl | rfl : i = 0 ∨ i = 1 := by omega
   · rfl
   · rfl
 · obtain rfl | rfl : i = 0 ∨ i = 1 := by omega
   · refine ⟨p0, _, _, _, rfl, by rw [if_pos (.inl rfl)]; exact h0, fun j hj => ?_⟩
     obtain rfl : k' = 0 := by have := (List.getElem?_eq_some_iff.1 hop).1; simp at this; omega
     simp at hop
     subst hop
     obtain rfl | rfl | rfl | rfl : j = 0 ∨ j = 1 ∨ j = 2 ∨ j = 3 := by omega
     all_goals rfl
   · refine ⟨p1, _, _, _, rfl, by rw [if_pos (.inr rfl)]; exact h1, fun j hj => ?_⟩
     obtain rfl | rfl : k' = 0 ∨ k' = 1 := by have := (List.getElem?_eq_some_iff.1 hop).1; simp at this; omega
     all_goals
      simp at hop
      subst hop
      obtain rfl | rfl | rfl | rfl : j = 0 ∨ j = 1 ∨ j = 2 ∨ j = 3 := by omega
      all_goals rfl
def fxOps (k : Int) (i : Nat) : List OpX := if i = 0 then [⟨k, 0, 0, 0⟩] else [⟨1, 0, 1, 0⟩, ⟨1, 1, 1, 0⟩]
theorem fx_sum : (strT [0, 0] (fxOps 2) 2 99 [0, 1, 1, 0]).s.2 0 = [⟨true, 1, []⟩] := by kernel_rfl
theorem fx_even : (strT [0, 0] (fxOps 5) 2 99 [0, 1, 1, 0, 0]).s.2 0 = [⟨false, 0, []⟩] := by kernel_rfl
theorem fixed_calls {Fin : Machine → Trace → Prop} (hFin : Back Try.prog Fin) {n : Nat} (hn : 0 < n) {w : World} {c : Frame} {cs : List Frame} (hmain : ∀ w', Beyond w w' → J0 Try.prog Fin (n + 4) (G (c.finish (.bool true)) cs) w') :
 J0 Try.prog Fin n (G (Frame.enter Try.prog 8 #[] .normal) (c :: cs)) w := by
 have hJ := j0_JS hFin
 have hC := j0_calm hFin
 have e : Frame.enter Try.prog 8 #[] .normal = (bN 8).at (enterAct Try.f8 #[]) [.code ((Try.f8.body).getD .skip)] := by kernel_rfl
 have ea : enterAct Try.f8 #[] = ⟨#[undef, undef, undef, undef, undef, undef, undef, undef, undef, undef, undef, undef, undef, undef, undef, undef, undef, undef, undef, undef, undef, undef, undef, undef, undef, undef, undef, undef, undef, undef, undef, undef, undef, undef, undef, undef, undef, undef, undef, undef, undef, undef, undef, undef, undef, undef, undef, undef, undef, undef, undef, undef, undef, undef, undef, undef, undef, undef, undef, undef, undef, undef, undef, undef, undef, undef, undef, undef, undef, undef, undef, undef, undef, undef, undef, undef, undef, undef, undef, undef, undef, undef, undef, undef, undef, undef, undef, undef, undef, undef, undef, undef, undef, undef, undef, undef, undef, undef, undef, undef, undef, undef, undef, undef, undef, undef, undef], []⟩ := by kernel_rfl
 rw [e, ea, fx0]
 clear e ea
 have hm := Lib.hid hmain
 clear hmain
 obtain ⟨H, hH⟩ : ∃ H, w.heap.size = H := ⟨_, rfl⟩
 refine hJ.ctl (s := n) (fun w => stepG_seq) ?_
 refine at_lone hJ hC plainM (by kernel_rfl) (fun t w' => t = #[.bool false, undef, undef, undef, undef, undef, undef, undef, undef, undef, undef, undef, undef, undef, undef, undef, undef, undef, undef, undef, undef, undef, undef, undef, undef, undef, undef, undef, undef, undef, undef, undef, undef, undef, undef, undef, undef, undef, undef, undef, undef, undef, undef, undef, undef, undef, undef, undef, undef, undef, undef, undef, undef, undef, undef, undef, undef, undef, undef, undef, undef, undef, undef, undef, undef, undef, undef, undef, undef, undef, undef, undef, undef, undef, undef, undef, undef, undef, undef, undef, undef, undef, undef, undef, undef, undef, undef, undef, undef, undef, undef, undef, undef, undef, undef, undef, undef, undef, undef, undef, undef, undef, undef, undef, undef, undef, undef] ∧ ∃ τ d, w' = re (w) τ d) (fun t w' τ d h => ⟨h.1, by obtain ⟨τ', d', rfl⟩ := h.2; exact ⟨τ, d, by rw [re_re]⟩⟩) (by decide) (fun τ d => ?_) ?_
 · obtain ⟨u0, hu0⟩ : ∃ c, headC (fxT 0) = c := ⟨_, rfl⟩
   have eu0 := hu0
   rw [hu0]
   simp only [fxT, headC, tailN, Try.f8, al_od] at eu0
   subst eu0
   clear hu0
   go_wp2
   exact ⟨rfl, rfl, τ, d, rfl⟩
 rintro t w' ⟨rfl, τ, d, rfl⟩
 refine hJ.re' n _ _ τ d ?_
 refine hJ.ctl (s := n) (fun w => stepG_seq) ?_
 refine at_lone hJ hC plainM (by kernel_rfl) (fun t w' => t = #[.bool false, .slice (some ⟨H, 0, none⟩) 2 2, undef, undef, undef, undef, .slice (some ⟨H, 0, none⟩) 2 2, undef, undef, undef, undef, undef, undef, undef, undef, undef, undef, undef, undef, undef, undef, undef, undef, undef, undef, undef, undef, undef, undef, undef, undef, undef, undef, undef, undef, undef, undef, undef, undef, undef, undef, undef, undef, undef, undef, undef, undef, undef, undef, undef, undef, undef, undef, undef, undef, undef, undef, undef, undef, undef, undef, undef, undef, undef, undef, undef, undef, undef, undef, undef, undef, undef, undef, undef, undef, undef, undef, undef, undef, undef, undef, undef, undef, undef, undef, undef, undef, undef, undef, undef, undef, undef, undef, undef, undef, undef, undef, undef, undef, undef, undef, undef, undef, undef, undef, undef, undef] ∧ ∃ τ d, w' = re (w.alloc (.cells #[.int .i64 0, .int .i64 0] 2)) τ d) (fun t w' τ d h => ⟨h.1, by obtain ⟨τ', d', rfl⟩ := h.2; exact ⟨τ, d, by rw [re_re]⟩⟩) (by decide) (fun τ d => ?_) ?_
 · obtain ⟨u0, hu0⟩ : ∃ c, headC (fxT 1) = c := ⟨_, rfl⟩
   have eu0 := hu0
   rw [hu0]
   simp only [fxT, headC, tailN, Try.f8, al_od] at eu0
   subst eu0
   clear hu0
   go_wp2
   exact ⟨rfl, rfl, τ, d, rfl⟩
 rintro t w' ⟨rfl, τ, d, rfl⟩
 refine hJ.re' n _ _ τ d ?_
 refine hJ.ctl (s := n) (fun w => stepG_seq) ?_
 refine at_lone hJ hC plainM (by kernel_rfl) (fun t w' => t = #[.bool false, .slice (some ⟨H, 0, none⟩) 2 2, .slice (some ⟨H + 1, 0, none⟩) 2 2, undef, undef, undef, .slice (some ⟨H, 0, none⟩) 2 2, .agg #[.int .i64 1, .int .i64 0, .int .i64 1, .int .i64 0], .agg #[.int .i64 1, .int .i64 1, .int .i64 1, .int .i64 0], .slice (some ⟨H + 1, 0, none⟩) 2 2, undef, undef, undef, undef, undef, undef, undef, undef, undef, undef, undef, undef, undef, undef, undef, undef, undef, undef, undef, undef, undef, undef, undef, undef, undef, undef, undef, undef, undef, undef, undef, undef, undef, undef, undef, undef, undef, undef, undef, undef, undef, undef, undef, undef, undef, undef, undef, undef, undef, undef, undef, undef, undef, undef, undef, undef, undef, undef, undef, undef, undef, undef, undef, undef, undef, undef, undef, undef, undef, undef, undef, undef, undef, undef, undef, undef, undef, undef, undef, undef, undef, undef, undef, undef, undef, undef, undef, undef, undef, undef, undef, undef, undef, undef, undef, undef, undef] ∧ ∃ τ d, w' = re ((w.alloc (.cells #[.int .i64 0, .int .i64 0] 2)).alloc (.cells #[.int .i64 1, .int .i64 0, .int .i64 1, .int .i64 0, .int .i64 1, .int .i64 1, .int .i64 1, .int .i64 0] 46)) τ d) (fun t w' τ d h => ⟨h.1, by obtain ⟨τ', d', rfl⟩ := h.2; exact ⟨τ, d, by rw [re_re]⟩⟩) (by decide) (fun τ d => ?_) ?_
 · obtain ⟨u0, hu0⟩ : ∃ c, headC (fxT 2) = c := ⟨_, rfl⟩
   have eu0 := hu0
   rw [hu0]
   simp only [fxT, headC, tailN, Try.f8, al_od] at eu0
   subst eu0
   clear hu0
   go_wp2
   exact ⟨rfl, rfl, τ, d, rfl⟩
 rintro t w' ⟨rfl, τ, d, rfl⟩
 refine hJ.re' n _ _ τ d ?_
 have HIA : RowKit.Hid (((w.alloc (.cells #[.int .i64 0, .int .i64 0] 2)).alloc (.cells #[.int .i64 1, .int .i64 0, .int .i64 1, .int .i64 0, .int .i64 1, .int .i64 1, .int .i64 1, .int .i64 0] 46)).heap.size = H + 2 ∧ ((w.alloc (.cells #[.int .i64 0, .int .i64 0] 2)).alloc (.cells #[.int .i64 1, .int .i64 0, .int .i64 1, .int .i64 0, .int .i64 1, .int .i64 1, .int .i64 1, .int .i64 0] 46)).heap[H]? = some (.cells #[.int .i64 0, .int .i64 0] 2) ∧ ((w.alloc (.cells #[.int .i64 0, .int .i64 0] 2)).alloc (.cells #[.int .i64 1, .int .i64 0, .int .i64 1, .int .i64 0, .int .i64 1, .int .i64 1, .int .i64 1, .int .i64 0] 46)).heap[H + 1]? = some (.cells #[.int .i64 1, .int .i64 0, .int .i64 1, .int .i64 0, .int .i64 1, .int .i64 1, .int .i64 1, .int .i64 0] 46) ∧ H + 1 < H + 2) := by
  refine Lib.hid ⟨by simp only [zqc]; omega, ?_, ?_, by omega⟩
  · rw [← hH]; exact al_old (al_new _ _)
  · rw [← hH, zq9, if_pos (by rw [zqc])]
 have HB0 : RowKit.Hid (Beyond w ((w.alloc (.cells #[.int .i64 0, .int .i64 0] 2)).alloc (.cells #[.int .i64 1, .int .i64 0, .int .i64 1, .int .i64 0, .int .i64 1, .int .i64 1, .int .i64 1, .int .i64 0] 46))) := Lib.hid ((Beyond.alloc _ _).trans (Beyond.alloc _ _))
 generalize (w.alloc (.cells #[.int .i64 0, .int .i64 0] 2)).alloc (.cells #[.int .i64 1, .int .i64 0, .int .i64 1, .int .i64 0, .int .i64 1, .int .i64 1, .int .i64 1, .int .i64 0] 46) = w2 at HIA HB0 ⊢
 refine hJ.ctl (s := n) (fun w => stepG_seq) ?_
 obtain ⟨u3, hu3⟩ : ∃ c, headC (fxT 3) = c := ⟨_, rfl⟩
 have eu3 := hu3
 rw [hu3]
 simp only [fxT, headC, tailN, Try.f8, al_od] at eu3
 subst eu3
 clear hu3
 refine hJ.ctl (s := n) (fun w => stepG_region) ?_
 refine at_piece (s := n) (by decide) hJ (zqe _) false (.inr rfl) 0 6 3 rfl rfl rfl (by rfl) ?_
 intro τ d
 simp only [List.drop_zero, List.take_succ_cons, List.take_zero]
 have HFA : RowKit.Hid ((re w2 τ d).heap.size = (H + 2) ∧ (re w2 τ d).heap[H]? = some (.cells #[.int .i64 0, .int .i64 0] 2) ∧ (re w2 τ d).heap[H + 1]? = some (.cells #[.int .i64 1, .int .i64 0, .int .i64 1, .int .i64 0, .int .i64 1, .int .i64 1, .int .i64 1, .int .i64 0] 46) ∧ Beyond w2 (re w2 τ d) ∧ H + 1 < (H + 2)) := Lib.hid ⟨HIA.out.1, HIA.out.2.1, HIA.out.2.2.1, Beyond.re _ _ _, HIA.out.2.2.2⟩
 generalize re w2 τ d = vA at HFA ⊢
 go_wp2
 simp only [contAt]
 have HWA : RowKit.Hid (Beyond vA (((vA.alloc (.cells #[.int .i64 2, .int .i64 0, .int .i64 0, .int .i64 0] 46)).alloc (.cells #[.slice (some ⟨(H + 2), 0, none⟩) 1 1, .slice (some ⟨H + 1, 0, none⟩) 2 2] 34)).alloc (.cells #[.int .i64 0, .int .i64 1, .int .i64 1, .int .i64 0] 3)) ∧ (((vA.alloc (.cells #[.int .i64 2, .int .i64 0, .int .i64 0, .int .i64 0] 46)).alloc (.cells #[.slice (some ⟨(H + 2), 0, none⟩) 1 1, .slice (some ⟨H + 1, 0, none⟩) 2 2] 34)).alloc (.cells #[.int .i64 0, .int .i64 1, .int .i64 1, .int .i64 0] 3)).heap[(H + 2)]? = some (.cells #[.int .i64 2, .int .i64 0, .int .i64 0, .int .i64 0] 46) ∧ (((vA.alloc (.cells #[.int .i64 2, .int .i64 0, .int .i64 0, .int .i64 0] 46)).alloc (.cells #[.slice (some ⟨(H + 2), 0, none⟩) 1 1, .slice (some ⟨H + 1, 0, none⟩) 2 2] 34)).alloc (.cells #[.int .i64 0, .int .i64 1, .int .i64 1, .int .i64 0] 3)).heap[(H + 2) + 1]? = some (.cells #[.slice (some ⟨(H + 2), 0, none⟩) 1 1, .slice (some ⟨H + 1, 0, none⟩) 2 2] 34) ∧ (((vA.alloc (.cells #[.int .i64 2, .int .i64 0, .int .i64 0, .int .i64 0] 46)).alloc (.cells #[.slice (some ⟨(H + 2), 0, none⟩) 1 1, .slice (some ⟨H + 1, 0, none⟩) 2 2] 34)).alloc (.cells #[.int .i64 0, .int .i64 1, .int .i64 1, .int .i64 0] 3)).heap[(H + 2) + 2]? = some (.cells #[.int .i64 0, .int .i64 1, .int .i64 1, .int .i64 0] 3)) := by
  have e := HFA.out.1
  refine Lib.hid ⟨((Beyond.alloc _ _).trans (Beyond.alloc _ _)).trans (Beyond.alloc _ _), ?_, ?_, ?_⟩
  · rw [← e]; exact al_old (al_old (al_new _ _))
  · rw [← e]; refine al_old ?_
    rw [zq9, if_pos (by rw [zqc])]
  · rw [← e, zq9, if_pos (by simp only [zqc])]
 rw [HFA.out.1]
 generalize (((vA.alloc (.cells #[.int .i64 2, .int .i64 0, .int .i64 0, .int .i64 0] 46)).alloc (.cells #[.slice (some ⟨(H + 2), 0, none⟩) 1 1, .slice (some ⟨H + 1, 0, none⟩) 2 2] 34)).alloc (.cells #[.int .i64 0, .int .i64 1, .int .i64 1, .int .i64 0] 3)) = WA at HWA ⊢
 refine at_call (by decide) hJ (s := n) rfl rfl (f := 10) (args := #[.slice (some ⟨H, 0, none⟩) 2 2, .slice (some ⟨(H + 2) + 1, 0, none⟩) 2 2, .slice (some ⟨(H + 2) + 1 + 1, 0, none⟩) 4 4, .int .i64 99]) (fun τ d => ?_) (fun τ d => ?_) ?_
 · simp [go_sem, execOp, Act.eval, resolve, Deferred.ofValue, invoke, callFunc, Try.func10, Try.f10]
 · intro e he
   simp [go_sem, execOp, Act.eval, resolve, Deferred.ofValue, invoke, callFunc, Try.func10, Try.f10, Sem.runT_eq] at he
 have b0A := HWA.out.1.heap HFA.out.2.1
 have b1A := HWA.out.1.heap HFA.out.2.2.1
 refine strplay_calls hFin (n := n) (by omega) (RP := fun b => if b = (H + 2) ∨ b = H + 1 then WA.heap[b]? else none) (ws := [0, 0]) (sched := [0, 1, 1, 0]) (wp := some ⟨H, 0, none⟩) (ops := fxOps 2) (N := 2) rfl (by decide) (fun _ => ⟨H, 0, rfl, fun i hi => ?_⟩) (fun b o hb => ?_) (two_ops HWA.out.2.2.1 HWA.out.2.1 b1A) (by decide) (fun _ => ⟨(H + 2) + 1 + 1, 0, rfl, if_neg (by have := HFA.out.2.2.2.2; omega), fun j x hj => ?_⟩) ?_
 · have hi : i < 2 := hi
   rw [zq1 b0A]
   obtain rfl | rfl : i = 0 ∨ i = 1 := by omega
   all_goals rfl
 · split at hb
   · exact hb
   · cases hb
 · rw [zq1 HWA.out.2.2.2, Nat.zero_add]
   have hlj := (List.getElem?_eq_some_iff.1 hj).1
   simp only [List.length_cons, List.length_nil] at hlj
   obtain rfl | rfl | rfl | rfl : j = 0 ∨ j = 1 ∨ j = 2 ∨ j = 3 := by omega
   all_goals (simp at hj; subst hj; rfl)
 intro abA ovA svA amA wpA hRA
 rw [Frame.finish_at]
 walk_nrm
 obtain ⟨opA, ocA, rfl, -, -⟩ := own_slice hRA.orow
 obtain ⟨spA, scA, rfl, -, -⟩ := own_slice hRA.srow
 generalize (strT [0, 0] (fxOps 2) 2 99 [0, 1, 1, 0]).ord.length = olA at hRA ⊢
 generalize (strT [0, 0] (fxOps 2) 2 99 [0, 1, 1, 0]).s.1.length = slA at hRA ⊢
 have HRA := Lib.hid hRA
 clear hRA b0A b1A
 generalize decide (0 < leftN (strT [0, 0] (fxOps 2) 2 99 [0, 1, 1, 0]).ov 2) = stkA
 refine at_piece (s := n + 2) (by decide) hJ (zqe _) false (.inr rfl) 7 2 0 rfl rfl rfl (by rfl) ?_
 intro τ d
 simp only [List.drop_succ_cons, List.drop_zero, List.take_succ_cons, List.take_zero]
 have HSA : RowKit.Hid (PlayedR 2 WA (strT [0, 0] (fxOps 2) 2 99 [0, 1, 1, 0]) (strT [0, 0] (fxOps 2) 2 99 [0, 1, 1, 0]).s.1 abA (.slice opA olA ocA) (.slice spA slA scA) amA (re wpA τ d)) := Lib.hid (HRA.out.re τ d)
 generalize re wpA τ d = xA at HSA ⊢
 clear HRA
 go_wp2
 simp only [contAt]
 refine hJ.ctl (s := n + 2) (fun w => stepG_region_end) ?_
 have HTA : RowKit.Hid ((xA.alloc (.cells #[.slice (some ⟨abA, 0, none⟩) 2 2, .slice opA olA ocA, .slice spA slA scA, .bool stkA] 31)).heap[xA.heap.size]? = some (.cells #[.slice (some ⟨abA, 0, none⟩) 2 2, .slice opA olA ocA, .slice spA slA scA, .bool stkA] 31) ∧ Beyond xA (xA.alloc (.cells #[.slice (some ⟨abA, 0, none⟩) 2 2, .slice opA olA ocA, .slice spA slA scA, .bool stkA] 31)) ∧ (xA.alloc (.cells #[.slice (some ⟨abA, 0, none⟩) 2 2, .slice opA olA ocA, .slice spA slA scA, .bool stkA] 31)).heap.size = xA.heap.size + 1) := Lib.hid ⟨al_new _ _, Beyond.alloc _ _, zqc _ _⟩
 generalize (xA.alloc (.cells #[.slice (some ⟨abA, 0, none⟩) 2 2, .slice opA olA ocA, .slice spA slA scA, .bool stkA] 31)) = yA at HTA ⊢
 obtain ⟨tA, htA⟩ : ∃ t, xA.heap.size = t := ⟨_, rfl⟩
 rw [htA] at HTA ⊢
 have HXA := Lib.hid htA
 clear htA
 have HBA : RowKit.Hid (Beyond w yA) := Lib.hid (((((HB0.out.trans HFA.out.2.2.2.1).trans HWA.out.1).trans ⟨HSA.out.size, HSA.out.old⟩)).trans HTA.out.2.1)
 have HIB : RowKit.Hid (yA.heap.size = tA + 1 ∧ yA.heap[H]? = some (.cells #[.int .i64 0, .int .i64 0] 2) ∧ yA.heap[H + 1]? = some (.cells #[.int .i64 1, .int .i64 0, .int .i64 1, .int .i64 0, .int .i64 1, .int .i64 1, .int .i64 1, .int .i64 0] 46) ∧ H + 1 < tA + 1) := by
  have q : Beyond vA yA := (HWA.out.1.trans ⟨HSA.out.size, HSA.out.old⟩).trans HTA.out.2.1
  refine Lib.hid ⟨HTA.out.2.2, q.heap HFA.out.2.1, q.heap HFA.out.2.2.1, ?_⟩
  have h1 := heap_lt (q.heap HFA.out.2.2.1)
  have h2 := HTA.out.2.2
  omega
 refine hJ.ctl (s := n + 2) (fun w => stepG_seq) ?_
 obtain ⟨u4, hu4⟩ : ∃ c, headC (fxT 4) = c := ⟨_, rfl⟩
 have eu4 := hu4
 rw [hu4]
 simp only [fxT, headC, tailN, Try.f8, al_od] at eu4
 subst eu4
 clear hu4
 refine hJ.ctl (s := n + 2) (fun w => stepG_region) ?_
 refine at_piece (s := n + 2) (by decide) hJ (zqe _) false (.inr rfl) 0 6 3 rfl rfl rfl (by rfl) ?_
 intro τ d
 simp only [List.drop_zero, List.take_succ_cons, List.take_zero]
 have HFB : RowKit.Hid ((re yA τ d).heap.size = (tA + 1) ∧ (re yA τ d).heap[H]? = some (.cells #[.int .i64 0, .int .i64 0] 2) ∧ (re yA τ d).heap[H + 1]? = some (.cells #[.int .i64 1, .int .i64 0, .int .i64 1, .int .i64 0, .int .i64 1, .int .i64 1, .int .i64 1, .int .i64 0] 46) ∧ Beyond yA (re yA τ d) ∧ H + 1 < (tA + 1)) := Lib.hid ⟨HIB.out.1, HIB.out.2.1, HIB.out.2.2.1, Beyond.re _ _ _, HIB.out.2.2.2⟩
 generalize re yA τ d = vB at HFB ⊢
 go_wp2
 simp only [contAt]
 have HWB : RowKit.Hid (Beyond vB (((vB.alloc (.cells #[.int .i64 5, .int .i64 0, .int .i64 0, .int .i64 0] 46)).alloc (.cells #[.slice (some ⟨(tA + 1), 0, none⟩) 1 1, .slice (some ⟨H + 1, 0, none⟩) 2 2] 34)).alloc (.cells #[.int .i64 0, .int .i64 1, .int .i64 1, .int .i64 0, .int .i64 0] 3)) ∧ (((vB.alloc (.cells #[.int .i64 5, .int .i64 0, .int .i64 0, .int .i64 0] 46)).alloc (.cells #[.slice (some ⟨(tA + 1), 0, none⟩) 1 1, .slice (some ⟨H + 1, 0, none⟩) 2 2] 34)).alloc (.cells #[.int .i64 0, .int .i64 1, .int .i64 1, .int .i64 0, .int .i64 0] 3)).heap[(tA + 1)]? = some (.cells #[.int .i64 5, .int .i64 0, .int .i64 0, .int .i64 0] 46) ∧ (((vB.alloc (.cells #[.int .i64 5, .int .i64 0, .int .i64 0, .int .i64 0] 46)).alloc (.cells #[.slice (some ⟨(tA + 1), 0, none⟩) 1 1, .slice (some ⟨H + 1, 0, none⟩) 2 2] 34)).alloc (.cells #[.int .i64 0, .int .i64 1, .int .i64 1, .int .i64 0, .int .i64 0] 3)).heap[(tA + 1) + 1]? = some (.cells #[.slice (some ⟨(tA + 1), 0, none⟩) 1 1, .slice (some ⟨H + 1, 0, none⟩) 2 2] 34) ∧ (((vB.alloc (.cells #[.int .i64 5, .int .i64 0, .int .i64 0, .int .i64 0] 46)).alloc (.cells #[.slice (some ⟨(tA + 1), 0, none⟩) 1 1, .slice (some ⟨H + 1, 0, none⟩) 2 2] 34)).alloc (.cells #[.int .i64 0, .int .i64 1, .int .i64 1, .int .i64 0, .int .i64 0] 3)).heap[(tA + 1) + 2]? = some (.cells #[.int .i64 0, .int .i64 1, .int .i64 1, .int .i64 0, .int .i64 0] 3)) := by
  have e := HFB.out.1
  refine Lib.hid ⟨((Beyond.alloc _ _).trans (Beyond.alloc _ _)).trans (Beyond.alloc _ _), ?_, ?_, ?_⟩
  · rw [← e]; exact al_old (al_old (al_new _ _))
  · rw [← e]; refine al_old ?_
    rw [zq9, if_pos (by rw [zqc])]
  · rw [← e, zq9, if_pos (by simp only [zqc])]
 rw [HFB.out.1]
 generalize (((vB.alloc (.cells #[.int .i64 5, .int .i64 0, .int .i64 0, .int .i64 0] 46)).alloc (.cells #[.slice (some ⟨(tA + 1), 0, none⟩) 1 1, .slice (some ⟨H + 1, 0, none⟩) 2 2] 34)).alloc (.cells #[.int .i64 0, .int .i64 1, .int .i64 1, .int .i64 0, .int .i64 0] 3)) = WB at HWB ⊢
 refine at_call (by decide) hJ (s := n + 2) rfl rfl (f := 10) (args := #[.slice (some ⟨H, 0, none⟩) 2 2, .slice (some ⟨(tA + 1) + 1, 0, none⟩) 2 2, .slice (some ⟨(tA + 1) + 1 + 1, 0, none⟩) 5 5, .int .i64 99]) (fun τ d => ?_) (fun τ d => ?_) ?_
 · simp [go_sem, execOp, Act.eval, resolve, Deferred.ofValue, invoke, callFunc, Try.func10, Try.f10]
 · intro e he
   simp [go_sem, execOp, Act.eval, resolve, Deferred.ofValue, invoke, callFunc, Try.func10, Try.f10, Sem.runT_eq] at he
 have b0B := HWB.out.1.heap HFB.out.2.1
 have b1B := HWB.out.1.heap HFB.out.2.2.1
 refine strplay_calls hFin (n := n + 2) (by omega) (RP := fun b => if b = (tA + 1) ∨ b = H + 1 then WB.heap[b]? else none) (ws := [0, 0]) (sched := [0, 1, 1, 0, 0]) (wp := some ⟨H, 0, none⟩) (ops := fxOps 5) (N := 2) rfl (by decide) (fun _ => ⟨H, 0, rfl, fun i hi => ?_⟩) (fun b o hb => ?_) (two_ops HWB.out.2.2.1 HWB.out.2.1 b1B) (by decide) (fun _ => ⟨(tA + 1) + 1 + 1, 0, rfl, if_neg (by have := HFB.out.2.2.2.2; omega), fun j x hj => ?_⟩) ?_
 · have hi : i < 2 := hi
   rw [zq1 b0B]
   obtain rfl | rfl : i = 0 ∨ i = 1 := by omega
   all_goals rfl
 · split at hb
   · exact hb
   · cases hb
 · rw [zq1 HWB.out.2.2.2, Nat.zero_add]
   have hlj := (List.getElem?_eq_some_iff.1 hj).1
   simp only [List.length_cons, List.length_nil] at hlj
   obtain rfl | rfl | rfl | rfl | rfl : j = 0 ∨ j = 1 ∨ j = 2 ∨ j = 3 ∨ j = 4 := by omega
   all_goals (simp at hj; subst hj; rfl)
 intro abB ovB svB amB wpB hRB
 rw [Frame.finish_at]
 walk_nrm
 obtain ⟨opB, ocB, rfl, -, -⟩ := own_slice hRB.orow
 obtain ⟨spB, scB, rfl, -, -⟩ := own_slice hRB.srow
 generalize (strT [0, 0] (fxOps 5) 2 99 [0, 1, 1, 0, 0]).ord.length = olB at hRB ⊢
 generalize (strT [0, 0] (fxOps 5) 2 99 [0, 1, 1, 0, 0]).s.1.length = slB at hRB ⊢
 have HRB := Lib.hid hRB
 clear hRB b0B b1B
 generalize decide (0 < leftN (strT [0, 0] (fxOps 5) 2 99 [0, 1, 1, 0, 0]).ov 2) = stkB
 refine at_piece (s := n + 2 + 2) (by decide) hJ (zqe _) false (.inr rfl) 7 2 0 rfl rfl rfl (by rfl) ?_
 intro τ d
 simp only [List.drop_succ_cons, List.drop_zero, List.take_succ_cons, List.take_zero]
 have HSB : RowKit.Hid (PlayedR 2 WB (strT [0, 0] (fxOps 5) 2 99 [0, 1, 1, 0, 0]) (strT [0, 0] (fxOps 5) 2 99 [0, 1, 1, 0, 0]).s.1 abB (.slice opB olB ocB) (.slice spB slB scB) amB (re wpB τ d)) := Lib.hid (HRB.out.re τ d)
 generalize re wpB τ d = xB at HSB ⊢
 clear HRB
 go_wp2
 simp only [contAt]
 refine hJ.ctl (s := n + 2 + 2) (fun w => stepG_region_end) ?_
 have HTB : RowKit.Hid ((xB.alloc (.cells #[.slice (some ⟨abB, 0, none⟩) 2 2, .slice opB olB ocB, .slice spB slB scB, .bool stkB] 31)).heap[xB.heap.size]? = some (.cells #[.slice (some ⟨abB, 0, none⟩) 2 2, .slice opB olB ocB, .slice spB slB scB, .bool stkB] 31) ∧ Beyond xB (xB.alloc (.cells #[.slice (some ⟨abB, 0, none⟩) 2 2, .slice opB olB ocB, .slice spB slB scB, .bool stkB] 31)) ∧ (xB.alloc (.cells #[.slice (some ⟨abB, 0, none⟩) 2 2, .slice opB olB ocB, .slice spB slB scB, .bool stkB] 31)).heap.size = xB.heap.size + 1) := Lib.hid ⟨al_new _ _, Beyond.alloc _ _, zqc _ _⟩
 generalize (xB.alloc (.cells #[.slice (some ⟨abB, 0, none⟩) 2 2, .slice opB olB ocB, .slice spB slB scB, .bool stkB] 31)) = yB at HTB ⊢
 obtain ⟨tB, htB⟩ : ∃ t, xB.heap.size = t := ⟨_, rfl⟩
 rw [htB] at HTB ⊢
 have HXB := Lib.hid htB
 clear htB
 have HBB : RowKit.Hid (Beyond w yB) := Lib.hid ((((HBA.out.trans HFB.out.2.2.2.1).trans HWB.out.1).trans ⟨HSB.out.size, HSB.out.old⟩).trans HTB.out.2.1)
 have HQ : RowKit.Hid (Beyond xA yB ∧ yB.heap[tA]? = some (.cells #[.slice (some ⟨abA, 0, none⟩) 2 2, .slice opA olA ocA, .slice spA slA scA, .bool stkA] 31) ∧ Beyond xB yB ∧ yB.heap[tB]? = some (.cells #[.slice (some ⟨abB, 0, none⟩) 2 2, .slice opB olB ocB, .slice spB slB scB, .bool stkB] 31)) := by
  have q : Beyond yA yB := ((HFB.out.2.2.2.1.trans HWB.out.1).trans ⟨HSB.out.size, HSB.out.old⟩).trans HTB.out.2.1
  exact Lib.hid ⟨HTA.out.2.1.trans q, q.heap HTA.out.1, HTB.out.2.1, HTB.out.1⟩
 have HBy : RowKit.Hid (Beyond w yB) := Lib.hid HBB.out
 have qA : Beyond xA yB := HQ.out.1
 have qB : Beyond xB yB := HQ.out.2.2.1
 have hA1 := ansRep_at HSA.out.ans (i := 0) (by decide)
 have hB1 := ansRep_at HSB.out.ans (i := 0) (by decide)
 rw [HSA.out.ast, fx_sum] at hA1
 rw [HSB.out.ast, fx_even] at hB1
 obtain ⟨a1, pa, ca, a2, a3⟩ := hA1
 obtain ⟨b1, pb, cb, b2, b3⟩ := hB1
 obtain ⟨ga, oa, rfl, a4⟩ := a3 (by simp)
 obtain ⟨gb, ob', rfl, b4⟩ := b3 (by simp)
 obtain ⟨a5, a6, _⟩ := a4 0 _ rfl
 obtain ⟨b5, b6, _⟩ := b4 0 _ rfl
 rw [a2] at a1
 rw [b2] at b1
 have tA0 := (zq1 (off := 0) HQ.out.2.1).trans rfl
 have tB0 := (zq1 (off := 0) HQ.out.2.2.2).trans rfl
 replace a1 := qA.cell a1
 replace a5 := qA.cell a5
 replace a6 := qA.cell a6
 replace b1 := qB.cell b1
 replace b5 := qB.cell b5
 replace b6 := qB.cell b6
 simp only [List.length_cons, List.length_nil, Nat.zero_add, Nat.zero_mul, Nat.add_zero] at a1 b1 a5 a6 b5 b6
 clear qA qB a2 b2 a3 b3 a4 b4 HQ HBB HSA HSB HTA HTB HXA HXB HFA HFB HWA HWB HIA HIB HBA HB0
 rw [show fxT 5 = .seq (headC (fxT 5)) (.seq (headC (fxT 6)) (.seq (headC (fxT 7)) (fxT 8))) by kernel_rfl]
 refine hJ.ctl (s := n + 2 + 2) (fun w => stepG_seq) ?_
 have FA := Lib.hid (And.intro a1 (And.intro a5 (And.intro a6 (And.intro b1 (And.intro b5 (And.intro b6 (And.intro tA0 tB0)))))))
 clear a1 a5 a6 b1 b5 b6 tA0 tB0
 refine at_lone hJ hC plainM (by kernel_rfl) (fun t w' => t = #[.bool false, .slice (some ⟨H, 0, none⟩) 2 2, .slice (some ⟨H + 1, 0, none⟩) 2 2, .pointer (some ⟨tA, 0, none⟩), .pointer (some ⟨tB, 0, none⟩), undef, .slice (some ⟨H, 0, none⟩) 2 2, .agg #[.int .i64 1, .int .i64 0, .int .i64 1, .int .i64 0], .agg #[.int .i64 1, .int .i64 1, .int .i64 1, .int .i64 0], .slice (some ⟨H + 1, 0, none⟩) 2 2, .slice (some ⟨H, 0, none⟩) 2 2, .agg #[.int .i64 2, .int .i64 0, .int .i64 0, .int .i64 0], .slice (some ⟨(H + 2), 0, none⟩) 1 1, .slice (some ⟨H + 1, 0, none⟩) 2 2, .slice (some ⟨(H + 2) + 1, 0, none⟩) 2 2, .slice (some ⟨(H + 2) + 1 + 1, 0, none⟩) 4 4, .agg #[.slice (some ⟨abA, 0, none⟩) 2 2, .slice opA olA ocA, .slice spA slA scA, .bool stkA], .slice (some ⟨H, 0, none⟩) 2 2, .agg #[.int .i64 5, .int .i64 0, .int .i64 0, .int .i64 0], .slice (some ⟨(tA + 1), 0, none⟩) 1 1, .slice (some ⟨H + 1, 0, none⟩) 2 2, .slice (some ⟨(tA + 1) + 1, 0, none⟩) 2 2, .slice (some ⟨(tA + 1) + 1 + 1, 0, none⟩) 5 5, .agg #[.slice (some ⟨abB, 0, none⟩) 2 2, .slice opB olB ocB, .slice spB slB scB, .bool stkB], .pointer (some ⟨tA, 0, none⟩), .slice (some ⟨abA, 0, none⟩) 2 2, .int .i64 2, .bool false, .bool false, .pointer (some ⟨tA, 0, none⟩), .slice (some ⟨abA, 0, none⟩) 2 2, .pointer (some ⟨abA, 0, none⟩), .slice (some ⟨ga, oa, none⟩) 1 ca, .int .i64 1, .bool false, .bool false, .bool false, .pointer (some ⟨tA, 0, none⟩), .slice (some ⟨abA, 0, none⟩) 2 2, .pointer (some ⟨abA, 0, none⟩), .slice (some ⟨ga, oa, none⟩) 1 ca, .pointer (some ⟨ga, oa, none⟩), .pointer (some ⟨ga, oa + 1, none⟩), .int .i64 1, .bool false, .bool false, .bool false, .pointer (some ⟨tB, 0, none⟩), .slice (some ⟨abB, 0, none⟩) 2 2, .int .i64 2, .bool false, .bool false, .bool false, .pointer (some ⟨tB, 0, none⟩), .slice (some ⟨abB, 0, none⟩) 2 2, .pointer (some ⟨abB, 0, none⟩), .slice (some ⟨gb, ob', none⟩) 1 cb, .int .i64 1, .bool false, .bool false, .bool false, .pointer (some ⟨tB, 0, none⟩), .slice (some ⟨abB, 0, none⟩) 2 2, .pointer (some ⟨abB, 0, none⟩), .slice (some ⟨gb, ob', none⟩) 1 cb, .pointer (some ⟨gb, ob', none⟩), .pointer (some ⟨gb, ob', none⟩), .bool false, .bool false, .bool false, .pointer (some ⟨tB, 0, none⟩), .slice (some ⟨abB, 0, none⟩) 2 2, .pointer (some ⟨abB, 0, none⟩), .slice (some ⟨gb, ob', none⟩) 1 cb, .pointer (some ⟨gb, ob', none⟩), .pointer (some ⟨gb, ob' + 1, none⟩), .int .i64 0, .bool false, .bool false, undef, undef, undef, undef, undef, undef, undef, undef, undef, undef, undef, undef, undef, undef, undef, undef, undef, undef, undef, undef, undef, undef, undef, undef, undef, undef, undef, undef] ∧ ∃ τ d, w' = re yB τ d) (fun t w' τ d h => ⟨h.1, by obtain ⟨τ', d', rfl⟩ := h.2; exact ⟨τ, d, by rw [re_re]⟩⟩) (by decide) (fun τ d => ?_) ?_
 · obtain ⟨u0, hu0⟩ : ∃ c, headC (fxT 5) = c := ⟨_, rfl⟩
   have eu0 := hu0
   rw [hu0]
   simp only [fxT, headC, tailN, Try.f8, al_od] at eu0
   subst eu0
   clear hu0 hm
   obtain ⟨a1, a5, a6, b1, b5, b6, tA0, tB0⟩ := FA.out
   have HRE : RowKit.Hid (∃ τ' d', re yB τ d = re yB τ' d') := Lib.hid ⟨τ, d, rfl⟩
   have hcl : ∀ a, (re yB τ d).cell? a = yB.cell? a := fun a => rfl
   rw [← hcl] at a1 a5 a6 b1 b5 b6 tA0 tB0
   clear hcl FA
   generalize re yB τ d = z0 at HRE a1 a5 a6 b1 b5 b6 tA0 tB0 ⊢
   go_wp2
   exact ⟨rfl, rfl, HRE.out⟩
 rintro t w' ⟨rfl, τ, d, rfl⟩
 refine hJ.re' (n + 2 + 2) _ _ τ d ?_
 clear FA
 obtain ⟨K, hK⟩ : ∃ K, yB.heap.size = K := ⟨_, rfl⟩
 have HK := Lib.hid hK
 clear hK
 refine hJ.ctl (s := n + 2 + 2) (fun w => stepG_seq) ?_
 refine at_lone hJ hC plainM (by kernel_rfl) (fun t w' => t = #[.bool false, .slice (some ⟨H, 0, none⟩) 2 2, .slice (some ⟨H + 1, 0, none⟩) 2 2, .pointer (some ⟨tA, 0, none⟩), .pointer (some ⟨tB, 0, none⟩), .pointer (some ⟨K + 1, 0, none⟩), .slice (some ⟨H, 0, none⟩) 2 2, .agg #[.int .i64 1, .int .i64 0, .int .i64 1, .int .i64 0], .agg #[.int .i64 1, .int .i64 1, .int .i64 1, .int .i64 0], .slice (some ⟨H + 1, 0, none⟩) 2 2, .slice (some ⟨H, 0, none⟩) 2 2, .agg #[.int .i64 2, .int .i64 0, .int .i64 0, .int .i64 0], .slice (some ⟨(H + 2), 0, none⟩) 1 1, .slice (some ⟨H + 1, 0, none⟩) 2 2, .slice (some ⟨(H + 2) + 1, 0, none⟩) 2 2, .slice (some ⟨(H + 2) + 1 + 1, 0, none⟩) 4 4, .agg #[.slice (some ⟨abA, 0, none⟩) 2 2, .slice opA olA ocA, .slice spA slA scA, .bool stkA], .slice (some ⟨H, 0, none⟩) 2 2, .agg #[.int .i64 5, .int .i64 0, .int .i64 0, .int .i64 0], .slice (some ⟨(tA + 1), 0, none⟩) 1 1, .slice (some ⟨H + 1, 0, none⟩) 2 2, .slice (some ⟨(tA + 1) + 1, 0, none⟩) 2 2, .slice (some ⟨(tA + 1) + 1 + 1, 0, none⟩) 5 5, .agg #[.slice (some ⟨abB, 0, none⟩) 2 2, .slice opB olB ocB, .slice spB slB scB, .bool stkB], .pointer (some ⟨tA, 0, none⟩), .slice (some ⟨abA, 0, none⟩) 2 2, .int .i64 2, .bool false, .bool false, .pointer (some ⟨tA, 0, none⟩), .slice (some ⟨abA, 0, none⟩) 2 2, .pointer (some ⟨abA, 0, none⟩), .slice (some ⟨ga, oa, none⟩) 1 ca, .int .i64 1, .bool false, .bool false, .bool false, .pointer (some ⟨tA, 0, none⟩), .slice (some ⟨abA, 0, none⟩) 2 2, .pointer (some ⟨abA, 0, none⟩), .slice (some ⟨ga, oa, none⟩) 1 ca, .pointer (some ⟨ga, oa, none⟩), .pointer (some ⟨ga, oa + 1, none⟩), .int .i64 1, .bool false, .bool false, .bool false, .pointer (some ⟨tB, 0, none⟩), .slice (some ⟨abB, 0, none⟩) 2 2, .int .i64 2, .bool false, .bool false, .bool false, .pointer (some ⟨tB, 0, none⟩), .slice (some ⟨abB, 0, none⟩) 2 2, .pointer (some ⟨abB, 0, none⟩), .slice (some ⟨gb, ob', none⟩) 1 cb, .int .i64 1, .bool false, .bool false, .bool false, .pointer (some ⟨tB, 0, none⟩), .slice (some ⟨abB, 0, none⟩) 2 2, .pointer (some ⟨abB, 0, none⟩), .slice (some ⟨gb, ob', none⟩) 1 cb, .pointer (some ⟨gb, ob', none⟩), .pointer (some ⟨gb, ob', none⟩), .bool false, .bool false, .bool false, .pointer (some ⟨tB, 0, none⟩), .slice (some ⟨abB, 0, none⟩) 2 2, .pointer (some ⟨abB, 0, none⟩), .slice (some ⟨gb, ob', none⟩) 1 cb, .pointer (some ⟨gb, ob', none⟩), .pointer (some ⟨gb, ob' + 1, none⟩), .int .i64 0, .bool false, .bool false, .pointer (some ⟨K + 1, 0, none⟩), undef, undef, undef, undef, undef, undef, undef, undef, undef, undef, undef, undef, undef, undef, undef, undef, undef, undef, undef, undef, undef, undef, undef, undef, undef, undef, undef] ∧ NewStr yB 2 [0, 0] w') (fun t w' τ d h => ⟨h.1, h.2.re τ d⟩) (by decide) (fun τ d => ?_) ?_
 · obtain ⟨u0, hu0⟩ : ∃ c, headC (fxT 6) = c := ⟨_, rfl⟩
   have eu0 := hu0
   rw [hu0]
   simp only [fxT, headC, tailN, Try.f8, al_od] at eu0
   subst eu0
   clear hu0 hm
   have HN := Lib.hid (new_lone 2 (re yB τ d))
   have hs0 : (re yB τ d).heap.size = K := HK.out
   have HS0 := Lib.hid hs0
   clear hs0
   go_wp2_with (fail)
   refine Calls.mono HN.out ?_
   rintro e w' ⟨rfl, hR⟩
   have hR2 : RowKit.Hid (NewStr yB 2 [0, 0] w') := Lib.hid ⟨hR.rep, hR.size, hR.old⟩
   clear hR
   rw [HS0.out]
   go_wp2
   exact ⟨rfl, rfl, hR2.out⟩
 rintro t c0 ⟨rfl, hR⟩
 have hrep := hR.rep
 rw [HK.out] at hrep
 have HB1 : RowKit.Hid (Beyond w c0) := Lib.hid (HBy.out.trans ⟨by have := hR.size; omega, hR.old⟩)
 have HC0 : RowKit.Hid (StrRep (K + 1) (some K) 2 [0, 0] c0) := Lib.hid hrep
 have HBw := HBy
 clear hR hrep HBy
 refine hJ.ctl (s := n + 2 + 2) (fun w => stepG_seq) ?_
 obtain ⟨u7, hu7⟩ : ∃ c, headC (fxT 7) = c := ⟨_, rfl⟩
 have eu7 := hu7
 rw [hu7]
 simp only [fxT, headC, tailN, Try.f8, al_od] at eu7
 subst eu7
 clear hu7
 refine hJ.ctl (s := n + 2 + 2) (fun w => stepG_region) ?_
 have HKW : RowKit.Hid (w.heap.size ≤ K) := Lib.hid (by have h1 := HBw.out.1; have h2 := HK.out; omega)
 refine at_piece (s := n + 2 + 2) (by decide) hJ (zqe _) false (.inr rfl) 0 4 24 rfl rfl rfl (by rfl) ?_
 intro τ d
 simp only [List.drop_succ_cons, List.drop_zero, List.take_succ_cons, List.take_zero]
 go_wp2
 simp only [contAt]
 refine hJ.re' (n + 2 + 2) _ _ τ d ?_
 refine at_call (by decide) hJ (s := n + 2 + 2) rfl rfl (f := 21) (args := #[.pointer (some ⟨K + 1, 0, none⟩), .nilIface, .int .i64 0, .int .i64 5]) (fun τ d => ?_) (fun τ d => ?_) ?_
 · simp [go_sem, execOp, Act.eval, resolve, Deferred.ofValue, invoke, callFunc, Try.func21, Try.f21]
 · intro e he
   simp [go_sem, execOp, Act.eval, resolve, Deferred.ofValue, invoke, callFunc, Try.func21, Try.f21, Sem.runT_eq] at he
 refine str_nilJ hFin (p := addP 2 0 5) (l := [0, 0]) (l' := [5, 0]) (a := 5) (fun Y hst => (add_spec Y hst 0 5).spec) (by kernel_rfl) (by kernel_rfl) HC0.out ?_
 intro c1 hA
 have HC1 := Lib.hid hA.rep
 have HB2 : RowKit.Hid (Beyond w c1) := Lib.hid ⟨Nat.le_trans HB1.out.1 hA.size, fun b hb => (hA.old b (Nat.lt_of_lt_of_le hb HB1.out.1) (by have h1 := HKW.out; omega) (fun e => by have h1 := HKW.out; injection e with e; omega)).trans (HB1.out.2 b hb)⟩
 clear hA
 rw [Frame.finish_at]
 walk_nrm
 refine at_piece (s := n + 2 + 2) (by decide) hJ (zqe _) false (.inr rfl) 5 4 19 rfl rfl rfl (by rfl) ?_
 intro τ d
 simp only [List.drop_succ_cons, List.drop_zero, List.take_succ_cons, List.take_zero]
 go_wp2
 simp only [contAt]
 refine hJ.re' (n + 2 + 2) _ _ τ d ?_
 refine at_call (by decide) hJ (s := n + 2 + 2) rfl rfl (f := 21) (args := #[.pointer (some ⟨K + 1, 0, none⟩), .nilIface, .int .i64 3, .int .i64 7]) (fun τ d => ?_) (fun τ d => ?_) ?_
 · simp [go_sem, execOp, Act.eval, resolve, Deferred.ofValue, invoke, callFunc, Try.func21, Try.f21]
 · intro e he
   simp [go_sem, execOp, Act.eval, resolve, Deferred.ofValue, invoke, callFunc, Try.func21, Try.f21, Sem.runT_eq] at he
 refine str_nilJ hFin (p := addP 2 3 7) (l := [5, 0]) (l' := [5, 7]) (a := 7) (fun Y hst => (add_spec Y hst 3 7).spec) (by kernel_rfl) (by kernel_rfl) HC1.out ?_
 intro c2 hA
 have HC2 := Lib.hid hA.rep
 have HB3 : RowKit.Hid (Beyond w c2) := Lib.hid ⟨Nat.le_trans HB2.out.1 hA.size, fun b hb => (hA.old b (Nat.lt_of_lt_of_le hb HB2.out.1) (by have h1 := HKW.out; omega) (fun e => by have h1 := HKW.out; injection e with e; omega)).trans (HB2.out.2 b hb)⟩
 clear hA
 rw [Frame.finish_at]
 walk_nrm
 refine at_piece (s := n + 2 + 2) (by decide) hJ (zqe _) false (.inr rfl) 10 4 14 rfl rfl rfl (by rfl) ?_
 intro τ d
 simp only [List.drop_succ_cons, List.drop_zero, List.take_succ_cons, List.take_zero]
 go_wp2
 simp only [contAt]
 refine hJ.re' (n + 2 + 2) _ _ τ d ?_
 refine at_call (by decide) hJ (s := n + 2 + 2) rfl rfl (f := 18) (args := #[.pointer (some ⟨K + 1, 0, none⟩)]) (fun τ d => ?_) (fun τ d => ?_) ?_
 · simp [go_sem, execOp, Act.eval, resolve, Deferred.ofValue, invoke, callFunc, Try.func18, Try.f18]
 · intro e he
   simp [go_sem, execOp, Act.eval, resolve, Deferred.ofValue, invoke, callFunc, Try.func18, Try.f18, Sem.runT_eq] at he
 refine at_calls_lone hJ hC plainM Try.func18 rfl (by kernel_rfl) (R := fun v w' => v = .int .i64 12 ∧ Beyond c2 w') (fun v w' τ d h => ⟨h.1, h.2.trans (Beyond.re _ _ _)⟩) (fun τ d => Calls.mono (total_lone ((strCore _ _ _).frame _ _ _ HC2.out fun _ _ => rfl)) ?_) ?_
 · rintro e w' ⟨rfl, h1, h2⟩
   exact ⟨_, rfl, by rw [show totalL [5, 7] = 12 by kernel_rfl], h1, h2⟩
 rintro _ c3 ⟨rfl, hA⟩
 have HC3 : RowKit.Hid (StrRep (K + 1) (some K) 2 [5, 7] c3) := Lib.hid ((strCore _ _ _).frame _ _ _ HC2.out fun b hb => hA.2 b ((strCore _ _ _).lt _ _ _ HC2.out hb))
 have HB4 : RowKit.Hid (Beyond w c3) := Lib.hid (HB3.out.trans hA)
 clear hA
 rw [Frame.finish_at]
 walk_nrm
 refine at_piece (s := n + 2 + 2) (by decide) hJ (zqe _) false (.inr rfl) 15 4 9 rfl rfl rfl (by rfl) ?_
 intro τ d
 simp only [List.drop_succ_cons, List.drop_zero, List.take_succ_cons, List.take_zero]
 go_wp2
 simp only [contAt]
 refine hJ.re' (n + 2 + 2) _ _ τ d ?_
 refine at_call (by decide) hJ (s := n + 2 + 2) rfl rfl (f := 23) (args := #[.pointer (some ⟨K + 1, 0, none⟩), .nilIface]) (fun τ d => ?_) (fun τ d => ?_) ?_
 · simp [go_sem, execOp, Act.eval, resolve, Deferred.ofValue, invoke, callFunc, Try.func23, Try.f23]
 · intro e he
   simp [go_sem, execOp, Act.eval, resolve, Deferred.ofValue, invoke, callFunc, Try.func23, Try.f23, Sem.runT_eq] at he
 refine str_nilJ hFin (p := takeP 2) (l := [5, 7]) (l' := [0, 0]) (a := 12) (fun Y hst => (take_spec Y hst).spec) (by kernel_rfl) (by kernel_rfl) HC3.out ?_
 intro c4 hA
 have HC4 := Lib.hid hA.rep
 have HB5 : RowKit.Hid (Beyond w c4) := Lib.hid ⟨Nat.le_trans HB4.out.1 hA.size, fun b hb => (hA.old b (Nat.lt_of_lt_of_le hb HB4.out.1) (by have h1 := HKW.out; omega) (fun e => by have h1 := HKW.out; injection e with e; omega)).trans (HB4.out.2 b hb)⟩
 clear hA
 rw [Frame.finish_at]
 walk_nrm
 refine at_piece (s := n + 2 + 2) (by decide) hJ (zqe _) false (.inr rfl) 20 4 4 rfl rfl rfl (by rfl) ?_
 intro τ d
 simp only [List.drop_succ_cons, List.drop_zero, List.take_succ_cons, List.take_zero]
 go_wp2
 simp only [contAt]
 refine hJ.re' (n + 2 + 2) _ _ τ d ?_
 refine at_call (by decide) hJ (s := n + 2 + 2) rfl rfl (f := 18) (args := #[.pointer (some ⟨K + 1, 0, none⟩)]) (fun τ d => ?_) (fun τ d => ?_) ?_
 · simp [go_sem, execOp, Act.eval, resolve, Deferred.ofValue, invoke, callFunc, Try.func18, Try.f18]
 · intro e he
   simp [go_sem, execOp, Act.eval, resolve, Deferred.ofValue, invoke, callFunc, Try.func18, Try.f18, Sem.runT_eq] at he
 refine at_calls_lone hJ hC plainM Try.func18 rfl (by kernel_rfl) (R := fun v w' => v = .int .i64 0 ∧ Beyond c4 w') (fun v w' τ d h => ⟨h.1, h.2.trans (Beyond.re _ _ _)⟩) (fun τ d => Calls.mono (total_lone ((strCore _ _ _).frame _ _ _ HC4.out fun _ _ => rfl)) ?_) ?_
 · rintro e w' ⟨rfl, h1, h2⟩
   exact ⟨_, rfl, by rw [show totalL [0, 0] = 0 by kernel_rfl], h1, h2⟩
 rintro _ c5 ⟨rfl, hA⟩
 have HC5 : RowKit.Hid (StrRep (K + 1) (some K) 2 [0, 0] c5) := Lib.hid ((strCore _ _ _).frame _ _ _ HC4.out fun b hb => hA.2 b ((strCore _ _ _).lt _ _ _ HC4.out hb))
 have HB6 : RowKit.Hid (Beyond w c5) := Lib.hid (HB5.out.trans hA)
 clear hA
 rw [Frame.finish_at]
 walk_nrm
 refine at_piece (s := n + 2 + 2) (by decide) hJ (zqe _) false (.inr rfl) 25 3 0 rfl rfl rfl (by rfl) ?_
 intro τ d
 simp only [List.drop_succ_cons, List.drop_zero, List.take_succ_cons, List.take_zero]
 go_wp2
 simp only [contAt]
 refine hJ.re' (n + 2 + 2) _ _ τ d ?_
 refine hJ.ctl (s := n + 2 + 2) (fun w => stepG_region_end) ?_
 refine at_rest_lone hJ hC plainM (by kernel_rfl) (fun v w' => v = .bool true ∧ Beyond w w') (fun v w' τ d h => ⟨h.1, h.2.trans (Beyond.re _ _ _)⟩) rfl Try.func8 (fun τ d => ?_) ?_
 · obtain ⟨u0, hu0⟩ : ∃ c, fxT 8 = c := ⟨_, rfl⟩
   have eu0 := hu0
   rw [hu0]
   simp only [fxT, headC, tailN, Try.f8, al_od] at eu0
   subst eu0
   clear hu0 hm
   go_wp2
   go_ret
   exact ⟨_, rfl, rfl, HB6.out.trans (Beyond.re _ _ _)⟩
 · rintro v w' ⟨rfl, h⟩
   exact hm.out w' h
end Go.Proofs
set_option maxHeartbeats 1000000
namespace Go.Car
open Go Go.Conc Go.RowKit
open Go.ConcN (upd upd_ne upd_same)
section
variable {P : Program} {main : Bool} {γ : Type} {J : γ → Goroutine → World → Prop}
def backOkJ (ops : Array Oper) : Bool := (List.range ops.size).all fun i => match ops[i]? with
 | some o => o.after.all (fun e => !Region.binds .any e || decide (e.on < i))
 | none => false
theorem at_drawsJ (hJ : JS P main (fun _ => none) J) {b : Frame} {k : List Item} {cs : List Frame} (hb : b.kind ≠ .early) (hm : P.follows .mixedOrders = true) {id : Nat} {ops : Array Oper} {T₀ : Array Value} {ds : List Deferred} {s : γ} {w : World} (I : (Nat → Bool) → Array Value → World → Prop)
 (hback : backOkJ ops = true) (hre : ∀ L T w τ d, I L T w → I L T (re w τ d)) (hI : I (fun _ => false) T₀ w)
 (hstep : ∀ (L : Nat → Bool) (T : Array Value) (w : World) (i : Nat) (o : Oper), I L T w → L i = false → ops[i]? = some o → (∀ e ∈ o.after, Region.binds .any e = true → L e.on = true) →
  ∀ rest : List Nat, (∀ T' w', I (upd L i true) T' w' → J s (G (b.at ⟨T', ds⟩ (.inRegion ops rest :: k)) cs) w') → J s (G (b.at ⟨T, ds⟩ (.inRegion ops (i :: rest) :: k)) cs) w)
 (hend : ∀ L T w, (∀ i, i < ops.size → L i = true) → I L T w → J s (G (b.at ⟨T, ds⟩ (.inRegion ops [] :: k)) cs) w) : J s (G (b.at ⟨T₀, ds⟩ (.code (.region id ops true) :: k)) cs) w := by
 have hb' : ∀ i o, ops[i]? = some o → ∀ e ∈ o.after, Region.binds .any e = true → e.on < i := by
  intro i o ho
  have hlt := (Array.getElem?_eq_some_iff.1 ho).1
  unfold backOkJ at hback
  rw [List.all_eq_true] at hback
  have := hback i (List.mem_range.2 hlt)
  rw [ho] at this
  simp only [Array.all_eq_true_iff_forall_mem] at this
  exact fun e he hbe => by have := this e he; simpa [hbe] using this
 have key : ∀ (fuel t : Nat) (listed : Array Bool) (L : Nat → Bool) (T : Array Value) (w : World), listed.size = ops.size → left listed = fuel → (∀ i, i < ops.size → listed.getD i false = L i) → I L T w →
  J s (G (b.at ⟨T, ds⟩ (.inRegion ops (Region.linearise.go .any ops fuel t listed []) :: k)) cs) w := by
  intro fuel
  induction fuel with
  | zero =>
   intro t listed L T w hsz hl hL hi
   refine hend L T w (fun i hlt => ?_) hi
   rw [← hL i hlt]
   have hlt' : i < listed.size := by omega
   cases hv : listed[i] with
   | true => simp [hlt', hv]
   | false => have := left_pos (listed := listed) (i := i) (by simp [hlt', hv]); omega
  | succ fuel ih =>
   intro t listed L T w hsz hl hL hi
   simp only [Region.linearise.go]
   change J s (G (b.at ⟨T, ds⟩ (.inRegion ops (match (Region.ready .any ops listed)[t % (Region.ready .any ops listed).length]? with
    | some i => Region.linearise.go .any ops fuel (t / (Region.ready .any ops listed).length) (listed.setIfInBounds i true) [i]
    | none => [].reverse) :: k)) cs) w
   have hun : ∃ i, listed.getD i true = false := by
    refine Classical.byContradiction fun hn => ?_
    have : left listed = 0 := by
     unfold left
     rw [List.length_eq_zero_iff, List.filter_eq_nil_iff]
     intro x hx hxx
     obtain ⟨i, hi, rfl⟩ := List.getElem_of_mem hx
     have hi' : i < listed.size := by simpa using hi
     have e : listed.toList[i] = listed[i] := by simp
     rw [e] at hxx
     exact hn ⟨i, by simp [hi']; simpa using hxx⟩
    omega
   have hready : ∃ i, i ∈ Region.ready .any ops listed := by
    have : ∀ m i, m = i → listed.getD i true = false → ∃ j, j ∈ Region.ready .any ops listed := by
     intro m
     induction m using Nat.strongRecOn with
     | _ m ihm =>
      intro i hi hun
      subst hi
      have hops : m < ops.size := by have := getD_lt hun; omega
      by_cases hall : ∀ e ∈ (ops[m]'hops).after, Region.binds .any e = true → listed.getD e.on false = true
      · exact ⟨m, mem_ready.2 ⟨hun, _, Array.getElem?_eq_getElem hops, hall⟩⟩
      · obtain ⟨e, he⟩ := Classical.not_forall.1 hall
        obtain ⟨h1, he⟩ := Classical.not_imp.1 he
        obtain ⟨h2, he⟩ := Classical.not_imp.1 he
        have hlt' := hb' m _ (Array.getElem?_eq_getElem hops) e h1 h2
        refine ihm e.on hlt' e.on rfl ?_
        have : e.on < listed.size := by omega
        simp [this] at he ⊢
        exact he
    obtain ⟨i, hi⟩ := hun
    exact this i i rfl hi
   cases hi' : (Region.ready .any ops listed)[t % (Region.ready .any ops listed).length]? with
   | none =>
    exfalso
    obtain ⟨i, hi''⟩ := hready
    have hpos : 0 < (Region.ready .any ops listed).length := List.length_pos_of_mem hi''
    have hlt := Nat.mod_lt t hpos
    rw [List.getElem?_eq_none_iff] at hi'
    omega
   | some i =>
    have hmem := List.mem_of_getElem? hi'
    obtain ⟨hun, o, ho, hall⟩ := mem_ready.1 hmem
    have hilt : i < ops.size := by have := getD_lt hun; omega
    simp only []
    rw [linearise_go_acc, List.reverse_singleton, List.singleton_append]
    have hbk := hb' i o ho
    have hLi : L i = false := by
     rw [← hL i hilt]
     have hlt' : i < listed.size := by omega
     simp [hlt'] at hun ⊢
     exact hun
    have hld : left (listed.setIfInBounds i true) + 1 = left listed := left_set hun
    have hL' : ∀ j, j < ops.size → (listed.setIfInBounds i true).getD j false = upd L i true j := fun j hj => by
     by_cases e : i = j
     · subst e
       have : i < listed.size := by omega
       rw [upd_same]; simp [this]
     · rw [getD_set_ne false e, upd_ne _ _ (fun x => e x.symm)]; exact hL j hj
    have hall' : ∀ e ∈ o.after, Region.binds .any e = true → L e.on = true := fun e he hbe => by
     rw [← hL e.on (by have := hbk e he hbe; omega)]; exact hall e he hbe
    exact hstep L T w i o hi hLi ho hall' _ fun T' w' hI' => ih _ _ (upd L i true) _ _ (by simpa using hsz) (by omega) hL' hI'
 refine hJ.step _ _ _ rfl fun τ d => ⟨_, _, #[], stepG_region_draw (a := ⟨T₀, ds⟩), ?_, by simp, ?_⟩
 · exact OkD.refl _ _ _
 · refine hJ.re' s _ w τ (d + 1) ?_
   simp only [Region.schedule, hm, Bool.true_or, if_true, Region.linearise]
   refine key _ _ _ (fun _ => false) _ _ (by simp) ?_ (fun i hi => by simp [hi]) hI
   unfold left; simp
end
end Go.Car
