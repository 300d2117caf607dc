/- YtdncabjenacolaaTKeep4: part 16 of the proof (the texts behind it, in order). -/
import Derived.Test.YtdncabjenacolaaP15
set_option linter.unusedSimpArgs false
set_option linter.unusedVariables false
set_option linter.unusedSectionVars false
set_option linter.unnecessarySimpa false
set_option maxHeartbeats 4000000
namespace Go.Proofs
open Go Go.Conc Go.RowKit Go.Car Go.ChangeShapes Go.WideShapes Go.Deep
theorem add_at {a : Addr} (h : a.spot = none) (i : Nat) : a.add i = ⟨a.block, a.off + i, none⟩ := by
 obtain ⟨b, o, s⟩ := a
 simp only at h
 subst h
 unfold Addr.add
 split
 · rename_i e; rw [e]; rfl
 · rfl
theorem spot_none {w : World} {a : Addr} {v : Value} (h : w.cell? a = some v) : a.spot = none := by
 unfold World.cell? at h
 split at h
 · split at h
   · cases h
   · rename_i hh; simpa using hh
 · cases h
theorem spot_add {w : World} {a : Addr} {v : Value} (h : w.cell? (a.add 0) = some v) : a.spot = none := spot_none (a := a) (by simpa [Addr.add] using h)
def lenD {H : Type} : DataW H → Nat
 | .slice e _ => e.length
 | _ => 0
section
variable {H : Type} {enc : TypeId × Value → H} {P : Program} {w : World} {held : Bool} {sp : Nat → Bool}
theorem ints_open {t e : TypeId} (ht : P.underlying t = some (.slice e)) (he : P.underlying e = some (.int .i64)) (hc : P.cellsOf e = 1) {a0 : Option Addr} {len cap : Nat} {d : DataW H} {ps : List MemPlace} {fuel : Nat}
 (h : DataW.trod enc P w 0 sp held fuel t [.slice a0 len cap] = some (d, ps)) : ∃ l : List Int, l.length = len ∧ IntsAt w (.slice a0 len cap) l ∧ lenD d = len := by
 rcases open_ints ht he hc h with ⟨hcs, hx⟩ | ⟨a, len', cap', zs, hcs, _, hl, hm, hz, hx, hcell, _⟩
 · simp only [List.cons.injEq, Value.slice.injEq, and_true] at hcs
   obtain ⟨rfl, rfl, rfl⟩ := hcs
   cases hx
   exact ⟨[], rfl, ⟨none, 0, rfl, fun h => absurd rfl h⟩, rfl⟩
 · simp only [List.cons.injEq, Value.slice.injEq, and_true] at hcs
   obtain ⟨rfl, rfl, rfl⟩ := hcs
   cases hx
   have hlz : len ≤ zs.length := by rw [hz]; split <;> omega
   have hlt : (zs.take len).length = len := by rw [List.length_take]; omega
   refine ⟨zs.take len, hlt, ⟨some a, cap, by rw [hlt], fun hne => ?_⟩, by simp [lenD, lits, hlt]; omega⟩
   have h0 : 0 < len := by rw [← hlt]; exact List.length_pos_iff.2 hne
   have hs := spot_add (hcell 0 (by omega))
   refine ⟨a.block, a.off, by obtain ⟨b, o, s⟩ := a; simp only at hs; rw [hs], fun i hi => ?_⟩
   rw [hlt] at hi
   have := hcell i (by omega)
   rw [add_at hs] at this
   rw [this]
   simp [List.getD_eq_getElem?_getD, List.getElem?_take, hi]
theorem code_open {t : TypeId} {fs : Array Field} (ht : P.underlying t = some (.struct fs)) (hfs : ∀ j, j < 5 → ∃ f, fs[j]? = some f ∧ f.offset = j ∧ P.cellsOf f.type = 1 ∧ P.underlying f.type = some (.int .i64)) (hsz : fs.size = 5)
 {cs : List Value} {x : DataW H × List MemPlace} {fuel : Nat} (h : DataW.trod enc P w 0 sp held fuel t cs = some x) : ∃ c : Cd, ∀ j, j < 5 → cs[j]? = (cdL c)[j]? := by
 obtain ⟨xs, n, _, _, _, hxl, hx⟩ := DataW.trod_struct ht h
 have each : ∀ j, j < 5 → ∃ z : Int, cs[j]? = some (.int .i64 z) := fun j hj => by
  obtain ⟨f, h1, h2, h3, h4⟩ := hfs j hj
  have h5 := hx j f h1
  rw [h2, h3] at h5
  obtain ⟨y, hy⟩ : ∃ y, xs[j]? = some y := ⟨_, List.getElem?_eq_getElem (by omega)⟩
  rw [hy] at h5
  obtain ⟨z, h6, _⟩ := DataW.trod_int h4 h5
  refine ⟨z, ?_⟩
  have : ((cs.drop j).take 1)[0]? = some (.int .i64 z) := by rw [h6]; rfl
  rw [List.getElem?_take, if_pos (by omega), List.getElem?_drop, Nat.add_zero] at this
  exact this
 obtain ⟨z0, h0⟩ := each 0 (by omega)
 obtain ⟨z1, h1⟩ := each 1 (by omega)
 obtain ⟨z2, h2⟩ := each 2 (by omega)
 obtain ⟨z3, h3⟩ := each 3 (by omega)
 obtain ⟨z4, h4⟩ := each 4 (by omega)
 refine ⟨⟨z0, z1, z2, z3, z4⟩, fun j hj => ?_⟩
 obtain rfl | rfl | rfl | rfl | rfl : j = 0 ∨ j = 1 ∨ j = 2 ∨ j = 3 ∨ j = 4 := by omega
 · exact h0
 · exact h1
 · exact h2
 · exact h3
 · exact h4
theorem codes_open {t e : TypeId} {fs : Array Field} (ht : P.underlying t = some (.slice e)) (he : P.underlying e = some (.struct fs)) (hc : P.cellsOf e = 5) (hfs : ∀ j, j < 5 → ∃ f, fs[j]? = some f ∧ f.offset = j ∧ P.cellsOf f.type = 1 ∧ P.underlying f.type = some (.int .i64)) (hsz : fs.size = 5)
 {cs : List Value} {d : DataW H} {ps : List MemPlace} {fuel : Nat} (h : DataW.trod enc P w 0 sp held fuel t cs = some (d, ps)) :
 ∃ (q : Option Addr) (l : List Cd) (C : Nat), cs = [.slice q l.length C] ∧ lenD d = l.length ∧ (l ≠ [] → ∃ gb go, q = some ⟨gb, go, none⟩ ∧ ∀ (k : Nat) (c : Cd), l[k]? = some c → ∀ j, j < 5 → w.cell? ⟨gb, go + k * 5 + j, none⟩ = (cdL c)[j]?) := by
 rcases open_slice ht h with ⟨hcs, hx⟩ | ⟨a, len, cap, m, n, D, Pl, hcs, _, hl, _, hm, hx, hcell⟩
 · cases hx
   exact ⟨none, [], 0, hcs, rfl, fun h => absurd rfl h⟩
 · have hlm : len ≤ m := by rw [hm]; split <;> omega
   have each : ∀ i, i < len → ∃ c : Cd, ∀ j, j < 5 → w.cell? ((a.add (i * 5)).add j) = (cdL c)[j]? := fun i hi => by
    obtain ⟨cs', h1, h2⟩ := hcell i (by omega)
    rw [hc] at h1
    obtain ⟨c, h3⟩ := code_open he hfs hsz h2
    exact ⟨c, fun j hj => ((World.cells?_some h1).2.2 j hj).trans (h3 j hj)⟩
   obtain ⟨c, hcc⟩ : ∃ c : Nat → Cd, ∀ i, i < len → ∀ j, j < 5 → w.cell? ((a.add (i * 5)).add j) = (cdL (c i))[j]? := by
    classical
    refine ⟨fun i => if h : i < len then (each i h).choose else ⟨0, 0, 0, 0, 0⟩, fun i hi => ?_⟩
    simp only [hi, dif_pos]
    exact (each i hi).choose_spec
   cases hx
   refine ⟨some a, (List.range len).map c, cap, by simpa using hcs, by simp [lenD], fun hne => ?_⟩
   have h0 : 0 < len := by have := List.length_pos_iff.2 hne; simpa using this
   have hs : a.spot = none := by
    have := hcc 0 h0 0 (by omega)
    rw [Nat.zero_mul] at this
    exact spot_add (a := a) (v := .int .i64 (c 0).d) (by simpa [Addr.add, cdL] using this)
   refine ⟨a.block, a.off, by obtain ⟨b, o, s⟩ := a; simp only at hs; rw [hs], fun k cc hk j hj => ?_⟩
   have hkl : k < len := by have := (List.getElem?_eq_some_iff.1 hk).1; simpa using this
   have := hcc k hkl j hj
   rw [add_at hs, add_at rfl] at this
   rw [this]
   rw [List.getElem?_map, List.getElem?_range hkl] at hk
   cases hk
   rfl
theorem progs_open {t e e2 : TypeId} {fs : Array Field} (ht : P.underlying t = some (.slice e)) (hc1 : P.cellsOf e = 1) (he : P.underlying e = some (.slice e2)) (he2 : P.underlying e2 = some (.struct fs)) (hc : P.cellsOf e2 = 5) (hfs : ∀ j, j < 5 → ∃ f, fs[j]? = some f ∧ f.offset = j ∧ P.cellsOf f.type = 1 ∧ P.underlying f.type = some (.int .i64)) (hsz : fs.size = 5)
 {a0 : Option Addr} {len cap : Nat} {d : DataW H} {ps : List MemPlace} {fuel : Nat} (h : DataW.trod enc P w 0 sp held fuel t [.slice a0 len cap] = some (d, ps)) :
 ∃ prog : Nat → List Cd, RefProgs w a0 len prog ∧ lenD d = len ∧ (∀ i, i < len → ∃ x es sp', d = .slice es sp' ∧ es[i]? = some x ∧ lenD x = (prog i).length) := by
 rcases open_slice1 ht hc1 h with ⟨hcs, hx⟩ | ⟨a, len', cap', m, n, V, D, Pl, hcs, _, hl, _, hm, hx, hcell⟩
 · simp only [List.cons.injEq, Value.slice.injEq, and_true] at hcs
   obtain ⟨rfl, rfl, rfl⟩ := hcs
   cases hx
   exact ⟨fun _ => [], fun h => absurd h (Nat.lt_irrefl _), rfl, fun i hi => absurd hi (Nat.not_lt_zero _)⟩
 · simp only [List.cons.injEq, Value.slice.injEq, and_true] at hcs
   obtain ⟨rfl, rfl, rfl⟩ := hcs
   have hlm : len ≤ m := by rw [hm]; split <;> omega
   have each : ∀ i, i < len → ∃ l : List Cd, ∃ q C, V i = .slice q l.length C ∧ lenD (D i) = l.length ∧ (l ≠ [] → ∃ gb go, q = some ⟨gb, go, none⟩ ∧ ∀ (k : Nat) (c : Cd), l[k]? = some c → ∀ j, j < 5 → w.cell? ⟨gb, go + k * 5 + j, none⟩ = (cdL c)[j]?) := fun i hi => by
    obtain ⟨q, l, C, h1, h2, h3⟩ := codes_open he he2 hc hfs hsz (hcell i (by omega)).2
    simp only [List.cons.injEq, and_true] at h1
    exact ⟨l, q, C, h1, h2, h3⟩
   obtain ⟨prog, hpr⟩ : ∃ prog : Nat → List Cd, ∀ i, i < len → ∃ q C, V i = .slice q (prog i).length C ∧ lenD (D i) = (prog i).length ∧ (prog i ≠ [] → ∃ gb go, q = some ⟨gb, go, none⟩ ∧ ∀ (k : Nat) (c : Cd), (prog i)[k]? = some c → ∀ j, j < 5 → w.cell? ⟨gb, go + k * 5 + j, none⟩ = (cdL c)[j]?) := by
    classical
    refine ⟨fun i => if h : i < len then (each i h).choose else [], fun i hi => ?_⟩
    simp only [hi, dif_pos]
    exact (each i hi).choose_spec
   cases hx
   refine ⟨prog, fun h0 => ?_, by simp [lenD], fun i hi => ⟨D i, _, _, rfl, by simp [hi], (hpr i hi).choose_spec.choose_spec.2.1⟩⟩
   have hs := spot_add (hcell 0 (by omega)).1
   refine ⟨a.block, a.off, by obtain ⟨b, o, s⟩ := a; simp only at hs; rw [hs], fun i hi => ?_⟩
   obtain ⟨q, C, h1, _, h3⟩ := hpr i hi
   have := (hcell i (by omega)).1
   rw [add_at hs, h1] at this
   exact ⟨q, C, this, h3⟩
end
end Go.Proofs
namespace Go.Car
open Go Go.Conc
theorem leaving_of_cond {H : Type} {enc : TypeId × Value → H} {a : Assume} {C : Checked} {os : Os} {f : FuncId} {fn : Func} {s : OpenSpec} {k : (H : Type) → List (DataW H) → Bool} (hk : s.cond = some k) {F : Stop.Interp} {conds : List PathCond} {apart fresh handsOn again : Bool}
 (own : ownKnob C.prog.godebug = none) (started : os.Started) (hfn : C.prog.funcs[f]? = some fn)
 (witness : ∃ (w : World) (tape : Tape) (i : Input), w.os = os ∧ (w.forCall tape i).Shaped C.prog ∧ i.vars = [] ∧ Input.okWide C.prog (w.forCall tape i) .any w.heap.size f i ∧
  s.pre6 enc C.prog fn conds apart (w.forCall tape i).memory i.args ∧ a.holds C.prog (lone (Frame.enter C.prog f i.args .normal) [] (w.forCall tape i)))
 (runs : ∀ (W : World) (base : Nat) (args : Array Value) (ds gs : List (DataW H)) (before : List MemPlace),
  (∀ (j : Nat) t v, fn.params[j]? = some t → args[j]? = some v → Value.okWide C.prog W .any base t v) →
  DataW.Whole enc C.prog fn.params.toList s.vars apart W args.toList ds gs before → k H (ds ++ gs) = true →
  ∃ M last o w' t', runNT C.prog (M + 1) (solo (G (Frame.enter C.prog f args .normal) []) W) #[] = (.ended o w', t') ∧ runN C.prog M (solo (G (Frame.enter C.prog f args .normal) []) W) = .next last ∧
   step C.prog last = .ended o w' ∧ Conc.Good C.prog (fun v W' => (s.at F).post enc C.prog fn apart fresh handsOn again W args v W') last o w' t') :
 ReturnsInLeavingWide a C os f .any (s.pre6 enc C.prog fn conds apart) ((s.at F).post enc C.prog fn apart fresh handsOn again) := by
 refine returnsInLeavingWide_of_good own started witness ?_
 intro w tape i _ _ _ hok hpre _
 obtain ⟨_, _, _, fn', hfn', _, _, _, _, hval⟩ := hok
 obtain rfl : fn' = fn := Option.some.inj (hfn'.symm.trans hfn)
 obtain ⟨ds, gs, before, hw, _, hkk⟩ := (OpenSpec.pre_some hk conds apart _ _).1 hpre.1
 obtain ⟨M, last, o, w', t', h1, h2, h3, h4⟩ := runs (w.forCall tape i) w.heap.size i.args ds gs before hval (DataW.Whole.of_heap (w' := w.forCall tape i) (by rfl) hw) hkk
 exact ⟨M, last, o, w', t', h1, h2, h3, h4.mono fun v hp => ChangeSpec.post_blind hp⟩
theorem holds_leaving_cond {p : Pinned} {s : OpenSpec} {c : OpenClaim} (f : FuncId) (fn : Func)
 (hn : c.program = p.name) (hs : c.sum = p.sum) (hsp : c.spec = s.name)
 (hstart : c.start = .entering) (hout : c.outside = []) (hin : c.inits = []) (hun : c.under = none) (hi4 : c.initsInPlace = [] ∧ c.initsUnfollowed = false ∧ c.initsRecurse = false ∧ c.initsNamed = [] ∧ c.initsPassed = []) (hnb : c.noBlocks = false) (hlv : c.leaving = true) (hfo : c.followed = none) (hnar : c.narrowed = s.cond.isSome) (hstill : c.still = false)
 (hfn : p.checked.prog.funcNamed c.func = some f) (hf : p.checked.prog.funcs[f]? = some fn)
 (closed : joinedFacts p.checked.prog f fn s.bare c = true)
 (hinst : fn.isInstance p.checked.prog c.origin c.targs) (hwrap : fn.isWrapper p.checked.prog c.wrapper c.mainSum)
 (h : ∀ os : Os, os.Started → ∀ (H : Type) (enc : TypeId × Value → H), (∀ a b, enc a = enc b → a = b) → ∀ F : Stop.Interp,
  ReturnsInLeavingWide c.assume p.checked os f .any (c.pre enc p.checked.prog fn s) ((s.at F).post enc p.checked.prog fn c.apart c.fresh c.handsOn c.again)) : c.holds p s := by
 simp only [joinedFacts, Bool.and_eq_true, beq_iff_eq, Array.all_eq_true_iff_forall_mem, List.all_eq_true, decide_eq_true_eq] at closed
 obtain ⟨⟨⟨⟨⟨⟨⟨⟨⟨⟨⟨⟨⟨⟨⟨⟨⟨⟨⟨⟨⟨⟨⟨⟨⟨⟨⟨⟨⟨⟨⟨a1, a2⟩, a3⟩, a4⟩, a5⟩, a6⟩, a7⟩, a8⟩, a9⟩, a10⟩, a11⟩, a12⟩, a13⟩, a14⟩, a15⟩, a16⟩, a17⟩, b17⟩, a18⟩, a19⟩, a20⟩, a21⟩, a22⟩, a23⟩, b23⟩, a24⟩, b24⟩, c24⟩, a25⟩, a26⟩, a27⟩, a28⟩ := closed
 have quiet : ∀ os : Os, Stop.quiet p.checked.prog os := fun os k hk => by rw [a9] at hk; cases hk
 have fits : c.startFits p.checked.prog := by unfold OpenClaim.startFits; rw [hstart]; exact a24
 have told : c.startTold p.checked.prog := by unfold OpenClaim.startTold; rw [hstart]; exact ⟨hin, hun, hi4⟩
 have named : namedTie p.checked.prog c.namedList s.vars = true := by unfold OpenClaim.namedList; rw [hfo]; exact a5
 have worded : p.checked.prog.envWorded = true := by unfold Program.envWorded; rw [a9]; rfl
 have world0 : ∃ os : Os, c.world os ∧ Stop.quiet p.checked.prog os := ⟨_, by unfold OpenClaim.world; rw [hout, hstart]; exact WideRow.started_initial, quiet _⟩
 have lists0 : c.lists p.checked.prog [] := by unfold OpenClaim.lists; rw [hfo]
 refine ⟨a1, hn, hs, hsp, a2, a3, fits, told, f, fn, hfn, hf, ⟨a4, a19⟩, (fun hb => by rw [hnb] at hb; cases hb), named, hinst, hwrap,
  a6.trans a7.symm, ⟨a8.trans a9.symm, worded, b23⟩, a10, a11, a12, a13, a14, ⟨a15, a27, a28⟩, ⟨a16, a20⟩, ⟨a17, a21, a25, a26⟩, ⟨a22, b24, c24, b17⟩, (by rw [hout, hnar]; cases hsh : c.shortTexts with | none => simp | some _ => rw [hsh] at a23; cases a23), fun n hn' => varReadable_some (a18 n hn'),
  world0, [], lists0, fun os st _ H enc inj => ?_⟩
 have st' : os.Started := by unfold OpenClaim.world at st; rw [hout, hstart] at st; exact st
 rw [OpenClaim.post_not_still hstill]
 unfold OpenClaim.form
 rw [hstart, a6]
 intro F
 have e1 : c.okInput = Input.okWide := by unfold OpenClaim.okInput; rw [hnb]
 have e2 : c.atReturn p.checked.prog = leavingAtReturn p.checked.prog := by unfold OpenClaim.atReturn; rw [hlv]
 have e3 : c.always p.checked.prog [] = nothingAlways := by unfold OpenClaim.always; rw [hfo]
 have e4 : s.post enc p.checked.prog fn F c.outside c.apart c.fresh c.handsOn c.again = (s.at F).post enc p.checked.prog fn c.apart c.fresh c.handsOn c.again := by rw [hout]; rfl
 rw [e1, e2, e3]
 show ReturnsInOpen _ _ _ _ _ _ _ _ (s.post enc p.checked.prog fn F c.outside c.apart c.fresh c.handsOn c.again) _ _
 rw [e4]
 exact h os st' H enc inj F a24
end Go.Car
set_option maxHeartbeats 4000000
set_option maxRecDepth 100000
namespace Go.Proofs.Ytdncabjenacolaa
open Go Go.Conc Go.RowKit Go.Car Go.ChangeShapes Go.WideShapes Go.ChangeAt
theorem bulk_one {H : Type} (d : DataW H) : 1 ≤ Rows.uptoBulk d := by
 cases d with
 | lit l => cases l <;> simp [Rows.uptoBulk]
 | nil => simp [Rows.uptoBulk]
 | ptr d => simp [Rows.uptoBulk]
 | slice elems spare => simp [Rows.uptoBulk]
 | agg parts => simp [Rows.uptoBulk]
 | iface t d => simp [Rows.uptoBulk]
 | map entries => simp [Rows.uptoBulk]
 | held h => simp [Rows.uptoBulk]
theorem bulk_mem {H : Type} {d : DataW H} {l : List (DataW H)} (h : d ∈ l) : Rows.uptoBulk d ≤ Rows.uptoBulkAll l := by
 induction l with
 | nil => cases h
 | cons x r ih =>
  simp only [Rows.uptoBulkAll]
  rcases List.mem_cons.1 h with e | e
  · subst e; omega
  · have := ih e; omega
theorem bulk_length {H : Type} (l : List (DataW H)) : l.length ≤ Rows.uptoBulkAll l := by
 induction l with
 | nil => simp [Rows.uptoBulkAll]
 | cons x r ih => have := bulk_one x; simp only [Rows.uptoBulkAll, List.length_cons]; omega
theorem bulk_lenD {H : Type} (d : DataW H) : lenD d ≤ Rows.uptoBulk d := by
 cases d with
 | slice e s => have := bulk_length e; simp only [lenD, Rows.uptoBulk]; omega
 | _ => exact Nat.zero_le _
theorem bulk_part {H : Type} {x : DataW H} {es sp : List (DataW H)} {i : Nat} (h : es[i]? = some x) : Rows.uptoBulk x ≤ Rows.uptoBulk (.slice es sp) := by
 have := bulk_mem (List.mem_of_getElem? h)
 simp only [Rows.uptoBulk]
 omega
theorem bulk_small {H : Type} {l : List (DataW H)} (hk : Rows.uptoSmall H l = true) {d : DataW H} (h : d ∈ l) : Rows.uptoBulk d ≤ 1048576 := by
 have h1 := of_decide_eq_true hk
 have h2 := bulk_mem h
 omega
theorem own_knob : ownKnob Try.prog.godebug = none := by kernel_rfl
theorem laid_out : laidOutB Try.prog = true := by kernel_rfl
theorem reads_same {H : Type} {enc : TypeId × Value → H} {t : TypeId} (hr : Try.prog.readableRec t = true) (hrow : t < Try.prog.types.size) {W w' : World} {v : Value} {d : DataW H} {ps : List MemPlace}
 (h : DataW.Trod enc Try.prog W 0 (fun _ => true) true t v d ps) (hb : Beyond W w') (hlt : ∀ x ∈ ps, x.block < W.heap.size) : DataW.Trod enc Try.prog w' 0 (fun b => decide (b < W.heap.size)) true t v d ps :=
 DataW.Trod.of_heap (w := { w' with os := W.os, tape := W.tape, output := W.output }) (by rfl) (Below.trod laid_out hr hrow h ⟨rfl, rfl, rfl, hb.1, hb.2⟩ hlt)
theorem kept_same {W w' : World} (hb : Beyond W w') (ho : w'.os = W.os) (hu : w'.output = W.output) (may : MemPlace → Prop) : W.keptBut w' may := by
 have h := Below.frame (W := W) (w' := { w' with os := W.os, tape := W.tape, output := W.output }) ⟨rfl, rfl, rfl, hb.1, hb.2⟩ may
 exact ⟨ho, hu, h.2.2⟩
theorem code_fields : ∃ fs, Try.prog.underlying 71 = some (.struct fs) ∧ fs.size = 5 ∧ ∀ j, j < 5 → ∃ f, fs[j]? = some f ∧ f.offset = j ∧ Try.prog.cellsOf f.type = 1 ∧ Try.prog.underlying f.type = some (.int .i64) := by
 refine ⟨_, Try.underlying71, rfl, fun j hj => ?_⟩
 obtain rfl | rfl | rfl | rfl | rfl : j = 0 ∨ j = 1 ∨ j = 2 ∨ j = 3 ∨ j = 4 := by omega
 all_goals exact ⟨_, rfl, rfl, by kernel_rfl, by kernel_rfl⟩
theorem ints_arg {H : Type} {enc : TypeId × Value → H} {W : World} {t e : TypeId} (ht : Try.prog.underlying t = some (.slice e)) (he : Try.prog.underlying e = some (.int .i64)) (hc : Try.prog.cellsOf e = 1) {base : Nat} {v : Value} {d : DataW H} {p : List MemPlace} (hok : Value.okWide Try.prog W .any base t v)
 (h : DataW.Trod enc Try.prog W 0 (fun _ => true) true t v d p) (hb : Rows.uptoBulk d ≤ 1048576) : ∃ a C, ∃ l : List Int, v = .slice a l.length C ∧ IntsAt W (.slice a l.length C) l ∧ l.length ≤ 1048576 := by
 obtain ⟨a, len, cap, rfl⟩ := okWide_slice ht hok
 obtain ⟨fuel, hf⟩ := h
 obtain ⟨l, h1, h2, h3⟩ := ints_open ht he hc (by simpa [Value.cells] using hf)
 have := bulk_lenD d
 exact ⟨a, cap, l, by rw [h1], by rw [h1]; exact h2, by omega⟩
theorem progs_arg {H : Type} {enc : TypeId × Value → H} {W : World} {base : Nat} {v : Value} {d : DataW H} {p : List MemPlace} (hok : Value.okWide Try.prog W .any base 23 v)
 (h : DataW.Trod enc Try.prog W 0 (fun _ => true) true 23 v d p) (hb : Rows.uptoBulk d ≤ 1048576) : ∃ a n C, ∃ prog : Nat → List Cd, v = .slice a n C ∧ RefProgs W a n prog ∧ n ≤ 1048576 ∧ ∀ i, i < n → (prog i).length ≤ 1048576 := by
 obtain ⟨a, len, cap, rfl⟩ := okWide_slice (e := 62) (by kernel_rfl) hok
 obtain ⟨fuel, hf⟩ := h
 obtain ⟨fs, k1, k2, k3⟩ := code_fields
 obtain ⟨prog, h1, h2, h3⟩ := progs_open (e := 62) (e2 := 71) (by kernel_rfl) (by kernel_rfl) (by kernel_rfl) k1 (by kernel_rfl) k3 k2 (by simpa [Value.cells] using hf)
 have := bulk_lenD d
 refine ⟨a, len, cap, prog, rfl, h1, by omega, fun i hi => ?_⟩
 obtain ⟨x, es, sp, rfl, hx, hl⟩ := h3 i hi
 have := bulk_part (sp := sp) hx
 have := bulk_lenD x
 omega
end Go.Proofs.Ytdncabjenacolaa
set_option maxHeartbeats 4000000
set_option maxRecDepth 100000
namespace Go.Proofs
open Go Go.Conc Go.RowKit Go.Car
theorem row_setK {w : World} {B g n cap k : Nat} {T : TypeId} {xs : List Value} (h : w.ownsRow B T k (.slice (some ⟨g, 0, none⟩) n cap) n xs) (i : Nat) (v : Value) : (w.setCell ⟨g, i, none⟩ v).ownsRow B T k (.slice (some ⟨g, 0, none⟩) n cap) n (xs.set i v) := by
 refine ⟨by rw [List.length_set]; exact h.1, ?_⟩
 rcases h.2 with ⟨hv, _⟩ | ⟨g2, cap2, cur, hv, h1, h2, h3, h4, h5, h6⟩
 · cases hv
 · cases hv
   refine .inr ⟨g, cap, cur.setIfInBounds i v, rfl, h1, zqh _ _ _ _ h2, h3, h4, by simpa using h5, ?_⟩
   rw [← h6, Array.toList_setIfInBounds, List.take_set]
theorem row_formK {w : World} {B n k : Nat} {T : TypeId} {v : Value} {xs : List Value} (h : w.ownsRow B T k v n xs) : ∃ p C, v = .slice p n C ∧ (0 < n → ∃ g, p = some ⟨g, 0, none⟩ ∧ v.ownBlock = some g ∧ ∀ i, i < n * k → ∃ x, w.cell? ⟨g, i, none⟩ = some x) := by
 rcases h.2 with ⟨hv, h0⟩ | ⟨g, cap, cur, hv, hb, hh, h1, h2, h3, h4⟩
 · subst h0; exact ⟨none, 0, hv, fun h => absurd h (Nat.lt_irrefl _)⟩
 · refine ⟨_, cap, hv, fun _ => ⟨g, rfl, by rw [hv]; rfl, fun i hi => ?_⟩⟩
   rw [zq0 (off := i) hh]
   have : i < cur.size := by rw [h3]; exact Nat.lt_of_lt_of_le hi (Nat.mul_le_mul_right k h1)
   exact ⟨_, Array.getElem?_eq_getElem this⟩
structure KpI (B M : Nat) (w0 wC : World) (bA : Nat) (ans v st : Value) (stk : Bool) (N : Nat) (tv : Nat → Value) (ln : Nat → Nat) (lo ls : Nat) (i : Nat) (wr : World) : Prop where
 size : wC.heap.size ≤ wr.heap.size
 far : ∀ b, M ≤ b → b < wC.heap.size → wr.heap[b]? = wC.heap[b]?
 old : ∀ b, b < w0.heap.size → wr.heap[b]? = w0.heap[b]?
 var : wr.heap[bA]? = some (.cells #[ans, v, st, .bool stk] 28)
 arow : ∃ xs, wr.ownsRow B 36 1 ans N xs ∧ ∀ j, i ≤ j → j < N → xs[j]? = some (tv j)
 told : ∀ j, i ≤ j → j < N → ∃ xs, wr.ownsRow B 38 3 (tv j) (ln j) xs
 orow : ∃ xs, wr.ownsRow B 3 1 v lo xs
 srow : ∃ xs, wr.ownsRow B 2 1 st ls xs
structure KpS (B M : Nat) (w0 wC : World) (bA : Nat) (ans v st : Value) (N : Nat) (tv : Nat → Value) : Prop where
 bound : w0.heap.size ≤ B ∧ B ≤ M ∧ M ≤ wC.heap.size ∧ bA < M ∧ B ≤ bA
 ha : ∀ g, ans.ownBlock = some g → g < M
 hv : ∀ g, v.ownBlock = some g → g < M
 hs : ∀ g, st.ownBlock = some g → g < M
 ht : ∀ j g, j < N → (tv j).ownBlock = some g → g < M
 sep : ∀ j k g, j < N → k < N → j ≠ k → (tv j).ownBlock = some g → (tv k).ownBlock ≠ some g
section
variable {B M : Nat} {w0 wC : World} {bA : Nat} {ans v st : Value} {stk : Bool} {N : Nat} {tv : Nat → Value} {ln : Nat → Nat} {lo ls i : Nat} {wr : World}
theorem KpI.drew (h : KpI B M w0 wC bA ans v st stk N tv ln lo ls i wr) (n : Nat) : KpI B M w0 wC bA ans v st stk N tv ln lo ls i (wr.drewN n) := ⟨h.size, h.far, h.old, h.var, h.arow, h.told, h.orow, h.srow⟩
theorem KpI.setT (h : KpI B M w0 wC bA ans v st stk N tv ln lo ls i wr) (s : KpS B M w0 wC bA ans v st N tv) (hi : i < N) {g : Nat} (hg : (tv i).ownBlock = some g) (o : Nat) (x : Value) : KpI B M w0 wC bA ans v st stk N tv ln lo ls i (wr.setCell ⟨g, o, none⟩ x) := by
 have hM := s.ht i g hi hg
 obtain ⟨xs, hr⟩ := h.told i (Nat.le_refl _) hi
 obtain ⟨⟨c, hc⟩, hB, _⟩ := own_lt hr hg
 have hb := s.bound
 have kr : ∀ {T : TypeId} {k m : Nat} {u : Value} {ys : List Value}, wr.ownsRow B T k u m ys → T ≠ 38 → (wr.setCell ⟨g, o, none⟩ x).ownsRow B T k u m ys := fun hr hT => zqd hr fun q hq => zq3 _ _ _ _ fun e => own_ne hr hc hT (by rw [hq, show q = g from e])
 refine ⟨by rw [zqi]; exact h.size, fun b h1 h2 => ?_, fun b hlt => ?_, ?_, ?_, fun j h1 h2 => ?_, ?_, ?_⟩
 · rw [zq3 _ _ _ _ (show b ≠ g by omega)]; exact h.far b h1 h2
 · rw [zq3 _ _ _ _ (show b ≠ g by omega)]; exact h.old b hlt
 · rw [zq3 _ _ _ _ (show bA ≠ g from fun e => by have := h.var; rw [e] at this; exact absurd (heap_type hc this) (by decide))]; exact h.var
 · obtain ⟨ys, h3, h4⟩ := h.arow; exact ⟨ys, kr h3 (by decide), h4⟩
 · obtain ⟨ys, h3⟩ := h.told j h1 h2
   by_cases e : j = i
   · subst e
     obtain ⟨p, C, e2, _⟩ := row_formK h3
     rw [e2] at h3 hg ⊢
     cases p with
     | none => cases hg
     | some a =>
      rcases h3.2 with ⟨hv, _⟩ | ⟨g2, cap2, cur, hv, _⟩
      · cases hv
      · cases hv
        simp only [Value.ownBlock, al_oi] at hg
        subst hg
        exact ⟨_, row_setK h3 o x⟩
   · exact ⟨ys, zqd h3 fun q hq => zq3 _ _ _ _ fun e2 => s.sep i j g hi h2 (fun e3 => e e3.symm) hg (by rw [hq, show q = g from e2])⟩
 · obtain ⟨ys, h3⟩ := h.orow; exact ⟨ys, kr h3 (by decide)⟩
 · obtain ⟨ys, h3⟩ := h.srow; exact ⟨ys, kr h3 (by decide)⟩
theorem KpI.next (h : KpI B M w0 wC bA ans v st stk N tv ln lo ls i wr) (s : KpS B M w0 wC bA ans v st N tv) (hi : i < N) {ga ca n : Nat} (ha : ans = .slice (some ⟨ga, 0, none⟩) N ca) {c : Array Value} {w5 : World} {u : Value} (hgrow : ((wr.drewN n).alloc (.cells c 38)).grownBy w5 (tv i).ownBlock) :
 KpI B M w0 wC bA ans v st stk N tv ln lo ls (i + 1) (w5.setCell ⟨ga, i, none⟩ u) := by
 have hb := s.bound
 have hgs := hgrow.size
 rw [zq6] at hgs
 have hgs' : wr.heap.size + 1 ≤ w5.heap.size := hgs
 have hsz := h.size
 have k5 : ∀ b, b < wr.heap.size → (tv i).ownBlock ≠ some b → w5.heap[b]? = wr.heap[b]? := fun b hlt hne => by
  rw [hgrow.block b (by rw [zq6]; exact Nat.lt_succ_of_lt hlt) (fun e => hne e.symm), zqa, if_neg (by show b ≠ wr.heap.size; omega)]; rfl
 obtain ⟨xs, hr⟩ := h.told i (Nat.le_refl _) hi
 have tne : ∀ {T : TypeId} {c : Array Value} {b : Nat}, wr.heap[b]? = some (.cells c T) → T ≠ 38 → (tv i).ownBlock ≠ some b := fun hc hT => own_ne hr hc (Ne.symm hT)
 obtain ⟨ys, hy, hys⟩ := h.arow
 have hga : ans.ownBlock = some ga := by rw [ha]; rfl
 obtain ⟨⟨ca2, hca⟩, hgB, hgl⟩ := own_lt hy hga
 have hgM := s.ha ga hga
 have ky : ∀ {T : TypeId} {k m : Nat} {u : Value} {zs : List Value}, wr.ownsRow B T k u m zs → T ≠ 38 → w5.ownsRow B T k u m zs := fun hz hT => zqd hz fun q hq => by
  obtain ⟨⟨c, hc⟩, _, hlt⟩ := own_lt hz hq
  exact k5 q hlt (tne hc hT)
 have hca5 : w5.heap[ga]? = some (.cells ca2 36) := (k5 ga hgl (tne hca (by decide))).trans hca
 have kz : ∀ {T : TypeId} {k m : Nat} {u : Value} {zs : List Value} {x : Value}, w5.ownsRow B T k u m zs → T ≠ 36 → (w5.setCell ⟨ga, i, none⟩ x).ownsRow B T k u m zs := fun hz hT => zqd hz fun q hq => zq3 _ _ _ _ fun e => own_ne hz hca5 hT (by rw [hq, show q = ga from e])
 refine ⟨by rw [zqi]; omega, fun b h1 h2 => ?_, fun b hlt => ?_, ?_, ?_, fun j h1 h2 => ?_, ?_, ?_⟩
 · rw [zq3 _ _ _ _ (show b ≠ ga by omega), k5 b (by omega) (fun e => by have := s.ht i b hi e; omega)]; exact h.far b h1 h2
 · rw [zq3 _ _ _ _ (show b ≠ ga by omega), k5 b (by omega) (fun e => by have := (own_lt hr e).2.1; omega)]; exact h.old b hlt
 · rw [zq3 _ _ _ _ (show bA ≠ ga from fun e => by have := h.var; rw [e] at this; exact absurd (heap_type hca this) (by decide)), k5 bA (by omega) (tne h.var (by decide))]; exact h.var
 · have h5 := ky hy (by decide)
   rw [ha] at h5 ⊢
   refine ⟨_, row_setK h5 i u, fun j h1 h2 => ?_⟩
   rw [List.getElem?_set_ne (by omega)]
   exact hys j (by omega) h2
 · obtain ⟨zs, h3⟩ := h.told j (by omega) h2
   refine ⟨zs, kz (zqd h3 fun q hq => k5 q (own_lt h3 hq).2.2 fun e => s.sep i j q hi h2 (by omega) e hq) (by decide)⟩
 · obtain ⟨zs, h3⟩ := h.orow; exact ⟨zs, kz (ky h3 (by decide)) (by decide)⟩
 · obtain ⟨zs, h3⟩ := h.srow; exact ⟨zs, kz (ky h3 (by decide)) (by decide)⟩
theorem KpI.setR (h : KpI B M w0 wC bA ans v st stk N tv ln lo ls N wr) (s : KpS B M w0 wC bA ans v st N tv) {g m : Nat} {T : TypeId} {xs : List Value} {u : Value} (hu : wr.ownsRow B T 1 u m xs) (hg : u.ownBlock = some g) (hM : g < M) (hT : (T = 3 ∧ u = v) ∨ (T = 2 ∧ u = st)) (o : Nat) (x : Value) :
 KpI B M w0 wC bA ans v st stk N tv ln lo ls N (wr.setCell ⟨g, o, none⟩ x) := by
 obtain ⟨⟨c, hc⟩, hB, _⟩ := own_lt hu hg
 have hb := s.bound
 have kr : ∀ {T' : TypeId} {k m : Nat} {u : Value} {ys : List Value}, wr.ownsRow B T' k u m ys → T' ≠ T → (wr.setCell ⟨g, o, none⟩ x).ownsRow B T' k u m ys := fun hr hT => zqd hr fun q hq => zq3 _ _ _ _ fun e => own_ne hr hc hT (by rw [hq, show q = g from e])
 have same : ∀ {ys : List Value} {l : Nat}, wr.ownsRow B T 1 u l ys → ∃ zs, (wr.setCell ⟨g, o, none⟩ x).ownsRow B T 1 u l zs := fun hr => by
  rcases hr.2 with ⟨hv, _⟩ | ⟨g2, cap2, cur, hv, _⟩
  · rw [hv] at hg; cases hg
  · rw [hv] at hg hr ⊢
    simp only [Value.ownBlock, al_oi] at hg
    subst hg
    exact ⟨_, row_setK hr o x⟩
 have hT3 : T ≠ 28 ∧ 36 ≠ T := by rcases hT with ⟨rfl, _⟩ | ⟨rfl, _⟩ <;> exact ⟨by decide, by decide⟩
 refine ⟨by rw [zqi]; exact h.size, fun b h1 h2 => ?_, fun b hlt => ?_, ?_, ?_, fun j h1 h2 => by omega, ?_, ?_⟩
 · rw [zq3 _ _ _ _ (show b ≠ g by omega)]; exact h.far b h1 h2
 · rw [zq3 _ _ _ _ (show b ≠ g by omega)]; exact h.old b hlt
 · rw [zq3 _ _ _ _ (show bA ≠ g from fun e => by have := h.var; rw [e] at this; exact absurd (heap_type hc this) hT3.1)]; exact h.var
 · obtain ⟨ys, h3, h4⟩ := h.arow; exact ⟨ys, kr h3 hT3.2, h4⟩
 · obtain ⟨ys, h3⟩ := h.orow
   rcases hT with ⟨rfl, rfl⟩ | ⟨rfl, rfl⟩
   · exact same h3
   · exact ⟨ys, kr h3 (by decide)⟩
 · obtain ⟨ys, h3⟩ := h.srow
   rcases hT with ⟨rfl, rfl⟩ | ⟨rfl, rfl⟩
   · exact ⟨ys, kr h3 (by decide)⟩
   · exact same h3
end
noncomputable def tkT (n : Nat) : Code := tailN n (Try.f4.body.getD .skip)
theorem tk0 : Try.f4.body.getD .skip = .seq (headC (tkT 0)) (.seq (headC (tkT 1)) (.seq (headC (tkT 2)) (.seq (headC (tkT 3)) (.seq (headC (tkT 4)) (.seq (headC (tkT 5)) (tkT 6)))))) := by kernel_rfl
theorem keep_words {w : World} {wp : Option Addr} {C : Nat} {ws : List Int} (h : IntsAt w (.slice wp ws.length C) ws) : 0 < ws.length → ∃ wb wo, wp = some ⟨wb, wo, none⟩ ∧ ∀ i, i < ws.length → w.cell? ⟨wb, wo + i, none⟩ = some (.int .i64 (ws.getD i 0)) := fun h0 => by
 obtain ⟨p, C', e, h⟩ := h
 cases e
 exact h (fun e => by rw [e] at h0; exact absurd h0 (Nat.lt_irrefl _))
theorem keep_sched {w w1 w2 w3 : World} {sp : Option Addr} {C : Nat} {l : List Int} (h : IntsAt w (.slice sp l.length C) l) (h1 : Beyond w w1) (h3 : Beyond w1 w3) : l ≠ [] → ∃ sb off, sp = some ⟨sb, off, none⟩ ∧ ¬ (w1.heap.size ≤ sb ∧ sb < w2.heap.size) ∧ ∀ j x, l[j]? = some x → w3.cell? ⟨sb, off + j, none⟩ = some (.int .i64 x) := fun hne => by
 obtain ⟨p, C', e, h⟩ := h
 cases e
 obtain ⟨b, o, e2, hc⟩ := h hne
 have h0 := hc 0 (List.length_pos_iff.2 hne)
 have hlt := cell_lt h0
 refine ⟨b, o, e2, fun hh => by have := h1.1; have : b < w.heap.size := hlt; omega, fun j x hj => ?_⟩
 have hjl : j < l.length := (List.getElem?_eq_some_iff.1 hj).1
 have := (h1.trans h3).cell (hc j hjl)
 rw [this]
 simp [List.getD_eq_getElem?_getD, hj]
def TkI (w1 : World) (n : Nat) (prog : Nat → List Cd) (T : Option Addr → Nat → Array Value) (t : Array Value) (w' : World) : Prop := ∃ op Co pvs, t = T op Co ∧ CdO w1 n (.slice op n Co) pvs prog w'
def TkW (wb : World) (prog : Nat → List Cd) (n : Nat) (l ws : List Int) (lo ls : Nat) (stk : Bool) (T : Nat → Option Addr → Nat → Option Addr → Nat → Option Addr → Nat → Array Value) (t : Array Value) (w' : World) : Prop :=
 ∃ (wc : World) (p1 p2 p3 : Option Addr) (c1 c2 c3 : Nat), t = T wc.heap.size p1 c1 p2 c2 p3 c3 ∧ Beyond wb wc ∧ Beyond wc w' ∧ w'.heap[wc.heap.size]? = some (.cells #[.slice p1 (min n 64) c1, .slice p2 lo c2, .slice p3 ls c3, .bool stk] 28) ∧ w'.heap.size = wc.heap.size + 1 ∧
  TraceF wb.heap.size wc (.agg #[.slice p1 (min n 64) c1, .slice p2 lo c2, .slice p3 ls c3, .bool stk]) (min n 64) (fun i => ((refP prog (min n 64) 2000 l ws).mem.th i).told) ((refP prog (min n 64) 2000 l ws).ord.map fun (i : Nat) => (i : Int)) (refP prog (min n 64) 2000 l ws).mem.ws stk ∧
  (refP prog (min n 64) 2000 l ws).ord.length ≤ 1048576 ∧ (∀ i, i < min n 64 → ((refP prog (min n 64) 2000 l ws).mem.th i).told.length ≤ 4294971392) ∧ (refP prog (min n 64) 2000 l ws).mem.ws.length = ws.length
set_option maxHeartbeats 8000000
set_option maxRecDepth 100000
theorem row_one {w : World} {B n k : Nat} {T : TypeId} {p : Option Addr} {C : Nat} {xs : List Value} (h : w.ownsRow B T k (.slice p n C) n xs) (h0 : 0 < n) : ∃ g, p = some ⟨g, 0, none⟩ ∧ (Value.slice p n C).ownBlock = some g ∧ (∀ i, i < n * k → ∃ x, w.cell? ⟨g, i, none⟩ = some x) ∧ ∀ i, w.frozen? ⟨g, i, none⟩ = false := by
 obtain ⟨q, C', e, hc⟩ := row_formK h
 cases e
 obtain ⟨g, e2, hg, hc⟩ := hc h0
 obtain ⟨⟨c, hh⟩, _⟩ := own_lt h hg
 exact ⟨g, e2, hg, hc, fun i => zqg hh⟩
theorem keep_rest {Post : Value → World → Prop} {B M lo ls N baT bbT bcT : Nat} {w0 wC wr0 : World} {pa1 pa2 pa3 pb1 pb2 pb3 p1 p2 p3 : Option Addr} {ca1 ca2 ca3 cb1 cb2 cb3 c1 c2 c3 : Nat} {bst : Bool} {av0 av1 av2 av3 : Value} {tv : Nat → Value} {ln : Nat → Nat} {tolds : Nat → List Int} {ord st : List Int}
 (hS : KpS B M w0 wC baT (.slice pa1 N ca1) (.slice pa2 lo ca2) (.slice pa3 ls ca3) N tv) (hK : KpI B M w0 wC baT (.slice pa1 N ca1) (.slice pa2 lo ca2) (.slice pa3 ls ca3) bst N tv ln lo ls 0 wr0) (hN : N ≤ 64) (hlo : lo ≤ 1048576) (hls : ls ≤ 1099511627776) (hln : ∀ i, i < N → ln i ≤ 4294971392)
 (hb : M ≤ bbT ∧ wC.heap[bbT]? = some (.cells #[.slice pb1 N cb1, .slice pb2 lo cb2, .slice pb3 ls cb3, .bool bst] 28)) (hc : M ≤ bcT ∧ wC.heap[bcT]? = some (.cells #[.slice p1 N c1, .slice p2 lo c2, .slice p3 ls c3, .bool bst] 28))
 (hT : ∀ w'' : World, (∀ b, M ≤ b → b < wC.heap.size → w''.heap[b]? = wC.heap[b]?) → TraceAt w'' (.agg #[.slice pb1 N cb1, .slice pb2 lo cb2, .slice pb3 ls cb3, .bool bst]) N tolds ord st bst ∧ TraceAt w'' (.agg #[.slice p1 N c1, .slice p2 lo c2, .slice p3 ls c3, .bool bst]) N tolds ord st bst)
 (hord : ord.length ≤ 1099511627776) (hst : st.length ≤ 1099511627776) (htl : ∀ i, i < N → (tolds i).length ≤ 1099511627776)
 (hend : ∀ w', Beyond w0 w' → Post (.bool true) w') :
 Code.wp Try.prog (tkT 6) (bodyPost Try.prog Try.f4 fun e w' => ∃ v, e = .returned v ∧ Post v w') ⟨#[av0, av1, av2, undef, undef, undef, .bool false, av3, .pointer (some ⟨baT, 0, none⟩), .pointer (some ⟨bbT, 0, none⟩), .pointer (some ⟨bcT, 0, none⟩), undef, undef, undef, undef, .bool true, .bool false, av1, av3, av0, av3, av2, .agg #[.slice pa1 (N) ca1, .slice pa2 lo ca2, .slice pa3 ls ca3, .bool bst], av0, av3, av2, .agg #[.slice pb1 (N) cb1, .slice pb2 lo cb2, .slice pb3 ls cb3, .bool bst], av0, av1, av2, .agg #[.slice p1 (N) c1, .slice p2 lo c2, .slice p3 ls c3, .bool bst], undef, undef, undef, undef, undef, undef, undef, undef, undef, undef, undef, undef, undef, undef, undef, undef, undef, undef, undef, undef, undef, undef, undef, undef, undef, undef, undef, undef, undef, undef, undef, undef, undef, undef, undef, undef, undef, undef, undef, undef, undef, undef, undef, undef, undef, undef, undef, undef, undef, undef, undef, undef, undef, undef, undef, undef, undef, undef, undef, undef, undef, undef, undef], []⟩ wr0 := by
 obtain ⟨u6, hu6⟩ : ∃ c, tkT 6 = c := ⟨_, rfl⟩
 have eu6 := hu6
 rw [hu6]
 simp only [tkT, headC, tailN, Try.f4, al_od] at eu6
 subst eu6
 clear hu6
 have HS := Lib.hid hS
 have HE := Lib.hid hend
 have HT := Lib.hid (And.intro hT (And.intro hb (And.intro hc (And.intro hord (And.intro hst (And.intro htl hln))))))
 have H0 := Lib.hid hK
 clear hS hend hT hb hc hord hst htl hln hK
 go_wp2_with (fail)
 go_loopg [11] N (fun k i wr => ∃ j : Nat, k = N - j ∧ j ≤ N ∧ i = .int .i64 j ∧ KpI B M w0 wC baT (.slice pa1 N ca1) (.slice pa2 lo ca2) (.slice pa3 ls ca3) bst N tv ln lo ls j wr)
 case atStart => exact ⟨0, rfl, Nat.zero_le _, rfl, H0.out⟩
 case round =>
  obtain ⟨j, hk, hj, rfl, hR⟩ := hrel
  have HR := Lib.hid hR
  clear hR
  have a0 := (zq0 (off := 0) HR.out.var).trans rfl
  by_cases hlt : j < N
  · have hlt' : (j : Int) < (N : Int) := by omega
    have hj0 : (0 : Int) ≤ j := by omega
    obtain ⟨xs, har, hxs⟩ := HR.out.arow
    obtain ⟨ga, hga, hgo, _, _⟩ := row_one har (by omega)
    rw [hga] at a0
    have HGO := Lib.hid (And.intro hga hgo)
    clear hga hgo
    obtain ⟨ys, htd⟩ := HR.out.told j (Nat.le_refl _) hlt
    obtain ⟨pj, Cj, ej, _⟩ := row_formK htd
    obtain ⟨L, hL⟩ : ∃ x, ln j = x := ⟨_, rfl⟩
    rw [hL] at ej
    have HJ := Lib.hid (And.intro ej hL)
    have hLm : L ≤ 4294971392 := by rw [← hL]; exact HT.out.2.2.2.2.2.2 j hlt
    have cell1 : ∀ wr2, KpI B M w0 wC baT (.slice pa1 N ca1) (.slice pa2 lo ca2) (.slice pa3 ls ca3) bst N tv ln lo ls j wr2 → wr2.cell? ⟨ga, j, none⟩ = some (.slice pj L Cj) := fun wr2 h => by
     obtain ⟨xs, h1, h2⟩ := h.arow
     rw [← HJ.out.1]
     rw [HGO.out.1] at h1
     exact row_cell h1 (h2 j (Nat.le_refl _) hlt)
    have CE := Lib.hid cell1
    clear har hxs htd ej hL cell1
    go_wp2_with (fail)
    go_loopg [12] L (fun k i wr2 => ∃ kk : Nat, k = L - kk ∧ kk ≤ L ∧ i = .int .i64 kk ∧ KpI B M w0 wC baT (.slice pa1 N ca1) (.slice pa2 lo ca2) (.slice pa3 ls ca3) bst N tv ln lo ls j wr2)
    case atStart => exact ⟨0, rfl, Nat.zero_le _, rfl, HR.out⟩
    case round =>
     obtain ⟨kk, hk2, hkk, rfl, hR2⟩ := hrel
     have HR2 := Lib.hid hR2
     clear hR2 a0
     have a0 := (zq0 (off := 0) HR2.out.var).trans rfl
     rw [HGO.out.1] at a0
     have a1 := CE.out _ HR2.out
     obtain ⟨ys, htd⟩ := HR2.out.told j (Nat.le_refl _) hlt
     rw [HJ.out.1, HJ.out.2] at htd
     by_cases hlt2 : kk < L
     · have hlt2' : (kk : Int) < (L : Int) := by omega
       have hkk0 : (0 : Int) ≤ kk := by omega
       obtain ⟨g, hg, hgo2, hcl, hfz⟩ := row_one htd (by omega)
       subst hg
       obtain ⟨x0, d0⟩ := hcl (kk * 3) (by omega)
       obtain ⟨x1, d1⟩ := hcl (kk * 3 + 1) (by omega)
       obtain ⟨x2, d2⟩ := hcl (kk * 3 + 2) (by omega)
       have z0 := hfz (kk * 3)
       have z1 := hfz (kk * 3 + 1)
       have z2 := hfz (kk * 3 + 2)
       have hgt : (tv j).ownBlock = some g := by rw [HJ.out.1]; exact hgo2
       have HG := Lib.hid hgt
       clear hcl hfz htd hgo2 hgt
       go_wp2
       go_roundg (L - (kk + 1))
       case measure => omega
       case rel => exact ⟨kk + 1, rfl, by omega, rfl, ((HR2.out.setT HS.out hlt HG.out _ _).setT HS.out hlt HG.out _ _).setT HS.out hlt HG.out _ _⟩
     · obtain rfl : L = kk := by omega
       have HTD := Lib.hid htd
       clear htd
       have hsz := HR2.out.size
       have hbd := HS.out.bound
       obtain ⟨ys2, har2, _⟩ := HR2.out.arow
       obtain ⟨⟨cga, hcga⟩, _, hgal⟩ := own_lt har2 HGO.out.2
       have hneg : (Value.slice pj L Cj).ownBlock ≠ some ga := own_ne HTD.out hcga (by decide)
       have HGA := Lib.hid (And.intro hcga hneg)
       have hal : ga < wr.heap.size := hgal
       have hbl : baT < wr.heap.size := zq4 HR2.out.var
       clear har2 hcga hneg hgal
       go_wp2_with (fail)
       have A0 := Lib.hid a0
       have A1 := Lib.hid a1
       clear a0 a1
       obtain ⟨ti, hti, hz0, hz1, hz2⟩ : ∃ ti, Try.prog.info? 38 = some ti ∧ ti.zero = some (.agg #[.bool false, .int .i64 0, .slice none 0 0]) ∧ ti.size = 3 ∧ ti.bytes = 40 := ⟨_, rfl, rfl, rfl, rfl⟩
       have hrow : ((wr.drewN 1).alloc (.cells #[.bool false, .int .i64 (-78), .slice none 0 0, .bool false, .int .i64 0, .slice none 0 0] 38)).ownsRow B 38 3 (.slice pj L Cj) L ys := row_allocK (zqd HTD.out fun _ _ => rfl) _
       have hn4 := al_new (wr.drewN 1) (.cells #[.bool false, .int .i64 (-78), .slice none 0 0, .bool false, .int .i64 0, .slice none 0 0] 38)
       obtain ⟨g2, cap, w5, hrun, hown, hgrow, hat, hlt5⟩ := run_append_lies (P := Try.prog) ((wr.drewN 1).alloc (.cells #[.bool false, .int .i64 (-78), .slice none 0 0, .bool false, .int .i64 0, .slice none 0 0] 38)) 36 36 B 38 ti (.agg #[.bool false, .int .i64 0, .slice none 0 0]) 3 40 (by kernel_rfl) hti hz0 hz1 hz2 (by rfl) (by decide) (.slice pj L Cj) L ys hrow ⟨wr.heap.size, 0, none⟩ 2 2 [.bool false, .int .i64 (-78), .slice none 0 0, .bool false, .int .i64 0, .slice none 0 0] rfl (World.news_of_block hn4) (by simp [Value.oneCell']) (by decide) (by simp only [maxLen]; omega) (by omega) (by rw [zq6, drewN_size]; omega) _ rfl
       have hgr2 := hgrow
       rw [← HJ.out.1] at hgr2
       have hk5 : ∀ b, b < wr.heap.size → (Value.slice pj L Cj).ownBlock ≠ some b → w5.heap[b]? = wr.heap[b]? := fun b hlt hne => by
        rw [hgrow.block b (by rw [zq6]; exact Nat.lt_succ_of_lt hlt) (fun e => hne e.symm), zqa, if_neg (by show b ≠ wr.heap.size; omega)]; rfl
       have hgb : w5.heap[ga]? = some (.cells cga 36) := (hk5 ga hal HGA.out.2).trans HGA.out.1
       have hbb := hk5 baT hbl (own_ne HTD.out HR2.out.var (by decide))
       have rd : ∀ W, W = wr.drewN 1 ∨ W = (wr.drewN 1).alloc (.cells #[.bool false, .int .i64 (-78), .slice none 0 0, .bool false, .int .i64 0, .slice none 0 0] 38) ∨ W = w5 → W.cell? ⟨baT, 0, none⟩ = some (.slice (some ⟨ga, 0, none⟩) N ca1) ∧ W.cell? ⟨ga, j, none⟩ = some (.slice pj L Cj) := by
        rintro W (rfl | rfl | rfl)
        · exact ⟨A0.out, A1.out⟩
        · exact ⟨((Beyond.drew _ _).trans (Beyond.alloc _ _)).cell A0.out, ((Beyond.drew _ _).trans (Beyond.alloc _ _)).cell A1.out⟩
        · exact ⟨(zqf hbb).trans A0.out, (zqf (hk5 ga hal HGA.out.2)).trans A1.out⟩
       refine wp_region_two (k := 13) (s := 10) (t := 11) (W0 := wr.drewN 1) (W1 := (wr.drewN 1).alloc (.cells #[.bool false, .int .i64 (-78), .slice none 0 0, .bool false, .int .i64 0, .slice none 0 0] 38)) (W2 := w5) (by kernel_rfl) (by kernel_rfl) (by kernel_rfl) (by kernel_rfl) (by decide) (by decide) (by decide) (by kernel_rfl)
        [.pointer (some ⟨baT, 0, none⟩), .slice (some ⟨ga, 0, none⟩) N ca1, .int .i64 j, .pointer (some ⟨baT, 0, none⟩), .slice (some ⟨ga, 0, none⟩) N ca1, .int .i64 j, .pointer (some ⟨ga, j, none⟩), .slice pj L Cj, .agg #[.bool false, .int .i64 (-78), .slice none 0 0], .agg #[.bool false, .int .i64 0, .slice none 0 0], .slice (some ⟨wr.heap.size, 0, none⟩) 2 2, .slice (some ⟨g2, 0, none⟩) (L + 2) cap, .pointer (some ⟨ga, j, none⟩)] rfl rfl ?_ ?_ ?_ ?_
       · intro i o hi his hit ho W hWW
         obtain ⟨q0, q1⟩ := rd W hWW
         clear hWW rd hk5
         simp only [putv, dstOf, al_gl, al_g0, al_g1, al_ob, al_g2, List.set_cons_succ, List.set_cons_zero]
         obtain rfl | rfl | rfl | rfl | rfl | rfl | rfl | rfl | rfl | rfl | rfl : i = 0 ∨ i = 1 ∨ i = 2 ∨ i = 3 ∨ i = 4 ∨ i = 5 ∨ i = 6 ∨ i = 7 ∨ i = 8 ∨ i = 9 ∨ i = 12 := by omega
         all_goals (simp only [al_gl, al_g0, al_g1, al_oi] at ho; subst ho; refine .inl ?_)
         all_goals (simp only [execOp, Act.eval, al_gd, al_gl, al_g0, al_g1, al_od])
         all_goals (try go_simp)
       · intro o ho
         simp only [putv, dstOf, al_gl, al_g0, al_g1, al_ob, al_g2, List.set_cons_succ, List.set_cons_zero]
         simp only [al_gl, al_g0, al_g1, al_oi] at ho; subst ho; refine .inl ?_
         simp only [execOp, Act.eval, al_gd, al_gl, al_g0, al_g1, al_od]
         go_simp
       · intro o ho
         simp only [putv, dstOf, al_gl, al_g0, al_g1, al_ob, al_g2, List.set_cons_succ, List.set_cons_zero]
         simp only [al_gl, al_g0, al_g1, al_oi] at ho; subst ho; refine .inl ?_
         unfold execOp
         simp only [resolve, invoke, builtin, Sem.run_bind, Sem.run_pure, Result.andThen_ok, List.map_toArray, List.map_cons, List.map_nil, Act.eval, al_gd, al_gl, al_g0, al_g1, al_od, hrun]
         rfl
       simp only [putv, dstOf, al_gl, al_g0, al_g1, al_ob, al_g2, List.set_cons_succ, List.set_cons_zero]
       have hx5 : w5.cell? ⟨ga, j, none⟩ = some (.slice pj L Cj) := (rd w5 (.inr (.inr rfl))).2
       have hz5 := zqg (off := j) hgb
       have HN := Lib.hid fun u => HR2.out.next (ga := ga) (ca := ca1) (u := u) HS.out hlt (by rw [HGO.out.1]) hgr2
       clear hgr2 hgb hbb hown hgrow hat hlt5 hrow hn4 hti hz0 hz1 hz2 hrun rd hk5
       refine wpAny_one (i := 13) (by kernel_rfl) ?_
       simp only [wpOp, al_gl, al_g0, al_g1]
       rw [if_pos (by rfl)]
       refine .inl ?_
       go_simp
       refine wpAny_end (by kernel_rfl) ?_
       clear hx5 hz5
       go_wp2
       go_roundg (N - (j + 1))
       case measure => omega
       case rel => exact ⟨j + 1, rfl, by omega, rfl, HN.out _⟩
  · obtain rfl : N = j := by omega
    go_wp2_with (fail)
    go_loopg [13] lo (fun k i wr2 => ∃ kk : Nat, k = lo - kk ∧ kk ≤ lo ∧ i = .int .i64 kk ∧ KpI B M w0 wC baT (.slice pa1 N ca1) (.slice pa2 lo ca2) (.slice pa3 ls ca3) bst N tv ln lo ls N wr2)
    case atStart => exact ⟨0, rfl, Nat.zero_le _, rfl, HR.out⟩
    case round =>
     obtain ⟨kk, hk2, hkk, rfl, hR2⟩ := hrel
     have HR2 := Lib.hid hR2
     clear hR2 a0
     have a0 := (zq0 (off := 1) HR2.out.var).trans rfl
     by_cases hlt2 : kk < lo
     · have hlt2' : (kk : Int) < (lo : Int) := by omega
       have hkk0 : (0 : Int) ≤ kk := by omega
       obtain ⟨ys, htd⟩ := HR2.out.orow
       obtain ⟨g, hg, hgo2, hcl, hfz⟩ := row_one htd (by omega)
       subst hg
       obtain ⟨x0, d0⟩ := hcl kk (by omega)
       have z0 := hfz kk
       have HG := Lib.hid (And.intro htd hgo2)
       clear hcl hfz htd hgo2
       go_wp2
       go_roundg (lo - (kk + 1))
       case measure => omega
       case rel => exact ⟨kk + 1, rfl, by omega, rfl, HR2.out.setR HS.out HG.out.1 HG.out.2 (HS.out.hv _ HG.out.2) (.inl ⟨rfl, rfl⟩) _ _⟩
     · obtain rfl : lo = kk := by omega
       go_wp2_with (fail)
       go_loopg [14] ls (fun k i wr2 => ∃ kk : Nat, k = ls - kk ∧ kk ≤ ls ∧ i = .int .i64 kk ∧ KpI B M w0 wC baT (.slice pa1 N ca1) (.slice pa2 lo ca2) (.slice pa3 ls ca3) bst N tv ln lo ls N wr2)
       case atStart => exact ⟨0, rfl, Nat.zero_le _, rfl, HR2.out⟩
       case round =>
        obtain ⟨kk, hk3, hkk3, rfl, hR3⟩ := hrel
        have HR3 := Lib.hid hR3
        clear hR3 a0
        have a0 := (zq0 (off := 2) HR3.out.var).trans rfl
        by_cases hlt3 : kk < ls
        · have hlt3' : (kk : Int) < (ls : Int) := by omega
          have hkk0 : (0 : Int) ≤ kk := by omega
          obtain ⟨ys, htd⟩ := HR3.out.srow
          obtain ⟨g, hg, hgo2, hcl, hfz⟩ := row_one htd (by omega)
          subst hg
          obtain ⟨x0, d0⟩ := hcl kk (by omega)
          have z0 := hfz kk
          have HG := Lib.hid (And.intro htd hgo2)
          clear hcl hfz htd hgo2
          go_wp2
          go_roundg (ls - (kk + 1))
          case measure => omega
          case rel => exact ⟨kk + 1, rfl, by omega, rfl, HR3.out.setR HS.out HG.out.1 HG.out.2 (HS.out.hs _ HG.out.2) (.inr ⟨rfl, rfl⟩) _ _⟩
        · obtain rfl : ls = kk := by omega
          have hbB := (HR3.out.far bbT HT.out.2.1.1 (zq4 HT.out.2.1.2)).trans HT.out.2.1.2
          have hbC := (HR3.out.far bcT HT.out.2.2.1.1 (zq4 HT.out.2.2.1.2)).trans HT.out.2.2.1.2
          have b0 := (zq0 (off := 0) hbB).trans rfl
          have b1 := (zq0 (off := 1) hbB).trans rfl
          have b2 := (zq0 (off := 2) hbB).trans rfl
          have b3 := (zq0 (off := 3) hbB).trans rfl
          have d0 := (zq0 (off := 0) hbC).trans rfl
          have d1 := (zq0 (off := 1) hbC).trans rfl
          have d2 := (zq0 (off := 2) hbC).trans rfl
          have d3 := (zq0 (off := 3) hbC).trans rfl
          clear hbB hbC
          go_wp2_with (fail)
          obtain ⟨hTb, hTc⟩ := HT.out.1 _ HR3.out.far
          refine Calls.mono (trace_same (by omega) HT.out.2.2.2.1 HT.out.2.2.2.2.1 HT.out.2.2.2.2.2.1 hTb hTc) ?_
          rintro e w9 ⟨rfl, hb9⟩
          have HB9 := Lib.hid hb9
          clear hb9 hTb hTc
          go_wp2
          go_ret
          refine ⟨_, rfl, HE.out _ (Beyond.trans ⟨?_, HR3.out.old⟩ HB9.out)⟩
          have h1 := HS.out.bound
          have h2 := HR3.out.size
          omega
set_option maxHeartbeats 4000000
set_option maxRecDepth 100000
theorem turnkeeps_run {Post : Value → World → Prop} (hPost : ∀ v w τ d, Post v w → Post v (re w τ d)) {W : World} {wp pp sp : Option Addr} {C Cp Cs n : Nat} {ws l : List Int} {prog : Nat → List Cd}
 (hn : n ≤ 1099511627776) (hW : ws.length ≤ 1099511627776) (hl : l.length ≤ 1099511627776) (hlen : ∀ i, i < n → (prog i).length ≤ 1099511627776) (hw : IntsAt W (.slice wp ws.length C) ws) (hs : IntsAt W (.slice sp l.length Cs) l) (hp : RefProgs W pp n prog)
 (hend : ∀ w', Beyond W w' → Post (.bool true) w') : FinOf Try.prog Post (solo (G (Frame.enter Try.prog 4 #[.slice wp ws.length C, .slice pp n Cp, .slice sp l.length Cs] .normal) []) W) #[] := by
 refine j0_run Try.func4 rfl ?_
 have hFin := back_fin (P := Try.prog) Post
 have hJ := j0_JS hFin
 have hC := j0_calm hFin
 have e : Frame.enter Try.prog 4 #[.slice wp ws.length C, .slice pp n Cp, .slice sp l.length Cs] .normal = (bN 4).at (enterAct Try.f4 #[.slice wp ws.length C, .slice pp n Cp, .slice sp l.length Cs]) [.code ((Try.f4.body).getD .skip)] := by kernel_rfl
 have ea : enterAct Try.f4 #[.slice wp ws.length C, .slice pp n Cp, .slice sp l.length Cs] = ⟨#[.slice wp ws.length C, .slice pp n Cp, .slice sp l.length Cs, undef, undef, undef, undef, undef, undef, undef, undef, undef, undef, undef, undef, undef, undef, undef, undef, undef, undef, undef, undef, undef, undef, undef, undef, undef, undef, undef, undef, undef, undef, undef, undef, undef, undef, undef, undef, undef, undef, undef, undef, undef, undef, undef, undef, undef, undef, undef, undef, undef, undef, undef, undef, undef, undef, undef, undef, undef, undef, undef, undef, undef, undef, undef, undef, undef, undef, undef, undef, undef, undef, undef, undef, undef, undef, undef, undef, undef, undef, undef, undef, undef, undef, undef, undef, undef, undef, undef, undef, undef, undef, undef], []⟩ := by kernel_rfl
 rw [e, ea, tk0]
 clear e ea
 have HE := Lib.hid hend
 have HI := Lib.hid (And.intro hw (And.intro hs (And.intro hp hlen)))
 clear hend hw hs hp hlen
 refine hJ.ctl (s := 1) (fun w => stepG_seq) ?_
 refine at_lone hJ hC plainM (by kernel_rfl) (fun t w' => t = #[.slice wp ws.length C, .slice pp n Cp, .slice sp l.length Cs, undef, undef, undef, .bool false, undef, undef, undef, undef, undef, undef, undef, undef, undef, undef, undef, undef, undef, undef, undef, undef, undef, undef, undef, undef, undef, undef, undef, undef, undef, undef, undef, undef, undef, undef, undef, undef, undef, undef, undef, undef, undef, undef, undef, undef, undef, undef, undef, undef, undef, undef, undef, undef, undef, undef, undef, undef, undef, undef, undef, undef, undef, undef, undef, undef, undef, undef, undef, undef, undef, undef, undef, undef, undef, undef, undef, undef, undef, undef, undef, undef, undef, undef, undef, undef, undef, undef, undef, undef, undef, undef, undef] ∧ ∃ τ d, w' = re W τ d) (fun t w' τ d h => ⟨h.1, by obtain ⟨τ', d', rfl⟩ := h.2; exact ⟨τ, d, by rw [re_re]⟩⟩) (by decide) (fun τ d => ?_) ?_
 · obtain ⟨u0, hu0⟩ : ∃ c, headC (tkT 0) = c := ⟨_, rfl⟩
   have eu0 := hu0
   rw [hu0]
   simp only [tkT, headC, tailN, Try.f4, al_od] at eu0
   subst eu0
   clear hu0
   go_wp2
   exact ⟨rfl, rfl, τ, d, rfl⟩
 rintro t w' ⟨rfl, τ, d, rfl⟩
 refine hJ.re' 1 _ _ τ d ?_
 refine hJ.ctl (s := 1) (fun w => stepG_seq) ?_
 obtain ⟨u1, hu1⟩ : ∃ c, headC (tkT 1) = c := ⟨_, rfl⟩
 have eu1 := hu1
 rw [hu1]
 simp only [tkT, headC, tailN, Try.f4, al_od] at eu1
 subst eu1
 clear hu1
 refine hJ.ctl (s := 1) (fun w => stepG_seq) ?_
 refine hJ.ctl (s := 1) (fun w => stepG_region) ?_
 refine at_call (by decide) hJ (s := 1) rfl rfl (f := 8) (args := #[]) (fun τ d => ?_) (fun τ d => ?_) ?_
 · simp [go_sem, execOp, Act.eval, resolve, Deferred.ofValue, invoke, callFunc, Try.func8, Try.f8]
 · intro e he
   simp [go_sem, execOp, Act.eval, resolve, Deferred.ofValue, invoke, callFunc, Try.func8, Try.f8, Sem.runT_eq] at he
 refine awake_calls hFin (n := 1) (by omega) ?_
 intro w1 hB1
 rw [Frame.finish_at]
 walk_nrm
 refine at_piece (s := 1 + 6) (by decide) hJ (rows0_none _) false (.inr rfl) 1 1 0 rfl rfl rfl (by rfl) ?_
 intro τ d
 simp only [List.drop_succ_cons, List.drop_zero, List.take_succ_cons, List.take_zero]
 go_wp2
 simp only [contAt]
 refine hJ.re' (1 + 6) _ _ τ d ?_
 refine hJ.ctl (s := 1 + 6) (fun w => stepG_region_end) ?_
 refine at_lone hJ hC plainM (by kernel_rfl) (fun t w' => t = #[.slice wp ws.length C, .slice pp n Cp, .slice sp l.length Cs, undef, undef, undef, .bool false, undef, undef, undef, undef, undef, undef, undef, undef, .bool true, .bool false, undef, undef, undef, undef, undef, undef, undef, undef, undef, undef, undef, undef, undef, undef, undef, undef, undef, undef, undef, undef, undef, undef, undef, undef, undef, undef, undef, undef, undef, undef, undef, undef, undef, undef, undef, undef, undef, undef, undef, undef, undef, undef, undef, undef, undef, undef, undef, undef, undef, undef, undef, undef, undef, undef, undef, undef, undef, undef, undef, undef, undef, undef, undef, undef, undef, undef, undef, undef, undef, undef, undef, undef, undef, undef, undef, undef, undef] ∧ ∃ τ d, w' = re w1 τ d) (fun t w' τ d h => ⟨h.1, by obtain ⟨τ', d', rfl⟩ := h.2; exact ⟨τ, d, by rw [re_re]⟩⟩) (by decide) (fun τ d => ?_) ?_
 · go_wp2
   exact ⟨rfl, rfl, τ, d, rfl⟩
 rintro t w' ⟨rfl, τ, d, rfl⟩
 refine hJ.re' (1 + 6) _ _ τ d ?_
 refine hJ.ctl (s := 1 + 6) (fun w => stepG_seq) ?_
 refine at_lone hJ hC plainM (by kernel_rfl) (TkI w1 n prog fun op Co => #[.slice wp ws.length C, .slice pp n Cp, .slice sp l.length Cs, undef, undef, undef, .bool false, .slice op n Co, undef, undef, undef, undef, undef, undef, undef, .bool true, .bool false, .slice pp n Cp, .slice op n Co, undef, undef, undef, undef, undef, undef, undef, undef, undef, undef, undef, undef, undef, undef, undef, undef, undef, undef, undef, undef, undef, undef, undef, undef, undef, undef, undef, undef, undef, undef, undef, undef, undef, undef, undef, undef, undef, undef, undef, undef, undef, undef, undef, undef, undef, undef, undef, undef, undef, undef, undef, undef, undef, undef, undef, undef, undef, undef, undef, undef, undef, undef, undef, undef, undef, undef, undef, undef, undef, undef, undef, undef, undef, undef, undef]) (fun t w' τ d h => ?_) (by decide) (fun τ d => ?_) ?_
 · obtain ⟨op, Co, pvs, h1, h2⟩ := h
   exact ⟨op, Co, pvs, h1, h2.size, h2.old, h2.orow, h2.prow⟩
 · obtain ⟨u2, hu2⟩ : ∃ c, headC (tkT 2) = c := ⟨_, rfl⟩
   have eu2 := hu2
   rw [hu2]
   simp only [tkT, headC, tailN, Try.f4, al_od] at eu2
   subst eu2
   clear hu2
   go_wp2_with (fail)
   refine Calls.mono (codes_lone (re w1 τ d) hn HI.out.2.2.2 (HI.out.2.2.1.beyond hB1)) ?_
   rintro e w' ⟨o, pvs, rfl, h⟩
   obtain ⟨op, Co, rfl, _, _⟩ := row_form h.orow
   have HO := Lib.hid h
   clear h
   go_wp2
   exact ⟨rfl, op, Co, pvs, rfl, HO.out.size, HO.out.old, HO.out.orow, HO.out.prow⟩
 rintro t w2 ⟨op, Co, pvs, rfl, hO⟩
 have HB := Lib.hid (And.intro hB1 (And.intro (show Beyond w1 w2 from ⟨hO.size, hO.old⟩) hO))
 clear hB1 hO
 refine hJ.ctl (s := 1 + 6) (fun w => stepG_seq) ?_
 obtain ⟨ua, hua⟩ : ∃ c, headC (tkT 3) = c := ⟨_, rfl⟩
 have eua := hua
 rw [hua]
 simp only [tkT, headC, tailN, Try.f4, al_od] at eua
 subst eua
 clear hua
 refine hJ.ctl (s := 1 + 6) (fun w => stepG_region) ?_
 refine at_piece (s := 1 + 6) (by decide) hJ (rows0_none _) true (.inl rfl) 0 3 3 rfl rfl rfl (by rfl) ?_
 intro τ d
 simp only [List.drop_zero, List.take_succ_cons, List.take_zero]
 go_wp2
 simp only [contAt]
 refine hJ.re' (1 + 6) _ _ τ d ?_
 refine at_call (by decide) hJ (s := 1 + 6) rfl rfl (f := 9) (args := #[.slice wp ws.length C, .slice op n Co, .slice sp l.length Cs, .int .i64 2000]) (fun τ d => ?_) (fun τ d => ?_) ?_
 · simp [go_sem, execOp, Act.eval, resolve, Deferred.ofValue, invoke, callFunc, Try.func9, Try.f9]
 · intro e he
   simp [go_sem, execOp, Act.eval, resolve, Deferred.ofValue, invoke, callFunc, Try.func9, Try.f9, Sem.runT_eq] at he
 refine play_calls hFin (n := 1 + 6) (by omega) (W := ws.length) (C := C) (np := n) (Cp := Co) (Cs := Cs) (ws := ws) (sched := l) (prog := prog) (PB := fun b => w1.heap.size ≤ b ∧ b < w2.heap.size) (mo := 2000) (N := min n 64) rfl hW (by omega) (by omega) (keep_words (HI.out.1.beyond (HB.out.1.trans HB.out.2.1))) rfl (HB.out.2.2.progs (min n 64) (Nat.min_le_left _ _)) (keep_sched HI.out.2.1 HB.out.1 HB.out.2.1) ?_
 rw [show min (2000 : Int).toNat 1048576 = 2000 from by decide]
 intro ansa va sta tva wa hRa
 obtain ⟨pa1, ca1, rfl, _, _⟩ := row_form hRa.arow
 obtain ⟨pa2, ca2, rfl, _, _⟩ := row_form hRa.orow
 obtain ⟨pa3, ca3, rfl, _, _⟩ := row_form hRa.srow
 obtain ⟨bst, hbst⟩ : ∃ b, decide (0 < leftN (playP prog (min n 64) 2000 l ⟨ws, fun _ => mch0⟩).ov (min n 64)) = b := ⟨_, rfl⟩
 obtain ⟨olen, holen⟩ : ∃ b, (playP prog (min n 64) 2000 l ⟨ws, fun _ => mch0⟩).ord.length = b := ⟨_, rfl⟩
 rw [hbst, holen]
 rw [Frame.finish_at]
 walk_nrm
 have HRa := Lib.hid hRa
 clear hRa
 refine at_piece (s := 1 + 6 + min n 64) (by decide) hJ (rows0_none _) false (.inr rfl) 4 2 0 rfl rfl rfl (by rfl) ?_
 intro τ d
 simp only [List.drop_succ_cons, List.drop_zero, List.take_succ_cons, List.take_zero]
 generalize hvr : re wa τ d = vr
 go_wp2
 simp only [contAt]
 subst hvr
 simp only [re_alloc, re_size]
 refine hJ.re' (1 + 6 + min n 64) _ _ τ d ?_
 obtain ⟨wa', hwa'⟩ : ∃ x, wa.alloc (.cells #[.slice pa1 (min n 64) ca1, .slice pa2 olen ca2, .slice pa3 ws.length ca3, .bool bst] 28) = x := ⟨_, rfl⟩
 have hba' : Beyond wa wa' := by rw [← hwa']; exact Beyond.alloc _ _
 have hza' : wa'.heap.size = wa.heap.size + 1 := by rw [← hwa', zq6]
 have hTa : wa'.heap[wa.heap.size]? = some (.cells #[.slice pa1 (min n 64) ca1, .slice pa2 olen ca2, .slice pa3 ws.length ca3, .bool bst] 28) := by rw [← hwa']; exact al_new _ _
 rw [hwa']
 clear hwa'
 obtain ⟨baT, hbaT⟩ : ∃ x, wa.heap.size = x := ⟨_, rfl⟩
 rw [hbaT] at hTa hza' ⊢
 have HXa := Lib.hid (And.intro hba' (And.intro hza' (And.intro hTa hbaT)))
 clear hba' hza' hTa hbaT
 refine hJ.ctl (s := 1 + 6 + min n 64) (fun w => stepG_region_end) ?_
 refine hJ.ctl (s := 1 + 6 + min n 64) (fun w => stepG_seq) ?_
 obtain ⟨ub, hub⟩ : ∃ c, headC (tkT 4) = c := ⟨_, rfl⟩
 have eub := hub
 rw [hub]
 simp only [tkT, headC, tailN, Try.f4, al_od] at eub
 subst eub
 clear hub
 refine hJ.ctl (s := 1 + 6 + min n 64) (fun w => stepG_region) ?_
 refine at_piece (s := 1 + 6 + min n 64) (by decide) hJ (rows0_none _) true (.inl rfl) 0 3 3 rfl rfl rfl (by rfl) ?_
 intro τ d
 simp only [List.drop_zero, List.take_succ_cons, List.take_zero]
 go_wp2
 simp only [contAt]
 refine hJ.re' (1 + 6 + min n 64) _ _ τ d ?_
 refine at_call (by decide) hJ (s := 1 + 6 + min n 64) rfl rfl (f := 9) (args := #[.slice wp ws.length C, .slice op n Co, .slice sp l.length Cs, .int .i64 2000]) (fun τ d => ?_) (fun τ d => ?_) ?_
 · simp [go_sem, execOp, Act.eval, resolve, Deferred.ofValue, invoke, callFunc, Try.func9, Try.f9]
 · intro e he
   simp [go_sem, execOp, Act.eval, resolve, Deferred.ofValue, invoke, callFunc, Try.func9, Try.f9, Sem.runT_eq] at he
 refine play_calls hFin (n := 1 + 6 + min n 64) (by omega) (W := ws.length) (C := C) (np := n) (Cp := Co) (Cs := Cs) (ws := ws) (sched := l) (prog := prog) (PB := fun b => w1.heap.size ≤ b ∧ b < w2.heap.size) (mo := 2000) (N := min n 64) rfl hW (by omega) (by omega) (keep_words (HI.out.1.beyond (HB.out.1.trans (HB.out.2.1.trans (HRa.out.beyond.trans HXa.out.1))))) rfl ((HB.out.2.2.progs (min n 64) (Nat.min_le_left _ _)).ext (HRa.out.beyond.trans HXa.out.1).1 (HRa.out.beyond.trans HXa.out.1).2) (keep_sched HI.out.2.1 HB.out.1 (HB.out.2.1.trans (HRa.out.beyond.trans HXa.out.1))) ?_
 rw [show min (2000 : Int).toNat 1048576 = 2000 from by decide]
 intro ansb vb stb tvb wb hRb
 obtain ⟨pb1, cb1, rfl, _, _⟩ := row_form hRb.arow
 obtain ⟨pb2, cb2, rfl, _, _⟩ := row_form hRb.orow
 obtain ⟨pb3, cb3, rfl, _, _⟩ := row_form hRb.srow
 rw [hbst, holen]
 rw [Frame.finish_at]
 walk_nrm
 have HRb := Lib.hid hRb
 clear hRb
 refine at_piece (s := 1 + 6 + min n 64 + min n 64) (by decide) hJ (rows0_none _) false (.inr rfl) 4 2 0 rfl rfl rfl (by rfl) ?_
 intro τ d
 simp only [List.drop_succ_cons, List.drop_zero, List.take_succ_cons, List.take_zero]
 generalize hvr : re wb τ d = vr
 go_wp2
 simp only [contAt]
 subst hvr
 simp only [re_alloc, re_size]
 refine hJ.re' (1 + 6 + min n 64 + min n 64) _ _ τ d ?_
 obtain ⟨wb', hwb'⟩ : ∃ x, wb.alloc (.cells #[.slice pb1 (min n 64) cb1, .slice pb2 olen cb2, .slice pb3 ws.length cb3, .bool bst] 28) = x := ⟨_, rfl⟩
 have hbb' : Beyond wb wb' := by rw [← hwb']; exact Beyond.alloc _ _
 have hzb' : wb'.heap.size = wb.heap.size + 1 := by rw [← hwb', zq6]
 have hTb : wb'.heap[wb.heap.size]? = some (.cells #[.slice pb1 (min n 64) cb1, .slice pb2 olen cb2, .slice pb3 ws.length cb3, .bool bst] 28) := by rw [← hwb']; exact al_new _ _
 rw [hwb']
 clear hwb'
 obtain ⟨bbT, hbbT⟩ : ∃ x, wb.heap.size = x := ⟨_, rfl⟩
 rw [hbbT] at hTb hzb' ⊢
 have HXb := Lib.hid (And.intro hbb' (And.intro hzb' (And.intro hTb hbbT)))
 clear hbb' hzb' hTb hbbT
 refine hJ.ctl (s := 1 + 6 + min n 64 + min n 64) (fun w => stepG_region_end) ?_
 have hb2 : Beyond w2 wb' := ((HRa.out.beyond.trans HXa.out.1).trans HRb.out.beyond).trans HXb.out.1
 have hbW : Beyond W wb' := (HB.out.1.trans HB.out.2.1).trans hb2
 refine hJ.ctl (s := 1 + 6 + min n 64 + min n 64) (fun w => stepG_seq) ?_
 refine at_lone hJ hC plainM (by kernel_rfl) (TkW wb' prog n l ws olen ws.length bst fun bcT p1 c1 p2 c2 p3 c3 => #[.slice wp ws.length C, .slice pp n Cp, .slice sp l.length Cs, undef, undef, undef, .bool false, .slice op n Co, .pointer (some ⟨baT, 0, none⟩), .pointer (some ⟨bbT, 0, none⟩), .pointer (some ⟨bcT, 0, none⟩), undef, undef, undef, undef, .bool true, .bool false, .slice pp n Cp, .slice op n Co, .slice wp ws.length C, .slice op n Co, .slice sp l.length Cs, .agg #[.slice pa1 (min n 64) ca1, .slice pa2 olen ca2, .slice pa3 ws.length ca3, .bool bst], .slice wp ws.length C, .slice op n Co, .slice sp l.length Cs, .agg #[.slice pb1 (min n 64) cb1, .slice pb2 olen cb2, .slice pb3 ws.length cb3, .bool bst], .slice wp ws.length C, .slice pp n Cp, .slice sp l.length Cs, .agg #[.slice p1 (min n 64) c1, .slice p2 olen c2, .slice p3 ws.length c3, .bool bst], undef, undef, undef, undef, undef, undef, undef, undef, undef, undef, undef, undef, undef, undef, undef, undef, undef, undef, undef, undef, undef, undef, undef, undef, undef, undef, undef, undef, undef, undef, undef, undef, undef, undef, undef, undef, undef, undef, undef, undef, undef, undef, undef, undef, undef, undef, undef, undef, undef, undef, undef, undef, undef, undef, undef, undef, undef, undef, undef, undef, undef, undef, undef]) (fun t w' τ d h => ?_) (by decide) (fun τ d => ?_) ?_
 · obtain ⟨wc, p1, p2, p3, c1, c2, c3, h1, h2, h3, h4, h5⟩ := h
   exact ⟨wc, p1, p2, p3, c1, c2, c3, h1, h2, ⟨h3.1, h3.2⟩, h4, h5⟩
 · obtain ⟨u5, hu5⟩ : ∃ c, headC (tkT 5) = c := ⟨_, rfl⟩
   have eu5 := hu5
   rw [hu5]
   simp only [tkT, headC, tailN, Try.f4, al_od] at eu5
   subst eu5
   clear hu5
   have HbW := Lib.hid hbW
   clear hbW hb2
   go_wp2_with (fail)
   refine Calls.mono (rplay_lone (w := re wb' τ d) (N := min n 64) (mo := 2000) rfl hn hW hl HI.out.2.2.2 (HI.out.1.beyond HbW.out) (HI.out.2.1.beyond HbW.out) (HI.out.2.2.1.beyond HbW.out)) ?_
   rintro e wc ⟨vc, rfl, hbc, hTc, ho, ht, hws⟩
   have hol : (refP prog (min n 64) 2000 l ws).ord.length = olen := holen
   have hst : decide (0 < leftN (refP prog (min n 64) 2000 l ws).ov (min n 64)) = bst := hbst
   rw [hst] at hTc
   obtain ⟨p1, c1, ov, svv, rfl, h2, h3, _⟩ := hTc.at'
   obtain ⟨p2, c2, rfl, _⟩ := h2
   obtain ⟨p3, c3, rfl, _⟩ := h3
   rw [List.length_map, hol, hws] at hTc ⊢
   have HT := Lib.hid (And.intro hTc (And.intro hbc (And.intro ho (And.intro ht hws))))
   clear hTc hbc ho ht hws hol hst
   go_wp2
   refine ⟨rfl, wc, p1, p2, p3, c1, c2, c3, rfl, ⟨HT.out.2.1.1, HT.out.2.1.2⟩, Beyond.alloc _ _, al_new _ _, by rw [zq6], ?_⟩
   exact ⟨HT.out.1, HT.out.2.2⟩
 rintro t wC ⟨wc, p1, p2, p3, c1, c2, c3, rfl, hbc, hbC, hTC, hzC, hTF, ho, htl, hwl⟩
 refine at_rest_end (P := Try.prog) hPost plainM (by kernel_rfl) rfl (by kernel_rfl) Try.func4 (fun τ d => ?_)
 obtain ⟨hXa1, hXa2, hXa3, hXa4⟩ := HXa.out
 obtain ⟨hXb1, hXb2, hXb3, hXb4⟩ := HXb.out
 have hRa := HRa.out
 have hRb := HRb.out
 have hTb := hRb.trace
 rw [hbst] at hTb
 rw [holen] at hRa hRb hTb
 have ba := hRa.beyond
 have bb := hRb.beyond
 have bWC : Beyond W wC := (hbW.trans hbc).trans hbC
 have bw2 : Beyond W w2 := HB.out.1.trans HB.out.2.1
 have bac : Beyond wa' wC := ((bb.trans hXb1).trans hbc).trans hbC
 have bbc : Beyond wb wC := (hXb1.trans hbc).trans hbC
 have z1 := bw2.1
 have z2 := ba.1
 have z3 := bb.1
 have z4 := hbc.1
 have z5 := bac.1
 have kr : ∀ {T : TypeId} {k m : Nat} {u : Value} {xs : List Value}, wa.ownsRow w2.heap.size T k u m xs → wC.ownsRow w2.heap.size T k u m xs := fun hr => zqd hr fun g hg => (hXa1.trans bac).2 g (own_lt hr hg).2.2
 have htold := fun i hi => hRa.told i hi
 refine keep_rest (B := w2.heap.size) (M := wa'.heap.size) (w0 := W) (wC := wC) (tv := tva) (ln := fun i => ((playP prog (min n 64) 2000 l ⟨ws, fun _ => mch0⟩).mem.th i).told.length) (tolds := fun i => ((playP prog (min n 64) 2000 l ⟨ws, fun _ => mch0⟩).mem.th i).told) (ord := (playP prog (min n 64) 2000 l ⟨ws, fun _ => mch0⟩).ord.map fun (i : Nat) => (i : Int)) (st := (playP prog (min n 64) 2000 l ⟨ws, fun _ => mch0⟩).mem.ws)
  ⟨⟨z1, by omega, z5, by omega, by omega⟩, fun g hg => by have := (own_lt hRa.arow hg).2.2; omega, fun g hg => by have := (own_lt hRa.orow hg).2.2; omega, fun g hg => by have := (own_lt hRa.srow hg).2.2; omega, fun j g hj hg => by have := (own_lt (hRa.told j hj) hg).2.2; omega, fun j k g hj hk hne hg => hRa.sep j k g hj hk hne hg⟩
  ⟨Nat.le_refl _, fun _ _ _ => rfl, fun b hlt => bWC.2 b hlt, bac.heap hXa3, ⟨_, kr hRa.arow, fun j _ hj => by simp [hj]⟩, fun j _ hj => ⟨_, kr (hRa.told j hj)⟩, (by have h := kr hRa.orow; rw [holen] at h; exact ⟨_, h⟩), ⟨_, kr hRa.srow⟩⟩
  (by omega) (by have h1 : (playP prog (min n 64) 2000 l ⟨ws, fun _ => mch0⟩).ord.length ≤ 1048576 := ho; omega) hW (fun i hi => htl i hi) ⟨by omega, (hbc.trans hbC).heap hXb3⟩ ⟨by omega, hTC⟩ (fun w'' hw => ⟨?_, ?_⟩) (by rw [List.length_map]; have h1 : (playP prog (min n 64) 2000 l ⟨ws, fun _ => mch0⟩).ord.length ≤ 1048576 := ho; omega) (by have h1 : (playP prog (min n 64) 2000 l ⟨ws, fun _ => mch0⟩).mem.ws.length = ws.length := hwl; omega) (fun i hi => by have h1 : ((playP prog (min n 64) 2000 l ⟨ws, fun _ => mch0⟩).mem.th i).told.length ≤ 4294971392 := htl i hi; omega) (fun w' h => HE.out w' h)
 · exact hTb w'' fun b h1 h2 => (hw b h1 (by have := bbc.1; omega)).trans (bbc.2 b h2)
 · exact hTF w'' fun b h1 h2 => (hw b (by omega) (by have := hbC.1; omega)).trans (hbC.2 b h2)
end Go.Proofs
set_option maxHeartbeats 4000000
set_option maxRecDepth 100000
namespace Go.Proofs.Ytdncabjenacolaa
open Go Go.Conc Go.RowKit Go.Car Go.ChangeShapes Go.WideShapes Go.ChangeAt
theorem turnKeeps_lifted (os : Os) (started : os.Started) (H : Type) (enc : TypeId × Value → H) (F : Stop.Interp) :
 ReturnsInLeavingWide {} Try.checked os 4 .any ((Rows.OpenSpec.upto Rows.turnKeepsSpec).pre6 enc Try.prog Try.f4 Rows.turnKeepsUptoRow.domain false) (((Rows.OpenSpec.upto Rows.turnKeepsSpec).at F).post enc Try.prog Try.f4 false true false false) := by
 refine leaving_of_cond (C := Try.checked) (s := Rows.OpenSpec.upto Rows.turnKeepsSpec) (k := Rows.uptoSmall) rfl own_knob started Try.func4
  (OpenSpec.witness (enc := enc) (C := Try.checked) (s := Rows.OpenSpec.upto Rows.turnKeepsSpec) (k := Rows.uptoSmall) rfl false ⟨#[], #[.slice none 0 0, .slice none 0 0, .slice none 0 0], []⟩ 8 (by kernel_rfl) (by kernel_rfl) (by kernel_rfl)
   (x := ([.nil, .nil, .nil], [], [])) (by kernel_rfl) rfl (by kernel_rfl)) ?_
 intro W base args ds gs before hval0 hW hk
 have hval : ∀ (j : Nat) t v, Try.f4.params[j]? = some t → args[j]? = some v → Value.okWide Try.prog W .any base t v := hval0
 have hW' := hW
 obtain ⟨p, q, hA0, hV, rfl, _, _⟩ := hW
 have hA : DataW.TrodAll enc Try.prog W 0 (fun _ => true) true Try.f4.params.toList args.toList ds p := hA0
 rw [Try.params4] at hA hval
 obtain ⟨v0, v1, v2, d0, d1, d2, p0, p1, p2, rfl, rfl, rfl, h0, h1, h2⟩ := trodAll_three hA
 obtain ⟨rfl, rfl⟩ := trodVars_none hV
 clear hA0 hval0
 simp only [List.append_nil] at hW' hk
 have hlt : ∀ x ∈ p0 ++ p1 ++ p2, x.block < W.heap.size := fun x hx => by simpa using hW'.lt x hx
 obtain ⟨wp, C, ws, rfl, i0, b0⟩ := ints_arg (e := 2) (by kernel_rfl) (by kernel_rfl) (by kernel_rfl) (hval 0 _ v0 rfl rfl) h0 (bulk_small hk (by simp))
 obtain ⟨pp, n, Cp, prog, rfl, i1, b1, b1'⟩ := progs_arg (hval 1 _ v1 rfl rfl) h1 (bulk_small hk (by simp))
 obtain ⟨sp, Cs, l, rfl, i2, b2⟩ := ints_arg (e := 3) (by kernel_rfl) (by kernel_rfl) (by kernel_rfl) (hval 2 _ v2 rfl rfl) h2 (bulk_small hk (by simp))
 obtain ⟨M, last, o, w', t', r1, r2, r3, r4⟩ := turnkeeps_run (Post := fun v w' => v = .bool true ∧ Beyond W w') (fun v w τ d h => ⟨h.1, h.2.1, h.2.2⟩) (by omega) (by omega) (by omega) (fun i hi => by have := b1' i hi; omega) i0 i2 i1 (fun w' h => ⟨rfl, h⟩)
 refine ⟨M, last, o, w', t', r1, r2, r3, r4.mono fun v hF => ?_⟩
 obtain ⟨⟨rfl, hb⟩, ho, hu⟩ := hF
 have same : ∀ {t : TypeId} (hr : Try.prog.readableRec t = true) (hrow : t < Try.prog.types.size) {v : Value} {d : DataW H} {ps : List MemPlace} (h : DataW.Trod enc Try.prog W 0 (fun _ => true) true t v d ps) (hlt : ∀ x ∈ ps, x.block < W.heap.size), DataW.Trod enc Try.prog w' 0 (fun b => decide (b < W.heap.size)) true t v d ps := fun hr hrow _ _ _ h hlt => reads_same hr hrow h hb hlt
 refine ⟨_, _, _, [], p0 ++ (p1 ++ p2), [], hW', trodAll_mk1 (shut_bool Try.underlying4 true), ?_, rfl, kept_same hb ho hu _, fun h => by cases h⟩
 exact trodAll_mk3 (same (by kernel_rfl) (of_decide_eq_true (by kernel_rfl)) h0 fun x hx => hlt x (by simp [hx])) (same (by kernel_rfl) (of_decide_eq_true (by kernel_rfl)) h1 fun x hx => hlt x (by simp [hx])) (same (by kernel_rfl) (of_decide_eq_true (by kernel_rfl)) h2 fun x hx => hlt x (by simp [hx]))
theorem turnKeeps_upto : Rows.TurnKeepsUptoSaid :=
 holds_leaving_cond 4 Try.f4 rfl rfl rfl rfl rfl rfl rfl ⟨rfl, rfl, rfl, rfl, rfl⟩ rfl rfl rfl rfl rfl (by kernel_rfl) Try.func4 (by kernel_rfl)
  (of_decide_eq_true (by kernel_rfl)) (by unfold Func.isWrapper; first | (rw [if_pos (by decide +kernel)]; kernel_rfl) | (rw [if_neg (by decide +kernel)]; exact ⟨rfl, rfl⟩))
  (fun os started H enc _ F => turnKeeps_lifted os started H enc F)
end Go.Proofs.Ytdncabjenacolaa
