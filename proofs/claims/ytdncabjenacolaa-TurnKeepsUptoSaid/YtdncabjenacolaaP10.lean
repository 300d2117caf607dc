/- YtdncabjenacolaaTKeep4: part 10 of the proof (the texts behind it, in order). -/
import Derived.Test.YtdncabjenacolaaP09
set_option linter.unusedSimpArgs false
set_option linter.unusedVariables false
set_option linter.unusedSectionVars false
set_option linter.unnecessarySimpa false
set_option maxHeartbeats 1000000
namespace Go.Car
open Go Go.Conc Go.RowKit
section
variable {P : Program} {main : Bool} {Kc : Addr → Option Value} {γ : Type} {J : γ → Goroutine → World → Prop}
theorem putG_putv (ops : Array Oper) : ∀ (vs : List (Option Value)) (p : Nat) (T : Array Value), putG ops vs p T = putv ops (vs.map fun v => v.getD undef) p T
 | [], _, _ => rfl
 | v :: vs, p, T => by
  simp only [putG, List.map_cons, putv]
  exact putG_putv ops vs (p + 1) _
theorem evalsG_at {ops : Array Oper} {w : World} : ∀ (vs : List (Option Value)) (p : Nat) (T : Array Value) (j : Nat) (u : Option Value) (o : Oper), evalsG P ops w vs p T → vs[j]? = some u → ops[p + j]? = some o →
 (u = none ∧ Region.wanted o (yielded ops (putG ops (vs.take j) p T)) = false) ∨ ∃ v, u = some v ∧ Region.wanted o (yielded ops (putG ops (vs.take j) p T)) = true ∧ (execOp (Act.mk (putG ops (vs.take j) p T) []).eval o).run P w = .ok (.value v) w := by
 intro vs
 induction vs with
 | nil => intro p T j u o _ hj _; cases hj
 | cons v vs ih =>
  intro p T j u o hev hj ho
  cases j with
  | zero =>
   simp only [al_g0, al_oi] at hj
   subst hj
   cases v with
   | none => exact .inl ⟨rfl, hev.1 o ho⟩
   | some v => exact .inr ⟨v, rfl, hev.1 o ho⟩
  | succ j =>
   have hj' : vs[j]? = some u := by simpa using hj
   have ho' : ops[p + 1 + j]? = some o := by rw [show p + 1 + j = p + (j + 1) by omega]; exact ho
   rw [List.take_succ_cons]
   cases v with
   | none => exact ih (p + 1) _ j u o hev.2 hj' ho'
   | some v => exact ih (p + 1) _ j u o hev.2 hj' ho'
theorem at_evalGd (hJ : JS P main Kc J) {b : Frame} {k : List Item} {cs : List Frame} (hb : b.kind ≠ .early) (hm : P.follows .mixedOrders = true) {id : Nat} {ops : Array Oper} {a : Act} {s : γ} {w : World} (vs : List (Option Value)) (hlen : vs.length = ops.size)
 (hok : idleGOk P ops a.tmps.size [] = true) (hv : ∀ τ d, evalsG P ops (re w τ d) vs 0 a.tmps) (h : J s (G (b.at ⟨putG ops vs 0 a.tmps, a.defers⟩ (.inRegion ops [] :: k)) cs) w) : J s (G (b.at a (.code (.region id ops true) :: k)) cs) w := by
 have hok' := hok
 unfold idleGOk at hok
 simp only [Bool.and_eq_true, List.all_eq_true, List.mem_range] at hok
 obtain ⟨⟨h2, h3⟩, h4⟩ := hok
 have lt : ∀ (i : Nat) (o : Oper), ops[i]? = some o → i < ops.size := fun i o ho => (Array.getElem?_eq_some_iff.1 ho).1
 have dst : ∀ (i : Nat) (o : Oper), ops[i]? = some o → ∃ d, o.dst = some d ∧ d < a.tmps.size := fun i o ho => by
  have := h2 i (lt i o ho)
  rw [ho] at this
  simp only [Bool.and_eq_true] at this
  obtain ⟨⟨_, a2⟩, _⟩ := this
  cases hd : o.dst with
  | none => rw [hd] at a2; cases a2
  | some d => rw [hd] at a2; exact ⟨d, rfl, by simpa using a2⟩
 have apart : ∀ (i j : Nat) (d : Tmp), i < ops.size → j < i → dstOf ops i = some d → dstOf ops j ≠ some d := fun i j d hi hj hd hd' => by
  have := h3 i hi j hj
  rw [hd, hd'] at this
  simp at this
 have back : ∀ i j, waits ops i j = true → j < i := fun i j hw => by
  obtain ⟨o, ho, e, he1, he2, he3⟩ := waits_iff.1 hw
  have := h4 i (lt i o ho)
  rw [ho] at this
  simp only [Bool.and_eq_true, Array.all_eq_true_iff_forall_mem] at this
  have := this.1 e he1
  simp only [he2, Bool.not_true, Bool.false_or, decide_eq_true_eq] at this
  omega
 have hsz : (putG ops vs 0 a.tmps).size = a.tmps.size := by rw [putG_putv, putv_size]
 have hlm : (vs.map fun v => v.getD undef).length = ops.size := by rw [List.length_map, hlen]
 have final : ∀ i x u, vs[i]? = some u → dstOf ops i = some x → x < a.tmps.size → (putG ops vs 0 a.tmps)[x]? = some (u.getD undef) := fun i x u hu hd hx => by
  rw [putG_putv]
  refine putv_at _ 0 _ i _ x (by rw [List.getElem?_map, hu]; rfl) (by rw [Nat.zero_add]; exact hd) hx fun m h1 h2 => ?_
  rw [hlm] at h2
  intro hm
  exact apart m i x (by omega) (by omega) hm hd
 have early : ∀ i x j, j < i → i ≤ ops.size → dstOf ops j = some x → x < a.tmps.size → (putG ops (vs.take i) 0 a.tmps)[x]? = (putG ops vs 0 a.tmps)[x]? := fun i x j hji hi hd hx => by
  have hjl : j < vs.length := by omega
  obtain ⟨u, hu⟩ : ∃ u, vs[j]? = some u := ⟨_, List.getElem?_eq_getElem hjl⟩
  rw [final j x u hu hd hx, putG_putv]
  refine putv_at _ 0 _ j _ x (by rw [List.getElem?_map, List.getElem?_take, if_pos hji, hu]; rfl) (by rw [Nat.zero_add]; exact hd) hx fun m h1 h2 => ?_
  rw [List.length_map, List.length_take] at h2
  intro hm
  exact apart m j x (by omega) (by omega) hm hd
 have never : ∀ (l : List (Option Value)), l.length ≤ ops.size → ∀ x, (∀ j, j < ops.size → dstOf ops j ≠ some x) → (putG ops l 0 a.tmps)[x]? = a.tmps[x]? := fun l hl x hx => by
  rw [putG_putv]
  refine putv_out _ 0 _ x fun j _ h2 => hx j ?_
  rw [List.length_map] at h2; omega
 refine at_idleG (a₀ := a.tmps) (ds := a.defers) hJ hb hm [] (putG ops vs 0 a.tmps) hok' hsz (fun t ht => by cases ht) (fun t ht => never vs (by omega) t ht) ?_ h
 intro i o ho d hd
 have hi := lt i o ho
 obtain ⟨d', hd', hdlt⟩ := dst i o ho
 rw [hd] at hd'
 obtain rfl := Option.some.inj hd'
 have hdi : dstOf ops i = some d := by unfold dstOf; rw [ho]; exact hd
 obtain ⟨u, hu⟩ : ∃ u, vs[i]? = some u := ⟨_, List.getElem?_eq_getElem (by omega)⟩
 have hslot : ∀ j x, waits ops i j = true → dstOf ops j = some x → (putG ops (vs.take i) 0 a.tmps)[x]? = (putG ops vs 0 a.tmps)[x]? := fun j x hw hdj => by
  have hji := back i j hw
  obtain ⟨oj, hoj⟩ : ∃ oj, ops[j]? = some oj := ⟨_, Array.getElem?_eq_getElem (by omega)⟩
  obtain ⟨dj, hdj', hlt⟩ := dst j oj hoj
  have : dstOf ops j = some dj := by unfold dstOf; rw [hoj]; exact hdj'
  rw [this] at hdj
  obtain rfl := Option.some.inj hdj
  exact early i _ j hji (by omega) this hlt
 have hro : readOp P o.op = true ∧ ∀ j wt, o.guard = some (j, wt) → waits ops i j = true ∧ j < ops.size := by
  have := h2 i hi
  rw [ho] at this
  simp only [Bool.and_eq_true] at this
  obtain ⟨⟨a1, a2⟩, a3⟩ := this
  refine ⟨a1, fun j wt hg => ?_⟩
  rw [hg] at a3; simpa using a3
 have hok2 : ∀ cs b, o.op ≠ .select cs b := fun cs b h => by rw [h] at hro; cases hro.1
 have hex : execOp (Act.mk (putG ops (vs.take i) 0 a.tmps) []).eval o = execOp (Act.mk (putG ops vs 0 a.tmps) []).eval o := by
  refine execOp_congr o hok2 fun x hx => eval_agree fun t ht => ?_
  by_cases hxt : ∃ j, j < ops.size ∧ dstOf ops j = some t
  · obtain ⟨j, hj, hdj⟩ := hxt
    have := h4 i hi
    rw [ho] at this
    simp only [Bool.and_eq_true, Array.all_eq_true_iff_forall_mem] at this
    have := this.2 x hx
    rw [ht] at this
    simp only [List.contains_nil, Bool.false_or, List.all_eq_true, List.mem_range] at this
    have := this j hj
    exact hslot j t (by simpa [hdj] using this) hdj
  · have hno : ∀ j, j < ops.size → dstOf ops j ≠ some t := fun j hj hd => hxt ⟨j, hj, hd⟩
    rw [never _ (by rw [List.length_take]; omega) t hno, never _ (by omega) t hno]
 have hwd : Region.wanted o (yielded ops (putG ops (vs.take i) 0 a.tmps)) = Region.wanted o (yielded ops (putG ops vs 0 a.tmps)) := by
  unfold Region.wanted
  cases hg : o.guard with
  | none => rfl
  | some x =>
   obtain ⟨j, wt⟩ := x
   obtain ⟨hwt, hj⟩ := hro.2 j wt hg
   have : yielded ops (putG ops (vs.take i) 0 a.tmps) j = yielded ops (putG ops vs 0 a.tmps) j := by
    unfold yielded
    cases hdj : (ops[j]?).bind (·.dst) with
    | none => rfl
    | some t => simp only [al_ob]; rw [hslot j t hwt hdj]
   simp only [this]
 rcases evalsG_at vs 0 a.tmps i u o (hv w.tape w.drawn) hu (by rw [Nat.zero_add]; exact ho) with ⟨rfl, h1⟩ | ⟨v, rfl, h1, _⟩
 · exact .inl ⟨hwd ▸ h1, final i d none hu hdi hdlt⟩
 · refine .inr ⟨hwd ▸ h1, v, final i d (some v) hu hdi hdlt, fun τ dd => ?_⟩
   rcases evalsG_at vs 0 a.tmps i (some v) o (hv τ dd) hu (by rw [Nat.zero_add]; exact ho) with ⟨h, _⟩ | ⟨v', h, _, hr⟩
   · cases h
   · cases h
     rw [← hex]; exact hr
end
end Go.Car
set_option maxHeartbeats 1000000
namespace Go.Car
open Go Go.RowKit
def yieldsTo (P : Program) (a : Act) (o : Oper) (W : World) (v : Value) (W' : World) : Prop :=
 (execOp a.eval o).run P W = .ok (.value v) W' ∨ ∃ f args, (execOp a.eval o).run P W = .ok (.enter f args) W ∧ Calls P f args W fun e w' => e = .returned v ∧ w' = W'
def chkV (ops : Array Oper) (k n : Nat) : Bool :=
 (List.range k).all (fun i => match ops[i]? with
  | some o => o.guard.isNone && (match o.dst with | some d => decide (d < n) | none => false) && (match o.op with | .select .. => false | _ => true) &&
   o.op.operands.all (fun x => match tmpOf x with
    | some t => (List.range k).all fun j => dstOf ops j != some t || waits ops i j
    | none => true)
  | none => false) &&
 (List.range k).all (fun i => (List.range i).all fun j => dstOf ops i != dstOf ops j)
section
variable {P : Program} {ops : Array Oper}
theorem wp_of_yields {a a' : Act} {o : Oper} {W W' : World} {v : Value} {K : Act → World → Prop} {Q : Exit → Act → World → Prop} (he : execOp a.eval o = execOp a'.eval o) (h : yieldsTo P a' o W v W') (hK : K (a.put o.dst v) W') : o.wp P a W K Q := by
 unfold Oper.wp
 rw [he]
 rcases h with h | ⟨f, args, h, hc⟩
 · rw [h]; exact hK
 · rw [h]
   refine Calls.mono hc ?_
   rintro e w' ⟨rfl, rfl⟩
   exact hK
theorem wp_region_one {id k s : Nat} {Q' : Exit → Act → World → Prop} {T₀ : Array Value} {ds : List Deferred} {w W0 W1 : World} (hm : P.follows .mixedOrders = true) (hback : backB .any ops k = true) (hwait : allWaitB .any ops k = true) (hchk : chkV ops k T₀.size = true) (hsk : s < k)
 (vals : List Value) (hlen : vals.length = k) (h0 : W0 = { w with drawn := w.drawn + 1 })
 (hread : ∀ i o, i < k → i ≠ s → ops[i]? = some o → ∀ W, W = W0 ∨ W = W1 → yieldsTo P ⟨putv ops vals 0 T₀, []⟩ o W (vals.getD i undef) W)
 (hone : ∀ o, ops[s]? = some o → yieldsTo P ⟨putv ops vals 0 T₀, []⟩ o W0 (vals.getD s undef) W1)
 (hend : wpAny P .any ops Q' (ops.size - k) (Array.ofFn fun i : Fin ops.size => decide (i.val < k)) ⟨putv ops vals 0 T₀, ds⟩ W1) : (Code.region id ops true).wp P Q' ⟨T₀, ds⟩ w := by
 have hk : k ≤ ops.size := by
  have := hback
  unfold backB at this
  simp only [Bool.and_eq_true, decide_eq_true_eq] at this
  exact this.1
 unfold chkV at hchk
 simp only [Bool.and_eq_true, List.all_eq_true, List.mem_range] at hchk
 obtain ⟨h1, h2⟩ := hchk
 have plain : ∀ i, i < k → ∃ o d, ops[i]? = some o ∧ o.guard = none ∧ o.dst = some d ∧ dstOf ops i = some d ∧ d < T₀.size ∧ (∀ cs b, o.op ≠ .select cs b) ∧ ∀ x ∈ o.op.operands, ∀ t, tmpOf x = some t → ∀ j, j < k → dstOf ops j = some t → waits ops i j = true := fun i hi => by
  have := h1 i hi
  cases ho : ops[i]? with
  | none => rw [ho] at this; cases this
  | some o =>
   rw [ho] at this
   simp only [Bool.and_eq_true] at this
   obtain ⟨⟨⟨a1, a2⟩, a3⟩, a4⟩ := this
   cases hd : o.dst with
   | none => rw [hd] at a2; cases a2
   | some d =>
    rw [hd] at a2
    refine ⟨o, d, rfl, Option.isNone_iff_eq_none.1 a1, hd, by unfold dstOf; rw [ho]; exact hd, by simpa using a2, (fun cs b h => by rw [h] at a3; cases a3), fun x hx t ht j hj hdj => ?_⟩
    rw [Array.all_eq_true_iff_forall_mem] at a4
    have := a4 x hx
    rw [ht] at this
    simp only [List.all_eq_true, List.mem_range] at this
    have := this j hj
    simpa [hdj] using this
 have apart : ∀ (i j : Nat) (d : Tmp), i < k → j < k → dstOf ops i = some d → dstOf ops j = some d → i = j := fun i j d hi hj hd hd' => by
  rcases Nat.lt_trichotomy i j with h | h | h
  · have := h2 j hj i h; rw [hd, hd'] at this; simp at this
  · exact h
  · have := h2 i hi j h; rw [hd, hd'] at this; simp at this
 have hTs : (putv ops vals 0 T₀).size = T₀.size := putv_size _ _ _
 have final : ∀ i x, i < k → dstOf ops i = some x → (putv ops vals 0 T₀)[x]? = some (vals.getD i undef) := fun i x hi hd => by
  obtain ⟨o, d, ho, _, _, hd', hlt, _⟩ := plain i hi
  rw [hd] at hd'
  obtain rfl := Option.some.inj hd'
  refine putv_at vals 0 _ i _ x (by simp [hlen, hi]) (by rw [Nat.zero_add]; exact hd) hlt fun m a b e => ?_
  have := apart m i x (by omega) hi e hd
  omega
 refine wp_region_inv hm hback hwait (fun L a w' => a.defers = ds ∧ a.tmps.size = T₀.size ∧ (∀ t, (∀ j, j < k → dstOf ops j ≠ some t) → a.tmps[t]? = T₀[t]?) ∧ (∀ j t, j < k → dstOf ops j = some t → L.getD j false = true → a.tmps[t]? = (putv ops vals 0 T₀)[t]?) ∧ w' = if L.getD s false = true then W1 else W0) ?_ ?_ ?_
 · refine ⟨rfl, rfl, fun _ _ => rfl, fun j t _ _ hl => ?_, ?_⟩
   · exfalso
     simp [al_gd, Array.getElem?_replicate] at hl
     split at hl <;> simp at hl
   · rw [if_neg, h0]
     intro hl
     simp [al_gd, Array.getElem?_replicate] at hl
     split at hl <;> simp at hl
 · rintro L a w' i hL hi hun hdep ⟨hd, hsz, hout, hin, hw'⟩
   obtain ⟨o, d, ho, hg, hdst, hdo, hlt, hsel, hops⟩ := plain i hi
   have hun' : L.getD i false = false := by
    have : i < L.size := by omega
    simp [this] at hun ⊢; exact hun
   have hex : execOp a.eval o = execOp (Act.mk (putv ops vals 0 T₀) []).eval o := by
    obtain ⟨tm, dd⟩ := a
    refine execOp_congr o hsel fun x hx => eval_agree fun t ht => ?_
    by_cases hxt : ∃ j, j < k ∧ dstOf ops j = some t
    · obtain ⟨j, hj, hdj⟩ := hxt
      obtain ⟨oi, hoi, e, he1, he2, he3⟩ := waits_iff.1 (hops x hx t ht j hj hdj)
      subst he3
      exact hin e.on t hj hdj (hdep oi hoi e he1 he2)
    · have hno : ∀ j, j < k → dstOf ops j ≠ some t := fun j hj hd => hxt ⟨j, hj, hd⟩
      rw [hout t hno]
      refine (putv_out vals 0 _ t fun j _ hj => hno j (by omega)).symm
   have hwan : Region.wanted o (yielded ops a.tmps) = true := by simp [Region.wanted, hg]
   have hnext : ∀ W', (if (L.setIfInBounds i true).getD s false = true then W1 else W0) = W' → (a.put o.dst (vals.getD i undef)).defers = ds ∧ (a.put o.dst (vals.getD i undef)).tmps.size = T₀.size ∧ (∀ t, (∀ j, j < k → dstOf ops j ≠ some t) → (a.put o.dst (vals.getD i undef)).tmps[t]? = T₀[t]?) ∧
    (∀ j t, j < k → dstOf ops j = some t → (L.setIfInBounds i true).getD j false = true → (a.put o.dst (vals.getD i undef)).tmps[t]? = (putv ops vals 0 T₀)[t]?) ∧ W' = if (L.setIfInBounds i true).getD s false = true then W1 else W0 := by
    intro W' hW
    rw [hdst]
    refine ⟨hd, by simp [Act.put, hsz], fun t ht => ?_, fun j t hj hdj hl => ?_, hW.symm⟩
    · have : d ≠ t := fun e => ht i hi (e ▸ hdo)
      simp only [Act.put]; rw [al_gn this]; exact hout t ht
    · by_cases e : d = t
      · subst e
        rw [final i d hi hdo]
        have : d < a.tmps.size := by rw [hsz]; exact hlt
        simp [Act.put, this]
      · simp only [Act.put]; rw [al_gn e]
        have hji : i ≠ j := fun e2 => by subst e2; rw [hdo] at hdj; exact e (Option.some.inj hdj)
        rw [getD_set_ne false hji] at hl
        exact hin j t hj hdj hl
   unfold wpOp
   simp only [ho, hwan, if_true]
   refine .inl ?_
   by_cases his : i = s
   · subst his
     rw [hun'] at hw'
     simp only [Bool.false_eq_true, if_false] at hw'
     subst hw'
     refine wp_of_yields hex (hone o ho) (hnext W1 ?_)
     have : i < L.size := by omega
     simp [this]
   · have hg' : (L.setIfInBounds i true).getD s false = L.getD s false := getD_set_ne false his
     refine wp_of_yields hex (hread i o hi his ho w' ?_) (hnext w' ?_)
     · rw [hw']; split
       · exact .inr rfl
       · exact .inl rfl
     · rw [hg']; exact hw'.symm
 · rintro ⟨T, dd⟩ w' ⟨hd, hsz, hout, hin, hw'⟩
   have hL : ∀ j, j < k → (Array.ofFn fun i : Fin ops.size => decide (i.val < k)).getD j false = true := fun j hj => by
    have : j < ops.size := by omega
    simp [this, hj]
   rw [if_pos (hL s hsk)] at hw'
   subst hw'
   simp only at hd hsz hout hin
   subst hd
   have : T = putv ops vals 0 T₀ := by
    apply Array.ext_getElem?
    intro x
    by_cases hx : ∃ j, j < k ∧ dstOf ops j = some x
    · obtain ⟨j, hj, hdj⟩ := hx
      exact hin j x hj hdj (hL j hj)
    · have hno : ∀ j, j < k → dstOf ops j ≠ some x := fun j hj hd => hx ⟨j, hj, hd⟩
      rw [hout x hno]
      exact (putv_out vals 0 _ x fun j _ hj => hno j (by omega)).symm
   rw [this]
   exact hend
end
section
variable {P : Program} {ops : Array Oper}
theorem wp_region_vals {id k : Nat} {Q' : Exit → Act → World → Prop} {T₀ : Array Value} {ds : List Deferred} {w W0 : World} (hm : P.follows .mixedOrders = true) (hback : backB .any ops k = true) (hwait : allWaitB .any ops k = true) (hchk : chkV ops k T₀.size = true)
 (vals : List Value) (hlen : vals.length = k) (h0 : W0 = { w with drawn := w.drawn + 1 })
 (WW : Array Bool → World) (hW0 : WW (Array.replicate ops.size false) = W0)
 (hstep : ∀ (L : Array Bool) i o, L.size = ops.size → i < k → L.getD i false = false → ops[i]? = some o → (∀ e ∈ o.after, Region.binds .any e = true → L.getD e.on false = true) → (∀ j oj, ops[j]? = some oj → L.getD j false = true → ∀ e ∈ oj.after, Region.binds .any e = true → L.getD e.on false = true) → yieldsTo P ⟨putv ops vals 0 T₀, []⟩ o (WW L) (vals.getD i undef) (WW (L.setIfInBounds i true)))
 (hend : wpAny P .any ops Q' (ops.size - k) (Array.ofFn fun i : Fin ops.size => decide (i.val < k)) ⟨putv ops vals 0 T₀, ds⟩ (WW (Array.ofFn fun i : Fin ops.size => decide (i.val < k)))) : (Code.region id ops true).wp P Q' ⟨T₀, ds⟩ w := by
 have hk : k ≤ ops.size := by
  have := hback
  unfold backB at this
  simp only [Bool.and_eq_true, decide_eq_true_eq] at this
  exact this.1
 unfold chkV at hchk
 simp only [Bool.and_eq_true, List.all_eq_true, List.mem_range] at hchk
 obtain ⟨h1, h2⟩ := hchk
 have plain : ∀ i, i < k → ∃ o d, ops[i]? = some o ∧ o.guard = none ∧ o.dst = some d ∧ dstOf ops i = some d ∧ d < T₀.size ∧ (∀ cs b, o.op ≠ .select cs b) ∧ ∀ x ∈ o.op.operands, ∀ t, tmpOf x = some t → ∀ j, j < k → dstOf ops j = some t → waits ops i j = true := fun i hi => by
  have := h1 i hi
  cases ho : ops[i]? with
  | none => rw [ho] at this; cases this
  | some o =>
   rw [ho] at this
   simp only [Bool.and_eq_true] at this
   obtain ⟨⟨⟨a1, a2⟩, a3⟩, a4⟩ := this
   cases hd : o.dst with
   | none => rw [hd] at a2; cases a2
   | some d =>
    rw [hd] at a2
    refine ⟨o, d, rfl, Option.isNone_iff_eq_none.1 a1, hd, by unfold dstOf; rw [ho]; exact hd, by simpa using a2, (fun cs b h => by rw [h] at a3; cases a3), fun x hx t ht j hj hdj => ?_⟩
    rw [Array.all_eq_true_iff_forall_mem] at a4
    have := a4 x hx
    rw [ht] at this
    simp only [List.all_eq_true, List.mem_range] at this
    have := this j hj
    simpa [hdj] using this
 have apart : ∀ (i j : Nat) (d : Tmp), i < k → j < k → dstOf ops i = some d → dstOf ops j = some d → i = j := fun i j d hi hj hd hd' => by
  rcases Nat.lt_trichotomy i j with h | h | h
  · have := h2 j hj i h; rw [hd, hd'] at this; simp at this
  · exact h
  · have := h2 i hi j h; rw [hd, hd'] at this; simp at this
 have hTs : (putv ops vals 0 T₀).size = T₀.size := putv_size _ _ _
 have final : ∀ i x, i < k → dstOf ops i = some x → (putv ops vals 0 T₀)[x]? = some (vals.getD i undef) := fun i x hi hd => by
  obtain ⟨o, d, ho, _, _, hd', hlt, _⟩ := plain i hi
  rw [hd] at hd'
  obtain rfl := Option.some.inj hd'
  refine putv_at vals 0 _ i _ x (by simp [hlen, hi]) (by rw [Nat.zero_add]; exact hd) hlt fun m a b e => ?_
  have := apart m i x (by omega) hi e hd
  omega
 refine wp_region_inv hm hback hwait (fun L a w' => a.defers = ds ∧ a.tmps.size = T₀.size ∧ (∀ t, (∀ j, j < k → dstOf ops j ≠ some t) → a.tmps[t]? = T₀[t]?) ∧ (∀ j t, j < k → dstOf ops j = some t → L.getD j false = true → a.tmps[t]? = (putv ops vals 0 T₀)[t]?) ∧ w' = WW L ∧ (∀ j oj, ops[j]? = some oj → L.getD j false = true → ∀ e ∈ oj.after, Region.binds .any e = true → L.getD e.on false = true)) ?_ ?_ ?_
 · refine ⟨rfl, rfl, fun _ _ => rfl, fun j t _ _ hl => ?_, ?_⟩
   · exfalso
     simp [al_gd, Array.getElem?_replicate] at hl
     split at hl <;> simp at hl
   · refine ⟨by rw [hW0, h0], fun j oj _ hl => ?_⟩
     exfalso
     simp [al_gd, Array.getElem?_replicate] at hl
     split at hl <;> simp at hl
 · rintro L a w' i hL hi hun hdep ⟨hd, hsz, hout, hin, hw', hcl⟩
   obtain ⟨o, d, ho, hg, hdst, hdo, hlt, hsel, hops⟩ := plain i hi
   have hun' : L.getD i false = false := by
    have : i < L.size := by omega
    simp [this] at hun ⊢; exact hun
   have hex : execOp a.eval o = execOp (Act.mk (putv ops vals 0 T₀) []).eval o := by
    obtain ⟨tm, dd⟩ := a
    refine execOp_congr o hsel fun x hx => eval_agree fun t ht => ?_
    by_cases hxt : ∃ j, j < k ∧ dstOf ops j = some t
    · obtain ⟨j, hj, hdj⟩ := hxt
      obtain ⟨oi, hoi, e, he1, he2, he3⟩ := waits_iff.1 (hops x hx t ht j hj hdj)
      subst he3
      exact hin e.on t hj hdj (hdep oi hoi e he1 he2)
    · have hno : ∀ j, j < k → dstOf ops j ≠ some t := fun j hj hd => hxt ⟨j, hj, hd⟩
      rw [hout t hno]
      refine (putv_out vals 0 _ t fun j _ hj => hno j (by omega)).symm
   have hwan : Region.wanted o (yielded ops a.tmps) = true := by simp [Region.wanted, hg]
   have hnext : ∀ W', WW (L.setIfInBounds i true) = W' → (a.put o.dst (vals.getD i undef)).defers = ds ∧ (a.put o.dst (vals.getD i undef)).tmps.size = T₀.size ∧ (∀ t, (∀ j, j < k → dstOf ops j ≠ some t) → (a.put o.dst (vals.getD i undef)).tmps[t]? = T₀[t]?) ∧
    (∀ j t, j < k → dstOf ops j = some t → (L.setIfInBounds i true).getD j false = true → (a.put o.dst (vals.getD i undef)).tmps[t]? = (putv ops vals 0 T₀)[t]?) ∧ W' = WW (L.setIfInBounds i true) ∧ (∀ j oj, ops[j]? = some oj → (L.setIfInBounds i true).getD j false = true → ∀ e ∈ oj.after, Region.binds .any e = true → (L.setIfInBounds i true).getD e.on false = true) := by
    intro W' hW
    rw [hdst]
    refine ⟨hd, by simp [Act.put, hsz], fun t ht => ?_, fun j t hj hdj hl => ?_, hW.symm, fun j oj hoj hl e he hb => ?_⟩
    · have : d ≠ t := fun e => ht i hi (e ▸ hdo)
      simp only [Act.put]; rw [al_gn this]; exact hout t ht
    · by_cases e : d = t
      · subst e
        rw [final i d hi hdo]
        have : d < a.tmps.size := by rw [hsz]; exact hlt
        simp [Act.put, this]
      · simp only [Act.put]; rw [al_gn e]
        have hji : i ≠ j := fun e2 => by subst e2; rw [hdo] at hdj; exact e (Option.some.inj hdj)
        rw [getD_set_ne false hji] at hl
        exact hin j t hj hdj hl
    · by_cases hji : i = j
      · subst hji
        exact getD_set_true (hdep oj hoj e he hb)
      · rw [getD_set_ne false hji] at hl
        exact getD_set_true (hcl j oj hoj hl e he hb)
   unfold wpOp
   simp only [ho, hwan, if_true]
   refine .inl ?_
   subst hw'
   exact wp_of_yields hex (hstep L i o hL hi hun' ho (fun e he hb => hdep o ho e he hb) hcl) (hnext _ rfl)
 · rintro ⟨T, dd⟩ w' ⟨hd, hsz, hout, hin, hw', _⟩
   have hL : ∀ j, j < k → (Array.ofFn fun i : Fin ops.size => decide (i.val < k)).getD j false = true := fun j hj => by
    have : j < ops.size := by omega
    simp [this, hj]
   subst hw'
   simp only at hd hsz hout hin
   subst hd
   have : T = putv ops vals 0 T₀ := by
    apply Array.ext_getElem?
    intro x
    by_cases hx : ∃ j, j < k ∧ dstOf ops j = some x
    · obtain ⟨j, hj, hdj⟩ := hx
      exact hin j x hj hdj (hL j hj)
    · have hno : ∀ j, j < k → dstOf ops j ≠ some x := fun j hj hd => hx ⟨j, hj, hd⟩
      rw [hout x hno]
      exact (putv_out vals 0 _ x fun j _ hj => hno j (by omega)).symm
   rw [this]
   exact hend
theorem wp_region_two {id k s t : Nat} {Q' : Exit → Act → World → Prop} {T₀ : Array Value} {ds : List Deferred} {w W0 W1 W2 : World} (hm : P.follows .mixedOrders = true) (hback : backB .any ops k = true) (hwait : allWaitB .any ops k = true) (hchk : chkV ops k T₀.size = true) (hsk : s < k) (htk : t < k) (hst : s ≠ t) (hts : waits ops t s = true)
 (vals : List Value) (hlen : vals.length = k) (h0 : W0 = { w with drawn := w.drawn + 1 })
 (hread : ∀ i o, i < k → i ≠ s → i ≠ t → ops[i]? = some o → ∀ W, W = W0 ∨ W = W1 ∨ W = W2 → yieldsTo P ⟨putv ops vals 0 T₀, []⟩ o W (vals.getD i undef) W)
 (hone : ∀ o, ops[s]? = some o → yieldsTo P ⟨putv ops vals 0 T₀, []⟩ o W0 (vals.getD s undef) W1)
 (htwo : ∀ o, ops[t]? = some o → yieldsTo P ⟨putv ops vals 0 T₀, []⟩ o W1 (vals.getD t undef) W2)
 (hend : wpAny P .any ops Q' (ops.size - k) (Array.ofFn fun i : Fin ops.size => decide (i.val < k)) ⟨putv ops vals 0 T₀, ds⟩ W2) : (Code.region id ops true).wp P Q' ⟨T₀, ds⟩ w := by
 have hk : k ≤ ops.size := by
  have := hback
  unfold backB at this
  simp only [Bool.and_eq_true, decide_eq_true_eq] at this
  exact this.1
 have rep : ∀ j, (Array.replicate ops.size false).getD j false = false := fun j => by
  simp only [al_gd, Array.getElem?_replicate]
  split <;> rfl
 have full : ∀ j, j < k → (Array.ofFn fun i : Fin ops.size => decide (i.val < k)).getD j false = true := fun j hj => by
  have : j < ops.size := by omega
  simp [this, hj]
 refine wp_region_vals hm hback hwait hchk vals hlen h0 (fun L => if L.getD t false = true then W2 else if L.getD s false = true then W1 else W0) ?_ ?_ ?_
 · simp only [rep]; rfl
 · intro L i o hL hi hun ho hdep hcl
   have hiL : i < L.size := by omega
   by_cases his : i = s
   · subst his
     have ht : L.getD t false = false := by
      cases h : L.getD t false with
      | false => rfl
      | true =>
       obtain ⟨oi, hoi, e, he1, he2, he3⟩ := waits_iff.1 hts
       have := hcl t oi hoi h e he1 he2
       rw [he3, hun] at this
       cases this
     have e1 : (L.setIfInBounds i true).getD t false = L.getD t false := getD_set_ne false hst
     have e2 : (L.setIfInBounds i true).getD i false = true := by simp [hiL]
     simp only [e1, e2, ht, hun]
     exact hone o ho
   · by_cases hit : i = t
     · subst hit
       have hs : L.getD s false = true := by
        obtain ⟨oi, hoi, e, he1, he2, he3⟩ := waits_iff.1 hts
        rw [ho] at hoi
        obtain rfl := Option.some.inj hoi
        rw [← he3]
        exact hdep e he1 he2
       have e2 : (L.setIfInBounds i true).getD i false = true := by simp [hiL]
       simp only [e2, hs, hun]
       exact htwo o ho
     · have e1 : (L.setIfInBounds i true).getD t false = L.getD t false := getD_set_ne false hit
       have e2 : (L.setIfInBounds i true).getD s false = L.getD s false := getD_set_ne false his
       simp only [e1, e2]
       refine hread i o hi his hit ho _ ?_
       split
       · exact .inr (.inr rfl)
       · split
         · exact .inr (.inl rfl)
         · exact .inl rfl
 · simp only [full t htk, full s hsk]
   exact hend
end
end Go.Car
set_option maxHeartbeats 4000000
set_option maxRecDepth 100000
namespace Go.Proofs
open Go Go.Conc Go.RowKit Go.Car
structure OwnRest (mb : Nat) (row : Option Nat) (w w' : World) : Prop where
 size : w.heap.size ≤ w'.heap.size
 old : ∀ b, b < w.heap.size → b ≠ mb → row ≠ some b → w'.heap[b]? = w.heap[b]?
def OwnPost (mb bw W base : Nat) (tv : Value) (ws : List Int) (m : Mch) (c : Cd) (w : World) (e : Ending) (w' : World) : Prop :=
 e = .returned (.tuple #[]) ∧ ∃ tv', MachB mb bw W tv' ws (ownC c m) w' ∧ w'.ownsRow base 38 3 tv' (ownC c m).told.length (toldL (ownC c m).told) ∧ OwnRest mb tv.ownBlock w w' ∧ (tv' = tv ∨ ∃ g cap, tv' = .slice (some ⟨g, 0, none⟩) (ownC c m).told.length cap ∧ (tv.ownBlock = some g ∨ w.heap.size ≤ g) ∧ g < w'.heap.size)
theorem own_far {mb bw W base n : Nat} {tv : Value} {ws : List Int} {m : Mch} {xs : List Value} {w : World} (h : MachB mb bw W tv ws m w) (ho : w.ownsRow base 38 3 tv n xs) : tv.ownBlock ≠ some mb ∧ tv.ownBlock ≠ some bw ∧ ∀ g, tv.ownBlock = some g → g < w.heap.size := by
 rcases ho.2 with ⟨hv, _⟩ | ⟨g, cap, cur, hv, _, hh, _⟩
 · rw [hv]; exact ⟨by simp [Value.ownBlock], by simp [Value.ownBlock], by simp [Value.ownBlock]⟩
 · rw [hv]
   simp only [Value.ownBlock]
   refine ⟨fun e => ?_, fun e => ?_, fun g' e => ?_⟩
   · cases e; rw [h.hm] at hh; simp at hh
   · cases e; rw [h.hw] at hh; simp at hh
   · cases e; exact zq4 hh
theorem zqd {base n : Nat} {tv : Value} {xs : List Value} {w w' : World} {T : TypeId} {k : Nat} (h : w.ownsRow base T k tv n xs) (hs : ∀ g, tv.ownBlock = some g → w'.heap[g]? = w.heap[g]?) : w'.ownsRow base T k tv n xs := by
 refine ⟨h.1, ?_⟩
 rcases h.2 with hv | ⟨g, cap, cur, hv, h1, h2, h3⟩
 · exact .inl hv
 · exact .inr ⟨g, cap, cur, hv, h1, (hs g (by rw [hv]; rfl)).trans h2, h3⟩
theorem own_ne {base n k b : Nat} {tv : Value} {xs : List Value} {w : World} {T T' : TypeId} {c : Array Value} {f : Nat × Nat} (h : w.ownsRow base T k tv n xs) (hb : w.heap[b]? = some (.cells c T' f)) (hne : T ≠ T') : tv.ownBlock ≠ some b := by
 intro e
 rcases h.2 with ⟨hv, _⟩ | ⟨g, cap, cur, hv, _, hh, _⟩
 · rw [hv] at e; cases e
 · rw [hv] at e
   simp only [Value.ownBlock, al_oi] at e
   subst e
   rw [hh] at hb
   simp only [al_oi, Obj.cells.injEq] at hb
   exact hne hb.2.1
theorem ownPost_same {mb bw W base : Nat} {tv : Value} {ws : List Int} {m m' : Mch} {c : Cd} {w w' : World} (h : MachB mb bw W tv ws m w) (ho : w.ownsRow base 38 3 tv m.told.length (toldL m.told)) (hm : ownC c m = m') (ht : m'.told = m.told) (H : MachB mb bw W tv ws m' w') (R : Rest mb bw w w') : OwnPost mb bw W base tv ws m c w (.returned (.tuple #[])) w' := by
 obtain ⟨h1, h2, h3⟩ := own_far h ho
 subst hm
 refine ⟨rfl, tv, H, ?_, ⟨R.size, fun b hb hm _ => ?_⟩, .inl rfl⟩
 · rw [ht]
   exact zqd ho fun g hg => R.old g (h3 g hg) (fun e => h1 (e ▸ hg)) (fun e => h2 (e ▸ hg))
 · by_cases hbw : b = bw
   · subst hbw; exact H.hw.trans h.hw.symm
   · exact R.old b hb hm hbw
theorem own_lone (mb bw W base : Nat) (tv : Value) (ws : List Int) (m : Mch) (c : Cd) (w : World) (h : MachB mb bw W tv ws m w) (ho : w.ownsRow base 38 3 tv m.told.length (toldL m.told)) (hlen : m.told.length < 8589934592) (hbase : base ≤ w.heap.size) :
 Calls Try.prog 50 #[.pointer (some ⟨mb, 0, none⟩), cdV c] w fun e w' => OwnPost mb bw W base tv ws m c w e w' := by
 obtain ⟨d, r, a, b, v⟩ := c
 have hbw := zq4 h.hw
 have hmb := zq4 h.hm
 have h1 := h.al (.cells #[.int .i64 d, .int .i64 r, .int .i64 a, .int .i64 b, .int .i64 v] 74)
 have hR := (Rest.refl mb bw w).al (.cells #[.int .i64 d, .int .i64 r, .int .i64 a, .int .i64 b, .int .i64 v] 74)
 have hB := al_new w (.cells #[.int .i64 d, .int .i64 r, .int .i64 a, .int .i64 b, .int .i64 v] 74)
 have hn := h.ne
 have hout : ∀ (m' : Mch) (w' : World), ownC ⟨d, r, a, b, v⟩ m = m' → m'.told = m.told → MachB mb bw W tv ws m' w' → Rest mb bw w w' → OwnPost mb bw W base tv ws m ⟨d, r, a, b, v⟩ w (.returned (.tuple #[])) w' := fun m' w' e ht H R => ownPost_same h ho e ht H R
 have HT := Lib.hid (And.intro ho (own_far h ho))
 have HW0 := Lib.hid h.hw
 clear h ho
 unfold cdV
 go_enter Try.func50, Try.ntmps50
 go_wp2
 generalize w.alloc (.cells #[.int .i64 d, .int .i64 r, .int .i64 a, .int .i64 b, .int .i64 v] 74) = w1 at *
 obtain ⟨B0, hB0⟩ : ∃ x, w.heap.size = x := ⟨_, rfl⟩
 rw [hB0] at hB hbw hmb ⊢
 have cn := h1.cn
 have cra := h1.cr (ix_lt a)
 have crb := h1.cr (ix_lt b)
 have fz6 := h1.fm 6
 have b0 : w1.cell? ⟨B0, 0, none⟩ = some (.int .i64 d) := (zq0 hB).trans rfl
 have b1 : w1.cell? ⟨B0, 1, none⟩ = some (.int .i64 r) := (zq0 hB).trans rfl
 have b2 : w1.cell? ⟨B0, 2, none⟩ = some (.int .i64 a) := (zq0 hB).trans rfl
 have b3 : w1.cell? ⟨B0, 3, none⟩ = some (.int .i64 b) := (zq0 hB).trans rfl
 have b4 : w1.cell? ⟨B0, 4, none⟩ = some (.int .i64 v) := (zq0 hB).trans rfl
 obtain ⟨y, hy⟩ : ∃ y, m.regs (ix a) = y := ⟨_, rfl⟩
 obtain ⟨z, hz⟩ : ∃ z, m.regs (ix b) = z := ⟨_, rfl⟩
 rw [hy] at cra
 rw [hz] at crb
 have H1 := Lib.hid h1
 have HR := Lib.hid hR
 have HO := Lib.hid hout
 have HY := Lib.hid (And.intro hy hz)
 have HS := Lib.hid hB0
 clear h1 hR hB hB0 hout hy hz
 have i6 : ¬ (1 + ix r = 6) := by have := ix_lt r; omega
 have i6' : ¬ (6 = 1 + ix r) := by have := ix_lt r; omega
 have hne' : ¬ (mb = bw) := hn
 have hne2 : ¬ (bw = mb) := fun e => hn e.symm
 have hB1 : ¬ (mb = B0) := by omega
 have hB2 : ¬ (B0 = mb) := by omega
 go_quiet (first | (go_at_call 52; refine Calls.quiet_of_same (register_lone _ _ _)))
 by_cases e1 : d = 1
 · subst e1
   go_wp2_with (fail)
   have H2 := (H1.out.same (w' := w1.drewN nq) rfl rfl).setN (wrap64 (m.next + 1))
   have R2 := Rest.setM (HR.out.drew nq) 6 (.int .i64 (wrap64 (m.next + 1)))
   have d1 : ((w1.drewN nq).setCell ⟨mb, 6, none⟩ (.int .i64 (wrap64 (m.next + 1)))).cell? ⟨B0, 1, none⟩ = some (.int .i64 r) := (zqf (zq3 _ _ _ _ hB2)).trans b1
   have d4 : ((w1.drewN nq).setCell ⟨mb, 6, none⟩ (.int .i64 (wrap64 (m.next + 1)))).cell? ⟨B0, 4, none⟩ = some (.int .i64 v) := (zqf (zq3 _ _ _ _ hB2)).trans b4
   generalize ((w1.drewN nq).setCell ⟨mb, 6, none⟩ (.int .i64 (wrap64 (m.next + 1)))) = w2 at *
   have fz1 := H2.fm (1 + ix r)
   have er1 := H2.cr (ix_lt r)
   clear b0 b1 b2 b3 b4 cra crb fz6 cn
   rw [wrap64_eq] at H2
   have H3 := Lib.hid H2
   have R3 := Lib.hid R2
   clear H2 R2
   refine wp_region_pre (k := 7) (C := fun w' => ∃ n, w' = w2.drewN n) (by kernel_rfl) (by kernel_rfl) (by kernel_rfl) (by kernel_rfl) (by kernel_rfl) ⟨1, rfl⟩ ?_
   simp only [List.take_succ_cons, List.take_zero]
   repeat (quiet_step (first | (go_at_call 52; refine Calls.quiet_of_same (register_lone _ _ _))))
   refine wpQuiet_nil ?_
   rintro w' ⟨nq, rfl⟩
   refine wpAny_one (i := 7) (by kernel_rfl) ?_
   simp only [wpOp, al_gl, al_g0, al_g1]
   rw [if_pos (by rfl)]
   refine .inl ?_
   go_simp
   refine wpAny_end (by kernel_rfl) ?_
   go_wp2
   go_end0
   refine HO.out (m.on.set (ix r) v) _ (by simp [ownC]) rfl ?_ ?_
   · exact (H3.out.same (w' := w2.drewN nq) rfl rfl).setR (ix_lt r) v
   · exact Rest.setM (R3.out.drew nq) _ _
 by_cases e2 : d = 2
 · subst e2
   go_wp2_with (fail)
   have H2 := (H1.out.same (w' := w1.drewN nq) rfl rfl).setN (wrap64 (m.next + 1))
   have R2 := Rest.setM (HR.out.drew nq) 6 (.int .i64 (wrap64 (m.next + 1)))
   have d1 : ((w1.drewN nq).setCell ⟨mb, 6, none⟩ (.int .i64 (wrap64 (m.next + 1)))).cell? ⟨B0, 1, none⟩ = some (.int .i64 r) := (zqf (zq3 _ _ _ _ hB2)).trans b1
   have d4 : ((w1.drewN nq).setCell ⟨mb, 6, none⟩ (.int .i64 (wrap64 (m.next + 1)))).cell? ⟨B0, 4, none⟩ = some (.int .i64 v) := (zqf (zq3 _ _ _ _ hB2)).trans b4
   generalize ((w1.drewN nq).setCell ⟨mb, 6, none⟩ (.int .i64 (wrap64 (m.next + 1)))) = w2 at *
   have fz1 := H2.fm (1 + ix r)
   have er1 := H2.cr (ix_lt r)
   clear b0 b1 b2 b3 b4 cra crb fz6 cn
   rw [wrap64_eq] at H2
   have H3 := Lib.hid H2
   have R3 := Lib.hid R2
   clear H2 R2
   refine Calls.mono (register_lone _ _ _) ?_
   rintro e w' ⟨rfl, rfl⟩
   go_wp2
   go_end0
   refine HO.out (m.on.set (ix r) y) _ (by rw [← HY.out.1]; simp [ownC]) rfl ?_ ?_
   · exact H3.out.setR (ix_lt r) y
   · exact Rest.setM R3.out _ _
 by_cases e3 : d = 3
 · subst e3
   go_wp2_with (fail)
   have H2 := (H1.out.same (w' := w1.drewN nq) rfl rfl).setN (wrap64 (m.next + 1))
   have R2 := Rest.setM (HR.out.drew nq) 6 (.int .i64 (wrap64 (m.next + 1)))
   have d1 : ((w1.drewN nq).setCell ⟨mb, 6, none⟩ (.int .i64 (wrap64 (m.next + 1)))).cell? ⟨B0, 1, none⟩ = some (.int .i64 r) := (zqf (zq3 _ _ _ _ hB2)).trans b1
   have d4 : ((w1.drewN nq).setCell ⟨mb, 6, none⟩ (.int .i64 (wrap64 (m.next + 1)))).cell? ⟨B0, 4, none⟩ = some (.int .i64 v) := (zqf (zq3 _ _ _ _ hB2)).trans b4
   generalize ((w1.drewN nq).setCell ⟨mb, 6, none⟩ (.int .i64 (wrap64 (m.next + 1)))) = w2 at *
   have fz1 := H2.fm (1 + ix r)
   have er1 := H2.cr (ix_lt r)
   clear b0 b1 b2 b3 b4 cra crb fz6 cn
   rw [wrap64_eq] at H2
   have H3 := Lib.hid H2
   have R3 := Lib.hid R2
   clear H2 R2
   refine Calls.mono (register_lone _ _ _) ?_
   rintro e w' ⟨rfl, rfl⟩
   go_wp2
   go_end0
   refine HO.out (m.on.set (ix r) (IntKind.i64.wrap (y + z))) _ (by rw [← HY.out.1, ← HY.out.2]; simp [ownC]) rfl ?_ ?_
   · try simp only [wrap64_eq]
     exact H3.out.setR (ix_lt r) _
   · exact Rest.setM R3.out _ _
 by_cases e4 : d = 4
 · subst e4
   by_cases hyz : y = z
   · go_wp2_with (fail)
     have hz : m.regs (ix a) = m.regs (ix b) := by rw [HY.out.1, HY.out.2]; omega
     go_end0
     refine HO.out { m.on with next := v } _ (by simp [ownC, hz]) rfl ?_ ?_
     · try simp only [wrap64_eq]
       exact ((H1.out.same (w' := w1.drewN nq) rfl rfl).setN _).setN v
     · exact Rest.setM (Rest.setM (HR.out.drew nq) _ _) _ _
   · go_wp2_with (fail)
     have hz : ¬ m.regs (ix a) = m.regs (ix b) := by rw [HY.out.1, HY.out.2]; omega
     go_end0
     refine HO.out m.on _ (by simp [ownC, hz]) rfl ?_ ?_
     · try simp only [wrap64_eq]
       exact (H1.out.same (w' := w1.drewN nq) rfl rfl).setN _
     · exact Rest.setM (HR.out.drew nq) _ _
 by_cases e5 : d = 5
 · subst e5
   by_cases hyz : y < z
   · go_wp2_with (fail)
     have hz : m.regs (ix a) < m.regs (ix b) := by rw [HY.out.1, HY.out.2]; omega
     go_end0
     refine HO.out { m.on with next := v } _ (by simp [ownC, hz]) rfl ?_ ?_
     · try simp only [wrap64_eq]
       exact ((H1.out.same (w' := w1.drewN nq) rfl rfl).setN _).setN v
     · exact Rest.setM (Rest.setM (HR.out.drew nq) _ _) _ _
   · go_wp2_with (fail)
     have hz : ¬ m.regs (ix a) < m.regs (ix b) := by rw [HY.out.1, HY.out.2]; omega
     go_end0
     refine HO.out m.on _ (by simp [ownC, hz]) rfl ?_ ?_
     · try simp only [wrap64_eq]
       exact (H1.out.same (w' := w1.drewN nq) rfl rfl).setN _
     · exact Rest.setM (HR.out.drew nq) _ _
 by_cases e6 : d = 6
 · subst e6
   go_wp2_with (fail)
   have H2 := (H1.out.same (w' := w1.drewN nq) rfl rfl).setN (wrap64 (m.next + 1))
   have R2 := Rest.setM (HR.out.drew nq) 6 (.int .i64 (wrap64 (m.next + 1)))
   have d1 : ((w1.drewN nq).setCell ⟨mb, 6, none⟩ (.int .i64 (wrap64 (m.next + 1)))).cell? ⟨B0, 1, none⟩ = some (.int .i64 r) := (zqf (zq3 _ _ _ _ hB2)).trans b1
   have d4 : ((w1.drewN nq).setCell ⟨mb, 6, none⟩ (.int .i64 (wrap64 (m.next + 1)))).cell? ⟨B0, 4, none⟩ = some (.int .i64 v) := (zqf (zq3 _ _ _ _ hB2)).trans b4
   generalize ((w1.drewN nq).setCell ⟨mb, 6, none⟩ (.int .i64 (wrap64 (m.next + 1)))) = w2 at *
   have fz1 := H2.fm (1 + ix r)
   have er1 := H2.cr (ix_lt r)
   clear b0 b1 b2 b3 b4 cra crb fz6 cn
   rw [wrap64_eq] at H2
   have H3 := Lib.hid H2
   have R3 := Lib.hid R2
   clear H2 R2
   obtain ⟨x, hx⟩ : ∃ x, m.regs (ix r) = x := ⟨_, rfl⟩
   rw [show ({ m with next := IntKind.i64.wrap (m.next + 1) } : Mch).regs (ix r) = x from hx] at er1
   have HQ := Lib.hid hx
   clear hx
   obtain ⟨H, hH⟩ : ∃ H, w2.heap.size = H := ⟨_, rfl⟩
   have ct := H3.out.ct
   obtain ⟨ti, hti, hz0, hz1, hz2⟩ : ∃ ti, Try.prog.info? 38 = some ti ∧ ti.zero = some (.agg #[.bool false, .int .i64 0, .slice none 0 0]) ∧ ti.size = 3 ∧ ti.bytes = 40 := ⟨_, rfl, rfl, rfl, rfl⟩
   obtain ⟨ho0, f1, f2, f3⟩ := HT.out
   have R4 := (R3.out.drew 1).al (.cells #[.bool true, .int .i64 x, .slice none 0 0] 38)
   have hrow : ((w2.drewN 1).alloc (.cells #[.bool true, .int .i64 x, .slice none 0 0] 38)).ownsRow base 38 3 tv m.told.length (toldL m.told) := zqd ho0 fun g hg => R4.old g (f3 g hg) (fun e => f1 (e ▸ hg)) fun e => f2 (e ▸ hg)
   have hn4 := al_new (w2.drewN 1) (.cells #[.bool true, .int .i64 x, .slice none 0 0] 38)
   obtain ⟨g, cap, w5, hrun, hown, hgrow, hat, hlt5⟩ := run_append_lies (P := Try.prog) ((w2.drewN 1).alloc (.cells #[.bool true, .int .i64 x, .slice none 0 0] 38)) 36 36 base 38 ti (.agg #[.bool false, .int .i64 0, .slice none 0 0]) 3 40 (by kernel_rfl) hti hz0 hz1 hz2 (by rfl) (by decide) tv m.told.length (toldL m.told) hrow ⟨H, 0, none⟩ 1 1 [.bool true, .int .i64 x, .slice none 0 0] rfl (World.news_of_block (by rw [← hH]; exact hn4)) (by simp [Value.oneCell']) (by decide) (by simp only [maxLen]; omega) (by omega) (by have := R4.size; have := HS.out; omega) _ rfl
   have hb : ∀ b, b < w2.heap.size → tv.ownBlock ≠ some b → w5.heap[b]? = w2.heap[b]? := fun b hb hne => (hgrow.block b (by rw [zq6]; exact Nat.lt_succ_of_lt hb) (fun e => hne e.symm)).trans (by rw [zqa, if_neg (by show b ≠ w2.heap.size; omega)]; rfl)
   have htb := zq4 H3.out.hm
   have h5m := hb mb htb f1
   have H5 := H3.out.same h5m (hb bw (zq4 H3.out.hw) f2)
   have hBw : B0 < w2.heap.size := cell_lt d1
   have h5B := hb B0 hBw fun e => by have := f3 _ e; have := HS.out; omega
   have hct : ∀ W, W = w2.drewN 1 ∨ W = (w2.drewN 1).alloc (.cells #[.bool true, .int .i64 x, .slice none 0 0] 38) ∨ W = w5 → ∀ b, b = mb ∨ b = B0 → ∀ o v, w2.cell? ⟨b, o, none⟩ = some v → W.cell? ⟨b, o, none⟩ = some v := by
    rintro W (rfl | rfl | rfl) b hbb o v hv
    · exact hv
    · exact (zqf (by rw [zqa, if_neg (by show b ≠ w2.heap.size; rcases hbb with e | e <;> rw [e] <;> omega)]; rfl)).trans hv
    · rcases hbb with rfl | rfl
      · exact (zqf h5m).trans hv
      · exact (zqf h5B).trans hv
   refine wp_region_two (k := 14) (s := 12) (t := 13) (W0 := w2.drewN 1) (W1 := (w2.drewN 1).alloc (.cells #[.bool true, .int .i64 x, .slice none 0 0] 38)) (W2 := w5) (by kernel_rfl) (by kernel_rfl) (by kernel_rfl) (by kernel_rfl) (by decide) (by decide) (by decide) (by kernel_rfl)
    [.pointer (some ⟨mb, 0, none⟩), .pointer (some ⟨mb, 0, none⟩), .pointer (some ⟨mb, 0, none⟩), .pointer (some ⟨mb, 5, none⟩), tv, .pointer (some ⟨mb, 0, none⟩), .pointer (some ⟨B0, 1, none⟩), .int .i64 r, .pointer (some ⟨mb, 1 + ix r, none⟩), .pointer (some ⟨mb, 1 + ix r, none⟩), .int .i64 x, .agg #[.bool true, .int .i64 x, .slice none 0 0], .slice (some ⟨H, 0, none⟩) 1 1, .slice (some ⟨g, 0, none⟩) (m.told.length + 1) cap] rfl rfl ?_ ?_ ?_ ?_
   · intro i o hi his hit ho W hWW
     replace ct := hct W hWW mb (.inl rfl) _ _ ct
     replace er1 := hct W hWW mb (.inl rfl) _ _ er1
     replace d1 := hct W hWW B0 (.inr rfl) _ _ d1
     clear hWW hct d4
     simp only [putv, dstOf, al_gl, al_g0, al_g1, al_ob, al_g2, List.set_cons_succ, List.set_cons_zero]
     obtain rfl | rfl | rfl | rfl | rfl | rfl | rfl | rfl | rfl | rfl | rfl | rfl : i = 8 ∨ i = 0 ∨ i = 1 ∨ i = 2 ∨ i = 3 ∨ i = 4 ∨ i = 5 ∨ i = 6 ∨ i = 7 ∨ i = 9 ∨ i = 10 ∨ i = 11 := by omega
     · simp only [al_gl, al_g0, al_g1, al_oi] at ho
       subst ho
       refine .inr ⟨52, #[.pointer (some ⟨mb, 0, none⟩), .int .i64 r], ?_, register_lone _ _ _⟩
       simp [go_sem, execOp, Act.eval, resolve, Deferred.ofValue, invoke, callFunc, Try.func52, Try.f52]
     all_goals (simp only [al_gl, al_g0, al_g1, al_oi] at ho; subst ho; refine .inl ?_)
     all_goals (simp only [execOp, Act.eval, al_gd, al_gl, al_g0, al_g1, al_od])
     all_goals (try go_simp)
   · intro o ho
     simp only [putv, dstOf, al_gl, al_g0, al_g1, al_ob, al_g2, List.set_cons_succ, List.set_cons_zero]
     simp only [al_gl, al_g0, al_g1, al_oi] at ho; subst ho; refine .inl ?_
     simp only [execOp, Act.eval, al_gd, al_gl, al_g0, al_g1, al_od]
     go_simp
   · intro o ho
     simp only [putv, dstOf, al_gl, al_g0, al_g1, al_ob, al_g2, List.set_cons_succ, List.set_cons_zero]
     simp only [al_gl, al_g0, al_g1, al_oi] at ho; subst ho; refine .inl ?_
     unfold execOp
     simp only [resolve, invoke, builtin, Sem.run_bind, Sem.run_pure, Result.andThen_ok, List.map_toArray, List.map_cons, List.map_nil, Act.eval, al_gd, al_gl, al_g0, al_g1, al_od, hrun]
     rfl
   simp only [putv, dstOf, al_gl, al_g0, al_g1, al_ob, al_g2, List.set_cons_succ, List.set_cons_zero]
   have ct5 := H5.ct
   have fz5 := H5.fm 5
   have H6 := Lib.hid H5
   have HA := Lib.hid (And.intro hown (And.intro hgrow (And.intro hat (And.intro hlt5 (And.intro R4 (And.intro h5m f1))))))
   clear H5 hown hgrow hat hlt5 hrow hn4 R4 hti hz0 hz1 hz2 ho0 f1 f2 f3 hct hrun h5m h5B hb d1 d4 er1 ct
   refine wpAny_one (i := 14) (by kernel_rfl) ?_
   simp only [wpOp, al_gl, al_g0, al_g1]
   rw [if_pos (by rfl)]
   refine .inl ?_
   go_simp
   refine wpAny_one (i := 15) (by kernel_rfl) ?_
   simp only [wpOp, al_gl, al_g0, al_g1]
   rw [if_pos (by rfl)]
   refine .inl ?_
   go_simp
   refine wpAny_one (i := 16) (by kernel_rfl) ?_
   simp only [wpOp, al_gl, al_g0, al_g1]
   rw [if_pos (by rfl)]
   refine .inl ?_
   go_simp
   refine wpAny_end (by kernel_rfl) ?_
   clear ct5 fz5
   go_wp2
   go_end0
   obtain ⟨hown, hgrow, hat, hlt5, R4, h5m, f1⟩ := HA.out
   have hq := HQ.out
   have H7 := H6.out.setT (.slice (some ⟨g, 0, none⟩) (m.told.length + 1) cap)
   have hs4 := R4.size
   have hfar := own_ne hown H6.out.hm (by decide)
   have eo : ownC ⟨6, r, a, b, v⟩ m = { m.on with told := m.told ++ [m.regs (ix r)] } := by simp [ownC]
   refine ⟨rfl, .slice (some ⟨g, 0, none⟩) (m.told.length + 1) cap, ?_, ?_, ⟨?_, fun b hb hm hrow => ?_⟩, .inr ⟨g, cap, ?_, ?_, ?_⟩⟩
   · rw [eo]; exact ⟨H7.ne, H7.len, H7.hm, H7.hw⟩
   · rw [eo]
     refine zqd (w := w5) ?_ fun g' hg' => zq3 _ _ _ _ (fun e => hfar (by rw [hg', show g' = mb from e]))
     show w5.ownsRow base _ 3 _ (m.told ++ [m.regs (ix r)]).length (toldL (m.told ++ [m.regs (ix r)]))
     rw [hq]
     simpa [toldL] using hown
   · rw [zqi]; exact Nat.le_trans R4.size hgrow.size
   · rw [zq3 _ _ _ _ hm]
     have hbb : b < ((w2.drewN 1).alloc (.cells #[.bool true, .int .i64 x, .slice none 0 0] 38)).heap.size := Nat.lt_of_lt_of_le hb R4.size
     by_cases hw : b = bw
     · subst hw
       have h8 := H6.out.hw
       rw [h8]
       exact HW0.out.symm
     · exact (hgrow.block b hbb (fun e => hrow e.symm)).trans (R4.old b hb hm hw)
   · rw [eo]; simp
   · rcases hat with h | h
     · exact .inl h
     · right; rw [h]; exact R4.size
   · rw [zqi]; exact hlt5
 go_wp2_with (fail)
 go_end0
 refine HO.out m.on _ (by simp [ownC, e1, e2, e3, e4, e5, e6]) rfl ?_ ?_
 · try simp only [wrap64_eq]
   exact (H1.out.same (w' := w1.drewN nq) rfl rfl).setN _
 · exact Rest.setM (HR.out.drew nq) _ _
set_option maxHeartbeats 1000000
theorem step_lone (mb bw W : Nat) (tv : Value) (ws : List Int) (m : Mch) (c : Cd) (w : World) (h : MachB mb bw W tv ws m w) (hc : isStep W c = true) :
 Calls Try.prog 49 #[.pointer (some ⟨mb, 0, none⟩), cdV c] w fun e w' => StepPost mb bw W tv ws m c w e w' := by
 have hd : 7 ≤ c.d ∧ c.d ≤ 11 := by
  unfold isStep at hc
  simp only [Bool.and_eq_true, decide_eq_true_eq] at hc
  exact hc.1.1
 by_cases h7 : c.d = 7
 · exact step_load mb bw W tv ws m c w h hc h7
 by_cases h8 : c.d = 8
 · exact step_store mb bw W tv ws m c w h hc h8
 by_cases h9 : c.d = 9
 · exact step_add mb bw W tv ws m c w h hc h9
 by_cases h10 : c.d = 10
 · exact step_swap mb bw W tv ws m c w h hc h10
 have h11 : c.d = 11 := by omega
 by_cases hx : ws.getD c.a.toNat 0 = m.regs (ix c.b)
 · exact step_hit mb bw W tv ws m c w h hc h11 hx
 · exact step_miss mb bw W tv ws m c w h hc h11 hx
end Go.Proofs
set_option maxHeartbeats 1000000
namespace Go.Car
open Go Go.RowKit
section
variable {P : Program} {st : Bool}
theorem tame_aread (t : Extern.Atomic.T) (a : Addr) : tame P st (Extern.Atomic.read t a) := by
 unfold Extern.Atomic.read
 repeat' (first | with_reducible exact Tm.out | with_reducible exact zqe _ (fun _ => zq1 (zqc _) fun _ => zqb _) _ | with_reducible refine zq7 ?_ | with_reducible refine zq1 ?_ (fun _ => ?_) | split | simp only [])
instance (t : Extern.Atomic.T) (a : Addr) : Tm P st (Extern.Atomic.read t a) := ⟨tame_aread t a⟩
theorem tame_loadT (t : Extern.Atomic.T) (x : Array Value) : tame P true (Extern.Atomic.loadT t x) := by
 unfold Extern.Atomic.loadT
 rcases x with ⟨_ | ⟨a, _ | ⟨b, l⟩⟩⟩
 · exact tame_stuck _
 rotate_left
 · exact tame_stuck _
 change tame P true (do Extern.Atomic.read t (← asAddr a))
 repeat' (first | with_reducible exact Tm.out | with_reducible exact zqe _ (fun _ => zq1 (zqc _) fun _ => zqb _) _ | with_reducible refine zq7 ?_ | with_reducible refine zq1 ?_ (fun _ => ?_) | split | simp only [])
theorem tame_storeT (x : Array Value) : tame P true (Extern.Atomic.storeT x) := by
 unfold Extern.Atomic.storeT
 rcases x with ⟨_ | ⟨a, _ | ⟨b, _ | ⟨c, l⟩⟩⟩⟩
 · exact tame_stuck _
 · exact tame_stuck _
 rotate_left
 · exact tame_stuck _
 change tame P true (do store (← asAddr a) b .atomic; pure Extern.Atomic.none_)
 repeat' (first | with_reducible exact Tm.out | with_reducible exact zqe _ (fun _ => zq1 (zqc _) fun _ => zqb _) _ | with_reducible refine zq7 ?_ | with_reducible refine zq1 ?_ (fun _ => ?_) | split | simp only [])
theorem tame_swapT (t : Extern.Atomic.T) (x : Array Value) : tame P true (Extern.Atomic.swapT t x) := by
 unfold Extern.Atomic.swapT
 rcases x with ⟨_ | ⟨a, _ | ⟨b, _ | ⟨c, l⟩⟩⟩⟩
 · exact tame_stuck _
 · exact tame_stuck _
 rotate_left
 · exact tame_stuck _
 change tame P true (do let a ← asAddr a; let old ← Extern.Atomic.read t a; store a b .atomic; pure old)
 repeat' (first | with_reducible exact Tm.out | with_reducible exact zqe _ (fun _ => zq1 (zqc _) fun _ => zqb _) _ | with_reducible refine zq7 ?_ | with_reducible refine zq1 ?_ (fun _ => ?_) | split | simp only [])
theorem tame_update (k : IntKind) (b : Bool) (x : Array Value) : tame P true (Extern.Atomic.update (Op.intArith .add) k b x) := by
 unfold Extern.Atomic.update
 rcases x with ⟨_ | ⟨a, _ | ⟨y, _ | ⟨c, l⟩⟩⟩⟩
 · exact tame_stuck _
 · exact tame_stuck _
 rotate_left
 · exact tame_stuck _
 change tame P true (do let a ← asAddr a; let old ← Extern.Atomic.read (.int k) a; let new ← Op.intArith .add k (← asInt old) (← asInt y); store a new .atomic; pure (if b then new else old))
 repeat' (first | with_reducible exact Tm.out | with_reducible exact zqe _ (fun _ => zq1 (zqc _) fun _ => zqb _) _ | with_reducible refine zq7 ?_ | with_reducible refine zq1 ?_ (fun _ => ?_) | split | simp only [])
theorem tame_anyM {α : Type} (f : α → Sem Bool) (h : ∀ a, tame P st (f a)) (l : List α) : tame P st (l.anyM f) := by
 induction l with
 | nil => exact zqb _
 | cons a l ih =>
  rw [List.anyM]
  refine zq1 (h a) fun b => ?_
  cases b
  · exact ih
  · exact zqb _
theorem tame_touches (a : Addr) : tame P st (Extern.Atomic.touchesFrozen a) := by
 unfold Extern.Atomic.touchesFrozen
 refine zq1 (tame_viewAt _) fun v => ?_
 split
 · exact tame_frozen _
 · refine zq1 (tame_typeInfo _) fun i => ?_
   simp only []
   split
   · exact tame_u4 _
   · exact tame_anyM _ (fun _ => tame_frozen _) _
instance (a : Addr) : Tm P st (Extern.Atomic.touchesFrozen a) := ⟨tame_touches a⟩
theorem tame_casT (t : Extern.Atomic.T) (x : Array Value) : tame P true (Extern.Atomic.casT t x) := by
 unfold Extern.Atomic.casT
 rcases x with ⟨_ | ⟨a, _ | ⟨b, _ | ⟨c, _ | ⟨d, l⟩⟩⟩⟩⟩
 · exact tame_stuck _
 · exact tame_stuck _
 · exact tame_stuck _
 rotate_left
 · exact tame_stuck _
 change tame P true (asAddr a >>= _)
 repeat' (first | with_reducible exact Tm.out | with_reducible exact zqe _ (fun _ => zq1 (zqc _) fun _ => zqb _) _ | with_reducible refine zq7 ?_ | with_reducible refine zq1 ?_ (fun _ => ?_) | split | simp only [])
instance (t : Extern.Atomic.T) (a : Addr) : Stdy P (Extern.Atomic.read t a) := ⟨by
 unfold Extern.Atomic.read
 repeat' (first | with_reducible exact Stdy.out | with_reducible refine zq8 ?_ | with_reducible refine zq9 ?_ (fun _ => ?_) | with_reducible refine zq5 ?_ (fun _ => ?_) | exact fun _ _ => rfl | split | simp only [])⟩
theorem steady_loadT (t : Extern.Atomic.T) (x : Array Value) : zq2 P (Extern.Atomic.loadT t x) := by
 unfold Extern.Atomic.loadT
 rcases x with ⟨_ | ⟨a, _ | ⟨b, l⟩⟩⟩
 · exact steady_halt _
 rotate_left
 · exact steady_halt _
 change zq2 P (do Extern.Atomic.read t (← asAddr a))
 repeat' (first | with_reducible exact Stdy.out | with_reducible refine zq8 ?_ | with_reducible refine zq9 ?_ (fun _ => ?_) | with_reducible refine zq5 ?_ (fun _ => ?_) | exact fun _ _ => rfl | split | simp only [])
theorem steady_storeT (x : Array Value) : zq2 P (Extern.Atomic.storeT x) := by
 unfold Extern.Atomic.storeT
 rcases x with ⟨_ | ⟨a, _ | ⟨b, _ | ⟨c, l⟩⟩⟩⟩
 · exact steady_halt _
 · exact steady_halt _
 rotate_left
 · exact steady_halt _
 change zq2 P (do store (← asAddr a) b .atomic; pure Extern.Atomic.none_)
 repeat' (first | with_reducible exact Stdy.out | with_reducible refine zq8 ?_ | with_reducible refine zq9 ?_ (fun _ => ?_) | with_reducible refine zq5 ?_ (fun _ => ?_) | exact fun _ _ => rfl | split | simp only [])
theorem steady_swapT (t : Extern.Atomic.T) (x : Array Value) : zq2 P (Extern.Atomic.swapT t x) := by
 unfold Extern.Atomic.swapT
 rcases x with ⟨_ | ⟨a, _ | ⟨b, _ | ⟨c, l⟩⟩⟩⟩
 · exact steady_halt _
 · exact steady_halt _
 rotate_left
 · exact steady_halt _
 change zq2 P (do let a ← asAddr a; let old ← Extern.Atomic.read t a; store a b .atomic; pure old)
 repeat' (first | with_reducible exact Stdy.out | with_reducible refine zq8 ?_ | with_reducible refine zq9 ?_ (fun _ => ?_) | with_reducible refine zq5 ?_ (fun _ => ?_) | exact fun _ _ => rfl | split | simp only [])
theorem steady_update (k : IntKind) (b : Bool) (x : Array Value) : zq2 P (Extern.Atomic.update (Op.intArith .add) k b x) := by
 unfold Extern.Atomic.update
 rcases x with ⟨_ | ⟨a, _ | ⟨y, _ | ⟨c, l⟩⟩⟩⟩
 · exact steady_halt _
 · exact steady_halt _
 rotate_left
 · exact steady_halt _
 change zq2 P (do let a ← asAddr a; let old ← Extern.Atomic.read (.int k) a; let new ← Op.intArith .add k (← asInt old) (← asInt y); store a new .atomic; pure (if b then new else old))
 repeat' (first | with_reducible exact Stdy.out | with_reducible refine zq8 ?_ | with_reducible refine zq9 ?_ (fun _ => ?_) | with_reducible refine zq5 ?_ (fun _ => ?_) | exact fun _ _ => rfl | split | simp only [])
theorem steady_anyM {α : Type} (f : α → Sem Bool) (h : ∀ a, zq2 P (f a)) (l : List α) : zq2 P (l.anyM f) := by
 induction l with
 | nil => exact steady_pure _
 | cons a l ih =>
  rw [List.anyM]
  refine zq5 (h a) fun b => ?_
  cases b
  · exact ih
  · exact steady_pure _
theorem steady_touches (a : Addr) : zq2 P (Extern.Atomic.touchesFrozen a) := by
 unfold Extern.Atomic.touchesFrozen
 refine zq5 (steady_viewAt _) fun v => ?_
 split
 · exact steady_frozen _
 · refine zq5 (steady_typeInfo _) fun i => ?_
   simp only []
   split
   · exact steady_halt _
   · exact steady_anyM _ (fun _ => steady_frozen _) _
instance (a : Addr) : Stdy P (Extern.Atomic.touchesFrozen a) := ⟨steady_touches a⟩
instance (a b : Option Addr) : Stdy P (samePointer a b) := ⟨steady_samePointer a b⟩
theorem steady_casT (t : Extern.Atomic.T) (x : Array Value) : zq2 P (Extern.Atomic.casT t x) := by
 unfold Extern.Atomic.casT
 rcases x with ⟨_ | ⟨a, _ | ⟨b, _ | ⟨c, _ | ⟨d, l⟩⟩⟩⟩⟩
 · exact steady_halt _
 · exact steady_halt _
 · exact steady_halt _
 rotate_left
 · exact steady_halt _
 change zq2 P (asAddr a >>= _)
 repeat' (first | with_reducible exact Stdy.out | with_reducible refine zq8 ?_ | with_reducible refine zq9 ?_ (fun _ => ?_) | with_reducible refine zq5 ?_ (fun _ => ?_) | exact fun _ _ => rfl | split | simp only [])
end
end Go.Car
set_option maxHeartbeats 1000000
set_option maxRecDepth 100000
namespace Go.Proofs
open Go Go.Conc Go.RowKit Go.Car
def aL : List FuncId := [10, 11, 12, 13, 15, 16, 17, 18, 19, 22, 23, 24, 25, 26, 27, 28, 29, 30, 31, 32, 33, 39, 42, 43, 44, 45, 49, 50, 52, 53, 54, 55].append [51, 48, 56, 57, 58]
def aM (f : FuncId) : Bool := aL.contains f
theorem okf0 : okFn Try.prog aM 10 := .text _ _ Try.func10 rfl (by kernel_rfl) (by kernel_rfl)
theorem okf1 : okFn Try.prog aM 11 := .text _ _ Try.func11 rfl (by kernel_rfl) (by kernel_rfl)
theorem okf2 : okFn Try.prog aM 12 := .text _ _ Try.func12 rfl (by kernel_rfl) (by kernel_rfl)
theorem okf3 : okFn Try.prog aM 13 := .text _ _ Try.func13 rfl (by kernel_rfl) (by kernel_rfl)
theorem okf4 : okFn Try.prog aM 15 := .text _ _ Try.func15 rfl (by kernel_rfl) (by kernel_rfl)
theorem okf5 : okFn Try.prog aM 16 := .text _ _ Try.func16 rfl (by kernel_rfl) (by kernel_rfl)
theorem okf6 : okFn Try.prog aM 17 := .text _ _ Try.func17 rfl (by kernel_rfl) (by kernel_rfl)
theorem okf7 : okFn Try.prog aM 18 := .text _ _ Try.func18 rfl (by kernel_rfl) (by kernel_rfl)
theorem okf8 : okFn Try.prog aM 19 := .text _ _ Try.func19 rfl (by kernel_rfl) (by kernel_rfl)
theorem okf9 : okFn Try.prog aM 22 := .text _ _ Try.func22 rfl (by kernel_rfl) (by kernel_rfl)
theorem okf10 : okFn Try.prog aM 23 := .text _ _ Try.func23 rfl (by kernel_rfl) (by kernel_rfl)
theorem okf11 : okFn Try.prog aM 24 := .text _ _ Try.func24 rfl (by kernel_rfl) (by kernel_rfl)
theorem okf12 : okFn Try.prog aM 25 := .text _ _ Try.func25 rfl (by kernel_rfl) (by kernel_rfl)
theorem okf13 : okFn Try.prog aM 26 := .text _ _ Try.func26 rfl (by kernel_rfl) (by kernel_rfl)
theorem okf14 : okFn Try.prog aM 27 := .text _ _ Try.func27 rfl (by kernel_rfl) (by kernel_rfl)
theorem okf15 : okFn Try.prog aM 28 := .text _ _ Try.func28 rfl (by kernel_rfl) (by kernel_rfl)
theorem okf16 : okFn Try.prog aM 29 := .text _ _ Try.func29 rfl (by kernel_rfl) (by kernel_rfl)
theorem okf17 : okFn Try.prog aM 30 := .text _ _ Try.func30 rfl (by kernel_rfl) (by kernel_rfl)
theorem okf18 : okFn Try.prog aM 31 := .text _ _ Try.func31 rfl (by kernel_rfl) (by kernel_rfl)
theorem okf19 : okFn Try.prog aM 32 := .text _ _ Try.func32 rfl (by kernel_rfl) (by kernel_rfl)
theorem okf20 : okFn Try.prog aM 33 := .text _ _ Try.func33 rfl (by kernel_rfl) (by kernel_rfl)
theorem okf21 : okFn Try.prog aM 39 := .text _ _ Try.func39 rfl (by kernel_rfl) (by kernel_rfl)
theorem okf22 : okFn Try.prog aM 42 := .text _ _ Try.func42 rfl (by kernel_rfl) (by kernel_rfl)
theorem okf23 : okFn Try.prog aM 43 := .text _ _ Try.func43 rfl (by kernel_rfl) (by kernel_rfl)
theorem okf24 : okFn Try.prog aM 44 := .text _ _ Try.func44 rfl (by kernel_rfl) (by kernel_rfl)
theorem okf25 : okFn Try.prog aM 45 := .text _ _ Try.func45 rfl (by kernel_rfl) (by kernel_rfl)
theorem okf26 : okFn Try.prog aM 49 := .text _ _ Try.func49 rfl (by kernel_rfl) (by kernel_rfl)
theorem okf27 : okFn Try.prog aM 50 := .text _ _ Try.func50 rfl (by kernel_rfl) (by kernel_rfl)
theorem okf28 : okFn Try.prog aM 52 := .text _ _ Try.func52 rfl (by kernel_rfl) (by kernel_rfl)
theorem okf29 : okFn Try.prog aM 53 := .text _ _ Try.func53 rfl (by kernel_rfl) (by kernel_rfl)
theorem okf30 : okFn Try.prog aM 54 := .text _ _ Try.func54 rfl (by kernel_rfl) (by kernel_rfl)
theorem okf31 : okFn Try.prog aM 55 := .text _ _ Try.func55 rfl (by kernel_rfl) (by kernel_rfl)
theorem okr0 : okFn Try.prog aM 51 := .row _ (Extern.Atomic.loadT (.int .i64)) Try.func51 rfl (by kernel_rfl) (by kernel_rfl) (by kernel_rfl) (fun _ => tame_loadT _ _)
theorem okr1 : okFn Try.prog aM 48 := .row _ (Extern.Atomic.storeT) Try.func48 rfl (by kernel_rfl) (by kernel_rfl) (by kernel_rfl) (fun _ => tame_storeT _)
theorem okr2 : okFn Try.prog aM 56 := .row _ (Extern.Atomic.update (Op.intArith .add) .i64 true) Try.func56 rfl (by kernel_rfl) (by kernel_rfl) (by kernel_rfl) (fun _ => tame_update _ _ _)
theorem okr3 : okFn Try.prog aM 57 := .row _ (Extern.Atomic.swapT (.int .i64)) Try.func57 rfl (by kernel_rfl) (by kernel_rfl) (by kernel_rfl) (fun _ => tame_swapT _ _)
theorem okr4 : okFn Try.prog aM 58 := .row _ (Extern.Atomic.casT (.int .i64)) Try.func58 rfl (by kernel_rfl) (by kernel_rfl) (by kernel_rfl) (fun _ => tame_casT _ _)
theorem noReady : (Try.prog.funcs.toList.all fun f => match f.body with | some c => (readies c).isEmpty | none => true) = true := by kernel_rfl
theorem stepOf_none (g : Nat) : Try.prog.stepOf g = none := by
 unfold Program.stepOf
 rw [Array.findIdx?_eq_none_iff]
 intro f hf
 have h := noReady
 rw [List.all_eq_true] at h
 have := h f (by simpa using hf)
 cases hb : f.body with
 | none => rfl
 | some c => rw [hb] at this; simp only [List.isEmpty_iff] at this; simp [this]
theorem plainM : Plain Try.prog aM := by
 refine ⟨fun f hf => ?_, by kernel_rfl, stepOf_none⟩
 have hf' : f ∈ aL := by simpa [aM] using hf
 simp only [aL, List.append_eq, List.cons_append, List.nil_append, List.mem_cons, List.not_mem_nil, or_false] at hf'
 rcases hf' with rfl | rfl | rfl | rfl | rfl | rfl | rfl | rfl | rfl | rfl | rfl | rfl | rfl | rfl | rfl | rfl | rfl | rfl | rfl | rfl | rfl | rfl | rfl | rfl | rfl | rfl | rfl | rfl | rfl | rfl | rfl | rfl | rfl | rfl | rfl | rfl | rfl
 · exact okf0
 · exact okf1
 · exact okf2
 · exact okf3
 · exact okf4
 · exact okf5
 · exact okf6
 · exact okf7
 · exact okf8
 · exact okf9
 · exact okf10
 · exact okf11
 · exact okf12
 · exact okf13
 · exact okf14
 · exact okf15
 · exact okf16
 · exact okf17
 · exact okf18
 · exact okf19
 · exact okf20
 · exact okf21
 · exact okf22
 · exact okf23
 · exact okf24
 · exact okf25
 · exact okf26
 · exact okf27
 · exact okf28
 · exact okf29
 · exact okf30
 · exact okf31
 · exact okr0
 · exact okr1
 · exact okr2
 · exact okr3
 · exact okr4
theorem rowsM : RowsS Try.prog aM := by
 intro f hf fn e h1 h2 h3 args
 have hf' : f ∈ aL := by simpa [aM] using hf
 simp only [aL, List.append_eq, List.cons_append, List.nil_append, List.mem_cons, List.not_mem_nil, or_false] at hf'
 rcases hf' with rfl | rfl | rfl | rfl | rfl | rfl | rfl | rfl | rfl | rfl | rfl | rfl | rfl | rfl | rfl | rfl | rfl | rfl | rfl | rfl | rfl | rfl | rfl | rfl | rfl | rfl | rfl | rfl | rfl | rfl | rfl | rfl | rfl | rfl | rfl | rfl | rfl
 · rw [Try.func10] at h1; cases h1; cases h2
 · rw [Try.func11] at h1; cases h1; cases h2
 · rw [Try.func12] at h1; cases h1; cases h2
 · rw [Try.func13] at h1; cases h1; cases h2
 · rw [Try.func15] at h1; cases h1; cases h2
 · rw [Try.func16] at h1; cases h1; cases h2
 · rw [Try.func17] at h1; cases h1; cases h2
 · rw [Try.func18] at h1; cases h1; cases h2
 · rw [Try.func19] at h1; cases h1; cases h2
 · rw [Try.func22] at h1; cases h1; cases h2
 · rw [Try.func23] at h1; cases h1; cases h2
 · rw [Try.func24] at h1; cases h1; cases h2
 · rw [Try.func25] at h1; cases h1; cases h2
 · rw [Try.func26] at h1; cases h1; cases h2
 · rw [Try.func27] at h1; cases h1; cases h2
 · rw [Try.func28] at h1; cases h1; cases h2
 · rw [Try.func29] at h1; cases h1; cases h2
 · rw [Try.func30] at h1; cases h1; cases h2
 · rw [Try.func31] at h1; cases h1; cases h2
 · rw [Try.func32] at h1; cases h1; cases h2
 · rw [Try.func33] at h1; cases h1; cases h2
 · rw [Try.func39] at h1; cases h1; cases h2
 · rw [Try.func42] at h1; cases h1; cases h2
 · rw [Try.func43] at h1; cases h1; cases h2
 · rw [Try.func44] at h1; cases h1; cases h2
 · rw [Try.func45] at h1; cases h1; cases h2
 · rw [Try.func49] at h1; cases h1; cases h2
 · rw [Try.func50] at h1; cases h1; cases h2
 · rw [Try.func52] at h1; cases h1; cases h2
 · rw [Try.func53] at h1; cases h1; cases h2
 · rw [Try.func54] at h1; cases h1; cases h2
 · rw [Try.func55] at h1; cases h1; cases h2
 · rw [Try.func51] at h1; cases h1
   have h4 : Extern.find Try.f51 = some (Extern.Atomic.loadT (.int .i64)) := by kernel_rfl
   rw [h4] at h3; cases h3; exact steady_loadT _ _
 · rw [Try.func48] at h1; cases h1
   have h4 : Extern.find Try.f48 = some (Extern.Atomic.storeT) := by kernel_rfl
   rw [h4] at h3; cases h3; exact steady_storeT _
 · rw [Try.func56] at h1; cases h1
   have h4 : Extern.find Try.f56 = some (Extern.Atomic.update (Op.intArith .add) .i64 true) := by kernel_rfl
   rw [h4] at h3; cases h3; exact steady_update _ _ _
 · rw [Try.func57] at h1; cases h1
   have h4 : Extern.find Try.f57 = some (Extern.Atomic.swapT (.int .i64)) := by kernel_rfl
   rw [h4] at h3; cases h3; exact steady_swapT _ _
 · rw [Try.func58] at h1; cases h1
   have h4 : Extern.find Try.f58 = some (Extern.Atomic.casT (.int .i64)) := by kernel_rfl
   rw [h4] at h3; cases h3; exact steady_casT _ _
def MM.put (m : MM) (i : Nat) (ws : List Int) (x : Mch) (v : Value) (c : Option Nat) : MM :=
 { m with ws := ws, th := fun j => if j = i then x else m.th j, tv := fun j => if j = i then v else m.tv j, cb := fun j => if j = i then c else m.cb j }
theorem heap_type {w : World} {b : Nat} {c c' : Array Value} {T T' : TypeId} {f f' : Nat × Nat} (h : w.heap[b]? = some (.cells c T f)) (h' : w.heap[b]? = some (.cells c' T' f')) : T = T' := by
 rw [h] at h'; simp only [al_oi, Obj.cells.injEq] at h'; exact h'.2.1
theorem heap_ne {w : World} {b b' : Nat} {c c' : Array Value} {T T' : TypeId} {f f' : Nat × Nat} (h : w.heap[b]? = some (.cells c T f)) (h' : w.heap[b']? = some (.cells c' T' f')) (hne : T ≠ T') : b ≠ b' := fun e => by subst e; exact hne (heap_type h h')
theorem MS.Body.step {S : MS} {m : MM} {w w' : World} (h : S.Body m w) {i : Nat} (hi : i < S.N) {ws' : List Int} {x : Mch} {v : Value} {c : Option Nat} (hlen : ws'.length = S.W) (hw : w'.heap[S.bw]? = some (.cells (ws'.map (Value.int .i64)).toArray 114)) (hm : w'.heap[S.mb i]? = some (.cells (machC S x v) 118))
 (ht : w'.ownsRow S.base 38 3 v x.told.length (toldL x.told)) (hc : ∀ b, c = some b → w.heap.size ≤ b ∧ ∃ cd, atC (S.prog i) x = some cd ∧ isStep S.W cd = true ∧ w'.heap[b]? = some (.cells (cdL cd).toArray 74))
 (hold : ∀ b, b < w.heap.size → b ≠ S.bw → b ≠ S.mb i → (m.tv i).ownBlock ≠ some b → w'.heap[b]? = w.heap[b]?) (hsz : w.heap.size ≤ w'.heap.size) (htv : ∀ g, v.ownBlock = some g → (m.tv i).ownBlock = some g ∨ w.heap.size ≤ g) :
 S.Body (m.put i ws' x v c) w' ∧ Grow S.thr m w (m.put i ws' x v c) w' := by
 have hbm : ∀ j, j < S.N → S.mb j ≠ S.bw := fun j hj => heap_ne (h.mach j hj) h.words (by decide)
 have htb : ∀ j g, j < S.N → (m.tv j).ownBlock = some g → g ≠ S.bw ∧ (∀ k, k < S.N → g ≠ S.mb k) ∧ g < w.heap.size := fun j g hj hg => by
  obtain ⟨cc, hcc⟩ := h.block hj hg
  exact ⟨heap_ne hcc h.words (by decide), fun k hk => heap_ne hcc (h.mach k hk) (by decide), zq4 hcc⟩
 have hcb : ∀ j g, j < S.N → m.cb j = some g → g ≠ S.bw ∧ (∀ k, k < S.N → g ≠ S.mb k) ∧ (∀ k g', k < S.N → (m.tv k).ownBlock = some g' → g' ≠ g) ∧ g < w.heap.size := fun j g hj hg => by
  obtain ⟨cd, _, _, hcc⟩ := h.code j g hj hg
  refine ⟨heap_ne hcc h.words (by decide), fun k hk => heap_ne hcc (h.mach k hk) (by decide), fun k g' hk hg' => ?_, zq4 hcc⟩
  obtain ⟨c2, hc2⟩ := h.block hk hg'
  exact heap_ne hc2 hcc (by decide)
 have hro : ∀ b o, S.ro b = some o → b < w.heap.size ∧ b ≠ S.bw ∧ (∀ k, k < S.N → b ≠ S.mb k) ∧ ∀ k, k < S.N → (m.tv k).ownBlock ≠ some b := fun b o ho => by
  refine ⟨zq4 (h.ro b o ho), fun e => ?_, fun k hk e => ?_, fun k hk e => ?_⟩
  · rw [e, h.rofree.1] at ho; cases ho
  · rw [e, h.rofree.2.1 k hk] at ho; cases ho
  · rw [h.rofree.2.2.1 k b hk e] at ho; cases ho
 have tvi : (m.put i ws' x v c).tv i = v := by simp [MM.put]
 have tvj : ∀ j, j ≠ i → (m.put i ws' x v c).tv j = m.tv j := fun j hj => by simp [MM.put, hj]
 have thi : (m.put i ws' x v c).th i = x := by simp [MM.put]
 have thj : ∀ j, j ≠ i → (m.put i ws' x v c).th j = m.th j := fun j hj => by simp [MM.put, hj]
 have cbi : (m.put i ws' x v c).cb i = c := by simp [MM.put]
 have cbj : ∀ j, j ≠ i → (m.put i ws' x v c).cb j = m.cb j := fun j hj => by simp [MM.put, hj]
 refine ⟨⟨hlen, hw, fun j hj => ?_, fun j hj => ?_, fun j b hj hb => ?_, fun b o ho => ?_, h.inj, ⟨h.rofree.1, h.rofree.2.1, fun j g hj hg => ?_, fun j g hj hg => ?_⟩, fun j k g hj hk hjk hg => ?_, h.lo, fun j k g hj hk hjk hg => ?_⟩, ⟨hsz, fun b hb hf => ?_, fun b hb => ?_⟩⟩
 · by_cases e : j = i
   · subst e; rw [thi, tvi]; exact hm
   · rw [thj j e, tvj j e, hold _ (zq4 (h.mach j hj)) (hbm j hj) (fun e2 => e (h.inj j i hj hi e2)) (fun e2 => (htb i _ hi e2).2.1 j hj rfl)]
     exact h.mach j hj
 · by_cases e : j = i
   · subst e; rw [thi, tvi]; exact ht
   · rw [thj j e, tvj j e]
     refine zqd (h.told j hj) fun g hg => ?_
     obtain ⟨h1, h2, h3⟩ := htb j g hj hg
     exact hold g h3 h1 (h2 i hi) (fun e2 => h.sep j i g hj hi e hg e2)
 · by_cases e : j = i
   · subst e; rw [cbi] at hb; rw [thi]; exact (hc b hb).2
   · rw [cbj j e] at hb; rw [thj j e]
     obtain ⟨cd, h1, h0, h2⟩ := h.code j b hj hb
     obtain ⟨k1, k2, k3, k4⟩ := hcb j b hj hb
     exact ⟨cd, h1, h0, (hold b k4 k1 (k2 i hi) (fun e2 => k3 i b hi e2 rfl)).trans h2⟩
 · obtain ⟨k1, k2, k3, k4⟩ := hro b o ho
   exact (hold b k1 k2 (k3 i hi) (k4 i hi)).trans (h.ro b o ho)
 · by_cases e : j = i
   · subst e; rw [tvi] at hg
     rcases htv g hg with h1 | h1
     · exact h.rofree.2.2.1 j g hj h1
     · cases ho : S.ro g with
       | none => rfl
       | some o => have := (hro g o ho).1; omega
   · rw [tvj j e] at hg; exact h.rofree.2.2.1 j g hj hg
 · by_cases e : j = i
   · subst e; rw [cbi] at hg
     have h1 := (hc g hg).1
     cases ho : S.ro g with
     | none => rfl
     | some o => have := (hro g o ho).1; omega
   · rw [cbj j e] at hg; exact h.rofree.2.2.2 j g hj hg
 · by_cases e : j = i
   · subst e; rw [tvi] at hg; rw [tvj k (Ne.symm hjk)]
     intro hk2
     rcases htv g hg with h1 | h1
     · exact h.sep j k g hj hk hjk h1 hk2
     · have := (htb k g hk hk2).2.2; omega
   · rw [tvj j e] at hg
     by_cases e2 : k = i
     · subst e2; rw [tvi]
       intro hk2
       rcases htv g hk2 with h1 | h1
       · exact h.sep j k g hj hk hjk hg h1
       · have := (htb j g hj hg).2.2; omega
     · rw [tvj k e2]; exact h.sep j k g hj hk hjk hg
 · by_cases e : j = i
   · subst e; rw [cbi] at hg; rw [cbj k (Ne.symm hjk)]
     intro hk2
     have := (hc g hg).1
     have := (hcb k g hk hk2).2.2.2; omega
   · rw [cbj j e] at hg
     by_cases e2 : k = i
     · subst e2; rw [cbi]
       intro hk2
       have := (hc g hk2).1
       have := (hcb j g hj hg).2.2.2; omega
     · rw [cbj k e2]; exact h.csep j k g hj hk hjk hg
 · refine hold b hb (fun e => hf (.inl e)) (fun e => hf (.inr (.inl ⟨i, hi, .inl e⟩))) (fun e => hf (.inr (.inl ⟨i, hi, .inr (.inl e)⟩)))
 · rcases hb with e | ⟨j, hj, e | e | e⟩ | e
   · exact .inl (.inl e)
   · exact .inl (.inr (.inl ⟨j, hj, .inl e⟩))
   · by_cases e2 : j = i
     · subst e2; rw [tvi] at e
       rcases htv b e with h1 | h1
       · exact .inl (.inr (.inl ⟨j, hj, .inr (.inl h1)⟩))
       · exact .inr h1
     · rw [tvj j e2] at e; exact .inl (.inr (.inl ⟨j, hj, .inr (.inl e)⟩))
   · by_cases e2 : j = i
     · subst e2; rw [cbi] at e; exact .inr (hc b e).1
     · rw [cbj j e2] at e; exact .inl (.inr (.inl ⟨j, hj, .inr (.inr e)⟩))
   · exact .inl (.inr (.inr e))
theorem MS.Body.machB {S : MS} {m : MM} {w : World} (h : S.Body m w) {i : Nat} (hi : i < S.N) : MachB (S.mb i) S.bw S.W (m.tv i) m.ws (m.th i) w :=
 ⟨heap_ne (h.mach i hi) h.words (by decide), h.len, h.mach i hi, h.words⟩
theorem MachB.of {mb bw W : Nat} {tv : Value} {ws : List Int} {x : Mch} {w w' : World} (h : MachB mb bw W tv ws x w) (h1 : w'.heap[mb]? = w.heap[mb]?) (h2 : w'.heap[bw]? = w.heap[bw]?) : MachB mb bw W tv ws x w' := h.same h1 h2
section
variable {S : MS} {m : MM} {w : World} {Kc : Addr → Option Value} {X : Snap} {J : Goroutine → World → Prop} {i : Nat}
theorem cut_block {X : Snap} {w wc w' wc' : World} (h : Cut X w wc) (h' : Cut X w' wc') {b : Nat} (hb : wc'.heap[b]? = wc.heap[b]?) : w'.heap[b]? = w.heap[b]? := by
 cases hx : X b with
 | none => rw [← h.no b hx, ← h'.no b hx]; exact hb
 | some p => obtain ⟨c, e⟩ := p; rw [(h.is b c e hx).1, (h'.is b c e hx).1]
theorem step_env (hE : Env Try.prog S.thr Kc X J m w) (hB : S.Body m w) (hi : i < S.N) {c : Cd} (hc : isStep S.W c = true) {cl : Frame} {cs : List Frame}
 (h : ∀ w', S.Body (m.put i (stepC c m.ws (m.th i)).1 (stepC c m.ws (m.th i)).2 (m.tv i) none) w' → Grow S.thr m w (m.put i (stepC c m.ws (m.th i)).1 (stepC c m.ws (m.th i)).2 (m.tv i) none) w' → J (G (cl.finish (.tuple #[])) cs) w') :
 J (G (Frame.enter Try.prog 49 #[.pointer (some ⟨S.mb i, 0, none⟩), cdV c] .normal) (cl :: cs)) w := by
 have hX : ∀ b, S.foot m b → X b = none := fun b hb => by
  cases hx : X b with
  | none => rfl
  | some p => exact absurd hb (hE.free b p hx)
 have hfm : S.foot m (S.mb i) := .inr (.inl ⟨i, hi, .inl rfl⟩)
 have hfw : S.foot m S.bw := .inl rfl
 refine callsJ_cut (J := fun (_ : Unit) => J) (s := ()) hE.js hE.calm plainM rowsM Try.func49 rfl (by kernel_rfl) (R := fun v wc' => ∃ wc, (∃ τ d, Cut X (re w τ d) wc) ∧ StepPost (S.mb i) S.bw S.W (m.tv i) m.ws (m.th i) c wc (.returned v) wc') ?_ hE.rows ?_
  (Post := fun _ e w' => e = .returned (.tuple #[]) ∧ S.Body (m.put i (stepC c m.ws (m.th i)).1 (stepC c m.ws (m.th i)).2 (m.tv i) none) w' ∧ Grow S.thr m w (m.put i (stepC c m.ws (m.th i)).1 (stepC c m.ws (m.th i)).2 (m.tv i) none) w') ?_ cl cs ?_ ?_
 · rintro v wc' τ d ⟨wc, h1, h2, h3, h4⟩
   exact ⟨wc, h1, h2, h3.same rfl rfl, ⟨h4.size, h4.old⟩⟩
 · rintro wc ⟨τ, d, hcut⟩
   have hb : MachB (S.mb i) S.bw S.W (m.tv i) m.ws (m.th i) wc := (hB.machB hi).same (hcut.no _ (hX _ hfm)) (hcut.no _ (hX _ hfw))
   refine Calls.mono (step_lone _ _ _ _ _ _ _ _ hb hc) ?_
   rintro e w' h2
   have he := h2.1
   subst he
   exact ⟨wc, ⟨τ, d, hcut⟩, h2⟩
 · rintro v wc' w' ⟨wc, ⟨τ, d, hcut⟩, h1, h2, h3⟩ hcut' hch
   cases h1
   have hsize : w.heap.size ≤ w'.heap.size := by have := h3.size; have e1 := hcut.size; have e2 := hcut'.size; have e3 : (re w τ d).heap.size = w.heap.size := rfl; omega
   have hsw : w'.heap[S.bw]? = _ := (hcut'.no _ (hX _ hfw)).symm.trans h2.hw
   have hsm : w'.heap[S.mb i]? = _ := (hcut'.no _ (hX _ hfm)).symm.trans h2.hm
   have hold : ∀ b, b < w.heap.size → b ≠ S.mb i → b ≠ S.bw → w'.heap[b]? = w.heap[b]? := fun b hb h1 h2 => by
    have hbc : b < wc.heap.size := by rw [hcut.size]; exact hb
    exact cut_block hcut hcut' (h3.old b hbc h1 h2)
   refine ⟨rfl, hB.step hi h2.len hsw hsm ?_ (fun b hb => by cases hb) (fun b hb h1 h2 _ => hold b hb h2 h1) hsize (fun g hg => .inl hg)⟩
   rw [stepC_told]
   refine zqd (hB.told i hi) fun g hg => ?_
   obtain ⟨cc, hcc⟩ := hB.block hi hg
   exact hold g (zq4 hcc) (heap_ne hcc (hB.mach i hi) (by decide)) (heap_ne hcc hB.words (by decide))
 · rintro _ v w' ⟨h1, h2, h3⟩
   cases h1
   exact h w' h2 h3
 · rintro _ ch w' ⟨h1, _⟩
   cases h1
theorem own_env (hE : Env Try.prog S.thr Kc X J m w) (hB : S.Body m w) (hi : i < S.N) (hlen : (m.th i).told.length < 8589934592) {c : Cd} {cl : Frame} {cs : List Frame}
 (h : ∀ v' w', S.Body (m.put i m.ws (ownC c (m.th i)) v' none) w' → Grow S.thr m w (m.put i m.ws (ownC c (m.th i)) v' none) w' → J (G (cl.finish (.tuple #[])) cs) w') :
 J (G (Frame.enter Try.prog 50 #[.pointer (some ⟨S.mb i, 0, none⟩), cdV c] .normal) (cl :: cs)) w := by
 have hX : ∀ b, S.foot m b → X b = none := fun b hb => by
  cases hx : X b with
  | none => rfl
  | some p => exact absurd hb (hE.free b p hx)
 have hfm : S.foot m (S.mb i) := .inr (.inl ⟨i, hi, .inl rfl⟩)
 have hfw : S.foot m S.bw := .inl rfl
 have hft : ∀ g, (m.tv i).ownBlock = some g → S.foot m g := fun g hg => .inr (.inl ⟨i, hi, .inr (.inl hg)⟩)
 have hbase : S.base ≤ w.heap.size := Nat.le_trans hB.lo (Nat.le_of_lt (zq4 hB.words))
 refine callsJ_cut (J := fun (_ : Unit) => J) (s := ()) hE.js hE.calm plainM rowsM Try.func50 rfl (by kernel_rfl) (R := fun v wc' => ∃ wc, (∃ τ d, Cut X (re w τ d) wc) ∧ OwnPost (S.mb i) S.bw S.W S.base (m.tv i) m.ws (m.th i) c wc (.returned v) wc') ?_ hE.rows ?_
  (Post := fun _ e w' => e = .returned (.tuple #[]) ∧ ∃ v', S.Body (m.put i m.ws (ownC c (m.th i)) v' none) w' ∧ Grow S.thr m w (m.put i m.ws (ownC c (m.th i)) v' none) w') ?_ cl cs ?_ ?_
 · rintro v wc' τ d ⟨wc, h1, h2, tv', h3, h4, h5, h6⟩
   exact ⟨wc, h1, h2, tv', h3.same rfl rfl, zqd h4 (fun _ _ => rfl), ⟨h5.size, h5.old⟩, h6⟩
 · rintro wc ⟨τ, d, hcut⟩
   have hb : MachB (S.mb i) S.bw S.W (m.tv i) m.ws (m.th i) wc := (hB.machB hi).same (hcut.no _ (hX _ hfm)) (hcut.no _ (hX _ hfw))
   refine Calls.mono (own_lone _ _ _ S.base _ _ _ c _ hb (zqd (hB.told i hi) fun g hg => hcut.no _ (hX _ (hft g hg))) hlen (by rw [hcut.size]; exact hbase)) ?_
   rintro e w' h2
   have he := h2.1
   subst he
   exact ⟨wc, ⟨τ, d, hcut⟩, h2⟩
 · rintro v wc' w' ⟨wc, ⟨τ, d, hcut⟩, h1, tv', h2, h3, h4, h5⟩ hcut' hch
   cases h1
   have e1 : wc.heap.size = w.heap.size := hcut.size
   have e2 := hcut'.size
   have hsize : w.heap.size ≤ w'.heap.size := by have := h4.size; omega
   have hsw : w'.heap[S.bw]? = _ := (hcut'.no _ (hX _ hfw)).symm.trans h2.hw
   have hsm : w'.heap[S.mb i]? = _ := (hcut'.no _ (hX _ hfm)).symm.trans h2.hm
   have hold : ∀ b, b < w.heap.size → b ≠ S.mb i → (m.tv i).ownBlock ≠ some b → w'.heap[b]? = w.heap[b]? := fun b hb h1 h2 => by
    have hbc : b < wc.heap.size := by rw [hcut.size]; exact hb
    exact cut_block hcut hcut' (h4.old b hbc h1 h2)
   have hlt : ∀ b p, X b = some p → b < w.heap.size := fun b p hx => by obtain ⟨cc, ee⟩ := p; exact zq4 (hE.rows b cc ee hx)
   refine ⟨rfl, tv', hB.step hi h2.len hsw hsm ?_ (fun b hb => by cases hb) (fun b hb _ h1 h2 => hold b hb h1 h2) hsize (fun g hg => ?_)⟩
   · refine zqd h3 fun g hg => ?_
     have hXg : X g = none := by
      cases hx : X g with
      | none => rfl
      | some p =>
       exfalso
       have hg2 := hlt g p hx
       rcases h5 with h5 | ⟨g', cap, h5, h6 | h6, _⟩
       · rw [h5] at hg; exact hE.free g p hx (hft g hg)
       · rw [h5] at hg; simp only [Value.ownBlock, al_oi] at hg; subst hg; exact hE.free g' p hx (hft g' h6)
       · rw [h5] at hg; simp only [Value.ownBlock, al_oi] at hg; subst hg; omega
     exact (hcut'.no _ hXg).symm
   · rcases h5 with h5 | ⟨g', cap, h5, h6 | h6, _⟩
     · rw [h5] at hg; exact .inl hg
     · rw [h5] at hg; simp only [Value.ownBlock, al_oi] at hg; subst hg; exact .inl h6
     · rw [h5] at hg; simp only [Value.ownBlock, al_oi] at hg; subst hg; right; omega
 · rintro _ v w' ⟨h1, v', h2, h3⟩
   cases h1
   exact h v' w' h2 h3
 · rintro _ ch w' ⟨h1, _⟩
   cases h1
end
end Go.Proofs
