/- YtnjpcibdaanpeaaSNone6: part 5 of the proof (the texts behind it, in order). -/
import Derived.Test.YtnjpcibdaanpeaaP04
set_option linter.unusedSimpArgs false
set_option linter.unusedVariables false
set_option linter.unusedSectionVars false
set_option linter.unnecessarySimpa false
set_option maxHeartbeats 1000000
namespace Go.Car
open Go Go.RowKit
section
variable {P : Program} {md : Region.Mode} {ops : Array Oper} {C : World → Prop}
def Closed (md : Region.Mode) (ops : Array Oper) (listed : Array Bool) : Prop := ∀ i o e, ops[i]? = some o → listed.getD i false = true → e ∈ o.after → Region.binds md e = true → listed.getD e.on false = true
theorem Closed.set {listed : Array Bool} (h : Closed md ops listed) {i : Nat} (hi : i ∈ Region.ready md ops listed) : Closed md ops (listed.setIfInBounds i true) := by
 obtain ⟨hun, o, ho, hall⟩ := mem_ready.1 hi
 intro j oj e hoj hlj he hb
 refine getD_set_true ?_
 by_cases hji : i = j
 · subst hji
   rw [ho] at hoj
   obtain rfl := Option.some.inj hoj
   exact hall e he hb
 · rw [getD_set_ne false hji] at hlj
   exact h j oj e hoj hlj he hb
def AllWait (md : Region.Mode) (ops : Array Oper) (k : Nat) : Prop := ∀ listed, Closed md ops listed → ∀ j, j ∈ Region.ready md ops listed → k ≤ j → ∀ i, i < k → listed.getD i false = true
def wpAnyR (P : Program) (md : Region.Mode) (ops : Array Oper) (k : Nat) (C : World → Prop) (R : Array Bool → Act → Prop) : Nat → Array Bool → Act → Prop
 | 0, listed, a => (∀ i, i < k → listed.getD i false = true) ∧ R listed a
 | fuel + 1, listed, a => (∃ i, i < k ∧ listed.getD i true = false) ∧ ∀ i ∈ Region.ready md ops listed, i < k ∧ qOp P ops C i (wpAnyR P md ops k C R fuel (listed.setIfInBounds i true)) a
theorem wpAny_of_R {k : Nat} {R : Array Bool → Act → Prop} {Q' : Exit → Act → World → Prop} (hw : ∀ listed, (∃ i, i < k ∧ listed.getD i true = false) → ∃ i, i ∈ Region.ready md ops listed) (r : Nat) (hR : ∀ listed a w, C w → R listed a → wpAny P md ops Q' r listed a w) :
 ∀ (fuel : Nat) (listed : Array Bool) (a : Act) (w : World), C w → wpAnyR P md ops k C R fuel listed a → wpAny P md ops Q' (fuel + r) listed a w
 | 0, listed, a, w, hc, h => by rw [Nat.zero_add]; exact hR _ _ _ hc h.2
 | fuel + 1, listed, a, w, hc, h => by
  have e : fuel + 1 + r = (fuel + r) + 1 := by omega
  rw [e]
  refine ⟨fun h0 => ?_, fun i hi => ?_⟩
  · obtain ⟨i, hi⟩ := hw listed h.1
    rw [h0] at hi; cases hi
  · exact wpOp_of_qOp hc (fun a' w' hc' hh => wpAny_of_R hw r hR fuel _ a' w' hc' hh) (h.2 i hi).2
theorem getD_both {l : Array Bool} {i : Nat} (h : l.getD i true = false) (h' : l.getD i false = true) : False := by
 rcases Nat.lt_or_ge i l.size with hl | hl
 · simp [hl] at h h'; rw [h] at h'; cases h'
 · simp [Array.getElem?_eq_none hl] at h'
theorem wpAnyR_first {k : Nat} {R : Array Bool → Act → Prop} {i : Nat} {oi : Oper} {v : Value} (hi : ops[i]? = some oi) (hik : i < k) (hsel : ∀ (j : Nat) (o : Oper) cs b, ops[j]? = some o → o.op ≠ .select cs b) (hAW : AllWait md ops k) :
 ∀ (fuel : Nat) (listed : Array Bool) (a : Act), Closed md ops listed →
  (∀ j oj, ops[j]? = some oj → j < k → j ≠ i → listed.getD j true = false → (∀ e ∈ oj.after, Region.binds md e = true → e.on ≠ i) → oi.apart ops oj = true) →
  i ∈ Region.ready md ops listed → YieldsIn P ops C oi v a →
  wpAnyR P md ops k C R fuel (listed.setIfInBounds i true) (a.put oi.dst v) → wpAnyR P md ops k C R (fuel + 1) listed a := by
 intro fuel
 induction fuel with
 | zero =>
  intro listed a hcl _ hr hy H
  have hun := (mem_ready.1 hr).1
  refine ⟨⟨i, hik, hun⟩, fun j hj => ?_⟩
  have hjk : j < k := by
   rcases Nat.lt_or_ge j k with h | h
   · exact h
   · exact (getD_both hun (hAW listed hcl j hj h i hik)).elim
  refine ⟨hjk, ?_⟩
  by_cases hji : j = i
  · subst hji; exact hy.qOp hi H
  · have h1 := H.1 j hjk
    rw [getD_set_ne false (Ne.symm hji)] at h1
    exact (getD_both (mem_ready.1 hj).1 h1).elim
 | succ fuel ih =>
  intro listed a hcl hfree hr hy H
  have hun := (mem_ready.1 hr).1
  refine ⟨⟨i, hik, hun⟩, fun j hj => ?_⟩
  have hjk : j < k := by
   rcases Nat.lt_or_ge j k with h | h
   · exact h
   · exact (getD_both hun (hAW listed hcl j hj h i hik)).elim
  refine ⟨hjk, ?_⟩
  by_cases hji : j = i
  · subst hji; exact hy.qOp hi H
  · have h1 := (H.2 j (ready_mono hj hji)).2
    obtain ⟨hjun, oj, hoj, hall⟩ := mem_ready.1 hj
    have hnot : ∀ e ∈ oj.after, Region.binds md e = true → e.on ≠ i := fun e he hb heq => by
     have h1 := hall e he hb
     rw [heq] at h1
     exact getD_both hun h1
    have h2 := qOp_put hoj (hfree j oj hoj hjk hji hjun hnot) (fun cs b => hsel i oi cs b hi) (fun cs b => hsel j oj cs b hoj) hy h1
    have hfree' : ∀ q oq, ops[q]? = some oq → q < k → q ≠ i → (listed.setIfInBounds j true).getD q true = false →
     (∀ e ∈ oq.after, Region.binds md e = true → e.on ≠ i) → oi.apart ops oq = true := fun q oq hq hqk hqi hqun hno => by
     refine hfree q oq hq hqk hqi ?_ hno
     by_cases hjq : j = q
     · subst hjq; exact hjun
     · rw [getD_set_ne true hjq] at hqun; exact hqun
    refine qOp_mono (fun a' h3 => ih (listed.setIfInBounds j true) a' (hcl.set hj) hfree' (ready_mono hr (Ne.symm hji)) h3.1 ?_) h2
    rw [Array.setIfInBounds_comm _ _ hji]
    exact h3.2
def lexR (md : Region.Mode) (ops : Array Oper) (k : Nat) : Nat → Nat → Array Bool → Bool
 | 0, _, listed => (List.range k).all fun i => listed.getD i false
 | fuel + 1, p, listed => (Region.ready md ops listed).contains p && decide (p < k) && ((List.range k).all fun j => j == p || listed.getD j true || (match ops[j]?, ops[p]? with
  | some oj, some op => oj.after.any (fun e => Region.binds md e && e.on == p) || op.apart ops oj
  | _, _ => true)) && lexR md ops k fuel (p + 1) (listed.setIfInBounds p true)
def setsFrom : Nat → Nat → Array Bool → Array Bool
 | 0, _, l => l
 | n + 1, p, l => setsFrom n (p + 1) (l.setIfInBounds p true)
theorem wpAnyR_lex (hs : Region.noSelect ops = true) {k : Nat} (hAW : AllWait md ops k) {Q : Act → Prop} (F : Array Bool) : ∀ (l : List Oper) (p : Nat) (listed : Array Bool) (a : Act), (∀ j, j < l.length → l[j]? = ops[p + j]?) → Closed md ops listed →
 lexR md ops k l.length p listed = true → setsFrom l.length p listed = F → wpQuiet P ops C Q l a → wpAnyR P md ops k C (fun L a => L = F ∧ Q a) l.length listed a
 | [], p, listed, a, _, _, hB, hF, h => by
  refine ⟨fun i hi => ?_, hF, h⟩
  simp only [List.length_nil, lexR, List.all_eq_true, List.mem_range] at hB
  exact hB i hi
 | o :: l, p, listed, a, hl, hcl, hB, hF, h => by
  have h0 : ops[p]? = some o := by have := hl 0 (by simp); simpa using this.symm
  simp only [List.length_cons, lexR, Bool.and_eq_true, List.contains_iff_mem, decide_eq_true_eq, List.all_eq_true, List.mem_range] at hB
  obtain ⟨⟨⟨hr, hpk⟩, hf⟩, hB'⟩ := hB
  have hst : qOp P ops C p (wpQuiet P ops C Q l) a := by unfold qOp; simp only [h0]; exact h
  obtain ⟨v, hy, hK⟩ := yieldsIn_of_qOp h0 hst
  refine wpAnyR_first h0 hpk (Region.noSelect_spec hs) hAW l.length listed a hcl (fun j oj hoj hjk hjp hun hno => ?_) hr hy
   (wpAnyR_lex hs hAW F l (p + 1) _ _ (fun j hj => by have := hl (j + 1) (by simpa using hj); simpa [Nat.add_assoc, Nat.add_comm 1 j] using this) (hcl.set hr) hB' hF hK)
  have := hf j hjk
  rw [hun, hoj, h0] at this
  simp only [Bool.or_false, Bool.or_eq_true, beq_iff_eq, hjp, false_or, Array.any_eq_true] at this
  rcases this with ⟨q, hq, hb⟩ | h
  · simp only [Bool.and_eq_true, beq_iff_eq] at hb
    exact absurd hb.2 (hno _ (Array.getElem_mem hq) hb.1)
  · exact h
def anc (md : Region.Mode) (ops : Array Oper) : Nat → Nat → Nat → Bool
 | 0, _, _ => false
 | f + 1, j, i => match ops[j]? with
  | some o => o.after.toList.any fun e => Region.binds md e && (e.on == i || anc md ops f e.on i)
  | none => false
def allWaitB (md : Region.Mode) (ops : Array Oper) (k : Nat) : Bool := (List.range ops.size).all fun j => decide (j < k) || (List.range k).all fun i => anc md ops ops.size j i
theorem anc_listed {listed : Array Bool} (hc : Closed md ops listed) : ∀ (f j i : Nat) (o : Oper), ops[j]? = some o → (∀ e ∈ o.after, Region.binds md e = true → listed.getD e.on false = true) → anc md ops f j i = true → listed.getD i false = true
 | 0, _, _, _, _, _, h => by cases h
 | f + 1, j, i, o, ho, hall, h => by
  simp only [anc, ho, List.any_eq_true, Bool.and_eq_true, Bool.or_eq_true, beq_iff_eq] at h
  obtain ⟨e, he, hb, h⟩ := h
  have he' : e ∈ o.after := by simpa using he
  have hl := hall e he' hb
  rcases h with rfl | h
  · exact hl
  · cases hoe : ops[e.on]? with
    | none => cases f with
     | zero => cases h
     | succ f => simp only [anc, hoe] at h; cases h
    | some oe => exact anc_listed hc f e.on i oe hoe (fun e' he'' hb' => hc e.on oe e' hoe hl he'' hb') h
theorem allWait_of {k : Nat} (h : allWaitB md ops k = true) : AllWait md ops k := by
 intro listed hc j hj hk i hi
 obtain ⟨_, o, ho, hall⟩ := mem_ready.1 hj
 have hlt := (Array.getElem?_eq_some_iff.1 ho).1
 unfold allWaitB at h
 rw [List.all_eq_true] at h
 have := h j (List.mem_range.2 hlt)
 simp only [Bool.or_eq_true, decide_eq_true_eq, List.all_eq_true, List.mem_range] at this
 rcases this with h | h
 · omega
 · exact anc_listed hc _ j i o ho hall (h i hi)
def backB (md : Region.Mode) (ops : Array Oper) (k : Nat) : Bool := decide (k ≤ ops.size) && (List.range k).all fun i => match ops[i]? with
 | some o => o.after.toList.all (fun e => !Region.binds md e || decide (e.on < i))
 | none => false
theorem back_ready {k : Nat} (h : backB md ops k = true) (listed : Array Bool) (hex : ∃ i, i < k ∧ listed.getD i true = false) : ∃ i, i ∈ Region.ready md ops listed := by
 unfold backB at h
 simp only [Bool.and_eq_true, decide_eq_true_eq, List.all_eq_true, List.mem_range] at h
 obtain ⟨hk, h⟩ := h
 obtain ⟨i, hik, hun⟩ := hex
 have : ∀ m i, m = i → i < k → listed.getD i true = false → ∃ j, j ∈ Region.ready md ops listed := by
  intro m
  induction m using Nat.strongRecOn with
  | _ m ihm =>
   intro i hi hik hun
   subst hi
   have hops : m < ops.size := by omega
   by_cases hall : ∀ e ∈ (ops[m]'hops).after, Region.binds md e = true → listed.getD e.on false = true
   · exact ⟨m, mem_ready.2 ⟨hun, _, Array.getElem?_eq_getElem hops, hall⟩⟩
   · obtain ⟨e, he⟩ := Classical.not_forall.1 hall
     obtain ⟨h1, he⟩ := Classical.not_imp.1 he
     obtain ⟨h2, he⟩ := Classical.not_imp.1 he
     have hb := h m hik
     rw [Array.getElem?_eq_getElem hops] at hb
     simp only [List.all_eq_true] at hb
     have hlt : e.on < m := by have := hb e (by simpa using h1); simpa [h2] using this
     refine ihm e.on hlt e.on rfl (by omega) ?_
     have hm := getD_lt hun
     have : e.on < listed.size := by omega
     simp [this] at he ⊢
     exact he
 exact this i i rfl hik hun
theorem wp_region_pre {id k : Nat} {Q' : Exit → Act → World → Prop} {a : Act} {w : World} (hm : P.follows .mixedOrders = true) (hs : Region.noSelect ops = true) (hback : backB .any ops k = true) (hwait : allWaitB .any ops k = true) (hlex : lexR .any ops k k 0 (Array.replicate ops.size false) = true)
 (hC : C { w with drawn := w.drawn + 1 }) (h : wpQuiet P ops C (fun a' => ∀ w', C w' → wpAny P .any ops Q' (ops.size - k) (setsFrom k 0 (Array.replicate ops.size false)) a' w') (ops.toList.take k) a) : (Code.region id ops true).wp P Q' a w := by
 have hk : k ≤ ops.size := by
  unfold backB at hback
  simp only [Bool.and_eq_true, decide_eq_true_eq] at hback
  exact hback.1
 have hlen : (ops.toList.take k).length = k := by simp; omega
 refine wp_region_any hm ?_
 have hcl : Closed .any ops (Array.replicate ops.size false) := fun i o e _ hl => by
  exfalso
  simp [al_gd, Array.getElem?_replicate] at hl
  split at hl <;> simp at hl
 have h1 := wpAnyR_lex (C := C) hs (allWait_of hwait) (setsFrom k 0 (Array.replicate ops.size false)) (ops.toList.take k) 0 (Array.replicate ops.size false) a (fun j hj => by rw [hlen] at hj; simp [List.getElem?_take, hj]) hcl (by rw [hlen]; exact hlex) (by rw [hlen]) h
 rw [hlen] at h1
 have h2 := wpAny_of_R (Q' := Q') (back_ready hback) (ops.size - k) (fun listed a w hc hR => by rw [hR.1]; exact hR.2 w hc) k _ a _ hC h1
 rw [show k + (ops.size - k) = ops.size by omega] at h2
 exact h2
theorem countP_one : ∀ (k i : Nat) (p q : Nat → Bool), i < k → p i = true → q i = false → (∀ j, j ≠ i → p j = q j) → (List.range k).countP p = (List.range k).countP q + 1
 | 0, i, p, q, hi, _, _, _ => by omega
 | k + 1, i, p, q, hi, hp, hq, h => by
  rw [List.range_succ, List.countP_append, List.countP_append]
  by_cases e : i = k
  · subst e
    have : (List.range i).countP p = (List.range i).countP q := List.countP_congr fun j hj => by rw [h j (by have := List.mem_range.1 hj; omega)]
    simp [this, hp, hq]
  · have ih := countP_one k i p q (by omega) hp hq h
    have e2 := h k (Ne.symm e)
    simp [ih, e2]; omega
theorem wpOp_weak {Q : Exit → Act → World → Prop} {i : Nat} {K K' : Act → World → Prop} {a : Act} {w : World} (h : ∀ a w, K a w → K' a w) (hh : wpOp P ops Q i K a w) : wpOp P ops Q i K' a w := by
 unfold wpOp at *
 split
 · simp only [*] at hh ⊢; exact h _ _ (by simpa [*] using hh)
 · rename_i o ho
   simp only [ho] at hh
   split
   · rename_i hw
     simp only [hw, if_true] at hh
     rcases hh with hh | hh
     · exact .inl (Oper.wp_mono h hh)
     · exact .inr hh
   · rename_i hw
     simp only [hw] at hh
     exact h _ _ hh
theorem wp_region_inv {id k : Nat} {Q' : Exit → Act → World → Prop} {a : Act} {w : World} (hm : P.follows .mixedOrders = true) (hback : backB .any ops k = true) (hwait : allWaitB .any ops k = true) (I : Array Bool → Act → World → Prop)
 (h0 : I (Array.replicate ops.size false) a { w with drawn := w.drawn + 1 })
 (hstep : ∀ (L : Array Bool) (a : Act) (w : World) (i : Nat), L.size = ops.size → i < k → L.getD i true = false → (∀ o, ops[i]? = some o → ∀ e ∈ o.after, Region.binds .any e = true → L.getD e.on false = true) → I L a w → wpOp P ops Q' i (I (L.setIfInBounds i true)) a w)
 (hend : ∀ (a : Act) (w : World), I (Array.ofFn fun i : Fin ops.size => decide (i.val < k)) a w → wpAny P .any ops Q' (ops.size - k) (Array.ofFn fun i : Fin ops.size => decide (i.val < k)) a w) : (Code.region id ops true).wp P Q' a w := by
 have hk : k ≤ ops.size := by
  unfold backB at hback
  simp only [Bool.and_eq_true, decide_eq_true_eq] at hback
  exact hback.1
 refine wp_region_any hm ?_
 have key : ∀ (f : Nat) (L : Array Bool) (a : Act) (w : World), Closed .any ops L → L.size = ops.size → (∀ j, k ≤ j → L.getD j false = false) → (List.range k).countP (fun i => !L.getD i false) = f → I L a w → wpAny P .any ops Q' (f + (ops.size - k)) L a w := by
  intro f
  induction f with
  | zero =>
   intro L a w hcl hsz hno hc hI
   have hall : ∀ i, i < k → L.getD i false = true := by
    intro i hi
    rw [List.countP_eq_zero] at hc
    have := hc i (List.mem_range.2 hi)
    simpa using this
   have hL : L = Array.ofFn fun i : Fin ops.size => decide (i.val < k) := by
    apply Array.ext
    · simp [hsz]
    · intro i h1 h2
      simp only [Array.getElem_ofFn]
      by_cases hik : i < k
      · have := hall i hik
        simp [h1] at this
        rw [this]; simp [hik]
      · have := hno i (by omega)
        simp [h1] at this
        rw [this]; simp [hik]
   rw [Nat.zero_add]
   rw [hL] at hI ⊢
   exact hend a w hI
  | succ f ih =>
   intro L a w hcl hsz hno hc hI
   have hex : ∃ i, i < k ∧ L.getD i true = false := by
    have : 0 < (List.range k).countP (fun i => !L.getD i false) := by omega
    obtain ⟨i, hi, hp⟩ := List.countP_pos_iff.1 this
    have hik := List.mem_range.1 hi
    refine ⟨i, hik, ?_⟩
    have hlt : i < L.size := by omega
    simp [hlt] at hp ⊢
    exact hp
   have e : f + 1 + (ops.size - k) = (f + (ops.size - k)) + 1 := by omega
   rw [e]
   refine ⟨fun hr => ?_, fun i hi => ?_⟩
   · obtain ⟨i, hi⟩ := back_ready hback L hex
     rw [hr] at hi; cases hi
   · have hik : i < k := by
      rcases Nat.lt_or_ge i k with h | h
      · exact h
      · obtain ⟨q, hq, hun⟩ := hex
        exact (getD_both hun (allWait_of hwait L hcl i hi h q hq)).elim
     obtain ⟨hun, o, ho, hall⟩ := mem_ready.1 hi
     refine wpOp_weak (fun a' w' hI' => ih _ a' w' (hcl.set hi) (by simp [hsz]) (fun j hj => ?_) ?_ hI') (hstep L a w i hsz hik hun (fun o' ho' e he hb => by rw [ho] at ho'; cases ho'; exact hall e he hb) hI)
     · rw [getD_set_ne false (by omega)]; exact hno j hj
     · have := countP_one k i (fun j => !L.getD j false) (fun j => !(L.setIfInBounds i true).getD j false) hik ?_ ?_ (fun j hj => ?_)
       · omega
       · have hlt : i < L.size := by omega
         simp [hlt] at hun ⊢; exact hun
       · have hlt : i < L.size := by omega
         simp [hlt]
       · rw [getD_set_ne false (Ne.symm hj)]
 have hcl : Closed .any ops (Array.replicate ops.size false) := fun i o e _ hl => by
  exfalso
  simp [al_gd, Array.getElem?_replicate] at hl
  split at hl <;> simp at hl
 have hf : ∀ i, (Array.replicate ops.size false).getD i false = false := fun i => by
  simp [al_gd, Array.getElem?_replicate]
  split <;> rfl
 have := key k (Array.replicate ops.size false) a _ hcl (by simp) (fun j _ => hf j) (by rw [List.countP_eq_length.2 (fun i _ => by rw [hf i]; rfl), List.length_range]) h0
 rw [show k + (ops.size - k) = ops.size by omega] at this
 exact this
theorem wpAny_one {Q : Exit → Act → World → Prop} {fuel i : Nat} {listed : Array Bool} {a : Act} {w : World} (hr : Region.ready md ops listed = [i]) (h : wpOp P ops Q i (wpAny P md ops Q fuel (listed.setIfInBounds i true)) a w) : wpAny P md ops Q (fuel + 1) listed a w :=
 ⟨fun h0 => (by rw [hr] at h0; cases h0), fun j hj => by rw [hr] at hj; obtain rfl := List.mem_singleton.1 hj; exact h⟩
theorem wpAny_end {Q : Exit → Act → World → Prop} {listed : Array Bool} {a : Act} {w : World} (hr : Region.ready md ops listed = []) (h : Q .normal a w) : wpAny P md ops Q 0 listed a w := ⟨hr, h⟩
end
end Go.Car
set_option maxHeartbeats 1000000
namespace Go.Car
open Go Go.Conc Go.RowKit
def idleOk (P : Program) (ops : Array Oper) (n : Nat) (same : List Nat) : Bool :=
 (List.range ops.size).all (fun i => match ops[i]? with
  | some o => okOp P (fun _ => false) o.op && (match o.op with | .convert .. => false | _ => true) && o.guard.isNone && (match o.dst with | some d => decide (d < n) | none => true)
  | none => false) &&
 (List.range ops.size).all (fun i => (List.range i).all fun j => (dstOf ops i).isNone || dstOf ops i != dstOf ops j) &&
 (List.range ops.size).all (fun i => match ops[i]? with
  | some o => o.after.all (fun e => !Region.binds .any e || decide (e.on < i)) &&
   o.op.operands.all (fun x => match tmpOf x with
    | some t => same.contains t || (List.range ops.size).all fun j => dstOf ops j != some t || waits ops i j
    | none => true)
  | none => false)
structure IdleOk (P : Program) (ops : Array Oper) (n : Nat) (same : List Nat) : Prop where
 plain : ∀ i, i < ops.size → ∃ o, ops[i]? = some o ∧ okOp P (fun _ => false) o.op = true ∧ (∀ s d x, o.op ≠ .convert s d x) ∧ o.guard = none ∧ ∀ d, o.dst = some d → d < n
 apart : ∀ i j d, i < ops.size → j < i → dstOf ops i = some d → dstOf ops j ≠ some d
 back : ∀ i o e, i < ops.size → ops[i]? = some o → e ∈ o.after → Region.binds .any e = true → e.on < i
 looks : ∀ i o x t j, i < ops.size → ops[i]? = some o → x ∈ o.op.operands → tmpOf x = some t → j < ops.size → dstOf ops j = some t → t ∈ same ∨ waits ops i j = true
theorem idleOk_spec {P : Program} {ops : Array Oper} {n : Nat} {same : List Nat} (h : idleOk P ops n same = true) : IdleOk P ops n same := by
 unfold idleOk at h
 simp only [Bool.and_eq_true, List.all_eq_true, List.mem_range] at h
 obtain ⟨⟨h2, h3⟩, h4⟩ := h
 refine ⟨fun i hi => ?_, fun i j d hi hj hd hd' => ?_, fun i o e hi ho he hb => ?_, fun i o x t j hi ho hx ht hj hd => ?_⟩
 · have := h2 i hi
   cases ho : ops[i]? with
   | none => rw [ho] at this; cases this
   | some o =>
    rw [ho] at this
    simp only [Bool.and_eq_true, Option.isNone_iff_eq_none] at this
    obtain ⟨⟨⟨a1, a0⟩, a2⟩, a3⟩ := this
    refine ⟨o, rfl, a1, fun s d x e => ?_, a2, fun d hd => ?_⟩
    · rw [e] at a0; cases a0
    · rw [hd] at a3; simpa using a3
 · have := h3 i hi j hj
   rw [hd, hd'] at this
   simp at this
 · have := h4 i hi
   rw [ho] at this
   simp only [Bool.and_eq_true, Array.all_eq_true_iff_forall_mem] at this
   have := this.1 e he
   simpa [hb] using this
 · have := h4 i hi
   rw [ho] at this
   simp only [Bool.and_eq_true, Array.all_eq_true_iff_forall_mem] at this
   have := this.2 x hx
   rw [ht] at this
   simp only [Bool.or_eq_true, List.all_eq_true, List.mem_range, List.contains_iff_mem] at this
   rcases this with h | h
   · exact .inl h
   · have := h j hj
     exact .inr (by simpa [hd] using this)
structure Agree2 (ops : Array Oper) (T a₀ : Array Value) (listed : Array Bool) (tm : Array Value) : Prop where
 size : tm.size = T.size
 on : ∀ i t, i < ops.size → listed.getD i false = true → dstOf ops i = some t → tm[t]? = T[t]?
 off : ∀ t, (∀ i, i < ops.size → listed.getD i false = true → dstOf ops i ≠ some t) → tm[t]? = a₀[t]?
section
variable {P : Program} {main : Bool} {γ : Type} {J : γ → Goroutine → World → Prop}
theorem idle_go (hJ : JS P main (fun _ => none) J) {b : Frame} {k : List Item} {cs : List Frame} (hb : b.kind ≠ .early) {ops : Array Oper} {n : Nat} {same : List Nat} (hok : IdleOk P ops n same) {T a₀ : Array Value} {ds : List Deferred} {s : γ} {w : World} (hT : T.size = n)
 (hsame : ∀ t, t ∈ same → a₀[t]? = T[t]?) (hout : ∀ t, (∀ i, i < ops.size → dstOf ops i ≠ some t) → T[t]? = a₀[t]?)
 (hval : ∀ i o, i < ops.size → ops[i]? = some o → (∃ v d, o.dst = some d ∧ T[d]? = some v ∧ ∀ τ dd, (execOp (Act.mk T []).eval o).run P (re w τ dd) = .ok (.value v) (re w τ dd)) ∨ (o.dst = none ∧ ∀ τ dd, (execOp (Act.mk T []).eval o).run P (re w τ dd) = .ok .skip (re w τ dd)))
 (hlast : J s (G (b.at ⟨T, ds⟩ (.inRegion ops [] :: k)) cs) w) :
 ∀ (fuel t : Nat) (listed : Array Bool) (tm : Array Value), listed.size = ops.size → left listed = fuel →
  (∀ i o e, i < ops.size → ops[i]? = some o → listed.getD i false = true → e ∈ o.after → Region.binds .any e = true → listed.getD e.on false = true) → Agree2 ops T a₀ listed tm →
  J s (G (b.at ⟨tm, ds⟩ (.inRegion ops (Region.linearise.go .any ops fuel t listed []) :: k)) cs) w := by
 intro fuel
 induction fuel with
 | zero =>
  intro t listed tm hsz hl hclosed hag
  have hall : ∀ i, i < ops.size → listed.getD i false = true := fun i hi => by
   have hlt : i < listed.size := by omega
   cases hv : listed[i] with
   | true => simp [hlt, hv]
   | false => have := left_pos (listed := listed) (i := i) (by simp [hlt, hv]); omega
  have htm : tm = T := by
   apply Array.ext_getElem?
   intro x
   by_cases hx : ∃ j, j < ops.size ∧ dstOf ops j = some x
   · obtain ⟨j, hj, hd⟩ := hx
     exact hag.on j x hj (hall j hj) hd
   · rw [hag.off x (fun j hj _ hd => hx ⟨j, hj, hd⟩), hout x fun j hj hd => hx ⟨j, hj, hd⟩]
  rw [htm]
  exact hlast
 | succ fuel ih =>
  intro t listed tm hsz hl hclosed hag
  simp only [Region.linearise.go]
  change J s (G (b.at ⟨tm, ds⟩ (.inRegion ops (match (Region.ready .any ops listed)[t % (Region.ready .any ops listed).length]? with
   | some i => Region.linearise.go .any ops fuel (t / (Region.ready .any ops listed).length) (listed.setIfInBounds i true) [i]
   | none => [].reverse) :: k)) cs) w
  have hun : ∃ i, listed.getD i true = false := by
   refine Classical.byContradiction fun hn => ?_
   have : left listed = 0 := by
    unfold left
    rw [List.length_eq_zero_iff, List.filter_eq_nil_iff]
    intro x hx hxx
    obtain ⟨i, hi, rfl⟩ := List.getElem_of_mem hx
    have hi' : i < listed.size := by simpa using hi
    have e : listed.toList[i] = listed[i] := by simp
    rw [e] at hxx
    exact hn ⟨i, by simp [hi']; simpa using hxx⟩
   omega
  have hready : ∃ i, i ∈ Region.ready .any ops listed := by
   have : ∀ m i, m = i → listed.getD i true = false → ∃ j, j ∈ Region.ready .any ops listed := by
    intro m
    induction m using Nat.strongRecOn with
    | _ m ihm =>
     intro i hi hun
     subst hi
     have hops : m < ops.size := by have := getD_lt hun; omega
     by_cases hall : ∀ e ∈ (ops[m]'hops).after, Region.binds .any e = true → listed.getD e.on false = true
     · exact ⟨m, mem_ready.2 ⟨hun, _, Array.getElem?_eq_getElem hops, hall⟩⟩
     · obtain ⟨e, he⟩ := Classical.not_forall.1 hall
       obtain ⟨h1, he⟩ := Classical.not_imp.1 he
       obtain ⟨h2, he⟩ := Classical.not_imp.1 he
       have hlt' := hok.back m _ e hops (Array.getElem?_eq_getElem hops) h1 h2
       refine ihm e.on hlt' e.on rfl ?_
       have : e.on < listed.size := by omega
       simp [this] at he ⊢
       exact he
   obtain ⟨i, hi⟩ := hun
   exact this i i rfl hi
  cases hi : (Region.ready .any ops listed)[t % (Region.ready .any ops listed).length]? with
  | none =>
   exfalso
   obtain ⟨i, hi'⟩ := hready
   have hpos : 0 < (Region.ready .any ops listed).length := List.length_pos_of_mem hi'
   have hlt := Nat.mod_lt t hpos
   rw [List.getElem?_eq_none_iff] at hi
   omega
  | some i =>
   have hmem := List.mem_of_getElem? hi
   obtain ⟨hun, o, ho, hall⟩ := mem_ready.1 hmem
   have hilt : i < ops.size := by have := getD_lt hun; omega
   simp only []
   rw [linearise_go_acc, List.reverse_singleton, List.singleton_append]
   obtain ⟨o', ho', hok', hcv, hguard, hdn⟩ := hok.plain i hilt
   rw [ho] at ho'
   obtain rfl := Option.some.inj ho'
   have hex : execOp (Act.mk tm ds).eval o = execOp (Act.mk T []).eval o := by
    refine execOp_congr o (fun cs b h => by rw [h] at hok'; cases hok') fun x hx => eval_agree fun t ht => ?_
    by_cases hxt : ∃ j, j < ops.size ∧ dstOf ops j = some t
    · obtain ⟨j, hj, hd⟩ := hxt
      rcases hok.looks i o x t j hilt ho hx ht hj hd with hs | hwt
      · by_cases hl' : listed.getD j false = true
        · exact hag.on j t hj hl' hd
        · refine (hag.off t fun q hq hlq hdq => ?_).trans (hsame t hs)
          rcases Nat.lt_trichotomy q j with h | h | h
          · exact hok.apart j q t hj h hd hdq
          · exact hl' (h ▸ hlq)
          · exact hok.apart q j t hq h hdq hd
      · obtain ⟨oi, hoi, e, he1, he2, he3⟩ := waits_iff.1 hwt
        rw [ho] at hoi
        obtain rfl := Option.some.inj hoi
        subst he3
        exact hag.on e.on t hj (hall e he1 he2) hd
    · rw [hag.off t (fun j hj _ hd => hxt ⟨j, hj, hd⟩), hout t fun j hj hd => hxt ⟨j, hj, hd⟩]
   have hw : Region.wanted o (yielded ops (Act.mk tm ds).tmps) = true := by simp [Region.wanted, hguard]
   have htame : tame P true (execOp (Act.mk T []).eval o) := (execOp_ok (A := fun _ => false) (fun f h => by cases h) o hok' _ (fun f => rfl)).1
   have hld : left (listed.setIfInBounds i true) + 1 = left listed := left_set hun
   have hclosed' : ∀ j oj e, j < ops.size → ops[j]? = some oj → (listed.setIfInBounds i true).getD j false = true → e ∈ oj.after → Region.binds .any e = true → (listed.setIfInBounds i true).getD e.on false = true := by
    intro j oj e hj hoj hlj he hbe
    refine getD_set_true ?_
    by_cases hji : i = j
    · subst hji
      rw [ho] at hoj
      obtain rfl := Option.some.inj hoj
      exact hall e he hbe
    · rw [getD_set_ne false hji] at hlj
      exact hclosed j oj e hj hoj hlj he hbe
   refine at_cons hb hJ ho hw fun τ dd => ?_
   rw [hex]
   obtain ⟨h1, h2⟩ := evs_free (Kc := fun _ => none) htame rfl (re w τ dd)
   refine ⟨h1, h2, ?_⟩
   rcases hval i o hilt ho with ⟨v, d, hdst, hTv, hrun⟩ | ⟨hdst, hrun⟩
   · have hdi : dstOf ops i = some d := by unfold dstOf; rw [ho]; exact hdst
     rw [hrun]
     show J s (G (b.at (Act.put ⟨tm, ds⟩ o.dst v) _) cs) (re w τ dd)
     rw [hdst]
     refine hJ.re' _ _ _ _ _ ?_
     show J s (G (b.at ⟨tm.setIfInBounds d v, ds⟩ _) cs) w
     refine ih _ _ _ (by simpa using hsz) (by omega) hclosed' ?_
     refine ⟨by simpa using hag.size, fun j t hj hlj hd => ?_, fun t ht => ?_⟩
     · by_cases htd : d = t
       · subst htd
         have : d < tm.size := by rw [hag.size, hT]; exact hdn d hdst
         simp [this, hTv]
       · rw [al_gn htd]
         by_cases hji : i = j
         · subst hji; rw [hdi] at hd; exact absurd (Option.some.inj hd) htd
         · rw [getD_set_ne false hji] at hlj
           exact hag.on j t hj hlj hd
     · have htd : d ≠ t := by
        intro e
        subst e
        refine ht i hilt ?_ hdi
        have := getD_lt hun
        simp [this]
       rw [al_gn htd]
       refine hag.off t fun j hj hlj => ?_
       exact ht j hj (getD_set_true hlj)
   · have hdi : dstOf ops i = none := by unfold dstOf; rw [ho]; exact hdst
     rw [hrun]
     show J s (G (b.at (Act.put ⟨tm, ds⟩ o.dst undef) _) cs) (re w τ dd)
     rw [hdst]
     refine hJ.re' _ _ _ _ _ ?_
     show J s (G (b.at ⟨tm, ds⟩ _) cs) w
     refine ih _ _ _ (by simpa using hsz) (by omega) hclosed' ?_
     refine ⟨hag.size, fun j t hj hlj hd => ?_, fun t ht => ?_⟩
     · by_cases hji : i = j
       · subst hji; rw [hdi] at hd; cases hd
       · rw [getD_set_ne false hji] at hlj
         exact hag.on j t hj hlj hd
     · exact hag.off t fun j hj hlj => ht j hj (getD_set_true hlj)
theorem at_idle (hJ : JS P main (fun _ => none) J) {b : Frame} {k : List Item} {cs : List Frame} (hb : b.kind ≠ .early) (hm : P.follows .mixedOrders = true) {id : Nat} {ops : Array Oper} {a : Act} {s : γ} {w : World} (same : List Nat) (T : Array Value)
 (hok : idleOk P ops a.tmps.size same = true) (hT : T.size = a.tmps.size) (hsame : ∀ t, t ∈ same → a.tmps[t]? = T[t]?) (hout : ∀ t, (∀ i, i < ops.size → dstOf ops i ≠ some t) → T[t]? = a.tmps[t]?)
 (hval : ∀ i o, i < ops.size → ops[i]? = some o → (∃ v d, o.dst = some d ∧ T[d]? = some v ∧ ∀ τ dd, (execOp (Act.mk T []).eval o).run P (re w τ dd) = .ok (.value v) (re w τ dd)) ∨ (o.dst = none ∧ ∀ τ dd, (execOp (Act.mk T []).eval o).run P (re w τ dd) = .ok .skip (re w τ dd)))
 (hlast : J s (G (b.at ⟨T, a.defers⟩ (.inRegion ops [] :: k)) cs) w) : J s (G (b.at a (.code (.region id ops true) :: k)) cs) w := by
 refine hJ.step _ _ _ rfl fun τ d => ⟨_, _, #[], stepG_region_draw, ?_, by simp, ?_⟩
 · exact OkD.refl _ _ _
 · refine hJ.re' s _ w τ (d + 1) ?_
   simp only [Region.schedule, hm, Bool.true_or, if_true, Region.linearise]
   refine idle_go hJ hb (idleOk_spec hok) (a₀ := a.tmps) (T := T) hT hsame hout hval hlast _ _ _ _ (by simp) ?_ ?_ ?_
   · unfold left; simp
   · intro i o e hi ho hl
     simp [hi] at hl
   · refine ⟨hT.symm, fun i t hi hl => ?_, fun t _ => rfl⟩
     simp [hi] at hl
end
end Go.Car
set_option maxHeartbeats 1000000
namespace Go.Car
open Go Go.Conc Go.RowKit
open Go.ConcN (upd upd_ne upd_same)
section
variable {P : Program} {main : Bool} {γ : Type} {J : γ → Goroutine → World → Prop}
theorem at_opF (hJ : JS P main (fun _ => none) J) {b : Frame} {k : List Item} {cs : List Frame} (hb : b.kind ≠ .early) {ops : Array Oper} {i : Nat} {rest : List Nat} {o : Oper} {s : γ} {T : Array Value} {ds : List Deferred} {w : World} {d : Tmp}
 (ho : ops[i]? = some o) (hok : okOp P (fun _ => false) o.op = true) (hw : Region.wanted o (yielded ops T) = true) (hd : o.dst = some d)
 (hr : ∀ τ dd, ∃ v w', (execOp (Act.mk T []).eval o).run P (re w τ dd) = .ok (.value v) w' ∧ J s (G (b.at ⟨T.setIfInBounds d v, ds⟩ (.inRegion ops rest :: k)) cs) w') : J s (G (b.at ⟨T, ds⟩ (.inRegion ops (i :: rest) :: k)) cs) w := by
 refine at_cons hb hJ ho hw fun τ dd => ?_
 have htame : tame P true (execOp (Act.mk T ds).eval o) := (execOp_ok (A := fun _ => false) (fun f h => by cases h) o hok _ (fun f => rfl)).1
 obtain ⟨h1, h2⟩ := evs_free (Kc := fun _ => none) htame rfl (re w τ dd)
 refine ⟨h1, h2, ?_⟩
 obtain ⟨v, w', hrun, h⟩ := hr τ dd
 have hrun' : (execOp (Act.mk T ds).eval o).run P (re w τ dd) = .ok (.value v) w' := hrun
 rw [hrun']
 show J s (G (b.at (Act.put ⟨T, ds⟩ o.dst v) _) cs) w'
 rw [hd]
 exact h
theorem at_skipF (hJ : JS P main (fun _ => none) J) {b : Frame} {k : List Item} {cs : List Frame} (hb : b.kind ≠ .early) {ops : Array Oper} {i : Nat} {rest : List Nat} {o : Oper} {s : γ} {T : Array Value} {ds : List Deferred} {w : World}
 (ho : ops[i]? = some o) (hok : okOp P (fun _ => false) o.op = true) (hw : Region.wanted o (yielded ops T) = true) (hd : o.dst = none)
 (hr : ∀ τ dd, ∃ w', (execOp (Act.mk T []).eval o).run P (re w τ dd) = .ok .skip w' ∧ J s (G (b.at ⟨T, ds⟩ (.inRegion ops rest :: k)) cs) w') : J s (G (b.at ⟨T, ds⟩ (.inRegion ops (i :: rest) :: k)) cs) w := by
 refine at_cons hb hJ ho hw fun τ dd => ?_
 have htame : tame P true (execOp (Act.mk T ds).eval o) := (execOp_ok (A := fun _ => false) (fun f h => by cases h) o hok _ (fun f => rfl)).1
 obtain ⟨h1, h2⟩ := evs_free (Kc := fun _ => none) htame rfl (re w τ dd)
 refine ⟨h1, h2, ?_⟩
 obtain ⟨w', hrun, h⟩ := hr τ dd
 have hrun' : (execOp (Act.mk T ds).eval o).run P (re w τ dd) = .ok .skip w' := hrun
 rw [hrun']
 show J s (G (b.at (Act.put ⟨T, ds⟩ o.dst undef) _) cs) w'
 rw [hd]
 exact h
def backOk (P : Program) (ops : Array Oper) : Bool := (List.range ops.size).all fun i => match ops[i]? with
 | some o => okOp P (fun _ => false) o.op && o.guard.isNone && o.after.all (fun e => !Region.binds .any e || decide (e.on < i))
 | none => false
theorem at_draws (hJ : JS P main (fun _ => none) J) {b : Frame} {k : List Item} {cs : List Frame} (hb : b.kind ≠ .early) (hm : P.follows .mixedOrders = true) {id : Nat} {ops : Array Oper} {T₀ : Array Value} {ds : List Deferred} {s : γ} {w : World} (I : (Nat → Bool) → Array Value → World → Prop)
 (hback : backOk P ops = true) (hre : ∀ L T w τ d, I L T w → I L T (re w τ d)) (hI : I (fun _ => false) T₀ w)
 (hstep : ∀ (L : Nat → Bool) (T : Array Value) (w : World) (i : Nat) (o : Oper), I L T w → L i = false → ops[i]? = some o → (∀ e ∈ o.after, Region.binds .any e = true → L e.on = true) →
  (∃ d, o.dst = some d ∧ ∃ v w', (execOp (Act.mk T []).eval o).run P w = .ok (.value v) w' ∧ I (upd L i true) (T.setIfInBounds d v) w') ∨ (o.dst = none ∧ ∃ w', (execOp (Act.mk T []).eval o).run P w = .ok .skip w' ∧ I (upd L i true) T w'))
 (hend : ∀ L T w, (∀ i, i < ops.size → L i = true) → I L T w → J s (G (b.at ⟨T, ds⟩ (.inRegion ops [] :: k)) cs) w) : J s (G (b.at ⟨T₀, ds⟩ (.code (.region id ops true) :: k)) cs) w := by
 have hb' : ∀ i o, ops[i]? = some o → okOp P (fun _ => false) o.op = true ∧ o.guard = none ∧ ∀ e ∈ o.after, Region.binds .any e = true → e.on < i := by
  intro i o ho
  have hlt := (Array.getElem?_eq_some_iff.1 ho).1
  unfold backOk at hback
  rw [List.all_eq_true] at hback
  have := hback i (List.mem_range.2 hlt)
  rw [ho] at this
  simp only [Bool.and_eq_true, Option.isNone_iff_eq_none, Array.all_eq_true_iff_forall_mem] at this
  exact ⟨this.1.1, this.1.2, fun e he hbe => by have := this.2 e he; simpa [hbe] using this⟩
 have key : ∀ (fuel t : Nat) (listed : Array Bool) (L : Nat → Bool) (T : Array Value) (w : World), listed.size = ops.size → left listed = fuel → (∀ i, i < ops.size → listed.getD i false = L i) → I L T w →
  J s (G (b.at ⟨T, ds⟩ (.inRegion ops (Region.linearise.go .any ops fuel t listed []) :: k)) cs) w := by
  intro fuel
  induction fuel with
  | zero =>
   intro t listed L T w hsz hl hL hi
   refine hend L T w (fun i hlt => ?_) hi
   rw [← hL i hlt]
   have hlt' : i < listed.size := by omega
   cases hv : listed[i] with
   | true => simp [hlt', hv]
   | false => have := left_pos (listed := listed) (i := i) (by simp [hlt', hv]); omega
  | succ fuel ih =>
   intro t listed L T w hsz hl hL hi
   simp only [Region.linearise.go]
   change J s (G (b.at ⟨T, ds⟩ (.inRegion ops (match (Region.ready .any ops listed)[t % (Region.ready .any ops listed).length]? with
    | some i => Region.linearise.go .any ops fuel (t / (Region.ready .any ops listed).length) (listed.setIfInBounds i true) [i]
    | none => [].reverse) :: k)) cs) w
   have hun : ∃ i, listed.getD i true = false := by
    refine Classical.byContradiction fun hn => ?_
    have : left listed = 0 := by
     unfold left
     rw [List.length_eq_zero_iff, List.filter_eq_nil_iff]
     intro x hx hxx
     obtain ⟨i, hi, rfl⟩ := List.getElem_of_mem hx
     have hi' : i < listed.size := by simpa using hi
     have e : listed.toList[i] = listed[i] := by simp
     rw [e] at hxx
     exact hn ⟨i, by simp [hi']; simpa using hxx⟩
    omega
   have hready : ∃ i, i ∈ Region.ready .any ops listed := by
    have : ∀ m i, m = i → listed.getD i true = false → ∃ j, j ∈ Region.ready .any ops listed := by
     intro m
     induction m using Nat.strongRecOn with
     | _ m ihm =>
      intro i hi hun
      subst hi
      have hops : m < ops.size := by have := getD_lt hun; omega
      by_cases hall : ∀ e ∈ (ops[m]'hops).after, Region.binds .any e = true → listed.getD e.on false = true
      · exact ⟨m, mem_ready.2 ⟨hun, _, Array.getElem?_eq_getElem hops, hall⟩⟩
      · obtain ⟨e, he⟩ := Classical.not_forall.1 hall
        obtain ⟨h1, he⟩ := Classical.not_imp.1 he
        obtain ⟨h2, he⟩ := Classical.not_imp.1 he
        have hlt' := (hb' m _ (Array.getElem?_eq_getElem hops)).2.2 e h1 h2
        refine ihm e.on hlt' e.on rfl ?_
        have : e.on < listed.size := by omega
        simp [this] at he ⊢
        exact he
    obtain ⟨i, hi⟩ := hun
    exact this i i rfl hi
   cases hi' : (Region.ready .any ops listed)[t % (Region.ready .any ops listed).length]? with
   | none =>
    exfalso
    obtain ⟨i, hi''⟩ := hready
    have hpos : 0 < (Region.ready .any ops listed).length := List.length_pos_of_mem hi''
    have hlt := Nat.mod_lt t hpos
    rw [List.getElem?_eq_none_iff] at hi'
    omega
   | some i =>
    have hmem := List.mem_of_getElem? hi'
    obtain ⟨hun, o, ho, hall⟩ := mem_ready.1 hmem
    have hilt : i < ops.size := by have := getD_lt hun; omega
    simp only []
    rw [linearise_go_acc, List.reverse_singleton, List.singleton_append]
    obtain ⟨hok, hg, hbk⟩ := hb' i o ho
    have hLi : L i = false := by
     rw [← hL i hilt]
     have hlt' : i < listed.size := by omega
     simp [hlt'] at hun ⊢
     exact hun
    have hw : Region.wanted o (yielded ops T) = true := by simp [Region.wanted, hg]
    have hld : left (listed.setIfInBounds i true) + 1 = left listed := left_set hun
    have hL' : ∀ j, j < ops.size → (listed.setIfInBounds i true).getD j false = upd L i true j := fun j hj => by
     by_cases e : i = j
     · subst e
       have : i < listed.size := by omega
       rw [upd_same]; simp [this]
     · rw [getD_set_ne false e, upd_ne _ _ (fun x => e x.symm)]; exact hL j hj
    have hall' : ∀ e ∈ o.after, Region.binds .any e = true → L e.on = true := fun e he hbe => by
     rw [← hL e.on (by have := hbk e he hbe; omega)]; exact hall e he hbe
    have hst := fun τ dd => hstep L T (re w τ dd) i o (hre _ _ _ τ dd hi) hLi ho hall'
    cases hdst : o.dst with
    | some d =>
     refine at_opF hJ hb ho hok hw hdst fun τ dd => ?_
     rcases hst τ dd with ⟨d', hd', v, w', hr, hI'⟩ | ⟨hd', _⟩
     · rw [hdst] at hd'
       obtain rfl := Option.some.inj hd'
       exact ⟨v, w', hr, ih _ _ (upd L i true) _ _ (by simpa using hsz) (by omega) hL' hI'⟩
     · rw [hdst] at hd'; cases hd'
    | none =>
     refine at_skipF hJ hb ho hok hw hdst fun τ dd => ?_
     rcases hst τ dd with ⟨d', hd', _⟩ | ⟨hd', w', hr, hI'⟩
     · rw [hdst] at hd'; cases hd'
     · exact ⟨w', hr, ih _ _ (upd L i true) _ _ (by simpa using hsz) (by omega) hL' hI'⟩
 refine hJ.step _ _ _ rfl fun τ d => ⟨_, _, #[], stepG_region_draw (a := ⟨T₀, ds⟩), ?_, by simp, ?_⟩
 · exact OkD.refl _ _ _
 · refine hJ.re' s _ w τ (d + 1) ?_
   simp only [Region.schedule, hm, Bool.true_or, if_true, Region.linearise]
   refine key _ _ _ (fun _ => false) _ _ (by simp) ?_ (fun i hi => by simp [hi]) hI
   unfold left; simp
end
section
variable {P : Program} {main : Bool} {Kc : Addr → Option Value} {γ : Type} {J : γ → Goroutine → World → Prop}
end
end Go.Car
set_option maxHeartbeats 1000000
namespace Go.Car
open Go Go.Conc Go.RowKit
section
variable {P : Program} {main : Bool} {Kc : Addr → Option Value} {γ : Type} {J : γ → Goroutine → World → Prop}
end
end Go.Car
set_option maxHeartbeats 1000000
namespace Go.Car
open Go Go.RowKit
def yieldsTo (P : Program) (a : Act) (o : Oper) (W : World) (v : Value) (W' : World) : Prop :=
 (execOp a.eval o).run P W = .ok (.value v) W' ∨ ∃ f args, (execOp a.eval o).run P W = .ok (.enter f args) W ∧ Calls P f args W fun e w' => e = .returned v ∧ w' = W'
def chkV (ops : Array Oper) (k n : Nat) : Bool :=
 (List.range k).all (fun i => match ops[i]? with
  | some o => o.guard.isNone && (match o.dst with | some d => decide (d < n) | none => false) && (match o.op with | .select .. => false | _ => true) &&
   o.op.operands.all (fun x => match tmpOf x with
    | some t => (List.range k).all fun j => dstOf ops j != some t || waits ops i j
    | none => true)
  | none => false) &&
 (List.range k).all (fun i => (List.range i).all fun j => dstOf ops i != dstOf ops j)
section
variable {P : Program} {ops : Array Oper}
theorem wp_of_yields {a a' : Act} {o : Oper} {W W' : World} {v : Value} {K : Act → World → Prop} {Q : Exit → Act → World → Prop} (he : execOp a.eval o = execOp a'.eval o) (h : yieldsTo P a' o W v W') (hK : K (a.put o.dst v) W') : o.wp P a W K Q := by
 unfold Oper.wp
 rw [he]
 rcases h with h | ⟨f, args, h, hc⟩
 · rw [h]; exact hK
 · rw [h]
   refine Calls.mono hc ?_
   rintro e w' ⟨rfl, rfl⟩
   exact hK
theorem wp_region_one {id k s : Nat} {Q' : Exit → Act → World → Prop} {T₀ : Array Value} {ds : List Deferred} {w W0 W1 : World} (hm : P.follows .mixedOrders = true) (hback : backB .any ops k = true) (hwait : allWaitB .any ops k = true) (hchk : chkV ops k T₀.size = true) (hsk : s < k)
 (vals : List Value) (hlen : vals.length = k) (h0 : W0 = { w with drawn := w.drawn + 1 })
 (hread : ∀ i o, i < k → i ≠ s → ops[i]? = some o → ∀ W, W = W0 ∨ W = W1 → yieldsTo P ⟨putv ops vals 0 T₀, []⟩ o W (vals.getD i undef) W)
 (hone : ∀ o, ops[s]? = some o → yieldsTo P ⟨putv ops vals 0 T₀, []⟩ o W0 (vals.getD s undef) W1)
 (hend : wpAny P .any ops Q' (ops.size - k) (Array.ofFn fun i : Fin ops.size => decide (i.val < k)) ⟨putv ops vals 0 T₀, ds⟩ W1) : (Code.region id ops true).wp P Q' ⟨T₀, ds⟩ w := by
 have hk : k ≤ ops.size := by
  have := hback
  unfold backB at this
  simp only [Bool.and_eq_true, decide_eq_true_eq] at this
  exact this.1
 unfold chkV at hchk
 simp only [Bool.and_eq_true, List.all_eq_true, List.mem_range] at hchk
 obtain ⟨h1, h2⟩ := hchk
 have plain : ∀ i, i < k → ∃ o d, ops[i]? = some o ∧ o.guard = none ∧ o.dst = some d ∧ dstOf ops i = some d ∧ d < T₀.size ∧ (∀ cs b, o.op ≠ .select cs b) ∧ ∀ x ∈ o.op.operands, ∀ t, tmpOf x = some t → ∀ j, j < k → dstOf ops j = some t → waits ops i j = true := fun i hi => by
  have := h1 i hi
  cases ho : ops[i]? with
  | none => rw [ho] at this; cases this
  | some o =>
   rw [ho] at this
   simp only [Bool.and_eq_true] at this
   obtain ⟨⟨⟨a1, a2⟩, a3⟩, a4⟩ := this
   cases hd : o.dst with
   | none => rw [hd] at a2; cases a2
   | some d =>
    rw [hd] at a2
    refine ⟨o, d, rfl, Option.isNone_iff_eq_none.1 a1, hd, by unfold dstOf; rw [ho]; exact hd, by simpa using a2, (fun cs b h => by rw [h] at a3; cases a3), fun x hx t ht j hj hdj => ?_⟩
    rw [Array.all_eq_true_iff_forall_mem] at a4
    have := a4 x hx
    rw [ht] at this
    simp only [List.all_eq_true, List.mem_range] at this
    have := this j hj
    simpa [hdj] using this
 have apart : ∀ (i j : Nat) (d : Tmp), i < k → j < k → dstOf ops i = some d → dstOf ops j = some d → i = j := fun i j d hi hj hd hd' => by
  rcases Nat.lt_trichotomy i j with h | h | h
  · have := h2 j hj i h; rw [hd, hd'] at this; simp at this
  · exact h
  · have := h2 i hi j h; rw [hd, hd'] at this; simp at this
 have hTs : (putv ops vals 0 T₀).size = T₀.size := putv_size _ _ _
 have final : ∀ i x, i < k → dstOf ops i = some x → (putv ops vals 0 T₀)[x]? = some (vals.getD i undef) := fun i x hi hd => by
  obtain ⟨o, d, ho, _, _, hd', hlt, _⟩ := plain i hi
  rw [hd] at hd'
  obtain rfl := Option.some.inj hd'
  refine putv_at vals 0 _ i _ x (by simp [hlen, hi]) (by rw [Nat.zero_add]; exact hd) hlt fun m a b e => ?_
  have := apart m i x (by omega) hi e hd
  omega
 refine wp_region_inv hm hback hwait (fun L a w' => a.defers = ds ∧ a.tmps.size = T₀.size ∧ (∀ t, (∀ j, j < k → dstOf ops j ≠ some t) → a.tmps[t]? = T₀[t]?) ∧ (∀ j t, j < k → dstOf ops j = some t → L.getD j false = true → a.tmps[t]? = (putv ops vals 0 T₀)[t]?) ∧ w' = if L.getD s false = true then W1 else W0) ?_ ?_ ?_
 · refine ⟨rfl, rfl, fun _ _ => rfl, fun j t _ _ hl => ?_, ?_⟩
   · exfalso
     simp [al_gd, Array.getElem?_replicate] at hl
     split at hl <;> simp at hl
   · rw [if_neg, h0]
     intro hl
     simp [al_gd, Array.getElem?_replicate] at hl
     split at hl <;> simp at hl
 · rintro L a w' i hL hi hun hdep ⟨hd, hsz, hout, hin, hw'⟩
   obtain ⟨o, d, ho, hg, hdst, hdo, hlt, hsel, hops⟩ := plain i hi
   have hun' : L.getD i false = false := by
    have : i < L.size := by omega
    simp [this] at hun ⊢; exact hun
   have hex : execOp a.eval o = execOp (Act.mk (putv ops vals 0 T₀) []).eval o := by
    obtain ⟨tm, dd⟩ := a
    refine execOp_congr o hsel fun x hx => eval_agree fun t ht => ?_
    by_cases hxt : ∃ j, j < k ∧ dstOf ops j = some t
    · obtain ⟨j, hj, hdj⟩ := hxt
      obtain ⟨oi, hoi, e, he1, he2, he3⟩ := waits_iff.1 (hops x hx t ht j hj hdj)
      subst he3
      exact hin e.on t hj hdj (hdep oi hoi e he1 he2)
    · have hno : ∀ j, j < k → dstOf ops j ≠ some t := fun j hj hd => hxt ⟨j, hj, hd⟩
      rw [hout t hno]
      refine (putv_out vals 0 _ t fun j _ hj => hno j (by omega)).symm
   have hwan : Region.wanted o (yielded ops a.tmps) = true := by simp [Region.wanted, hg]
   have hnext : ∀ W', (if (L.setIfInBounds i true).getD s false = true then W1 else W0) = W' → (a.put o.dst (vals.getD i undef)).defers = ds ∧ (a.put o.dst (vals.getD i undef)).tmps.size = T₀.size ∧ (∀ t, (∀ j, j < k → dstOf ops j ≠ some t) → (a.put o.dst (vals.getD i undef)).tmps[t]? = T₀[t]?) ∧
    (∀ j t, j < k → dstOf ops j = some t → (L.setIfInBounds i true).getD j false = true → (a.put o.dst (vals.getD i undef)).tmps[t]? = (putv ops vals 0 T₀)[t]?) ∧ W' = if (L.setIfInBounds i true).getD s false = true then W1 else W0 := by
    intro W' hW
    rw [hdst]
    refine ⟨hd, by simp [Act.put, hsz], fun t ht => ?_, fun j t hj hdj hl => ?_, hW.symm⟩
    · have : d ≠ t := fun e => ht i hi (e ▸ hdo)
      simp only [Act.put]; rw [al_gn this]; exact hout t ht
    · by_cases e : d = t
      · subst e
        rw [final i d hi hdo]
        have : d < a.tmps.size := by rw [hsz]; exact hlt
        simp [Act.put, this]
      · simp only [Act.put]; rw [al_gn e]
        have hji : i ≠ j := fun e2 => by subst e2; rw [hdo] at hdj; exact e (Option.some.inj hdj)
        rw [getD_set_ne false hji] at hl
        exact hin j t hj hdj hl
   unfold wpOp
   simp only [ho, hwan, if_true]
   refine .inl ?_
   by_cases his : i = s
   · subst his
     rw [hun'] at hw'
     simp only [Bool.false_eq_true, if_false] at hw'
     subst hw'
     refine wp_of_yields hex (hone o ho) (hnext W1 ?_)
     have : i < L.size := by omega
     simp [this]
   · have hg' : (L.setIfInBounds i true).getD s false = L.getD s false := getD_set_ne false his
     refine wp_of_yields hex (hread i o hi his ho w' ?_) (hnext w' ?_)
     · rw [hw']; split
       · exact .inr rfl
       · exact .inl rfl
     · rw [hg']; exact hw'.symm
 · rintro ⟨T, dd⟩ w' ⟨hd, hsz, hout, hin, hw'⟩
   have hL : ∀ j, j < k → (Array.ofFn fun i : Fin ops.size => decide (i.val < k)).getD j false = true := fun j hj => by
    have : j < ops.size := by omega
    simp [this, hj]
   rw [if_pos (hL s hsk)] at hw'
   subst hw'
   simp only at hd hsz hout hin
   subst hd
   have : T = putv ops vals 0 T₀ := by
    apply Array.ext_getElem?
    intro x
    by_cases hx : ∃ j, j < k ∧ dstOf ops j = some x
    · obtain ⟨j, hj, hdj⟩ := hx
      exact hin j x hj hdj (hL j hj)
    · have hno : ∀ j, j < k → dstOf ops j ≠ some x := fun j hj hd => hx ⟨j, hj, hd⟩
      rw [hout x hno]
      exact (putv_out vals 0 _ x fun j _ hj => hno j (by omega)).symm
   rw [this]
   exact hend
end
section
variable {P : Program} {ops : Array Oper}
theorem wp_region_vals {id k : Nat} {Q' : Exit → Act → World → Prop} {T₀ : Array Value} {ds : List Deferred} {w W0 : World} (hm : P.follows .mixedOrders = true) (hback : backB .any ops k = true) (hwait : allWaitB .any ops k = true) (hchk : chkV ops k T₀.size = true)
 (vals : List Value) (hlen : vals.length = k) (h0 : W0 = { w with drawn := w.drawn + 1 })
 (WW : Array Bool → World) (hW0 : WW (Array.replicate ops.size false) = W0)
 (hstep : ∀ (L : Array Bool) i o, L.size = ops.size → i < k → L.getD i false = false → ops[i]? = some o → (∀ e ∈ o.after, Region.binds .any e = true → L.getD e.on false = true) → (∀ j oj, ops[j]? = some oj → L.getD j false = true → ∀ e ∈ oj.after, Region.binds .any e = true → L.getD e.on false = true) → yieldsTo P ⟨putv ops vals 0 T₀, []⟩ o (WW L) (vals.getD i undef) (WW (L.setIfInBounds i true)))
 (hend : wpAny P .any ops Q' (ops.size - k) (Array.ofFn fun i : Fin ops.size => decide (i.val < k)) ⟨putv ops vals 0 T₀, ds⟩ (WW (Array.ofFn fun i : Fin ops.size => decide (i.val < k)))) : (Code.region id ops true).wp P Q' ⟨T₀, ds⟩ w := by
 have hk : k ≤ ops.size := by
  have := hback
  unfold backB at this
  simp only [Bool.and_eq_true, decide_eq_true_eq] at this
  exact this.1
 unfold chkV at hchk
 simp only [Bool.and_eq_true, List.all_eq_true, List.mem_range] at hchk
 obtain ⟨h1, h2⟩ := hchk
 have plain : ∀ i, i < k → ∃ o d, ops[i]? = some o ∧ o.guard = none ∧ o.dst = some d ∧ dstOf ops i = some d ∧ d < T₀.size ∧ (∀ cs b, o.op ≠ .select cs b) ∧ ∀ x ∈ o.op.operands, ∀ t, tmpOf x = some t → ∀ j, j < k → dstOf ops j = some t → waits ops i j = true := fun i hi => by
  have := h1 i hi
  cases ho : ops[i]? with
  | none => rw [ho] at this; cases this
  | some o =>
   rw [ho] at this
   simp only [Bool.and_eq_true] at this
   obtain ⟨⟨⟨a1, a2⟩, a3⟩, a4⟩ := this
   cases hd : o.dst with
   | none => rw [hd] at a2; cases a2
   | some d =>
    rw [hd] at a2
    refine ⟨o, d, rfl, Option.isNone_iff_eq_none.1 a1, hd, by unfold dstOf; rw [ho]; exact hd, by simpa using a2, (fun cs b h => by rw [h] at a3; cases a3), fun x hx t ht j hj hdj => ?_⟩
    rw [Array.all_eq_true_iff_forall_mem] at a4
    have := a4 x hx
    rw [ht] at this
    simp only [List.all_eq_true, List.mem_range] at this
    have := this j hj
    simpa [hdj] using this
 have apart : ∀ (i j : Nat) (d : Tmp), i < k → j < k → dstOf ops i = some d → dstOf ops j = some d → i = j := fun i j d hi hj hd hd' => by
  rcases Nat.lt_trichotomy i j with h | h | h
  · have := h2 j hj i h; rw [hd, hd'] at this; simp at this
  · exact h
  · have := h2 i hi j h; rw [hd, hd'] at this; simp at this
 have hTs : (putv ops vals 0 T₀).size = T₀.size := putv_size _ _ _
 have final : ∀ i x, i < k → dstOf ops i = some x → (putv ops vals 0 T₀)[x]? = some (vals.getD i undef) := fun i x hi hd => by
  obtain ⟨o, d, ho, _, _, hd', hlt, _⟩ := plain i hi
  rw [hd] at hd'
  obtain rfl := Option.some.inj hd'
  refine putv_at vals 0 _ i _ x (by simp [hlen, hi]) (by rw [Nat.zero_add]; exact hd) hlt fun m a b e => ?_
  have := apart m i x (by omega) hi e hd
  omega
 refine wp_region_inv hm hback hwait (fun L a w' => a.defers = ds ∧ a.tmps.size = T₀.size ∧ (∀ t, (∀ j, j < k → dstOf ops j ≠ some t) → a.tmps[t]? = T₀[t]?) ∧ (∀ j t, j < k → dstOf ops j = some t → L.getD j false = true → a.tmps[t]? = (putv ops vals 0 T₀)[t]?) ∧ w' = WW L ∧ (∀ j oj, ops[j]? = some oj → L.getD j false = true → ∀ e ∈ oj.after, Region.binds .any e = true → L.getD e.on false = true)) ?_ ?_ ?_
 · refine ⟨rfl, rfl, fun _ _ => rfl, fun j t _ _ hl => ?_, ?_⟩
   · exfalso
     simp [al_gd, Array.getElem?_replicate] at hl
     split at hl <;> simp at hl
   · refine ⟨by rw [hW0, h0], fun j oj _ hl => ?_⟩
     exfalso
     simp [al_gd, Array.getElem?_replicate] at hl
     split at hl <;> simp at hl
 · rintro L a w' i hL hi hun hdep ⟨hd, hsz, hout, hin, hw', hcl⟩
   obtain ⟨o, d, ho, hg, hdst, hdo, hlt, hsel, hops⟩ := plain i hi
   have hun' : L.getD i false = false := by
    have : i < L.size := by omega
    simp [this] at hun ⊢; exact hun
   have hex : execOp a.eval o = execOp (Act.mk (putv ops vals 0 T₀) []).eval o := by
    obtain ⟨tm, dd⟩ := a
    refine execOp_congr o hsel fun x hx => eval_agree fun t ht => ?_
    by_cases hxt : ∃ j, j < k ∧ dstOf ops j = some t
    · obtain ⟨j, hj, hdj⟩ := hxt
      obtain ⟨oi, hoi, e, he1, he2, he3⟩ := waits_iff.1 (hops x hx t ht j hj hdj)
      subst he3
      exact hin e.on t hj hdj (hdep oi hoi e he1 he2)
    · have hno : ∀ j, j < k → dstOf ops j ≠ some t := fun j hj hd => hxt ⟨j, hj, hd⟩
      rw [hout t hno]
      refine (putv_out vals 0 _ t fun j _ hj => hno j (by omega)).symm
   have hwan : Region.wanted o (yielded ops a.tmps) = true := by simp [Region.wanted, hg]
   have hnext : ∀ W', WW (L.setIfInBounds i true) = W' → (a.put o.dst (vals.getD i undef)).defers = ds ∧ (a.put o.dst (vals.getD i undef)).tmps.size = T₀.size ∧ (∀ t, (∀ j, j < k → dstOf ops j ≠ some t) → (a.put o.dst (vals.getD i undef)).tmps[t]? = T₀[t]?) ∧
    (∀ j t, j < k → dstOf ops j = some t → (L.setIfInBounds i true).getD j false = true → (a.put o.dst (vals.getD i undef)).tmps[t]? = (putv ops vals 0 T₀)[t]?) ∧ W' = WW (L.setIfInBounds i true) ∧ (∀ j oj, ops[j]? = some oj → (L.setIfInBounds i true).getD j false = true → ∀ e ∈ oj.after, Region.binds .any e = true → (L.setIfInBounds i true).getD e.on false = true) := by
    intro W' hW
    rw [hdst]
    refine ⟨hd, by simp [Act.put, hsz], fun t ht => ?_, fun j t hj hdj hl => ?_, hW.symm, fun j oj hoj hl e he hb => ?_⟩
    · have : d ≠ t := fun e => ht i hi (e ▸ hdo)
      simp only [Act.put]; rw [al_gn this]; exact hout t ht
    · by_cases e : d = t
      · subst e
        rw [final i d hi hdo]
        have : d < a.tmps.size := by rw [hsz]; exact hlt
        simp [Act.put, this]
      · simp only [Act.put]; rw [al_gn e]
        have hji : i ≠ j := fun e2 => by subst e2; rw [hdo] at hdj; exact e (Option.some.inj hdj)
        rw [getD_set_ne false hji] at hl
        exact hin j t hj hdj hl
    · by_cases hji : i = j
      · subst hji
        exact getD_set_true (hdep oj hoj e he hb)
      · rw [getD_set_ne false hji] at hl
        exact getD_set_true (hcl j oj hoj hl e he hb)
   unfold wpOp
   simp only [ho, hwan, if_true]
   refine .inl ?_
   subst hw'
   exact wp_of_yields hex (hstep L i o hL hi hun' ho (fun e he hb => hdep o ho e he hb) hcl) (hnext _ rfl)
 · rintro ⟨T, dd⟩ w' ⟨hd, hsz, hout, hin, hw', _⟩
   have hL : ∀ j, j < k → (Array.ofFn fun i : Fin ops.size => decide (i.val < k)).getD j false = true := fun j hj => by
    have : j < ops.size := by omega
    simp [this, hj]
   subst hw'
   simp only at hd hsz hout hin
   subst hd
   have : T = putv ops vals 0 T₀ := by
    apply Array.ext_getElem?
    intro x
    by_cases hx : ∃ j, j < k ∧ dstOf ops j = some x
    · obtain ⟨j, hj, hdj⟩ := hx
      exact hin j x hj hdj (hL j hj)
    · have hno : ∀ j, j < k → dstOf ops j ≠ some x := fun j hj hd => hx ⟨j, hj, hd⟩
      rw [hout x hno]
      exact (putv_out vals 0 _ x fun j _ hj => hno j (by omega)).symm
   rw [this]
   exact hend
theorem wp_region_two {id k s t : Nat} {Q' : Exit → Act → World → Prop} {T₀ : Array Value} {ds : List Deferred} {w W0 W1 W2 : World} (hm : P.follows .mixedOrders = true) (hback : backB .any ops k = true) (hwait : allWaitB .any ops k = true) (hchk : chkV ops k T₀.size = true) (hsk : s < k) (htk : t < k) (hst : s ≠ t) (hts : waits ops t s = true)
 (vals : List Value) (hlen : vals.length = k) (h0 : W0 = { w with drawn := w.drawn + 1 })
 (hread : ∀ i o, i < k → i ≠ s → i ≠ t → ops[i]? = some o → ∀ W, W = W0 ∨ W = W1 ∨ W = W2 → yieldsTo P ⟨putv ops vals 0 T₀, []⟩ o W (vals.getD i undef) W)
 (hone : ∀ o, ops[s]? = some o → yieldsTo P ⟨putv ops vals 0 T₀, []⟩ o W0 (vals.getD s undef) W1)
 (htwo : ∀ o, ops[t]? = some o → yieldsTo P ⟨putv ops vals 0 T₀, []⟩ o W1 (vals.getD t undef) W2)
 (hend : wpAny P .any ops Q' (ops.size - k) (Array.ofFn fun i : Fin ops.size => decide (i.val < k)) ⟨putv ops vals 0 T₀, ds⟩ W2) : (Code.region id ops true).wp P Q' ⟨T₀, ds⟩ w := by
 have hk : k ≤ ops.size := by
  have := hback
  unfold backB at this
  simp only [Bool.and_eq_true, decide_eq_true_eq] at this
  exact this.1
 have rep : ∀ j, (Array.replicate ops.size false).getD j false = false := fun j => by
  simp only [al_gd, Array.getElem?_replicate]
  split <;> rfl
 have full : ∀ j, j < k → (Array.ofFn fun i : Fin ops.size => decide (i.val < k)).getD j false = true := fun j hj => by
  have : j < ops.size := by omega
  simp [this, hj]
 refine wp_region_vals hm hback hwait hchk vals hlen h0 (fun L => if L.getD t false = true then W2 else if L.getD s false = true then W1 else W0) ?_ ?_ ?_
 · simp only [rep]; rfl
 · intro L i o hL hi hun ho hdep hcl
   have hiL : i < L.size := by omega
   by_cases his : i = s
   · subst his
     have ht : L.getD t false = false := by
      cases h : L.getD t false with
      | false => rfl
      | true =>
       obtain ⟨oi, hoi, e, he1, he2, he3⟩ := waits_iff.1 hts
       have := hcl t oi hoi h e he1 he2
       rw [he3, hun] at this
       cases this
     have e1 : (L.setIfInBounds i true).getD t false = L.getD t false := getD_set_ne false hst
     have e2 : (L.setIfInBounds i true).getD i false = true := by simp [hiL]
     simp only [e1, e2, ht, hun]
     exact hone o ho
   · by_cases hit : i = t
     · subst hit
       have hs : L.getD s false = true := by
        obtain ⟨oi, hoi, e, he1, he2, he3⟩ := waits_iff.1 hts
        rw [ho] at hoi
        obtain rfl := Option.some.inj hoi
        rw [← he3]
        exact hdep e he1 he2
       have e2 : (L.setIfInBounds i true).getD i false = true := by simp [hiL]
       simp only [e2, hs, hun]
       exact htwo o ho
     · have e1 : (L.setIfInBounds i true).getD t false = L.getD t false := getD_set_ne false hit
       have e2 : (L.setIfInBounds i true).getD s false = L.getD s false := getD_set_ne false his
       simp only [e1, e2]
       refine hread i o hi his hit ho _ ?_
       split
       · exact .inr (.inr rfl)
       · split
         · exact .inr (.inl rfl)
         · exact .inl rfl
 · simp only [full t htk, full s hsk]
   exact hend
end
end Go.Car
set_option maxHeartbeats 1000000
namespace Go.Car
open Go Go.Conc Go.RowKit
structure TM (Ml S : Type) where
 bm : BM Ml
 at' : Nat → Tree S Unit
 room : Nat
section
variable {Ml S : Type}
structure Came {O : Type} (C : Core Ml S) (own : Nat → S → O) (i : Nat) (r : S × Tree S Unit) (m : TM Ml S) (room : Nat) (o : Out (TM Ml S)) : Prop where
 st : C.st o.mem.bm.l = r.1
 here : o.mem.at' i = r.2
 others : ∀ j, j ≠ i → o.mem.at' j = m.at' j ∧ o.mem.bm.box j = m.bm.box j
 room : o.mem.room = room
 oth : ∀ j, j ≠ i → own j r.1 = own j (C.st m.bm.l)
 out : match r.2 with
  | .ret _ => o = .done o.mem
  | .step _ _ => o = .yield o.mem
  | .out => False
def thrOf {O : Type} (C : Core Ml S) (own : Nat → S → O) (ro : Nat → Option Obj) (pr : Nat → Proc S Unit) : Thr (TM Ml S) where
 foot m b := m.bm.foot C ro b
 Rep m w := BRep C ro m.bm w ∧ ∀ i, (m.at' i).Deep (m.room + 1)
 Start i m o := Came C own i (pr i (C.st m.bm.l)) m m.room o
 Go i m o := ∃ u k, m.at' i = .step u k ∧ Came C own i (u (C.st m.bm.l), k (C.st m.bm.l)) m (m.room - 1) o
 Kill i m m' := C.st m'.bm.l = C.st m.bm.l ∧ m'.at' = m.at' ∧ m'.bm.box = m.bm.box ∧ m'.room = m.room - 1
 Same i m m' := m'.at' i = m.at' i ∧ m'.bm.box i = m.bm.box i ∧ m'.room ≤ m.room ∧ own i (C.st m'.bm.l) = own i (C.st m.bm.l)
 left m := m.room
 frame m w w' h hs := ⟨h.1.frame hs, h.2⟩
 lt m w b h hb := h.1.lt hb
 refl i m := ⟨rfl, rfl, Nat.le_refl _, rfl⟩
 trans i a b c h k := ⟨k.1.trans h.1, k.2.1.trans h.2.1, Nat.le_trans k.2.2.1 h.2.2.1, k.2.2.2.trans h.2.2.2⟩
 start_same i j m o hij h := ⟨(h.others i hij).1, (h.others i hij).2, by rw [h.room]; exact Nat.le_refl _, by rw [h.st]; exact h.oth i hij⟩
 go_same i j m o hij h := by
  obtain ⟨u, k, _, h⟩ := h
  exact ⟨(h.others i hij).1, (h.others i hij).2, by rw [h.room]; omega, by rw [h.st]; exact h.oth i hij⟩
 kill_same i j m m' hij h := ⟨by rw [h.2.1], by rw [h.2.2.1], by rw [h.2.2.2]; omega, by rw [h.1]⟩
structure Turn (P : Program) (Ml S : Type) where
 Kc : Addr → Option Value
 X : Snap
 J : Goroutine → World → Prop
 js : JX P Kc J
 m₀ : TM Ml S
 w₀ : World
 R : TM Ml S → Out (TM Ml S) → Prop
 room : Nat
 k : Nat
section
variable {P : Program} {A : FuncId → Bool} {O : Type} {own : Nat → S → O} {C : Core Ml S} {ro : Nat → Option Obj} {pr : Nat → Proc S Unit} {fStep : FuncId} {sx : Value} {cr : Frame} {rest : List Frame} {NE EN : List PanicEntry → Prop} {i : Nat}
structure TurnAt {O : Type} (P : Program) (C : Core Ml S) (own : Nat → S → O) (ro : Nat → Option Obj) (pr : Nat → Proc S Unit) (fStep : FuncId) (sx : Value) (cr : Frame) (rest : List Frame) (NE EN : List PanicEntry → Prop) (i : Nat) (s : Turn P Ml S) (m : BM Ml) (w : World) (r : S × Tree S Unit) : Prop where
 env : Env P (thrOf C own ro pr) s.Kc s.X s.J s.m₀ s.w₀
 conts : Conts P (thrOf C own ro pr) fStep sx cr rest NE (Susp P (thrOf C own ro pr) fStep sx cr rest NE EN i s.k) s.R s.room s.J s.m₀ s.w₀
 grow : Grow (thrOf C own ro pr) s.m₀ s.w₀ ⟨m, s.m₀.at', s.room⟩ w
 rep : BRep C ro m w
 deep : ∀ j, (s.m₀.at' j).Deep (s.room + 1)
 deepr : r.2.Deep (s.room + 1)
 others : ∀ j, j ≠ i → m.box j = s.m₀.bm.box j
 oth : ∀ j, j ≠ i → own j (C.st m.l) = own j (C.st s.m₀.bm.l)
 come : ∀ o, Came C own i r s.m₀ s.room o → s.R s.m₀ o
theorem TurnAt.rows_none {s : Turn P Ml S} {m : BM Ml} {w : World} {r : S × Tree S Unit} (h : TurnAt P C own ro pr fStep sx cr rest NE EN i s m w r) {b : Nat} (hb : m.foot C ro b) : s.X b = none := by
 have hE := h.env.grow h.grow
 cases hx : s.X b with
 | none => rfl
 | some p => exact absurd hb (hE.free b p hx)
theorem TurnAt.cut {s : Turn P Ml S} {m : BM Ml} {w : World} {r : S × Tree S Unit} (h : TurnAt P C own ro pr fStep sx cr rest NE EN i s m w r) {wc : World} (hcut : ∃ τ d, Cut s.X (re w τ d) wc) : BRep C ro m wc := by
 obtain ⟨τ, d, hcut⟩ := hcut
 exact h.rep.frame fun b hb => hcut.no b (h.rows_none hb)
theorem TurnAt.moved {s : Turn P Ml S} {m : BM Ml} {w : World} {r : S × Tree S Unit} (h : TurnAt P C own ro pr fStep sx cr rest NE EN i s m w r) {wc wc' w' : World} {l' : Ml} {B' : Nat → Option Obj} (hcut : ∃ τ d, Cut s.X (re w τ d) wc) (k : Moved C m.l (m.box i) wc l' B' wc') (hcut' : Cut s.X w' wc') : Moved C m.l (m.box i) w l' B' w' := by
 obtain ⟨τ, d, hcut⟩ := hcut
 have hE := h.env.grow h.grow
 have hs1 : wc.heap.size = w.heap.size := hcut.size
 have hs2 : wc'.heap.size = w'.heap.size := hcut'.size
 have lt : ∀ b x, s.X b = some x → b < w.heap.size := fun b x hx => by obtain ⟨c, e⟩ := x; exact heap_lt (hE.rows b c e hx)
 have hnew : ∀ b, w.heap.size ≤ b → s.X b = none := fun b hb => by
  cases hx : s.X b with
  | none => rfl
  | some p => exact absurd (lt b p hx) (Nat.not_lt_of_le hb)
 have hX : ∀ b, (m.foot C ro b ∨ wc.heap.size ≤ b) → s.X b = none := fun b hb => hb.elim h.rows_none fun hb => hnew b (by omega)
 have gl : ∀ b, C.foot l' b → s.X b = none := fun b hb => hX b ((k.growl b hb).elim (fun x => .inl (.inl x)) (fun x => x.elim (fun y => .inl (.inr (.inl ⟨i, y⟩))) .inr))
 have gb : ∀ b, B' b ≠ none → s.X b = none := fun b hb => hX b ((k.growb b hb).imp (fun x => .inr (.inl ⟨i, x⟩)) id)
 refine ⟨by have := k.size; omega, fun b hb h1 h2 => ?_, C.frame _ _ _ k.rep fun b hb => (hcut'.no b (gl b hb)).symm, fun b o hb => ?_, fun b hb => (k.growl b hb).imp id (fun x => x.imp id fun x => by omega), fun b hb => (k.growb b hb).imp id (fun x => by omega), k.apart, k.pin⟩
 · have hold := k.old b (by omega) h1 h2
   cases hx : s.X b with
   | none => rw [← hcut'.no b hx, hold]; exact hcut.no b hx
   | some p =>
    obtain ⟨c, e⟩ := p
    rw [(hcut'.is b c e hx).1]
    exact ((hcut.is b c e hx).1).symm
 · rw [← hcut'.no b (gb b (by rw [hb]; simp))]
   exact k.box b o hb
theorem TurnAt.done {s : Turn P Ml S} {m : BM Ml} {w w' : World} {r : S × Tree S Unit} {l' : Ml} {B' : Nat → Option Obj} (h : TurnAt P C own ro pr fStep sx cr rest NE EN i s m w r) (k : Moved C m.l (m.box i) w l' B' w') (ho : ∀ j, j ≠ i → own j (C.st l') = own j (C.st m.l)) : TurnAt P C own ro pr fStep sx cr rest NE EN i s (m.put i l' B') w' r :=
 ⟨h.env, h.conts, h.grow.trans ⟨k.size, Moved.foot_old h.rep k, k.foot_grow⟩, k.done h.rep, h.deep, h.deepr, fun j hj => (BM.put_other _ _ _ hj).trans (h.others j hj), fun j hj => (ho j hj).trans (h.oth j hj), h.come⟩
def thrAlone {O : Type} (hP : Plain P A) (hRS : RowsS P A) (C : Core Ml S) (own : Nat → S → O) (ro : Nat → Option Obj) (pr : Nat → Proc S Unit) (fStep : FuncId) (sx : Value) (cr : Frame) (rest : List Frame) (NE EN : List PanicEntry → Prop) (i : Nat) : Alone P A C ro i Unit where
 main := false
 γ := Turn P Ml S
 J s := s.J
 js s := ⟨s.Kc, s.js⟩
 AtE := TurnAt P C own ro pr fStep sx cr rest NE EN i
 Dead s ch w := s.J (G (cr.raise ch) rest) w
 Oth a b := ∀ j, j ≠ i → own j b = own j a
 oth _ _ _ := rfl
 rep h := h.rep
 move h k ho := h.done k ho
 item {s m w r it t ds} Φ Ψ h hok hw := by
  have hE := h.env.grow h.grow
  intro b k cs hb hk
  refine wpI_away (J := fun (_ : Unit) => s.J) (s := ()) (main := false) (Kc := s.Kc) (X := s.X) (A := A) (a := ⟨t, ds⟩) (w := w)
   (Q := fun _ e a w' => a.defers = ds ∧ ∃ l' B', ((e = .normal ∧ Φ a.tmps l' B') ∨ (e = .ret ∧ Ψ a.tmps l' B')) ∧ TurnAt P C own ro pr fStep sx cr rest NE EN i s (m.put i l' B') w' r) hE.js hE.calm hP hRS hok
   (fun a w' => ∃ wc, (∃ τ d, Cut s.X (re w τ d) wc) ∧ ∃ l' B', (Moved C m.l (m.box i) wc l' B' w' ∧ ∀ j, j ≠ i → own j (C.st l') = own j (C.st m.l)) ∧ Φ a.tmps l' B') (fun a w' => ∃ wc, (∃ τ d, Cut s.X (re w τ d) wc) ∧ ∃ l' B', (Moved C m.l (m.box i) wc l' B' w' ∧ ∀ j, j ≠ i → own j (C.st l') = own j (C.st m.l)) ∧ Ψ a.tmps l' B')
   (fun a w' τ d ⟨wc, h1, l', B', h2, h3⟩ => ⟨wc, h1, l', B', ⟨h2.1.re τ d, h2.2⟩, h3⟩) (fun a w' τ d ⟨wc, h1, l', B', h2, h3⟩ => ⟨wc, h1, l', B', ⟨h2.1.re τ d, h2.2⟩, h3⟩) hE.rows ?_ ?_ ?_ b k cs hb ?_
  · intro wc hc
    refine wpItem_mono (hw wc (h.cut hc) (by obtain ⟨τ, d, hc⟩ := hc; exact hc.size)) ?_
    intro e a w' q
    cases e with
    | normal => exact ⟨q.1, wc, hc, q.2⟩
    | ret => exact ⟨q.1, wc, hc, q.2⟩
    | _ => exact q
  · rintro t' wc' w' ⟨wc, hc, l', B', h2, h3⟩ hc' _
    exact ⟨rfl, l', B', .inl ⟨rfl, h3⟩, h.done (h.moved hc h2.1 hc') h2.2⟩
  · rintro t' wc' w' ⟨wc, hc, l', B', h2, h3⟩ hc' _
    exact ⟨rfl, l', B', .inr ⟨rfl, h3⟩, h.done (h.moved hc h2.1 hc') h2.2⟩
  · rintro _ e a w' ⟨h1, l', B', h2, h3⟩
    have := hk s e a w' ⟨rfl, h1, l', B', h2, h3⟩
    cases e <;> exact this
 call {s m w r f fn c args} R h hf hb hok hw := by
  have hE := h.env.grow h.grow
  intro cl cs h1 h2
  refine callsJ_cut (J := fun (_ : Unit) => s.J) (s := ()) (main := false) (Kc := s.Kc) (X := s.X) (A := A) (w := w) hE.js hE.calm hP hRS hf hb hok (R := fun v w' => ∃ wc, (∃ τ d, Cut s.X (re w τ d) wc) ∧ ∃ l' B', (Moved C m.l (m.box i) wc l' B' w' ∧ ∀ j, j ≠ i → own j (C.st l') = own j (C.st m.l)) ∧ R v l' B')
   (fun v w' τ d ⟨wc, h1, l', B', h2, h3⟩ => ⟨wc, h1, l', B', ⟨h2.1.re τ d, h2.2⟩, h3⟩) hE.rows ?_ (Post := fun _ e w' => ∃ v l' B', e = .returned v ∧ R v l' B' ∧ TurnAt P C own ro pr fStep sx cr rest NE EN i s (m.put i l' B') w' r) ?_ cl cs ?_ ?_
  · intro wc hc
    refine Calls.mono (hw wc (h.cut hc) (by obtain ⟨τ, d, hc⟩ := hc; exact hc.size)) ?_
    intro e w' q
    cases e with
    | returned v => exact ⟨wc, hc, q⟩
    | _ => exact q
  · rintro v wc' w' ⟨wc, hc, l', B', k1, k2⟩ hc' _
    exact ⟨v, l', B', rfl, k2, h.done (h.moved hc k1.1 hc') k1.2⟩
  · rintro _ v w' hp
    exact h1 s v w' ⟨rfl, hp⟩
  · rintro _ ch w' ⟨v, l', B', k1, _⟩
    cases k1
abbrev thrSys (hP : Plain P A) (hRS : RowsS P A) (C : Core Ml S) (own : Nat → S → O) (ro : Nat → Option Obj) (pr : Nat → Proc S Unit) (fStep : FuncId) (sx : Value) (cr : Frame) (rest : List Frame) (NE EN : List PanicEntry → Prop) (i : Nat) (o : O) : YSys P A C ro i Unit := (thrAlone hP hRS C own ro pr fStep sx cr rest NE EN i).sys (fun s => own i s = o)
theorem thr_step (hP : Plain P A) (hRS : RowsS P A) (o : O) : StepY (thrSys hP hRS C own ro pr fStep sx cr rest NE EN i o) fStep #[sx] := by
 rintro K s m w ⟨h, hI⟩ cl cs h1 h2
 have hE := h.env.grow h.grow
 let m' : TM Ml S := ⟨m, fun j => if j = i then (Proc.tick.bind K (C.st m.l)).2 else s.m₀.at' j, s.room⟩
 have hm' : m'.at' i = (Proc.tick.bind K (C.st m.l)).2 := by simp [m']
 have hmo : ∀ j, j ≠ i → m'.at' j = s.m₀.at' j := fun j hj => by simp [m', hj]
 refine h.conts.yield m' cl cs w (h.come _ ⟨rfl, hm', fun j hj => ⟨hmo j hj, h.others j hj⟩, rfl, fun j hj => h.oth j hj, rfl⟩) ⟨h.grow.size, h.grow.old, h.grow.grow⟩ ⟨h.rep, fun j => ?_⟩ (Nat.le_refl _) ?_
 · show (m'.at' j).Deep (s.room + 1)
   by_cases hj : j = i
   · subst hj; rw [hm']; exact h.deepr
   · rw [hmo j hj]; exact h.deep j
 · cases hk : s.k with
   | zero => trivial
   | succ k =>
    intro Kc' X' J' m1 w1 hE1 hSame hRep hleft
    obtain ⟨hsa, hsb, hsr, hso⟩ := hSame
    have hleft' : 0 < m1.room := hleft
    have hat : m1.at' i = (Proc.tick.bind K (C.st m.l)).2 := hsa.trans hm'
    let s' : Turn P Ml S := ⟨Kc', X', J', hE1.js, m1, w1, (thrOf C own ro pr).Go i, m1.room - 1, k⟩
    constructor
    · intro hC
      refine h1 s' (.tuple #[]) w1 ⟨(), m1.bm, rfl, hsb, ?_, hso.trans hI⟩
      have hd := hRep.2 i
      rw [hat] at hd
      refine ⟨hE1, hC, ⟨Nat.le_refl _, fun _ _ _ => rfl, fun _ h => .inl h⟩, hRep.1, fun j => ?_, ?_, fun _ _ => rfl, fun _ _ => rfl, fun o ho => ?_⟩
      · exact Tree.Deep.less (by show m1.room - 1 + 1 ≤ m1.room + 1; omega) (hRep.2 j)
      · have := hd (C.st m1.bm.l)
        exact Tree.Deep.less (by show m1.room - 1 + 1 ≤ m1.room; omega) this
      · exact ⟨_, _, hat, ho⟩
    · intro ch hch hmain
      refine h2 s' ch w1 ?_
      refine hmain ⟨m1.bm, m1.at', m1.room - 1⟩ ch w1 hch ⟨rfl, rfl, rfl, rfl⟩ ⟨Nat.le_refl _, fun _ _ _ => rfl, fun _ h => .inl h⟩ ⟨hRep.1, fun j => ?_⟩ (Nat.le_refl _)
      exact Tree.Deep.less (by show m1.room - 1 + 1 ≤ m1.room + 1; omega) (hRep.2 j)
theorem thr_runs (hP : Plain P A) (hRS : RowsS P A) {ti : TypeId} {m₀ : TM Ml S} {f : FuncId} {first caps : Array Value} {fn : Func} {c : Code} (hf : P.funcs[f]? = some fn) (hb : fn.body = some c) (hn : (fn.name == "runtime.NumGoroutine") = false) (hpd : ∀ n, (pr i).Deep n)
 (hspec : ∀ (st : Nat) (cr : Frame) (rest : List Frame) (EN : List PanicEntry → Prop) (s : Turn P Ml S) (m : BM Ml) (w : World), TurnAt P C own ro pr fStep (.pointer (some ⟨st, 0, none⟩)) cr rest NE EN i s m w ((pr i).bind Proc.ret (C.st m.l)) → own i (C.st m.l) = own i (C.st m₀.bm.l) →
  CallsJ P (fun (s : Turn P Ml S) => s.J) f (first ++ #[.iface ti (.pointer (some ⟨st, 0, none⟩))] ++ caps) (fun s e w => match e with
   | .returned _ => ∃ m', TurnAt P C own ro pr fStep (.pointer (some ⟨st, 0, none⟩)) cr rest NE EN i s m' w (C.st m'.l, .ret ())
   | .panicked ch => s.J (G (cr.raise ch) rest) w
   | .outgrown => False) s w) :
 Runs P (thrOf C own ro pr) fStep ti NE m₀ i (.func (.func f) first caps) := by
 refine .inr ⟨f, first, caps, fn, c, rfl, hf, hb, hn, ?_⟩
 intro cr rest st EN k Kc X J m w hE hRep hSame hC
 let s : Turn P Ml S := ⟨Kc, X, J, hE.js, m, w, (thrOf C own ro pr).Start i, m.room, k⟩
 have hAt : TurnAt P C own ro pr fStep (.pointer (some ⟨st, 0, none⟩)) cr rest NE EN i s m.bm w ((pr i).bind Proc.ret (C.st m.bm.l)) := by
  rw [Proc.bind_pure]
  exact ⟨hE, hC, ⟨Nat.le_refl _, fun _ _ _ => rfl, fun _ h => .inl h⟩, hRep.1, hRep.2, hpd _ _, fun _ _ => rfl, fun _ _ => rfl, fun o ho => ho⟩
 refine hspec st cr rest EN s m.bm w hAt hSame.2.2.2 cr rest ?_ ?_
 · rintro s' v w' ⟨m', hA'⟩
   let m'' : TM Ml S := ⟨m', fun j => if j = i then .ret () else s'.m₀.at' j, s'.room⟩
   have hm' : m''.at' i = .ret () := by simp [m'']
   have hmo : ∀ j, j ≠ i → m''.at' j = s'.m₀.at' j := fun j hj => by simp [m'', hj]
   refine hA'.conts.done m'' _ w' (hA'.come _ ⟨rfl, hm', fun j hj => ⟨hmo j hj, hA'.others j hj⟩, rfl, fun j hj => hA'.oth j hj, rfl⟩) ⟨hA'.grow.size, hA'.grow.old, hA'.grow.grow⟩ ⟨hA'.rep, fun j => ?_⟩ (Nat.le_refl _)
   show (m''.at' j).Deep (s'.room + 1)
   by_cases hj : j = i
   · subst hj; rw [hm']; trivial
   · rw [hmo j hj]; exact hA'.deep j
 · intro s' ch w' hD
   exact hD
end
end
end Go.Car
set_option maxHeartbeats 4000000
set_option maxRecDepth 100000
namespace Go.Proofs
open Go Go.Conc Go.RowKit Go.Car
@[go_sem] theorem neq_do (f : Fn) (a b : Array Value) (w : World) : (binOp .neq 73 (.func f a b) .nilFunc).run Try.prog w = .ok (.bool true) w := by rfl
def tT : AnsT := ⟨43, 41, 2⟩
def ownA {S1 : Type} (i : Nat) (s : S1 × (Nat → List Ans)) : List Ans := s.2 i
structure DoRo (ro : Nat → Option Obj) (i N ab ob db ib hb : Nat) (sp : Option Addr) (L Cp : Nat) (ops : List OpX) (f : FuncId) (first caps : Array Value) : Prop where
 ob : ro ob = some (.cells #[.slice sp L Cp] 34)
 db : ro db = some (.cells #[.func (.func f) first caps] 73)
 ib : ro ib = some (.cells #[.int .i64 i] 3)
 hb : ro hb = some (.cells #[.slice (some ⟨ab, 0, none⟩) N N] 29)
 len : ops.length = L
 le : L ≤ 65536
 lt : i < N
 leN : N ≤ 64
 ops : ∀ (k : Nat) (op : OpX), ops[k]? = some op → ∃ g cur e fr, sp = some ⟨g, 0, none⟩ ∧ ro g = some (.cells cur e fr) ∧ ∀ j, j < 4 → cur[k * 4 + j]? = op.cells[j]?
section
variable {M1 S1 : Type} {C : Core M1 S1} {ro : Nat → Option Obj} {i N ab ob db ib hb : Nat} {sp : Option Addr} {L Cp : Nat} {ops : List OpX} {f : FuncId} {first caps : Array Value} {A : FuncId → Bool} {pr : Nat → Proc (S1 × (Nat → List Ans)) Unit} {fStep : FuncId} {sv sx : Value} {cr : Frame} {rest : List Frame} {NE EN : List PanicEntry → Prop} {dop : OpX → Proc (S1 × (Nat → List Ans)) Ans}
theorem doing_calls (hP : Plain Try.prog A) (hRS : RowsS Try.prog A) {fn : Func} {c : Code} (hf : Try.prog.funcs[f]? = some fn) (hb' : fn.body = some c) (hnm : (fn.name == "runtime.NumGoroutine") = false) (hR : DoRo ro i N ab ob db ib hb sp L Cp ops f first caps)
 (hdo : ∀ (o : List Ans) (op : OpX), SpecR (thrSys hP hRS (prodCore C (ansCore tT ab N)) ownA ro pr fStep sx cr rest NE EN i o) f (first ++ #[sv, .int .i64 i, op.val] ++ caps) (dop op) (AnsV 2))
 (s : Turn Try.prog (M1 × AnsM) (S1 × (Nat → List Ans))) (m : BM (M1 × AnsM)) (w : World) (hA : TurnAt Try.prog (prodCore C (ansCore tT ab N)) ownA ro pr fStep sx cr rest NE EN i s m w ((opsP i dop ops).bind Proc.ret ((prodCore C (ansCore tT ab N)).st m.l))) (ho : ownA i ((prodCore C (ansCore tT ab N)).st m.l) = []) :
 CallsJ Try.prog (fun (s : Turn Try.prog (M1 × AnsM) (S1 × (Nat → List Ans))) => s.J) 47 #[sv, .pointer (some ⟨ob, 0, none⟩), .pointer (some ⟨db, 0, none⟩), .pointer (some ⟨ib, 0, none⟩), .pointer (some ⟨hb, 0, none⟩)] (fun s e w => match e with
  | .returned _ => ∃ m', TurnAt Try.prog (prodCore C (ansCore tT ab N)) ownA ro pr fStep sx cr rest NE EN i s m' w ((prodCore C (ansCore tT ab N)).st m'.l, .ret ())
  | .panicked ch => s.J (G (cr.raise ch) rest) w
  | .outgrown => False) s w := by
 have hJC : JC Try.prog false (fun (s : Turn Try.prog (M1 × AnsM) (S1 × (Nat → List Ans))) => s.J) := ((thrAlone hP hRS (prodCore C (ansCore tT ab N)) ownA ro pr fStep sx cr rest NE EN i).sys (fun _ => True)).jc
 refine callsC_of_wp (Bd := fun s a w => a.defers = [] ∧ ∃ m', TurnAt Try.prog (prodCore C (ansCore tT ab N)) ownA ro pr fStep sx cr rest NE EN i s m' w ((prodCore C (ansCore tT ab N)).st m'.l, .ret ())) hJC Try.func47 rfl ?_ ?_
 · rintro s a w b cl cs todo ⟨hd, m', h⟩ hbf hbk hp
   exact hJC.ctl (fun w => stepG_leave hbk hd (by rw [hbf]; exact Try.func47) (resultsC_none rfl _ w).1 (resultsC_none rfl _ w).2) (hp _ _ _ ⟨m', h⟩)
 simp only [enterAct, Try.ntmps47, List.size_toArray, List.length_cons, List.length_nil, Nat.reduceAdd, Nat.reduceSub, Array.replicate_succ, Array.replicate_zero, List.push_toArray, List.append_toArray, List.nil_append, List.cons_append]
 have HR := Lib.hid hR
 have HDO := Lib.hid hdo
 have HFN := Lib.hid (And.intro hf (And.intro hb' hnm))
 have hA : (thrAlone hP hRS (prodCore C (ansCore tT ab N)) ownA ro pr fStep sx cr rest NE EN i).sys (fun s => ownA i s = []) |>.AtB (m.box i) s w ((opsP i dop ops).bind Proc.ret) := ⟨m, rfl, hA, ho⟩
 clear hR hdo hf hb' hnm ho
 apply YSys.seq0 hA (by kernel_rfl)
 · intro wc hB
   have c1 : wc.cell? ⟨ob, 0, none⟩ = some (.slice sp L Cp) := (zq1 (hB.own.rod ob _ HR.out.ob)).trans rfl
   go_wp2
   exact ⟨rfl, Ext1.refl _, rfl⟩
 intro w hA
 refine wpY_block hJC (wpY_loop hJC (fun s a w n => ∃ (k : Nat) (o : List Ans) (B : Nat → Option Obj) (x5 x6 x7 x8 x12 x13 x14 x15 x16 x17 x18 x19 x20 x21 x22 x23 x24 x25 x26 x27 x28 x29 x30 x31 x32 : Value), k + n = L ∧ o.length = k ∧ a = ⟨#[sv, .pointer (some ⟨ob, 0, none⟩), .pointer (some ⟨db, 0, none⟩), .pointer (some ⟨ib, 0, none⟩), .pointer (some ⟨hb, 0, none⟩), x5, x6, x7, x8, .slice sp L Cp, .int .i64 L, .int .i64 k, x12, x13, x14, x15, x16, x17, x18, x19, x20, x21, x22, x23, x24, x25, x26, x27, x28, x29, x30, x31, x32], []⟩ ∧ (thrSys hP hRS (prodCore C (ansCore tT ab N)) ownA ro pr fStep sx cr rest NE EN i o).AtB B s w ((opsP i dop (ops.drop k)).bind Proc.ret)) L ?_ ?_)
 · exact ⟨0, [], _, _, _, _, _, _, _, _, _, _, _, _, _, _, _, _, _, _, _, _, _, _, _, _, _, _, by omega, rfl, rfl, hA⟩
 clear hA
 rintro s a w n ⟨k, o, B, x5, x6, x7, x8, x12, x13, x14, x15, x16, x17, x18, x19, x20, x21, x22, x23, x24, x25, x26, x27, x28, x29, x30, x31, x32, hkn, hok, rfl, hA⟩
 have HK := Lib.hid hkn
 have HO := Lib.hid hok
 clear hkn hok
 cases n with
 | zero =>
  apply YSys.seq0 hA (by kernel_rfl)
  · intro wc hB
    go_wp2
    exact ⟨rfl, Ext1.refl _, rfl⟩
  intro w hA
  refine wpY_seq hJC (wpY_cond hJC rfl ?_)
  rw [if_neg (by have := HK.out; simp only [decide_eq_true_eq]; omega)]
  refine wpY_exit hJC ?_
  obtain ⟨m', _, hA', _⟩ := hA
  have e : ops.drop k = [] := List.drop_eq_nil_of_le (by have := HR.out.len; have := HK.out; omega)
  rw [e] at hA'
  exact ⟨rfl, m', hA'⟩
 | succ n =>
  have hk : (k : Int) < (L : Int) := by have := HK.out; omega
  have hk0 : (0 : Int) ≤ (k : Int) := by omega
  have e1 : IntKind.i64.wrap ((k : Int) + 1) = ((k + 1 : Nat) : Int) := by have := HR.out.le; rw [IntWalk.i64_in _ (by omega)]; omega
  have hkl : k < ops.length := by have := HR.out.len; have := HK.out; omega
  obtain ⟨op, hop⟩ : ∃ op, ops[k]? = some op := ⟨_, List.getElem?_eq_getElem hkl⟩
  obtain ⟨g, cur, e, fr, hsp, hg, hcur⟩ := HR.out.ops k op hop
  have hdrop : ops.drop k = op :: ops.drop (k + 1) := by rw [List.drop_eq_getElem_cons hkl, (List.getElem?_eq_some_iff.1 hop).2]
  rw [hdrop, opsP] at hA
  rw [Proc.bind_bind] at hA
  have HG := Lib.hid (And.intro hsp (And.intro hg hcur))
  clear hsp hg hcur hop hkl hdrop
  apply YSys.seq0 hA (by kernel_rfl)
  · intro wc hB
    go_wp2
    exact ⟨rfl, Ext1.refl _, rfl⟩
  intro w hA
  refine wpY_seq hJC (wpY_cond hJC rfl (wpY_skip hJC ?_))
  show wpJ (fun (s : Turn Try.prog (M1 × AnsM) (S1 × (Nat → List Ans))) => s.J) _ _ _ _ _
  refine wpY_seq hJC (wpY_block hJC ?_)
  refine YSys.seqX (fun t B' => ∃ (b7 : Nat) (y5 y6 y8 y12 y13 y14 y15 y16 y17 y18 y19 y20 y21 y22 y23 y24 y25 y26 y27 y28 y29 y30 y31 y32 : Value), t = #[sv, .pointer (some ⟨ob, 0, none⟩), .pointer (some ⟨db, 0, none⟩), .pointer (some ⟨ib, 0, none⟩), .pointer (some ⟨hb, 0, none⟩), y5, y6, .pointer (some ⟨b7, 0, none⟩), y8, .slice sp L Cp, .int .i64 L, .int .i64 k, y12, y13, y14, y15, y16, y17, y18, y19, y20, y21, y22, y23, y24, y25, y26, y27, y28, y29, y30, y31, y32] ∧ B b7 = none ∧ B' = upB B b7 (.cells op.cells.toArray 46)) hA (by kernel_rfl) ?_ ?_
  · intro wc hB X0 hX0
    have HX0 := Lib.hid hX0
    clear hX0
    have hm := OMoved.push (o := .cells op.cells.toArray 46) hB.own (Ext1.alloc wc (.cells op.cells.toArray 46)) (Nat.le_refl _) (by rw [zq9]; simp)
    have hf := hB.own.fresh (Nat.le_refl _)
    have HM := Lib.hid (And.intro hm hf)
    clear hm hf
    have hgw := hB.own.rod g _ HG.out.2.1
    have hc0 : wc.cell? ⟨g, k * 4, none⟩ = some (.int .i64 op.k) := (zq1 hgw).trans (HG.out.2.2 0 (by decide))
    have hc1 : wc.cell? ⟨g, k * 4 + 1, none⟩ = some (.int .i64 op.a) := (zq1 hgw).trans (HG.out.2.2 1 (by decide))
    have hc2 : wc.cell? ⟨g, k * 4 + 2, none⟩ = some (.int .i64 op.b) := (zq1 hgw).trans (HG.out.2.2 2 (by decide))
    have hc3 : wc.cell? ⟨g, k * 4 + 3, none⟩ = some (.int .i64 op.c) := (zq1 hgw).trans (HG.out.2.2 3 (by decide))
    clear hgw
    rw [HG.out.1]
    go_wp2
    rw [← HG.out.1]
    exact ⟨rfl, HX0.out _ _ _ HM.out.1 ⟨_, _, _, _, _, _, _, _, _, _, _, _, _, _, _, _, _, _, _, _, _, _, _, _, _, rfl, HM.out.2, rfl⟩⟩
  clear hA
  rintro _ _ w ⟨b7, y5, y6, y8, y12, y13, y14, y15, y16, y17, y18, y19, y20, y21, y22, y23, y24, y25, y26, y27, y28, y29, y30, y31, y32, rfl, hb7, rfl⟩ hA
  refine YSys.seqX (fun t B' => ∃ (b8 : Nat) (z5 z6 z12 z13 z14 z15 z16 z17 z18 z19 z20 z21 z22 z23 z24 z25 z26 z27 z28 z29 z30 z31 z32 : Value), t = #[sv, .pointer (some ⟨ob, 0, none⟩), .pointer (some ⟨db, 0, none⟩), .pointer (some ⟨ib, 0, none⟩), .pointer (some ⟨hb, 0, none⟩), z5, z6, .pointer (some ⟨b7, 0, none⟩), .pointer (some ⟨b8, 0, none⟩), .slice sp L Cp, .int .i64 L, .int .i64 k, z12, z13, z14, z15, z16, z17, z18, z19, z20, z21, z22, z23, z24, z25, z26, z27, z28, z29, z30, z31, z32] ∧ upB B b7 (.cells op.cells.toArray 46) b8 = none ∧ B' = upB (upB B b7 (.cells op.cells.toArray 46)) b8 (.cells #[.bool false, .int .i64 0, .slice none 0 0] 43)) hA (by kernel_rfl) ?_ ?_
  · intro wc hB X0 hX0
    have HX0 := Lib.hid hX0
    clear hX0
    have hm := OMoved.push (o := .cells #[.bool false, .int .i64 0, .slice none 0 0] 43) hB.own (Ext1.alloc wc (.cells #[.bool false, .int .i64 0, .slice none 0 0] 43)) (Nat.le_refl _) (by rw [zq9]; simp)
    have hf := hB.own.fresh (Nat.le_refl _)
    have HM := Lib.hid (And.intro hm hf)
    clear hm hf
    go_wp2
    exact ⟨rfl, HX0.out _ _ _ HM.out.1 ⟨_, _, _, _, _, _, _, _, _, _, _, _, _, _, _, _, _, _, _, _, _, _, _, _, rfl, HM.out.2, rfl⟩⟩
  clear hA
  rintro _ _ w ⟨b8, z5, z6, z12, z13, z14, z15, z16, z17, z18, z19, z20, z21, z22, z23, z24, z25, z26, z27, z28, z29, z30, z31, z32, rfl, hb8, rfl⟩ hA
  have h7 : upB (upB B b7 (.cells op.cells.toArray 46)) b8 (.cells #[.bool false, .int .i64 0, .slice none 0 0] 43) b7 = some (.cells op.cells.toArray 46) := upB_of (upB_same _ _ _) (none_ne (upB_same _ _ _) hb8)
  have h8 : upB (upB B b7 (.cells op.cells.toArray 46)) b8 (.cells #[.bool false, .int .i64 0, .slice none 0 0] 43) b8 = some (.cells #[.bool false, .int .i64 0, .slice none 0 0] 43) := upB_same _ _ _
  have hB8 : B b8 = none := Classical.byContradiction fun h => by
   cases ho : B b8 with
   | none => exact h ho
   | some o => rw [upB_le (o := .cells op.cells.toArray 46) hb7 b8 o ho] at hb8; cases hb8
  have hle : ∀ x y, B x = some y → upB (upB B b7 (.cells op.cells.toArray 46)) b8 (.cells #[.bool false, .int .i64 0, .slice none 0 0] 43) x = some y := upB_keep (upB_le (o := .cells op.cells.toArray 46) hb7) hB8
  obtain ⟨B1, hB1⟩ : ∃ X, upB (upB B b7 (.cells op.cells.toArray 46)) b8 (.cells #[.bool false, .int .i64 0, .slice none 0 0] 43) = X := ⟨_, rfl⟩
  rw [hB1] at h7 h8 hle hA
  have H7 := Lib.hid h7
  have H8 := Lib.hid h8
  have HLE := Lib.hid hle
  have HN := Lib.hid hB8
  clear h7 h8 hle hB1 hb7 hb8 hB8
  refine wpY_seq hJC ?_
  apply YSys.seq0 hA (by kernel_rfl)
  · intro wc hB
    have c2 : wc.cell? ⟨db, 0, none⟩ = some (.func (.func f) first caps) := (zq1 (hB.own.rod db _ HR.out.db)).trans rfl
    go_wp2
    exact ⟨rfl, Ext1.refl _, rfl⟩
  intro w hA
  refine wpY_cond hJC rfl ?_
  rw [if_pos rfl]
  refine wpY_region hJC ?_
  apply YSys.pre0 0 4 2 hA rfl rfl rfl rfl
  · intro wc hB X hX
    have HX := Lib.hid hX
    clear hX
    have c2 : wc.cell? ⟨db, 0, none⟩ = some (.func (.func f) first caps) := (zq1 (hB.own.rod db _ HR.out.db)).trans rfl
    have c3 : wc.cell? ⟨ib, 0, none⟩ = some (.int .i64 i) := (zq1 (hB.own.rod ib _ HR.out.ib)).trans rfl
    have k7 := hB.own.box b7 _ H7.out
    have c70 : wc.cell? ⟨b7, 0, none⟩ = some (.int .i64 op.k) := (zq1 k7).trans rfl
    have c71 : wc.cell? ⟨b7, 1, none⟩ = some (.int .i64 op.a) := (zq1 k7).trans rfl
    have c72 : wc.cell? ⟨b7, 2, none⟩ = some (.int .i64 op.b) := (zq1 k7).trans rfl
    have c73 : wc.cell? ⟨b7, 3, none⟩ = some (.int .i64 op.c) := (zq1 k7).trans rfl
    clear k7
    go_wp2
    exact HX.out _ (Ext1.refl _)
  intro w hA
  have hnm' : ¬ fn.name = "runtime.NumGoroutine" := by simpa using HFN.out.2.2
  have hf := HFN.out.1
  have hb' := HFN.out.2.1
  refine YSys.callO (HDO.out o op _ s B1 w (fun _ => trivial) hA) rfl rfl rfl ?_ ?_ ?_
  · intro w
    simp [go_sem, execOp, Act.eval, resolve, Deferred.ofValue, invoke, callFunc, hf, hb', hnm', OpX.val]
  · intro w
    simp [go_sem, execOp, Act.eval, resolve, Deferred.ofValue, invoke, callFunc, hf, hb', hnm', OpX.val]
  clear hnm' hf hb' hA
  intro s e' w hp
  cases e' with
  | outgrown => exact hp
  | panicked ch => exact ⟨rfl, hp⟩
  | returned v =>
  obtain ⟨a, X, ⟨sl, rfl, hsl⟩, hXB, hA⟩ := hp
  have hX8 : X b8 = none := Classical.byContradiction fun h => by
   have := hXB b8 h
   rw [H8.out] at this
   cases this
  have h8' : orB X B1 b8 = some (.cells #[.bool false, .int .i64 0, .slice none 0 0] 43) := by simp [orB, hX8, H8.out]
  have H8' := Lib.hid h8'
  clear h8'
  refine YSys.opsX 5 1 (fun t B' => ∃ (u5 u6 u12 u13 u14 u15 u16 u17 u18 u19 u20 u21 u22 u23 u24 u25 u26 u27 u28 u29 u30 u31 u32 : Value), t = #[sv, .pointer (some ⟨ob, 0, none⟩), .pointer (some ⟨db, 0, none⟩), .pointer (some ⟨ib, 0, none⟩), .pointer (some ⟨hb, 0, none⟩), u5, u6, .pointer (some ⟨b7, 0, none⟩), .pointer (some ⟨b8, 0, none⟩), .slice sp L Cp, .int .i64 L, .int .i64 k, u12, u13, u14, u15, u16, u17, u18, u19, u20, u21, u22, u23, u24, u25, u26, u27, u28, u29, u30, u31, u32] ∧ B' = upB (orB X B1) b8 (.cells #[.bool a.ok, .int .i64 a.n, sl] 43)) hA rfl rfl (by kernel_rfl) ?_ ?_
  · intro wc hB X0 hX0
    have HX0 := Lib.hid hX0
    clear hX0
    have hm := OMoved.set3 (o1 := 0) (o2 := 1) (o3 := 2) hB.own H8'.out (.bool a.ok) (.int .i64 a.n) sl
    have HM := Lib.hid hm
    have k8 := hB.own.box b8 _ H8'.out
    have c80 : wc.cell? ⟨b8, 0, none⟩ = some (.bool false) := (zq1 k8).trans rfl
    have c81 : wc.cell? ⟨b8, 1, none⟩ = some (.int .i64 0) := (zq1 k8).trans rfl
    have c82 : wc.cell? ⟨b8, 2, none⟩ = some (.slice none 0 0) := (zq1 k8).trans rfl
    have f80 : wc.frozen? ⟨b8, 0, none⟩ = false := zqb k8
    have f81 : wc.frozen? ⟨b8, 1, none⟩ = false := zqb k8
    have f82 : wc.frozen? ⟨b8, 2, none⟩ = false := zqb k8
    obtain ⟨sa, sn, sc, hsl'⟩ : ∃ sa sn sc, sl = .slice sa sn sc := by rcases hsl.2 with ⟨h, _⟩ | ⟨_, _, _, h, _⟩ <;> exact ⟨_, _, _, h⟩
    clear hm k8 hX8 hA hXB hsl
    subst hsl'
    go_wp2
    exact ⟨rfl, HX0.out _ _ _ HM.out ⟨_, _, _, _, _, _, _, _, _, _, _, _, _, _, _, _, _, _, _, _, _, _, _, rfl, rfl⟩⟩
  clear hA
  rintro _ _ w ⟨u5, u6, u12, u13, u14, u15, u16, u17, u18, u19, u20, u21, u22, u23, u24, u25, u26, u27, u28, u29, u30, u31, u32, rfl, rfl⟩ hA
  show wpJ (fun (s : Turn Try.prog (M1 × AnsM) (S1 × (Nat → List Ans))) => s.J) _ _ _ _ _
  replace hA : (thrSys hP hRS (prodCore C (ansCore tT ab N)) ownA ro pr fStep sx cr rest NE EN i o).AtB _ s w (((pushP i a).bind fun _ => opsP i dop (ops.drop (k + 1))).bind Proc.ret) := hA
  rw [Proc.bind_bind] at hA
  obtain ⟨m, hmB, hA⟩ := hA
  refine Alone.actS (thrAlone hP hRS (prodCore C (ansCore tT ab N)) ownA ro pr fStep sx cr rest NE EN i) (I := fun s => ownA i s = o) (I' := fun s => ownA i s = o ++ [a]) (g := fun s => ((s.1, upd' s.2 i (s.2 i ++ [a])), ())) (K := fun _ => (opsP i dop (ops.drop (k + 1))).bind Proc.ret) (fun t B' => (∃ (v5 v6 v7 v8 v12 v13 v14 v15 v16 v17 v18 v19 v20 v21 v22 v23 v24 v25 v26 v27 v28 v29 v30 v31 v32 : Value), t = #[sv, .pointer (some ⟨ob, 0, none⟩), .pointer (some ⟨db, 0, none⟩), .pointer (some ⟨ib, 0, none⟩), .pointer (some ⟨hb, 0, none⟩), v5, v6, v7, v8, .slice sp L Cp, .int .i64 L, .int .i64 k, v12, v13, v14, v15, v16, v17, v18, v19, v20, v21, v22, v23, v24, v25, v26, v27, v28, v29, v30, v31, v32]) ∧ B' = B) hA (by kernel_rfl) (fun s h => by show upd' s.2 i _ i = _; rw [upd'_same, show s.2 i = o from h]) (fun s j hj => upd'_ne _ _ hj) ?_ ?_
  · intro wc hBR hown X0 hX0
    have HX0 := Lib.hid hX0
    clear hX0
    have hst : m.l.2.st i = o := hown
    have hYB : ∀ b y, X b = some y → m.box i b = some y := fun b y hb => by
     rw [hmB]
     exact upB_of (by simp [orB, hb]) (fun e => by subst e; rw [hX8] at hb; cases hb)
    have hBB : ∀ b y, B b = some y → m.box i b = some y := fun b y hb => by
     have h1 := HLE.out b y hb
     have h2 : X b = none := Classical.byContradiction fun h => by rw [hXB b h] at h1; cases h1
     rw [hmB]
     exact upB_of (by simp [orB, h2, h1]) (fun e => by subst e; rw [HN.out] at hb; cases hb)
    have hYn : ∀ b, X b ≠ none → B b = none := fun b hb => Classical.byContradiction fun h => by
     cases ho : B b with
     | none => exact h ho
     | some y => have := HLE.out b y ho; rw [hXB b hb] at this; cases this
    have hor : ∀ b, (orB X B1 b ≠ none → m.box i b ≠ none) := fun b hb => by
     rw [hmB]
     by_cases e : b = b8
     · subst e; simp
     · rw [upB_ne _ _ e]; exact hb
    obtain ⟨ti, hti, hz0, hz1, hz2⟩ : ∃ ti, Try.prog.info? 43 = some ti ∧ ti.zero = some (.agg #[.bool false, .int .i64 0, .slice none 0 0]) ∧ ti.size = 3 ∧ ti.bytes = 40 := ⟨_, rfl, rfl, rfl, rfl⟩
    obtain ⟨g2, cap, w2, m', hrun, hold, hst', hmv⟩ := ans_push (P := Try.prog) hBR HR.out.lt 41 41 ti _ (by kernel_rfl) hti hz0 hz1 hz2 (by rfl) hsl hYB hBB hYn (by rw [hst]; have := HO.out; have := HK.out; have := HR.out.le; omega) wc.tape (wc.drawn + 1)
    rw [hst] at hrun hmv hst'
    have k8 : wc.heap[b8]? = some (.cells #[.bool a.ok, .int .i64 a.n, sl] 43) := hBR.box i b8 _ (by rw [hmB]; exact upB_same _ _ _)
    have hX8f : m.l.2.X i b8 = none := Classical.byContradiction fun h => hBR.apart i b8 (by rw [hmB, upB_same]; simp) (.inr (.inr ⟨i, HR.out.lt, h⟩))
    have hD := hBR.core.2.1
    have kab : wc.heap[ab]? = some (.cells ((List.range N).map m.l.2.hv).toArray 41) := hD.hd
    have hXab := hD.nab i HR.out.lt
    have khb := hBR.rod hb _ HR.out.hb
    have hXhb : m.l.2.X i hb = none := Classical.byContradiction fun h => hBR.rol hb (by rw [HR.out.hb]; simp) (.inr (.inr ⟨i, HR.out.lt, h⟩))
    have kib := hBR.rod ib _ HR.out.ib
    have hXib : m.l.2.X i ib = none := Classical.byContradiction fun h => hBR.rol ib (by rw [HR.out.ib]; simp) (.inr (.inr ⟨i, HR.out.lt, h⟩))
    obtain ⟨hv, hhv⟩ : ∃ hv, m.l.2.hv i = hv := ⟨_, rfl⟩
    have hvi : (((List.range N).map m.l.2.hv).toArray)[i]? = some hv := by simp [HR.out.lt, hhv]
    obtain ⟨sa, sn, sc, hsl'⟩ : ∃ sa sn sc, sl = .slice sa sn sc := by rcases hsl.2 with ⟨h, _⟩ | ⟨_, _, _, h, _⟩ <;> exact ⟨_, _, _, h⟩
    obtain ⟨va, vn, vc, hv'⟩ : ∃ va vn vc, hv = .slice va vn vc := by
     obtain ⟨_, _, _, hr, _⟩ := hD.row i HR.out.lt
     rw [hhv] at hr
     rcases hr.2 with ⟨h, _⟩ | ⟨_, _, _, h, _⟩ <;> exact ⟨_, _, _, h⟩
    rw [hhv] at hrun
    obtain ⟨W0, hW0⟩ : ∃ W0, Car.re wc wc.tape (wc.drawn + 1) = W0 := ⟨_, rfl⟩
    obtain ⟨H, hH⟩ : ∃ H, wc.heap.size = H := ⟨_, rfl⟩
    rw [hW0, hH] at hrun
    have hWs : ∀ W, W = W0 ∨ W = W0.alloc (.cells #[.bool a.ok, .int .i64 a.n, sl] 43) ∨ W = w2 → ∀ b, b < H → m.l.2.X i b = none → W.heap[b]? = wc.heap[b]? := by
     rintro W (rfl | rfl | rfl) b hb hx
     · rw [← hW0]; rfl
     · rw [zq9, if_neg (by rw [← hW0]; show b ≠ wc.heap.size; omega), ← hW0]; rfl
     · exact hold b (by omega) hx
    have hcell : ∀ W, W = W0 ∨ W = W0.alloc (.cells #[.bool a.ok, .int .i64 a.n, sl] 43) ∨ W = w2 → (W.cell? ⟨hb, 0, none⟩ = some (.slice (some ⟨ab, 0, none⟩) N N) ∧ W.cell? ⟨ib, 0, none⟩ = some (.int .i64 i) ∧ W.cell? ⟨ab, i, none⟩ = some hv ∧ W.cell? ⟨b8, 0, none⟩ = some (.bool a.ok) ∧ W.cell? ⟨b8, 1, none⟩ = some (.int .i64 a.n) ∧ W.cell? ⟨b8, 2, none⟩ = some sl) ∧ W.frozen? ⟨ab, i, none⟩ = false := by
     intro W hW
     have e1 := (hWs W hW hb (by rw [← hH]; exact heap_lt khb) hXhb).trans khb
     have e2 := (hWs W hW ib (by rw [← hH]; exact heap_lt kib) hXib).trans kib
     have e3 := (hWs W hW ab (by rw [← hH]; exact heap_lt kab) hXab).trans kab
     have e4 := (hWs W hW b8 (by rw [← hH]; exact heap_lt k8) hX8f).trans k8
     exact ⟨⟨(zq1 e1).trans rfl, (zq1 e2).trans rfl, (zq1 e3).trans hvi, (zq1 e4).trans rfl, (zq1 e4).trans rfl, (zq1 e4).trans rfl⟩, zqb e3⟩
    have HC := Lib.hid hcell
    have hi0 : (0 : Int) ≤ (i : Int) := by omega
    have hiN : (i : Int) < (N : Int) := by have := HR.out.lt; omega
    have HMV := Lib.hid (And.intro hmv hst')
    have HRUN := Lib.hid hrun
    have HST := Lib.hid hst
    have HWs := Lib.hid (And.intro hW0 hH)
    have hiN' : i < N := HR.out.lt
    have HIN := Lib.hid hiN'
    clear hcell hWs hvi kib khb kab k8 hX8f hXab hXhb hXib hD hold hst' hmv hti hz0 hz1 hz2 hor hYn hBB hYB hst hown hA hX8 hXB hsl hrun hW0 hH hiN'
    subst hsl' hv'
    refine wp_region_two (k := 10) (s := 7) (t := 8) (W0 := W0) (W1 := W0.alloc (.cells #[.bool a.ok, .int .i64 a.n, .slice sa sn sc] 43)) (W2 := w2) (by kernel_rfl) (by kernel_rfl) (by kernel_rfl) (by kernel_rfl) (by decide) (by decide) (by decide) (by kernel_rfl)
     [.slice (some ⟨ab, 0, none⟩) N N, .int .i64 i, .slice (some ⟨ab, 0, none⟩) N N, .int .i64 i, .pointer (some ⟨ab, i, none⟩), .slice va vn vc, .agg #[.bool a.ok, .int .i64 a.n, .slice sa sn sc], .slice (some ⟨H, 0, none⟩) 1 1, .slice (some ⟨g2, 0, none⟩) (o.length + 1) cap, .pointer (some ⟨ab, i, none⟩)] rfl HWs.out.1.symm ?_ ?_ ?_ ?_
    · intro j oo hj hj7 hj8 hoo W hWW
      obtain ⟨⟨d1, d2, d3, d4, d5, d6⟩, _⟩ := HC.out W hWW
      clear hWW
      simp only [putv, dstOf, al_gl, al_g0, al_g1, al_ob, al_g2, List.set_cons_succ, List.set_cons_zero]
      obtain rfl | rfl | rfl | rfl | rfl | rfl | rfl | rfl : j = 0 ∨ j = 1 ∨ j = 2 ∨ j = 3 ∨ j = 4 ∨ j = 5 ∨ j = 6 ∨ j = 9 := by omega
      all_goals (simp only [al_gl, al_g0, al_g1, al_oi] at hoo; subst hoo; refine .inl ?_)
      all_goals (simp only [execOp, Act.eval, al_gd, al_gl, al_g0, al_g1, al_od])
      all_goals (try go_simp)
    · intro oo hoo
      simp only [putv, dstOf, al_gl, al_g0, al_g1, al_ob, al_g2, List.set_cons_succ, List.set_cons_zero]
      simp only [al_gl, al_g0, al_g1, al_oi] at hoo
      subst hoo
      refine .inl ?_
      have hs0 : W0.heap.size = H := by rw [← HWs.out.1]; exact HWs.out.2
      simp only [execOp, Act.eval, al_gd, al_gl, al_g0, al_g1, al_od]
      go_simp
    · intro oo hoo
      have hrun : (Builtin.append_ #[41, 41] 41 #[.slice va vn vc, .slice (some ⟨H, 0, none⟩) 1 1]).run Try.prog (W0.alloc (.cells #[.bool a.ok, .int .i64 a.n, .slice sa sn sc] 43)) = .ok (.slice (some ⟨g2, 0, none⟩) (o.length + 1) cap) w2 := HRUN.out
      simp only [putv, dstOf, al_gl, al_g0, al_g1, al_ob, al_g2, List.set_cons_succ, List.set_cons_zero]
      simp only [al_gl, al_g0, al_g1, al_oi] at hoo
      subst hoo
      refine .inl ?_
      unfold execOp
      simp only [resolve, invoke, builtin, Sem.run_bind, Sem.run_pure, Result.andThen_ok, List.map_toArray, List.map_cons, List.map_nil, Act.eval, al_gd, al_gl, al_g0, al_g1, al_od, hrun]
      rfl
    simp only [putv, dstOf, al_gl, al_g0, al_g1, al_ob, al_g2, List.set_cons_succ, List.set_cons_zero]
    obtain ⟨⟨_, _, d3, _, _, _⟩, d7⟩ := HC.out w2 (.inr (.inr rfl))
    refine wpAny_one (i := 10) (by kernel_rfl) ?_
    simp only [wpOp, al_gl, al_g0, al_g1]
    rw [if_pos (by rfl)]
    refine .inl ?_
    go_simp
    refine wpAny_end (by kernel_rfl) ?_
    refine ⟨rfl, HX0.out _ _ _ _ (HMV.out.1 w2.tape w2.drawn) ?_ ⟨⟨_, _, _, _, _, _, _, _, _, _, _, _, _, _, _, _, _, _, _, _, _, _, _, _, _, rfl⟩, rfl⟩⟩
    show (C.st m.l.1, m'.st) = (C.st m.l.1, upd' m.l.2.st i (m.l.2.st i ++ [a]))
    rw [HMV.out.2, HST.out]
  rintro _ m' w ⟨⟨v5, v6, v7, v8, v12, v13, v14, v15, v16, v17, v18, v19, v20, v21, v22, v23, v24, v25, v26, v27, v28, v29, v30, v31, v32, rfl⟩, hB'⟩ hA
  replace hA : (thrSys hP hRS (prodCore C (ansCore tT ab N)) ownA ro pr fStep sx cr rest NE EN i (o ++ [a])).AtB B _ w ((opsP i dop (ops.drop (k + 1))).bind Proc.ret) := ⟨m', hB', hA⟩
  show wpJ (fun (s : Turn Try.prog (M1 × AnsM) (S1 × (Nat → List Ans))) => s.J) _ _ _ _ _
  apply YSys.code0 hA (by kernel_rfl)
  · intro wc hB
    go_wp2
    exact ⟨rfl, Ext1.refl _, rfl⟩
  intro w hA
  exact ⟨n, by omega, k + 1, o ++ [a], B, _, _, _, _, _, _, _, _, _, _, _, _, _, _, _, _, _, _, _, _, _, _, _, _, _, by have := HK.out; omega, by have := HO.out; simp; omega, rfl, hA⟩
end
end Go.Proofs
