/- YtnjpcibdaanpeaaSNone6: part 2 of the proof (the texts behind it, in order). -/
import Derived.Test.YtnjpcibdaanpeaaP01
set_option linter.unusedSimpArgs false
set_option linter.unusedVariables false
set_option linter.unusedSectionVars false
set_option linter.unnecessarySimpa false
set_option maxHeartbeats 1000000
namespace Go.Car
open Go Go.RowKit
abbrev Snap := Nat → Option (Array Value × TypeId)
structure Cut (X : Snap) (w wc : World) : Prop where
 is : ∀ b c e, X b = some (c, e) → w.heap[b]? = some (.cells c e) ∧ wc.heap[b]? = some (.cells #[] e)
 no : ∀ b, X b = none → wc.heap[b]? = w.heap[b]?
 size : wc.heap.size = w.heap.size
 tape : wc.tape = w.tape
 drawn : wc.drawn = w.drawn
 os : wc.os = w.os
 output : wc.output = w.output
theorem Cut.re {X : Snap} {w wc : World} (h : Cut X w wc) (τ : Nat → Question → Nat) (d : Nat) : Cut X (re w τ d) (re wc τ d) := ⟨h.is, h.no, h.size, rfl, rfl, h.os, h.output⟩
def apart (X : Snap) (e : Event) : Prop := ∀ a, e.loc = .cell a → X a.block = none
def fit {α : Type} : Result α → Prop
 | .ok _ _ => True
 | .halt (.panic _) _ => True
 | .halt _ _ => False
def setW {α : Type} : Result α → World → Result α
 | .ok a _, w => .ok a w
 | .halt h _, w => .halt h w
def zq2 {α : Type} (P : Program) (s : Sem α) : Prop := ∀ (X : Snap) (w wc : World) (es : Array Event), Cut X w wc → fit (s.runT P wc es).1 →
 ∃ w', Cut X w' (resW (s.runT P wc es).1) ∧ s.runT P w es = (setW (s.runT P wc es).1 w', (s.runT P wc es).2) ∧ ∀ e ∈ (s.runT P wc es).2, e ∈ es ∨ apart X e
class Stdy {α : Type} (P : Program) (s : Sem α) : Prop where
 out : zq2 P s
section
variable {α β : Type} {P : Program}
theorem steady_pure (a : α) : zq2 P (Pure.pure a : Sem α) := fun X w wc es h _ => ⟨w, h, rfl, fun e he => .inl he⟩
theorem steady_halt (x : Halt) : zq2 P (Sem.halt x : Sem α) := fun X w wc es h _ => ⟨w, h, rfl, fun e he => .inl he⟩
theorem runT_bind {s : Sem α} {f : α → Sem β} (w : World) (es : Array Event) : (s >>= f).runT P w es = match s.runT P w es with
 | (.ok a w', es') => (f a).runT P w' es'
 | (.halt x w', es') => (.halt x w', es') := by
 have := runT_bind_ok (P := P) s f w es
 refine Eq.trans this ?_
 split <;> simp_all
theorem zq3 {s : Sem α} {f : α → Sem β} (hs : zq2 P s) (hf : ∀ a, zq2 P (f a)) : zq2 P (s >>= f) := by
 intro X w wc es h hfit
 have h1 := hs X w wc es h
 rw [runT_bind] at hfit ⊢
 rw [runT_bind w]
 generalize s.runT P wc es = r at h1 hfit
 obtain ⟨r, es'⟩ := r
 cases r with
 | ok a wc' =>
  obtain ⟨w', c1, e1, v1⟩ := h1 trivial
  rw [e1]
  simp only [resW, setW] at c1 hfit ⊢
  obtain ⟨w'', c2, e2, v2⟩ := hf a X w' wc' es' c1 hfit
  exact ⟨w'', c2, e2, fun e he => (v2 e he).elim (v1 e) .inr⟩
 | halt x wc' =>
  have hx : fit (Result.halt x wc' : Result α) := by cases x <;> first | trivial | exact hfit.elim
  obtain ⟨w', c1, e1, v1⟩ := h1 hx
  rw [e1]
  exact ⟨w', c1, rfl, v1⟩
theorem zq5 {s : Sem α} {f : α → β} (hs : zq2 P s) : zq2 P (Functor.map f s) := zq3 hs fun _ => steady_pure _
instance (a : α) : Stdy P (Pure.pure a : Sem α) := ⟨steady_pure a⟩
instance (s : String) : Stdy P (stuck s : Sem α) := ⟨steady_halt _⟩
instance (u : Unsupported) : Stdy P (unsupported u : Sem α) := ⟨steady_halt _⟩
instance (v : Value) : Stdy P (goPanic v : Sem α) := ⟨steady_halt _⟩
theorem steady_program : zq2 P program := fun X w wc es h _ => ⟨w, h, rfl, fun e he => .inl he⟩
instance : Stdy P program := ⟨steady_program⟩
theorem steady_choose (q : Question) : zq2 P (choose q) := by
 intro X w wc es h _
 unfold choose
 simp only [Sem.runT]
 by_cases hq : q.forced = true
 · simp only [hq, if_true]
   exact ⟨w, h, rfl, fun e he => .inl he⟩
 · simp only [hq, Bool.false_eq_true, if_false]
   refine ⟨{ w with drawn := w.drawn + 1 }, ⟨h.is, h.no, h.size, h.tape, by show wc.drawn + 1 = w.drawn + 1; rw [h.drawn], h.os, h.output⟩, ?_, fun e he => .inl he⟩
   rw [h.tape, h.drawn]
   rfl
instance (q : Question) : Stdy P (choose q) := ⟨steady_choose q⟩
theorem steady_mark (m : Mark) : zq2 P (mark m) := by
 intro X w wc es h _
 refine ⟨w, h, rfl, fun e he => ?_⟩
 simp only [mark, Sem.runT] at he
 rcases Array.mem_push.1 he with he | rfl
 · exact .inl he
 · exact .inr fun a ha => by cases ha
instance (m : Mark) : Stdy P (mark m) := ⟨steady_mark m⟩
theorem steady_newObj (o : Obj) : zq2 P (newObj o) := by
 intro X w wc es h _
 refine ⟨{ w with heap := w.heap.push o }, ⟨fun b c e hb => ?_, fun b hb => ?_, ?_, h.tape, h.drawn, h.os, h.output⟩, ?_, fun e he => .inl he⟩
 · obtain ⟨h1, h2⟩ := h.is b c e hb
   have l1 := (Array.getElem?_eq_some_iff.1 h1).1
   have l2 := (Array.getElem?_eq_some_iff.1 h2).1
   constructor
   · show (w.heap.push o)[b]? = _
     rw [Array.getElem?_push, if_neg (by omega)]; exact h1
   · show (wc.heap.push o)[b]? = _
     rw [Array.getElem?_push, if_neg (by omega)]; exact h2
 · show (wc.heap.push o)[b]? = (w.heap.push o)[b]?
   rw [Array.getElem?_push, Array.getElem?_push, h.size, h.no b hb]
 · show (wc.heap.push o).size = (w.heap.push o).size
   simp [h.size]
 · show (Result.ok w.heap.size _, es) = (setW (Result.ok wc.heap.size _) _, es)
   rw [h.size]; rfl
instance (o : Obj) : Stdy P (newObj o) := ⟨steady_newObj o⟩
theorem Cut.cell_in {X : Snap} {w wc : World} (h : Cut X w wc) {a : Addr} {x} (hx : X a.block = some x) : wc.cell? a = none := by
 obtain ⟨c, e⟩ := x
 simp [World.cell?, (h.is _ _ _ hx).2]
theorem Cut.cell_out {X : Snap} {w wc : World} (h : Cut X w wc) {a : Addr} (hx : X a.block = none) : wc.cell? a = w.cell? a := by
 simp [World.cell?, h.no _ hx]
theorem Cut.frozen {X : Snap} {w wc : World} (h : Cut X w wc) (a : Addr) : wc.frozen? a = w.frozen? a := by
 cases hx : X a.block with
 | none => simp [World.frozen?, h.no _ hx]
 | some x => obtain ⟨c, e⟩ := x; simp [World.frozen?, (h.is _ _ _ hx).1, (h.is _ _ _ hx).2]
theorem Cut.frozen_in {X : Snap} {w wc : World} (h : Cut X w wc) {a : Addr} {x} (hx : X a.block = some x) : w.frozen? a = false := by
 obtain ⟨c, e⟩ := x; simp [World.frozen?, (h.is _ _ _ hx).1]
theorem Cut.shape_out {X : Snap} {w wc : World} (h : Cut X w wc) {r : Nat} (hx : X r = none) : wc.shape? r = w.shape? r := by
 simp [World.shape?, h.no _ hx]
theorem Cut.shape_in {X : Snap} {w wc : World} (h : Cut X w wc) {r : Nat} {c : Array Value} {e : TypeId} (hx : X r = some (c, e)) : w.shape? r = some (e, c.size) ∧ wc.shape? r = some (e, 0) := by
 simp [World.shape?, (h.is _ _ _ hx).1, (h.is _ _ _ hx).2]
theorem steady_frozen (a : Addr) : zq2 P (frozen a) := by
 intro X w wc es h _
 refine ⟨w, h, ?_, fun e he => .inl he⟩
 show (Result.ok (w.frozen? a) w, es) = (setW (Result.ok (wc.frozen? a) wc) w, es)
 rw [h.frozen]; rfl
instance (a : Addr) : Stdy P (frozen a) := ⟨steady_frozen a⟩
theorem zq6 {r : Nat} {f : Option (TypeId × Nat) → Sem β} (he : ∀ e n, f (some (e, n)) = f (some (e, 0))) (hf : ∀ x, zq2 P (f x)) : zq2 P (shape r >>= f) := by
 intro X w wc es h hfit
 have e1 : ∀ w, (shape r >>= f).runT P w es = (f (w.shape? r)).runT P w es := fun w => rfl
 rw [e1] at hfit
 rw [e1, e1]
 cases hx : X r with
 | none => rw [h.shape_out hx] at hfit ⊢; exact hf _ X w wc es h hfit
 | some x =>
  obtain ⟨c, e⟩ := x
  obtain ⟨h1, h2⟩ := h.shape_in hx
  rw [h2] at hfit
  rw [h1, h2, he e c.size]; exact hf _ X w wc es h hfit
theorem plain_bytes (P : Program) : ∀ (d : Nat) (t : TypeId) (off : Nat) (v : Value), plainCell P d t off = some v → (∃ b, v = .bool b) ∨ (∃ k, v = .int k 0) ∨ (∃ k, v = .float k 0) ∨ ∃ k, v = .complex k 0 0 := by
 intro d
 induction d with
 | zero => intro t off v h; cases h
 | succ d ih =>
  intro t off v h
  unfold plainCell at h
  split at h
  · obtain ⟨f, hf⟩ := Array.exists_of_findSome?_eq_some h
    obtain ⟨_, hf⟩ := hf
    split at hf
    · exact ih _ _ _ hf
    · cases hf
  · simp only [] at h
    split at h
    · cases h
    · exact ih _ _ _ h
  · split at h
    · cases h; exact .inl ⟨_, rfl⟩
    · cases h
  · split at h
    · cases h; exact .inr (.inl ⟨_, rfl⟩)
    · cases h
  · split at h
    · cases h; exact .inr (.inr (.inl ⟨_, rfl⟩))
    · cases h
  · split at h
    · cases h; exact .inr (.inr (.inr ⟨_, rfl⟩))
    · cases h
  · cases h
theorem plain_pos {P : Program} {d : Nat} {t : TypeId} {off : Nat} {v : Value} (h : plainCell P d t off = some v) {l : List UInt8} (hl : v.bytes? = some l) : 0 < l.length := by
 rcases plain_bytes P d t off v h with ⟨b, rfl⟩ | ⟨k, rfl⟩ | ⟨k, rfl⟩ | ⟨k, rfl⟩
 · cases hl; simp
 · cases k <;> (simp only [Value.bytes?, al_oi] at hl; subst hl; simp [IntKind.bits, leBytes])
 · cases k <;> (simp only [Value.bytes?, al_oi] at hl; subst hl; simp [FloatKind.bytes, leBytes])
 · cases k <;> (simp only [Value.bytes?, al_oi] at hl; subst hl; simp [FloatKind.bytes, leBytes])
theorem seenCells_none {P : Program} {e : TypeId} {f x stop : Nat} (h : x < stop) : ∃ y, seenCells P #[] e f x stop = .error y := by
 cases f with
 | zero => exact ⟨_, rfl⟩
 | succ f =>
  unfold seenCells
  rw [if_neg (by omega)]
  simp only []
  split
  · exact ⟨_, rfl⟩
  · split
    · exact ⟨_, rfl⟩
    · simp
theorem seen_err {P : Program} {w : World} {at_ k : Addr} {u e : TypeId} {b : Bool} (h : w.heap[at_.block]? = some (.cells #[] e)) : ∃ y, w.seen P at_ u k b = .error y := by
 unfold World.seen
 simp only [bind, Except.bind, pure, Except.pure, throw, throwThe, MonadExceptOf.throw, h]
 split
 · exact ⟨_, rfl⟩
 · split
   · rename_i like hlike
     cases hb : like.bytes? with
     | none => exact ⟨_, by simp; rfl⟩
     | some l =>
      have hpos := plain_pos hlike hb
      simp only [Option.map_some]
      split
      · rename_i β hβ
        split
        · exact ⟨_, rfl⟩
        · split
          · rename_i b0 hb0
            obtain ⟨y, hy⟩ := seenCells_none (P := P) (e := e) (f := l.length + 1) (x := at_.off / P.cellsOf e * P.bytesOf e + b0 + β) (stop := at_.off / P.cellsOf e * P.bytesOf e + b0 + β + l.length) (by omega)
            rw [hy]
            exact ⟨_, rfl⟩
          · exact ⟨_, rfl⟩
      · exact ⟨_, rfl⟩
   · exact ⟨_, rfl⟩
theorem viewLoad_cut {X : Snap} {w wc : World} (h : Cut X w wc) {at_ a : Addr} {u : TypeId} {b : Bool} {v : Value} {l : List Addr} (hv : wc.viewLoad P at_ u a b = .ok (v, l)) :
 X at_.block = none ∧ w.viewLoad P at_ u a b = .ok (v, l) ∧ ∀ x ∈ l, x.block = at_.block := by
 cases hx : X at_.block with
 | some x =>
  obtain ⟨c, e⟩ := x
  obtain ⟨y, hy⟩ := seen_err (P := P) (w := wc) (at_ := at_) (k := a) (u := u) (b := b) (h.is _ _ _ hx).2
  unfold World.viewLoad at hv
  simp only [hy, bind, Except.bind] at hv
  cases hv
 | none =>
  have e : wc.viewLoad P at_ u a b = w.viewLoad P at_ u a b := by
   unfold World.viewLoad World.seen
   rw [h.no _ hx]
  refine ⟨rfl, by rw [← e]; exact hv, ?_⟩
  unfold World.viewLoad at hv
  cases hs : wc.seen P at_ u a b with
  | error y => simp only [hs, bind, Except.bind] at hv; cases hv
  | ok x =>
   obtain ⟨_, _, _, first, like, cells⟩ := x
   simp only [hs, bind, Except.bind, pure, Except.pure, throw, throwThe, MonadExceptOf.throw] at hv
   split at hv
   · simp only [Except.ok.injEq, Prod.mk.injEq] at hv
     obtain ⟨_, rfl⟩ := hv
     intro x hx
     obtain ⟨y, _, rfl⟩ := List.mem_map.1 hx
     rfl
   · cases hv
theorem farLoad_cut {X : Snap} {w wc : World} (h : Cut X w wc) {a : Addr} {b : Bool} {v : Value} {l : List Addr} (hv : wc.farLoad P a b = .ok (v, l)) : w.farLoad P a b = .ok (v, l) ∧ X a.block = none ∧ ∀ x ∈ l, X x.block = none := by
 cases hx : X a.block with
 | some x =>
  obtain ⟨c, e⟩ := x
  unfold World.farLoad at hv
  rw [(h.is _ _ _ hx).2] at hv
  cases hv
 | none =>
  have hh := h.no _ hx
  unfold World.farLoad at hv ⊢
  rw [hh] at hv
  split at hv
  · rename_i at_ u he
    split at hv
    · rename_i r hr
      cases hv
      obtain ⟨h1, h2, h3⟩ := viewLoad_cut h hr
      rw [h2]
      exact ⟨rfl, rfl, fun x hx' => by rw [h3 x hx']; exact h1⟩
    · cases hv
  · cases hv
theorem fit_far {α : Type} {wc : World} {a : Addr} {b : Bool} {x : Halt} {w' : World} (hv : wc.farLoad P a b = .error x) : ¬ fit (Result.halt x w' : Result α) := by
 unfold World.farLoad at hv
 split at hv
 · split at hv
   · cases hv
   · cases hv; exact id
 · cases hv
   unfold World.noCell
   split <;> exact id
theorem steady_load (a : Addr) (m : Mode) : zq2 P (load a m) := by
 intro X w wc es h hfit
 simp only [load, Sem.runT] at hfit ⊢
 cases hx : X a.block with
 | some x =>
  rw [h.cell_in hx] at hfit
  exfalso
  obtain ⟨c, e⟩ := x
  have : wc.farLoad P a (m == Mode.atomic) = .error (wc.noCell a "load: no such cell") := by
   unfold World.farLoad; rw [(h.is _ _ _ hx).2]
  simp only [this] at hfit
  exact fit_far this hfit
 | none =>
  rw [← h.cell_out hx]
  cases hc : wc.cell? a with
  | some v =>
   refine ⟨w, h, rfl, fun e he => ?_⟩
   rcases Array.mem_push.1 he with he | rfl
   · exact .inl he
   · exact .inr fun y hy => by cases hy; exact hx
  | none =>
   rw [hc] at hfit
   simp only [] at hfit ⊢
   cases hf : wc.farLoad P a (m == Mode.atomic) with
   | ok x =>
    obtain ⟨v, l⟩ := x
    obtain ⟨h1, h2, h3⟩ := farLoad_cut h hf
    rw [h1]
    refine ⟨w, h, rfl, fun e he => ?_⟩
    rcases Array.mem_append.1 he with he | he
    · exact .inl he
    · obtain ⟨y, hy, rfl⟩ := Array.mem_map.1 he
      exact .inr fun z hz => by cases hz; exact h3 y (by simpa using hy)
   | error x =>
    rw [hf] at hfit
    exact (fit_far hf hfit).elim
instance (a : Addr) (m : Mode) : Stdy P (load a m) := ⟨steady_load a m⟩
theorem steady_getObj (r : Nat) : zq2 P (getObj r) := by
 intro X w wc es h hfit
 simp only [getObj, Sem.runT] at hfit ⊢
 cases hx : X r with
 | some x =>
  obtain ⟨c, e⟩ := x
  rw [(h.is _ _ _ hx).2] at hfit
  exact hfit.elim
 | none =>
  rw [h.no _ hx] at hfit ⊢
  cases ho : w.heap[r]? with
  | none => rw [ho] at hfit; exact hfit.elim
  | some o =>
   rw [ho] at hfit
   cases o <;> first
    | exact hfit.elim
    | (refine ⟨w, h, rfl, fun e he => ?_⟩
       rcases Array.mem_push.1 he with he | rfl
       · exact .inl he
       · exact .inr fun y hy => by cases hy)
instance (r : Nat) : Stdy P (getObj r) := ⟨steady_getObj r⟩
theorem Cut.setCell {X : Snap} {w wc : World} (h : Cut X w wc) {a : Addr} (hx : X a.block = none) (v : Value) : Cut X (w.setCell a v) (wc.setCell a v) := by
 refine ⟨fun b c e hb => ?_, fun b hb => ?_, ?_, h.tape, h.drawn, h.os, h.output⟩
 · have hne : a.block ≠ b := fun e => by rw [e, hb] at hx; cases hx
   obtain ⟨h1, h2⟩ := h.is b c e hb
   constructor
   · show (w.heap.modify _ _)[b]? = _
     rw [Array.getElem?_modify, if_neg hne]; exact h1
   · show (wc.heap.modify _ _)[b]? = _
     rw [Array.getElem?_modify, if_neg hne]; exact h2
 · show (wc.heap.modify _ _)[b]? = (w.heap.modify _ _)[b]?
   rw [Array.getElem?_modify, Array.getElem?_modify, h.no b hb]
 · show (wc.heap.modify _ _).size = (w.heap.modify _ _).size
   simp [h.size]
theorem viewStore_cut {X : Snap} {w wc : World} (h : Cut X w wc) {at_ a : Addr} {u : TypeId} {v : Value} {b : Bool} {wc' : World} {l : List Addr} (hv : wc.viewStore P at_ u a v b = .ok (wc', l)) :
 X at_.block = none ∧ (∃ w', w.viewStore P at_ u a v b = .ok (w', l) ∧ Cut X w' wc') ∧ ∀ x ∈ l, x.block = at_.block := by
 cases hx : X at_.block with
 | some x =>
  obtain ⟨c, e⟩ := x
  obtain ⟨y, hy⟩ := seen_err (P := P) (w := wc) (at_ := at_) (k := a) (u := u) (b := b) (h.is _ _ _ hx).2
  unfold World.viewStore at hv
  cases ht : tight P P.depth u <;> simp only [ht, hy, bind, Except.bind, Bool.not_true, Bool.not_false, Bool.false_eq_true, if_true, if_false, reduceIte, pure, Except.pure, throw, throwThe, MonadExceptOf.throw] at hv <;> cases hv
 | none =>
  have e : w.seen P at_ u a b = wc.seen P at_ u a b := by
   unfold World.seen
   rw [h.no _ hx]
  unfold World.viewStore at hv ⊢
  rw [e]
  simp only [bind, Except.bind, pure, Except.pure, throw, throwThe, MonadExceptOf.throw] at hv ⊢
  cases ht : tight P P.depth u <;> simp only [ht, Bool.not_true, Bool.not_false, Bool.false_eq_true, if_true, if_false, reduceIte] at hv ⊢
  · cases hv
  cases hs : wc.seen P at_ u a b with
  | error y => simp only [hs] at hv; cases hv
  | ok x =>
   simp only [hs] at hv ⊢
   obtain ⟨c, e, fr, first, like, cells⟩ := x
   simp only [] at hv ⊢
   cases hb : v.bytes? with
   | none => simp only [hb] at hv; cases hv
   | some bytes =>
    simp only [hb] at hv ⊢
    by_cases hl : some bytes.length ≠ Option.map (fun x => x.length) like.bytes?
    · simp only [if_pos hl] at hv; cases hv
    · simp only [if_neg hl] at hv ⊢
      generalize (List.foldlM (m := Except String) _ _ _ : Except String (Array Value)) = Y at hv ⊢
      cases Y with
      | error _ => cases hv
      | ok Y =>
       simp only [Except.ok.injEq, Prod.mk.injEq] at hv ⊢
       obtain ⟨rfl, rfl⟩ := hv
       refine ⟨trivial, ⟨_, ⟨rfl, rfl⟩, ?_⟩, fun x hx' => ?_⟩
       · refine ⟨fun b c e hb => ?_, fun b hb => ?_, ?_, h.tape, h.drawn, h.os, h.output⟩
         · have hne : at_.block ≠ b := fun e => by rw [e, hb] at hx; cases hx
           obtain ⟨h1, h2⟩ := h.is b c e hb
           constructor
           · show (w.heap.setIfInBounds _ _)[b]? = _
             rw [al_gn hne]; exact h1
           · show (wc.heap.setIfInBounds _ _)[b]? = _
             rw [al_gn hne]; exact h2
         · show (wc.heap.setIfInBounds _ _)[b]? = (w.heap.setIfInBounds _ _)[b]?
           rw [al_gs, al_gs, h.no b hb, h.size]
         · show (wc.heap.setIfInBounds _ _).size = (w.heap.setIfInBounds _ _).size
           simp [h.size]
       · obtain ⟨y, _, rfl⟩ := List.mem_map.1 hx'
         rfl
theorem farStore_cut {X : Snap} {w wc : World} (h : Cut X w wc) {a : Addr} {v : Value} {b : Bool} {wc' : World} {l : List Addr} (hv : wc.farStore P a v b = .ok (wc', l)) :
 X a.block = none ∧ (∃ w', w.farStore P a v b = .ok (w', l) ∧ Cut X w' wc') ∧ ∀ x ∈ l, X x.block = none := by
 cases hx : X a.block with
 | some x =>
  obtain ⟨c, e⟩ := x
  unfold World.farStore at hv
  rw [(h.is _ _ _ hx).2] at hv
  cases hv
 | none =>
  have hh := h.no _ hx
  unfold World.farStore at hv ⊢
  rw [hh] at hv
  split at hv
  · rename_i at_ u he
    split at hv
    · rename_i r hr
      cases hv
      obtain ⟨h1, ⟨w', h2, h4⟩, h3⟩ := viewStore_cut h hr
      rw [h2]
      exact ⟨rfl, ⟨w', rfl, h4⟩, fun x hx' => by rw [h3 x hx']; exact h1⟩
    · cases hv
  · cases hv
theorem fit_farS {α : Type} {wc : World} {a : Addr} {v : Value} {b : Bool} {x : Halt} {w' : World} (hv : wc.farStore P a v b = .error x) : ¬ fit (Result.halt x w' : Result α) := by
 unfold World.farStore at hv
 split at hv
 · split at hv
   · cases hv
   · cases hv; exact id
 · cases hv
   unfold World.noCell
   split <;> exact id
theorem steady_store (a : Addr) (v : Value) (m : Mode) : zq2 P (store a v m) := by
 intro X w wc es h hfit
 unfold store at hfit ⊢
 by_cases hagg : (∃ c, v = .agg c) ∨ ∃ c, v = .tuple c
 · rcases hagg with ⟨c, rfl⟩ | ⟨c, rfl⟩ <;> exact hfit.elim
 · rw [runT_store hagg] at hfit ⊢
   rw [runT_store hagg w]
   cases hx : X a.block with
   | some x =>
    rw [h.cell_in hx] at hfit
    exfalso
    obtain ⟨c, e⟩ := x
    have : wc.farStore P a v (m == Mode.atomic) = .error (wc.noCell a "store: no such cell") := by
     unfold World.farStore; rw [(h.is _ _ _ hx).2]
    simp only [this] at hfit
    exact fit_farS this hfit
   | none =>
    rw [← h.cell_out hx]
    cases hc : wc.cell? a with
    | some v' =>
     rw [hc] at hfit
     simp only [] at hfit ⊢
     rw [← h.frozen a]
     by_cases hf : wc.frozen? a = true
     · simp only [hf, if_true] at hfit; exact hfit.elim
     · simp only [hf, Bool.false_eq_true, if_false] at hfit ⊢
       refine ⟨_, h.setCell hx v, rfl, fun e he => ?_⟩
       rcases Array.mem_push.1 he with he | rfl
       · exact .inl he
       · exact .inr fun y hy => by cases hy; exact hx
    | none =>
     rw [hc] at hfit
     simp only [] at hfit ⊢
     cases hf : wc.farStore P a v (m == Mode.atomic) with
     | ok x =>
      obtain ⟨wc', l⟩ := x
      obtain ⟨h1, ⟨w', h2, h4⟩, h3⟩ := farStore_cut h hf
      rw [h2]
      refine ⟨w', h4, rfl, fun e he => ?_⟩
      rcases Array.mem_append.1 he with he | he
      · exact .inl he
      · obtain ⟨y, hy, rfl⟩ := Array.mem_map.1 he
        exact .inr fun z hz => by cases hz; exact h3 y (by simpa using hy)
     | error x =>
      rw [hf] at hfit
      exact (fit_farS hf hfit).elim
instance (a : Addr) (v : Value) (m : Mode) : Stdy P (store a v m) := ⟨steady_store a v m⟩
end
section
variable {α β : Type} {P : Program}
theorem steady_underlying (t : TypeId) : zq2 P (underlying t) := by
 unfold underlying
 repeat' (first | with_reducible exact Stdy.out | with_reducible refine zq5 ?_ | with_reducible refine zq6 ?_ (fun _ => ?_) | with_reducible refine zq3 ?_ (fun _ => ?_) | exact fun _ _ => rfl | split | simp only [])
instance (t : TypeId) : Stdy P (underlying t) := ⟨steady_underlying t⟩
theorem steady_typeInfo (t : TypeId) : zq2 P (typeInfo t) := by
 unfold typeInfo
 repeat' (first | with_reducible exact Stdy.out | with_reducible refine zq5 ?_ | with_reducible refine zq6 ?_ (fun _ => ?_) | with_reducible refine zq3 ?_ (fun _ => ?_) | exact fun _ _ => rfl | split | simp only [])
instance (t : TypeId) : Stdy P (typeInfo t) := ⟨steady_typeInfo t⟩
theorem steady_sizeOf (t : TypeId) : zq2 P (sizeOf t) := by
 unfold sizeOf
 repeat' (first | with_reducible exact Stdy.out | with_reducible refine zq5 ?_ | with_reducible refine zq6 ?_ (fun _ => ?_) | with_reducible refine zq3 ?_ (fun _ => ?_) | exact fun _ _ => rfl | split | simp only [])
instance (t : TypeId) : Stdy P (sizeOf t) := ⟨steady_sizeOf t⟩
theorem steady_zeroValue (t : TypeId) : zq2 P (zeroValue t) := by
 unfold zeroValue
 repeat' (first | with_reducible exact Stdy.out | with_reducible refine zq5 ?_ | with_reducible refine zq6 ?_ (fun _ => ?_) | with_reducible refine zq3 ?_ (fun _ => ?_) | exact fun _ _ => rfl | split | simp only [])
instance (t : TypeId) : Stdy P (zeroValue t) := ⟨steady_zeroValue t⟩
theorem steady_isAgg (t : TypeId) : zq2 P (isAgg t) := by
 unfold isAgg
 repeat' (first | with_reducible exact Stdy.out | with_reducible refine zq5 ?_ | with_reducible refine zq6 ?_ (fun _ => ?_) | with_reducible refine zq3 ?_ (fun _ => ?_) | exact fun _ _ => rfl | split | simp only [])
instance (t : TypeId) : Stdy P (isAgg t) := ⟨steady_isAgg t⟩
theorem steady_elemOf (t : TypeId) : zq2 P (elemOf t) := by
 unfold elemOf
 repeat' (first | with_reducible exact Stdy.out | with_reducible refine zq5 ?_ | with_reducible refine zq6 ?_ (fun _ => ?_) | with_reducible refine zq3 ?_ (fun _ => ?_) | exact fun _ _ => rfl | split | simp only [])
instance (t : TypeId) : Stdy P (elemOf t) := ⟨steady_elemOf t⟩
theorem steady_typeStr (t : TypeId) : zq2 P (typeStr t) := by
 unfold typeStr
 repeat' (first | with_reducible exact Stdy.out | with_reducible refine zq5 ?_ | with_reducible refine zq6 ?_ (fun _ => ?_) | with_reducible refine zq3 ?_ (fun _ => ?_) | exact fun _ _ => rfl | split | simp only [])
instance (t : TypeId) : Stdy P (typeStr t) := ⟨steady_typeStr t⟩
theorem steady_loadCellsFrom (a : Addr) : ∀ (n i : Nat) (acc : Array Value), zq2 P (loadCellsFrom a i n acc)
 | 0, _, _ => steady_pure _
 | n + 1, _, _ => zq3 (steady_load _ _) fun _ => steady_loadCellsFrom a n _ _
theorem steady_loadCells (a : Addr) (n : Nat) : zq2 P (loadCells a n) := steady_loadCellsFrom a n 0 #[]
instance (a : Addr) (n : Nat) : Stdy P (loadCells a n) := ⟨steady_loadCells a n⟩
theorem steady_storeCells (a : Addr) : ∀ (vs : List Value) (i : Nat), zq2 P (storeCells a vs i)
 | [], _ => steady_pure _
 | _ :: r, i => zq3 (steady_store _ _ _) fun _ => steady_storeCells a r (i + 1)
instance (a : Addr) (vs : List Value) (i : Nat) : Stdy P (storeCells a vs i) := ⟨steady_storeCells a vs i⟩
theorem steady_loadVar (t : TypeId) (a : Addr) : zq2 P (loadVar t a) := by
 unfold loadVar
 repeat' (first | with_reducible exact Stdy.out | with_reducible refine zq5 ?_ | with_reducible refine zq6 ?_ (fun _ => ?_) | with_reducible refine zq3 ?_ (fun _ => ?_) | exact fun _ _ => rfl | split | simp only [])
instance (t : TypeId) (a : Addr) : Stdy P (loadVar t a) := ⟨steady_loadVar t a⟩
theorem steady_storeVar (t : TypeId) (a : Addr) (v : Value) : zq2 P (storeVar t a v) := by
 unfold storeVar
 repeat' (first | with_reducible exact Stdy.out | with_reducible refine zq5 ?_ | with_reducible refine zq6 ?_ (fun _ => ?_) | with_reducible refine zq3 ?_ (fun _ => ?_) | exact fun _ _ => rfl | split | simp only [])
theorem steady_newRow (t : TypeId) (c : Array Value) : zq2 P (newRow t c) := by
 unfold newRow
 repeat' (first | with_reducible exact Stdy.out | with_reducible refine zq5 ?_ | with_reducible refine zq6 ?_ (fun _ => ?_) | with_reducible refine zq3 ?_ (fun _ => ?_) | exact fun _ _ => rfl | split | simp only [])
instance (t : TypeId) (c : Array Value) : Stdy P (newRow t c) := ⟨steady_newRow t c⟩
theorem steady_newVar (t : TypeId) (v : Value) : zq2 P (newVar t v) := by
 unfold newVar
 repeat' (first | with_reducible exact Stdy.out | with_reducible refine zq5 ?_ | with_reducible refine zq6 ?_ (fun _ => ?_) | with_reducible refine zq3 ?_ (fun _ => ?_) | exact fun _ _ => rfl | split | simp only [])
instance (t : TypeId) (v : Value) : Stdy P (newVar t v) := ⟨steady_newVar t v⟩
theorem steady_part (t : TypeId) (cs : Array Value) (off : Nat) : zq2 P (part t cs off) := by
 unfold part
 repeat' (first | with_reducible exact Stdy.out | with_reducible refine zq5 ?_ | with_reducible refine zq6 ?_ (fun _ => ?_) | with_reducible refine zq3 ?_ (fun _ => ?_) | exact fun _ _ => rfl | split | simp only [])
instance (t : TypeId) (cs : Array Value) (off : Nat) : Stdy P (part t cs off) := ⟨steady_part t cs off⟩
theorem steady_runtimePanic (e : RuntimeError) : zq2 P (runtimePanic e : Sem α) := by
 unfold runtimePanic
 cases e <;> repeat' (first | with_reducible exact Stdy.out | with_reducible refine zq5 ?_ | with_reducible refine zq6 ?_ (fun _ => ?_) | with_reducible refine zq3 ?_ (fun _ => ?_) | exact fun _ _ => rfl | split | simp only [])
instance (e : RuntimeError) : Stdy P (runtimePanic e : Sem α) := ⟨steady_runtimePanic e⟩
theorem steady_boundsPanic (k : IntKind) (x y : Int) (c : BoundsCode) : zq2 P (boundsPanic k x y c : Sem α) := by
 unfold boundsPanic
 repeat' (first | with_reducible exact Stdy.out | with_reducible refine zq5 ?_ | with_reducible refine zq6 ?_ (fun _ => ?_) | with_reducible refine zq3 ?_ (fun _ => ?_) | exact fun _ _ => rfl | split | simp only [])
instance (k : IntKind) (x y : Int) (c : BoundsCode) : Stdy P (boundsPanic k x y c : Sem α) := ⟨steady_boundsPanic k x y c⟩
theorem steady_asIntOf (v : Value) : zq2 P (asIntOf v) := by
 unfold asIntOf
 repeat' (first | with_reducible exact Stdy.out | with_reducible refine zq5 ?_ | with_reducible refine zq6 ?_ (fun _ => ?_) | with_reducible refine zq3 ?_ (fun _ => ?_) | exact fun _ _ => rfl | split | simp only [])
instance (v : Value) : Stdy P (asIntOf v) := ⟨steady_asIntOf v⟩
theorem steady_asInt (v : Value) : zq2 P (asInt v) := by
 unfold asInt
 repeat' (first | with_reducible exact Stdy.out | with_reducible refine zq5 ?_ | with_reducible refine zq6 ?_ (fun _ => ?_) | with_reducible refine zq3 ?_ (fun _ => ?_) | exact fun _ _ => rfl | split | simp only [])
instance (v : Value) : Stdy P (asInt v) := ⟨steady_asInt v⟩
theorem steady_asBool (v : Value) : zq2 P (asBool v) := by
 unfold asBool
 repeat' (first | with_reducible exact Stdy.out | with_reducible refine zq5 ?_ | with_reducible refine zq6 ?_ (fun _ => ?_) | with_reducible refine zq3 ?_ (fun _ => ?_) | exact fun _ _ => rfl | split | simp only [])
instance (v : Value) : Stdy P (asBool v) := ⟨steady_asBool v⟩
theorem steady_asAgg (v : Value) : zq2 P (asAgg v) := by
 unfold asAgg
 repeat' (first | with_reducible exact Stdy.out | with_reducible refine zq5 ?_ | with_reducible refine zq6 ?_ (fun _ => ?_) | with_reducible refine zq3 ?_ (fun _ => ?_) | exact fun _ _ => rfl | split | simp only [])
instance (v : Value) : Stdy P (asAgg v) := ⟨steady_asAgg v⟩
theorem steady_asAddr (v : Value) : zq2 P (asAddr v) := by
 unfold asAddr
 repeat' (first | with_reducible exact Stdy.out | with_reducible refine zq5 ?_ | with_reducible refine zq6 ?_ (fun _ => ?_) | with_reducible refine zq3 ?_ (fun _ => ?_) | exact fun _ _ => rfl | split | simp only [])
instance (v : Value) : Stdy P (asAddr v) := ⟨steady_asAddr v⟩
theorem steady_sureAddr (v : Value) : zq2 P (Instr.sureAddr v) := by
 unfold Instr.sureAddr
 repeat' (first | with_reducible exact Stdy.out | with_reducible refine zq5 ?_ | with_reducible refine zq6 ?_ (fun _ => ?_) | with_reducible refine zq3 ?_ (fun _ => ?_) | exact fun _ _ => rfl | split | simp only [])
instance (v : Value) : Stdy P (Instr.sureAddr v) := ⟨steady_sureAddr v⟩
theorem steady_viewAt (r : Nat) : zq2 P (viewAt r) := by
 unfold viewAt
 refine zq6 (fun e n => rfl) fun x => ?_
 repeat' (first | with_reducible exact Stdy.out | with_reducible refine zq5 ?_ | with_reducible refine zq6 ?_ (fun _ => ?_) | with_reducible refine zq3 ?_ (fun _ => ?_) | exact fun _ _ => rfl | split | simp only [])
instance (r : Nat) : Stdy P (viewAt r) := ⟨steady_viewAt r⟩
theorem steady_noView (a : Addr) : zq2 P (noView a) := by
 unfold noView
 repeat' (first | with_reducible exact Stdy.out | with_reducible refine zq5 ?_ | with_reducible refine zq6 ?_ (fun _ => ?_) | with_reducible refine zq3 ?_ (fun _ => ?_) | exact fun _ _ => rfl | split | simp only [])
instance (a : Addr) : Stdy P (noView a) := ⟨steady_noView a⟩
theorem steady_byteOf (a : Addr) : zq2 P (byteOf a) := by
 unfold byteOf
 repeat' (first | with_reducible exact Stdy.out | with_reducible refine zq5 ?_ | with_reducible refine zq6 ?_ (fun _ => ?_) | with_reducible refine zq3 ?_ (fun _ => ?_) | exact fun _ _ => rfl | split | simp only [])
instance (a : Addr) : Stdy P (byteOf a) := ⟨steady_byteOf a⟩
theorem steady_partAt (a : Addr) (i j : Nat) : zq2 P (partAt a i j) := by
 unfold partAt
 repeat' (first | with_reducible exact Stdy.out | with_reducible refine zq5 ?_ | with_reducible refine zq6 ?_ (fun _ => ?_) | with_reducible refine zq3 ?_ (fun _ => ?_) | exact fun _ _ => rfl | split | simp only [])
instance (a : Addr) (i j : Nat) : Stdy P (partAt a i j) := ⟨steady_partAt a i j⟩
theorem steady_fieldPlace (a : Addr) (f : Field) : zq2 P (fieldPlace a f) := by
 unfold fieldPlace
 repeat' (first | with_reducible exact Stdy.out | with_reducible refine zq5 ?_ | with_reducible refine zq6 ?_ (fun _ => ?_) | with_reducible refine zq3 ?_ (fun _ => ?_) | exact fun _ _ => rfl | split | simp only [])
instance (a : Addr) (f : Field) : Stdy P (fieldPlace a f) := ⟨steady_fieldPlace a f⟩
theorem steady_alloc (t : TypeId) : zq2 P (Instr.alloc t true (.tuple #[])) := by
 unfold Instr.alloc
 repeat' (first | with_reducible exact Stdy.out | with_reducible refine zq5 ?_ | with_reducible refine zq6 ?_ (fun _ => ?_) | with_reducible refine zq3 ?_ (fun _ => ?_) | exact fun _ _ => rfl | split | simp only [])
instance (t : TypeId) : Stdy P (Instr.alloc t true (.tuple #[])) := ⟨steady_alloc t⟩
theorem steady_box (t : TypeId) (v : Value) : zq2 P (Instr.box t v) := by
 unfold Instr.box
 repeat' (first | with_reducible exact Stdy.out | with_reducible refine zq5 ?_ | with_reducible refine zq6 ?_ (fun _ => ?_) | with_reducible refine zq3 ?_ (fun _ => ?_) | exact fun _ _ => rfl | split | simp only [])
instance (t : TypeId) (v : Value) : Stdy P (Instr.box t v) := ⟨steady_box t v⟩
theorem steady_mapM {γ δ : Type} (f : γ → Sem δ) (h : ∀ a, zq2 P (f a)) (l : List γ) : zq2 P (l.mapM f) := by
 induction l with
 | nil => exact steady_pure _
 | cons a l ih => rw [List.mapM_cons]; exact zq3 (h a) fun _ => zq3 ih fun _ => steady_pure _
theorem steady_mapMA {γ δ : Type} (f : γ → Sem δ) (h : ∀ a, zq2 P (f a)) (l : Array γ) : zq2 P (l.mapM f) := by
 rw [Array.mapM_eq_mapM_toList]
 exact zq5 (steady_mapM f h _)
instance {γ δ : Type} (f : γ → Sem δ) [h : ∀ a, Stdy P (f a)] (l : Array γ) : Stdy P (l.mapM f) := ⟨steady_mapMA f (fun a => (h a).out) l⟩
instance {γ δ : Type} (s : Sem γ) (f : γ → Sem δ) [hs : Stdy P s] [h : ∀ a, Stdy P (f a)] : Stdy P (s >>= f) := ⟨zq3 hs.out (fun a => (h a).out)⟩
theorem steady_build (t : TypeId) (ps : Array (Nat × Value)) : zq2 P (Instr.build t ps) := by
 unfold Instr.build
 repeat' (first | with_reducible exact Stdy.out | with_reducible refine zq5 ?_ | with_reducible refine zq6 ?_ (fun _ => ?_) | with_reducible refine zq3 ?_ (fun _ => ?_) | exact fun _ _ => rfl | split | simp only [])
instance (t : TypeId) (ps : Array (Nat × Value)) : Stdy P (Instr.build t ps) := ⟨steady_build t ps⟩
theorem steady_buildSlice (t : TypeId) (n : Nat) (ps : Array (Nat × Value)) : zq2 P (Instr.buildSlice t n ps) := by
 unfold Instr.buildSlice
 repeat' (first | with_reducible exact Stdy.out | with_reducible refine zq5 ?_ | with_reducible refine zq6 ?_ (fun _ => ?_) | with_reducible refine zq3 ?_ (fun _ => ?_) | exact fun _ _ => rfl | split | simp only [])
instance (t : TypeId) (n : Nat) (ps : Array (Nat × Value)) : Stdy P (Instr.buildSlice t n ps) := ⟨steady_buildSlice t n ps⟩
theorem steady_loadAt (t : TypeId) (v : Value) : zq2 P (Instr.loadAt t v) := by
 unfold Instr.loadAt
 repeat' (first | with_reducible exact Stdy.out | with_reducible refine zq5 ?_ | with_reducible refine zq6 ?_ (fun _ => ?_) | with_reducible refine zq3 ?_ (fun _ => ?_) | exact fun _ _ => rfl | split | simp only [])
instance (t : TypeId) (v : Value) : Stdy P (Instr.loadAt t v) := ⟨steady_loadAt t v⟩
theorem steady_storeAt (t : TypeId) (v x : Value) : zq2 P (Instr.storeAt t v x) := zq3 (steady_sureAddr v) fun _ => steady_storeVar t _ x
instance (t : TypeId) (v x : Value) : Stdy P (Instr.storeAt t v x) := ⟨steady_storeAt t v x⟩
theorem steady_fieldAt (t : TypeId) (v : Value) (i : Nat) : zq2 P (Instr.fieldAt t v i) := by
 unfold Instr.fieldAt
 repeat' (first | with_reducible exact Stdy.out | with_reducible refine zq5 ?_ | with_reducible refine zq6 ?_ (fun _ => ?_) | with_reducible refine zq3 ?_ (fun _ => ?_) | exact fun _ _ => rfl | split | simp only [])
instance (t : TypeId) (v : Value) (i : Nat) : Stdy P (Instr.fieldAt t v i) := ⟨steady_fieldAt t v i⟩
theorem steady_indexAt (t : TypeId) (v x : Value) : zq2 P (Instr.indexAt t v x) := by
 unfold Instr.indexAt
 repeat' (first | with_reducible exact Stdy.out | with_reducible refine zq5 ?_ | with_reducible refine zq6 ?_ (fun _ => ?_) | with_reducible refine zq3 ?_ (fun _ => ?_) | exact fun _ _ => rfl | split | simp only [])
instance (t : TypeId) (v x : Value) : Stdy P (Instr.indexAt t v x) := ⟨steady_indexAt t v x⟩
theorem steady_sliceBound (v : Value) (y : Nat) (c : BoundsCode) : zq2 P (Instr.sliceBound v y c) := by
 unfold Instr.sliceBound
 repeat' (first | with_reducible exact Stdy.out | with_reducible refine zq5 ?_ | with_reducible refine zq6 ?_ (fun _ => ?_) | with_reducible refine zq3 ?_ (fun _ => ?_) | exact fun _ _ => rfl | split | simp only [])
instance (v : Value) (y : Nat) (c : BoundsCode) : Stdy P (Instr.sliceBound v y c) := ⟨steady_sliceBound v y c⟩
theorem steady_sliceBounds (b : Bool) (n m : Nat) (x y z : Option Value) : zq2 P (Instr.sliceBounds b n m x y z) := by
 unfold Instr.sliceBounds
 repeat' (first | with_reducible exact Stdy.out | with_reducible refine zq5 ?_ | with_reducible refine zq6 ?_ (fun _ => ?_) | with_reducible refine zq3 ?_ (fun _ => ?_) | exact fun _ _ => rfl | split | simp only [])
instance (b : Bool) (n m : Nat) (x y z : Option Value) : Stdy P (Instr.sliceBounds b n m x y z) := ⟨steady_sliceBounds b n m x y z⟩
theorem steady_slice (t : TypeId) (v : Value) (x y z : Option Value) : zq2 P (Instr.slice t v x y z) := by
 unfold Instr.slice
 repeat' (first | with_reducible exact Stdy.out | with_reducible refine zq5 ?_ | with_reducible refine zq6 ?_ (fun _ => ?_) | with_reducible refine zq3 ?_ (fun _ => ?_) | exact fun _ _ => rfl | split | simp only [])
instance (t : TypeId) (v : Value) (x y z : Option Value) : Stdy P (Instr.slice t v x y z) := ⟨steady_slice t v x y z⟩
theorem steady_sliceAt (t : TypeId) (v : Value) (x y z : Option Value) : zq2 P (Instr.sliceAt t v x y z) := by
 unfold Instr.sliceAt
 repeat' (first | with_reducible exact Stdy.out | with_reducible refine zq5 ?_ | with_reducible refine zq6 ?_ (fun _ => ?_) | with_reducible refine zq3 ?_ (fun _ => ?_) | exact fun _ _ => rfl | split | simp only [])
instance (t : TypeId) (v : Value) (x y z : Option Value) : Stdy P (Instr.sliceAt t v x y z) := ⟨steady_sliceAt t v x y z⟩
theorem steady_makeInterface (t : TypeId) (v : Value) : zq2 P (Instr.makeInterface t v) := by
 unfold Instr.makeInterface
 repeat' (first | with_reducible exact Stdy.out | with_reducible refine zq5 ?_ | with_reducible refine zq6 ?_ (fun _ => ?_) | with_reducible refine zq3 ?_ (fun _ => ?_) | exact fun _ _ => rfl | split | simp only [])
instance (t : TypeId) (v : Value) : Stdy P (Instr.makeInterface t v) := ⟨steady_makeInterface t v⟩
theorem steady_makeFunc (f : Fn) (a b : Array Value) : zq2 P (Instr.makeFunc f a b) := by
 unfold Instr.makeFunc
 repeat' (first | with_reducible exact Stdy.out | with_reducible refine zq5 ?_ | with_reducible refine zq6 ?_ (fun _ => ?_) | with_reducible refine zq3 ?_ (fun _ => ?_) | exact fun _ _ => rfl | split | simp only [])
instance (f : Fn) (a b : Array Value) : Stdy P (Instr.makeFunc f a b) := ⟨steady_makeFunc f a b⟩
theorem steady_makeChan (t : TypeId) (v : Value) : zq2 P (Instr.makeChan t v) := by
 unfold Instr.makeChan
 repeat' (first | with_reducible exact Stdy.out | with_reducible refine zq5 ?_ | with_reducible refine zq6 ?_ (fun _ => ?_) | with_reducible refine zq3 ?_ (fun _ => ?_) | exact fun _ _ => rfl | split | simp only [])
instance (t : TypeId) (v : Value) : Stdy P (Instr.makeChan t v) := ⟨steady_makeChan t v⟩
theorem steady_askRoom (n : Nat) : zq2 P (askRoom n) := by
 unfold askRoom
 repeat' (first | with_reducible exact Stdy.out | with_reducible refine zq5 ?_ | with_reducible refine zq6 ?_ (fun _ => ?_) | with_reducible refine zq3 ?_ (fun _ => ?_) | exact fun _ _ => rfl | split | simp only [])
instance (n : Nat) : Stdy P (askRoom n) := ⟨steady_askRoom n⟩
theorem steady_makeSlice (t : TypeId) (a b : Value) : zq2 P (Instr.makeSlice t a b) := by
 unfold Instr.makeSlice
 repeat' (first | with_reducible exact Stdy.out | with_reducible refine zq5 ?_ | with_reducible refine zq6 ?_ (fun _ => ?_) | with_reducible refine zq3 ?_ (fun _ => ?_) | exact fun _ _ => rfl | split | simp only [])
instance (t : TypeId) (a b : Value) : Stdy P (Instr.makeSlice t a b) := ⟨steady_makeSlice t a b⟩
theorem steady_field (t : TypeId) (v : Value) (i : Nat) : zq2 P (Instr.field t v i) := by
 unfold Instr.field
 repeat' (first | with_reducible exact Stdy.out | with_reducible refine zq5 ?_ | with_reducible refine zq6 ?_ (fun _ => ?_) | with_reducible refine zq3 ?_ (fun _ => ?_) | exact fun _ _ => rfl | split | simp only [])
instance (t : TypeId) (v : Value) (i : Nat) : Stdy P (Instr.field t v i) := ⟨steady_field t v i⟩
theorem steady_index (t : TypeId) (v x : Value) : zq2 P (Instr.index t v x) := by
 unfold Instr.index
 repeat' (first | with_reducible exact Stdy.out | with_reducible refine zq5 ?_ | with_reducible refine zq6 ?_ (fun _ => ?_) | with_reducible refine zq3 ?_ (fun _ => ?_) | exact fun _ _ => rfl | split | simp only [])
instance (t : TypeId) (v x : Value) : Stdy P (Instr.index t v x) := ⟨steady_index t v x⟩
theorem steady_extract (v : Value) (i : Nat) : zq2 P (Instr.extract v i) := by
 unfold Instr.extract
 repeat' (first | with_reducible exact Stdy.out | with_reducible refine zq5 ?_ | with_reducible refine zq6 ?_ (fun _ => ?_) | with_reducible refine zq3 ?_ (fun _ => ?_) | exact fun _ _ => rfl | split | simp only [])
instance (v : Value) (i : Nat) : Stdy P (Instr.extract v i) := ⟨steady_extract v i⟩
theorem steady_typeAssert (v : Value) (t u : TypeId) (b : Bool) : zq2 P (Instr.typeAssert v t u b) := by
 unfold Instr.typeAssert
 repeat' (first | with_reducible exact Stdy.out | with_reducible refine zq5 ?_ | with_reducible refine zq6 ?_ (fun _ => ?_) | with_reducible refine zq3 ?_ (fun _ => ?_) | exact fun _ _ => rfl | split | simp only [])
instance (v : Value) (t u : TypeId) (b : Bool) : Stdy P (Instr.typeAssert v t u b) := ⟨steady_typeAssert v t u b⟩
theorem steady_intArith (o : BinOp) (k : IntKind) (x y : Int) : zq2 P (Op.intArith o k x y) := by
 unfold Op.intArith
 repeat' (first | with_reducible exact Stdy.out | with_reducible refine zq5 ?_ | with_reducible refine zq6 ?_ (fun _ => ?_) | with_reducible refine zq3 ?_ (fun _ => ?_) | exact fun _ _ => rfl | split | simp only [])
instance (o : BinOp) (k : IntKind) (x y : Int) : Stdy P (Op.intArith o k x y) := ⟨steady_intArith o k x y⟩
theorem steady_intDiv (o : BinOp) (k : IntKind) (x y : Int) : zq2 P (Op.intDiv o k x y) := by
 unfold Op.intDiv
 repeat' (first | with_reducible exact Stdy.out | with_reducible refine zq5 ?_ | with_reducible refine zq6 ?_ (fun _ => ?_) | with_reducible refine zq3 ?_ (fun _ => ?_) | exact fun _ _ => rfl | split | simp only [])
instance (o : BinOp) (k : IntKind) (x y : Int) : Stdy P (Op.intDiv o k x y) := ⟨steady_intDiv o k x y⟩
theorem steady_intBits (o : BinOp) (k : IntKind) (x y : Int) : zq2 P (Op.intBits o k x y) := by
 unfold Op.intBits
 repeat' (first | with_reducible exact Stdy.out | with_reducible refine zq5 ?_ | with_reducible refine zq6 ?_ (fun _ => ?_) | with_reducible refine zq3 ?_ (fun _ => ?_) | exact fun _ _ => rfl | split | simp only [])
instance (o : BinOp) (k : IntKind) (x y : Int) : Stdy P (Op.intBits o k x y) := ⟨steady_intBits o k x y⟩
theorem steady_intCmp (o : BinOp) (x y : Int) : zq2 P (Op.intCmp o x y) := by
 unfold Op.intCmp
 repeat' (first | with_reducible exact Stdy.out | with_reducible refine zq5 ?_ | with_reducible refine zq6 ?_ (fun _ => ?_) | with_reducible refine zq3 ?_ (fun _ => ?_) | exact fun _ _ => rfl | split | simp only [])
instance (o : BinOp) (x y : Int) : Stdy P (Op.intCmp o x y) := ⟨steady_intCmp o x y⟩
theorem steady_shift (o : BinOp) (k : IntKind) (x : Int) (l : IntKind) (y : Int) : zq2 P (Op.shift o k x l y) := by
 unfold Op.shift
 repeat' (first | with_reducible exact Stdy.out | with_reducible refine zq5 ?_ | with_reducible refine zq6 ?_ (fun _ => ?_) | with_reducible refine zq3 ?_ (fun _ => ?_) | exact fun _ _ => rfl | split | simp only [])
instance (o : BinOp) (k : IntKind) (x : Int) (l : IntKind) (y : Int) : Stdy P (Op.shift o k x l y) := ⟨steady_shift o k x l y⟩
theorem steady_floatArith (o : BinOp) (k : FloatKind) (x y : Nat) : zq2 P (Op.floatArith o k x y) := by
 unfold Op.floatArith
 repeat' (first | with_reducible exact Stdy.out | with_reducible refine zq5 ?_ | with_reducible refine zq6 ?_ (fun _ => ?_) | with_reducible refine zq3 ?_ (fun _ => ?_) | exact fun _ _ => rfl | split | simp only [])
instance (o : BinOp) (k : FloatKind) (x y : Nat) : Stdy P (Op.floatArith o k x y) := ⟨steady_floatArith o k x y⟩
theorem steady_floatCmp (o : BinOp) (k : FloatKind) (x y : Nat) : zq2 P (Op.floatCmp o k x y) := by
 unfold Op.floatCmp
 repeat' (first | with_reducible exact Stdy.out | with_reducible refine zq5 ?_ | with_reducible refine zq6 ?_ (fun _ => ?_) | with_reducible refine zq3 ?_ (fun _ => ?_) | exact fun _ _ => rfl | split | simp only [])
instance (o : BinOp) (k : FloatKind) (x y : Nat) : Stdy P (Op.floatCmp o k x y) := ⟨steady_floatCmp o k x y⟩
theorem steady_stringOp (o : BinOp) (x y : ByteArray) : zq2 P (Op.stringOp o x y) := by
 unfold Op.stringOp
 repeat' (first | with_reducible exact Stdy.out | with_reducible refine zq5 ?_ | with_reducible refine zq6 ?_ (fun _ => ?_) | with_reducible refine zq3 ?_ (fun _ => ?_) | exact fun _ _ => rfl | split | simp only [])
instance (o : BinOp) (x y : ByteArray) : Stdy P (Op.stringOp o x y) := ⟨steady_stringOp o x y⟩
theorem steady_floatToFloat (k : FloatKind) (x : Nat) (l : FloatKind) : zq2 P (Conv.floatToFloat k x l) := by
 unfold Conv.floatToFloat
 repeat' (first | with_reducible exact Stdy.out | with_reducible refine zq5 ?_ | with_reducible refine zq6 ?_ (fun _ => ?_) | with_reducible refine zq3 ?_ (fun _ => ?_) | exact fun _ _ => rfl | split | simp only [])
instance (k : FloatKind) (x : Nat) (l : FloatKind) : Stdy P (Conv.floatToFloat k x l) := ⟨steady_floatToFloat k x l⟩
theorem steady_carith (o : BinOp) (k : FloatKind) (x y : Nat) : zq2 P (Op.Complex.arith o k x y) := by
 unfold Op.Complex.arith
 repeat' (first | with_reducible exact Stdy.out | with_reducible refine zq5 ?_ | with_reducible refine zq6 ?_ (fun _ => ?_) | with_reducible refine zq3 ?_ (fun _ => ?_) | exact fun _ _ => rfl | split | simp only [])
instance (o : BinOp) (k : FloatKind) (x y : Nat) : Stdy P (Op.Complex.arith o k x y) := ⟨steady_carith o k x y⟩
theorem steady_ccmp (o : BinOp) (k : FloatKind) (x y : Nat) : zq2 P (Op.Complex.cmp o k x y) := by
 unfold Op.Complex.cmp
 repeat' (first | with_reducible exact Stdy.out | with_reducible refine zq5 ?_ | with_reducible refine zq6 ?_ (fun _ => ?_) | with_reducible refine zq3 ?_ (fun _ => ?_) | exact fun _ _ => rfl | split | simp only [])
instance (o : BinOp) (k : FloatKind) (x y : Nat) : Stdy P (Op.Complex.cmp o k x y) := ⟨steady_ccmp o k x y⟩
theorem steady_cconv (k : FloatKind) (x : Nat) (l : FloatKind) : zq2 P (Op.Complex.conv k x l) := by
 unfold Op.Complex.conv
 repeat' (first | with_reducible exact Stdy.out | with_reducible refine zq5 ?_ | with_reducible refine zq6 ?_ (fun _ => ?_) | with_reducible refine zq3 ?_ (fun _ => ?_) | exact fun _ _ => rfl | split | simp only [])
instance (k : FloatKind) (x : Nat) (l : FloatKind) : Stdy P (Op.Complex.conv k x l) := ⟨steady_cconv k x l⟩
theorem steady_cadd (x y : Nat) : zq2 P (Op.Complex.add x y) := by
 unfold Op.Complex.add
 repeat' (first | with_reducible exact Stdy.out | with_reducible refine zq5 ?_ | with_reducible refine zq6 ?_ (fun _ => ?_) | with_reducible refine zq3 ?_ (fun _ => ?_) | exact fun _ _ => rfl | split | simp only [])
instance (x y : Nat) : Stdy P (Op.Complex.add x y) := ⟨steady_cadd x y⟩
theorem steady_csub (x y : Nat) : zq2 P (Op.Complex.sub x y) := by
 unfold Op.Complex.sub
 repeat' (first | with_reducible exact Stdy.out | with_reducible refine zq5 ?_ | with_reducible refine zq6 ?_ (fun _ => ?_) | with_reducible refine zq3 ?_ (fun _ => ?_) | exact fun _ _ => rfl | split | simp only [])
instance (x y : Nat) : Stdy P (Op.Complex.sub x y) := ⟨steady_csub x y⟩
theorem steady_cmul (x y : Nat) : zq2 P (Op.Complex.mul x y) := by
 unfold Op.Complex.mul
 repeat' (first | with_reducible exact Stdy.out | with_reducible refine zq5 ?_ | with_reducible refine zq6 ?_ (fun _ => ?_) | with_reducible refine zq3 ?_ (fun _ => ?_) | exact fun _ _ => rfl | split | simp only [])
instance (x y : Nat) : Stdy P (Op.Complex.mul x y) := ⟨steady_cmul x y⟩
theorem steady_cquo (x y : Nat) : zq2 P (Op.Complex.quo x y) := by
 unfold Op.Complex.quo
 repeat' (first | with_reducible exact Stdy.out | with_reducible refine zq5 ?_ | with_reducible refine zq6 ?_ (fun _ => ?_) | with_reducible refine zq3 ?_ (fun _ => ?_) | exact fun _ _ => rfl | split | simp only [])
instance (x y : Nat) : Stdy P (Op.Complex.quo x y) := ⟨steady_cquo x y⟩
theorem steady_product (a b c d : Nat) : zq2 P (Op.Complex.product a b c d) := by
 unfold Op.Complex.product
 repeat' (first | with_reducible exact Stdy.out | with_reducible refine zq5 ?_ | with_reducible refine zq6 ?_ (fun _ => ?_) | with_reducible refine zq3 ?_ (fun _ => ?_) | exact fun _ _ => rfl | split | simp only [])
instance (a b c d : Nat) : Stdy P (Op.Complex.product a b c d) := ⟨steady_product a b c d⟩
theorem steady_corrected (s a b c d : Nat) : zq2 P (Op.Complex.corrected s a b c d) := by
 unfold Op.Complex.corrected
 repeat' (first | with_reducible exact Stdy.out | with_reducible refine zq5 ?_ | with_reducible refine zq6 ?_ (fun _ => ?_) | with_reducible refine zq3 ?_ (fun _ => ?_) | exact fun _ _ => rfl | split | simp only [])
instance (s a b c d : Nat) : Stdy P (Op.Complex.corrected s a b c d) := ⟨steady_corrected s a b c d⟩
theorem steady_quotient (a b c d : Nat) : zq2 P (Op.Complex.quotient a b c d) := by
 unfold Op.Complex.quotient
 repeat' (first | with_reducible exact Stdy.out | with_reducible refine zq5 ?_ | with_reducible refine zq6 ?_ (fun _ => ?_) | with_reducible refine zq3 ?_ (fun _ => ?_) | exact fun _ _ => rfl | split | simp only [])
instance (a b c d : Nat) : Stdy P (Op.Complex.quotient a b c d) := ⟨steady_quotient a b c d⟩
theorem steady_complexOp (o : BinOp) (k : FloatKind) (a b c d : Nat) : zq2 P (Op.complexOp o k a b c d) := by
 unfold Op.complexOp
 repeat' (first | with_reducible exact Stdy.out | with_reducible refine zq5 ?_ | with_reducible refine zq6 ?_ (fun _ => ?_) | with_reducible refine zq3 ?_ (fun _ => ?_) | exact fun _ _ => rfl | split | simp only [])
instance (o : BinOp) (k : FloatKind) (a b c d : Nat) : Stdy P (Op.complexOp o k a b c d) := ⟨steady_complexOp o k a b c d⟩
theorem steady_numberAt (r : Nat) : zq2 P (numberAt r) := by
 unfold numberAt
 refine zq6 (fun e n => rfl) fun x => ?_
 repeat' (first | with_reducible exact Stdy.out | with_reducible refine zq5 ?_ | with_reducible refine zq6 ?_ (fun _ => ?_) | with_reducible refine zq3 ?_ (fun _ => ?_) | exact fun _ _ => rfl | split | simp only [])
instance (r : Nat) : Stdy P (numberAt r) := ⟨steady_numberAt r⟩
theorem steady_behindNumber (a : Addr) : zq2 P (behindNumber a) := by
 unfold behindNumber
 repeat' (first | with_reducible exact Stdy.out | with_reducible refine zq5 ?_ | with_reducible refine zq6 ?_ (fun _ => ?_) | with_reducible refine zq3 ?_ (fun _ => ?_) | exact fun _ _ => rfl | split | simp only [])
instance (a : Addr) : Stdy P (behindNumber a) := ⟨steady_behindNumber a⟩
theorem steady_asNumber (a : Addr) (b : Bool) : zq2 P (asNumber a b) := by
 unfold asNumber
 repeat' (first | with_reducible exact Stdy.out | with_reducible refine zq5 ?_ | with_reducible refine zq6 ?_ (fun _ => ?_) | with_reducible refine zq3 ?_ (fun _ => ?_) | exact fun _ _ => rfl | split | simp only [])
instance (a : Addr) (b : Bool) : Stdy P (asNumber a b) := ⟨steady_asNumber a b⟩
theorem runT_stringish (w : World) (es : Array Event) (a : Addr) : (stringish a).runT P w es = (.ok (w.frozen? a || match w.shape? a.block with | some (_, n) => w.frozen? ⟨a.block, n, none⟩ | none => false) w, es) := by
 unfold stringish
 have e : (frozen a).runT P w es = (.ok (w.frozen? a) w, es) := rfl
 rw [runT_bind, e]
 simp only []
 cases hf : w.frozen? a with
 | true => rfl
 | false =>
  simp only [Bool.false_eq_true, if_false, Bool.false_or]
  show ((match w.shape? a.block with | some (_, n) => frozen { block := a.block, off := n } | none => pure false : Sem Bool)).runT P w es = _
  cases w.shape? a.block with
  | none => rfl
  | some x => rfl
def strB (w : World) (a : Addr) : Bool := w.frozen? a || match w.shape? a.block with | some (_, n) => w.frozen? ⟨a.block, n, none⟩ | none => false
def noneB (w : World) (a : Addr) : Bool := match w.shape? a.block with | some (_, 0) => true | _ => false
theorem strB_cut {X : Snap} {w wc : World} (h : Cut X w wc) (a : Addr) : strB wc a = strB w a := by
 unfold strB
 rw [h.frozen]
 cases hx : X a.block with
 | none => rw [h.shape_out hx]; congr 1; split <;> first | exact h.frozen _ | rfl
 | some x =>
  obtain ⟨c, e⟩ := x
  obtain ⟨h1, h2⟩ := h.shape_in hx
  rw [h1, h2]
  simp only []
  rw [h.frozen, h.frozen_in (a := ⟨a.block, 0, none⟩) hx, h.frozen_in (a := ⟨a.block, c.size, none⟩) hx]
theorem strB_in {X : Snap} {w wc : World} (h : Cut X w wc) {a : Addr} {x} (hx : X a.block = some x) : strB w a = false := by
 obtain ⟨c, e⟩ := x
 unfold strB
 rw [h.frozen_in hx, (h.shape_in hx).1]
 simp only [Bool.false_or]
 exact h.frozen_in (a := ⟨a.block, c.size, none⟩) hx
theorem runT_mayBeOne (w : World) (es : Array Event) (a b : Addr) : (mayBeOne a b).runT P w es = (.ok ((strB w a && strB w b) || (strB w a && noneB w a) || (strB w b && noneB w b)) w, es) := by
 unfold mayBeOne
 simp only []
 rw [runT_bind, runT_stringish]
 simp only []
 rw [runT_bind, runT_stringish]
 simp only []
 rfl
theorem steady_mayBeOne (a b : Addr) : zq2 P (mayBeOne a b) := by
 intro X w wc es h hfit
 rw [runT_mayBeOne, runT_mayBeOne]
 refine ⟨w, h, ?_, fun e he => .inl he⟩
 rw [strB_cut h, strB_cut h]
 have key : ∀ a : Addr, (strB w a && noneB wc a) = (strB w a && noneB w a) := fun a => by
  cases hx : X a.block with
  | none => unfold noneB; rw [h.shape_out hx]
  | some x => rw [strB_in h hx]; rfl
 rw [key, key]
 rfl
instance (a b : Addr) : Stdy P (mayBeOne a b) := ⟨steady_mayBeOne a b⟩
theorem steady_sameAddr (a b : Addr) : zq2 P (sameAddr a b) := by
 unfold sameAddr
 repeat' (first | with_reducible exact Stdy.out | with_reducible refine zq5 ?_ | with_reducible refine zq6 ?_ (fun _ => ?_) | with_reducible refine zq3 ?_ (fun _ => ?_) | exact fun _ _ => rfl | split | simp only [])
instance (a b : Addr) : Stdy P (sameAddr a b) := ⟨steady_sameAddr a b⟩
theorem steady_samePointer (a b : Option Addr) : zq2 P (samePointer a b) := by
 unfold samePointer
 repeat' (first | with_reducible exact Stdy.out | with_reducible refine zq5 ?_ | with_reducible refine zq6 ?_ (fun _ => ?_) | with_reducible refine zq3 ?_ (fun _ => ?_) | exact fun _ _ => rfl | split | simp only [])
instance (a b : Option Addr) : Stdy P (samePointer a b) := ⟨steady_samePointer a b⟩
theorem steady_twoPlaces (a b : Addr) : zq2 P (Op.twoPlaces a b) := by
 unfold Op.twoPlaces
 repeat' (first | with_reducible exact Stdy.out | with_reducible refine zq5 ?_ | with_reducible refine zq6 ?_ (fun _ => ?_) | with_reducible refine zq3 ?_ (fun _ => ?_) | exact fun _ _ => rfl | split | simp only [])
instance (a b : Addr) : Stdy P (Op.twoPlaces a b) := ⟨steady_twoPlaces a b⟩
theorem steady_addrSub (k : IntKind) (a b : Addr) : zq2 P (Op.addrSub k a b) := by
 unfold Op.addrSub
 repeat' (first | with_reducible exact Stdy.out | with_reducible refine zq5 ?_ | with_reducible refine zq6 ?_ (fun _ => ?_) | with_reducible refine zq3 ?_ (fun _ => ?_) | exact fun _ _ => rfl | split | simp only [])
instance (k : IntKind) (a b : Addr) : Stdy P (Op.addrSub k a b) := ⟨steady_addrSub k a b⟩
theorem steady_addrCmp (o : BinOp) (a b : Addr) : zq2 P (Op.addrCmp o a b) := by
 unfold Op.addrCmp
 repeat' (first | with_reducible exact Stdy.out | with_reducible refine zq5 ?_ | with_reducible refine zq6 ?_ (fun _ => ?_) | with_reducible refine zq3 ?_ (fun _ => ?_) | exact fun _ _ => rfl | split | simp only [])
instance (o : BinOp) (a b : Addr) : Stdy P (Op.addrCmp o a b) := ⟨steady_addrCmp o a b⟩
theorem steady_addrMod (k : IntKind) (a : Addr) (n : Int) : zq2 P (Op.addrMod k a n) := by
 unfold Op.addrMod
 refine zq6 (fun e n => rfl) fun x => ?_
 repeat' (first | with_reducible exact Stdy.out | with_reducible refine zq5 ?_ | with_reducible refine zq6 ?_ (fun _ => ?_) | with_reducible refine zq3 ?_ (fun _ => ?_) | exact fun _ _ => rfl | split | simp only [])
instance (k : IntKind) (a : Addr) (n : Int) : Stdy P (Op.addrMod k a n) := ⟨steady_addrMod k a n⟩
theorem steady_shapeD {r : Nat} {f : Option (TypeId × Nat) → Sem β} (he : ∀ e w es, ¬ fit ((f (some (e, 0))).runT P w es).1) (hf : ∀ x, zq2 P (f x)) : zq2 P (shape r >>= f) := by
 intro X w wc es h hfit
 have e1 : ∀ w, (shape r >>= f).runT P w es = (f (w.shape? r)).runT P w es := fun w => rfl
 rw [e1] at hfit
 rw [e1, e1]
 cases hx : X r with
 | none => rw [h.shape_out hx] at hfit ⊢; exact hf _ X w wc es h hfit
 | some x =>
  obtain ⟨c, e⟩ := x
  rw [(h.shape_in hx).2] at hfit
  exact absurd hfit (he _ _ _)
theorem cellAt_none (p : Program) (d : Nat) (e : TypeId) (off : Nat) (n : Int) : cellAtBytes p d e 0 off n = none := by
 unfold cellAtBytes
 simp only [bind, Option.bind]
 split
 · rfl
 · split
   · rfl
   · simp only []
     rw [if_pos (by simp; omega)]
theorem steady_unsafeAdd (t : TypeId) (x : Option Addr) (y : Value) : zq2 P (Builtin.unsafeAdd_ #[] t #[.pointer x, y]) := by
 refine zq3 (s := asInt y) (steady_asInt y) (fun n => ?_)
 repeat' (first | with_reducible exact Stdy.out | with_reducible refine zq5 ?_ | with_reducible refine steady_shapeD ?_ (fun _ => ?_) | with_reducible refine zq3 ?_ (fun _ => ?_) | exact fun _ _ => rfl | split | simp only [])
 all_goals (intro e w es hfit; rw [runT_bind] at hfit; simp only [program, Sem.runT, Nat.zero_div, cellAt_none] at hfit; exact hfit)
theorem steady_unsafeAddV (t : TypeId) (x y : Value) : zq2 P (Builtin.unsafeAdd_ #[] t #[x, y]) := by
 cases x <;> first | exact steady_unsafeAdd _ _ _ | exact steady_halt _
instance (t : TypeId) (x y : Value) : Stdy P (Builtin.unsafeAdd_ #[] t #[x, y]) := ⟨steady_unsafeAddV t x y⟩
theorem steady_movedNumber (t : TypeId) (x y : Value) : zq2 P (movedNumber t x y) := by
 unfold movedNumber
 repeat' (first | with_reducible exact Stdy.out | with_reducible refine zq5 ?_ | with_reducible refine zq6 ?_ (fun _ => ?_) | with_reducible refine zq3 ?_ (fun _ => ?_) | exact fun _ _ => rfl | split | simp only [])
instance (t : TypeId) (x y : Value) : Stdy P (movedNumber t x y) := ⟨steady_movedNumber t x y⟩
theorem steady_movedPointer (t : TypeId) (x y : Value) : zq2 P (movedPointer t x y) := by
 unfold movedPointer
 repeat' (first | with_reducible exact Stdy.out | with_reducible refine zq5 ?_ | with_reducible refine zq6 ?_ (fun _ => ?_) | with_reducible refine zq3 ?_ (fun _ => ?_) | exact fun _ _ => rfl | split | simp only [])
instance (t : TypeId) (x y : Value) : Stdy P (movedPointer t x y) := ⟨steady_movedPointer t x y⟩
theorem steady_eqAddr (a b : Addr) : zq2 P ((do pure ((← byteOf a) == (← byteOf b)) : Sem Bool)) := by
 repeat' (first | with_reducible exact Stdy.out | with_reducible refine zq5 ?_ | with_reducible refine zq6 ?_ (fun _ => ?_) | with_reducible refine zq3 ?_ (fun _ => ?_) | exact fun _ _ => rfl | split | simp only [])
instance (a b : Addr) : Stdy P ((do pure ((← byteOf a) == (← byteOf b)) : Sem Bool)) := ⟨steady_eqAddr a b⟩
theorem steady_forIn {γ δ : Type} (l : List γ) (b : δ) (f : γ → δ → Sem (ForInStep δ)) (h : ∀ a b, zq2 P (f a b)) : zq2 P (forIn l b f) := by
 induction l generalizing b with
 | nil => exact steady_pure _
 | cons a l ih =>
  rw [List.forIn_cons]
  refine zq3 (h a b) fun r => ?_
  cases r with
  | done b => exact steady_pure _
  | yield b => exact ih b
theorem steady_forInA {γ δ : Type} (l : Array γ) (b : δ) (f : γ → δ → Sem (ForInStep δ)) (h : ∀ a b, zq2 P (f a b)) : zq2 P (forIn l b f) := by
 rw [← Array.forIn_toList]; exact steady_forIn _ _ _ h
theorem steady_forInR {δ : Type} (r : Std.Legacy.Range) (b : δ) (f : Nat → δ → Sem (ForInStep δ)) (h : ∀ a b, zq2 P (f a b)) : zq2 P (forIn r b f) := by
 rw [Std.Legacy.Range.forIn_eq_forIn_range']; exact steady_forIn _ _ _ h
theorem steady_equalIn : ∀ (d : Nat) (t : TypeId) (x y : Value), zq2 P (Op.equalIn d t x y)
 | 0, _, _, _ => steady_halt _
 | d + 1, t, x, y => by
  have ih := fun t x y => steady_equalIn d t x y
  unfold Op.equalIn
  refine zq3 (steady_underlying _) (fun k => ?_)
  repeat' (first | with_reducible exact Stdy.out | with_reducible refine zq5 ?_ | with_reducible refine zq6 ?_ (fun _ => ?_) | with_reducible refine zq3 ?_ (fun _ => ?_) | exact fun _ _ => rfl | split | simp only [] | with_reducible exact ih _ _ _ | refine steady_forInA _ _ _ (fun _ _ => ?_) | refine steady_forInR _ _ _ (fun _ _ => ?_))
theorem steady_eqGuardIn : ∀ (d : Nat) (t : TypeId) (x y : Value), zq2 P (Op.eqGuardIn d t x y)
 | 0, _, _, _ => steady_halt _
 | d + 1, t, x, y => by
  have ih := fun t x y => steady_eqGuardIn d t x y
  unfold Op.eqGuardIn
  refine zq3 (steady_underlying _) (fun k => ?_)
  repeat' (first | with_reducible exact Stdy.out | with_reducible refine zq5 ?_ | with_reducible refine zq6 ?_ (fun _ => ?_) | with_reducible refine zq3 ?_ (fun _ => ?_) | exact fun _ _ => rfl | split | simp only [] | with_reducible exact ih _ _ _ | refine steady_forInA _ _ _ (fun _ _ => ?_) | refine steady_forInR _ _ _ (fun _ _ => ?_))
instance (d : Nat) (t : TypeId) (x y : Value) : Stdy P (Op.eqGuardIn d t x y) := ⟨steady_eqGuardIn d t x y⟩
instance (t : TypeId) (x y : Value) : Stdy P (Op.equal t x y) := ⟨steady_equalIn _ t x y⟩
theorem steady_eqGuard (o : BinOp) (t : TypeId) (x y : Operand) (a b : Value) : zq2 P (eqGuard o t x y a b) := by
 unfold eqGuard
 repeat' (first | with_reducible exact Stdy.out | with_reducible refine zq5 ?_ | with_reducible refine zq6 ?_ (fun _ => ?_) | with_reducible refine zq3 ?_ (fun _ => ?_) | exact fun _ _ => rfl | split | simp only [])
instance (o : BinOp) (t : TypeId) (x y : Operand) (a b : Value) : Stdy P (eqGuard o t x y a b) := ⟨steady_eqGuard o t x y a b⟩
theorem steady_binOp (o : BinOp) (t : TypeId) (x y : Value) : zq2 P (binOp o t x y) := by
 unfold binOp
 repeat' (first | with_reducible exact Stdy.out | with_reducible refine zq5 ?_ | with_reducible refine zq6 ?_ (fun _ => ?_) | with_reducible refine zq3 ?_ (fun _ => ?_) | exact fun _ _ => rfl | split | simp only [])
instance (o : BinOp) (t : TypeId) (x y : Value) : Stdy P (binOp o t x y) := ⟨steady_binOp o t x y⟩
theorem steady_unary (o : UnOp) (x : Value) : zq2 P (Op.unary o x) := by
 unfold Op.unary
 repeat' (first | with_reducible exact Stdy.out | with_reducible refine zq5 ?_ | with_reducible refine zq6 ?_ (fun _ => ?_) | with_reducible refine zq3 ?_ (fun _ => ?_) | exact fun _ _ => rfl | split | simp only [])
instance (o : UnOp) (x : Value) : Stdy P (Op.unary o x) := ⟨steady_unary o x⟩
theorem steady_lenOf (x : Value) : zq2 P (Builtin.lenOf x) := by
 unfold Builtin.lenOf
 repeat' (first | with_reducible exact Stdy.out | with_reducible refine zq5 ?_ | with_reducible refine zq6 ?_ (fun _ => ?_) | with_reducible refine zq3 ?_ (fun _ => ?_) | exact fun _ _ => rfl | split | simp only [])
instance (x : Value) : Stdy P (Builtin.lenOf x) := ⟨steady_lenOf x⟩
theorem steady_firstCells (s n : Nat) (x : Value) : zq2 P (Builtin.firstCells s n x) := by
 unfold Builtin.firstCells
 repeat' (first | with_reducible exact Stdy.out | with_reducible refine zq5 ?_ | with_reducible refine zq6 ?_ (fun _ => ?_) | with_reducible refine zq3 ?_ (fun _ => ?_) | exact fun _ _ => rfl | split | simp only [])
instance (s n : Nat) (x : Value) : Stdy P (Builtin.firstCells s n x) := ⟨steady_firstCells s n x⟩
theorem steady_under {t : TypeId} {f : TypeDesc → Sem α} (h : ∀ d, P.underlying t = some d → zq2 P (f d)) : zq2 P (do let d ← underlying t; f d) := by
 intro X w wc es hc hfit
 have e : ∀ w, (do let d ← underlying t; f d : Sem α).runT P w es = (match P.underlying t with | some d => (f d).runT P w es | none => (.halt (.stuck "no such type") w, es)) := by
  intro w
  rw [runT_bind]
  have : (underlying t).runT P w es = (match P.underlying t with | some d => (.ok d w, es) | none => (.halt (.stuck "no such type") w, es)) := by
   unfold underlying
   show ((match P.underlying t with | some d => pure d | none => stuck "no such type" : Sem TypeDesc)).runT P w es = _
   cases P.underlying t <;> rfl
  rw [this]
  cases P.underlying t <;> rfl
 rw [e] at hfit
 rw [e, e]
 cases hd : P.underlying t with
 | none => rw [hd] at hfit; exact hfit.elim
 | some d => rw [hd] at hfit; exact h d hd X w wc es hc hfit
def NoPanic {α : Type} (P : Program) (s : Sem α) : Prop := ∀ w es v w', (s.runT P w es).1 ≠ .halt (.panic v) w'
theorem steady_dead {s : Sem α} {f : α → Sem β} (hs : NoPanic P s) (hf : ∀ a w es, ¬ fit ((f a).runT P w es).1) : zq2 P (s >>= f) := by
 intro X w wc es h hfit
 rw [runT_bind] at hfit
 have := hs wc es
 generalize s.runT P wc es = r at this hfit
 obtain ⟨r, es'⟩ := r
 cases r with
 | ok a w' => exact absurd hfit (hf a w' es')
 | halt x w' => cases x <;> first | exact absurd rfl (this _ _) | exact hfit.elim
theorem np_holds (a : Addr) (n : Nat) (w : World) (es : Array Event) : ∃ b, (Builtin.holdsCells a n).runT P w es = (.ok b w, es) := by
 unfold Builtin.holdsCells
 show ∃ b, ((match w.shape? a.block with | some (_, m) => pure (a.spot.isNone && a.off + n ≤ m) | none => pure false : Sem Bool)).runT P w es = _
 cases w.shape? a.block <;> exact ⟨_, rfl⟩
theorem np_mayShare (s n m : Nat) (b : Option Addr) (x : Value) (w : World) (es : Array Event) : ∃ y, (Builtin.mayShare s n m b x).runT P w es = (.ok y w, es) := by
 unfold Builtin.mayShare
 have tail : ∀ t : Bool, ∃ y, ((if (!t) = true then pure true else match x with | .slice (some c) _ _ => (do pure (!(← Builtin.holdsCells c (m * s)) || b.any (·.block == c.block))) | _ => pure false : Sem Bool)).runT P w es = (.ok y w, es) := by
  intro t
  cases t with
  | false => exact ⟨true, rfl⟩
  | true =>
   simp only [Bool.not_true, Bool.false_eq_true, if_false]
   split
   · rename_i c _ _
     obtain ⟨y, hy⟩ := np_holds (P := P) c (m * s) w es
     rw [runT_bind, hy]
     exact ⟨_, rfl⟩
   · exact ⟨_, rfl⟩
 cases b with
 | none => exact tail true
 | some a =>
  obtain ⟨y, hy⟩ := np_holds (P := P) a (n * s) w es
  rw [runT_bind, hy]
  exact tail _
theorem steady_len (l : Array TypeId) (t : TypeId) (a : Array Value) : zq2 P (Builtin.len_ l t a) := by
 unfold Builtin.len_
 repeat' (first | with_reducible exact Stdy.out | with_reducible refine zq5 ?_ | with_reducible refine zq6 ?_ (fun _ => ?_) | with_reducible refine zq3 ?_ (fun _ => ?_) | exact fun _ _ => rfl | split | simp only [])
theorem steady_min2 (x y : Value) : zq2 P (Builtin.min2 x y) := by
 unfold Builtin.min2
 repeat' (first | with_reducible exact Stdy.out | with_reducible refine zq5 ?_ | with_reducible refine zq6 ?_ (fun _ => ?_) | with_reducible refine zq3 ?_ (fun _ => ?_) | exact fun _ _ => rfl | split | simp only [])
theorem steady_max2 (x y : Value) : zq2 P (Builtin.max2 x y) := by
 unfold Builtin.max2
 repeat' (first | with_reducible exact Stdy.out | with_reducible refine zq5 ?_ | with_reducible refine zq6 ?_ (fun _ => ?_) | with_reducible refine zq3 ?_ (fun _ => ?_) | exact fun _ _ => rfl | split | simp only [])
theorem steady_foldlM {γ : Type} (f : Value → γ → Sem Value) (h : ∀ a b, zq2 P (f a b)) (l : List γ) : ∀ (b : Value), zq2 P (l.foldlM f b) := by
 induction l with
 | nil => exact fun b => steady_pure _
 | cons a l ih => intro b; rw [List.foldlM_cons]; exact zq3 (h b a) fun _ => ih _
theorem steady_min (l : Array TypeId) (t : TypeId) (a : Array Value) : zq2 P (Builtin.min_ l t a) := by
 unfold Builtin.min_
 split
 · exact steady_halt _
 · exact steady_foldlM _ (fun _ _ => steady_min2 _ _) _ _
theorem steady_max (l : Array TypeId) (t : TypeId) (a : Array Value) : zq2 P (Builtin.max_ l t a) := by
 unfold Builtin.max_
 split
 · exact steady_halt _
 · exact steady_foldlM _ (fun _ _ => steady_max2 _ _) _ _
theorem steady_followBlind : ∀ (l : List FieldStep) (t : TypeId) (x : Option Value), zq2 P (followBlind l t x)
 | [], _, _ => steady_pure _
 | s :: rest, t, x => by
  have ih := fun t x => steady_followBlind rest t x
  unfold followBlind
  repeat' (first | with_reducible exact Stdy.out | with_reducible refine zq5 ?_ | with_reducible refine zq6 ?_ (fun _ => ?_) | with_reducible refine zq3 ?_ (fun _ => ?_) | exact fun _ _ => rfl | split | simp only [] | with_reducible exact ih _ _)
theorem steady_nilAhead : ∀ (n : Nat) (t : TypeId) (x : Value) (s : String), zq2 P (nilAhead n t x s)
 | 0, _, _, _ => steady_pure _
 | n + 1, t, x, s => by
  have ih := fun t x s => steady_nilAhead n t x s
  unfold nilAhead
  repeat' (first | with_reducible exact Stdy.out | with_reducible refine zq5 ?_ | with_reducible refine zq6 ?_ (fun _ => ?_) | with_reducible refine zq3 ?_ (fun _ => ?_) | exact fun _ _ => rfl | split | simp only [] | with_reducible exact ih _ _ _ | with_reducible exact steady_followBlind _ _ _)
instance (n : Nat) (t : TypeId) (x : Value) (s : String) : Stdy P (nilAhead n t x s) := ⟨steady_nilAhead n t x s⟩
end
end Go.Car
set_option maxHeartbeats 1000000
namespace Go.Car
open Go Go.Conc Go.RowKit
section
variable {α β : Type} {P : Program} {A : FuncId → Bool}
theorem steady_share {γ : Type} {s n m : Nat} {b : Option Addr} {x : Value} {f : Bool → Sem γ} (hf : ∀ a w es, ¬ fit ((f a).runT P w es).1) : zq2 P (Builtin.mayShare s n m b x >>= f) := by
 refine steady_dead (fun w es v w' h => ?_) hf
 obtain ⟨y, hy⟩ := np_mayShare (P := P) s n m b x w es
 rw [hy] at h; cases h
theorem steady_append (l : Array TypeId) (t : TypeId) (a : Array Value) (hx : ∀ x, l[1]? = some x → ∀ k, P.underlying x ≠ some (.int k)) : zq2 P (Builtin.append_ l t a) := by
 unfold Builtin.append_
 split
 · refine zq3 (steady_underlying _) fun d => ?_
   split
   · split
     · refine zq3 (steady_sizeOf _) fun size => ?_
       simp only []
       cases e : l[1]? with
       | none =>
        simp only [Bool.false_eq_true, if_false, Bool.not_false, if_true, false_or, reduceIte, pure_bind]
        repeat' (first | with_reducible exact Stdy.out | with_reducible refine zq5 ?_ | with_reducible refine steady_share ?_ | with_reducible refine zq3 ?_ (fun _ => ?_) | split | simp only [])
        all_goals (intro x w es hfit; cases x <;> exact hfit)
       | some x =>
        refine steady_under fun d hd => ?_
        have hne := hx x e
        cases d <;> first
         | (rename_i k; exact absurd hd (hne k))
         | (clear hd hne e hx
            simp only [Bool.false_eq_true, if_false, Bool.not_false, if_true, false_or, reduceIte, pure_bind]
            repeat' (first | with_reducible exact Stdy.out | with_reducible refine zq5 ?_ | with_reducible refine steady_share ?_ | with_reducible refine zq3 ?_ (fun _ => ?_) | split | simp only [])
            all_goals (intro x w es hfit; cases x <;> exact hfit))
     · exact steady_halt _
   · exact steady_halt _
 · exact steady_halt _
theorem steady_convert {s d : TypeId} {k k' : IntKind} (hs : P.underlying s = some (.int k)) (hd : P.underlying d = some (.int k')) (x : Value) : zq2 P (convert s d x) := by
 refine steady_under fun a ha => ?_
 refine steady_under fun b hb => ?_
 rw [hs] at ha; rw [hd] at hb
 cases ha; cases hb
 split <;> first | exact steady_halt _ | exact steady_pure _ | contradiction | (unfold Conv.floatToInt; simp only []; repeat' (first | with_reducible exact Stdy.out | refine zq3 ?_ (fun _ => ?_) | split))
def RowsS (P : Program) (A : FuncId → Bool) : Prop := ∀ f, A f = true → ∀ fn e, P.funcs[f]? = some fn → fn.body = none → Extern.find fn = some e → ∀ args, zq2 P (e args)
theorem steady_prog {f : Program → Sem α} (h : zq2 P (f P)) : zq2 P (program >>= f) := by
 intro X w wc es hc hfit
 have e : ∀ w, (program >>= f).runT P w es = (f P).runT P w es := fun w => rfl
 rw [e] at hfit
 rw [e, e]
 exact h X w wc es hc hfit
theorem steady_v {s : Sem Value} (h : zq2 P s) : zq2 P (do pure (.value (← s)) : Sem Next) := zq3 h fun _ => steady_pure _
theorem callFunc_steady {f : FuncId} {args : Array Value} (hA : A f = true) (h : okFn P A f) (hR : RowsS P A) : zq2 P (callFunc f args) := by
 cases h with
 | text fn c hf hb hn hc =>
  unfold callFunc
  refine steady_prog ?_
  simp only [hf, hn, hb, Option.isNone_some, Bool.false_eq_true, if_false]
  exact steady_pure _
 | row fn e hf hb hn hx he ht =>
  unfold callFunc
  refine steady_prog ?_
  simp only [hf, hn, hb, hx, he, Option.isNone_none, Bool.false_eq_true, if_false, if_true]
  exact zq3 (steady_mark _) fun _ => steady_v (hR f hA fn e hf hb he args)
theorem execOp_steady (hA : ∀ f, A f = true → okFn P A f) (hR : RowsS P A) (o : Oper) (ho : okOp P A o.op = true) (ρ : Operand → Value) (hρ : ∀ f, ρ (.func f) = .func (.func f) #[] #[]) : zq2 P (execOp ρ o) := by
 obtain ⟨dst, op, type, pos, after, guard⟩ := o
 simp only at ho
 unfold execOp
 cases op <;> simp only [okOp, Bool.false_eq_true] at ho
 case convert s d x =>
  have : ∃ k k', P.underlying s = some (.int k) ∧ P.underlying d = some (.int k') := by
   simp only [Bool.and_eq_true] at ho
   obtain ⟨h1, h2⟩ := ho
   split at h1
   · split at h2
     · exact ⟨_, _, ‹_›, ‹_›⟩
     · cases h2
   · cases h1
  obtain ⟨k, k', hs, hd⟩ := this
  exact steady_v (steady_convert hs hd _)
 case call c =>
  obtain ⟨callee, args, argTypes⟩ := c
  simp only at ho
  cases callee with
  | invoke r m => simp at ho
  | value f =>
   cases f with
   | func f =>
    have hAf : A f = true := by simpa using ho
    simp only [resolve, hρ f]
    exact callFunc_steady hAf (hA f hAf) hR
   | _ => simp at ho
  | builtin b =>
   cases b <;> simp at ho
   case append =>
    have hx : ∀ x, argTypes[1]? = some x → ∀ k, P.underlying x ≠ some (.int k) := by
     intro x hx k hk
     rw [hx] at ho
     simp only [hk] at ho
     cases ho
    exact steady_v (steady_append _ _ _ hx)
   case len => exact steady_v (steady_len _ _ _)
   case max => exact steady_v (steady_max _ _ _)
   case min => exact steady_v (steady_min _ _ _)
 all_goals (simp only []; repeat' (first | with_reducible exact Stdy.out | with_reducible refine zq3 ?_ (fun _ => ?_) | split | simp only []))
end
set_option maxHeartbeats 2000000
def sfx (k : List Item) (ds : List Deferred) (kd : CallKind) (fr : Frame) : Frame := { fn := fr.fn, tmps := fr.tmps, todo := fr.todo ++ k, defers := ds, mode := fr.mode, kind := kd }
section
variable {P : Program} {A : FuncId → Bool} {k : List Item} {ds : List Deferred} {kd : CallKind}
theorem sfx_finish {fr : Frame} (hr : fr.roundOf = none) (hne : fr.todo ≠ []) (v : Value) : (sfx k ds kd fr).finish v = sfx k ds kd (fr.finish v) := by
 obtain ⟨fn, tmps, todo, defers, mode, kind, round⟩ := fr
 simp only at hr hne
 subst hr
 cases todo with
 | nil => exact absurd rfl hne
 | cons i t =>
  cases i with
  | inRegion ops l =>
   cases l with
   | nil => rfl
   | cons j r => simp [sfx, Frame.finish]
  | _ => rfl
theorem exitTo_append {id : Nat} {t t' : List Item} (h : exitTo id t = some t') : exitTo id (t ++ k) = some (t' ++ k) := by
 induction t with
 | nil => simp [exitTo] at h
 | cons x t ih =>
  cases x <;> simp only [exitTo, List.cons_append] at h ⊢
  case inBlock id' =>
   split at h
   · cases h; rename_i hh; simp [hh]
   · rename_i hh; simp only [hh, if_false]; exact ih h
  all_goals exact ih h
theorem exitTo_none {id : Nat} {t : List Item} (h : exitTo id t = none) (hk : exitTo id k = none) : exitTo id (t ++ k) = none := by
 induction t with
 | nil => exact hk
 | cons x t ih =>
  cases x <;> simp only [exitTo, List.cons_append] at h ⊢
  case inBlock id' =>
   split at h
   · cases h
   · rename_i hh; simp only [hh]; exact ih h
  all_goals exact ih h
inductive Told (P : Program) (main : Bool) (k : List Item) (ds : List Deferred) (kd : CallKind) (fr : Frame) (cs cs' : List Frame) (w : World) : GStep → Prop
 | same (fr' : Frame) (w' : World) (es : Array Event) (h : stepG P main (G (sfx k ds kd fr) cs') w = .go (G (sfx k ds kd fr') cs') w' es) (hr : fr'.roundOf = none) (hm : ∀ ch, fr'.mode ≠ .panicking ch) : Told P main k ds kd fr cs cs' w (.go (G fr' cs) w' es)
 | enter (g : Frame) (w' : World) (es : Array Event) (h : stepG P main (G (sfx k ds kd fr) cs') w = .go (G g (sfx k ds kd fr :: cs')) w' es) : Told P main k ds kd fr cs cs' w (.go (G g (fr :: cs)) w' es)
 | panics (fr' : Frame) (ch : List PanicEntry) (w' : World) (es : Array Event) (h : fr'.mode = .panicking ch) (hk : ∃ fr'' w'' es', stepG P main (G (sfx k ds kd fr) cs') w = .go (G fr'' cs') w'' es' ∧ fr''.mode = .panicking ch ∧ fr''.defers = ds) : Told P main k ds kd fr cs cs' w (.go (G fr' cs) w' es)
 | ends (o : Outcome) (w' : World) (es : Array Event) (hk : (∀ id, exitTo id k = none) → ∃ o w' es, stepG P main (G (sfx k ds kd fr) cs') w = .ended o w' es) : Told P main k ds kd fr cs cs' w (.ended o w' es)
theorem told_of {main : Bool} {fr fr' : Frame} {cs cs' : List Frame} {w : World} {s : GStep} (hs : s = .go (G fr' cs) w #[]) (h : stepG P main (G (sfx k ds kd fr) cs') w = .go (G (sfx k ds kd fr') cs') w #[]) (hr : fr'.roundOf = none) (hm : ∀ ch, fr'.mode ≠ .panicking ch := by intro ch h; cases h) : Told P main k ds kd fr cs cs' w s := by
 subst hs; exact .same fr' w #[] h hr hm
theorem told_end {main : Bool} {fr : Frame} {cs cs' : List Frame} {w : World} {s : GStep} (h : ∃ o w' es, s = .ended o w' es) (hk : (∀ id, exitTo id k = none) → ∃ o w' es, stepG P main (G (sfx k ds kd fr) cs') w = .ended o w' es) : Told P main k ds kd fr cs cs' w s := by
 obtain ⟨o, w', es, rfl⟩ := h; exact .ends o w' es hk
theorem told (hP : Plain P A) (hkd : kd ≠ .early) {main : Bool} {fn : FuncId} {tmps : Array Value} {i : Item} {t : List Item} {cs cs' : List Frame} {w : World} (hf : Fine P A (Fr fn tmps (i :: t))) :
 Told P main k ds kd (Fr fn tmps (i :: t)) cs cs' w (stepG P main (G (Fr fn tmps (i :: t)) cs) w) := by
 have ht := hf.todo
 have hi := ht i (by simp [Fr])
 have hke : (kd == CallKind.early) = false := by simpa using hkd
 cases i with
 | code c =>
  have hc : okCode P A c = true := hi
  cases c with
  | skip => exact told_of (fr' := Fr fn tmps t) (by simp [G, stepG, stepG.exec, Fr]) (by simp [G, stepG, stepG.exec, Fr, sfx]) rfl
  | exit id =>
   cases hx : exitTo id t with
   | some t' => exact told_of (fr' := Fr fn tmps t') (by simp [G, stepG, stepG.exec, Fr, hx]) (by simp [G, stepG, stepG.exec, Fr, sfx, exitTo_append hx]) rfl
   | none => exact told_end (by simp [G, stepG, stepG.exec, Fr, hx]) (fun hk => by simp [G, stepG, stepG.exec, Fr, sfx, exitTo_none hx (hk id)])
  | ret => exact told_of (fr' := { Fr fn tmps (.code .ret :: t) with mode := .returning }) (by simp [G, stepG, stepG.exec, Fr]) (by simp [G, stepG, stepG.exec, Fr, sfx]) rfl
  | refuse why => exact told_end (by simp [G, stepG, stepG.exec, Fr]) (fun _ => by simp [G, stepG, stepG.exec, Fr, sfx])
  | region id ops draw =>
   cases draw with
   | false => exact told_of (fr' := Fr fn tmps (.inRegion ops (List.range ops.size) :: t)) (by simp [G, stepG, stepG.exec, Fr]) (by simp [G, stepG, stepG.exec, Fr, sfx]) rfl
   | true =>
    have h1 := stepG_region_draw (P := P) (main := main) (b := Fr fn tmps []) (a := ⟨tmps, []⟩) (k := t) (cs := cs) (w := w) (id := id) (ops := ops)
    have h2 := stepG_region_draw (P := P) (main := main) (b := { Fr fn tmps [] with kind := kd }) (a := ⟨tmps, ds⟩) (k := t ++ k) (cs := cs') (w := w) (id := id) (ops := ops)
    have e : stepG P main (G (Fr fn tmps (.code (.region id ops true) :: t)) cs) w = _ := h1
    rw [e]
    exact .same _ _ #[] h2 rfl (by intro ch h; cases h)
  | seq a b => exact told_of (fr' := Fr fn tmps (.code a :: .code b :: t)) (by simp [G, stepG, stepG.exec, Fr]) (by simp [G, stepG, stepG.exec, Fr, sfx]) rfl
  | cond c a b =>
   by_cases hb : ∃ v, (Fr fn tmps (.code (.cond c a b) :: t)).eval c = .bool v
   · obtain ⟨v, hv⟩ := hb
     have hv' : (sfx k ds kd (Fr fn tmps (.code (.cond c a b) :: t))).eval c = .bool v := by
      rw [← hv]; cases c <;> rfl
     simp only [Fr] at hv
     simp only [Fr, sfx] at hv'
     exact told_of (fr' := Fr fn tmps (.code (if v then a else b) :: t)) (by simp [G, stepG, stepG.exec, Fr, hv]) (by simp only [List.cons_append] at hv'; simp [G, stepG, stepG.exec, Fr, sfx, hv']) rfl
   · have hb' : ¬ ∃ v, (sfx k ds kd (Fr fn tmps (.code (.cond c a b) :: t))).eval c = .bool v := by
      rintro ⟨v, hv⟩; refine hb ⟨v, ?_⟩; rw [← hv]; cases c <;> rfl
     refine told_end ?_ (fun _ => ?_)
     · simp only [Fr] at hb
       simp only [G, stepG, stepG.exec, Fr]
       split
       · rename_i t h; exact absurd ⟨t, h⟩ hb
       · exact ⟨_, _, _, rfl⟩
     · simp only [Fr, sfx, List.cons_append] at hb'
       simp only [G, stepG, stepG.exec, Fr, sfx, List.cons_append]
       split
       · rename_i t h; exact absurd ⟨t, h⟩ hb'
       · exact ⟨_, _, _, rfl⟩
  | block id c => exact told_of (fr' := Fr fn tmps (.code c :: .inBlock id :: t)) (by simp [G, stepG, stepG.exec, Fr]) (by simp [G, stepG, stepG.exec, Fr, sfx]) rfl
  | loop c => exact told_of (fr' := Fr fn tmps (.code c :: .inLoop c :: t)) (by simp [G, stepG, stepG.exec, Fr]) (by simp [G, stepG, stepG.exec, Fr, sfx]) rfl
  | _ => simp [okCode] at hc
 | inBlock id => exact told_of (fr' := Fr fn tmps t) (by simp [G, stepG, stepG.exec, Fr]) (by simp [G, stepG, stepG.exec, Fr, sfx]) rfl
 | inLoop c => exact told_of (fr' := Fr fn tmps (.code c :: .inLoop c :: t)) (by simp [G, stepG, stepG.exec, Fr]) (by simp [G, stepG, stepG.exec, Fr, sfx]) rfl
 | inRegion ops l =>
  cases l with
  | nil => exact told_of (fr' := Fr fn tmps t) (by simp [G, stepG, stepG.exec, Fr]) (by simp [G, stepG, stepG.exec, Fr, sfx]) rfl
  | cons j r =>
   by_cases hw : ((ops[j]?).map (Region.wanted · (yielded ops tmps))).getD false = true
   · cases hj : ops[j]? with
     | none => simp [hj] at hw
     | some o =>
      have hoo : okOp P A o.op = true := okItem_head hi hj
      obtain ⟨t1, t2⟩ := execOp_ok hP.fns o hoo (Fr fn tmps (.inRegion ops (j :: r) :: t)).eval (fun f => rfl)
      have hg := leaf_runT _ t1 t2 w #[]
      have hev : (sfx k ds kd (Fr fn tmps (.inRegion ops (j :: r) :: t))).eval = (Fr fn tmps (.inRegion ops (j :: r) :: t)).eval := by funext x; cases x <;> rfl
      have s1 : stepG P main (G (Fr fn tmps (.inRegion ops (j :: r) :: t)) cs) w = stepG.apply P true (Fr fn tmps (.inRegion ops (j :: r) :: t)) cs none (execOp (Fr fn tmps (.inRegion ops (j :: r) :: t)).eval o) w := by
       simp only [hj, Option.map_some, al_od] at hw
       simp [G, stepG, stepG.exec, stepG.oper, Frame.oper?, Fr, hj, hw]
      have s2 : stepG P main (G (sfx k ds kd (Fr fn tmps (.inRegion ops (j :: r) :: t))) cs') w = stepG.apply P true (sfx k ds kd (Fr fn tmps (.inRegion ops (j :: r) :: t))) cs' none (execOp (Fr fn tmps (.inRegion ops (j :: r) :: t)).eval o) w := by
       simp only [hj, Option.map_some, al_od] at hw
       rw [← hev]
       simp [G, stepG, stepG.exec, stepG.oper, Frame.oper?, Fr, sfx, hj, hw]
      have hfin : ∀ v, (sfx k ds kd (Fr fn tmps (.inRegion ops (j :: r) :: t))).finish v = sfx k ds kd ((Fr fn tmps (.inRegion ops (j :: r) :: t)).finish v) := fun v => sfx_finish rfl (by simp [Fr]) v
      have hround : ∀ v, ((Fr fn tmps (.inRegion ops (j :: r) :: t)).finish v).roundOf = none := fun v => rfl
      rw [s1]
      rw [stepG.apply] at s2 ⊢
      simp only [if_true] at s2 ⊢
      generalize (execOp (Fr fn tmps (.inRegion ops (j :: r) :: t)).eval o).runT P w #[] = rr at hg s2
      obtain ⟨res, es⟩ := rr
      have hk1 : ((Fr fn tmps (.inRegion ops (j :: r) :: t)).kind == CallKind.early) = false := rfl
      have hk2 : ((sfx k ds kd (Fr fn tmps (.inRegion ops (j :: r) :: t))).kind == CallKind.early) = false := hke
      cases res with
      | ok nx w' =>
       have hnx : okNext P A nx := hg
       cases nx with
       | value v =>
        simp only [hk1, hk2, Bool.false_eq_true, if_false, GStep.after, Array.append_empty] at s2 ⊢
        exact .same _ _ _ (by rw [← hfin]; exact s2) (hround v) (by intro ch h; cases h)
       | skip =>
        simp only [hk1, hk2, Bool.false_eq_true, if_false, GStep.after, Array.append_empty] at s2 ⊢
        exact .same _ _ _ (by rw [← hfin]; exact s2) (hround _) (by intro ch h; cases h)
       | enter f args =>
        simp only [hk1, hk2, Bool.false_eq_true, if_false, GStep.after, Array.append_empty] at s2 ⊢
        exact .enter _ _ _ s2
       | _ => exact hnx.elim
      | halt h w' =>
       simp only [hk1, hk2, Bool.false_eq_true, if_false] at s2 ⊢
       rcases hg with hg | ⟨b, rfl⟩
       · cases h with
         | panic v => exact .panics _ _ _ _ rfl ⟨_, _, _, s2, rfl, rfl⟩
         | stuck s => exact .ends _ _ _ fun _ => ⟨_, _, _, s2⟩
         | unsupported u => cases u <;> first | exact .ends _ _ _ fun _ => ⟨_, _, _, s2⟩ | exact hg.elim
         | _ => exact hg.elim
       · obtain ⟨o', w'', es', he⟩ := early_ended hP (Fr fn tmps (.inRegion ops (j :: r) :: t)) cs none b w'
         obtain ⟨o2, w2, es2, he2⟩ := early_ended hP (sfx k ds kd (Fr fn tmps (.inRegion ops (j :: r) :: t))) cs' none b w'
         simp only [he2, GStep.after] at s2
         simp only [he, GStep.after]
         exact .ends _ _ _ fun _ => ⟨_, _, _, s2⟩
   · have hw' : ((ops[j]?).map (Region.wanted · (yielded ops tmps))).getD false = false := by simpa using hw
     have hfin : (sfx k ds kd (Fr fn tmps (.inRegion ops (j :: r) :: t))).finish undef = sfx k ds kd ((Fr fn tmps (.inRegion ops (j :: r) :: t)).finish undef) := sfx_finish rfl (by simp [Fr]) undef
     refine told_of (fr' := (Fr fn tmps (.inRegion ops (j :: r) :: t)).finish undef) ?_ ?_ rfl
     · simp only [G, stepG, stepG.exec, Fr, hw', Bool.false_eq_true, if_false]
     · rw [← hfin]
       simp only [G, stepG, stepG.exec, Fr, sfx, List.cons_append, hw', Bool.false_eq_true, if_false]
 | _ => simp [okItem] at hi
end
structure Sb where
 fr : Frame
 ab : List Frame
 bot : Option Frame
 w : World
 deriving Inhabited
def Sb.fs (k : List Item) (ds : List Deferred) (kd : CallKind) (s : Sb) : List Frame :=
 match s.bot with
 | some b => s.ab ++ [sfx k ds kd b]
 | none => []
def Sb.tp (k : List Item) (ds : List Deferred) (kd : CallKind) (s : Sb) : Frame :=
 match s.bot with
 | some _ => s.fr
 | none => sfx k ds kd s.fr
def Sb.real (k : List Item) (ds : List Deferred) (kd : CallKind) (cs : List Frame) (s : Sb) : Goroutine := G (s.tp k ds kd) (s.fs k ds kd ++ cs)
section
variable {P : Program} {A : FuncId → Bool}
structure Sb.Ok (P : Program) (A : FuncId → Bool) (s : Sb) : Prop where
 top : Fine P A s.fr
 mid : ∀ c ∈ s.ab, Fine P A c
 bot : ∀ b, s.bot = some b → Fine P A b ∧ b.todo ≠ []
 none : s.bot = none → s.ab = []
def Sb.Done (s : Sb) : Prop := s.bot = none ∧ (s.fr.mode = .returning ∨ s.fr.todo = [])
def NextB (P : Program) (A : FuncId → Bool) (s : Sb) (τ0 : Nat → Question → Nat) (d n : Nat) (s' : Sb) (es : Array Event) : Prop :=
 s'.Ok P A ∧ s'.w.tape = τ0 ∧ (∀ e ∈ es, calmEv true e) ∧ s'.w.drawn = d + n ∧
 ∀ main k ds kd cs, kd ≠ CallKind.early → ∀ τ e, (∀ j, j < n → τ (e + j) = τ0 (d + j)) → stepG P main (s.real k ds kd cs) (re s.w τ e) = .go (s'.real k ds kd cs) (re s'.w τ (e + n)) es
def BadB (st : GStep) (fs cs : List Frame) : Prop := (∃ o w' es, st = .ended o w' es) ∨ ∃ fr' ch w' es, st = .go (G fr' (fs ++ cs)) w' es ∧ fr'.mode = .panicking ch ∧ fr'.defers = []
def HaltB (P : Program) (s : Sb) (τ0 : Nat → Question → Nat) (d n : Nat) : Prop :=
 s.Done ∨ ∀ main k cs, (∀ id, exitTo id k = none) → ∀ τ e, (∀ j, j < n → τ (e + j) = τ0 (d + j)) → BadB (stepG P main (s.real k [] .normal cs) (re s.w τ e)) (s.fs k [] .normal) cs
theorem fine_run {fr : Frame} (h : Fine P A fr) (hm : fr.mode = .run) (hne : fr.todo ≠ []) : ∃ i t, fr = Fr fr.fn fr.tmps (i :: t) := by
 have e := fr_of_fine h hm
 cases ht : fr.todo with
 | nil => exact absurd ht hne
 | cons i t => rw [ht] at e; exact ⟨i, t, e⟩
theorem wayB (hP : Plain P A) (s : Sb) (hs : s.Ok P A) (τ0 : Nat → Question → Nat) (d : Nat) :
 (∃ n s' es, NextB P A s τ0 d n s' es) ∨ ∃ n, HaltB P s τ0 d n := by
 by_cases hdone : s.Done
 · exact .inr ⟨0, .inl hdone⟩
 obtain ⟨fr, ab, bot, w⟩ := s
 obtain ⟨h1, h2, h3, h4⟩ := hs
 simp only at h1 h2 h3 h4
 cases bot with
 | none =>
  have hab := h4 rfl
  subst hab
  have hmode : fr.mode = .run := by
   rcases h1.mode with h | h
   · exact h
   · exact absurd ⟨rfl, .inl h⟩ hdone
  have hne : fr.todo ≠ [] := fun h => hdone ⟨rfl, .inr h⟩
  obtain ⟨i, t, he⟩ := fine_run h1 hmode hne
  have tl : ∀ main k ds kd cs cs' w, kd ≠ CallKind.early → Told P main k ds kd fr cs cs' w (stepG P main (G fr cs) w) := fun main k ds kd cs cs' w hkd => by
   have h1' := h1
   rw [he] at h1' ⊢
   exact told hP hkd h1'
  cases way hP fr [] (re w τ0 d) h1 (by simp) with
  | pop _ hm => rw [hmode] at hm; cases hm
  | bad w' hd hst =>
   have hd' : d ≤ w'.drawn := hd
   refine .inr ⟨w'.drawn - d, .inr fun main k cs hk τ e hag => ?_⟩
   have hb := hst main [] τ e fun j hj => hag j (by have : d + j < w'.drawn := hj; omega)
   have tl' := tl main k [] .normal [] cs (re w τ e) (by decide)
   have hb' : Bad (stepG P main (G fr []) (re w τ e)) [] [] := hb
   generalize stepG P main (G fr []) (re w τ e) = gs at tl' hb'
   cases tl' with
   | same fr'' w'' es'' h hr hnm =>
    rcases hb' with ⟨o, w', es, h'⟩ | ⟨fr', ch, w', es, h', hm, _⟩
    · cases h'
    · simp only [GStep.go.injEq, G, Goroutine.mk.injEq] at h'
      obtain ⟨⟨e1, _⟩, _⟩ := h'
      subst e1
      exact absurd hm (hnm ch)
   | enter g w'' es'' h =>
    rcases hb' with ⟨o, w', es, h'⟩ | ⟨fr', ch, w', es, h', hm, _⟩
    · cases h'
    · simp [G] at h'
   | panics fr'' ch w'' es'' h hk' =>
    obtain ⟨f2, w2, e2, h2, h3, h4⟩ := hk'
    exact .inr ⟨f2, ch, w2, e2, h2, h3, h4⟩
   | ends o w' es hk' => exact .inl (hk' hk)
  | on fr' above' w' es hf' ha' hd ht hev hst =>
   have hd' : d ≤ w'.drawn := hd
   have ht' : w'.tape = τ0 := ht
   have hstep : ∀ main cs τ e, (∀ j, j < w'.drawn - d → τ (e + j) = τ0 (d + j)) → stepG P main (G fr cs) (re w τ e) = .go (G fr' (above' ++ cs)) (re w' τ (e + (w'.drawn - d))) es := fun main cs τ e hag =>
    hst main cs τ e fun j hj => hag j (by have : d + j < w'.drawn := hj; omega)
   cases above' with
   | nil =>
    refine .inl ⟨w'.drawn - d, ⟨fr', [], none, w'⟩, es, ⟨hf', by simp, by simp, fun _ => rfl⟩, ht', hev, (by show w'.drawn = _; omega), fun main k ds kd cs hkd τ e hag => ?_⟩
    have tl' := tl main k ds kd cs cs (re w τ e) hkd
    rw [hstep main cs τ e hag] at tl'
    generalize hgen : GStep.go (G fr' ([] ++ cs)) (re w' τ (e + (w'.drawn - d))) es = gs at tl'
    cases tl' with
    | same fr'' w'' es'' h hr hnm =>
     simp only [GStep.go.injEq, G, Goroutine.mk.injEq] at hgen
     obtain ⟨⟨e1, e2, _⟩, e3, e4⟩ := hgen
     subst e1 e3 e4
     exact h
    | enter g w'' es'' h =>
     simp only [GStep.go.injEq, G, Goroutine.mk.injEq] at hgen
     obtain ⟨⟨e1, e2, _⟩, e3, e4⟩ := hgen
     have := congrArg List.length e2
     simp at this
    | panics fr'' ch w'' es'' h hk' =>
     simp only [GStep.go.injEq, G, Goroutine.mk.injEq] at hgen
     obtain ⟨⟨e1, _⟩, _⟩ := hgen
     subst e1
     rcases hf'.mode with h' | h' <;> rw [h'] at h <;> cases h
    | ends => cases hgen
   | cons c r =>
    have hcr : c = fr ∧ r = [] := by
     have tl' := tl true [] [] .normal [] [] (re w τ0 d) (by decide)
     rw [hstep true [] τ0 d (fun _ _ => rfl)] at tl'
     generalize hgen : GStep.go (G fr' (c :: r ++ [])) (re w' τ0 (d + (w'.drawn - d))) es = gs at tl'
     cases tl' with
     | same fr'' w'' es'' h hr hnm => simp [G] at hgen
     | enter g w'' es'' h =>
      simp only [GStep.go.injEq, G, Goroutine.mk.injEq] at hgen
      obtain ⟨⟨e1, e2, _⟩, e3, e4⟩ := hgen
      simp at e2
      exact e2
     | panics fr'' ch w'' es'' h hk' => simp [G] at hgen
     | ends => cases hgen
    obtain ⟨rfl, rfl⟩ := hcr
    refine .inl ⟨w'.drawn - d, ⟨fr', [], some c, w'⟩, es, ⟨hf', by simp, fun b hb => by cases hb; exact ⟨h1, hne⟩, by simp⟩, ht', hev, (by show w'.drawn = _; omega), fun main k ds kd cs hkd τ e hag => ?_⟩
    have tl' := tl main k ds kd cs cs (re w τ e) hkd
    rw [hstep main cs τ e hag] at tl'
    generalize hgen : GStep.go (G fr' ([c] ++ cs)) (re w' τ (e + (w'.drawn - d))) es = gs at tl'
    cases tl' with
    | same fr'' w'' es'' h hr hnm =>
     simp only [GStep.go.injEq, G, Goroutine.mk.injEq] at hgen
     obtain ⟨⟨e1, e2, _⟩, e3, e4⟩ := hgen
     have := congrArg List.length e2
     simp at this
    | enter g w'' es'' h =>
     simp only [GStep.go.injEq, G, Goroutine.mk.injEq] at hgen
     obtain ⟨⟨e1, e2, _⟩, e3, e4⟩ := hgen
     subst e1 e3 e4
     exact h
    | panics fr'' ch w'' es'' h hk' =>
     simp only [GStep.go.injEq, G, Goroutine.mk.injEq] at hgen
     obtain ⟨⟨e1, _⟩, _⟩ := hgen
     subst e1
     rcases hf'.mode with h' | h' <;> rw [h'] at h <;> cases h
    | ends => cases hgen
 | some b =>
  obtain ⟨hb, hbne⟩ := h3 b rfl
  cases way hP fr ab (re w τ0 d) h1 h2 with
  | bad w' hd hst =>
   have hd' : d ≤ w'.drawn := hd
   refine .inr ⟨w'.drawn - d, .inr fun main k cs hk τ e hag => ?_⟩
   have := hst main (sfx k [] .normal b :: cs) τ e fun j hj => hag j (by have : d + j < w'.drawn := hj; omega)
   have e1 : (⟨fr, ab, some b, w⟩ : Sb).real k [] .normal cs = G fr (ab ++ sfx k [] .normal b :: cs) := by simp [Sb.real, Sb.tp, Sb.fs]
   rw [e1]
   rcases this with h | ⟨fr', ch, w'', es, h, hm, hdd⟩
   · exact .inl h
   · exact .inr ⟨fr', ch, w'', es, h.trans (by simp [Sb.fs]), hm, hdd⟩
  | on fr' above' w' es hf' ha' hd ht hev hst =>
   have hd' : d ≤ w'.drawn := hd
   have ht' : w'.tape = τ0 := ht
   refine .inl ⟨w'.drawn - d, ⟨fr', above', some b, w'⟩, es, ⟨hf', ha', fun b' hb' => by cases hb'; exact ⟨hb, hbne⟩, by simp⟩, ht', hev, (by show w'.drawn = _; omega), fun main k ds kd cs hkd τ e hag => ?_⟩
   have := hst main (sfx k ds kd b :: cs) τ e fun j hj => hag j (by have : d + j < w'.drawn := hj; omega)
   have e1 : ∀ fr ab w, (⟨fr, ab, some b, w⟩ : Sb).real k ds kd cs = G fr (ab ++ sfx k ds kd b :: cs) := fun _ _ _ => by simp [Sb.real, Sb.tp, Sb.fs]
   rw [e1, e1]
   exact this
  | pop hab hm =>
   subst hab
   have hfin : ∀ k ds kd v, (sfx k ds kd b).finish v = sfx k ds kd (b.finish v) := fun k ds kd v => sfx_finish hb.round hbne v
   have hfb : ∀ v, Fine P A (b.finish v) := fun v => fine_finish hb v
   have e1 : ∀ k ds kd cs, (⟨fr, [], some b, w⟩ : Sb).real k ds kd cs = G fr (sfx k ds kd b :: cs) := fun _ _ _ _ => by simp [Sb.real, Sb.tp, Sb.fs]
   have e2 : ∀ k ds kd cs v w, (⟨b.finish v, [], none, w⟩ : Sb).real k ds kd cs = G ((sfx k ds kd b).finish v) cs := fun _ _ _ _ _ _ => by rw [hfin]; simp [Sb.real, Sb.tp, Sb.fs]
   cases hf : P.funcs[fr.fn]? with
   | none =>
    refine .inl ⟨0, ⟨b.finish (fr.tmps.getD 0 undef), [], none, re w τ0 d⟩, #[], ⟨hfb _, by simp, by simp, fun _ => rfl⟩, rfl, by simp, rfl, fun main k ds kd cs hkd τ e hag => ?_⟩
    rw [e1, e2]
    simp [G, stepG, unwind, doReturn, hm, h1.defers, h1.kind, hf]
    rfl
   | some fn =>
    obtain ⟨r1, r2, r3⟩ := runT_re (P := P) (results fn fr.tmps) (tame_more _ (tame_results fn fr.tmps)) (re w τ0 d) #[]
    have hcalm := runT_calm (P := P) (results fn fr.tmps) (tame_more _ (tame_results fn fr.tmps)) (re w τ0 d) #[]
    have hst : ∀ main c cs w, stepG P main (G fr (c :: cs)) w = GStep.after (seen P fr.fn ((results fn fr.tmps).runT P w #[]).2) (match ((results fn fr.tmps).runT P w #[]).1 with
     | .ok v w => .go (G (c.finish v) cs) w
     | .halt (.stuck s) w => .ended (.stuck s (fr.pos P)) w
     | .halt _ w => .ended (.stuck "return: the result variables cannot be read" (fr.pos P)) w) := fun main c cs w => by
     simp only [G, stepG, unwind, hm, h1.defers, hf]
     cases (Sem.runT P (results fn fr.tmps) w #[]).fst with
     | ok v w => simp [doReturn, h1.kind]
     | halt h w => cases h <;> rfl
    generalize hrr : (results fn fr.tmps).runT P (re w τ0 d) #[] = rr at r1 r2 r3 hcalm
    obtain ⟨res, es⟩ := rr
    simp only at r1 r2 r3 hcalm
    have hev : ∀ fn, ∀ e ∈ seen P fn es, calmEv true e := fun fn e he => (hcalm e (mem_seen he)).resolve_left (by simp)
    have e3 : ∀ τ e, re (re w τ0 d) τ e = re w τ e := fun _ _ => rfl
    cases res with
    | ok v w' =>
     have hd' : d ≤ w'.drawn := r1
     refine .inl ⟨w'.drawn - d, ⟨b.finish v, [], none, w'⟩, seen P fr.fn es, ⟨hfb _, by simp, by simp, fun _ => rfl⟩, r2, hev _, (by show w'.drawn = _; omega), fun main k ds kd cs hkd τ e hag => ?_⟩
     have := r3 τ e fun j hj => hag j (by have : d + j < w'.drawn := hj; omega)
     rw [e3] at this
     rw [e1, e2, hst, this]
     simp only [resRe, resW, GStep.after, Array.append_empty]
     rfl
    | halt h w' =>
     have hd' : d ≤ w'.drawn := r1
     refine .inr ⟨w'.drawn - d, .inr fun main k cs hk τ e hag => .inl ?_⟩
     have := r3 τ e fun j hj => hag j (by have : d + j < w'.drawn := hj; omega)
     rw [e3] at this
     rw [e1, hst, this]
     simp only [resRe]
     cases h <;> exact ⟨_, _, _, rfl⟩
end
end Go.Car
