/- YtdncabjenacolaaTAlone9: part 3 of the proof (the texts behind it, in order). -/
import Derived.Test.YtdncabjenacolaaP02
set_option linter.unusedSimpArgs false
set_option linter.unusedVariables false
set_option linter.unusedSectionVars false
set_option linter.unnecessarySimpa false
set_option maxHeartbeats 1000000
namespace Go.Car
open Go Go.RowKit
abbrev Snap := Nat → Option (Array Value × TypeId)
structure Cut (X : Snap) (w wc : World) : Prop where
 is : ∀ b c e, X b = some (c, e) → w.heap[b]? = some (.cells c e) ∧ wc.heap[b]? = some (.cells #[] e)
 no : ∀ b, X b = none → wc.heap[b]? = w.heap[b]?
 size : wc.heap.size = w.heap.size
 tape : wc.tape = w.tape
 drawn : wc.drawn = w.drawn
 os : wc.os = w.os
 output : wc.output = w.output
theorem Cut.re {X : Snap} {w wc : World} (h : Cut X w wc) (τ : Nat → Question → Nat) (d : Nat) : Cut X (re w τ d) (re wc τ d) := ⟨h.is, h.no, h.size, rfl, rfl, h.os, h.output⟩
def apart (X : Snap) (e : Event) : Prop := ∀ a, e.loc = .cell a → X a.block = none
def fit {α : Type} : Result α → Prop
 | .ok _ _ => True
 | .halt (.panic _) _ => True
 | .halt _ _ => False
def setW {α : Type} : Result α → World → Result α
 | .ok a _, w => .ok a w
 | .halt h _, w => .halt h w
def zq2 {α : Type} (P : Program) (s : Sem α) : Prop := ∀ (X : Snap) (w wc : World) (es : Array Event), Cut X w wc → fit (s.runT P wc es).1 →
 ∃ w', Cut X w' (resW (s.runT P wc es).1) ∧ s.runT P w es = (setW (s.runT P wc es).1 w', (s.runT P wc es).2) ∧ ∀ e ∈ (s.runT P wc es).2, e ∈ es ∨ apart X e
class Stdy {α : Type} (P : Program) (s : Sem α) : Prop where
 out : zq2 P s
section
variable {α β : Type} {P : Program}
theorem steady_pure (a : α) : zq2 P (Pure.pure a : Sem α) := fun X w wc es h _ => ⟨w, h, rfl, fun e he => .inl he⟩
theorem steady_halt (x : Halt) : zq2 P (Sem.halt x : Sem α) := fun X w wc es h _ => ⟨w, h, rfl, fun e he => .inl he⟩
theorem runT_bind {s : Sem α} {f : α → Sem β} (w : World) (es : Array Event) : (s >>= f).runT P w es = match s.runT P w es with
 | (.ok a w', es') => (f a).runT P w' es'
 | (.halt x w', es') => (.halt x w', es') := by
 have := runT_bind_ok (P := P) s f w es
 refine Eq.trans this ?_
 split <;> simp_all
theorem zq3 {s : Sem α} {f : α → Sem β} (hs : zq2 P s) (hf : ∀ a, zq2 P (f a)) : zq2 P (s >>= f) := by
 intro X w wc es h hfit
 have h1 := hs X w wc es h
 rw [runT_bind] at hfit ⊢
 rw [runT_bind w]
 generalize s.runT P wc es = r at h1 hfit
 obtain ⟨r, es'⟩ := r
 cases r with
 | ok a wc' =>
  obtain ⟨w', c1, e1, v1⟩ := h1 trivial
  rw [e1]
  simp only [resW, setW] at c1 hfit ⊢
  obtain ⟨w'', c2, e2, v2⟩ := hf a X w' wc' es' c1 hfit
  exact ⟨w'', c2, e2, fun e he => (v2 e he).elim (v1 e) .inr⟩
 | halt x wc' =>
  have hx : fit (Result.halt x wc' : Result α) := by cases x <;> first | trivial | exact hfit.elim
  obtain ⟨w', c1, e1, v1⟩ := h1 hx
  rw [e1]
  exact ⟨w', c1, rfl, v1⟩
theorem zq6 {s : Sem α} {f : α → β} (hs : zq2 P s) : zq2 P (Functor.map f s) := zq3 hs fun _ => steady_pure _
instance (a : α) : Stdy P (Pure.pure a : Sem α) := ⟨steady_pure a⟩
instance (s : String) : Stdy P (stuck s : Sem α) := ⟨steady_halt _⟩
instance (u : Unsupported) : Stdy P (unsupported u : Sem α) := ⟨steady_halt _⟩
instance (v : Value) : Stdy P (goPanic v : Sem α) := ⟨steady_halt _⟩
theorem steady_program : zq2 P program := fun X w wc es h _ => ⟨w, h, rfl, fun e he => .inl he⟩
instance : Stdy P program := ⟨steady_program⟩
theorem steady_choose (q : Question) : zq2 P (choose q) := by
 intro X w wc es h _
 unfold choose
 simp only [Sem.runT]
 by_cases hq : q.forced = true
 · simp only [hq, if_true]
   exact ⟨w, h, rfl, fun e he => .inl he⟩
 · simp only [hq, Bool.false_eq_true, if_false]
   refine ⟨{ w with drawn := w.drawn + 1 }, ⟨h.is, h.no, h.size, h.tape, by show wc.drawn + 1 = w.drawn + 1; rw [h.drawn], h.os, h.output⟩, ?_, fun e he => .inl he⟩
   rw [h.tape, h.drawn]
   rfl
instance (q : Question) : Stdy P (choose q) := ⟨steady_choose q⟩
theorem steady_mark (m : Mark) : zq2 P (mark m) := by
 intro X w wc es h _
 refine ⟨w, h, rfl, fun e he => ?_⟩
 simp only [mark, Sem.runT] at he
 rcases Array.mem_push.1 he with he | rfl
 · exact .inl he
 · exact .inr fun a ha => by cases ha
instance (m : Mark) : Stdy P (mark m) := ⟨steady_mark m⟩
theorem steady_newObj (o : Obj) : zq2 P (newObj o) := by
 intro X w wc es h _
 refine ⟨{ w with heap := w.heap.push o }, ⟨fun b c e hb => ?_, fun b hb => ?_, ?_, h.tape, h.drawn, h.os, h.output⟩, ?_, fun e he => .inl he⟩
 · obtain ⟨h1, h2⟩ := h.is b c e hb
   have l1 := (Array.getElem?_eq_some_iff.1 h1).1
   have l2 := (Array.getElem?_eq_some_iff.1 h2).1
   constructor
   · show (w.heap.push o)[b]? = _
     rw [Array.getElem?_push, if_neg (by omega)]; exact h1
   · show (wc.heap.push o)[b]? = _
     rw [Array.getElem?_push, if_neg (by omega)]; exact h2
 · show (wc.heap.push o)[b]? = (w.heap.push o)[b]?
   rw [Array.getElem?_push, Array.getElem?_push, h.size, h.no b hb]
 · show (wc.heap.push o).size = (w.heap.push o).size
   simp [h.size]
 · show (Result.ok w.heap.size _, es) = (setW (Result.ok wc.heap.size _) _, es)
   rw [h.size]; rfl
instance (o : Obj) : Stdy P (newObj o) := ⟨steady_newObj o⟩
theorem Cut.cell_in {X : Snap} {w wc : World} (h : Cut X w wc) {a : Addr} {x} (hx : X a.block = some x) : wc.cell? a = none := by
 obtain ⟨c, e⟩ := x
 simp [World.cell?, (h.is _ _ _ hx).2]
theorem Cut.cell_out {X : Snap} {w wc : World} (h : Cut X w wc) {a : Addr} (hx : X a.block = none) : wc.cell? a = w.cell? a := by
 simp [World.cell?, h.no _ hx]
theorem Cut.frozen {X : Snap} {w wc : World} (h : Cut X w wc) (a : Addr) : wc.frozen? a = w.frozen? a := by
 cases hx : X a.block with
 | none => simp [World.frozen?, h.no _ hx]
 | some x => obtain ⟨c, e⟩ := x; simp [World.frozen?, (h.is _ _ _ hx).1, (h.is _ _ _ hx).2]
theorem Cut.frozen_in {X : Snap} {w wc : World} (h : Cut X w wc) {a : Addr} {x} (hx : X a.block = some x) : w.frozen? a = false := by
 obtain ⟨c, e⟩ := x; simp [World.frozen?, (h.is _ _ _ hx).1]
theorem Cut.shape_out {X : Snap} {w wc : World} (h : Cut X w wc) {r : Nat} (hx : X r = none) : wc.shape? r = w.shape? r := by
 simp [World.shape?, h.no _ hx]
theorem Cut.shape_in {X : Snap} {w wc : World} (h : Cut X w wc) {r : Nat} {c : Array Value} {e : TypeId} (hx : X r = some (c, e)) : w.shape? r = some (e, c.size) ∧ wc.shape? r = some (e, 0) := by
 simp [World.shape?, (h.is _ _ _ hx).1, (h.is _ _ _ hx).2]
theorem steady_frozen (a : Addr) : zq2 P (frozen a) := by
 intro X w wc es h _
 refine ⟨w, h, ?_, fun e he => .inl he⟩
 show (Result.ok (w.frozen? a) w, es) = (setW (Result.ok (wc.frozen? a) wc) w, es)
 rw [h.frozen]; rfl
instance (a : Addr) : Stdy P (frozen a) := ⟨steady_frozen a⟩
theorem zq7 {r : Nat} {f : Option (TypeId × Nat) → Sem β} (he : ∀ e n, f (some (e, n)) = f (some (e, 0))) (hf : ∀ x, zq2 P (f x)) : zq2 P (shape r >>= f) := by
 intro X w wc es h hfit
 have e1 : ∀ w, (shape r >>= f).runT P w es = (f (w.shape? r)).runT P w es := fun w => rfl
 rw [e1] at hfit
 rw [e1, e1]
 cases hx : X r with
 | none => rw [h.shape_out hx] at hfit ⊢; exact hf _ X w wc es h hfit
 | some x =>
  obtain ⟨c, e⟩ := x
  obtain ⟨h1, h2⟩ := h.shape_in hx
  rw [h2] at hfit
  rw [h1, h2, he e c.size]; exact hf _ X w wc es h hfit
theorem plain_bytes (P : Program) : ∀ (d : Nat) (t : TypeId) (off : Nat) (v : Value), plainCell P d t off = some v → (∃ b, v = .bool b) ∨ (∃ k, v = .int k 0) ∨ (∃ k, v = .float k 0) ∨ ∃ k, v = .complex k 0 0 := by
 intro d
 induction d with
 | zero => intro t off v h; cases h
 | succ d ih =>
  intro t off v h
  unfold plainCell at h
  split at h
  · obtain ⟨f, hf⟩ := Array.exists_of_findSome?_eq_some h
    obtain ⟨_, hf⟩ := hf
    split at hf
    · exact ih _ _ _ hf
    · cases hf
  · simp only [] at h
    split at h
    · cases h
    · exact ih _ _ _ h
  · split at h
    · cases h; exact .inl ⟨_, rfl⟩
    · cases h
  · split at h
    · cases h; exact .inr (.inl ⟨_, rfl⟩)
    · cases h
  · split at h
    · cases h; exact .inr (.inr (.inl ⟨_, rfl⟩))
    · cases h
  · split at h
    · cases h; exact .inr (.inr (.inr ⟨_, rfl⟩))
    · cases h
  · cases h
theorem plain_pos {P : Program} {d : Nat} {t : TypeId} {off : Nat} {v : Value} (h : plainCell P d t off = some v) {l : List UInt8} (hl : v.bytes? = some l) : 0 < l.length := by
 rcases plain_bytes P d t off v h with ⟨b, rfl⟩ | ⟨k, rfl⟩ | ⟨k, rfl⟩ | ⟨k, rfl⟩
 · cases hl; simp
 · cases k <;> (simp only [Value.bytes?, al_oi] at hl; subst hl; simp [IntKind.bits, leBytes])
 · cases k <;> (simp only [Value.bytes?, al_oi] at hl; subst hl; simp [FloatKind.bytes, leBytes])
 · cases k <;> (simp only [Value.bytes?, al_oi] at hl; subst hl; simp [FloatKind.bytes, leBytes])
theorem seenCells_none {P : Program} {e : TypeId} {f x stop : Nat} (h : x < stop) : ∃ y, seenCells P #[] e f x stop = .error y := by
 cases f with
 | zero => exact ⟨_, rfl⟩
 | succ f =>
  unfold seenCells
  rw [if_neg (by omega)]
  simp only []
  split
  · exact ⟨_, rfl⟩
  · split
    · exact ⟨_, rfl⟩
    · simp
theorem seen_none {P : Program} {w : World} {at_ k : Addr} {u e : TypeId} {b : Bool} (h : w.heap[at_.block]? = some (.cells #[] e)) : ∃ y, w.seen P at_ u k b = .error y := by
 unfold World.seen
 simp only [bind, Except.bind, pure, Except.pure, throw, throwThe, MonadExceptOf.throw, h]
 split
 · exact ⟨_, rfl⟩
 · split
   · rename_i like hlike
     cases hb : like.bytes? with
     | none => exact ⟨_, by simp; rfl⟩
     | some l =>
      have hpos := plain_pos hlike hb
      simp only [Option.map_some]
      split
      · rename_i β hβ
        split
        · exact ⟨_, rfl⟩
        · split
          · rename_i b0 hb0
            obtain ⟨y, hy⟩ := seenCells_none (P := P) (e := e) (f := l.length + 1) (x := at_.off / P.cellsOf e * P.bytesOf e + b0 + β) (stop := at_.off / P.cellsOf e * P.bytesOf e + b0 + β + l.length) (by omega)
            rw [hy]
            exact ⟨_, rfl⟩
          · exact ⟨_, rfl⟩
      · exact ⟨_, rfl⟩
   · exact ⟨_, rfl⟩
theorem viewLoad_cut {X : Snap} {w wc : World} (h : Cut X w wc) {at_ a : Addr} {u : TypeId} {b : Bool} {v : Value} {l : List Addr} (hv : wc.viewLoad P at_ u a b = .ok (v, l)) :
 X at_.block = none ∧ w.viewLoad P at_ u a b = .ok (v, l) ∧ ∀ x ∈ l, x.block = at_.block := by
 cases hx : X at_.block with
 | some x =>
  obtain ⟨c, e⟩ := x
  obtain ⟨y, hy⟩ := seen_none (P := P) (w := wc) (at_ := at_) (k := a) (u := u) (b := b) (h.is _ _ _ hx).2
  unfold World.viewLoad at hv
  simp only [hy, bind, Except.bind] at hv
  cases hv
 | none =>
  have e : wc.viewLoad P at_ u a b = w.viewLoad P at_ u a b := by
   unfold World.viewLoad World.seen
   rw [h.no _ hx]
  refine ⟨rfl, by rw [← e]; exact hv, ?_⟩
  unfold World.viewLoad at hv
  cases hs : wc.seen P at_ u a b with
  | error y => simp only [hs, bind, Except.bind] at hv; cases hv
  | ok x =>
   obtain ⟨_, _, _, first, like, cells⟩ := x
   simp only [hs, bind, Except.bind, pure, Except.pure, throw, throwThe, MonadExceptOf.throw] at hv
   split at hv
   · simp only [Except.ok.injEq, Prod.mk.injEq] at hv
     obtain ⟨_, rfl⟩ := hv
     intro x hx
     obtain ⟨y, _, rfl⟩ := List.mem_map.1 hx
     rfl
   · cases hv
theorem farLoad_cut {X : Snap} {w wc : World} (h : Cut X w wc) {a : Addr} {b : Bool} {v : Value} {l : List Addr} (hv : wc.farLoad P a b = .ok (v, l)) : w.farLoad P a b = .ok (v, l) ∧ X a.block = none ∧ ∀ x ∈ l, X x.block = none := by
 cases hx : X a.block with
 | some x =>
  obtain ⟨c, e⟩ := x
  unfold World.farLoad at hv
  rw [(h.is _ _ _ hx).2] at hv
  cases hv
 | none =>
  have hh := h.no _ hx
  unfold World.farLoad at hv ⊢
  rw [hh] at hv
  split at hv
  · rename_i at_ u he
    split at hv
    · rename_i r hr
      cases hv
      obtain ⟨h1, h2, h3⟩ := viewLoad_cut h hr
      rw [h2]
      exact ⟨rfl, rfl, fun x hx' => by rw [h3 x hx']; exact h1⟩
    · cases hv
  · cases hv
theorem fit_far {α : Type} {wc : World} {a : Addr} {b : Bool} {x : Halt} {w' : World} (hv : wc.farLoad P a b = .error x) : ¬ fit (Result.halt x w' : Result α) := by
 unfold World.farLoad at hv
 split at hv
 · split at hv
   · cases hv
   · cases hv; exact id
 · cases hv
   unfold World.noCell
   split <;> exact id
theorem steady_load (a : Addr) (m : Mode) : zq2 P (load a m) := by
 intro X w wc es h hfit
 simp only [load, Sem.runT] at hfit ⊢
 cases hx : X a.block with
 | some x =>
  rw [h.cell_in hx] at hfit
  exfalso
  obtain ⟨c, e⟩ := x
  have : wc.farLoad P a (m == Mode.atomic) = .error (wc.noCell a "load: no such cell") := by
   unfold World.farLoad; rw [(h.is _ _ _ hx).2]
  simp only [this] at hfit
  exact fit_far this hfit
 | none =>
  rw [← h.cell_out hx]
  cases hc : wc.cell? a with
  | some v =>
   refine ⟨w, h, rfl, fun e he => ?_⟩
   rcases Array.mem_push.1 he with he | rfl
   · exact .inl he
   · exact .inr fun y hy => by cases hy; exact hx
  | none =>
   rw [hc] at hfit
   simp only [] at hfit ⊢
   cases hf : wc.farLoad P a (m == Mode.atomic) with
   | ok x =>
    obtain ⟨v, l⟩ := x
    obtain ⟨h1, h2, h3⟩ := farLoad_cut h hf
    rw [h1]
    refine ⟨w, h, rfl, fun e he => ?_⟩
    rcases Array.mem_append.1 he with he | he
    · exact .inl he
    · obtain ⟨y, hy, rfl⟩ := Array.mem_map.1 he
      exact .inr fun z hz => by cases hz; exact h3 y (by simpa using hy)
   | error x =>
    rw [hf] at hfit
    exact (fit_far hf hfit).elim
instance (a : Addr) (m : Mode) : Stdy P (load a m) := ⟨steady_load a m⟩
theorem steady_getObj (r : Nat) : zq2 P (getObj r) := by
 intro X w wc es h hfit
 simp only [getObj, Sem.runT] at hfit ⊢
 cases hx : X r with
 | some x =>
  obtain ⟨c, e⟩ := x
  rw [(h.is _ _ _ hx).2] at hfit
  exact hfit.elim
 | none =>
  rw [h.no _ hx] at hfit ⊢
  cases ho : w.heap[r]? with
  | none => rw [ho] at hfit; exact hfit.elim
  | some o =>
   rw [ho] at hfit
   cases o <;> first
    | exact hfit.elim
    | (refine ⟨w, h, rfl, fun e he => ?_⟩
       rcases Array.mem_push.1 he with he | rfl
       · exact .inl he
       · exact .inr fun y hy => by cases hy)
instance (r : Nat) : Stdy P (getObj r) := ⟨steady_getObj r⟩
theorem Cut.setCell {X : Snap} {w wc : World} (h : Cut X w wc) {a : Addr} (hx : X a.block = none) (v : Value) : Cut X (w.setCell a v) (wc.setCell a v) := by
 refine ⟨fun b c e hb => ?_, fun b hb => ?_, ?_, h.tape, h.drawn, h.os, h.output⟩
 · have hne : a.block ≠ b := fun e => by rw [e, hb] at hx; cases hx
   obtain ⟨h1, h2⟩ := h.is b c e hb
   constructor
   · show (w.heap.modify _ _)[b]? = _
     rw [Array.getElem?_modify, if_neg hne]; exact h1
   · show (wc.heap.modify _ _)[b]? = _
     rw [Array.getElem?_modify, if_neg hne]; exact h2
 · show (wc.heap.modify _ _)[b]? = (w.heap.modify _ _)[b]?
   rw [Array.getElem?_modify, Array.getElem?_modify, h.no b hb]
 · show (wc.heap.modify _ _).size = (w.heap.modify _ _).size
   simp [h.size]
theorem viewStore_cut {X : Snap} {w wc : World} (h : Cut X w wc) {at_ a : Addr} {u : TypeId} {v : Value} {b : Bool} {wc' : World} {l : List Addr} (hv : wc.viewStore P at_ u a v b = .ok (wc', l)) :
 X at_.block = none ∧ (∃ w', w.viewStore P at_ u a v b = .ok (w', l) ∧ Cut X w' wc') ∧ ∀ x ∈ l, x.block = at_.block := by
 cases hx : X at_.block with
 | some x =>
  obtain ⟨c, e⟩ := x
  obtain ⟨y, hy⟩ := seen_none (P := P) (w := wc) (at_ := at_) (k := a) (u := u) (b := b) (h.is _ _ _ hx).2
  unfold World.viewStore at hv
  cases ht : tight P P.depth u <;> simp only [ht, hy, bind, Except.bind, Bool.not_true, Bool.not_false, Bool.false_eq_true, if_true, if_false, reduceIte, pure, Except.pure, throw, throwThe, MonadExceptOf.throw] at hv <;> cases hv
 | none =>
  have e : w.seen P at_ u a b = wc.seen P at_ u a b := by
   unfold World.seen
   rw [h.no _ hx]
  unfold World.viewStore at hv ⊢
  rw [e]
  simp only [bind, Except.bind, pure, Except.pure, throw, throwThe, MonadExceptOf.throw] at hv ⊢
  cases ht : tight P P.depth u <;> simp only [ht, Bool.not_true, Bool.not_false, Bool.false_eq_true, if_true, if_false, reduceIte] at hv ⊢
  · cases hv
  cases hs : wc.seen P at_ u a b with
  | error y => simp only [hs] at hv; cases hv
  | ok x =>
   simp only [hs] at hv ⊢
   obtain ⟨c, e, fr, first, like, cells⟩ := x
   simp only [] at hv ⊢
   cases hb : v.bytes? with
   | none => simp only [hb] at hv; cases hv
   | some bytes =>
    simp only [hb] at hv ⊢
    by_cases hl : some bytes.length ≠ Option.map (fun x => x.length) like.bytes?
    · simp only [if_pos hl] at hv; cases hv
    · simp only [if_neg hl] at hv ⊢
      generalize (List.foldlM (m := Except String) _ _ _ : Except String (Array Value)) = Y at hv ⊢
      cases Y with
      | error _ => cases hv
      | ok Y =>
       simp only [Except.ok.injEq, Prod.mk.injEq] at hv ⊢
       obtain ⟨rfl, rfl⟩ := hv
       refine ⟨trivial, ⟨_, ⟨rfl, rfl⟩, ?_⟩, fun x hx' => ?_⟩
       · refine ⟨fun b c e hb => ?_, fun b hb => ?_, ?_, h.tape, h.drawn, h.os, h.output⟩
         · have hne : at_.block ≠ b := fun e => by rw [e, hb] at hx; cases hx
           obtain ⟨h1, h2⟩ := h.is b c e hb
           constructor
           · show (w.heap.setIfInBounds _ _)[b]? = _
             rw [al_gn hne]; exact h1
           · show (wc.heap.setIfInBounds _ _)[b]? = _
             rw [al_gn hne]; exact h2
         · show (wc.heap.setIfInBounds _ _)[b]? = (w.heap.setIfInBounds _ _)[b]?
           rw [al_gs, al_gs, h.no b hb, h.size]
         · show (wc.heap.setIfInBounds _ _).size = (w.heap.setIfInBounds _ _).size
           simp [h.size]
       · obtain ⟨y, _, rfl⟩ := List.mem_map.1 hx'
         rfl
theorem farStore_cut {X : Snap} {w wc : World} (h : Cut X w wc) {a : Addr} {v : Value} {b : Bool} {wc' : World} {l : List Addr} (hv : wc.farStore P a v b = .ok (wc', l)) :
 X a.block = none ∧ (∃ w', w.farStore P a v b = .ok (w', l) ∧ Cut X w' wc') ∧ ∀ x ∈ l, X x.block = none := by
 cases hx : X a.block with
 | some x =>
  obtain ⟨c, e⟩ := x
  unfold World.farStore at hv
  rw [(h.is _ _ _ hx).2] at hv
  cases hv
 | none =>
  have hh := h.no _ hx
  unfold World.farStore at hv ⊢
  rw [hh] at hv
  split at hv
  · rename_i at_ u he
    split at hv
    · rename_i r hr
      cases hv
      obtain ⟨h1, ⟨w', h2, h4⟩, h3⟩ := viewStore_cut h hr
      rw [h2]
      exact ⟨rfl, ⟨w', rfl, h4⟩, fun x hx' => by rw [h3 x hx']; exact h1⟩
    · cases hv
  · cases hv
theorem fit_farS {α : Type} {wc : World} {a : Addr} {v : Value} {b : Bool} {x : Halt} {w' : World} (hv : wc.farStore P a v b = .error x) : ¬ fit (Result.halt x w' : Result α) := by
 unfold World.farStore at hv
 split at hv
 · split at hv
   · cases hv
   · cases hv; exact id
 · cases hv
   unfold World.noCell
   split <;> exact id
theorem steady_store (a : Addr) (v : Value) (m : Mode) : zq2 P (store a v m) := by
 intro X w wc es h hfit
 unfold store at hfit ⊢
 by_cases hagg : (∃ c, v = .agg c) ∨ ∃ c, v = .tuple c
 · rcases hagg with ⟨c, rfl⟩ | ⟨c, rfl⟩ <;> exact hfit.elim
 · rw [runT_store hagg] at hfit ⊢
   rw [runT_store hagg w]
   cases hx : X a.block with
   | some x =>
    rw [h.cell_in hx] at hfit
    exfalso
    obtain ⟨c, e⟩ := x
    have : wc.farStore P a v (m == Mode.atomic) = .error (wc.noCell a "store: no such cell") := by
     unfold World.farStore; rw [(h.is _ _ _ hx).2]
    simp only [this] at hfit
    exact fit_farS this hfit
   | none =>
    rw [← h.cell_out hx]
    cases hc : wc.cell? a with
    | some v' =>
     rw [hc] at hfit
     simp only [] at hfit ⊢
     rw [← h.frozen a]
     by_cases hf : wc.frozen? a = true
     · simp only [hf, if_true] at hfit; exact hfit.elim
     · simp only [hf, Bool.false_eq_true, if_false] at hfit ⊢
       refine ⟨_, h.setCell hx v, rfl, fun e he => ?_⟩
       rcases Array.mem_push.1 he with he | rfl
       · exact .inl he
       · exact .inr fun y hy => by cases hy; exact hx
    | none =>
     rw [hc] at hfit
     simp only [] at hfit ⊢
     cases hf : wc.farStore P a v (m == Mode.atomic) with
     | ok x =>
      obtain ⟨wc', l⟩ := x
      obtain ⟨h1, ⟨w', h2, h4⟩, h3⟩ := farStore_cut h hf
      rw [h2]
      refine ⟨w', h4, rfl, fun e he => ?_⟩
      rcases Array.mem_append.1 he with he | he
      · exact .inl he
      · obtain ⟨y, hy, rfl⟩ := Array.mem_map.1 he
        exact .inr fun z hz => by cases hz; exact h3 y (by simpa using hy)
     | error x =>
      rw [hf] at hfit
      exact (fit_farS hf hfit).elim
instance (a : Addr) (v : Value) (m : Mode) : Stdy P (store a v m) := ⟨steady_store a v m⟩
end
section
variable {α β : Type} {P : Program}
theorem steady_underlying (t : TypeId) : zq2 P (underlying t) := by
 unfold underlying
 repeat' (first | with_reducible exact Stdy.out | with_reducible refine zq6 ?_ | with_reducible refine zq7 ?_ (fun _ => ?_) | with_reducible refine zq3 ?_ (fun _ => ?_) | exact fun _ _ => rfl | split | simp only [])
instance (t : TypeId) : Stdy P (underlying t) := ⟨steady_underlying t⟩
theorem steady_typeInfo (t : TypeId) : zq2 P (typeInfo t) := by
 unfold typeInfo
 repeat' (first | with_reducible exact Stdy.out | with_reducible refine zq6 ?_ | with_reducible refine zq7 ?_ (fun _ => ?_) | with_reducible refine zq3 ?_ (fun _ => ?_) | exact fun _ _ => rfl | split | simp only [])
instance (t : TypeId) : Stdy P (typeInfo t) := ⟨steady_typeInfo t⟩
theorem steady_sizeOf (t : TypeId) : zq2 P (sizeOf t) := by
 unfold sizeOf
 repeat' (first | with_reducible exact Stdy.out | with_reducible refine zq6 ?_ | with_reducible refine zq7 ?_ (fun _ => ?_) | with_reducible refine zq3 ?_ (fun _ => ?_) | exact fun _ _ => rfl | split | simp only [])
instance (t : TypeId) : Stdy P (sizeOf t) := ⟨steady_sizeOf t⟩
theorem steady_zeroValue (t : TypeId) : zq2 P (zeroValue t) := by
 unfold zeroValue
 repeat' (first | with_reducible exact Stdy.out | with_reducible refine zq6 ?_ | with_reducible refine zq7 ?_ (fun _ => ?_) | with_reducible refine zq3 ?_ (fun _ => ?_) | exact fun _ _ => rfl | split | simp only [])
instance (t : TypeId) : Stdy P (zeroValue t) := ⟨steady_zeroValue t⟩
theorem steady_isAgg (t : TypeId) : zq2 P (isAgg t) := by
 unfold isAgg
 repeat' (first | with_reducible exact Stdy.out | with_reducible refine zq6 ?_ | with_reducible refine zq7 ?_ (fun _ => ?_) | with_reducible refine zq3 ?_ (fun _ => ?_) | exact fun _ _ => rfl | split | simp only [])
instance (t : TypeId) : Stdy P (isAgg t) := ⟨steady_isAgg t⟩
theorem steady_elemOf (t : TypeId) : zq2 P (elemOf t) := by
 unfold elemOf
 repeat' (first | with_reducible exact Stdy.out | with_reducible refine zq6 ?_ | with_reducible refine zq7 ?_ (fun _ => ?_) | with_reducible refine zq3 ?_ (fun _ => ?_) | exact fun _ _ => rfl | split | simp only [])
instance (t : TypeId) : Stdy P (elemOf t) := ⟨steady_elemOf t⟩
theorem steady_typeStr (t : TypeId) : zq2 P (typeStr t) := by
 unfold typeStr
 repeat' (first | with_reducible exact Stdy.out | with_reducible refine zq6 ?_ | with_reducible refine zq7 ?_ (fun _ => ?_) | with_reducible refine zq3 ?_ (fun _ => ?_) | exact fun _ _ => rfl | split | simp only [])
instance (t : TypeId) : Stdy P (typeStr t) := ⟨steady_typeStr t⟩
theorem steady_loadCellsFrom (a : Addr) : ∀ (n i : Nat) (acc : Array Value), zq2 P (loadCellsFrom a i n acc)
 | 0, _, _ => steady_pure _
 | n + 1, _, _ => zq3 (steady_load _ _) fun _ => steady_loadCellsFrom a n _ _
theorem steady_loadCells (a : Addr) (n : Nat) : zq2 P (loadCells a n) := steady_loadCellsFrom a n 0 #[]
instance (a : Addr) (n : Nat) : Stdy P (loadCells a n) := ⟨steady_loadCells a n⟩
theorem steady_storeCells (a : Addr) : ∀ (vs : List Value) (i : Nat), zq2 P (storeCells a vs i)
 | [], _ => steady_pure _
 | _ :: r, i => zq3 (steady_store _ _ _) fun _ => steady_storeCells a r (i + 1)
instance (a : Addr) (vs : List Value) (i : Nat) : Stdy P (storeCells a vs i) := ⟨steady_storeCells a vs i⟩
theorem steady_loadVar (t : TypeId) (a : Addr) : zq2 P (loadVar t a) := by
 unfold loadVar
 repeat' (first | with_reducible exact Stdy.out | with_reducible refine zq6 ?_ | with_reducible refine zq7 ?_ (fun _ => ?_) | with_reducible refine zq3 ?_ (fun _ => ?_) | exact fun _ _ => rfl | split | simp only [])
instance (t : TypeId) (a : Addr) : Stdy P (loadVar t a) := ⟨steady_loadVar t a⟩
theorem steady_storeVar (t : TypeId) (a : Addr) (v : Value) : zq2 P (storeVar t a v) := by
 unfold storeVar
 repeat' (first | with_reducible exact Stdy.out | with_reducible refine zq6 ?_ | with_reducible refine zq7 ?_ (fun _ => ?_) | with_reducible refine zq3 ?_ (fun _ => ?_) | exact fun _ _ => rfl | split | simp only [])
theorem steady_newRow (t : TypeId) (c : Array Value) : zq2 P (newRow t c) := by
 unfold newRow
 repeat' (first | with_reducible exact Stdy.out | with_reducible refine zq6 ?_ | with_reducible refine zq7 ?_ (fun _ => ?_) | with_reducible refine zq3 ?_ (fun _ => ?_) | exact fun _ _ => rfl | split | simp only [])
instance (t : TypeId) (c : Array Value) : Stdy P (newRow t c) := ⟨steady_newRow t c⟩
theorem steady_newVar (t : TypeId) (v : Value) : zq2 P (newVar t v) := by
 unfold newVar
 repeat' (first | with_reducible exact Stdy.out | with_reducible refine zq6 ?_ | with_reducible refine zq7 ?_ (fun _ => ?_) | with_reducible refine zq3 ?_ (fun _ => ?_) | exact fun _ _ => rfl | split | simp only [])
instance (t : TypeId) (v : Value) : Stdy P (newVar t v) := ⟨steady_newVar t v⟩
theorem steady_part (t : TypeId) (cs : Array Value) (off : Nat) : zq2 P (part t cs off) := by
 unfold part
 repeat' (first | with_reducible exact Stdy.out | with_reducible refine zq6 ?_ | with_reducible refine zq7 ?_ (fun _ => ?_) | with_reducible refine zq3 ?_ (fun _ => ?_) | exact fun _ _ => rfl | split | simp only [])
instance (t : TypeId) (cs : Array Value) (off : Nat) : Stdy P (part t cs off) := ⟨steady_part t cs off⟩
theorem steady_runtimePanic (e : RuntimeError) : zq2 P (runtimePanic e : Sem α) := by
 unfold runtimePanic
 cases e <;> repeat' (first | with_reducible exact Stdy.out | with_reducible refine zq6 ?_ | with_reducible refine zq7 ?_ (fun _ => ?_) | with_reducible refine zq3 ?_ (fun _ => ?_) | exact fun _ _ => rfl | split | simp only [])
instance (e : RuntimeError) : Stdy P (runtimePanic e : Sem α) := ⟨steady_runtimePanic e⟩
theorem steady_boundsPanic (k : IntKind) (x y : Int) (c : BoundsCode) : zq2 P (boundsPanic k x y c : Sem α) := by
 unfold boundsPanic
 repeat' (first | with_reducible exact Stdy.out | with_reducible refine zq6 ?_ | with_reducible refine zq7 ?_ (fun _ => ?_) | with_reducible refine zq3 ?_ (fun _ => ?_) | exact fun _ _ => rfl | split | simp only [])
instance (k : IntKind) (x y : Int) (c : BoundsCode) : Stdy P (boundsPanic k x y c : Sem α) := ⟨steady_boundsPanic k x y c⟩
theorem steady_asIntOf (v : Value) : zq2 P (asIntOf v) := by
 unfold asIntOf
 repeat' (first | with_reducible exact Stdy.out | with_reducible refine zq6 ?_ | with_reducible refine zq7 ?_ (fun _ => ?_) | with_reducible refine zq3 ?_ (fun _ => ?_) | exact fun _ _ => rfl | split | simp only [])
instance (v : Value) : Stdy P (asIntOf v) := ⟨steady_asIntOf v⟩
theorem steady_asInt (v : Value) : zq2 P (asInt v) := by
 unfold asInt
 repeat' (first | with_reducible exact Stdy.out | with_reducible refine zq6 ?_ | with_reducible refine zq7 ?_ (fun _ => ?_) | with_reducible refine zq3 ?_ (fun _ => ?_) | exact fun _ _ => rfl | split | simp only [])
instance (v : Value) : Stdy P (asInt v) := ⟨steady_asInt v⟩
theorem steady_asBool (v : Value) : zq2 P (asBool v) := by
 unfold asBool
 repeat' (first | with_reducible exact Stdy.out | with_reducible refine zq6 ?_ | with_reducible refine zq7 ?_ (fun _ => ?_) | with_reducible refine zq3 ?_ (fun _ => ?_) | exact fun _ _ => rfl | split | simp only [])
instance (v : Value) : Stdy P (asBool v) := ⟨steady_asBool v⟩
theorem steady_asAgg (v : Value) : zq2 P (asAgg v) := by
 unfold asAgg
 repeat' (first | with_reducible exact Stdy.out | with_reducible refine zq6 ?_ | with_reducible refine zq7 ?_ (fun _ => ?_) | with_reducible refine zq3 ?_ (fun _ => ?_) | exact fun _ _ => rfl | split | simp only [])
instance (v : Value) : Stdy P (asAgg v) := ⟨steady_asAgg v⟩
theorem steady_asAddr (v : Value) : zq2 P (asAddr v) := by
 unfold asAddr
 repeat' (first | with_reducible exact Stdy.out | with_reducible refine zq6 ?_ | with_reducible refine zq7 ?_ (fun _ => ?_) | with_reducible refine zq3 ?_ (fun _ => ?_) | exact fun _ _ => rfl | split | simp only [])
instance (v : Value) : Stdy P (asAddr v) := ⟨steady_asAddr v⟩
theorem steady_sureAddr (v : Value) : zq2 P (Instr.sureAddr v) := by
 unfold Instr.sureAddr
 repeat' (first | with_reducible exact Stdy.out | with_reducible refine zq6 ?_ | with_reducible refine zq7 ?_ (fun _ => ?_) | with_reducible refine zq3 ?_ (fun _ => ?_) | exact fun _ _ => rfl | split | simp only [])
instance (v : Value) : Stdy P (Instr.sureAddr v) := ⟨steady_sureAddr v⟩
theorem steady_viewAt (r : Nat) : zq2 P (viewAt r) := by
 unfold viewAt
 refine zq7 (fun e n => rfl) fun x => ?_
 repeat' (first | with_reducible exact Stdy.out | with_reducible refine zq6 ?_ | with_reducible refine zq7 ?_ (fun _ => ?_) | with_reducible refine zq3 ?_ (fun _ => ?_) | exact fun _ _ => rfl | split | simp only [])
instance (r : Nat) : Stdy P (viewAt r) := ⟨steady_viewAt r⟩
theorem steady_noView (a : Addr) : zq2 P (noView a) := by
 unfold noView
 repeat' (first | with_reducible exact Stdy.out | with_reducible refine zq6 ?_ | with_reducible refine zq7 ?_ (fun _ => ?_) | with_reducible refine zq3 ?_ (fun _ => ?_) | exact fun _ _ => rfl | split | simp only [])
instance (a : Addr) : Stdy P (noView a) := ⟨steady_noView a⟩
theorem steady_byteOf (a : Addr) : zq2 P (byteOf a) := by
 unfold byteOf
 repeat' (first | with_reducible exact Stdy.out | with_reducible refine zq6 ?_ | with_reducible refine zq7 ?_ (fun _ => ?_) | with_reducible refine zq3 ?_ (fun _ => ?_) | exact fun _ _ => rfl | split | simp only [])
instance (a : Addr) : Stdy P (byteOf a) := ⟨steady_byteOf a⟩
theorem steady_partAt (a : Addr) (i j : Nat) : zq2 P (partAt a i j) := by
 unfold partAt
 repeat' (first | with_reducible exact Stdy.out | with_reducible refine zq6 ?_ | with_reducible refine zq7 ?_ (fun _ => ?_) | with_reducible refine zq3 ?_ (fun _ => ?_) | exact fun _ _ => rfl | split | simp only [])
instance (a : Addr) (i j : Nat) : Stdy P (partAt a i j) := ⟨steady_partAt a i j⟩
theorem steady_fieldPlace (a : Addr) (f : Field) : zq2 P (fieldPlace a f) := by
 unfold fieldPlace
 repeat' (first | with_reducible exact Stdy.out | with_reducible refine zq6 ?_ | with_reducible refine zq7 ?_ (fun _ => ?_) | with_reducible refine zq3 ?_ (fun _ => ?_) | exact fun _ _ => rfl | split | simp only [])
instance (a : Addr) (f : Field) : Stdy P (fieldPlace a f) := ⟨steady_fieldPlace a f⟩
theorem steady_alloc (t : TypeId) : zq2 P (Instr.alloc t true (.tuple #[])) := by
 unfold Instr.alloc
 repeat' (first | with_reducible exact Stdy.out | with_reducible refine zq6 ?_ | with_reducible refine zq7 ?_ (fun _ => ?_) | with_reducible refine zq3 ?_ (fun _ => ?_) | exact fun _ _ => rfl | split | simp only [])
instance (t : TypeId) : Stdy P (Instr.alloc t true (.tuple #[])) := ⟨steady_alloc t⟩
theorem steady_box (t : TypeId) (v : Value) : zq2 P (Instr.box t v) := by
 unfold Instr.box
 repeat' (first | with_reducible exact Stdy.out | with_reducible refine zq6 ?_ | with_reducible refine zq7 ?_ (fun _ => ?_) | with_reducible refine zq3 ?_ (fun _ => ?_) | exact fun _ _ => rfl | split | simp only [])
instance (t : TypeId) (v : Value) : Stdy P (Instr.box t v) := ⟨steady_box t v⟩
theorem steady_mapM {γ δ : Type} (f : γ → Sem δ) (h : ∀ a, zq2 P (f a)) (l : List γ) : zq2 P (l.mapM f) := by
 induction l with
 | nil => exact steady_pure _
 | cons a l ih => rw [List.mapM_cons]; exact zq3 (h a) fun _ => zq3 ih fun _ => steady_pure _
theorem steady_mapMA {γ δ : Type} (f : γ → Sem δ) (h : ∀ a, zq2 P (f a)) (l : Array γ) : zq2 P (l.mapM f) := by
 rw [Array.mapM_eq_mapM_toList]
 exact zq6 (steady_mapM f h _)
instance {γ δ : Type} (f : γ → Sem δ) [h : ∀ a, Stdy P (f a)] (l : Array γ) : Stdy P (l.mapM f) := ⟨steady_mapMA f (fun a => (h a).out) l⟩
instance {γ δ : Type} (s : Sem γ) (f : γ → Sem δ) [hs : Stdy P s] [h : ∀ a, Stdy P (f a)] : Stdy P (s >>= f) := ⟨zq3 hs.out (fun a => (h a).out)⟩
theorem steady_build (t : TypeId) (ps : Array (Nat × Value)) : zq2 P (Instr.build t ps) := by
 unfold Instr.build
 repeat' (first | with_reducible exact Stdy.out | with_reducible refine zq6 ?_ | with_reducible refine zq7 ?_ (fun _ => ?_) | with_reducible refine zq3 ?_ (fun _ => ?_) | exact fun _ _ => rfl | split | simp only [])
instance (t : TypeId) (ps : Array (Nat × Value)) : Stdy P (Instr.build t ps) := ⟨steady_build t ps⟩
theorem steady_buildSlice (t : TypeId) (n : Nat) (ps : Array (Nat × Value)) : zq2 P (Instr.buildSlice t n ps) := by
 unfold Instr.buildSlice
 repeat' (first | with_reducible exact Stdy.out | with_reducible refine zq6 ?_ | with_reducible refine zq7 ?_ (fun _ => ?_) | with_reducible refine zq3 ?_ (fun _ => ?_) | exact fun _ _ => rfl | split | simp only [])
instance (t : TypeId) (n : Nat) (ps : Array (Nat × Value)) : Stdy P (Instr.buildSlice t n ps) := ⟨steady_buildSlice t n ps⟩
theorem steady_loadAt (t : TypeId) (v : Value) : zq2 P (Instr.loadAt t v) := by
 unfold Instr.loadAt
 repeat' (first | with_reducible exact Stdy.out | with_reducible refine zq6 ?_ | with_reducible refine zq7 ?_ (fun _ => ?_) | with_reducible refine zq3 ?_ (fun _ => ?_) | exact fun _ _ => rfl | split | simp only [])
instance (t : TypeId) (v : Value) : Stdy P (Instr.loadAt t v) := ⟨steady_loadAt t v⟩
theorem steady_storeAt (t : TypeId) (v x : Value) : zq2 P (Instr.storeAt t v x) := zq3 (steady_sureAddr v) fun _ => steady_storeVar t _ x
instance (t : TypeId) (v x : Value) : Stdy P (Instr.storeAt t v x) := ⟨steady_storeAt t v x⟩
theorem steady_fieldAt (t : TypeId) (v : Value) (i : Nat) : zq2 P (Instr.fieldAt t v i) := by
 unfold Instr.fieldAt
 repeat' (first | with_reducible exact Stdy.out | with_reducible refine zq6 ?_ | with_reducible refine zq7 ?_ (fun _ => ?_) | with_reducible refine zq3 ?_ (fun _ => ?_) | exact fun _ _ => rfl | split | simp only [])
instance (t : TypeId) (v : Value) (i : Nat) : Stdy P (Instr.fieldAt t v i) := ⟨steady_fieldAt t v i⟩
theorem steady_indexAt (t : TypeId) (v x : Value) : zq2 P (Instr.indexAt t v x) := by
 unfold Instr.indexAt
 repeat' (first | with_reducible exact Stdy.out | with_reducible refine zq6 ?_ | with_reducible refine zq7 ?_ (fun _ => ?_) | with_reducible refine zq3 ?_ (fun _ => ?_) | exact fun _ _ => rfl | split | simp only [])
instance (t : TypeId) (v x : Value) : Stdy P (Instr.indexAt t v x) := ⟨steady_indexAt t v x⟩
theorem steady_sliceBound (v : Value) (y : Nat) (c : BoundsCode) : zq2 P (Instr.sliceBound v y c) := by
 unfold Instr.sliceBound
 repeat' (first | with_reducible exact Stdy.out | with_reducible refine zq6 ?_ | with_reducible refine zq7 ?_ (fun _ => ?_) | with_reducible refine zq3 ?_ (fun _ => ?_) | exact fun _ _ => rfl | split | simp only [])
instance (v : Value) (y : Nat) (c : BoundsCode) : Stdy P (Instr.sliceBound v y c) := ⟨steady_sliceBound v y c⟩
theorem steady_sliceBounds (b : Bool) (n m : Nat) (x y z : Option Value) : zq2 P (Instr.sliceBounds b n m x y z) := by
 unfold Instr.sliceBounds
 repeat' (first | with_reducible exact Stdy.out | with_reducible refine zq6 ?_ | with_reducible refine zq7 ?_ (fun _ => ?_) | with_reducible refine zq3 ?_ (fun _ => ?_) | exact fun _ _ => rfl | split | simp only [])
instance (b : Bool) (n m : Nat) (x y z : Option Value) : Stdy P (Instr.sliceBounds b n m x y z) := ⟨steady_sliceBounds b n m x y z⟩
theorem steady_slice (t : TypeId) (v : Value) (x y z : Option Value) : zq2 P (Instr.slice t v x y z) := by
 unfold Instr.slice
 repeat' (first | with_reducible exact Stdy.out | with_reducible refine zq6 ?_ | with_reducible refine zq7 ?_ (fun _ => ?_) | with_reducible refine zq3 ?_ (fun _ => ?_) | exact fun _ _ => rfl | split | simp only [])
instance (t : TypeId) (v : Value) (x y z : Option Value) : Stdy P (Instr.slice t v x y z) := ⟨steady_slice t v x y z⟩
theorem steady_sliceAt (t : TypeId) (v : Value) (x y z : Option Value) : zq2 P (Instr.sliceAt t v x y z) := by
 unfold Instr.sliceAt
 repeat' (first | with_reducible exact Stdy.out | with_reducible refine zq6 ?_ | with_reducible refine zq7 ?_ (fun _ => ?_) | with_reducible refine zq3 ?_ (fun _ => ?_) | exact fun _ _ => rfl | split | simp only [])
instance (t : TypeId) (v : Value) (x y z : Option Value) : Stdy P (Instr.sliceAt t v x y z) := ⟨steady_sliceAt t v x y z⟩
theorem steady_makeInterface (t : TypeId) (v : Value) : zq2 P (Instr.makeInterface t v) := by
 unfold Instr.makeInterface
 repeat' (first | with_reducible exact Stdy.out | with_reducible refine zq6 ?_ | with_reducible refine zq7 ?_ (fun _ => ?_) | with_reducible refine zq3 ?_ (fun _ => ?_) | exact fun _ _ => rfl | split | simp only [])
instance (t : TypeId) (v : Value) : Stdy P (Instr.makeInterface t v) := ⟨steady_makeInterface t v⟩
theorem steady_makeFunc (f : Fn) (a b : Array Value) : zq2 P (Instr.makeFunc f a b) := by
 unfold Instr.makeFunc
 repeat' (first | with_reducible exact Stdy.out | with_reducible refine zq6 ?_ | with_reducible refine zq7 ?_ (fun _ => ?_) | with_reducible refine zq3 ?_ (fun _ => ?_) | exact fun _ _ => rfl | split | simp only [])
instance (f : Fn) (a b : Array Value) : Stdy P (Instr.makeFunc f a b) := ⟨steady_makeFunc f a b⟩
theorem steady_makeChan (t : TypeId) (v : Value) : zq2 P (Instr.makeChan t v) := by
 unfold Instr.makeChan
 repeat' (first | with_reducible exact Stdy.out | with_reducible refine zq6 ?_ | with_reducible refine zq7 ?_ (fun _ => ?_) | with_reducible refine zq3 ?_ (fun _ => ?_) | exact fun _ _ => rfl | split | simp only [])
instance (t : TypeId) (v : Value) : Stdy P (Instr.makeChan t v) := ⟨steady_makeChan t v⟩
theorem steady_askRoom (n : Nat) : zq2 P (askRoom n) := by
 unfold askRoom
 repeat' (first | with_reducible exact Stdy.out | with_reducible refine zq6 ?_ | with_reducible refine zq7 ?_ (fun _ => ?_) | with_reducible refine zq3 ?_ (fun _ => ?_) | exact fun _ _ => rfl | split | simp only [])
instance (n : Nat) : Stdy P (askRoom n) := ⟨steady_askRoom n⟩
theorem steady_makeSlice (t : TypeId) (a b : Value) : zq2 P (Instr.makeSlice t a b) := by
 unfold Instr.makeSlice
 repeat' (first | with_reducible exact Stdy.out | with_reducible refine zq6 ?_ | with_reducible refine zq7 ?_ (fun _ => ?_) | with_reducible refine zq3 ?_ (fun _ => ?_) | exact fun _ _ => rfl | split | simp only [])
instance (t : TypeId) (a b : Value) : Stdy P (Instr.makeSlice t a b) := ⟨steady_makeSlice t a b⟩
theorem steady_field (t : TypeId) (v : Value) (i : Nat) : zq2 P (Instr.field t v i) := by
 unfold Instr.field
 repeat' (first | with_reducible exact Stdy.out | with_reducible refine zq6 ?_ | with_reducible refine zq7 ?_ (fun _ => ?_) | with_reducible refine zq3 ?_ (fun _ => ?_) | exact fun _ _ => rfl | split | simp only [])
instance (t : TypeId) (v : Value) (i : Nat) : Stdy P (Instr.field t v i) := ⟨steady_field t v i⟩
theorem steady_index (t : TypeId) (v x : Value) : zq2 P (Instr.index t v x) := by
 unfold Instr.index
 repeat' (first | with_reducible exact Stdy.out | with_reducible refine zq6 ?_ | with_reducible refine zq7 ?_ (fun _ => ?_) | with_reducible refine zq3 ?_ (fun _ => ?_) | exact fun _ _ => rfl | split | simp only [])
instance (t : TypeId) (v x : Value) : Stdy P (Instr.index t v x) := ⟨steady_index t v x⟩
theorem steady_extract (v : Value) (i : Nat) : zq2 P (Instr.extract v i) := by
 unfold Instr.extract
 repeat' (first | with_reducible exact Stdy.out | with_reducible refine zq6 ?_ | with_reducible refine zq7 ?_ (fun _ => ?_) | with_reducible refine zq3 ?_ (fun _ => ?_) | exact fun _ _ => rfl | split | simp only [])
instance (v : Value) (i : Nat) : Stdy P (Instr.extract v i) := ⟨steady_extract v i⟩
theorem steady_typeAssert (v : Value) (t u : TypeId) (b : Bool) : zq2 P (Instr.typeAssert v t u b) := by
 unfold Instr.typeAssert
 repeat' (first | with_reducible exact Stdy.out | with_reducible refine zq6 ?_ | with_reducible refine zq7 ?_ (fun _ => ?_) | with_reducible refine zq3 ?_ (fun _ => ?_) | exact fun _ _ => rfl | split | simp only [])
instance (v : Value) (t u : TypeId) (b : Bool) : Stdy P (Instr.typeAssert v t u b) := ⟨steady_typeAssert v t u b⟩
theorem steady_intArith (o : BinOp) (k : IntKind) (x y : Int) : zq2 P (Op.intArith o k x y) := by
 unfold Op.intArith
 repeat' (first | with_reducible exact Stdy.out | with_reducible refine zq6 ?_ | with_reducible refine zq7 ?_ (fun _ => ?_) | with_reducible refine zq3 ?_ (fun _ => ?_) | exact fun _ _ => rfl | split | simp only [])
instance (o : BinOp) (k : IntKind) (x y : Int) : Stdy P (Op.intArith o k x y) := ⟨steady_intArith o k x y⟩
theorem steady_intDiv (o : BinOp) (k : IntKind) (x y : Int) : zq2 P (Op.intDiv o k x y) := by
 unfold Op.intDiv
 repeat' (first | with_reducible exact Stdy.out | with_reducible refine zq6 ?_ | with_reducible refine zq7 ?_ (fun _ => ?_) | with_reducible refine zq3 ?_ (fun _ => ?_) | exact fun _ _ => rfl | split | simp only [])
instance (o : BinOp) (k : IntKind) (x y : Int) : Stdy P (Op.intDiv o k x y) := ⟨steady_intDiv o k x y⟩
theorem steady_intBits (o : BinOp) (k : IntKind) (x y : Int) : zq2 P (Op.intBits o k x y) := by
 unfold Op.intBits
 repeat' (first | with_reducible exact Stdy.out | with_reducible refine zq6 ?_ | with_reducible refine zq7 ?_ (fun _ => ?_) | with_reducible refine zq3 ?_ (fun _ => ?_) | exact fun _ _ => rfl | split | simp only [])
instance (o : BinOp) (k : IntKind) (x y : Int) : Stdy P (Op.intBits o k x y) := ⟨steady_intBits o k x y⟩
theorem steady_intCmp (o : BinOp) (x y : Int) : zq2 P (Op.intCmp o x y) := by
 unfold Op.intCmp
 repeat' (first | with_reducible exact Stdy.out | with_reducible refine zq6 ?_ | with_reducible refine zq7 ?_ (fun _ => ?_) | with_reducible refine zq3 ?_ (fun _ => ?_) | exact fun _ _ => rfl | split | simp only [])
instance (o : BinOp) (x y : Int) : Stdy P (Op.intCmp o x y) := ⟨steady_intCmp o x y⟩
theorem steady_shift (o : BinOp) (k : IntKind) (x : Int) (l : IntKind) (y : Int) : zq2 P (Op.shift o k x l y) := by
 unfold Op.shift
 repeat' (first | with_reducible exact Stdy.out | with_reducible refine zq6 ?_ | with_reducible refine zq7 ?_ (fun _ => ?_) | with_reducible refine zq3 ?_ (fun _ => ?_) | exact fun _ _ => rfl | split | simp only [])
instance (o : BinOp) (k : IntKind) (x : Int) (l : IntKind) (y : Int) : Stdy P (Op.shift o k x l y) := ⟨steady_shift o k x l y⟩
theorem steady_floatArith (o : BinOp) (k : FloatKind) (x y : Nat) : zq2 P (Op.floatArith o k x y) := by
 unfold Op.floatArith
 repeat' (first | with_reducible exact Stdy.out | with_reducible refine zq6 ?_ | with_reducible refine zq7 ?_ (fun _ => ?_) | with_reducible refine zq3 ?_ (fun _ => ?_) | exact fun _ _ => rfl | split | simp only [])
instance (o : BinOp) (k : FloatKind) (x y : Nat) : Stdy P (Op.floatArith o k x y) := ⟨steady_floatArith o k x y⟩
theorem steady_floatCmp (o : BinOp) (k : FloatKind) (x y : Nat) : zq2 P (Op.floatCmp o k x y) := by
 unfold Op.floatCmp
 repeat' (first | with_reducible exact Stdy.out | with_reducible refine zq6 ?_ | with_reducible refine zq7 ?_ (fun _ => ?_) | with_reducible refine zq3 ?_ (fun _ => ?_) | exact fun _ _ => rfl | split | simp only [])
instance (o : BinOp) (k : FloatKind) (x y : Nat) : Stdy P (Op.floatCmp o k x y) := ⟨steady_floatCmp o k x y⟩
theorem steady_stringOp (o : BinOp) (x y : ByteArray) : zq2 P (Op.stringOp o x y) := by
 unfold Op.stringOp
 repeat' (first | with_reducible exact Stdy.out | with_reducible refine zq6 ?_ | with_reducible refine zq7 ?_ (fun _ => ?_) | with_reducible refine zq3 ?_ (fun _ => ?_) | exact fun _ _ => rfl | split | simp only [])
instance (o : BinOp) (x y : ByteArray) : Stdy P (Op.stringOp o x y) := ⟨steady_stringOp o x y⟩
theorem steady_floatToFloat (k : FloatKind) (x : Nat) (l : FloatKind) : zq2 P (Conv.floatToFloat k x l) := by
 unfold Conv.floatToFloat
 repeat' (first | with_reducible exact Stdy.out | with_reducible refine zq6 ?_ | with_reducible refine zq7 ?_ (fun _ => ?_) | with_reducible refine zq3 ?_ (fun _ => ?_) | exact fun _ _ => rfl | split | simp only [])
instance (k : FloatKind) (x : Nat) (l : FloatKind) : Stdy P (Conv.floatToFloat k x l) := ⟨steady_floatToFloat k x l⟩
theorem steady_carith (o : BinOp) (k : FloatKind) (x y : Nat) : zq2 P (Op.Complex.arith o k x y) := by
 unfold Op.Complex.arith
 repeat' (first | with_reducible exact Stdy.out | with_reducible refine zq6 ?_ | with_reducible refine zq7 ?_ (fun _ => ?_) | with_reducible refine zq3 ?_ (fun _ => ?_) | exact fun _ _ => rfl | split | simp only [])
instance (o : BinOp) (k : FloatKind) (x y : Nat) : Stdy P (Op.Complex.arith o k x y) := ⟨steady_carith o k x y⟩
theorem steady_ccmp (o : BinOp) (k : FloatKind) (x y : Nat) : zq2 P (Op.Complex.cmp o k x y) := by
 unfold Op.Complex.cmp
 repeat' (first | with_reducible exact Stdy.out | with_reducible refine zq6 ?_ | with_reducible refine zq7 ?_ (fun _ => ?_) | with_reducible refine zq3 ?_ (fun _ => ?_) | exact fun _ _ => rfl | split | simp only [])
instance (o : BinOp) (k : FloatKind) (x y : Nat) : Stdy P (Op.Complex.cmp o k x y) := ⟨steady_ccmp o k x y⟩
theorem steady_cconv (k : FloatKind) (x : Nat) (l : FloatKind) : zq2 P (Op.Complex.conv k x l) := by
 unfold Op.Complex.conv
 repeat' (first | with_reducible exact Stdy.out | with_reducible refine zq6 ?_ | with_reducible refine zq7 ?_ (fun _ => ?_) | with_reducible refine zq3 ?_ (fun _ => ?_) | exact fun _ _ => rfl | split | simp only [])
instance (k : FloatKind) (x : Nat) (l : FloatKind) : Stdy P (Op.Complex.conv k x l) := ⟨steady_cconv k x l⟩
theorem steady_cadd (x y : Nat) : zq2 P (Op.Complex.add x y) := by
 unfold Op.Complex.add
 repeat' (first | with_reducible exact Stdy.out | with_reducible refine zq6 ?_ | with_reducible refine zq7 ?_ (fun _ => ?_) | with_reducible refine zq3 ?_ (fun _ => ?_) | exact fun _ _ => rfl | split | simp only [])
instance (x y : Nat) : Stdy P (Op.Complex.add x y) := ⟨steady_cadd x y⟩
theorem steady_csub (x y : Nat) : zq2 P (Op.Complex.sub x y) := by
 unfold Op.Complex.sub
 repeat' (first | with_reducible exact Stdy.out | with_reducible refine zq6 ?_ | with_reducible refine zq7 ?_ (fun _ => ?_) | with_reducible refine zq3 ?_ (fun _ => ?_) | exact fun _ _ => rfl | split | simp only [])
instance (x y : Nat) : Stdy P (Op.Complex.sub x y) := ⟨steady_csub x y⟩
theorem steady_cmul (x y : Nat) : zq2 P (Op.Complex.mul x y) := by
 unfold Op.Complex.mul
 repeat' (first | with_reducible exact Stdy.out | with_reducible refine zq6 ?_ | with_reducible refine zq7 ?_ (fun _ => ?_) | with_reducible refine zq3 ?_ (fun _ => ?_) | exact fun _ _ => rfl | split | simp only [])
instance (x y : Nat) : Stdy P (Op.Complex.mul x y) := ⟨steady_cmul x y⟩
theorem steady_cquo (x y : Nat) : zq2 P (Op.Complex.quo x y) := by
 unfold Op.Complex.quo
 repeat' (first | with_reducible exact Stdy.out | with_reducible refine zq6 ?_ | with_reducible refine zq7 ?_ (fun _ => ?_) | with_reducible refine zq3 ?_ (fun _ => ?_) | exact fun _ _ => rfl | split | simp only [])
instance (x y : Nat) : Stdy P (Op.Complex.quo x y) := ⟨steady_cquo x y⟩
theorem steady_product (a b c d : Nat) : zq2 P (Op.Complex.product a b c d) := by
 unfold Op.Complex.product
 repeat' (first | with_reducible exact Stdy.out | with_reducible refine zq6 ?_ | with_reducible refine zq7 ?_ (fun _ => ?_) | with_reducible refine zq3 ?_ (fun _ => ?_) | exact fun _ _ => rfl | split | simp only [])
instance (a b c d : Nat) : Stdy P (Op.Complex.product a b c d) := ⟨steady_product a b c d⟩
theorem steady_corrected (s a b c d : Nat) : zq2 P (Op.Complex.corrected s a b c d) := by
 unfold Op.Complex.corrected
 repeat' (first | with_reducible exact Stdy.out | with_reducible refine zq6 ?_ | with_reducible refine zq7 ?_ (fun _ => ?_) | with_reducible refine zq3 ?_ (fun _ => ?_) | exact fun _ _ => rfl | split | simp only [])
instance (s a b c d : Nat) : Stdy P (Op.Complex.corrected s a b c d) := ⟨steady_corrected s a b c d⟩
theorem steady_quotient (a b c d : Nat) : zq2 P (Op.Complex.quotient a b c d) := by
 unfold Op.Complex.quotient
 repeat' (first | with_reducible exact Stdy.out | with_reducible refine zq6 ?_ | with_reducible refine zq7 ?_ (fun _ => ?_) | with_reducible refine zq3 ?_ (fun _ => ?_) | exact fun _ _ => rfl | split | simp only [])
instance (a b c d : Nat) : Stdy P (Op.Complex.quotient a b c d) := ⟨steady_quotient a b c d⟩
theorem steady_complexOp (o : BinOp) (k : FloatKind) (a b c d : Nat) : zq2 P (Op.complexOp o k a b c d) := by
 unfold Op.complexOp
 repeat' (first | with_reducible exact Stdy.out | with_reducible refine zq6 ?_ | with_reducible refine zq7 ?_ (fun _ => ?_) | with_reducible refine zq3 ?_ (fun _ => ?_) | exact fun _ _ => rfl | split | simp only [])
instance (o : BinOp) (k : FloatKind) (a b c d : Nat) : Stdy P (Op.complexOp o k a b c d) := ⟨steady_complexOp o k a b c d⟩
theorem steady_numberAt (r : Nat) : zq2 P (numberAt r) := by
 unfold numberAt
 refine zq7 (fun e n => rfl) fun x => ?_
 repeat' (first | with_reducible exact Stdy.out | with_reducible refine zq6 ?_ | with_reducible refine zq7 ?_ (fun _ => ?_) | with_reducible refine zq3 ?_ (fun _ => ?_) | exact fun _ _ => rfl | split | simp only [])
instance (r : Nat) : Stdy P (numberAt r) := ⟨steady_numberAt r⟩
theorem steady_behindNumber (a : Addr) : zq2 P (behindNumber a) := by
 unfold behindNumber
 repeat' (first | with_reducible exact Stdy.out | with_reducible refine zq6 ?_ | with_reducible refine zq7 ?_ (fun _ => ?_) | with_reducible refine zq3 ?_ (fun _ => ?_) | exact fun _ _ => rfl | split | simp only [])
instance (a : Addr) : Stdy P (behindNumber a) := ⟨steady_behindNumber a⟩
theorem steady_asNumber (a : Addr) (b : Bool) : zq2 P (asNumber a b) := by
 unfold asNumber
 repeat' (first | with_reducible exact Stdy.out | with_reducible refine zq6 ?_ | with_reducible refine zq7 ?_ (fun _ => ?_) | with_reducible refine zq3 ?_ (fun _ => ?_) | exact fun _ _ => rfl | split | simp only [])
instance (a : Addr) (b : Bool) : Stdy P (asNumber a b) := ⟨steady_asNumber a b⟩
theorem runT_stringish (w : World) (es : Array Event) (a : Addr) : (stringish a).runT P w es = (.ok (w.frozen? a || match w.shape? a.block with | some (_, n) => w.frozen? ⟨a.block, n, none⟩ | none => false) w, es) := by
 unfold stringish
 have e : (frozen a).runT P w es = (.ok (w.frozen? a) w, es) := rfl
 rw [runT_bind, e]
 simp only []
 cases hf : w.frozen? a with
 | true => rfl
 | false =>
  simp only [Bool.false_eq_true, if_false, Bool.false_or]
  show ((match w.shape? a.block with | some (_, n) => frozen { block := a.block, off := n } | none => pure false : Sem Bool)).runT P w es = _
  cases w.shape? a.block with
  | none => rfl
  | some x => rfl
def strB (w : World) (a : Addr) : Bool := w.frozen? a || match w.shape? a.block with | some (_, n) => w.frozen? ⟨a.block, n, none⟩ | none => false
def noneB (w : World) (a : Addr) : Bool := match w.shape? a.block with | some (_, 0) => true | _ => false
theorem strB_cut {X : Snap} {w wc : World} (h : Cut X w wc) (a : Addr) : strB wc a = strB w a := by
 unfold strB
 rw [h.frozen]
 cases hx : X a.block with
 | none => rw [h.shape_out hx]; congr 1; split <;> first | exact h.frozen _ | rfl
 | some x =>
  obtain ⟨c, e⟩ := x
  obtain ⟨h1, h2⟩ := h.shape_in hx
  rw [h1, h2]
  simp only []
  rw [h.frozen, h.frozen_in (a := ⟨a.block, 0, none⟩) hx, h.frozen_in (a := ⟨a.block, c.size, none⟩) hx]
theorem strB_in {X : Snap} {w wc : World} (h : Cut X w wc) {a : Addr} {x} (hx : X a.block = some x) : strB w a = false := by
 obtain ⟨c, e⟩ := x
 unfold strB
 rw [h.frozen_in hx, (h.shape_in hx).1]
 simp only [Bool.false_or]
 exact h.frozen_in (a := ⟨a.block, c.size, none⟩) hx
theorem runT_mayBeOne (w : World) (es : Array Event) (a b : Addr) : (mayBeOne a b).runT P w es = (.ok ((strB w a && strB w b) || (strB w a && noneB w a) || (strB w b && noneB w b)) w, es) := by
 unfold mayBeOne
 simp only []
 rw [runT_bind, runT_stringish]
 simp only []
 rw [runT_bind, runT_stringish]
 simp only []
 rfl
theorem steady_mayBeOne (a b : Addr) : zq2 P (mayBeOne a b) := by
 intro X w wc es h hfit
 rw [runT_mayBeOne, runT_mayBeOne]
 refine ⟨w, h, ?_, fun e he => .inl he⟩
 rw [strB_cut h, strB_cut h]
 have key : ∀ a : Addr, (strB w a && noneB wc a) = (strB w a && noneB w a) := fun a => by
  cases hx : X a.block with
  | none => unfold noneB; rw [h.shape_out hx]
  | some x => rw [strB_in h hx]; rfl
 rw [key, key]
 rfl
instance (a b : Addr) : Stdy P (mayBeOne a b) := ⟨steady_mayBeOne a b⟩
theorem steady_sameAddr (a b : Addr) : zq2 P (sameAddr a b) := by
 unfold sameAddr
 repeat' (first | with_reducible exact Stdy.out | with_reducible refine zq6 ?_ | with_reducible refine zq7 ?_ (fun _ => ?_) | with_reducible refine zq3 ?_ (fun _ => ?_) | exact fun _ _ => rfl | split | simp only [])
instance (a b : Addr) : Stdy P (sameAddr a b) := ⟨steady_sameAddr a b⟩
theorem steady_samePointer (a b : Option Addr) : zq2 P (samePointer a b) := by
 unfold samePointer
 repeat' (first | with_reducible exact Stdy.out | with_reducible refine zq6 ?_ | with_reducible refine zq7 ?_ (fun _ => ?_) | with_reducible refine zq3 ?_ (fun _ => ?_) | exact fun _ _ => rfl | split | simp only [])
instance (a b : Option Addr) : Stdy P (samePointer a b) := ⟨steady_samePointer a b⟩
theorem steady_twoPlaces (a b : Addr) : zq2 P (Op.twoPlaces a b) := by
 unfold Op.twoPlaces
 repeat' (first | with_reducible exact Stdy.out | with_reducible refine zq6 ?_ | with_reducible refine zq7 ?_ (fun _ => ?_) | with_reducible refine zq3 ?_ (fun _ => ?_) | exact fun _ _ => rfl | split | simp only [])
instance (a b : Addr) : Stdy P (Op.twoPlaces a b) := ⟨steady_twoPlaces a b⟩
theorem steady_addrSub (k : IntKind) (a b : Addr) : zq2 P (Op.addrSub k a b) := by
 unfold Op.addrSub
 repeat' (first | with_reducible exact Stdy.out | with_reducible refine zq6 ?_ | with_reducible refine zq7 ?_ (fun _ => ?_) | with_reducible refine zq3 ?_ (fun _ => ?_) | exact fun _ _ => rfl | split | simp only [])
instance (k : IntKind) (a b : Addr) : Stdy P (Op.addrSub k a b) := ⟨steady_addrSub k a b⟩
theorem steady_addrCmp (o : BinOp) (a b : Addr) : zq2 P (Op.addrCmp o a b) := by
 unfold Op.addrCmp
 repeat' (first | with_reducible exact Stdy.out | with_reducible refine zq6 ?_ | with_reducible refine zq7 ?_ (fun _ => ?_) | with_reducible refine zq3 ?_ (fun _ => ?_) | exact fun _ _ => rfl | split | simp only [])
instance (o : BinOp) (a b : Addr) : Stdy P (Op.addrCmp o a b) := ⟨steady_addrCmp o a b⟩
theorem steady_addrMod (k : IntKind) (a : Addr) (n : Int) : zq2 P (Op.addrMod k a n) := by
 unfold Op.addrMod
 refine zq7 (fun e n => rfl) fun x => ?_
 repeat' (first | with_reducible exact Stdy.out | with_reducible refine zq6 ?_ | with_reducible refine zq7 ?_ (fun _ => ?_) | with_reducible refine zq3 ?_ (fun _ => ?_) | exact fun _ _ => rfl | split | simp only [])
instance (k : IntKind) (a : Addr) (n : Int) : Stdy P (Op.addrMod k a n) := ⟨steady_addrMod k a n⟩
theorem steady_shapeD {r : Nat} {f : Option (TypeId × Nat) → Sem β} (he : ∀ e w es, ¬ fit ((f (some (e, 0))).runT P w es).1) (hf : ∀ x, zq2 P (f x)) : zq2 P (shape r >>= f) := by
 intro X w wc es h hfit
 have e1 : ∀ w, (shape r >>= f).runT P w es = (f (w.shape? r)).runT P w es := fun w => rfl
 rw [e1] at hfit
 rw [e1, e1]
 cases hx : X r with
 | none => rw [h.shape_out hx] at hfit ⊢; exact hf _ X w wc es h hfit
 | some x =>
  obtain ⟨c, e⟩ := x
  rw [(h.shape_in hx).2] at hfit
  exact absurd hfit (he _ _ _)
theorem cellAt_none (p : Program) (d : Nat) (e : TypeId) (off : Nat) (n : Int) : cellAtBytes p d e 0 off n = none := by
 unfold cellAtBytes
 simp only [bind, Option.bind]
 split
 · rfl
 · split
   · rfl
   · simp only []
     rw [if_pos (by simp; omega)]
theorem steady_unsafeAdd (t : TypeId) (x : Option Addr) (y : Value) : zq2 P (Builtin.unsafeAdd_ #[] t #[.pointer x, y]) := by
 refine zq3 (s := asInt y) (steady_asInt y) (fun n => ?_)
 repeat' (first | with_reducible exact Stdy.out | with_reducible refine zq6 ?_ | with_reducible refine steady_shapeD ?_ (fun _ => ?_) | with_reducible refine zq3 ?_ (fun _ => ?_) | exact fun _ _ => rfl | split | simp only [])
 all_goals (intro e w es hfit; rw [runT_bind] at hfit; simp only [program, Sem.runT, Nat.zero_div, cellAt_none] at hfit; exact hfit)
theorem steady_unsafeAddV (t : TypeId) (x y : Value) : zq2 P (Builtin.unsafeAdd_ #[] t #[x, y]) := by
 cases x <;> first | exact steady_unsafeAdd _ _ _ | exact steady_halt _
instance (t : TypeId) (x y : Value) : Stdy P (Builtin.unsafeAdd_ #[] t #[x, y]) := ⟨steady_unsafeAddV t x y⟩
theorem steady_movedNumber (t : TypeId) (x y : Value) : zq2 P (movedNumber t x y) := by
 unfold movedNumber
 repeat' (first | with_reducible exact Stdy.out | with_reducible refine zq6 ?_ | with_reducible refine zq7 ?_ (fun _ => ?_) | with_reducible refine zq3 ?_ (fun _ => ?_) | exact fun _ _ => rfl | split | simp only [])
instance (t : TypeId) (x y : Value) : Stdy P (movedNumber t x y) := ⟨steady_movedNumber t x y⟩
theorem steady_movedPointer (t : TypeId) (x y : Value) : zq2 P (movedPointer t x y) := by
 unfold movedPointer
 repeat' (first | with_reducible exact Stdy.out | with_reducible refine zq6 ?_ | with_reducible refine zq7 ?_ (fun _ => ?_) | with_reducible refine zq3 ?_ (fun _ => ?_) | exact fun _ _ => rfl | split | simp only [])
instance (t : TypeId) (x y : Value) : Stdy P (movedPointer t x y) := ⟨steady_movedPointer t x y⟩
theorem steady_eqAddr (a b : Addr) : zq2 P ((do pure ((← byteOf a) == (← byteOf b)) : Sem Bool)) := by
 repeat' (first | with_reducible exact Stdy.out | with_reducible refine zq6 ?_ | with_reducible refine zq7 ?_ (fun _ => ?_) | with_reducible refine zq3 ?_ (fun _ => ?_) | exact fun _ _ => rfl | split | simp only [])
instance (a b : Addr) : Stdy P ((do pure ((← byteOf a) == (← byteOf b)) : Sem Bool)) := ⟨steady_eqAddr a b⟩
theorem steady_forIn {γ δ : Type} (l : List γ) (b : δ) (f : γ → δ → Sem (ForInStep δ)) (h : ∀ a b, zq2 P (f a b)) : zq2 P (forIn l b f) := by
 induction l generalizing b with
 | nil => exact steady_pure _
 | cons a l ih =>
  rw [List.forIn_cons]
  refine zq3 (h a b) fun r => ?_
  cases r with
  | done b => exact steady_pure _
  | yield b => exact ih b
theorem steady_forInA {γ δ : Type} (l : Array γ) (b : δ) (f : γ → δ → Sem (ForInStep δ)) (h : ∀ a b, zq2 P (f a b)) : zq2 P (forIn l b f) := by
 rw [← Array.forIn_toList]; exact steady_forIn _ _ _ h
theorem steady_forInR {δ : Type} (r : Std.Legacy.Range) (b : δ) (f : Nat → δ → Sem (ForInStep δ)) (h : ∀ a b, zq2 P (f a b)) : zq2 P (forIn r b f) := by
 rw [Std.Legacy.Range.forIn_eq_forIn_range']; exact steady_forIn _ _ _ h
theorem steady_equalIn : ∀ (d : Nat) (t : TypeId) (x y : Value), zq2 P (Op.equalIn d t x y)
 | 0, _, _, _ => steady_halt _
 | d + 1, t, x, y => by
  have ih := fun t x y => steady_equalIn d t x y
  unfold Op.equalIn
  refine zq3 (steady_underlying _) (fun k => ?_)
  repeat' (first | with_reducible exact Stdy.out | with_reducible refine zq6 ?_ | with_reducible refine zq7 ?_ (fun _ => ?_) | with_reducible refine zq3 ?_ (fun _ => ?_) | exact fun _ _ => rfl | split | simp only [] | with_reducible exact ih _ _ _ | refine steady_forInA _ _ _ (fun _ _ => ?_) | refine steady_forInR _ _ _ (fun _ _ => ?_))
theorem steady_eqGuardIn : ∀ (d : Nat) (t : TypeId) (x y : Value), zq2 P (Op.eqGuardIn d t x y)
 | 0, _, _, _ => steady_halt _
 | d + 1, t, x, y => by
  have ih := fun t x y => steady_eqGuardIn d t x y
  unfold Op.eqGuardIn
  refine zq3 (steady_underlying _) (fun k => ?_)
  repeat' (first | with_reducible exact Stdy.out | with_reducible refine zq6 ?_ | with_reducible refine zq7 ?_ (fun _ => ?_) | with_reducible refine zq3 ?_ (fun _ => ?_) | exact fun _ _ => rfl | split | simp only [] | with_reducible exact ih _ _ _ | refine steady_forInA _ _ _ (fun _ _ => ?_) | refine steady_forInR _ _ _ (fun _ _ => ?_))
instance (d : Nat) (t : TypeId) (x y : Value) : Stdy P (Op.eqGuardIn d t x y) := ⟨steady_eqGuardIn d t x y⟩
instance (t : TypeId) (x y : Value) : Stdy P (Op.equal t x y) := ⟨steady_equalIn _ t x y⟩
theorem steady_eqGuard (o : BinOp) (t : TypeId) (x y : Operand) (a b : Value) : zq2 P (eqGuard o t x y a b) := by
 unfold eqGuard
 repeat' (first | with_reducible exact Stdy.out | with_reducible refine zq6 ?_ | with_reducible refine zq7 ?_ (fun _ => ?_) | with_reducible refine zq3 ?_ (fun _ => ?_) | exact fun _ _ => rfl | split | simp only [])
instance (o : BinOp) (t : TypeId) (x y : Operand) (a b : Value) : Stdy P (eqGuard o t x y a b) := ⟨steady_eqGuard o t x y a b⟩
theorem steady_binOp (o : BinOp) (t : TypeId) (x y : Value) : zq2 P (binOp o t x y) := by
 unfold binOp
 repeat' (first | with_reducible exact Stdy.out | with_reducible refine zq6 ?_ | with_reducible refine zq7 ?_ (fun _ => ?_) | with_reducible refine zq3 ?_ (fun _ => ?_) | exact fun _ _ => rfl | split | simp only [])
instance (o : BinOp) (t : TypeId) (x y : Value) : Stdy P (binOp o t x y) := ⟨steady_binOp o t x y⟩
theorem steady_unary (o : UnOp) (x : Value) : zq2 P (Op.unary o x) := by
 unfold Op.unary
 repeat' (first | with_reducible exact Stdy.out | with_reducible refine zq6 ?_ | with_reducible refine zq7 ?_ (fun _ => ?_) | with_reducible refine zq3 ?_ (fun _ => ?_) | exact fun _ _ => rfl | split | simp only [])
instance (o : UnOp) (x : Value) : Stdy P (Op.unary o x) := ⟨steady_unary o x⟩
theorem steady_lenOf (x : Value) : zq2 P (Builtin.lenOf x) := by
 unfold Builtin.lenOf
 repeat' (first | with_reducible exact Stdy.out | with_reducible refine zq6 ?_ | with_reducible refine zq7 ?_ (fun _ => ?_) | with_reducible refine zq3 ?_ (fun _ => ?_) | exact fun _ _ => rfl | split | simp only [])
instance (x : Value) : Stdy P (Builtin.lenOf x) := ⟨steady_lenOf x⟩
theorem steady_firstCells (s n : Nat) (x : Value) : zq2 P (Builtin.firstCells s n x) := by
 unfold Builtin.firstCells
 repeat' (first | with_reducible exact Stdy.out | with_reducible refine zq6 ?_ | with_reducible refine zq7 ?_ (fun _ => ?_) | with_reducible refine zq3 ?_ (fun _ => ?_) | exact fun _ _ => rfl | split | simp only [])
instance (s n : Nat) (x : Value) : Stdy P (Builtin.firstCells s n x) := ⟨steady_firstCells s n x⟩
theorem steady_under {t : TypeId} {f : TypeDesc → Sem α} (h : ∀ d, P.underlying t = some d → zq2 P (f d)) : zq2 P (do let d ← underlying t; f d) := by
 intro X w wc es hc hfit
 have e : ∀ w, (do let d ← underlying t; f d : Sem α).runT P w es = (match P.underlying t with | some d => (f d).runT P w es | none => (.halt (.stuck "no such type") w, es)) := by
  intro w
  rw [runT_bind]
  have : (underlying t).runT P w es = (match P.underlying t with | some d => (.ok d w, es) | none => (.halt (.stuck "no such type") w, es)) := by
   unfold underlying
   show ((match P.underlying t with | some d => pure d | none => stuck "no such type" : Sem TypeDesc)).runT P w es = _
   cases P.underlying t <;> rfl
  rw [this]
  cases P.underlying t <;> rfl
 rw [e] at hfit
 rw [e, e]
 cases hd : P.underlying t with
 | none => rw [hd] at hfit; exact hfit.elim
 | some d => rw [hd] at hfit; exact h d hd X w wc es hc hfit
def NoPanic {α : Type} (P : Program) (s : Sem α) : Prop := ∀ w es v w', (s.runT P w es).1 ≠ .halt (.panic v) w'
theorem steady_dead {s : Sem α} {f : α → Sem β} (hs : NoPanic P s) (hf : ∀ a w es, ¬ fit ((f a).runT P w es).1) : zq2 P (s >>= f) := by
 intro X w wc es h hfit
 rw [runT_bind] at hfit
 have := hs wc es
 generalize s.runT P wc es = r at this hfit
 obtain ⟨r, es'⟩ := r
 cases r with
 | ok a w' => exact absurd hfit (hf a w' es')
 | halt x w' => cases x <;> first | exact absurd rfl (this _ _) | exact hfit.elim
theorem np_holds (a : Addr) (n : Nat) (w : World) (es : Array Event) : ∃ b, (Builtin.holdsCells a n).runT P w es = (.ok b w, es) := by
 unfold Builtin.holdsCells
 show ∃ b, ((match w.shape? a.block with | some (_, m) => pure (a.spot.isNone && a.off + n ≤ m) | none => pure false : Sem Bool)).runT P w es = _
 cases w.shape? a.block <;> exact ⟨_, rfl⟩
theorem np_mayShare (s n m : Nat) (b : Option Addr) (x : Value) (w : World) (es : Array Event) : ∃ y, (Builtin.mayShare s n m b x).runT P w es = (.ok y w, es) := by
 unfold Builtin.mayShare
 have tail : ∀ t : Bool, ∃ y, ((if (!t) = true then pure true else match x with | .slice (some c) _ _ => (do pure (!(← Builtin.holdsCells c (m * s)) || b.any (·.block == c.block))) | _ => pure false : Sem Bool)).runT P w es = (.ok y w, es) := by
  intro t
  cases t with
  | false => exact ⟨true, rfl⟩
  | true =>
   simp only [Bool.not_true, Bool.false_eq_true, if_false]
   split
   · rename_i c _ _
     obtain ⟨y, hy⟩ := np_holds (P := P) c (m * s) w es
     rw [runT_bind, hy]
     exact ⟨_, rfl⟩
   · exact ⟨_, rfl⟩
 cases b with
 | none => exact tail true
 | some a =>
  obtain ⟨y, hy⟩ := np_holds (P := P) a (n * s) w es
  rw [runT_bind, hy]
  exact tail _
theorem steady_len (l : Array TypeId) (t : TypeId) (a : Array Value) : zq2 P (Builtin.len_ l t a) := by
 unfold Builtin.len_
 repeat' (first | with_reducible exact Stdy.out | with_reducible refine zq6 ?_ | with_reducible refine zq7 ?_ (fun _ => ?_) | with_reducible refine zq3 ?_ (fun _ => ?_) | exact fun _ _ => rfl | split | simp only [])
theorem steady_min2 (x y : Value) : zq2 P (Builtin.min2 x y) := by
 unfold Builtin.min2
 repeat' (first | with_reducible exact Stdy.out | with_reducible refine zq6 ?_ | with_reducible refine zq7 ?_ (fun _ => ?_) | with_reducible refine zq3 ?_ (fun _ => ?_) | exact fun _ _ => rfl | split | simp only [])
theorem steady_max2 (x y : Value) : zq2 P (Builtin.max2 x y) := by
 unfold Builtin.max2
 repeat' (first | with_reducible exact Stdy.out | with_reducible refine zq6 ?_ | with_reducible refine zq7 ?_ (fun _ => ?_) | with_reducible refine zq3 ?_ (fun _ => ?_) | exact fun _ _ => rfl | split | simp only [])
theorem steady_foldlM {γ : Type} (f : Value → γ → Sem Value) (h : ∀ a b, zq2 P (f a b)) (l : List γ) : ∀ (b : Value), zq2 P (l.foldlM f b) := by
 induction l with
 | nil => exact fun b => steady_pure _
 | cons a l ih => intro b; rw [List.foldlM_cons]; exact zq3 (h b a) fun _ => ih _
theorem steady_min (l : Array TypeId) (t : TypeId) (a : Array Value) : zq2 P (Builtin.min_ l t a) := by
 unfold Builtin.min_
 split
 · exact steady_halt _
 · exact steady_foldlM _ (fun _ _ => steady_min2 _ _) _ _
theorem steady_max (l : Array TypeId) (t : TypeId) (a : Array Value) : zq2 P (Builtin.max_ l t a) := by
 unfold Builtin.max_
 split
 · exact steady_halt _
 · exact steady_foldlM _ (fun _ _ => steady_max2 _ _) _ _
theorem steady_followBlind : ∀ (l : List FieldStep) (t : TypeId) (x : Option Value), zq2 P (followBlind l t x)
 | [], _, _ => steady_pure _
 | s :: rest, t, x => by
  have ih := fun t x => steady_followBlind rest t x
  unfold followBlind
  repeat' (first | with_reducible exact Stdy.out | with_reducible refine zq6 ?_ | with_reducible refine zq7 ?_ (fun _ => ?_) | with_reducible refine zq3 ?_ (fun _ => ?_) | exact fun _ _ => rfl | split | simp only [] | with_reducible exact ih _ _)
theorem steady_nilAhead : ∀ (n : Nat) (t : TypeId) (x : Value) (s : String), zq2 P (nilAhead n t x s)
 | 0, _, _, _ => steady_pure _
 | n + 1, t, x, s => by
  have ih := fun t x s => steady_nilAhead n t x s
  unfold nilAhead
  repeat' (first | with_reducible exact Stdy.out | with_reducible refine zq6 ?_ | with_reducible refine zq7 ?_ (fun _ => ?_) | with_reducible refine zq3 ?_ (fun _ => ?_) | exact fun _ _ => rfl | split | simp only [] | with_reducible exact ih _ _ _ | with_reducible exact steady_followBlind _ _ _)
instance (n : Nat) (t : TypeId) (x : Value) (s : String) : Stdy P (nilAhead n t x s) := ⟨steady_nilAhead n t x s⟩
end
end Go.Car
set_option maxHeartbeats 1000000
namespace Go.Car
open Go Go.Conc Go.RowKit
section
variable {α β : Type} {P : Program} {A : FuncId → Bool}
theorem steady_share {γ : Type} {s n m : Nat} {b : Option Addr} {x : Value} {f : Bool → Sem γ} (hf : ∀ a w es, ¬ fit ((f a).runT P w es).1) : zq2 P (Builtin.mayShare s n m b x >>= f) := by
 refine steady_dead (fun w es v w' h => ?_) hf
 obtain ⟨y, hy⟩ := np_mayShare (P := P) s n m b x w es
 rw [hy] at h; cases h
theorem steady_append (l : Array TypeId) (t : TypeId) (a : Array Value) (hx : ∀ x, l[1]? = some x → ∀ k, P.underlying x ≠ some (.int k)) : zq2 P (Builtin.append_ l t a) := by
 unfold Builtin.append_
 split
 · refine zq3 (steady_underlying _) fun d => ?_
   split
   · split
     · refine zq3 (steady_sizeOf _) fun size => ?_
       simp only []
       cases e : l[1]? with
       | none =>
        simp only [Bool.false_eq_true, if_false, Bool.not_false, if_true, false_or, reduceIte, pure_bind]
        repeat' (first | with_reducible exact Stdy.out | with_reducible refine zq6 ?_ | with_reducible refine steady_share ?_ | with_reducible refine zq3 ?_ (fun _ => ?_) | split | simp only [])
        all_goals (intro x w es hfit; cases x <;> exact hfit)
       | some x =>
        refine steady_under fun d hd => ?_
        have hne := hx x e
        cases d <;> first
         | (rename_i k; exact absurd hd (hne k))
         | (clear hd hne e hx
            simp only [Bool.false_eq_true, if_false, Bool.not_false, if_true, false_or, reduceIte, pure_bind]
            repeat' (first | with_reducible exact Stdy.out | with_reducible refine zq6 ?_ | with_reducible refine steady_share ?_ | with_reducible refine zq3 ?_ (fun _ => ?_) | split | simp only [])
            all_goals (intro x w es hfit; cases x <;> exact hfit))
     · exact steady_halt _
   · exact steady_halt _
 · exact steady_halt _
theorem steady_convert {s d : TypeId} {k k' : IntKind} (hs : P.underlying s = some (.int k)) (hd : P.underlying d = some (.int k')) (x : Value) : zq2 P (convert s d x) := by
 refine steady_under fun a ha => ?_
 refine steady_under fun b hb => ?_
 rw [hs] at ha; rw [hd] at hb
 cases ha; cases hb
 split <;> first | exact steady_halt _ | exact steady_pure _ | contradiction | (unfold Conv.floatToInt; simp only []; repeat' (first | with_reducible exact Stdy.out | refine zq3 ?_ (fun _ => ?_) | split))
def RowsS (P : Program) (A : FuncId → Bool) : Prop := ∀ f, A f = true → ∀ fn e, P.funcs[f]? = some fn → fn.body = none → Extern.find fn = some e → ∀ args, zq2 P (e args)
theorem steady_prog {f : Program → Sem α} (h : zq2 P (f P)) : zq2 P (program >>= f) := by
 intro X w wc es hc hfit
 have e : ∀ w, (program >>= f).runT P w es = (f P).runT P w es := fun w => rfl
 rw [e] at hfit
 rw [e, e]
 exact h X w wc es hc hfit
theorem steady_v {s : Sem Value} (h : zq2 P s) : zq2 P (do pure (.value (← s)) : Sem Next) := zq3 h fun _ => steady_pure _
theorem callFunc_steady {f : FuncId} {args : Array Value} (hA : A f = true) (h : okFn P A f) (hR : RowsS P A) : zq2 P (callFunc f args) := by
 cases h with
 | text fn c hf hb hn hc =>
  unfold callFunc
  refine steady_prog ?_
  simp only [hf, hn, hb, Option.isNone_some, Bool.false_eq_true, if_false]
  exact steady_pure _
 | row fn e hf hb hn hx he ht =>
  unfold callFunc
  refine steady_prog ?_
  simp only [hf, hn, hb, hx, he, Option.isNone_none, Bool.false_eq_true, if_false, if_true]
  exact zq3 (steady_mark _) fun _ => steady_v (hR f hA fn e hf hb he args)
theorem execOp_steady (hA : ∀ f, A f = true → okFn P A f) (hR : RowsS P A) (o : Oper) (ho : okOp P A o.op = true) (ρ : Operand → Value) (hρ : ∀ f, ρ (.func f) = .func (.func f) #[] #[]) : zq2 P (execOp ρ o) := by
 obtain ⟨dst, op, type, pos, after, guard⟩ := o
 simp only at ho
 unfold execOp
 cases op <;> simp only [okOp, Bool.false_eq_true] at ho
 case convert s d x =>
  have : ∃ k k', P.underlying s = some (.int k) ∧ P.underlying d = some (.int k') := by
   simp only [Bool.and_eq_true] at ho
   obtain ⟨h1, h2⟩ := ho
   split at h1
   · split at h2
     · exact ⟨_, _, ‹_›, ‹_›⟩
     · cases h2
   · cases h1
  obtain ⟨k, k', hs, hd⟩ := this
  exact steady_v (steady_convert hs hd _)
 case call c =>
  obtain ⟨callee, args, argTypes⟩ := c
  simp only at ho
  cases callee with
  | invoke r m => simp at ho
  | value f =>
   cases f with
   | func f =>
    have hAf : A f = true := by simpa using ho
    simp only [resolve, hρ f]
    exact callFunc_steady hAf (hA f hAf) hR
   | _ => simp at ho
  | builtin b =>
   cases b <;> simp at ho
   case append =>
    have hx : ∀ x, argTypes[1]? = some x → ∀ k, P.underlying x ≠ some (.int k) := by
     intro x hx k hk
     rw [hx] at ho
     simp only [hk] at ho
     cases ho
    exact steady_v (steady_append _ _ _ hx)
   case len => exact steady_v (steady_len _ _ _)
   case max => exact steady_v (steady_max _ _ _)
   case min => exact steady_v (steady_min _ _ _)
 all_goals (simp only []; repeat' (first | with_reducible exact Stdy.out | with_reducible refine zq3 ?_ (fun _ => ?_) | split | simp only []))
end
section
variable {P : Program} {A : FuncId → Bool}
theorem steady_results (fn : Func) (tmps : Array Value) : zq2 P (results fn tmps) := by
 unfold results
 refine zq3 (steady_mapMA _ (fun x => ?_) _) fun _ => steady_pure _
 cases x with
 | tmp t => exact steady_pure _
 | cell a t => exact zq3 (steady_asAddr _) fun _ => steady_loadVar _ _
theorem apart_seen {X : Snap} {fn : FuncId} {es : Array Event} (h : ∀ e ∈ es, e ∈ (#[] : Array Event) ∨ apart X e) : ∀ e ∈ seen P fn es, apart X e := fun e he => (h e (mem_seen he)).resolve_left (by simp)
theorem cut_apply (hP : Plain P A) {main : Bool} {fr : Frame} {cs : List Frame} {s : Sem Next} {X : Snap} {w wc wc' : World} {fr' : Frame} {cs' : List Frame} {es : Array Event} (hk : fr.kind ≠ .early) (hcall : ∀ d b r v k, fr.todo ≠ .call d b r v :: k) (hext : ∀ r v k, fr.todo ≠ .extern r v :: k)
 (hst : zq2 P s) (hl : leaf P (okNext P A) s) (ht : tame P true s) (h : Cut X w wc) (hs : stepG.apply P true fr cs none s wc = .go (G fr' cs') wc' es) :
 ∃ w', Cut X w' wc' ∧ stepG.apply P true fr cs none s w = .go (G fr' cs') w' es ∧ (∀ e ∈ es, apart X e) ∧ Chans w w' := by
 have h1 := hst X w wc #[] h
 have hg := leaf_runT s ht hl wc #[]
 have hke : (fr.kind == CallKind.early) = false := by simpa using hk
 unfold stepG.apply at hs ⊢
 simp only [if_true, hke, Bool.false_eq_true, if_false] at hs ⊢
 generalize hr : s.runT P wc #[] = r at h1 hg hs
 obtain ⟨r, es'⟩ := r
 simp only at h1 hg hs
 cases r with
 | ok nx w1 =>
  obtain ⟨w', c1, e1, v1⟩ := h1 trivial
  rw [e1]
  have hnx : okNext P A nx := hg
  simp only [resW, setW] at c1 ⊢
  cases nx with
  | value v =>
   simp only [GStep.after, GStep.go.injEq, Array.append_empty] at hs ⊢
   obtain ⟨a1, rfl, rfl⟩ := hs
   exact ⟨w', c1, ⟨a1, rfl, rfl⟩, apart_seen v1, by have := runT_chans s ht w #[]; rw [e1] at this; exact this⟩
  | skip =>
   simp only [GStep.after, GStep.go.injEq, Array.append_empty] at hs ⊢
   obtain ⟨a1, rfl, rfl⟩ := hs
   exact ⟨w', c1, ⟨a1, rfl, rfl⟩, apart_seen v1, by have := runT_chans s ht w #[]; rw [e1] at this; exact this⟩
  | enter f args =>
   simp only [GStep.after, GStep.go.injEq, Array.append_empty] at hs ⊢
   obtain ⟨a1, rfl, rfl⟩ := hs
   exact ⟨w', c1, ⟨a1, rfl, rfl⟩, apart_seen v1, by have := runT_chans s ht w #[]; rw [e1] at this; exact this⟩
  | _ => exact hnx.elim
 | halt x w1 =>
  rcases hg with hg | ⟨b, rfl⟩
  · cases x with
    | panic v =>
     obtain ⟨w', c1, e1, v1⟩ := h1 trivial
     rw [e1]
     simp only [resW, setW, GStep.after, GStep.go.injEq, Array.append_empty] at hs c1 ⊢
     obtain ⟨a1, rfl, rfl⟩ := hs
     exact ⟨w', c1, ⟨a1, rfl, rfl⟩, apart_seen v1, by have := runT_chans s ht w #[]; rw [e1] at this; exact this⟩
    | stuck s => simp only [GStep.after] at hs; cases hs
    | unsupported u => cases u <;> first | (simp only [GStep.after] at hs; cases hs) | exact hg.elim
    | _ => exact hg.elim
  · obtain ⟨o, w'', es'', he⟩ := early_ended hP fr cs none b w1
    simp only [he, GStep.after] at hs
    cases hs
theorem cut_ctl {main : Bool} {fr : Frame} {cs : List Frame} {X : Snap} {w wc wc' : World} {fr' : Frame} {cs' : List Frame} {es : Array Event} (h : Cut X w wc)
 (hc : (∃ g : Goroutine, ∀ w, stepG P main (G fr cs) w = .go g w) ∨ ∀ w, ∃ o w' es, stepG P main (G fr cs) w = .ended o w' es) (hs : stepG P main (G fr cs) wc = .go (G fr' cs') wc' es) :
 ∃ w', Cut X w' wc' ∧ stepG P main (G fr cs) w = .go (G fr' cs') w' es ∧ (∀ e ∈ es, apart X e) ∧ Chans w w' := by
 rcases hc with ⟨g, hc⟩ | hc
 · rw [hc] at hs
   cases hs
   exact ⟨w, h, hc w, by simp, Chans.refl w⟩
 · obtain ⟨o, w', es', he⟩ := hc wc
   rw [he] at hs; cases hs
theorem step_cut (hP : Plain P A) (hR : RowsS P A) {main : Bool} {fr : Frame} {cs : List Frame} {X : Snap} {w wc wc' : World} {fr' : Frame} {cs' : List Frame} {es : Array Event} (ht : Top P A fr) (h : Cut X w wc)
 (hs : stepG P main (G fr cs) wc = .go (G fr' cs') wc' es) : ∃ w', Cut X w' wc' ∧ stepG P main (G fr cs) w = .go (G fr' cs') w' es ∧ (∀ e ∈ es, apart X e) ∧ Chans w w' := by
 obtain ⟨fn, tmps, todo, defers, mode, kind, round⟩ := fr
 have hrd := ht.round
 have hkd := ht.kind
 have hhd := ht.head
 simp only at hrd hkd hhd
 subst hrd
 rcases hhd with ⟨rfl, i, t, rfl, hi⟩ | ⟨rfl, rfl⟩ | ⟨rfl, rfl⟩
 · cases i with
   | code c =>
    have hc : okCode P A c = true := hi
    cases c with
    | skip => exact cut_ctl h (.inl ⟨_, fun w => by simp only [G, stepG, stepG.exec]; rfl⟩) hs
    | exit id =>
     refine cut_ctl h ?_ hs
     cases hx : exitTo id t with
     | some k' => exact .inl ⟨_, fun w => by simp only [G, stepG, stepG.exec, hx, Option.elim]; rfl⟩
     | none => exact .inr fun w => by simp [G, stepG, stepG.exec, hx]
    | ret => exact cut_ctl h (.inl ⟨_, fun w => by simp only [G, stepG, stepG.exec]; rfl⟩) hs
    | refuse why => exact cut_ctl h (.inr fun w => by simp [G, stepG, stepG.exec]) hs
    | region id ops draw =>
     cases draw with
     | false => exact cut_ctl h (.inl ⟨_, fun w => by simp only [G, stepG, stepG.exec, Bool.not_false, if_true]; rfl⟩) hs
     | true =>
      have e : ∀ w : World, stepG P main (G ⟨fn, tmps, .code (.region id ops true) :: t, defers, .run, kind, none⟩ cs) w = .go (G ⟨fn, tmps, .inRegion ops (Region.schedule (P.follows .mixedOrders) ops (w.tape w.drawn (.order fn id))) :: t, defers, .run, kind, none⟩ cs) w.drew #[] := by
       intro w
       have := stepG_region_draw (P := P) (main := main) (b := ⟨fn, tmps, [], [], .run, kind, none⟩) (a := ⟨tmps, defers⟩) (k := t) (cs := cs) (w := w) (id := id) (ops := ops)
       exact this
      rw [e wc] at hs
      rw [e w, ← h.tape, ← h.drawn]
      cases hs
      exact ⟨w.drew, ⟨h.is, h.no, h.size, h.tape, by show wc.drawn + 1 = w.drawn + 1; rw [h.drawn], h.os, h.output⟩, rfl, by simp, ⟨fun _ _ h _ => h, rfl, rfl⟩⟩
    | seq a b => exact cut_ctl h (.inl ⟨_, fun w => by simp only [G, stepG, stepG.exec]; rfl⟩) hs
    | cond c a b =>
     refine cut_ctl h ?_ hs
     cases hb : (⟨fn, tmps, .code (.cond c a b) :: t, defers, .run, kind, none⟩ : Frame).eval c with
     | bool x => exact .inl ⟨_, fun w => by simp only [G, stepG, stepG.exec, hb]; rfl⟩
     | _ => exact .inr fun w => by simp [G, stepG, stepG.exec, hb]
    | block id c => exact cut_ctl h (.inl ⟨_, fun w => by simp only [G, stepG, stepG.exec]; rfl⟩) hs
    | loop c => exact cut_ctl h (.inl ⟨_, fun w => by simp only [G, stepG, stepG.exec]; rfl⟩) hs
    | _ => simp [okCode] at hc
   | inBlock id => exact cut_ctl h (.inl ⟨_, fun w => by simp only [G, stepG, stepG.exec]; rfl⟩) hs
   | inLoop c => exact cut_ctl h (.inl ⟨_, fun w => by simp only [G, stepG, stepG.exec]; rfl⟩) hs
   | inRegion ops l =>
    cases l with
    | nil => exact cut_ctl h (.inl ⟨_, fun w => by simp only [G, stepG, stepG.exec]; rfl⟩) hs
    | cons j r =>
     cases hj : ops[j]? with
     | none =>
      refine cut_ctl h (.inl ⟨G (Frame.finish ⟨fn, tmps, .inRegion ops (j :: r) :: t, defers, .run, kind, none⟩ undef) cs, fun w => ?_⟩) hs
      simp only [G, stepG, stepG.exec, hj, Option.map_none, Option.getD_none, Bool.false_eq_true, if_false]
     | some o =>
      cases hw : Region.wanted o (yielded ops tmps) with
      | false =>
       refine cut_ctl h (.inl ⟨G (Frame.finish ⟨fn, tmps, .inRegion ops (j :: r) :: t, defers, .run, kind, none⟩ undef) cs, fun w => ?_⟩) hs
       simp only [G, stepG, stepG.exec, hj, Option.map_some, al_od, hw, Bool.false_eq_true, if_false]
      | true =>
       have e : ∀ w, stepG P main (G ⟨fn, tmps, .inRegion ops (j :: r) :: t, defers, .run, kind, none⟩ cs) w = stepG.apply P true ⟨fn, tmps, .inRegion ops (j :: r) :: t, defers, .run, kind, none⟩ cs none (execOp (Frame.eval ⟨fn, tmps, .inRegion ops (j :: r) :: t, defers, .run, kind, none⟩) o) w := by
        intro w
        have := stepG_oper (P := P) (main := main) (b := ⟨fn, tmps, [], [], .run, kind, none⟩) (a := ⟨tmps, defers⟩) (k := t) (cs := cs) (w := w) (ops := ops) (i := j) (rest := r) hj hw
        exact this
       rw [e wc] at hs
       rw [e w]
       have hop : okOp P A o.op = true := by
        have hall : ops.all (fun o => okOp P A o.op) = true := hi
        rw [Array.all_eq_true] at hall
        obtain ⟨hlt, he⟩ := Array.getElem?_eq_some_iff.1 hj
        have := hall j hlt
        rw [he] at this
        exact this
       obtain ⟨k1, k2⟩ := execOp_ok hP.fns o hop (Frame.eval ⟨fn, tmps, .inRegion ops (j :: r) :: t, defers, .run, kind, none⟩) (fun f => rfl)
       exact cut_apply (main := main) hP (fr := ⟨fn, tmps, .inRegion ops (j :: r) :: t, defers, .run, kind, none⟩) hkd (by intro d b r v k h; cases h) (by intro r v k h; cases h) (execOp_steady hP.fns hR o hop _ (fun f => rfl)) k2 k1 h hs
   | _ => simp [okItem] at hi
 · exact cut_ctl h (.inl ⟨_, fun w => by simp only [G, stepG, stepG.exec]; rfl⟩) hs
 · simp only [G, stepG, unwind] at hs ⊢
   cases hf : P.funcs[fn]? with
   | none =>
    rw [hf] at hs
    obtain ⟨rfl, rfl, h3⟩ := doReturn_go hs
    exact ⟨w, h, h3 w, by simp, Chans.refl w⟩
   | some f =>
    rw [hf] at hs
    simp only [] at hs ⊢
    have h1 := steady_results (P := P) f tmps X w wc #[] h
    generalize (results f tmps).runT P wc #[] = r at h1 hs
    obtain ⟨r, es'⟩ := r
    cases r with
    | halt x w1 => cases x <;> (simp only [GStep.after] at hs; cases hs)
    | ok v w1 =>
     obtain ⟨w', c1, e1, v1⟩ := h1 trivial
     rw [e1]
     simp only [resW, setW] at c1 hs ⊢
     generalize hd : doReturn P main ⟨fn, tmps, todo, [], .returning, kind, none⟩ cs none v w1 = S at hs
     cases S <;> simp only [GStep.after, GStep.go.injEq, reduceCtorEq] at hs
     rename_i g w2 es2
     obtain ⟨rfl, rfl, rfl⟩ := hs
     obtain ⟨rfl, rfl, h3⟩ := doReturn_go hd
     rw [h3 w']
     exact ⟨w', c1, rfl, fun e he => apart_seen v1 e (by simpa using he), by have := runT_chans _ (tame_more _ (tame_results (P := P) f tmps)) w #[]; rw [e1] at this; exact this⟩
end
def Rows (X : Snap) (w : World) : Prop := ∀ b c e, X b = some (c, e) → w.heap[b]? = some (.cells c e)
def cutW (X : Snap) (w : World) : World := { w with heap := Array.ofFn fun i : Fin w.heap.size => match X i with | some (_, e) => Obj.cells #[] e | none => w.heap[i] }
theorem cutW_heap (X : Snap) (w : World) (b : Nat) (hb : b < w.heap.size) : (cutW X w).heap[b]? = some (match X b with | some (_, e) => Obj.cells #[] e | none => w.heap[b]) := by
 simp [cutW, hb]
theorem cut_cutW {X : Snap} {w : World} (h : Rows X w) : Cut X w (cutW X w) := by
 refine ⟨fun b c e hb => ⟨h b c e hb, ?_⟩, fun b hb => ?_, by simp [cutW], rfl, rfl, rfl, rfl⟩
 · have hlt := (Array.getElem?_eq_some_iff.1 (h b c e hb)).1
   rw [cutW_heap X w b hlt, hb]
 · by_cases hlt : b < w.heap.size
   · rw [cutW_heap X w b hlt, hb, Array.getElem?_eq_getElem hlt]
   · rw [Array.getElem?_eq_none (by simp [cutW]; omega), Array.getElem?_eq_none (by omega)]
theorem Cut.rows {X : Snap} {w wc : World} (h : Cut X w wc) : Rows X w := fun b c e hb => (h.is b c e hb).1
theorem Cut.inj {X : Snap} {w w' wc : World} (h : Cut X w wc) (h' : Cut X w' wc) : w = w' := by
 obtain ⟨h1, h2, h3, h4, h5, h6, h7⟩ := h
 obtain ⟨k1, k2, k3, k4, k5, k6, k7⟩ := h'
 have hh : w.heap = w'.heap := by
  apply Array.ext_getElem?
  intro b
  cases hx : X b with
  | none => rw [← h2 b hx, k2 b hx]
  | some x => obtain ⟨c, e⟩ := x; rw [(h1 b c e hx).1, (k1 b c e hx).1]
 cases w; cases w'; simp_all
section
variable {P : Program} {main : Bool} {Kc : Addr → Option Value} {γ : Type} {J : γ → Goroutine → World → Prop} {A : FuncId → Bool} {X : Snap}
def CalmX (P : Program) (main : Bool) (X : Snap) {γ : Type} (J : γ → Goroutine → World → Prop) : Prop :=
 ∀ s fr cs w, Rows X w → (∀ τ d, ∃ fr' cs' w' es, stepG P main (G fr cs) (re w τ d) = .go (G fr' cs') w' es ∧ (∀ e ∈ es, calmEv true e ∧ apart X e) ∧ Chans w w' ∧ Rows X w' ∧ J s (G fr' cs') w') → J s (G fr cs) w
theorem cut_J (hcalm : CalmX P main X J) (hP : Plain P A) (hR : RowsS P A) (w₀ : World) (s : γ) (fr : Frame) (cs' : List Frame) (wc : World) (ht : Top P A fr)
 (h : ∀ τ d, ∃ fr' cs'' wc' es, stepG P main (G fr cs') (re wc τ d) = .go (G fr' cs'') wc' es ∧ (∀ e ∈ es, calmEv true e) ∧ ∀ w', Cut X w' wc' → Chans w₀ w' → J s (G fr' cs'') w') : ∀ w', Cut X w' wc → Chans w₀ w' → J s (G fr cs') w' := by
 intro w' hc hch
 refine hcalm s fr cs' w' hc.rows fun τ d => ?_
 obtain ⟨fr', cs'', wc', es, h1, h2, h3⟩ := h τ d
 obtain ⟨w'', c1, e1, a1, ch1⟩ := step_cut hP hR ht (hc.re τ d) h1
 have ch2 : Chans w' w'' := ch1
 exact ⟨fr', cs'', w'', es, e1, fun e he => ⟨h2 e he, a1 e he⟩, ch2, c1.rows, h3 w'' c1 (hch.trans ch2)⟩
theorem callsJ_cut (hJ : JS P main Kc J) (hcalm : CalmX P main X J) (hP : Plain P A) (hRS : RowsS P A) {f : FuncId} {fn : Func} {c : Code} {args : Array Value} {s : γ} {w : World} (hf : P.funcs[f]? = some fn) (hb : fn.body = some c) (hc : okCode P A c = true)
 {R : Value → World → Prop} (hR : ∀ v w τ d, R v w → R v (re w τ d)) (hX : Rows X w) (h : ∀ wc, (∃ τ d, Cut X (re w τ d) wc) → Calls P f args wc (onlyRet R))
 {Post : γ → Ending → World → Prop} (hpost : ∀ v wc w', R v wc → Cut X w' wc → Chans w w' → Post s (.returned v) w') : CallsJ P J f args Post s w := by
 intro cl cs h1 h2
 let Φ : Frame → World → Prop := fun fr w => fr.mode = .returning ∧ fr.defers = [] ∧ fr.kind = .normal ∧ fr.fn = f ∧ ∃ v, (results fn fr.tmps).run P w = .ok v w ∧ R v w
 refine lift hP (J := fun g wc => ∀ w', Cut X w' wc → Chans w w' → J s g w') (main := main) (cs := cl :: cs) (fun fr cs' wc ht h => cut_J hcalm hP hRS w s fr cs' wc ht h) (fine_enter args hf hb hc) (Φ := Φ) ?_ (fun fr w h => h.1) ?_ ?_ (w := cutW X w) w (cut_cutW hX) (Chans.refl w)
 · rintro fr w τ d ⟨a, b, c, e, v, hv, hr⟩
   exact ⟨a, b, c, e, v, results_re hv τ d, hR _ _ _ _ hr⟩
 · intro τ d
   obtain ⟨e, w', fr, hRe, hcm, hfn, hl⟩ := h (re (cutW X w) τ d) ⟨τ, d, (cut_cutW hX).re τ d⟩ [trap]
   cases e with
   | returned v =>
    obtain ⟨n, hn⟩ := hcm
    obtain ⟨hm, hd, hk, fn', hf', hr⟩ := hl
    rw [hfn, hf] at hf'
    obtain rfl := Option.some.inj hf'
    exact ⟨n, fr, w', hn, hm, hd, hk, hfn, v, hr, hRe⟩
   | _ => exact hRe.elim
 · rintro fr wc ⟨hm, hd, hk, hfn, v, hv, hr⟩ w' hcut hch
   have hj := h1 s v w' (hpost v wc w' hr hcut hch)
   have hv' : (results fn fr.tmps).run P w' = .ok v w' := by
    have := steady_results (P := P) fn fr.tmps X w' wc #[] hcut
    rw [Sem.runT_eq, hv] at this
    obtain ⟨w'', c1, e1, _⟩ := this trivial
    obtain rfl := c1.inj hcut
    have := (Prod.mk.inj e1).1
    rw [Sem.runT_eq] at this
    exact this
   refine hJ.step _ _ _ rfl fun τ d => ?_
   have hev : ∀ e ∈ ((results fn fr.tmps).runT P (re w' τ d) #[]).2, EvOk Kc e := fun e he => evOk_calm ((runT_calm _ (tame_results fn fr.tmps) _ #[] e he).resolve_left (by simp))
   refine ⟨G (cl.finish v) cs, re w' τ d, seen P fr.fn ((results fn fr.tmps).runT P (re w' τ d) #[]).2, ?_, OkD.refl _ _ _, fun e he => hev e (mem_seen he), hJ.re' _ _ _ _ _ hj⟩
   have h1 : ((results fn fr.tmps).runT P (re w' τ d) #[]).1 = .ok v (re w' τ d) := by rw [Sem.runT_eq]; exact results_re hv' τ d
   rw [← hfn] at hf
   simp only [G, stepG, unwind, hm, hd, hf]
   generalize (results fn fr.tmps).runT P (re w' τ d) #[] = r at h1
   obtain ⟨r, es⟩ := r
   simp only at h1
   subst h1
   simp only [doReturn, hk, GStep.after, Array.append_empty]
theorem holdR_calmX {Fin : Machine → Trace → Prop} (hFin : Back P Fin) {Kc : Addr → Option Value} {Inb : Nat → Option Seat} {h n : Nat} (hK : ∀ a v, Kc a = some v → ∃ c e, X a.block = some (c, e)) : CalmX P (h == 0) X (fun (_ : Unit) => HoldR P Fin Kc Inb h n) :=
 fun _ fr cs w hX hs => holdR_step hFin rfl fun τ d => by
  obtain ⟨fr', cs', w', es, h1, h2, h3, h4, h5⟩ := hs τ d
  refine ⟨_, w', es, h1, ⟨⟨fun hk a v e => ?_, h3.2.1, h3.2.2⟩, fun c _ ⟨cap, k, hx⟩ => ?_⟩, fun e he => ?_, h5⟩
  · obtain ⟨c, t, hx⟩ := hK a v e
    obtain ⟨k1, k2⟩ := hk a v e
    have hsame : w'.heap[a.block]? = (re w τ d).heap[a.block]? := (h4 _ _ _ hx).trans (hX _ _ _ hx).symm
    exact ⟨by rw [← k1]; simp only [World.cell?, hsame], by rw [← k2]; simp only [World.frozen?, hsame]⟩
  · exact (h3.1 c _ hx (by simp)).trans hx.symm
  · obtain ⟨he1, he2⟩ := h2 e he
    refine ⟨fun x hx hst => ?_, calm_marks he1⟩
    obtain ⟨a, v, hl, hv⟩ := hst
    obtain ⟨c, t, hxx⟩ := hK a v hv
    rw [(touch_write he1.1 hx).2] at hl
    rw [he2 a hl] at hxx
    cases hxx
end
inductive Out (M : Type) where
 | yield (m : M)
 | done (m : M)
 | broke (m : M)
def Out.mem {M : Type} : Out M → M
 | .yield m => m
 | .done m => m
 | .broke m => m
structure Thr (M : Type) where
 foot : M → Nat → Prop
 Rep : M → World → Prop
 Start : Nat → M → Out M → Prop
 Go : Nat → M → Out M → Prop
 Kill : Nat → M → M → Prop
 Same : Nat → M → M → Prop
 left : M → Nat
 frame : ∀ m w w', Rep m w → (∀ b, foot m b → w'.heap[b]? = w.heap[b]?) → Rep m w'
 lt : ∀ m w b, Rep m w → foot m b → b < w.heap.size
 refl : ∀ i m, Same i m m
 trans : ∀ i m m' m'', Same i m m' → Same i m' m'' → Same i m m''
 start_same : ∀ i j m o, i ≠ j → Start j m o → Same i m o.mem
 go_same : ∀ i j m o, i ≠ j → Go j m o → Same i m o.mem
 kill_same : ∀ i j m m', i ≠ j → Kill j m m' → Same i m m'
structure Grow {M : Type} (T : Thr M) (m : M) (w : World) (m' : M) (w' : World) : Prop where
 size : w.heap.size ≤ w'.heap.size
 old : ∀ b, b < w.heap.size → ¬ T.foot m b → w'.heap[b]? = w.heap[b]?
 grow : ∀ b, T.foot m' b → T.foot m b ∨ w.heap.size ≤ b
structure Env (P : Program) {M : Type} (T : Thr M) (Kc : Addr → Option Value) (X : Snap) (J : Goroutine → World → Prop) (m : M) (w : World) : Prop where
 js : JX P Kc J
 calm : CalmX P false X (fun (_ : Unit) => J)
 rows : Rows X w
 kept : ∀ a v, Kc a = some v → ∃ c e, X a.block = some (c, e)
 free : ∀ b x, X b = some x → ¬ T.foot m b
section
variable {M : Type}
theorem Grow.refl (T : Thr M) (m : M) (w : World) : Grow T m w m w := ⟨Nat.le_refl _, fun _ _ _ => rfl, fun _ h => .inl h⟩
theorem Grow.trans {T : Thr M} {m m' m'' : M} {w w' w'' : World} (h : Grow T m w m' w') (k : Grow T m' w' m'' w'') : Grow T m w m'' w'' :=
 ⟨Nat.le_trans h.size k.size, fun b hb hf => (k.old b (Nat.lt_of_lt_of_le hb h.size) fun hf' => (h.grow b hf').elim hf (fun x => absurd hb (Nat.not_lt_of_le x))).trans (h.old b hb hf),
  fun b hb => (k.grow b hb).elim (h.grow b) (fun x => .inr (Nat.le_trans h.size x))⟩
theorem Env.grow {P : Program} {T : Thr M} {Kc : Addr → Option Value} {X : Snap} {J : Goroutine → World → Prop} {m m' : M} {w w' : World} (h : Env P T Kc X J m w) (hf : Grow T m w m' w') : Env P T Kc X J m' w' := by
 have lt : ∀ b x, X b = some x → b < w.heap.size := fun b x hx => by obtain ⟨c, e⟩ := x; exact (Array.getElem?_eq_some_iff.1 (h.rows b c e hx)).1
 refine ⟨h.js, h.calm, fun b c e hb => ?_, h.kept, fun b x hb hf' => ?_⟩
 · rw [hf.old b (lt b _ hb) (h.free b _ hb)]; exact h.rows b c e hb
 · exact (hf.grow b hf').elim (h.free b x hb) (fun y => absurd (lt b x hb) (Nat.not_lt_of_le y))
structure Conts (P : Program) (T : Thr M) (fStep : FuncId) (sx : Value) (cr : Frame) (rest : List Frame) (NE : List PanicEntry → Prop) (S : Frame → List Frame → M → Prop) (R : M → Out M → Prop) (l : Nat) (J : Goroutine → World → Prop) (m : M) (w : World) : Prop where
 yield : ∀ m' c cs w', R m (.yield m') → Grow T m w m' w' → T.Rep m' w' → l ≤ T.left m' → S c cs m' → J (G (Frame.enter P fStep #[sx] .normal) (c :: cs)) w'
 done : ∀ m' v w', R m (.done m') → Grow T m w m' w' → T.Rep m' w' → l ≤ T.left m' → J (G (cr.finish v) rest) w'
 broke : ∀ m' ch w', R m (.broke m') → NE ch → Grow T m w m' w' → T.Rep m' w' → l ≤ T.left m' → J (G (cr.raise ch) rest) w'
def Susp (P : Program) (T : Thr M) (fStep : FuncId) (sx : Value) (cr : Frame) (rest : List Frame) (NE EN : List PanicEntry → Prop) (i : Nat) : Nat → Frame → List Frame → M → Prop
 | 0, _, _, _ => True
 | k + 1, c, cs, m₀ => ∀ (Kc : Addr → Option Value) (X : Snap) (J : Goroutine → World → Prop) (m : M) (w : World), Env P T Kc X J m w → T.Same i m₀ m → T.Rep m w → 0 < T.left m →
  (Conts P T fStep sx cr rest NE (Susp P T fStep sx cr rest NE EN i k) (T.Go i) (T.left m - 1) J m w → J (G (c.finish (.tuple #[])) cs) w) ∧
  ∀ ch, EN ch → (∀ m' ch' w', EN ch' → T.Kill i m m' → Grow T m w m' w' → T.Rep m' w' → T.left m - 1 ≤ T.left m' → J (G (cr.raise ch') rest) w') → J (G (c.raise ch) cs) w
def Runs (P : Program) (T : Thr M) (fStep : FuncId) (ti : TypeId) (NE : List PanicEntry → Prop) (m₀ : M) (i : Nat) (tv : Value) : Prop :=
 (tv = .nilFunc ∧ ∀ m, T.Start i m (.done m)) ∨
 ∃ f first caps fn c, tv = .func (.func f) first caps ∧ P.funcs[f]? = some fn ∧ fn.body = some c ∧ (fn.name == "runtime.NumGoroutine") = false ∧
  ∀ (cr : Frame) (rest : List Frame) (st : Nat) (EN : List PanicEntry → Prop) (k : Nat) (Kc : Addr → Option Value) (X : Snap) (J : Goroutine → World → Prop) (m : M) (w : World), Env P T Kc X J m w → T.Rep m w → T.Same i m₀ m →
   Conts P T fStep (.pointer (some ⟨st, 0, none⟩)) cr rest NE (Susp P T fStep (.pointer (some ⟨st, 0, none⟩)) cr rest NE EN i k) (T.Start i) (T.left m) J m w →
   J (G (Frame.enter P f (first ++ #[.iface ti (.pointer (some ⟨st, 0, none⟩))] ++ caps) .normal) (cr :: rest)) w
theorem Susp.same {P : Program} {T : Thr M} {fStep : FuncId} {sx : Value} {cr : Frame} {rest : List Frame} {NE EN : List PanicEntry → Prop} {i k : Nat} {c : Frame} {cs : List Frame} {m m' : M} (h : Susp P T fStep sx cr rest NE EN i k c cs m) (hs : T.Same i m m') : Susp P T fStep sx cr rest NE EN i k c cs m' := by
 cases k with
 | zero => trivial
 | succ k => exact fun Kc X J m₁ w hJ hs' => h Kc X J m₁ w hJ (T.trans _ _ _ _ hs hs')
end
section
variable {P : Program} {main : Bool} {Kc : Addr → Option Value} {γ : Type} {J : γ → Goroutine → World → Prop}
theorem at_append {b : Frame} {k : List Item} {cs : List Frame} (hb : b.kind ≠ .early) (hJ : JS P main Kc J) {ops : Array Oper} {j : Nat} {rest : List Nat} {o : Oper} {sg : γ} {a : Act} {w : World}
 (ho : ops[j]? = some o) (hgd : o.guard = none) (s x : Operand) (t : TypeId) (hop : o.op = .call { callee := .builtin .append, args := #[s, x], argTypes := #[t, t] })
 (base : Nat) (e : TypeId) (i : TypeInfo) (z : Value) (size bytes : Nat) (ht : P.underlying t = some (.slice e)) (hi : P.info? e = some i) (hz : i.zero = some z)
 (hsize : i.size = size) (hby : i.bytes = bytes) (hzs : z.cells.size = size) (hsz : 0 < size)
 (v : Value) (n : Nat) (xs : List Value) (hs : a.eval s = v) (hown : w.ownsRow base e size v n xs)
 (ad : Addr) (m c : Nat) (news : List Value) (hx : a.eval x = .slice (some ad) m c) (hl : news.length = m * size) (hnews : ∀ j u, news[j]? = some u → w.cell? (ad.add j) = some u) (h1 : ∀ u ∈ news, u.oneCell' = true)
 (h63 : n + m ≤ maxLen) (hbytes : (n + m) * bytes ≤ 140737488355328) (hbase : base ≤ w.heap.size)
 (hfree : ∀ g, v.ownBlock = some g → ∀ y : Addr, y.block = g → Kc y = none)
 (h : ∀ v' w', w'.ownsRow base e size v' (n + m) (xs ++ news) → w.heap.size ≤ w'.heap.size → (∀ k, k < w.heap.size → some k ≠ v.ownBlock → w'.heap[k]? = w.heap[k]?) → (v'.ownBlock = v.ownBlock ∨ v'.ownBlock = some w.heap.size) →
  J sg (G (b.at (a.put o.dst v') (.inRegion ops rest :: k)) cs) w') : J sg (G (b.at a (.inRegion ops (j :: rest) :: k)) cs) w := by
 have hw : Region.wanted o (yielded ops a.tmps) = true := by simp [Region.wanted, hgd]
 refine at_cons hb hJ ho hw fun τ d => ?_
 obtain ⟨v', w', hr, h2, h3, h4⟩ := run_append_own_at (P := P) (re w τ d) base t o.type e i z size bytes ht hi hz hsize hby hzs hsz v n xs hown ad m c news hl hnews h1 h63 hbytes hbase
 have hev := events_append_own (P := P) (re w τ d) base t o.type e i z size bytes ht hi hz hsize hby v n xs hown ad m c news hl hnews h1 h63 hbytes
 have hrun : (execOp a.eval o).run P (re w τ d) = .ok (.value v') w' := by
  unfold execOp
  simp only [hop, resolve, invoke, builtin, Sem.run_bind, Sem.run_pure, Result.andThen_ok, List.map_toArray, List.map_cons, List.map_nil, hs, hx, hr]
 have hevs : ∀ e ∈ ((execOp a.eval o).runT P (re w τ d) #[]).2, EvOk Kc e := by
  intro ev he
  rw [Sem.runT_eq] at he
  have he' : ev ∈ (Builtin.append_ #[t, t] o.type #[v, .slice (some ad) m c]).events P (re w τ d) #[] := by
   unfold execOp at he
   simpa [hop, resolve, invoke, builtin, Sem.events_bind, hs, hx, hr] using he
  rcases hev ev he' with ⟨x, h5, h6⟩ | ⟨x, h5, h6⟩ | ⟨mk, h5, h6⟩
  · obtain ⟨loc, wr, sy⟩ := ev
    simp only at h5 h6
    subst h5 h6
    exact evOk_read x sy
  · obtain ⟨loc, wr, sy⟩ := ev
    simp only at h5
    subst h5
    cases wr with
    | false => exact evOk_read x sy
    | true => exact evOk_write x sy (hfree _ h6.symm x rfl)
  · subst h5
    unfold Neutral at h6
    subst h6
    exact evOk_calm ⟨fun m hm => by cases hm; trivial, fun _ => rfl⟩
 refine ⟨hevs, ?_, ?_⟩
 · rw [hrun]
   have hblk : ∀ k, k < w.heap.size → some k ≠ v.ownBlock → w'.heap[k]? = w.heap[k]? := h3.block
   refine ⟨⟨fun hK y u hy => ?_, h3.os, h3.output⟩, fun ch _ ⟨cap, kk, hch⟩ => ?_⟩
   · obtain ⟨a1, a2⟩ := hK y u hy
     have hlt : y.block < w.heap.size := cell_lt a1
     have hne : some y.block ≠ v.ownBlock := fun e => by rw [hfree _ e.symm y rfl] at hy; cases hy
     have := hblk _ hlt hne
     exact ⟨(zqe this).trans a1, (frozen_of_same this).trans a2⟩
   · have hlt : ch < w.heap.size := zq4 hch
     refine hblk ch hlt fun e => ?_
     rcases hown.2 with ⟨hv, _⟩ | ⟨g, cap', cur, hv, _, hg, _⟩
     · rw [hv] at e; cases e
     · rw [hv] at e
       simp only [Value.ownBlock, al_oi] at e
       subst e
       have hch' : w.heap[ch]? = _ := hch
       rw [hg] at hch'; cases hch'
 · rw [hrun]
   exact h v' w' h2 h3.size h3.block h4.2
end
end Go.Car
