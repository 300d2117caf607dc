/- YtnjpcibdaanpeaaSNone6: part 0 of the proof (the texts behind it, in order). -/
import Derived.Test.YtnjpcibdaanpeaaRows
import Derived.Conc.Token
import Derived.Conc.TokenWalk
import Derived.Below
import Derived.Conc.CompanyDraw
import Derived.Conc.DeferLaws
import Derived.Conc.Own3
import Derived.Conc.CompanyMem
import Derived.OrdersHeld
import Derived.Conc.AppendEvents2
import Derived.Maps.AppendAt
import Derived.Conc.CompanyCalls
import Derived.Deep.AppendLies
import Derived.Deep.Quiet
import Derived.Tactics2
import Derived.WalkKit
import Derived.BigQuiet
import Derived.Lib.Hide
import Derived.Deep.LoopGhost
import Derived.Conc.TokenWords
import Derived.LaidEql
import Derived.IntWalk
import Derived.Conc.SmallLaws
import Derived.Laws.MakeOwn
import Derived.Laws.Tables
import Derived.Great.BuildSlice
import Derived.Conc.Beside
import Derived.Deep.Slices
import Derived.WideShapes
import Derived.ChangeArms
import Derived.Carry
import Derived.Conc.Holds
import Derived.Conc.LeavingOf
import Derived.JoinedCond
import Derived.ProofKit
import Derived.OpenShut
import Derived.Laws.LoneSync
import Derived.Laws.Pointers
namespace Go
theorem al_gn {α : Type _} {xs : Array α} {i : Nat} {a : α} {j : Nat} (h : i ≠ j) : (xs.setIfInBounds i a)[j]? = xs[j]? := Array.getElem?_setIfInBounds_ne h
theorem al_gs {α : Type _} {xs : Array α} {i j : Nat} {a : α} : (xs.setIfInBounds i a)[j]? = if i = j then if i < xs.size then some a else none else xs[j]? := Array.getElem?_setIfInBounds
theorem al_gz {α : Type _} {xs : Array α} {i : Nat} {a : α} : (xs.setIfInBounds i a).size = xs.size := Array.size_setIfInBounds
theorem al_gd {α : Type _} {xs : Array α} {i : Nat} {d : α} : xs.getD i d = xs[i]?.getD d := Array.getD_eq_getD_getElem?
theorem al_gl {α : Type _} {xs : List α} {i : Nat} : xs.toArray[i]? = xs[i]? := List.getElem?_toArray
theorem al_g0 {α : Type _} {a : α} {l : List α} : (a :: l)[0]? = some a := List.getElem?_cons_zero
theorem al_g1 {α : Type _} {a : α} {i : Nat} {l : List α} : (a :: l)[i + 1]? = l[i]? := List.getElem?_cons_succ
theorem al_g2 {α : Type _} (l : List α) (i : Nat) (a : α) : l.toArray.setIfInBounds i a = (l.set i a).toArray := List.setIfInBounds_toArray l i a
theorem al_ob {α β : Type _} (a : α) (f : α → Option β) : (some a).bind f = f a := Option.bind_some a f
theorem al_od {α : Type _} {a b : α} : (some a).getD b = a := Option.getD_some
theorem al_oi {α : Type _} (a b : α) : (some a = some b) = (a = b) := Option.some.injEq a b
end Go
set_option linter.unusedSimpArgs false
set_option linter.unusedVariables false
set_option linter.unusedSectionVars false
set_option linter.unnecessarySimpa false
set_option maxHeartbeats 1000000
namespace Go.Car
open Go
def okMark : Mark → Prop
 | .acquire _ | .release _ | .releaseMerge _ | .disable | .enable | .read _ | .write _ => False
 | _ => True
def okHalt : Halt → Prop
 | .panic _ => True
 | .stuck _ => True
 | .unsupported (.initOrder _) => False
 | .unsupported _ => True
 | _ => False
def tame {α : Type} (P : Program) (st : Bool) : Sem α → Prop
 | .pure _ => True
 | .load _ _ k => ∀ v, tame P st (k v)
 | .store _ _ _ k => st = true ∧ tame P st k
 | .new _ k => ∀ n, tame P st (k n)
 | .shape _ k => ∀ s, tame P st (k s)
 | .freeze .. => False
 | .frozen _ k => ∀ b, tame P st (k b)
 | .getObj _ k => ∀ o, tame P st (k o)
 | .setObj .. => False
 | .choose _ k => ∀ n, tame P st (k n)
 | .sys .. => False
 | .program k => tame P st (k P)
 | .mark m k => okMark m ∧ tame P st k
 | .halt h => okHalt h
section
variable {α β : Type} {P : Program} {st : Bool}
theorem zq0 {s : Sem α} {f : α → Sem β} (hs : tame P st s) (hf : ∀ a, tame P st (f a)) : tame P st (s >>= f) := by
 show tame P st (s.bind f)
 induction s with
 | pure a => exact hf a
 | load m a k ih => exact fun v => ih v (hs v)
 | store m a v k ih => exact ⟨hs.1, ih hs.2⟩
 | new o k ih => exact fun v => ih v (hs v)
 | shape r k ih => exact fun v => ih v (hs v)
 | freeze a n k ih => exact hs.elim
 | frozen a k ih => exact fun v => ih v (hs v)
 | getObj r k ih => exact fun v => ih v (hs v)
 | setObj r o k ih => exact hs.elim
 | choose q k ih => exact fun v => ih v (hs v)
 | sys c k ih => exact hs.elim
 | program k ih => exact ih P hs
 | mark m k ih => exact ⟨hs.1, ih hs.2⟩
 | halt h => exact hs
class Tm {α : Type} (P : Program) (st : Bool) (s : Sem α) : Prop where
 out : tame P st s
theorem zq7 (a : α) : tame P st (Pure.pure a : Sem α) := trivial
instance (a : α) : Tm P st (Pure.pure a : Sem α) := ⟨zq7 a⟩
theorem zq4 {s : Sem α} {f : α → β} (hs : tame P st s) : tame P st (Functor.map f s) := zq0 hs fun _ => trivial
theorem tame_stuck (s : String) : tame P st (stuck s : Sem α) := trivial
instance (s : String) : Tm P st (stuck s : Sem α) := ⟨tame_stuck s⟩
theorem tame_u1 (x : String) : tame P st (unsupported (.resourceLimit x) : Sem α) := True.intro
instance (x : String) : Tm P st (unsupported (.resourceLimit x) : Sem α) := ⟨tame_u1 x⟩
theorem tame_u2 (x : String) : tame P st (unsupported (.noEntry x) : Sem α) := True.intro
instance (x : String) : Tm P st (unsupported (.noEntry x) : Sem α) := ⟨tame_u2 x⟩
theorem tame_u3 : tame P st (unsupported .addressObserved : Sem α) := True.intro
instance  : Tm P st (unsupported .addressObserved : Sem α) := ⟨tame_u3 ⟩
theorem tame_u4 (x : String) : tame P st (unsupported (.unsafePointer x) : Sem α) := True.intro
instance (x : String) : Tm P st (unsupported (.unsafePointer x) : Sem α) := ⟨tame_u4 x⟩
theorem tame_goPanic (v : Value) : tame P st (goPanic v : Sem α) := trivial
instance (v : Value) : Tm P st (goPanic v : Sem α) := ⟨tame_goPanic v⟩
theorem tame_program : tame P st program := trivial
instance  : Tm P st program := ⟨tame_program ⟩
theorem tame_load (a : Addr) (m : Mode) : tame P st (load a m) := fun _ => trivial
instance (a : Addr) (m : Mode) : Tm P st (load a m) := ⟨tame_load a m⟩
theorem tame_shape (r : Nat) : tame P st (shape r) := fun _ => trivial
instance (r : Nat) : Tm P st (shape r) := ⟨tame_shape r⟩
theorem tame_frozen (a : Addr) : tame P st (frozen a) := fun _ => trivial
instance (a : Addr) : Tm P st (frozen a) := ⟨tame_frozen a⟩
theorem tame_getObj (r : Nat) : tame P st (getObj r) := fun _ => trivial
instance (r : Nat) : Tm P st (getObj r) := ⟨tame_getObj r⟩
theorem tame_newObj (o : Obj) : tame P st (newObj o) := fun _ => trivial
instance (o : Obj) : Tm P st (newObj o) := ⟨tame_newObj o⟩
theorem tame_choose (q : Question) : tame P st (choose q) := fun _ => trivial
instance (q : Question) : Tm P st (choose q) := ⟨tame_choose q⟩
theorem tame_store (a : Addr) (v : Value) (m : Mode) : tame P true (store a v m) := ⟨rfl, trivial⟩
instance (a : Addr) (v : Value) (m : Mode) : Tm P true (store a v m) := ⟨tame_store a v m⟩
theorem tame_mark {m : Mark} (h : okMark m) : tame P st (mark m) := ⟨h, trivial⟩
theorem tame_noRoom : tame P st (mark .noRoom) := tame_mark trivial
instance  : Tm P st (mark .noRoom) := ⟨tame_noRoom ⟩
theorem tame_underlying (t : TypeId) : tame P st (underlying t) := by
 unfold underlying
 repeat' (first | with_reducible exact Tm.out | with_reducible refine zq4 ?_ | with_reducible refine zq0 ?_ (fun _ => ?_) | split | simp only [])
instance (t : TypeId) : Tm P st (underlying t) := ⟨tame_underlying t⟩
theorem tame_typeInfo (t : TypeId) : tame P st (typeInfo t) := by
 unfold typeInfo
 repeat' (first | with_reducible exact Tm.out | with_reducible refine zq4 ?_ | with_reducible refine zq0 ?_ (fun _ => ?_) | split | simp only [])
instance (t : TypeId) : Tm P st (typeInfo t) := ⟨tame_typeInfo t⟩
theorem zq8 (t : TypeId) : tame P st (sizeOf t) := by
 unfold sizeOf
 repeat' (first | with_reducible exact Tm.out | with_reducible refine zq4 ?_ | with_reducible refine zq0 ?_ (fun _ => ?_) | split | simp only [])
instance (t : TypeId) : Tm P st (sizeOf t) := ⟨zq8 t⟩
theorem tame_zeroValue (t : TypeId) : tame P st (zeroValue t) := by
 unfold zeroValue
 repeat' (first | with_reducible exact Tm.out | with_reducible refine zq4 ?_ | with_reducible refine zq0 ?_ (fun _ => ?_) | split | simp only [])
instance (t : TypeId) : Tm P st (zeroValue t) := ⟨tame_zeroValue t⟩
theorem tame_isAgg (t : TypeId) : tame P st (isAgg t) := by
 unfold isAgg
 repeat' (first | with_reducible exact Tm.out | with_reducible refine zq4 ?_ | with_reducible refine zq0 ?_ (fun _ => ?_) | split | simp only [])
instance (t : TypeId) : Tm P st (isAgg t) := ⟨tame_isAgg t⟩
theorem tame_elemOf (t : TypeId) : tame P st (elemOf t) := by
 unfold elemOf
 repeat' (first | with_reducible exact Tm.out | with_reducible refine zq4 ?_ | with_reducible refine zq0 ?_ (fun _ => ?_) | split | simp only [])
instance (t : TypeId) : Tm P st (elemOf t) := ⟨tame_elemOf t⟩
theorem tame_typeStr (t : TypeId) : tame P st (typeStr t) := by
 unfold typeStr
 repeat' (first | with_reducible exact Tm.out | with_reducible refine zq4 ?_ | with_reducible refine zq0 ?_ (fun _ => ?_) | split | simp only [])
instance (t : TypeId) : Tm P st (typeStr t) := ⟨tame_typeStr t⟩
theorem tame_loadCellsFrom (a : Addr) : ∀ (n i : Nat) (acc : Array Value), tame P st (loadCellsFrom a i n acc)
 | 0, _, _ => trivial
 | n + 1, _, _ => zq0 (tame_load _ _) fun _ => tame_loadCellsFrom a n _ _
theorem tame_loadCells (a : Addr) (n : Nat) : tame P st (loadCells a n) := tame_loadCellsFrom a n 0 #[]
instance (a : Addr) (n : Nat) : Tm P st (loadCells a n) := ⟨tame_loadCells a n⟩
theorem tame_storeCells (a : Addr) : ∀ (vs : List Value) (i : Nat), tame P true (storeCells a vs i)
 | [], _ => trivial
 | _ :: r, i => zq0 (tame_store _ _ _) fun _ => tame_storeCells a r (i + 1)
instance (a : Addr) (vs : List Value) (i : Nat) : Tm P true (storeCells a vs i) := ⟨tame_storeCells a vs i⟩
theorem tame_loadVar (t : TypeId) (a : Addr) : tame P st (loadVar t a) := by
 unfold loadVar
 repeat' (first | with_reducible exact Tm.out | with_reducible refine zq4 ?_ | with_reducible refine zq0 ?_ (fun _ => ?_) | split | simp only [])
instance (t : TypeId) (a : Addr) : Tm P st (loadVar t a) := ⟨tame_loadVar t a⟩
theorem tame_storeVar (t : TypeId) (a : Addr) (v : Value) : tame P true (storeVar t a v) := by
 unfold storeVar
 refine zq0 (zq8 t) fun n => ?_
 split
 · exact zq0 (tame_stuck _) fun _ => tame_storeCells a _ 0
 · exact tame_storeCells a _ 0
theorem tame_newRow (t : TypeId) (c : Array Value) : tame P st (newRow t c) := by
 unfold newRow
 repeat' (first | with_reducible exact Tm.out | with_reducible refine zq4 ?_ | with_reducible refine zq0 ?_ (fun _ => ?_) | split | simp only [])
instance (t : TypeId) (c : Array Value) : Tm P st (newRow t c) := ⟨tame_newRow t c⟩
theorem tame_newVar (t : TypeId) (v : Value) : tame P st (newVar t v) := by
 unfold newVar
 repeat' (first | with_reducible exact Tm.out | with_reducible refine zq4 ?_ | with_reducible refine zq0 ?_ (fun _ => ?_) | split | simp only [])
instance (t : TypeId) (v : Value) : Tm P st (newVar t v) := ⟨tame_newVar t v⟩
theorem tame_part (t : TypeId) (cs : Array Value) (off : Nat) : tame P st (part t cs off) := by
 unfold part
 repeat' (first | with_reducible exact Tm.out | with_reducible refine zq4 ?_ | with_reducible refine zq0 ?_ (fun _ => ?_) | split | simp only [])
instance (t : TypeId) (cs : Array Value) (off : Nat) : Tm P st (part t cs off) := ⟨tame_part t cs off⟩
theorem tame_runtimePanic (e : RuntimeError) : tame P st (runtimePanic e : Sem α) := by
 unfold runtimePanic
 cases e <;> repeat' (first | with_reducible exact Tm.out | with_reducible refine zq4 ?_ | with_reducible refine zq0 ?_ (fun _ => ?_) | split | simp only [])
instance (e : RuntimeError) : Tm P st (runtimePanic e : Sem α) := ⟨tame_runtimePanic e⟩
theorem tame_boundsPanic (k : IntKind) (x y : Int) (c : BoundsCode) : tame P st (boundsPanic k x y c : Sem α) := by
 unfold boundsPanic
 repeat' (first | with_reducible exact Tm.out | with_reducible refine zq4 ?_ | with_reducible refine zq0 ?_ (fun _ => ?_) | split | simp only [])
instance (k : IntKind) (x y : Int) (c : BoundsCode) : Tm P st (boundsPanic k x y c : Sem α) := ⟨tame_boundsPanic k x y c⟩
theorem tame_asIntOf (v : Value) : tame P st (asIntOf v) := by
 unfold asIntOf
 repeat' (first | with_reducible exact Tm.out | with_reducible refine zq4 ?_ | with_reducible refine zq0 ?_ (fun _ => ?_) | split | simp only [])
instance (v : Value) : Tm P st (asIntOf v) := ⟨tame_asIntOf v⟩
theorem tame_asInt (v : Value) : tame P st (asInt v) := by
 unfold asInt
 repeat' (first | with_reducible exact Tm.out | with_reducible refine zq4 ?_ | with_reducible refine zq0 ?_ (fun _ => ?_) | split | simp only [])
instance (v : Value) : Tm P st (asInt v) := ⟨tame_asInt v⟩
theorem tame_asBool (v : Value) : tame P st (asBool v) := by
 unfold asBool
 repeat' (first | with_reducible exact Tm.out | with_reducible refine zq4 ?_ | with_reducible refine zq0 ?_ (fun _ => ?_) | split | simp only [])
instance (v : Value) : Tm P st (asBool v) := ⟨tame_asBool v⟩
theorem tame_asAgg (v : Value) : tame P st (asAgg v) := by
 unfold asAgg
 repeat' (first | with_reducible exact Tm.out | with_reducible refine zq4 ?_ | with_reducible refine zq0 ?_ (fun _ => ?_) | split | simp only [])
instance (v : Value) : Tm P st (asAgg v) := ⟨tame_asAgg v⟩
theorem tame_asAddr (v : Value) : tame P st (asAddr v) := by
 unfold asAddr
 repeat' (first | with_reducible exact Tm.out | with_reducible refine zq4 ?_ | with_reducible refine zq0 ?_ (fun _ => ?_) | split | simp only [])
instance (v : Value) : Tm P st (asAddr v) := ⟨tame_asAddr v⟩
theorem tame_sureAddr (v : Value) : tame P st (Instr.sureAddr v) := by
 unfold Instr.sureAddr
 repeat' (first | with_reducible exact Tm.out | with_reducible refine zq4 ?_ | with_reducible refine zq0 ?_ (fun _ => ?_) | split | simp only [])
instance (v : Value) : Tm P st (Instr.sureAddr v) := ⟨tame_sureAddr v⟩
theorem tame_viewAt (r : Nat) : tame P st (viewAt r) := by
 unfold viewAt
 repeat' (first | with_reducible exact Tm.out | with_reducible refine zq4 ?_ | with_reducible refine zq0 ?_ (fun _ => ?_) | split | simp only [])
instance (r : Nat) : Tm P st (viewAt r) := ⟨tame_viewAt r⟩
theorem tame_noView (a : Addr) : tame P st (noView a) := by
 unfold noView
 repeat' (first | with_reducible exact Tm.out | with_reducible refine zq4 ?_ | with_reducible refine zq0 ?_ (fun _ => ?_) | split | simp only [])
instance (a : Addr) : Tm P st (noView a) := ⟨tame_noView a⟩
theorem tame_byteOf (a : Addr) : tame P st (byteOf a) := by
 unfold byteOf
 repeat' (first | with_reducible exact Tm.out | with_reducible refine zq4 ?_ | with_reducible refine zq0 ?_ (fun _ => ?_) | split | simp only [])
instance (a : Addr) : Tm P st (byteOf a) := ⟨tame_byteOf a⟩
theorem tame_partAt (a : Addr) (i j : Nat) : tame P st (partAt a i j) := by
 unfold partAt
 repeat' (first | with_reducible exact Tm.out | with_reducible refine zq4 ?_ | with_reducible refine zq0 ?_ (fun _ => ?_) | split | simp only [])
instance (a : Addr) (i j : Nat) : Tm P st (partAt a i j) := ⟨tame_partAt a i j⟩
theorem tame_fieldPlace (a : Addr) (f : Field) : tame P st (fieldPlace a f) := by
 unfold fieldPlace
 repeat' (first | with_reducible exact Tm.out | with_reducible refine zq4 ?_ | with_reducible refine zq0 ?_ (fun _ => ?_) | split | simp only [])
instance (a : Addr) (f : Field) : Tm P st (fieldPlace a f) := ⟨tame_fieldPlace a f⟩
theorem tame_alloc (t : TypeId) : tame P st (Instr.alloc t true (.tuple #[])) := by
 unfold Instr.alloc
 repeat' (first | with_reducible exact Tm.out | with_reducible refine zq4 ?_ | with_reducible refine zq0 ?_ (fun _ => ?_) | split | simp only [])
theorem tame_box (t : TypeId) (v : Value) : tame P st (Instr.box t v) := by
 unfold Instr.box
 repeat' (first | with_reducible exact Tm.out | with_reducible refine zq4 ?_ | with_reducible refine zq0 ?_ (fun _ => ?_) | split | simp only [])
theorem tame_mapM {γ δ : Type} (f : γ → Sem δ) (h : ∀ a, tame P st (f a)) (l : List γ) : tame P st (l.mapM f) := by
 induction l with
 | nil => exact zq7 _
 | cons a l ih => rw [List.mapM_cons]; exact zq0 (h a) fun _ => zq0 ih fun _ => zq7 _
theorem zqa {γ δ : Type} (f : γ → Sem δ) (h : ∀ a, tame P st (f a)) (l : Array γ) : tame P st (l.mapM f) := by
 rw [Array.mapM_eq_mapM_toList]
 exact zq4 (tame_mapM f h _)
theorem tame_build (t : TypeId) (ps : Array (Nat × Value)) : tame P st (Instr.build t ps) := by
 unfold Instr.build
 repeat' (first | with_reducible exact Tm.out | with_reducible exact zqa _ (fun _ => zq0 (zq8 _) fun _ => zq7 _) _ | with_reducible refine zq4 ?_ | with_reducible refine zq0 ?_ (fun _ => ?_) | split | simp only [])
theorem tame_buildSlice (t : TypeId) (n : Nat) (ps : Array (Nat × Value)) : tame P st (Instr.buildSlice t n ps) := by
 unfold Instr.buildSlice
 repeat' (first | with_reducible exact Tm.out | with_reducible exact zqa _ (fun _ => zq0 (zq8 _) fun _ => zq7 _) _ | with_reducible refine zq4 ?_ | with_reducible refine zq0 ?_ (fun _ => ?_) | split | simp only [])
theorem tame_loadAt (t : TypeId) (v : Value) : tame P st (Instr.loadAt t v) := by
 unfold Instr.loadAt
 repeat' (first | with_reducible exact Tm.out | with_reducible exact zqa _ (fun _ => zq0 (zq8 _) fun _ => zq7 _) _ | with_reducible refine zq4 ?_ | with_reducible refine zq0 ?_ (fun _ => ?_) | split | simp only [])
theorem tame_storeAt (t : TypeId) (v x : Value) : tame P true (Instr.storeAt t v x) := zq0 (tame_sureAddr v) fun _ => tame_storeVar t _ x
theorem tame_fieldAt (t : TypeId) (v : Value) (i : Nat) : tame P st (Instr.fieldAt t v i) := by
 unfold Instr.fieldAt
 repeat' (first | with_reducible exact Tm.out | with_reducible exact zqa _ (fun _ => zq0 (zq8 _) fun _ => zq7 _) _ | with_reducible refine zq4 ?_ | with_reducible refine zq0 ?_ (fun _ => ?_) | split | simp only [])
theorem tame_indexAt (t : TypeId) (v x : Value) : tame P st (Instr.indexAt t v x) := by
 unfold Instr.indexAt
 repeat' (first | with_reducible exact Tm.out | with_reducible exact zqa _ (fun _ => zq0 (zq8 _) fun _ => zq7 _) _ | with_reducible refine zq4 ?_ | with_reducible refine zq0 ?_ (fun _ => ?_) | split | simp only [])
theorem tame_sliceBound (v : Value) (y : Nat) (c : BoundsCode) : tame P st (Instr.sliceBound v y c) := by
 unfold Instr.sliceBound
 repeat' (first | with_reducible exact Tm.out | with_reducible exact zqa _ (fun _ => zq0 (zq8 _) fun _ => zq7 _) _ | with_reducible refine zq4 ?_ | with_reducible refine zq0 ?_ (fun _ => ?_) | split | simp only [])
instance (v : Value) (y : Nat) (c : BoundsCode) : Tm P st (Instr.sliceBound v y c) := ⟨tame_sliceBound v y c⟩
theorem tame_sliceBounds (b : Bool) (n m : Nat) (x y z : Option Value) : tame P st (Instr.sliceBounds b n m x y z) := by
 unfold Instr.sliceBounds
 repeat' (first | with_reducible exact Tm.out | with_reducible exact zqa _ (fun _ => zq0 (zq8 _) fun _ => zq7 _) _ | with_reducible refine zq4 ?_ | with_reducible refine zq0 ?_ (fun _ => ?_) | split | simp only [])
instance (b : Bool) (n m : Nat) (x y z : Option Value) : Tm P st (Instr.sliceBounds b n m x y z) := ⟨tame_sliceBounds b n m x y z⟩
theorem tame_slice (t : TypeId) (v : Value) (x y z : Option Value) : tame P st (Instr.slice t v x y z) := by
 unfold Instr.slice
 repeat' (first | with_reducible exact Tm.out | with_reducible exact zqa _ (fun _ => zq0 (zq8 _) fun _ => zq7 _) _ | with_reducible refine zq4 ?_ | with_reducible refine zq0 ?_ (fun _ => ?_) | split | simp only [])
instance (t : TypeId) (v : Value) (x y z : Option Value) : Tm P st (Instr.slice t v x y z) := ⟨tame_slice t v x y z⟩
theorem tame_sliceAt (t : TypeId) (v : Value) (x y z : Option Value) : tame P st (Instr.sliceAt t v x y z) := by
 unfold Instr.sliceAt
 repeat' (first | with_reducible exact Tm.out | with_reducible exact zqa _ (fun _ => zq0 (zq8 _) fun _ => zq7 _) _ | with_reducible refine zq4 ?_ | with_reducible refine zq0 ?_ (fun _ => ?_) | split | simp only [])
theorem tame_makeInterface (t : TypeId) (v : Value) : tame P st (Instr.makeInterface t v) := by
 unfold Instr.makeInterface
 repeat' (first | with_reducible exact Tm.out | with_reducible exact zqa _ (fun _ => zq0 (zq8 _) fun _ => zq7 _) _ | with_reducible refine zq4 ?_ | with_reducible refine zq0 ?_ (fun _ => ?_) | split | simp only [])
theorem tame_makeFunc (f : Fn) (a b : Array Value) : tame P st (Instr.makeFunc f a b) := by
 unfold Instr.makeFunc
 repeat' (first | with_reducible exact Tm.out | with_reducible exact zqa _ (fun _ => zq0 (zq8 _) fun _ => zq7 _) _ | with_reducible refine zq4 ?_ | with_reducible refine zq0 ?_ (fun _ => ?_) | split | simp only [])
theorem tame_makeChan (t : TypeId) (v : Value) : tame P st (Instr.makeChan t v) := by
 unfold Instr.makeChan
 repeat' (first | with_reducible exact Tm.out | with_reducible exact zqa _ (fun _ => zq0 (zq8 _) fun _ => zq7 _) _ | with_reducible refine zq4 ?_ | with_reducible refine zq0 ?_ (fun _ => ?_) | split | simp only [])
theorem tame_askRoom (n : Nat) : tame P st (askRoom n) := by
 unfold askRoom
 repeat' (first | with_reducible exact Tm.out | with_reducible exact zqa _ (fun _ => zq0 (zq8 _) fun _ => zq7 _) _ | with_reducible refine zq4 ?_ | with_reducible refine zq0 ?_ (fun _ => ?_) | split | simp only [])
instance (n : Nat) : Tm P st (askRoom n) := ⟨tame_askRoom n⟩
theorem tame_makeSlice (t : TypeId) (a b : Value) : tame P st (Instr.makeSlice t a b) := by
 unfold Instr.makeSlice
 repeat' (first | with_reducible exact Tm.out | with_reducible exact zqa _ (fun _ => zq0 (zq8 _) fun _ => zq7 _) _ | with_reducible refine zq4 ?_ | with_reducible refine zq0 ?_ (fun _ => ?_) | split | simp only [])
theorem tame_field (t : TypeId) (v : Value) (i : Nat) : tame P st (Instr.field t v i) := by
 unfold Instr.field
 repeat' (first | with_reducible exact Tm.out | with_reducible exact zqa _ (fun _ => zq0 (zq8 _) fun _ => zq7 _) _ | with_reducible refine zq4 ?_ | with_reducible refine zq0 ?_ (fun _ => ?_) | split | simp only [])
theorem tame_index (t : TypeId) (v x : Value) : tame P st (Instr.index t v x) := by
 unfold Instr.index
 repeat' (first | with_reducible exact Tm.out | with_reducible exact zqa _ (fun _ => zq0 (zq8 _) fun _ => zq7 _) _ | with_reducible refine zq4 ?_ | with_reducible refine zq0 ?_ (fun _ => ?_) | split | simp only [])
theorem tame_extract (v : Value) (i : Nat) : tame P st (Instr.extract v i) := by
 unfold Instr.extract
 repeat' (first | with_reducible exact Tm.out | with_reducible exact zqa _ (fun _ => zq0 (zq8 _) fun _ => zq7 _) _ | with_reducible refine zq4 ?_ | with_reducible refine zq0 ?_ (fun _ => ?_) | split | simp only [])
theorem tame_typeAssert (v : Value) (t u : TypeId) (b : Bool) : tame P st (Instr.typeAssert v t u b) := by
 unfold Instr.typeAssert
 repeat' (first | with_reducible exact Tm.out | with_reducible exact zqa _ (fun _ => zq0 (zq8 _) fun _ => zq7 _) _ | with_reducible refine zq4 ?_ | with_reducible refine zq0 ?_ (fun _ => ?_) | split | simp only [])
theorem tame_intArith (o : BinOp) (k : IntKind) (x y : Int) : tame P st (Op.intArith o k x y) := by
 unfold Op.intArith
 repeat' (first | with_reducible exact Tm.out | with_reducible exact zqa _ (fun _ => zq0 (zq8 _) fun _ => zq7 _) _ | with_reducible refine zq4 ?_ | with_reducible refine zq0 ?_ (fun _ => ?_) | split | simp only [])
instance (o : BinOp) (k : IntKind) (x y : Int) : Tm P st (Op.intArith o k x y) := ⟨tame_intArith o k x y⟩
theorem tame_intDiv (o : BinOp) (k : IntKind) (x y : Int) : tame P st (Op.intDiv o k x y) := by
 unfold Op.intDiv
 repeat' (first | with_reducible exact Tm.out | with_reducible exact zqa _ (fun _ => zq0 (zq8 _) fun _ => zq7 _) _ | with_reducible refine zq4 ?_ | with_reducible refine zq0 ?_ (fun _ => ?_) | split | simp only [])
instance (o : BinOp) (k : IntKind) (x y : Int) : Tm P st (Op.intDiv o k x y) := ⟨tame_intDiv o k x y⟩
theorem tame_intBits (o : BinOp) (k : IntKind) (x y : Int) : tame P st (Op.intBits o k x y) := by
 unfold Op.intBits
 repeat' (first | with_reducible exact Tm.out | with_reducible exact zqa _ (fun _ => zq0 (zq8 _) fun _ => zq7 _) _ | with_reducible refine zq4 ?_ | with_reducible refine zq0 ?_ (fun _ => ?_) | split | simp only [])
instance (o : BinOp) (k : IntKind) (x y : Int) : Tm P st (Op.intBits o k x y) := ⟨tame_intBits o k x y⟩
theorem tame_intCmp (o : BinOp) (x y : Int) : tame P st (Op.intCmp o x y) := by
 unfold Op.intCmp
 repeat' (first | with_reducible exact Tm.out | with_reducible exact zqa _ (fun _ => zq0 (zq8 _) fun _ => zq7 _) _ | with_reducible refine zq4 ?_ | with_reducible refine zq0 ?_ (fun _ => ?_) | split | simp only [])
instance (o : BinOp) (x y : Int) : Tm P st (Op.intCmp o x y) := ⟨tame_intCmp o x y⟩
theorem tame_shift (o : BinOp) (k : IntKind) (x : Int) (l : IntKind) (y : Int) : tame P st (Op.shift o k x l y) := by
 unfold Op.shift
 repeat' (first | with_reducible exact Tm.out | with_reducible exact zqa _ (fun _ => zq0 (zq8 _) fun _ => zq7 _) _ | with_reducible refine zq4 ?_ | with_reducible refine zq0 ?_ (fun _ => ?_) | split | simp only [])
instance (o : BinOp) (k : IntKind) (x : Int) (l : IntKind) (y : Int) : Tm P st (Op.shift o k x l y) := ⟨tame_shift o k x l y⟩
theorem tame_floatArith (o : BinOp) (k : FloatKind) (x y : Nat) : tame P st (Op.floatArith o k x y) := by
 unfold Op.floatArith
 repeat' (first | with_reducible exact Tm.out | with_reducible exact zqa _ (fun _ => zq0 (zq8 _) fun _ => zq7 _) _ | with_reducible refine zq4 ?_ | with_reducible refine zq0 ?_ (fun _ => ?_) | split | simp only [])
instance (o : BinOp) (k : FloatKind) (x y : Nat) : Tm P st (Op.floatArith o k x y) := ⟨tame_floatArith o k x y⟩
theorem tame_floatCmp (o : BinOp) (k : FloatKind) (x y : Nat) : tame P st (Op.floatCmp o k x y) := by
 unfold Op.floatCmp
 repeat' (first | with_reducible exact Tm.out | with_reducible exact zqa _ (fun _ => zq0 (zq8 _) fun _ => zq7 _) _ | with_reducible refine zq4 ?_ | with_reducible refine zq0 ?_ (fun _ => ?_) | split | simp only [])
instance (o : BinOp) (k : FloatKind) (x y : Nat) : Tm P st (Op.floatCmp o k x y) := ⟨tame_floatCmp o k x y⟩
theorem tame_stringOp (o : BinOp) (x y : ByteArray) : tame P st (Op.stringOp o x y) := by
 unfold Op.stringOp
 repeat' (first | with_reducible exact Tm.out | with_reducible exact zqa _ (fun _ => zq0 (zq8 _) fun _ => zq7 _) _ | with_reducible refine zq4 ?_ | with_reducible refine zq0 ?_ (fun _ => ?_) | split | simp only [])
instance (o : BinOp) (x y : ByteArray) : Tm P st (Op.stringOp o x y) := ⟨tame_stringOp o x y⟩
theorem tame_floatToFloat (k : FloatKind) (x : Nat) (l : FloatKind) : tame P st (Conv.floatToFloat k x l) := by
 unfold Conv.floatToFloat
 repeat' (first | with_reducible exact Tm.out | with_reducible exact zqa _ (fun _ => zq0 (zq8 _) fun _ => zq7 _) _ | with_reducible refine zq4 ?_ | with_reducible refine zq0 ?_ (fun _ => ?_) | split | simp only [])
instance (k : FloatKind) (x : Nat) (l : FloatKind) : Tm P st (Conv.floatToFloat k x l) := ⟨tame_floatToFloat k x l⟩
theorem tame_carith (o : BinOp) (k : FloatKind) (x y : Nat) : tame P st (Op.Complex.arith o k x y) := by
 unfold Op.Complex.arith
 repeat' (first | with_reducible exact Tm.out | with_reducible exact zqa _ (fun _ => zq0 (zq8 _) fun _ => zq7 _) _ | with_reducible refine zq4 ?_ | with_reducible refine zq0 ?_ (fun _ => ?_) | split | simp only [])
instance (o : BinOp) (k : FloatKind) (x y : Nat) : Tm P st (Op.Complex.arith o k x y) := ⟨tame_carith o k x y⟩
theorem tame_ccmp (o : BinOp) (k : FloatKind) (x y : Nat) : tame P st (Op.Complex.cmp o k x y) := by
 unfold Op.Complex.cmp
 repeat' (first | with_reducible exact Tm.out | with_reducible exact zqa _ (fun _ => zq0 (zq8 _) fun _ => zq7 _) _ | with_reducible refine zq4 ?_ | with_reducible refine zq0 ?_ (fun _ => ?_) | split | simp only [])
instance (o : BinOp) (k : FloatKind) (x y : Nat) : Tm P st (Op.Complex.cmp o k x y) := ⟨tame_ccmp o k x y⟩
theorem tame_cconv (k : FloatKind) (x : Nat) (l : FloatKind) : tame P st (Op.Complex.conv k x l) := by
 unfold Op.Complex.conv
 repeat' (first | with_reducible exact Tm.out | with_reducible exact zqa _ (fun _ => zq0 (zq8 _) fun _ => zq7 _) _ | with_reducible refine zq4 ?_ | with_reducible refine zq0 ?_ (fun _ => ?_) | split | simp only [])
instance (k : FloatKind) (x : Nat) (l : FloatKind) : Tm P st (Op.Complex.conv k x l) := ⟨tame_cconv k x l⟩
theorem tame_cadd (x y : Nat) : tame P st (Op.Complex.add x y) := by
 unfold Op.Complex.add
 repeat' (first | with_reducible exact Tm.out | with_reducible exact zqa _ (fun _ => zq0 (zq8 _) fun _ => zq7 _) _ | with_reducible refine zq4 ?_ | with_reducible refine zq0 ?_ (fun _ => ?_) | split | simp only [])
instance (x y : Nat) : Tm P st (Op.Complex.add x y) := ⟨tame_cadd x y⟩
theorem tame_csub (x y : Nat) : tame P st (Op.Complex.sub x y) := by
 unfold Op.Complex.sub
 repeat' (first | with_reducible exact Tm.out | with_reducible exact zqa _ (fun _ => zq0 (zq8 _) fun _ => zq7 _) _ | with_reducible refine zq4 ?_ | with_reducible refine zq0 ?_ (fun _ => ?_) | split | simp only [])
instance (x y : Nat) : Tm P st (Op.Complex.sub x y) := ⟨tame_csub x y⟩
theorem tame_cmul (x y : Nat) : tame P st (Op.Complex.mul x y) := by
 unfold Op.Complex.mul
 repeat' (first | with_reducible exact Tm.out | with_reducible exact zqa _ (fun _ => zq0 (zq8 _) fun _ => zq7 _) _ | with_reducible refine zq4 ?_ | with_reducible refine zq0 ?_ (fun _ => ?_) | split | simp only [])
instance (x y : Nat) : Tm P st (Op.Complex.mul x y) := ⟨tame_cmul x y⟩
theorem tame_cquo (x y : Nat) : tame P st (Op.Complex.quo x y) := by
 unfold Op.Complex.quo
 repeat' (first | with_reducible exact Tm.out | with_reducible exact zqa _ (fun _ => zq0 (zq8 _) fun _ => zq7 _) _ | with_reducible refine zq4 ?_ | with_reducible refine zq0 ?_ (fun _ => ?_) | split | simp only [])
instance (x y : Nat) : Tm P st (Op.Complex.quo x y) := ⟨tame_cquo x y⟩
theorem tame_product (a b c d : Nat) : tame P st (Op.Complex.product a b c d) := by
 unfold Op.Complex.product
 repeat' (first | with_reducible exact Tm.out | with_reducible exact zqa _ (fun _ => zq0 (zq8 _) fun _ => zq7 _) _ | with_reducible refine zq4 ?_ | with_reducible refine zq0 ?_ (fun _ => ?_) | split | simp only [])
instance (a b c d : Nat) : Tm P st (Op.Complex.product a b c d) := ⟨tame_product a b c d⟩
theorem tame_corrected (s a b c d : Nat) : tame P st (Op.Complex.corrected s a b c d) := by
 unfold Op.Complex.corrected
 repeat' (first | with_reducible exact Tm.out | with_reducible exact zqa _ (fun _ => zq0 (zq8 _) fun _ => zq7 _) _ | with_reducible refine zq4 ?_ | with_reducible refine zq0 ?_ (fun _ => ?_) | split | simp only [])
instance (s a b c d : Nat) : Tm P st (Op.Complex.corrected s a b c d) := ⟨tame_corrected s a b c d⟩
theorem tame_quotient (a b c d : Nat) : tame P st (Op.Complex.quotient a b c d) := by
 unfold Op.Complex.quotient
 repeat' (first | with_reducible exact Tm.out | with_reducible exact zqa _ (fun _ => zq0 (zq8 _) fun _ => zq7 _) _ | with_reducible refine zq4 ?_ | with_reducible refine zq0 ?_ (fun _ => ?_) | split | simp only [])
instance (a b c d : Nat) : Tm P st (Op.Complex.quotient a b c d) := ⟨tame_quotient a b c d⟩
theorem tame_complexOp (o : BinOp) (k : FloatKind) (a b c d : Nat) : tame P st (Op.complexOp o k a b c d) := by
 unfold Op.complexOp
 repeat' (first | with_reducible exact Tm.out | with_reducible exact zqa _ (fun _ => zq0 (zq8 _) fun _ => zq7 _) _ | with_reducible refine zq4 ?_ | with_reducible refine zq0 ?_ (fun _ => ?_) | split | simp only [])
instance (o : BinOp) (k : FloatKind) (a b c d : Nat) : Tm P st (Op.complexOp o k a b c d) := ⟨tame_complexOp o k a b c d⟩
theorem tame_numberAt (r : Nat) : tame P st (numberAt r) := by
 unfold numberAt
 repeat' (first | with_reducible exact Tm.out | with_reducible exact zqa _ (fun _ => zq0 (zq8 _) fun _ => zq7 _) _ | with_reducible refine zq4 ?_ | with_reducible refine zq0 ?_ (fun _ => ?_) | split | simp only [])
instance (r : Nat) : Tm P st (numberAt r) := ⟨tame_numberAt r⟩
theorem tame_behindNumber (a : Addr) : tame P st (behindNumber a) := by
 unfold behindNumber
 repeat' (first | with_reducible exact Tm.out | with_reducible exact zqa _ (fun _ => zq0 (zq8 _) fun _ => zq7 _) _ | with_reducible refine zq4 ?_ | with_reducible refine zq0 ?_ (fun _ => ?_) | split | simp only [])
instance (a : Addr) : Tm P st (behindNumber a) := ⟨tame_behindNumber a⟩
theorem tame_asNumber (a : Addr) (b : Bool) : tame P st (asNumber a b) := by
 unfold asNumber
 repeat' (first | with_reducible exact Tm.out | with_reducible exact zqa _ (fun _ => zq0 (zq8 _) fun _ => zq7 _) _ | with_reducible refine zq4 ?_ | with_reducible refine zq0 ?_ (fun _ => ?_) | split | simp only [])
instance (a : Addr) (b : Bool) : Tm P st (asNumber a b) := ⟨tame_asNumber a b⟩
theorem tame_stringish (a : Addr) : tame P st (stringish a) := by
 unfold stringish
 repeat' (first | with_reducible exact Tm.out | with_reducible exact zqa _ (fun _ => zq0 (zq8 _) fun _ => zq7 _) _ | with_reducible refine zq4 ?_ | with_reducible refine zq0 ?_ (fun _ => ?_) | split | simp only [])
instance (a : Addr) : Tm P st (stringish a) := ⟨tame_stringish a⟩
theorem tame_mayBeOne (a b : Addr) : tame P st (mayBeOne a b) := by
 unfold mayBeOne
 repeat' (first | with_reducible exact Tm.out | with_reducible exact zqa _ (fun _ => zq0 (zq8 _) fun _ => zq7 _) _ | with_reducible refine zq4 ?_ | with_reducible refine zq0 ?_ (fun _ => ?_) | split | simp only [])
instance (a b : Addr) : Tm P st (mayBeOne a b) := ⟨tame_mayBeOne a b⟩
theorem tame_sameAddr (a b : Addr) : tame P st (sameAddr a b) := by
 unfold sameAddr
 repeat' (first | with_reducible exact Tm.out | with_reducible exact zqa _ (fun _ => zq0 (zq8 _) fun _ => zq7 _) _ | with_reducible refine zq4 ?_ | with_reducible refine zq0 ?_ (fun _ => ?_) | split | simp only [])
instance (a b : Addr) : Tm P st (sameAddr a b) := ⟨tame_sameAddr a b⟩
theorem tame_samePointer (a b : Option Addr) : tame P st (samePointer a b) := by
 unfold samePointer
 repeat' (first | with_reducible exact Tm.out | with_reducible exact zqa _ (fun _ => zq0 (zq8 _) fun _ => zq7 _) _ | with_reducible refine zq4 ?_ | with_reducible refine zq0 ?_ (fun _ => ?_) | split | simp only [])
instance (a b : Option Addr) : Tm P st (samePointer a b) := ⟨tame_samePointer a b⟩
theorem tame_twoPlaces (a b : Addr) : tame P st (Op.twoPlaces a b) := by
 unfold Op.twoPlaces
 repeat' (first | with_reducible exact Tm.out | with_reducible exact zqa _ (fun _ => zq0 (zq8 _) fun _ => zq7 _) _ | with_reducible refine zq4 ?_ | with_reducible refine zq0 ?_ (fun _ => ?_) | split | simp only [])
instance (a b : Addr) : Tm P st (Op.twoPlaces a b) := ⟨tame_twoPlaces a b⟩
theorem tame_addrSub (k : IntKind) (a b : Addr) : tame P st (Op.addrSub k a b) := by
 unfold Op.addrSub
 repeat' (first | with_reducible exact Tm.out | with_reducible exact zqa _ (fun _ => zq0 (zq8 _) fun _ => zq7 _) _ | with_reducible refine zq4 ?_ | with_reducible refine zq0 ?_ (fun _ => ?_) | split | simp only [])
instance (k : IntKind) (a b : Addr) : Tm P st (Op.addrSub k a b) := ⟨tame_addrSub k a b⟩
theorem tame_addrCmp (o : BinOp) (a b : Addr) : tame P st (Op.addrCmp o a b) := by
 unfold Op.addrCmp
 repeat' (first | with_reducible exact Tm.out | with_reducible exact zqa _ (fun _ => zq0 (zq8 _) fun _ => zq7 _) _ | with_reducible refine zq4 ?_ | with_reducible refine zq0 ?_ (fun _ => ?_) | split | simp only [])
instance (o : BinOp) (a b : Addr) : Tm P st (Op.addrCmp o a b) := ⟨tame_addrCmp o a b⟩
theorem tame_addrMod (k : IntKind) (a : Addr) (n : Int) : tame P st (Op.addrMod k a n) := by
 unfold Op.addrMod
 repeat' (first | with_reducible exact Tm.out | with_reducible exact zqa _ (fun _ => zq0 (zq8 _) fun _ => zq7 _) _ | with_reducible refine zq4 ?_ | with_reducible refine zq0 ?_ (fun _ => ?_) | split | simp only [])
instance (k : IntKind) (a : Addr) (n : Int) : Tm P st (Op.addrMod k a n) := ⟨tame_addrMod k a n⟩
theorem tame_unsafeAdd (t : TypeId) (x : Option Addr) (y : Value) : tame P st (Builtin.unsafeAdd_ #[] t #[.pointer x, y]) := by
 refine zq0 (s := asInt y) (tame_asInt y) (fun n => ?_)
 repeat' (first | with_reducible exact Tm.out | with_reducible exact zqa _ (fun _ => zq0 (zq8 _) fun _ => zq7 _) _ | with_reducible refine zq4 ?_ | with_reducible refine zq0 ?_ (fun _ => ?_) | split | simp only [])
instance (t : TypeId) (x : Option Addr) (y : Value) : Tm P st (Builtin.unsafeAdd_ #[] t #[.pointer x, y]) := ⟨tame_unsafeAdd t x y⟩
theorem tame_unsafeAddV (t : TypeId) (x y : Value) : tame P st (Builtin.unsafeAdd_ #[] t #[x, y]) := by
 cases x <;> first | exact tame_unsafeAdd _ _ _ | exact True.intro
instance (t : TypeId) (x y : Value) : Tm P st (Builtin.unsafeAdd_ #[] t #[x, y]) := ⟨tame_unsafeAddV t x y⟩
theorem tame_movedNumber (t : TypeId) (x y : Value) : tame P st (movedNumber t x y) := by
 unfold movedNumber
 repeat' (first | with_reducible exact Tm.out | with_reducible exact zqa _ (fun _ => zq0 (zq8 _) fun _ => zq7 _) _ | with_reducible refine zq4 ?_ | with_reducible refine zq0 ?_ (fun _ => ?_) | split | simp only [])
instance (t : TypeId) (x y : Value) : Tm P st (movedNumber t x y) := ⟨tame_movedNumber t x y⟩
theorem tame_movedPointer (t : TypeId) (x y : Value) : tame P st (movedPointer t x y) := by
 unfold movedPointer
 repeat' (first | with_reducible exact Tm.out | with_reducible exact zqa _ (fun _ => zq0 (zq8 _) fun _ => zq7 _) _ | with_reducible refine zq4 ?_ | with_reducible refine zq0 ?_ (fun _ => ?_) | split | simp only [])
instance (t : TypeId) (x y : Value) : Tm P st (movedPointer t x y) := ⟨tame_movedPointer t x y⟩
theorem tame_eqAddr (a b : Addr) : tame P st ((do pure ((← byteOf a) == (← byteOf b)) : Sem Bool)) := by
 repeat' (first | with_reducible exact Tm.out | with_reducible exact zqa _ (fun _ => zq0 (zq8 _) fun _ => zq7 _) _ | with_reducible refine zq4 ?_ | with_reducible refine zq0 ?_ (fun _ => ?_) | split | simp only [])
instance (a b : Addr) : Tm P st ((do pure ((← byteOf a) == (← byteOf b)) : Sem Bool)) := ⟨tame_eqAddr a b⟩
theorem tame_forIn {γ δ : Type} (l : List γ) (b : δ) (f : γ → δ → Sem (ForInStep δ)) (h : ∀ a b, tame P st (f a b)) : tame P st (forIn l b f) := by
 induction l generalizing b with
 | nil => exact zq7 _
 | cons a l ih =>
  rw [List.forIn_cons]
  refine zq0 (h a b) fun r => ?_
  cases r with
  | done b => exact zq7 _
  | yield b => exact ih b
theorem tame_forInA {γ δ : Type} (l : Array γ) (b : δ) (f : γ → δ → Sem (ForInStep δ)) (h : ∀ a b, tame P st (f a b)) : tame P st (forIn l b f) := by
 rw [← Array.forIn_toList]; exact tame_forIn _ _ _ h
theorem tame_forInR {δ : Type} (r : Std.Legacy.Range) (b : δ) (f : Nat → δ → Sem (ForInStep δ)) (h : ∀ a b, tame P st (f a b)) : tame P st (forIn r b f) := by
 rw [Std.Legacy.Range.forIn_eq_forIn_range']; exact tame_forIn _ _ _ h
theorem tame_equalIn : ∀ (d : Nat) (t : TypeId) (x y : Value), tame P st (Op.equalIn d t x y)
 | 0, _, _, _ => True.intro
 | d + 1, t, x, y => by
  have ih := fun t x y => tame_equalIn d t x y
  unfold Op.equalIn
  refine zq0 (tame_underlying _) (fun k => ?_)
  repeat' (first | with_reducible exact Tm.out | with_reducible exact zqa _ (fun _ => zq0 (zq8 _) fun _ => zq7 _) _ | with_reducible refine zq4 ?_ | with_reducible refine zq0 ?_ (fun _ => ?_) | split | simp only [] | with_reducible exact ih _ _ _ | refine tame_forInA _ _ _ (fun _ _ => ?_) | refine tame_forInR _ _ _ (fun _ _ => ?_))
theorem tame_equal (t : TypeId) (x y : Value) : tame P st (Op.equal t x y) := tame_equalIn _ t x y
instance (t : TypeId) (x y : Value) : Tm P st (Op.equal t x y) := ⟨tame_equal t x y⟩
theorem tame_eqGuardIn : ∀ (d : Nat) (t : TypeId) (x y : Value), tame P st (Op.eqGuardIn d t x y)
 | 0, _, _, _ => True.intro
 | d + 1, t, x, y => by
  have ih := fun t x y => tame_eqGuardIn d t x y
  unfold Op.eqGuardIn
  refine zq0 (tame_underlying _) (fun k => ?_)
  repeat' (first | with_reducible exact Tm.out | with_reducible exact zqa _ (fun _ => zq0 (zq8 _) fun _ => zq7 _) _ | with_reducible refine zq4 ?_ | with_reducible refine zq0 ?_ (fun _ => ?_) | split | simp only [] | with_reducible exact ih _ _ _ | refine tame_forInA _ _ _ (fun _ _ => ?_) | refine tame_forInR _ _ _ (fun _ _ => ?_))
instance (d : Nat) (t : TypeId) (x y : Value) : Tm P st (Op.eqGuardIn d t x y) := ⟨tame_eqGuardIn d t x y⟩
theorem tame_eqGuard (o : BinOp) (t : TypeId) (x y : Operand) (a b : Value) : tame P st (eqGuard o t x y a b) := by
 unfold eqGuard
 repeat' (first | with_reducible exact Tm.out | with_reducible exact zqa _ (fun _ => zq0 (zq8 _) fun _ => zq7 _) _ | with_reducible refine zq4 ?_ | with_reducible refine zq0 ?_ (fun _ => ?_) | split | simp only [])
theorem tame_binOp (o : BinOp) (t : TypeId) (x y : Value) : tame P st (binOp o t x y) := by
 unfold binOp
 repeat' (first | with_reducible exact Tm.out | with_reducible exact zqa _ (fun _ => zq0 (zq8 _) fun _ => zq7 _) _ | with_reducible refine zq4 ?_ | with_reducible refine zq0 ?_ (fun _ => ?_) | split | simp only [])
theorem tame_unary (o : UnOp) (x : Value) : tame P st (Op.unary o x) := by
 unfold Op.unary
 repeat' (first | with_reducible exact Tm.out | with_reducible exact zqa _ (fun _ => zq0 (zq8 _) fun _ => zq7 _) _ | with_reducible refine zq4 ?_ | with_reducible refine zq0 ?_ (fun _ => ?_) | split | simp only [])
end
section
variable {α β : Type} {P : Program} {st : Bool}
theorem tame_holdsCells (a : Addr) (n : Nat) : tame P st (Builtin.holdsCells a n) := by
 unfold Builtin.holdsCells
 repeat' (first | with_reducible exact Tm.out | with_reducible exact zqa _ (fun _ => zq0 (zq8 _) fun _ => zq7 _) _ | with_reducible refine zq4 ?_ | with_reducible refine zq0 ?_ (fun _ => ?_) | split | simp only [])
instance (a : Addr) (n : Nat) : Tm P st (Builtin.holdsCells a n) := ⟨tame_holdsCells a n⟩
theorem tame_mayShare (s n m : Nat) (b : Option Addr) (x : Value) : tame P st (Builtin.mayShare s n m b x) := by
 unfold Builtin.mayShare
 repeat' (first | with_reducible exact Tm.out | with_reducible exact zqa _ (fun _ => zq0 (zq8 _) fun _ => zq7 _) _ | with_reducible refine zq4 ?_ | with_reducible refine zq0 ?_ (fun _ => ?_) | split | simp only [])
instance (s n m : Nat) (b : Option Addr) (x : Value) : Tm P st (Builtin.mayShare s n m b x) := ⟨tame_mayShare s n m b x⟩
theorem tame_lenOf (x : Value) : tame P st (Builtin.lenOf x) := by
 unfold Builtin.lenOf
 repeat' (first | with_reducible exact Tm.out | with_reducible exact zqa _ (fun _ => zq0 (zq8 _) fun _ => zq7 _) _ | with_reducible refine zq4 ?_ | with_reducible refine zq0 ?_ (fun _ => ?_) | split | simp only [])
instance (x : Value) : Tm P st (Builtin.lenOf x) := ⟨tame_lenOf x⟩
theorem tame_firstCells (s n : Nat) (x : Value) : tame P st (Builtin.firstCells s n x) := by
 unfold Builtin.firstCells
 repeat' (first | with_reducible exact Tm.out | with_reducible exact zqa _ (fun _ => zq0 (zq8 _) fun _ => zq7 _) _ | with_reducible refine zq4 ?_ | with_reducible refine zq0 ?_ (fun _ => ?_) | split | simp only [])
instance (s n : Nat) (x : Value) : Tm P st (Builtin.firstCells s n x) := ⟨tame_firstCells s n x⟩
theorem tame_under {t : TypeId} {f : TypeDesc → Sem α} (h : ∀ d, P.underlying t = some d → tame P st (f d)) : tame P st (do let d ← underlying t; f d) := by
 have key : ∀ x : Option TypeDesc, P.underlying t = x → tame P st ((match x with | some d => Sem.pure d | none => Sem.halt (.stuck "no such type") : Sem TypeDesc).bind f) := by
  intro x hx
  cases x with
  | none => exact True.intro
  | some d => exact h d hx
 exact key _ rfl
theorem tame_append (l : Array TypeId) (t : TypeId) (a : Array Value) (hx : ∀ x, l[1]? = some x → ∀ k, P.underlying x ≠ some (.int k)) : tame P true (Builtin.append_ l t a) := by
 unfold Builtin.append_
 split
 · refine zq0 (tame_underlying _) fun d => ?_
   split
   · split
     · refine zq0 (zq8 _) fun size => ?_
       simp only []
       cases e : l[1]? with
       | none =>
        simp only [Bool.false_eq_true, if_false, Bool.not_false, if_true, false_or, reduceIte, pure_bind]
        repeat' (first | with_reducible exact Tm.out | with_reducible exact zqa _ (fun _ => zq0 (zq8 _) fun _ => zq7 _) _ | with_reducible refine zq4 ?_ | with_reducible refine zq0 ?_ (fun _ => ?_) | split | simp only [])
       | some x =>
        refine tame_under fun d hd => ?_
        have hne := hx x e
        cases d <;> first
         | (rename_i k; exact absurd hd (hne k))
         | (clear hd hne e hx
            simp only [Bool.false_eq_true, if_false, Bool.not_false, if_true, false_or, reduceIte, pure_bind]
            repeat' (first | with_reducible exact Tm.out | with_reducible exact zqa _ (fun _ => zq0 (zq8 _) fun _ => zq7 _) _ | with_reducible refine zq4 ?_ | with_reducible refine zq0 ?_ (fun _ => ?_) | split | simp only []))
     · exact tame_stuck _
   · exact tame_stuck _
 · exact tame_stuck _
theorem tame_len (l : Array TypeId) (t : TypeId) (a : Array Value) : tame P st (Builtin.len_ l t a) := by
 unfold Builtin.len_
 repeat' (first | with_reducible exact Tm.out | with_reducible exact zqa _ (fun _ => zq0 (zq8 _) fun _ => zq7 _) _ | with_reducible refine zq4 ?_ | with_reducible refine zq0 ?_ (fun _ => ?_) | split | simp only [])
theorem tame_min2 (x y : Value) : tame P st (Builtin.min2 x y) := by
 unfold Builtin.min2
 repeat' (first | with_reducible exact Tm.out | with_reducible exact zqa _ (fun _ => zq0 (zq8 _) fun _ => zq7 _) _ | with_reducible refine zq4 ?_ | with_reducible refine zq0 ?_ (fun _ => ?_) | split | simp only [])
theorem tame_max2 (x y : Value) : tame P st (Builtin.max2 x y) := by
 unfold Builtin.max2
 repeat' (first | with_reducible exact Tm.out | with_reducible exact zqa _ (fun _ => zq0 (zq8 _) fun _ => zq7 _) _ | with_reducible refine zq4 ?_ | with_reducible refine zq0 ?_ (fun _ => ?_) | split | simp only [])
theorem tame_foldlM {γ : Type} (f : Value → γ → Sem Value) (h : ∀ a b, tame P st (f a b)) (l : List γ) : ∀ (b : Value), tame P st (l.foldlM f b) := by
 induction l with
 | nil => exact fun b => zq7 _
 | cons a l ih => intro b; rw [List.foldlM_cons]; exact zq0 (h b a) fun _ => ih _
theorem tame_min (l : Array TypeId) (t : TypeId) (a : Array Value) : tame P st (Builtin.min_ l t a) := by
 unfold Builtin.min_
 split
 · exact tame_stuck _
 · exact tame_foldlM _ (fun _ _ => tame_min2 _ _) _ _
theorem tame_max (l : Array TypeId) (t : TypeId) (a : Array Value) : tame P st (Builtin.max_ l t a) := by
 unfold Builtin.max_
 split
 · exact tame_stuck _
 · exact tame_foldlM _ (fun _ _ => tame_max2 _ _) _ _
theorem tame_followBlind : ∀ (l : List FieldStep) (t : TypeId) (x : Option Value), tame P st (followBlind l t x)
 | [], _, _ => zq7 _
 | s :: rest, t, x => by
  have ih := fun t x => tame_followBlind rest t x
  unfold followBlind
  repeat' (first | with_reducible exact Tm.out | with_reducible exact zqa _ (fun _ => zq0 (zq8 _) fun _ => zq7 _) _ | with_reducible refine zq4 ?_ | with_reducible refine zq0 ?_ (fun _ => ?_) | split | simp only [] | with_reducible exact ih _ _)
instance (l : List FieldStep) (t : TypeId) (x : Option Value) : Tm P st (followBlind l t x) := ⟨tame_followBlind l t x⟩
theorem tame_nilAhead : ∀ (n : Nat) (t : TypeId) (x : Value) (s : String), tame P st (nilAhead n t x s)
 | 0, _, _, _ => zq7 _
 | n + 1, t, x, s => by
  have ih := fun t x s => tame_nilAhead n t x s
  unfold nilAhead
  repeat' (first | with_reducible exact Tm.out | with_reducible exact zqa _ (fun _ => zq0 (zq8 _) fun _ => zq7 _) _ | with_reducible refine zq4 ?_ | with_reducible refine zq0 ?_ (fun _ => ?_) | split | simp only [] | with_reducible exact ih _ _ _)
end
def re (w : World) (τ : Nat → Question → Nat) (d : Nat) : World := { w with tape := τ, drawn := d }
theorem re_re (w : World) (τ τ' : Nat → Question → Nat) (d d' : Nat) : re (re w τ d) τ' d' = re w τ' d' := rfl
theorem re_self (w : World) : re w w.tape w.drawn = w := rfl
def resRe {α : Type} (r : Result α) (τ : Nat → Question → Nat) (d : Nat) : Result α :=
 match r with
 | .ok a w => .ok a (re w τ d)
 | .halt h w => .halt h (re w τ d)
def resW {α : Type} : Result α → World
 | .ok _ w => w
 | .halt _ w => w
theorem seen_re (P : Program) (w : World) (τ : Nat → Question → Nat) (d : Nat) (a : Addr) (t : TypeId) (k : Addr) (b : Bool) : (re w τ d).seen P a t k b = w.seen P a t k b := rfl
theorem farLoad_re (P : Program) (w : World) (τ : Nat → Question → Nat) (d : Nat) (a : Addr) (b : Bool) : (re w τ d).farLoad P a b = w.farLoad P a b := rfl
theorem viewStore_re (P : Program) (w : World) (τ : Nat → Question → Nat) (d : Nat) (a : Addr) (t : TypeId) (k : Addr) (v : Value) (b : Bool) :
 (re w τ d).viewStore P a t k v b = (w.viewStore P a t k v b).map fun x => (re x.1 τ d, x.2) := by
 unfold World.viewStore
 rw [seen_re]
 simp only [bind, Except.bind, pure, Except.pure, Except.map, throw, throwThe, MonadExceptOf.throw]
 cases tight P P.depth t <;> simp only [Bool.not_true, Bool.not_false, Bool.false_eq_true, if_true, if_false, reduceIte]
 · cases w.seen P a t k b <;> cases v.bytes? <;> rfl
 cases w.seen P a t k b with
 | error e => cases v.bytes? <;> rfl
 | ok x =>
  obtain ⟨c, e, fr, first, like, cells⟩ := x
  simp only []
  cases v.bytes? with
  | none => rfl
  | some bytes =>
   simp only []
   by_cases hl : some bytes.length ≠ Option.map (fun x => x.length) like.bytes?
   · simp only [if_pos hl]; rfl
   · simp only [if_neg hl]
     generalize (List.foldlM (m := Except String) _ _ _ : Except String (Array Value)) = X
     cases X <;> rfl
theorem farStore_re (P : Program) (w : World) (τ : Nat → Question → Nat) (d : Nat) (a : Addr) (v : Value) (b : Bool) :
 (re w τ d).farStore P a v b = (w.farStore P a v b).map fun x => (re x.1 τ d, x.2) := by
 unfold World.farStore
 have hh : (re w τ d).heap = w.heap := rfl
 rw [hh]
 cases hO : w.heap[a.block]? with
 | none => simp only [World.noCell, hh, hO, Except.map]
 | some o =>
  cases o <;> simp only [World.noCell, hh, hO, Except.map, viewStore_re]
  cases w.viewStore P _ _ a v b <;> rfl
theorem farStore_tape (P : Program) (w w' : World) (a : Addr) (v : Value) (b : Bool) (l : List Addr) (h : w.farStore P a v b = .ok (w', l)) : w'.tape = w.tape ∧ w'.drawn = w.drawn := by
 have := farStore_re P w w.tape w.drawn a v b
 rw [re_self, h] at this
 simp only [Except.map, Except.ok.injEq, Prod.mk.injEq] at this
 constructor
 · have h1 := this.1; rw [h1]; rfl
 · have h1 := this.1; rw [h1]; rfl
theorem runT_re {α : Type} {P : Program} (s : Sem α) (hs : tame P true s) : ∀ (w : World) (es : Array Event),
 w.drawn ≤ (resW (s.runT P w es).1).drawn ∧ (resW (s.runT P w es).1).tape = w.tape ∧
 ∀ (τ : Nat → Question → Nat) (d : Nat), (∀ j, w.drawn + j < (resW (s.runT P w es).1).drawn → τ (d + j) = w.tape (w.drawn + j)) →
  s.runT P (re w τ d) es = (resRe (s.runT P w es).1 τ (d + ((resW (s.runT P w es).1).drawn - w.drawn)), (s.runT P w es).2) := by
 induction s with
 | pure a => intro w es; exact ⟨Nat.le_refl _, rfl, fun τ d _ => by simp [Sem.runT, resRe, resW]⟩
 | load m a k ih =>
  intro w es
  simp only [Sem.runT]
  have hc : ∀ τ d, (re w τ d).cell? a = w.cell? a := fun _ _ => rfl
  simp only [hc, farLoad_re]
  cases w.cell? a with
  | some v => exact ih v (hs v) w _
  | none =>
   simp only []
   cases w.farLoad P a (m == Mode.atomic) with
   | ok x => exact ih x.1 (hs x.1) w _
   | error h => exact ⟨Nat.le_refl _, rfl, fun τ d _ => by simp [resRe, resW]⟩
 | store m a v k ih =>
  intro w es
  have main : ∀ (hv : (∀ c, v ≠ .agg c) ∧ ∀ c, v ≠ .tuple c), _ := fun hv => ih hs.2
  by_cases hagg : (∃ c, v = .agg c) ∨ ∃ c, v = .tuple c
  · rcases hagg with ⟨c, rfl⟩ | ⟨c, rfl⟩ <;> exact ⟨Nat.le_refl _, rfl, fun τ d _ => by simp [Sem.runT, resRe, resW]⟩
  · have e : ∀ w, (Sem.store m a v k).runT P w es = match w.cell? a with
     | some _ =>
      if w.frozen? a then (.halt (.unsupported (.unsafePointer "a write to bytes that a string shares")) w, es)
      else k.runT P (w.setCell a v) (es.push ⟨.cell a, true, m == .atomic⟩)
     | none => match w.farStore P a v (m == .atomic) with
      | .ok (w, touched) => k.runT P w (es ++ touched.toArray.map (⟨.cell ·, true, m == .atomic⟩))
      | .error h => (.halt h w, es) := by
     intro w
     cases v <;> first | rfl | (exact absurd (.inl ⟨_, rfl⟩) hagg) | (exact absurd (.inr ⟨_, rfl⟩) hagg)
    rw [e w]
    have e' : ∀ τ d, (Sem.store m a v k).runT P (re w τ d) es = _ := fun τ d => e (re w τ d)
    simp only [e']
    have hc : ∀ τ d, (re w τ d).cell? a = w.cell? a := fun _ _ => rfl
    have hf : ∀ τ d, (re w τ d).frozen? a = w.frozen? a := fun _ _ => rfl
    have hset : ∀ τ d, (re w τ d).setCell a v = re (w.setCell a v) τ d := fun _ _ => rfl
    simp only [hc, hf, hset, farStore_re]
    cases w.cell? a with
    | some x =>
     simp only []
     by_cases hfz : w.frozen? a = true
     · simp only [hfz, if_true]
       exact ⟨Nat.le_refl _, rfl, fun τ d _ => by simp [resRe, resW]⟩
     · simp only [hfz, Bool.false_eq_true, if_false]
       exact ih hs.2 (w.setCell a v) _
    | none =>
     simp only []
     cases hx : w.farStore P a v (m == Mode.atomic) with
     | ok x =>
      obtain ⟨w', l⟩ := x
      obtain ⟨ht, hd⟩ := farStore_tape P w w' a v _ l hx
      simp only [Except.map]
      have := ih hs.2 w' (es ++ l.toArray.map (⟨.cell ·, true, m == .atomic⟩))
      rw [ht, hd] at this
      exact this
     | error h => exact ⟨Nat.le_refl _, rfl, fun τ d _ => by simp [Except.map, resRe, resW]⟩
 | new o k ih =>
  intro w es
  exact ih w.heap.size (hs _) { w with heap := w.heap.push o } es
 | shape r k ih => intro w es; exact ih _ (hs _) w es
 | freeze a n k ih => exact hs.elim
 | frozen a k ih => intro w es; exact ih _ (hs _) w es
 | getObj r k ih =>
  intro w es
  simp only [Sem.runT]
  have hh : ∀ τ d, (re w τ d).heap = w.heap := fun _ _ => rfl
  simp only [hh]
  split
  · exact ⟨Nat.le_refl _, rfl, fun τ d _ => by simp [resRe, resW]⟩
  · exact ih _ (hs _) w _
  · exact ⟨Nat.le_refl _, rfl, fun τ d _ => by simp [resRe, resW]⟩
 | setObj r o k ih => exact hs.elim
 | choose q k ih =>
  intro w es
  simp only [Sem.runT]
  by_cases hq : q.forced = true
  · simp only [hq, if_true]
    exact ih 0 (hs 0) w es
  · simp only [hq, Bool.false_eq_true, if_false]
    obtain ⟨h1, h2, h3⟩ := ih (q.cut (w.tape w.drawn q)) (hs _) { w with drawn := w.drawn + 1 } es
    refine ⟨Nat.le_trans (Nat.le_succ _) h1, h2, fun τ d hτ => ?_⟩
    have h0 : τ d = w.tape w.drawn := by have := hτ 0 (by simp only [Nat.add_zero]; exact h1); simpa using this
    have e0 : (re w τ d).tape (re w τ d).drawn q = w.tape w.drawn q := by show τ d q = _; rw [h0]
    rw [e0]
    have := h3 τ (d + 1) (fun j hj => by
     have hj' : w.drawn + 1 + j < (resW (Sem.runT P (k (q.cut (w.tape w.drawn q))) { w with drawn := w.drawn + 1 } es).fst).drawn := hj
     have := hτ (1 + j) (by omega)
     rw [show d + 1 + j = d + (1 + j) by omega, this]
     show w.tape (w.drawn + (1 + j)) = w.tape (w.drawn + 1 + j)
     rw [show w.drawn + 1 + j = w.drawn + (1 + j) by omega])
    refine Eq.trans this ?_
    have hle : w.drawn + 1 ≤ (resW (Sem.runT P (k (q.cut (w.tape w.drawn q))) { w with drawn := w.drawn + 1 } es).fst).drawn := h1
    congr 2
    show d + 1 + (_ - (w.drawn + 1)) = d + (_ - w.drawn)
    omega
 | sys c k ih => exact hs.elim
 | program k ih => intro w es; exact ih P hs w es
 | mark m k ih => intro w es; exact ih hs.2 w _
 | halt h => intro w es; exact ⟨Nat.le_refl _, rfl, fun τ d _ => by simp [Sem.runT, resRe, resW]⟩
end Go.Car
namespace Go.Car
open Go Go.RowKit
def calmEv (st : Bool) (e : Event) : Prop := (∀ m, e.loc = .mark m → okMark m) ∧ (st = false → e.write = false)
theorem runT_store {α : Type} {P : Program} {m : Mode} {a : Addr} {v : Value} {k : Sem α} (hagg : ¬ ((∃ c, v = .agg c) ∨ ∃ c, v = .tuple c)) (w : World) (es : Array Event) :
 (Sem.store m a v k).runT P w es = match w.cell? a with
  | some _ =>
   if w.frozen? a then (.halt (.unsupported (.unsafePointer "a write to bytes that a string shares")) w, es)
   else k.runT P (w.setCell a v) (es.push ⟨.cell a, true, m == .atomic⟩)
  | none => match w.farStore P a v (m == .atomic) with
   | .ok (w, touched) => k.runT P w (es ++ touched.toArray.map (⟨.cell ·, true, m == .atomic⟩))
   | .error h => (.halt h w, es) := by
 cases v <;> first | rfl | (exact absurd (.inl ⟨_, rfl⟩) hagg) | (exact absurd (.inr ⟨_, rfl⟩) hagg)
theorem runT_calm {α : Type} {P : Program} {st : Bool} (s : Sem α) (hs : tame P st s) : ∀ (w : World) (es : Array Event), ∀ e ∈ (s.runT P w es).2, e ∈ es ∨ calmEv st e := by
 have cellEv : ∀ (a : Addr) (b : Bool), calmEv st ⟨.cell a, false, b⟩ := fun a b => ⟨by simp, fun _ => rfl⟩
 induction s with
 | pure a => intro w es e he; exact .inl he
 | load m a k ih =>
  intro w es e he
  simp only [Sem.runT] at he
  split at he
  · rcases ih _ (hs _) w _ e he with h | h
    · rcases Array.mem_push.1 h with h | rfl
      · exact .inl h
      · exact .inr (cellEv _ _)
    · exact .inr h
  · split at he
    · rcases ih _ (hs _) w _ e he with h | h
      · rcases Array.mem_append.1 h with h | h
        · exact .inl h
        · obtain ⟨x, _, rfl⟩ := Array.mem_map.1 h
          exact .inr (cellEv _ _)
      · exact .inr h
    · exact .inl he
 | store m a v k ih =>
  intro w es e he
  have hst : st = true := hs.1
  have wEv : ∀ (x : Addr) (b : Bool), calmEv st ⟨.cell x, true, b⟩ := fun x b => ⟨by simp, fun h => by rw [hst] at h; cases h⟩
  by_cases hagg : (∃ c, v = .agg c) ∨ ∃ c, v = .tuple c
  · rcases hagg with ⟨c, rfl⟩ | ⟨c, rfl⟩ <;> exact .inl he
  · rw [runT_store hagg] at he
    split at he
    · split at he
      · exact .inl he
      · rcases ih hs.2 _ _ e he with h | h
        · rcases Array.mem_push.1 h with h | rfl
          · exact .inl h
          · exact .inr (wEv _ _)
        · exact .inr h
    · split at he
      · rcases ih hs.2 _ _ e he with h | h
        · rcases Array.mem_append.1 h with h | h
          · exact .inl h
          · obtain ⟨x, _, rfl⟩ := Array.mem_map.1 h
            exact .inr (wEv _ _)
        · exact .inr h
      · exact .inl he
 | new o k ih => intro w es; exact ih _ (hs _) _ es
 | shape r k ih => intro w es; exact ih _ (hs _) w es
 | freeze a n k ih => exact hs.elim
 | frozen a k ih => intro w es; exact ih _ (hs _) w es
 | getObj r k ih =>
  intro w es e he
  simp only [Sem.runT] at he
  split at he
  · exact .inl he
  · rcases ih _ (hs _) w _ e he with h | h
    · rcases Array.mem_push.1 h with h | rfl
      · exact .inl h
      · exact .inr ⟨by simp, fun _ => rfl⟩
    · exact .inr h
  · exact .inl he
 | setObj r o k ih => exact hs.elim
 | choose q k ih =>
  intro w es e he
  simp only [Sem.runT] at he
  split at he
  · exact ih _ (hs _) w _ e he
  · exact ih _ (hs _) _ _ e he
 | sys c k ih => exact hs.elim
 | program k ih => intro w es; exact ih P hs w es
 | mark m k ih =>
  intro w es e he
  rcases ih hs.2 w _ e he with h | h
  · rcases Array.mem_push.1 h with h | rfl
    · exact .inl h
    · exact .inr ⟨fun x hx => by simp only [Loc.mark.injEq] at hx; rw [← hx]; exact hs.1, fun _ => rfl⟩
  · exact .inr h
 | halt h => intro w es e he; exact .inl he
theorem runT_below {α : Type} {P : Program} (s : Sem α) (hs : tame P false s) : ∀ (w : World) (es : Array Event), Below w.heap.size w (resW (s.runT P w es).1) := by
 induction s with
 | pure a => intro w es; exact Below.refl _ _
 | load m a k ih =>
  intro w es
  simp only [Sem.runT]
  split
  · exact ih _ (hs _) w _
  · split
    · exact ih _ (hs _) w _
    · exact Below.refl _ _
 | store m a v k ih => cases hs.1
 | new o k ih =>
  intro w es
  have h : Below w.heap.size w (w.alloc o) := (Below.refl _ _).alloc (Nat.le_refl _) _
  have h2 := ih w.heap.size (hs _) (w.alloc o) es
  exact h.trans (h2.mono (by show w.heap.size ≤ (w.heap.push o).size; simp))
 | shape r k ih => intro w es; exact ih _ (hs _) w es
 | freeze a n k ih => exact hs.elim
 | frozen a k ih => intro w es; exact ih _ (hs _) w es
 | getObj r k ih =>
  intro w es
  simp only [Sem.runT]
  split
  · exact Below.refl _ _
  · exact ih _ (hs _) w _
  · exact Below.refl _ _
 | setObj r o k ih => exact hs.elim
 | choose q k ih =>
  intro w es
  simp only [Sem.runT]
  split
  · exact ih _ (hs _) w _
  · exact (Below.drew (Below.refl w.heap.size w)).trans (ih _ (hs _) w.drew es)
 | sys c k ih => exact hs.elim
 | program k ih => intro w es; exact ih P hs w es
 | mark m k ih => intro w es; exact ih hs.2 w _
 | halt h => intro w es; exact Below.refl _ _
set_option maxHeartbeats 1000000
def leaf {α : Type} (P : Program) (L : α → Prop) : Sem α → Prop
 | .pure a => L a
 | .load _ _ k => ∀ v, leaf P L (k v)
 | .store _ _ _ k => leaf P L k
 | .new _ k => ∀ n, leaf P L (k n)
 | .shape _ k => ∀ s, leaf P L (k s)
 | .freeze _ _ k => leaf P L k
 | .frozen _ k => ∀ b, leaf P L (k b)
 | .getObj _ k => ∀ o, leaf P L (k o)
 | .setObj _ _ k => leaf P L k
 | .choose _ k => ∀ n, leaf P L (k n)
 | .sys _ k => ∀ r, leaf P L (k r)
 | .program k => leaf P L (k P)
 | .mark _ k => leaf P L k
 | .halt _ => True
theorem leaf_bind {α β : Type} {P : Program} {L : β → Prop} (s : Sem α) {f : α → Sem β} (hf : ∀ a, leaf P L (f a)) : leaf P L (s >>= f) := by
 show leaf P L (s.bind f)
 induction s with
 | pure a => exact hf a
 | load m a k ih => exact fun v => ih v
 | store m a v k ih => exact ih
 | new o k ih => exact fun v => ih v
 | shape r k ih => exact fun v => ih v
 | freeze a n k ih => exact ih
 | frozen a k ih => exact fun v => ih v
 | getObj r k ih => exact fun v => ih v
 | setObj r o k ih => exact ih
 | choose q k ih => exact fun v => ih v
 | sys c k ih => exact fun v => ih v
 | program k ih => exact ih P
 | mark m k ih => exact ih
 | halt h => trivial
def goodRes {α : Type} (L : α → Prop) : Result α → Prop
 | .ok a _ => L a
 | .halt h _ => okHalt h ∨ ∃ b, h = .unsupported (.initOrder b)
theorem leaf_runT {α : Type} {P : Program} {L : α → Prop} (s : Sem α) (ht : tame P true s) (hs : leaf P L s) : ∀ (w : World) (es : Array Event), goodRes L (s.runT P w es).1 := by
 induction s with
 | pure a => intro w es; exact hs
 | load m a k ih =>
  intro w es
  simp only [Sem.runT]
  split
  · exact ih _ (ht _) (hs _) w _
  · split
    · exact ih _ (ht _) (hs _) w _
    · rename_i h hh
      unfold World.farLoad at hh
      split at hh
      · split at hh
        · cases hh
        · cases hh; exact Or.inl trivial
      · cases hh
        unfold World.noCell
        split <;> first | exact Or.inr ⟨_, rfl⟩ | exact Or.inl trivial
 | store m a v k ih =>
  intro w es
  by_cases hagg : (∃ c, v = .agg c) ∨ ∃ c, v = .tuple c
  · rcases hagg with ⟨c, rfl⟩ | ⟨c, rfl⟩ <;> exact Or.inl trivial
  · rw [runT_store hagg]
    split
    · split
      · exact Or.inl trivial
      · exact ih ht.2 hs _ _
    · split
      · exact ih ht.2 hs _ _
      · rename_i h hh
        unfold World.farStore at hh
        split at hh
        · split at hh
          · cases hh
          · cases hh; exact Or.inl trivial
        · cases hh
          unfold World.noCell
          split <;> first | exact Or.inr ⟨_, rfl⟩ | exact Or.inl trivial
 | new o k ih => intro w es; exact ih _ (ht _) (hs _) _ es
 | shape r k ih => intro w es; exact ih _ (ht _) (hs _) w es
 | freeze a n k ih => exact ht.elim
 | frozen a k ih => intro w es; exact ih _ (ht _) (hs _) w es
 | getObj r k ih =>
  intro w es
  simp only [Sem.runT]
  split
  · exact Or.inl trivial
  · exact ih _ (ht _) (hs _) w _
  · exact Or.inl trivial
 | setObj r o k ih => exact ht.elim
 | choose q k ih =>
  intro w es
  simp only [Sem.runT]
  split
  · exact ih _ (ht _) (hs _) w _
  · exact ih _ (ht _) (hs _) _ _
 | sys c k ih => exact ht.elim
 | program k ih => intro w es; exact ih P ht hs w es
 | mark m k ih => intro w es; exact ih ht.2 hs w _
 | halt h => intro w es; exact Or.inl ht
def okOp (P : Program) (A : FuncId → Bool) : Op → Bool
 | .move _ | .assign _ | .pick .. | .alloc _ | .box .. | .build .. | .buildSlice .. | .load .. | .store .. | .nilCheck _ | .binOp .. | .unOp .. | .makeInterface .. | .makeFunc .. => true
 | .makeChan .. | .makeSlice .. | .slice .. | .fieldAddr .. | .field .. | .indexAddr .. | .index .. | .typeAssert .. | .extract .. => true
 | .convert s d _ => (match P.underlying s with | some (.int _) => true | _ => false) && (match P.underlying d with | some (.int _) => true | _ => false)
 | .call c => match c.callee with
  | .builtin .append => match c.argTypes[1]? with
   | some x => match P.underlying x with
    | some (.int _) => false
    | _ => true
   | none => true
  | .builtin .len | .builtin .min | .builtin .max => true
  | .value (.func f) => A f
  | _ => false
 | _ => false
def okCode (P : Program) (A : FuncId → Bool) : Code → Bool
 | .skip | .exit _ | .ret | .refuse _ => true
 | .region _ ops _ => ops.all fun o => okOp P A o.op
 | .seq a b => okCode P A a && okCode P A b
 | .cond _ a b => okCode P A a && okCode P A b
 | .block _ c => okCode P A c
 | .loop c => okCode P A c
 | _ => false
inductive okFn (P : Program) (A : FuncId → Bool) (f : FuncId) : Prop
 | text (fn : Func) (c : Code) (hf : P.funcs[f]? = some fn) (hb : fn.body = some c) (hn : (fn.name == "runtime.NumGoroutine") = false) (hc : okCode P A c = true)
 | row (fn : Func) (e : Array Value → Sem Value) (hf : P.funcs[f]? = some fn) (hb : fn.body = none) (hn : (fn.name == "runtime.NumGoroutine") = false) (hx : Extern.findNext fn = none) (he : Extern.find fn = some e) (ht : ∀ args, tame P true (e args))
def okNext (P : Program) (A : FuncId → Bool) : Next → Prop
 | .value _ => True
 | .skip => True
 | .enter f _ => A f = true ∧ ∃ fn c, P.funcs[f]? = some fn ∧ fn.body = some c ∧ okCode P A c = true
 | _ => False
theorem tame_v {P : Program} {st : Bool} {s : Sem Value} (h : tame P st s) : tame P st (do pure (.value (← s)) : Sem Next) := zq0 h fun _ => trivial
theorem leaf_v {P : Program} {A : FuncId → Bool} (s : Sem Value) : leaf P (okNext P A) (do pure (.value (← s)) : Sem Next) := leaf_bind s fun _ => trivial
theorem tame_prog {α : Type} {P : Program} {st : Bool} {f : Program → Sem α} (h : tame P st (f P)) : tame P st (program >>= f) := h
theorem leaf_prog {α : Type} {P : Program} {L : α → Prop} {f : Program → Sem α} (h : leaf P L (f P)) : leaf P L (program >>= f) := h
theorem callFunc_ok {P : Program} {A : FuncId → Bool} {f : FuncId} {args : Array Value} (hA : A f = true) (h : okFn P A f) : tame P true (callFunc f args) ∧ leaf P (okNext P A) (callFunc f args) := by
 cases h with
 | text fn c hf hb hn hc =>
  constructor
  · unfold callFunc
    refine tame_prog ?_
    simp only [hf, hn, hb, Option.isNone_some, Bool.false_eq_true, if_false]
    trivial
  · unfold callFunc
    refine leaf_prog ?_
    simp only [hf, hn, hb, Option.isNone_some, Bool.false_eq_true, if_false]
    exact ⟨hA, fn, c, hf, hb, hc⟩
 | row fn e hf hb hn hx he ht =>
  constructor
  · unfold callFunc
    refine tame_prog ?_
    simp only [hf, hn, hb, hx, he, Option.isNone_none, Bool.false_eq_true, if_false, if_true]
    exact zq0 (tame_mark trivial) fun _ => tame_v (ht args)
  · unfold callFunc
    refine leaf_prog ?_
    simp only [hf, hn, hb, hx, he, Option.isNone_none, Bool.false_eq_true, if_false, if_true]
    exact leaf_bind _ fun _ => leaf_v _
theorem tame_convert {P : Program} {st : Bool} {s d : TypeId} {k k' : IntKind} (hs : P.underlying s = some (.int k)) (hd : P.underlying d = some (.int k')) (x : Value) : tame P st (convert s d x) := by
 refine tame_under fun a ha => ?_
 refine tame_under fun b hb => ?_
 rw [hs] at ha; rw [hd] at hb
 cases ha; cases hb
 split <;> first | exact True.intro | contradiction | (unfold Conv.floatToInt; simp only []; repeat' (first | exact zq7 _ | exact tame_choose _ | refine zq0 ?_ (fun _ => ?_) | split))
theorem execOp_ok {P : Program} {A : FuncId → Bool} (hA : ∀ f, A f = true → okFn P A f) (o : Oper) (ho : okOp P A o.op = true) (ρ : Operand → Value) (hρ : ∀ f, ρ (.func f) = .func (.func f) #[] #[]) : tame P true (execOp ρ o) ∧ leaf P (okNext P A) (execOp ρ o) := by
 obtain ⟨dst, op, type, pos, after, guard⟩ := o
 simp only at ho
 unfold execOp
 cases op <;> simp only [okOp, Bool.false_eq_true] at ho
 case move => exact ⟨trivial, trivial⟩
 case assign => exact ⟨trivial, trivial⟩
 case pick => exact ⟨zq0 (tame_asBool _) fun _ => trivial, leaf_bind _ fun _ => trivial⟩
 case alloc => exact ⟨tame_v (tame_alloc _), leaf_v _⟩
 case box => exact ⟨tame_v (tame_box _ _), leaf_v _⟩
 case build => exact ⟨tame_v (tame_build _ _), leaf_v _⟩
 case buildSlice => exact ⟨tame_v (tame_buildSlice _ _ _), leaf_v _⟩
 case load => exact ⟨tame_v (tame_loadAt _ _), leaf_v _⟩
 case store => exact ⟨zq0 (tame_storeAt _ _ _) fun _ => trivial, leaf_bind _ fun _ => trivial⟩
 case nilCheck x =>
  simp only []
  constructor
  · repeat' (first | exact zq7 _ | exact tame_runtimePanic _ | exact tame_program | exact tame_nilAhead _ _ _ _ | exact tame_u2 _ | refine zq0 ?_ (fun _ => ?_) | split | simp only [])
  · repeat' (first | exact True.intro | refine leaf_bind _ (fun _ => ?_) | split | simp only [])
 case binOp => exact ⟨tame_v (zq0 (tame_eqGuard _ _ _ _ _ _) fun _ => tame_binOp _ _ _ _), leaf_v _⟩
 case unOp => exact ⟨tame_v (tame_unary _ _), leaf_v _⟩
 case convert s d x =>
  have : ∃ k k', P.underlying s = some (.int k) ∧ P.underlying d = some (.int k') := by
   simp only [Bool.and_eq_true] at ho
   obtain ⟨h1, h2⟩ := ho
   split at h1
   · split at h2
     · exact ⟨_, _, ‹_›, ‹_›⟩
     · cases h2
   · cases h1
  obtain ⟨k, k', hs, hd⟩ := this
  exact ⟨tame_v (tame_convert hs hd _), leaf_v _⟩
 case makeInterface => exact ⟨tame_v (tame_makeInterface _ _), leaf_v _⟩
 case makeFunc => exact ⟨tame_v (tame_makeFunc _ _ _), leaf_v _⟩
 case makeChan => exact ⟨tame_v (tame_makeChan _ _), leaf_v _⟩
 case makeSlice => exact ⟨tame_v (tame_makeSlice _ _ _), leaf_v _⟩
 case slice => exact ⟨tame_v (tame_sliceAt _ _ _ _ _), leaf_v _⟩
 case fieldAddr => exact ⟨tame_v (tame_fieldAt _ _ _), leaf_v _⟩
 case field => exact ⟨tame_v (tame_field _ _ _), leaf_v _⟩
 case indexAddr => exact ⟨tame_v (tame_indexAt _ _ _), leaf_v _⟩
 case index => exact ⟨tame_v (tame_index _ _ _), leaf_v _⟩
 case typeAssert => exact ⟨tame_v (tame_typeAssert _ _ _ _), leaf_v _⟩
 case extract => exact ⟨tame_v (tame_extract _ _), leaf_v _⟩
 case call c =>
  obtain ⟨callee, args, argTypes⟩ := c
  simp only at ho
  cases callee with
  | invoke r m => simp at ho
  | value f =>
   cases f with
   | func f =>
    have hAf : A f = true := by simpa using ho
    have h : ∀ args, _ := fun args => callFunc_ok (args := args) hAf (hA f hAf)
    simp only [resolve, hρ f]
    exact ⟨(h _).1, (h _).2⟩
   | _ => simp at ho
  | builtin b =>
   cases b <;> simp at ho
   case append =>
    have hx : ∀ x, argTypes[1]? = some x → ∀ k, P.underlying x ≠ some (.int k) := by
     intro x hx k hk
     rw [hx] at ho
     simp only [hk] at ho
     cases ho
    exact ⟨tame_v (tame_append _ _ _ hx), leaf_v _⟩
   case len => exact ⟨tame_v (tame_len _ _ _), leaf_v _⟩
   case max => exact ⟨tame_v (tame_max _ _ _), leaf_v _⟩
   case min => exact ⟨tame_v (tame_min _ _ _), leaf_v _⟩
end Go.Car
set_option maxHeartbeats 1000000
namespace Go.Car
open Go Go.Conc Go.RowKit
structure Plain (P : Program) (A : FuncId → Bool) : Prop where
 fns : ∀ f, A f = true → okFn P A f
 early : P.follows .staticDataAhead = true
 noStep : ∀ g, P.stepOf g = none
def okItem (P : Program) (A : FuncId → Bool) : Item → Bool
 | .code c => okCode P A c
 | .inBlock _ => true
 | .inLoop c => okCode P A c
 | .inRegion ops l => l.all fun i => match ops[i]? with
  | some o => okOp P A o.op
  | none => true
 | _ => false
theorem okItem_region {P : Program} {A : FuncId → Bool} {ops : Array Oper} (h : (ops.all fun o => okOp P A o.op) = true) (l : List Nat) : okItem P A (.inRegion ops l) = true := by
 unfold okItem
 rw [List.all_eq_true]
 intro i _
 cases hi : ops[i]? with
 | none => rfl
 | some o =>
  rw [Array.all_eq_true_iff_forall_mem] at h
  exact h o (Array.mem_of_getElem? hi)
theorem okItem_head {P : Program} {A : FuncId → Bool} {ops : Array Oper} {j : Nat} {r : List Nat} {o : Oper} (h : okItem P A (.inRegion ops (j :: r)) = true) (hj : ops[j]? = some o) : okOp P A o.op = true := by
 unfold okItem at h
 rw [List.all_eq_true] at h
 have := h j (by simp)
 rw [hj] at this
 exact this
theorem okItem_tail {P : Program} {A : FuncId → Bool} {ops : Array Oper} {j : Nat} {r : List Nat} (h : okItem P A (.inRegion ops (j :: r)) = true) : okItem P A (.inRegion ops r) = true := by
 unfold okItem at h ⊢
 rw [List.all_eq_true] at h ⊢
 exact fun x hx => h x (List.mem_cons_of_mem _ hx)
structure Fine (P : Program) (A : FuncId → Bool) (fr : Frame) : Prop where
 todo : ∀ i ∈ fr.todo, okItem P A i = true
 defers : fr.defers = []
 kind : fr.kind = .normal
 round : fr.roundOf = none
 mode : fr.mode = .run ∨ fr.mode = .returning
structure Top (P : Program) (A : FuncId → Bool) (fr : Frame) : Prop where
 round : fr.roundOf = none
 kind : fr.kind ≠ .early
 head : (fr.mode = .run ∧ ∃ i t, fr.todo = i :: t ∧ okItem P A i = true) ∨ (fr.mode = .run ∧ fr.todo = []) ∨ (fr.mode = .returning ∧ fr.defers = [])
theorem Fine.top {P : Program} {A : FuncId → Bool} {fr : Frame} (h : Fine P A fr) : Top P A fr := by
 refine ⟨h.round, by rw [h.kind]; simp, ?_⟩
 rcases h.mode with hm | hm
 · cases ht : fr.todo with
   | nil => exact .inr (.inl ⟨hm, rfl⟩)
   | cons i t => exact .inl ⟨hm, i, t, rfl, h.todo i (by rw [ht]; simp)⟩
 · exact .inr (.inr ⟨hm, h.defers⟩)
section
variable {P : Program} {A : FuncId → Bool}
def agree (w w' : World) (τ : Nat → Question → Nat) (d : Nat) : Prop := ∀ j, w.drawn + j < w'.drawn → τ (d + j) = w.tape (w.drawn + j)
def Bad (s : GStep) (above cs : List Frame) : Prop :=
 (∃ o w' es, s = .ended o w' es) ∨ ∃ fr' ch w' es, s = .go (G fr' (above ++ cs)) w' es ∧ fr'.mode = .panicking ch ∧ fr'.defers = []
inductive Way (P : Program) (A : FuncId → Bool) (fr : Frame) (above : List Frame) (w : World) : Prop
 | pop (h : above = []) (hm : fr.mode = .returning)
 | on (fr' : Frame) (above' : List Frame) (w' : World) (es : Array Event) (hf : Fine P A fr') (ha : ∀ c ∈ above', Fine P A c) (hd : w.drawn ≤ w'.drawn) (ht : w'.tape = w.tape) (he : ∀ e ∈ es, calmEv true e)
  (hs : ∀ main cs τ d, agree w w' τ d → stepG P main (G fr (above ++ cs)) (re w τ d) = .go (G fr' (above' ++ cs)) (re w' τ (d + (w'.drawn - w.drawn))) es)
 | bad (w' : World) (hd : w.drawn ≤ w'.drawn) (hs : ∀ main cs τ d, agree w w' τ d → Bad (stepG P main (G fr (above ++ cs)) (re w τ d)) above cs)
theorem early_ended (hP : Plain P A) (fr : Frame) (cs : List Frame) (dy : Option Dying) (g : Nat) (w : World) : ∃ o w' es, early P fr cs dy g w = .ended o w' es := by
 unfold early
 simp only [hP.early, hP.noStep, Bool.not_true, Bool.false_eq_true, if_false]
 exact ⟨_, _, _, rfl⟩
theorem way_ctl {fr fr' : Frame} {above above' : List Frame} {w : World} (hf : Fine P A fr') (ha : ∀ c ∈ above', Fine P A c)
 (hs : ∀ main cs w, stepG P main (G fr (above ++ cs)) w = .go (G fr' (above' ++ cs)) w) : Way P A fr above w :=
 .on fr' above' w #[] hf ha (Nat.le_refl _) rfl (by simp) fun main cs τ d _ => by rw [hs]; simp
theorem way_bad {fr : Frame} {above : List Frame} {w : World} (hs : ∀ main cs w, ∃ o w' es, stepG P main (G fr (above ++ cs)) w = .ended o w' es) : Way P A fr above w :=
 .bad w (Nat.le_refl _) fun main cs τ d _ => .inl (hs main cs _)
theorem fine_finish {fr : Frame} (h : Fine P A fr) (v : Value) : Fine P A (fr.finish v) := by
 obtain ⟨fn, tmps, todo, defers, mode, kind, round⟩ := fr
 have ht := h.todo
 simp only at ht
 cases todo with
 | nil => exact h
 | cons i k =>
  have hi := ht i (by simp)
  cases i with
  | inRegion ops l =>
   cases l with
   | nil => exact h
   | cons j r =>
    refine ⟨fun x hx => ?_, h.defers, h.kind, h.round, h.mode⟩
    simp only [Frame.finish, List.mem_cons] at hx
    rcases hx with rfl | hx
    · exact okItem_tail hi
    · exact ht x (by simp [hx])
  | code c => exact h
  | inBlock id => exact h
  | inLoop c => exact h
  | _ => simp [okItem] at hi
theorem fine_enter {f : FuncId} {fn : Func} {c : Code} (args : Array Value) (hf : P.funcs[f]? = some fn) (hb : fn.body = some c) (hc : okCode P A c = true) : Fine P A (Frame.enter P f args .normal) := by
 refine ⟨fun i hi => ?_, rfl, rfl, rfl, .inl rfl⟩
 simp only [Frame.enter, hf, al_ob, hb, al_od, List.mem_singleton] at hi
 subst hi
 exact hc
def Fr (fn : FuncId) (tmps : Array Value) (todo : List Item) : Frame := { fn, tmps, todo, defers := [], mode := .run, kind := .normal }
theorem fine_fr {fn : FuncId} {tmps : Array Value} {todo : List Item} (h : ∀ i ∈ todo, okItem P A i = true) : Fine P A (Fr fn tmps todo) := ⟨h, rfl, rfl, rfl, .inl rfl⟩
theorem fr_of_fine {fr : Frame} (h : Fine P A fr) (hm : fr.mode = .run) : fr = Fr fr.fn fr.tmps fr.todo := by
 obtain ⟨fn, tmps, todo, defers, mode, kind, round⟩ := fr
 have h1 := h.defers; have h2 := h.kind; have h3 := h.round
 simp only at h1 h2 h3 hm
 subst h1 h2 h3 hm
 rfl
theorem way_apply (hP : Plain P A) {fn : FuncId} {tmps : Array Value} {ops : Array Oper} {l : List Nat} {k : List Item} {above : List Frame} {w : World} {s : Sem Next} (hfr : Fine P A (Fr fn tmps (.inRegion ops l :: k))) (habove : ∀ c ∈ above, Fine P A c)
 (ht : tame P true s) (hl : leaf P (okNext P A) s) (hs : ∀ main cs w, stepG P main (G (Fr fn tmps (.inRegion ops l :: k)) (above ++ cs)) w = stepG.apply P true (Fr fn tmps (.inRegion ops l :: k)) (above ++ cs) none s w) : Way P A (Fr fn tmps (.inRegion ops l :: k)) above w := by
 obtain ⟨h1, h2, h3⟩ := runT_re s ht w #[]
 have hg := leaf_runT s ht hl w #[]
 have hc := runT_calm s ht w #[]
 generalize hrr : s.runT P w #[] = r at h1 h2 h3 hg hc
 obtain ⟨res, es⟩ := r
 simp only at h1 h2 h3 hg hc
 have hev : ∀ fn, ∀ e ∈ seen P fn es, calmEv true e := fun fn e he => (hc e (mem_seen he)).resolve_left (by simp)
 have hke : ((Fr fn tmps (.inRegion ops l :: k)).kind == CallKind.early) = false := rfl
 cases res with
 | ok nx w' =>
  have hnx : okNext P A nx := hg
  cases nx with
  | value v =>
   refine .on ((Fr fn tmps (.inRegion ops l :: k)).finish v) above w' (seen P fn es) (fine_finish hfr v) habove h1 h2 (hev _) fun main cs τ d hag => ?_
   rw [hs, stepG.apply]
   simp only [if_true, h3 τ d hag, resRe, hke, Bool.false_eq_true, if_false, GStep.after, Array.append_empty, resW]
   rfl
  | skip =>
   refine .on ((Fr fn tmps (.inRegion ops l :: k)).finish undef) above w' (seen P fn es) (fine_finish hfr _) habove h1 h2 (hev _) fun main cs τ d hag => ?_
   rw [hs, stepG.apply]
   simp only [if_true, h3 τ d hag, resRe, hke, Bool.false_eq_true, if_false, GStep.after, Array.append_empty, resW]
   rfl
  | enter f args =>
   obtain ⟨_, fn', c, hf, hb, hcc⟩ := hnx
   refine .on (Frame.enter P f args .normal) (Fr fn tmps (.inRegion ops l :: k) :: above) w' (seen P fn es) (fine_enter args hf hb hcc) (fun x hx => ?_) h1 h2 (hev _) fun main cs τ d hag => ?_
   · rcases List.mem_cons.1 hx with rfl | hx
     · exact hfr
     · exact habove x hx
   · rw [hs, stepG.apply]
     simp only [if_true, h3 τ d hag, resRe, hke, Bool.false_eq_true, if_false, GStep.after, Array.append_empty, resW]
     rfl
  | _ => exact hnx.elim
 | halt h w' =>
  refine .bad w' h1 fun main cs τ d hag => ?_
  rw [hs, stepG.apply]
  simp only [if_true, h3 τ d hag, resRe, hke, Bool.false_eq_true, if_false, resW]
  rcases hg with hg | ⟨b, rfl⟩
  · cases h with
    | panic v => exact .inr ⟨_, _, _, _, rfl, rfl, rfl⟩
    | stuck s => exact .inl ⟨_, _, _, rfl⟩
    | unsupported u => cases u <;> first | exact .inl ⟨_, _, _, rfl⟩ | exact hg.elim
    | _ => exact hg.elim
  · obtain ⟨o, w'', es', he⟩ := early_ended hP (Fr fn tmps (.inRegion ops l :: k)) (above ++ cs) none b (re w' τ (d + (w'.drawn - w.drawn)))
    simp only [he]
    exact .inl ⟨_, _, _, rfl⟩
theorem tame_results (fn : Func) (tmps : Array Value) : tame P false (results fn tmps) := by
 unfold results
 refine zq0 (zqa _ (fun x => ?_) _) fun _ => trivial
 cases x with
 | tmp t => trivial
 | cell a t => exact zq0 (tame_asAddr _) fun _ => tame_loadVar _ _
theorem tame_more {α : Type} (s : Sem α) (h : tame P false s) : tame P true s := by
 induction s with
 | pure a => trivial
 | load m a k ih => exact fun v => ih v (h v)
 | store m a v k ih => cases h.1
 | new o k ih => exact fun v => ih v (h v)
 | shape r k ih => exact fun v => ih v (h v)
 | freeze a n k ih => exact h.elim
 | frozen a k ih => exact fun v => ih v (h v)
 | getObj r k ih => exact fun v => ih v (h v)
 | setObj r o k ih => exact h.elim
 | choose q k ih => exact fun v => ih v (h v)
 | sys c k ih => exact h.elim
 | program k ih => exact ih P h
 | mark m k ih => exact ⟨h.1, ih h.2⟩
 | halt x => exact h
theorem leaf_true {α : Type} (s : Sem α) : leaf P (fun _ => True) s := by
 induction s with
 | pure a => trivial
 | load m a k ih => exact fun v => ih v
 | store m a v k ih => exact ih
 | new o k ih => exact fun v => ih v
 | shape r k ih => exact fun v => ih v
 | freeze a n k ih => exact ih
 | frozen a k ih => exact fun v => ih v
 | getObj r k ih => exact fun v => ih v
 | setObj r o k ih => exact ih
 | choose q k ih => exact fun v => ih v
 | sys c k ih => exact fun v => ih v
 | program k ih => exact ih P
 | mark m k ih => exact ih
 | halt x => trivial
theorem way (hP : Plain P A) (fr : Frame) (above : List Frame) (w : World) (hfr : Fine P A fr) (ha : ∀ c ∈ above, Fine P A c) : Way P A fr above w := by
 rcases hfr.mode with hm | hm
 · have e := fr_of_fine hfr hm
   rw [e] at hfr ⊢
   generalize fr.fn = fn at *
   generalize fr.tmps = tmps at *
   generalize fr.todo = todo at *
   clear e hm fr
   have ht := hfr.todo
   simp only [Fr] at ht
   cases todo with
   | nil =>
    refine way_ctl (fr' := { Fr fn tmps [] with mode := .returning }) (above' := above) ⟨fun i hi => (by cases hi), rfl, rfl, rfl, .inr rfl⟩ ha fun main cs w => ?_
    simp [G, stepG, stepG.exec, Fr]
   | cons i k =>
    have hi := ht i (by simp)
    have hk : ∀ x ∈ k, okItem P A x = true := fun x hx => ht x (by simp [hx])
    have to : ∀ l : List Item, (∀ x ∈ l, okItem P A x = true) → ∀ x ∈ l ++ k, okItem P A x = true := fun l hl x hx => (List.mem_append.1 hx).elim (hl x) (hk x)
    cases i with
    | code c =>
     have hc : okCode P A c = true := hi
     cases c with
     | skip => exact way_ctl (fr' := Fr fn tmps k) (fine_fr hk) ha fun main cs w => by simp [G, stepG, stepG.exec, Fr]
     | exit id =>
      cases hx : exitTo id k with
      | some k' =>
       have hk' : ∀ x ∈ k', okItem P A x = true := by
        have : ∀ (k k' : List Item), exitTo id k = some k' → ∀ x ∈ k', x ∈ k := by
         intro k
         induction k with
         | nil => intro k' h; simp [exitTo] at h
         | cons y k ih =>
          intro k' h x hx
          cases y <;> simp only [exitTo] at h
          case inBlock id' =>
           split at h
           · cases h; exact List.mem_cons_of_mem _ hx
           · exact List.mem_cons_of_mem _ (ih _ h x hx)
          all_goals exact List.mem_cons_of_mem _ (ih _ h x hx)
        exact fun x hx' => hk x (this k k' hx x hx')
       exact way_ctl (fr' := Fr fn tmps k') (fine_fr hk') ha fun main cs w => by simp [G, stepG, stepG.exec, Fr, hx]
      | none => exact way_bad fun main cs w => by simp [G, stepG, stepG.exec, Fr, hx]
     | ret =>
      refine way_ctl (fr' := { Fr fn tmps (.code .ret :: k) with mode := .returning }) (above' := above) ⟨ht, rfl, rfl, rfl, .inr rfl⟩ ha fun main cs w => ?_
      simp [G, stepG, stepG.exec, Fr]
     | refuse why => exact way_bad fun main cs w => by simp [G, stepG, stepG.exec, Fr]
     | region id ops draw =>
      have ho : ∀ l, okItem P A (.inRegion ops l) = true := okItem_region hc
      cases draw with
      | false => exact way_ctl (fr' := Fr fn tmps (.inRegion ops (List.range ops.size) :: k)) (fine_fr (to [_] (fun x hx => by rw [List.mem_singleton.1 hx]; exact ho _))) ha fun main cs w => by simp [G, stepG, stepG.exec, Fr]
      | true =>
       refine .on (Fr fn tmps (.inRegion ops (Region.schedule (P.follows .mixedOrders) ops (w.tape w.drawn (.order fn id))) :: k)) above w.drew #[] (fine_fr (to [_] (fun x hx => by rw [List.mem_singleton.1 hx]; exact ho _))) ha (Nat.le_succ _) rfl (by simp) fun main cs τ d hag => ?_
       have h0 := hag 0 (by show w.drawn + 0 < w.drawn + 1; omega)
       have e : (re w τ d).tape (re w τ d).drawn = w.tape w.drawn := by show τ d = _; simpa using h0
       have := stepG_region_draw (P := P) (main := main) (b := Fr fn tmps []) (a := ⟨tmps, []⟩) (k := k) (cs := above ++ cs) (w := re w τ d) (id := id) (ops := ops)
       rw [e] at this
       refine Eq.trans this ?_
       show GStep.go _ (re w τ (d + 1)) _ = GStep.go _ (re w.drew τ (d + (w.drawn + 1 - w.drawn))) _
       rw [show d + (w.drawn + 1 - w.drawn) = d + 1 by omega]
       rfl
     | seq a b =>
      have hab : okCode P A a = true ∧ okCode P A b = true := by simpa [okCode] using hc
      exact way_ctl (fr' := Fr fn tmps (.code a :: .code b :: k)) (fine_fr (to [_, _] (by simpa [okItem] using hab))) ha fun main cs w => by simp [G, stepG, stepG.exec, Fr]
     | cond c a b =>
      have hab : okCode P A a = true ∧ okCode P A b = true := by simpa [okCode] using hc
      by_cases hb : ∃ t, (Fr fn tmps (.code (.cond c a b) :: k)).eval c = .bool t
      · obtain ⟨t, ht'⟩ := hb
        refine way_ctl (fr' := Fr fn tmps (.code (if t then a else b) :: k)) (fine_fr (to [_] (by cases t <;> simp [okItem, hab]))) ha fun main cs w => ?_
        simp only [Fr] at ht'
        simp [G, stepG, stepG.exec, Fr, ht']
      · refine way_bad fun main cs w => ?_
        simp only [Fr] at hb
        simp only [G, stepG, stepG.exec, Fr]
        split
        · rename_i t h; exact absurd ⟨t, h⟩ hb
        · exact ⟨_, _, _, rfl⟩
     | block id c => exact way_ctl (fr' := Fr fn tmps (.code c :: .inBlock id :: k)) (fine_fr (to [_, _] (fun x hx => by
      rcases List.mem_cons.1 hx with rfl | hx
      · exact hc
      · rw [List.mem_singleton.1 hx]; rfl))) ha fun main cs w => by simp [G, stepG, stepG.exec, Fr]
     | loop c => exact way_ctl (fr' := Fr fn tmps (.code c :: .inLoop c :: k)) (fine_fr (to [_, _] (fun x hx => by
      rcases List.mem_cons.1 hx with rfl | hx
      · exact hc
      · rw [List.mem_singleton.1 hx]; exact hc))) ha fun main cs w => by simp [G, stepG, stepG.exec, Fr]
     | _ => simp [okCode] at hc
    | inBlock id => exact way_ctl (fr' := Fr fn tmps k) (fine_fr hk) ha fun main cs w => by simp [G, stepG, stepG.exec, Fr]
    | inLoop c => exact way_ctl (fr' := Fr fn tmps (.code c :: .inLoop c :: k)) (fine_fr (to [_, _] (by simpa [okItem] using hi))) ha fun main cs w => by simp [G, stepG, stepG.exec, Fr]
    | inRegion ops l =>
     cases l with
     | nil => exact way_ctl (fr' := Fr fn tmps k) (fine_fr hk) ha fun main cs w => by simp [G, stepG, stepG.exec, Fr]
     | cons j r =>
      by_cases hw : ((ops[j]?).map (Region.wanted · (yielded ops tmps))).getD false = true
      · cases hj : ops[j]? with
        | none => simp [hj] at hw
        | some o =>
         have hoo : okOp P A o.op = true := okItem_head hi hj
         obtain ⟨t1, t2⟩ := execOp_ok hP.fns o hoo (Fr fn tmps (.inRegion ops (j :: r) :: k)).eval (fun f => rfl)
         refine way_apply hP hfr ha t1 t2 fun main cs w => ?_
         simp only [hj, Option.map_some, al_od] at hw
         simp [G, stepG, stepG.exec, stepG.oper, Frame.oper?, Fr, hj, hw]
      · have hw' : ((ops[j]?).map (Region.wanted · (yielded ops tmps))).getD false = false := by simpa using hw
        refine way_ctl (fr' := (Fr fn tmps (.inRegion ops (j :: r) :: k)).finish undef) (fine_finish hfr _) ha fun main cs w => ?_
        simp only [G, stepG, stepG.exec, Fr, hw', Bool.false_eq_true, if_false]
    | _ => simp [okItem] at hi
 · cases above with
   | nil => exact .pop rfl hm
   | cons c r =>
    have hc := ha c (by simp)
    have hr : ∀ x ∈ r, Fine P A x := fun x hx => ha x (by simp [hx])
    cases hf : P.funcs[fr.fn]? with
    | none =>
     refine way_ctl (fr' := c.finish (fr.tmps.getD 0 undef)) (fine_finish hc _) hr fun main cs w => ?_
     simp [G, stepG, unwind, doReturn, hm, hfr.defers, hfr.kind, hf]
    | some fn =>
     obtain ⟨h1, h2, h3⟩ := runT_re (P := P) (results fn fr.tmps) (tame_more _ (tame_results fn fr.tmps)) w #[]
     have hcalm := runT_calm (P := P) (results fn fr.tmps) (tame_more _ (tame_results fn fr.tmps)) w #[]
     have hg := leaf_runT (P := P) (L := fun _ => True) (results fn fr.tmps) (tame_more _ (tame_results fn fr.tmps)) (leaf_true _) w #[]
     generalize (results fn fr.tmps).runT P w #[] = rr at h1 h2 h3 hcalm hg
     obtain ⟨res, es⟩ := rr
     simp only at h1 h2 h3 hcalm hg
     have hev : ∀ fn, ∀ e ∈ seen P fn es, calmEv true e := fun fn e he => (hcalm e (mem_seen he)).resolve_left (by simp)
     have hst : ∀ main cs w, stepG P main (G fr (c :: r ++ cs)) w = GStep.after (seen P fr.fn ((results fn fr.tmps).runT P w #[]).2) (match ((results fn fr.tmps).runT P w #[]).1 with
      | .ok v w => doReturn P main fr (c :: r ++ cs) none v w
      | .halt (.stuck s) w => .ended (.stuck s (fr.pos P)) w
      | .halt _ w => .ended (.stuck "return: the result variables cannot be read" (fr.pos P)) w) := fun main cs w => by
      simp only [G, stepG, unwind, hm, hfr.defers, hf]
      cases (Sem.runT P (results fn fr.tmps) w #[]).fst with
      | ok v w => rfl
      | halt h w => cases h <;> rfl
     cases res with
     | ok v w' =>
      refine .on (c.finish v) r w' (seen P fr.fn es) (fine_finish hc v) hr h1 h2 (hev _) fun main cs τ d hag => ?_
      rw [hst, h3 τ d hag]
      simp only [resRe, doReturn, hfr.kind, GStep.after, Array.append_empty, resW, List.cons_append]
      rfl
     | halt h w' =>
      refine .bad w' h1 fun main cs τ d hag => ?_
      rw [hst, h3 τ d hag]
      simp only [resRe]
      cases h <;> exact .inl ⟨_, _, _, rfl⟩
end
end Go.Car
