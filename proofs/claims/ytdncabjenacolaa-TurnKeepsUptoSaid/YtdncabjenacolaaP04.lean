/- YtdncabjenacolaaTKeep4: part 4 of the proof (the texts behind it, in order). -/
import Derived.Test.YtdncabjenacolaaP03
set_option linter.unusedSimpArgs false
set_option linter.unusedVariables false
set_option linter.unusedSectionVars false
set_option linter.unnecessarySimpa false
set_option maxHeartbeats 1000000
namespace Go.Car
open Go Go.RowKit
section
variable {α β : Type} {P : Program}
theorem steady_underlying (t : TypeId) : zq2 P (underlying t) := by
 unfold underlying
 repeat' (first | with_reducible exact Stdy.out | with_reducible refine zq8 ?_ | with_reducible refine zq9 ?_ (fun _ => ?_) | with_reducible refine zq5 ?_ (fun _ => ?_) | exact fun _ _ => rfl | split | simp only [])
instance (t : TypeId) : Stdy P (underlying t) := ⟨steady_underlying t⟩
theorem steady_typeInfo (t : TypeId) : zq2 P (typeInfo t) := by
 unfold typeInfo
 repeat' (first | with_reducible exact Stdy.out | with_reducible refine zq8 ?_ | with_reducible refine zq9 ?_ (fun _ => ?_) | with_reducible refine zq5 ?_ (fun _ => ?_) | exact fun _ _ => rfl | split | simp only [])
instance (t : TypeId) : Stdy P (typeInfo t) := ⟨steady_typeInfo t⟩
theorem steady_sizeOf (t : TypeId) : zq2 P (sizeOf t) := by
 unfold sizeOf
 repeat' (first | with_reducible exact Stdy.out | with_reducible refine zq8 ?_ | with_reducible refine zq9 ?_ (fun _ => ?_) | with_reducible refine zq5 ?_ (fun _ => ?_) | exact fun _ _ => rfl | split | simp only [])
instance (t : TypeId) : Stdy P (sizeOf t) := ⟨steady_sizeOf t⟩
theorem steady_zeroValue (t : TypeId) : zq2 P (zeroValue t) := by
 unfold zeroValue
 repeat' (first | with_reducible exact Stdy.out | with_reducible refine zq8 ?_ | with_reducible refine zq9 ?_ (fun _ => ?_) | with_reducible refine zq5 ?_ (fun _ => ?_) | exact fun _ _ => rfl | split | simp only [])
instance (t : TypeId) : Stdy P (zeroValue t) := ⟨steady_zeroValue t⟩
theorem steady_isAgg (t : TypeId) : zq2 P (isAgg t) := by
 unfold isAgg
 repeat' (first | with_reducible exact Stdy.out | with_reducible refine zq8 ?_ | with_reducible refine zq9 ?_ (fun _ => ?_) | with_reducible refine zq5 ?_ (fun _ => ?_) | exact fun _ _ => rfl | split | simp only [])
instance (t : TypeId) : Stdy P (isAgg t) := ⟨steady_isAgg t⟩
theorem steady_elemOf (t : TypeId) : zq2 P (elemOf t) := by
 unfold elemOf
 repeat' (first | with_reducible exact Stdy.out | with_reducible refine zq8 ?_ | with_reducible refine zq9 ?_ (fun _ => ?_) | with_reducible refine zq5 ?_ (fun _ => ?_) | exact fun _ _ => rfl | split | simp only [])
instance (t : TypeId) : Stdy P (elemOf t) := ⟨steady_elemOf t⟩
theorem steady_typeStr (t : TypeId) : zq2 P (typeStr t) := by
 unfold typeStr
 repeat' (first | with_reducible exact Stdy.out | with_reducible refine zq8 ?_ | with_reducible refine zq9 ?_ (fun _ => ?_) | with_reducible refine zq5 ?_ (fun _ => ?_) | exact fun _ _ => rfl | split | simp only [])
instance (t : TypeId) : Stdy P (typeStr t) := ⟨steady_typeStr t⟩
theorem steady_loadCellsFrom (a : Addr) : ∀ (n i : Nat) (acc : Array Value), zq2 P (loadCellsFrom a i n acc)
 | 0, _, _ => steady_pure _
 | n + 1, _, _ => zq5 (steady_load _ _) fun _ => steady_loadCellsFrom a n _ _
theorem steady_loadCells (a : Addr) (n : Nat) : zq2 P (loadCells a n) := steady_loadCellsFrom a n 0 #[]
instance (a : Addr) (n : Nat) : Stdy P (loadCells a n) := ⟨steady_loadCells a n⟩
theorem steady_storeCells (a : Addr) : ∀ (vs : List Value) (i : Nat), zq2 P (storeCells a vs i)
 | [], _ => steady_pure _
 | _ :: r, i => zq5 (steady_store _ _ _) fun _ => steady_storeCells a r (i + 1)
instance (a : Addr) (vs : List Value) (i : Nat) : Stdy P (storeCells a vs i) := ⟨steady_storeCells a vs i⟩
theorem steady_loadVar (t : TypeId) (a : Addr) : zq2 P (loadVar t a) := by
 unfold loadVar
 repeat' (first | with_reducible exact Stdy.out | with_reducible refine zq8 ?_ | with_reducible refine zq9 ?_ (fun _ => ?_) | with_reducible refine zq5 ?_ (fun _ => ?_) | exact fun _ _ => rfl | split | simp only [])
instance (t : TypeId) (a : Addr) : Stdy P (loadVar t a) := ⟨steady_loadVar t a⟩
theorem steady_storeVar (t : TypeId) (a : Addr) (v : Value) : zq2 P (storeVar t a v) := by
 unfold storeVar
 repeat' (first | with_reducible exact Stdy.out | with_reducible refine zq8 ?_ | with_reducible refine zq9 ?_ (fun _ => ?_) | with_reducible refine zq5 ?_ (fun _ => ?_) | exact fun _ _ => rfl | split | simp only [])
theorem steady_newRow (t : TypeId) (c : Array Value) : zq2 P (newRow t c) := by
 unfold newRow
 repeat' (first | with_reducible exact Stdy.out | with_reducible refine zq8 ?_ | with_reducible refine zq9 ?_ (fun _ => ?_) | with_reducible refine zq5 ?_ (fun _ => ?_) | exact fun _ _ => rfl | split | simp only [])
instance (t : TypeId) (c : Array Value) : Stdy P (newRow t c) := ⟨steady_newRow t c⟩
theorem steady_newVar (t : TypeId) (v : Value) : zq2 P (newVar t v) := by
 unfold newVar
 repeat' (first | with_reducible exact Stdy.out | with_reducible refine zq8 ?_ | with_reducible refine zq9 ?_ (fun _ => ?_) | with_reducible refine zq5 ?_ (fun _ => ?_) | exact fun _ _ => rfl | split | simp only [])
instance (t : TypeId) (v : Value) : Stdy P (newVar t v) := ⟨steady_newVar t v⟩
theorem steady_part (t : TypeId) (cs : Array Value) (off : Nat) : zq2 P (part t cs off) := by
 unfold part
 repeat' (first | with_reducible exact Stdy.out | with_reducible refine zq8 ?_ | with_reducible refine zq9 ?_ (fun _ => ?_) | with_reducible refine zq5 ?_ (fun _ => ?_) | exact fun _ _ => rfl | split | simp only [])
instance (t : TypeId) (cs : Array Value) (off : Nat) : Stdy P (part t cs off) := ⟨steady_part t cs off⟩
theorem steady_runtimePanic (e : RuntimeError) : zq2 P (runtimePanic e : Sem α) := by
 unfold runtimePanic
 cases e <;> repeat' (first | with_reducible exact Stdy.out | with_reducible refine zq8 ?_ | with_reducible refine zq9 ?_ (fun _ => ?_) | with_reducible refine zq5 ?_ (fun _ => ?_) | exact fun _ _ => rfl | split | simp only [])
instance (e : RuntimeError) : Stdy P (runtimePanic e : Sem α) := ⟨steady_runtimePanic e⟩
theorem steady_boundsPanic (k : IntKind) (x y : Int) (c : BoundsCode) : zq2 P (boundsPanic k x y c : Sem α) := by
 unfold boundsPanic
 repeat' (first | with_reducible exact Stdy.out | with_reducible refine zq8 ?_ | with_reducible refine zq9 ?_ (fun _ => ?_) | with_reducible refine zq5 ?_ (fun _ => ?_) | exact fun _ _ => rfl | split | simp only [])
instance (k : IntKind) (x y : Int) (c : BoundsCode) : Stdy P (boundsPanic k x y c : Sem α) := ⟨steady_boundsPanic k x y c⟩
theorem steady_asIntOf (v : Value) : zq2 P (asIntOf v) := by
 unfold asIntOf
 repeat' (first | with_reducible exact Stdy.out | with_reducible refine zq8 ?_ | with_reducible refine zq9 ?_ (fun _ => ?_) | with_reducible refine zq5 ?_ (fun _ => ?_) | exact fun _ _ => rfl | split | simp only [])
instance (v : Value) : Stdy P (asIntOf v) := ⟨steady_asIntOf v⟩
theorem steady_asInt (v : Value) : zq2 P (asInt v) := by
 unfold asInt
 repeat' (first | with_reducible exact Stdy.out | with_reducible refine zq8 ?_ | with_reducible refine zq9 ?_ (fun _ => ?_) | with_reducible refine zq5 ?_ (fun _ => ?_) | exact fun _ _ => rfl | split | simp only [])
instance (v : Value) : Stdy P (asInt v) := ⟨steady_asInt v⟩
theorem steady_asBool (v : Value) : zq2 P (asBool v) := by
 unfold asBool
 repeat' (first | with_reducible exact Stdy.out | with_reducible refine zq8 ?_ | with_reducible refine zq9 ?_ (fun _ => ?_) | with_reducible refine zq5 ?_ (fun _ => ?_) | exact fun _ _ => rfl | split | simp only [])
instance (v : Value) : Stdy P (asBool v) := ⟨steady_asBool v⟩
theorem steady_asAgg (v : Value) : zq2 P (asAgg v) := by
 unfold asAgg
 repeat' (first | with_reducible exact Stdy.out | with_reducible refine zq8 ?_ | with_reducible refine zq9 ?_ (fun _ => ?_) | with_reducible refine zq5 ?_ (fun _ => ?_) | exact fun _ _ => rfl | split | simp only [])
instance (v : Value) : Stdy P (asAgg v) := ⟨steady_asAgg v⟩
theorem steady_asAddr (v : Value) : zq2 P (asAddr v) := by
 unfold asAddr
 repeat' (first | with_reducible exact Stdy.out | with_reducible refine zq8 ?_ | with_reducible refine zq9 ?_ (fun _ => ?_) | with_reducible refine zq5 ?_ (fun _ => ?_) | exact fun _ _ => rfl | split | simp only [])
instance (v : Value) : Stdy P (asAddr v) := ⟨steady_asAddr v⟩
theorem steady_sureAddr (v : Value) : zq2 P (Instr.sureAddr v) := by
 unfold Instr.sureAddr
 repeat' (first | with_reducible exact Stdy.out | with_reducible refine zq8 ?_ | with_reducible refine zq9 ?_ (fun _ => ?_) | with_reducible refine zq5 ?_ (fun _ => ?_) | exact fun _ _ => rfl | split | simp only [])
instance (v : Value) : Stdy P (Instr.sureAddr v) := ⟨steady_sureAddr v⟩
theorem steady_viewAt (r : Nat) : zq2 P (viewAt r) := by
 unfold viewAt
 refine zq9 (fun e n => rfl) fun x => ?_
 repeat' (first | with_reducible exact Stdy.out | with_reducible refine zq8 ?_ | with_reducible refine zq9 ?_ (fun _ => ?_) | with_reducible refine zq5 ?_ (fun _ => ?_) | exact fun _ _ => rfl | split | simp only [])
instance (r : Nat) : Stdy P (viewAt r) := ⟨steady_viewAt r⟩
theorem steady_noView (a : Addr) : zq2 P (noView a) := by
 unfold noView
 repeat' (first | with_reducible exact Stdy.out | with_reducible refine zq8 ?_ | with_reducible refine zq9 ?_ (fun _ => ?_) | with_reducible refine zq5 ?_ (fun _ => ?_) | exact fun _ _ => rfl | split | simp only [])
instance (a : Addr) : Stdy P (noView a) := ⟨steady_noView a⟩
theorem steady_byteOf (a : Addr) : zq2 P (byteOf a) := by
 unfold byteOf
 repeat' (first | with_reducible exact Stdy.out | with_reducible refine zq8 ?_ | with_reducible refine zq9 ?_ (fun _ => ?_) | with_reducible refine zq5 ?_ (fun _ => ?_) | exact fun _ _ => rfl | split | simp only [])
instance (a : Addr) : Stdy P (byteOf a) := ⟨steady_byteOf a⟩
theorem steady_partAt (a : Addr) (i j : Nat) : zq2 P (partAt a i j) := by
 unfold partAt
 repeat' (first | with_reducible exact Stdy.out | with_reducible refine zq8 ?_ | with_reducible refine zq9 ?_ (fun _ => ?_) | with_reducible refine zq5 ?_ (fun _ => ?_) | exact fun _ _ => rfl | split | simp only [])
instance (a : Addr) (i j : Nat) : Stdy P (partAt a i j) := ⟨steady_partAt a i j⟩
theorem steady_fieldPlace (a : Addr) (f : Field) : zq2 P (fieldPlace a f) := by
 unfold fieldPlace
 repeat' (first | with_reducible exact Stdy.out | with_reducible refine zq8 ?_ | with_reducible refine zq9 ?_ (fun _ => ?_) | with_reducible refine zq5 ?_ (fun _ => ?_) | exact fun _ _ => rfl | split | simp only [])
instance (a : Addr) (f : Field) : Stdy P (fieldPlace a f) := ⟨steady_fieldPlace a f⟩
theorem steady_alloc (t : TypeId) : zq2 P (Instr.alloc t true (.tuple #[])) := by
 unfold Instr.alloc
 repeat' (first | with_reducible exact Stdy.out | with_reducible refine zq8 ?_ | with_reducible refine zq9 ?_ (fun _ => ?_) | with_reducible refine zq5 ?_ (fun _ => ?_) | exact fun _ _ => rfl | split | simp only [])
instance (t : TypeId) : Stdy P (Instr.alloc t true (.tuple #[])) := ⟨steady_alloc t⟩
theorem steady_box (t : TypeId) (v : Value) : zq2 P (Instr.box t v) := by
 unfold Instr.box
 repeat' (first | with_reducible exact Stdy.out | with_reducible refine zq8 ?_ | with_reducible refine zq9 ?_ (fun _ => ?_) | with_reducible refine zq5 ?_ (fun _ => ?_) | exact fun _ _ => rfl | split | simp only [])
instance (t : TypeId) (v : Value) : Stdy P (Instr.box t v) := ⟨steady_box t v⟩
theorem steady_mapM {γ δ : Type} (f : γ → Sem δ) (h : ∀ a, zq2 P (f a)) (l : List γ) : zq2 P (l.mapM f) := by
 induction l with
 | nil => exact steady_pure _
 | cons a l ih => rw [List.mapM_cons]; exact zq5 (h a) fun _ => zq5 ih fun _ => steady_pure _
theorem steady_mapMA {γ δ : Type} (f : γ → Sem δ) (h : ∀ a, zq2 P (f a)) (l : Array γ) : zq2 P (l.mapM f) := by
 rw [Array.mapM_eq_mapM_toList]
 exact zq8 (steady_mapM f h _)
instance {γ δ : Type} (f : γ → Sem δ) [h : ∀ a, Stdy P (f a)] (l : Array γ) : Stdy P (l.mapM f) := ⟨steady_mapMA f (fun a => (h a).out) l⟩
instance {γ δ : Type} (s : Sem γ) (f : γ → Sem δ) [hs : Stdy P s] [h : ∀ a, Stdy P (f a)] : Stdy P (s >>= f) := ⟨zq5 hs.out (fun a => (h a).out)⟩
theorem steady_build (t : TypeId) (ps : Array (Nat × Value)) : zq2 P (Instr.build t ps) := by
 unfold Instr.build
 repeat' (first | with_reducible exact Stdy.out | with_reducible refine zq8 ?_ | with_reducible refine zq9 ?_ (fun _ => ?_) | with_reducible refine zq5 ?_ (fun _ => ?_) | exact fun _ _ => rfl | split | simp only [])
instance (t : TypeId) (ps : Array (Nat × Value)) : Stdy P (Instr.build t ps) := ⟨steady_build t ps⟩
theorem steady_buildSlice (t : TypeId) (n : Nat) (ps : Array (Nat × Value)) : zq2 P (Instr.buildSlice t n ps) := by
 unfold Instr.buildSlice
 repeat' (first | with_reducible exact Stdy.out | with_reducible refine zq8 ?_ | with_reducible refine zq9 ?_ (fun _ => ?_) | with_reducible refine zq5 ?_ (fun _ => ?_) | exact fun _ _ => rfl | split | simp only [])
instance (t : TypeId) (n : Nat) (ps : Array (Nat × Value)) : Stdy P (Instr.buildSlice t n ps) := ⟨steady_buildSlice t n ps⟩
theorem steady_loadAt (t : TypeId) (v : Value) : zq2 P (Instr.loadAt t v) := by
 unfold Instr.loadAt
 repeat' (first | with_reducible exact Stdy.out | with_reducible refine zq8 ?_ | with_reducible refine zq9 ?_ (fun _ => ?_) | with_reducible refine zq5 ?_ (fun _ => ?_) | exact fun _ _ => rfl | split | simp only [])
instance (t : TypeId) (v : Value) : Stdy P (Instr.loadAt t v) := ⟨steady_loadAt t v⟩
theorem steady_storeAt (t : TypeId) (v x : Value) : zq2 P (Instr.storeAt t v x) := zq5 (steady_sureAddr v) fun _ => steady_storeVar t _ x
instance (t : TypeId) (v x : Value) : Stdy P (Instr.storeAt t v x) := ⟨steady_storeAt t v x⟩
theorem steady_fieldAt (t : TypeId) (v : Value) (i : Nat) : zq2 P (Instr.fieldAt t v i) := by
 unfold Instr.fieldAt
 repeat' (first | with_reducible exact Stdy.out | with_reducible refine zq8 ?_ | with_reducible refine zq9 ?_ (fun _ => ?_) | with_reducible refine zq5 ?_ (fun _ => ?_) | exact fun _ _ => rfl | split | simp only [])
instance (t : TypeId) (v : Value) (i : Nat) : Stdy P (Instr.fieldAt t v i) := ⟨steady_fieldAt t v i⟩
theorem steady_indexAt (t : TypeId) (v x : Value) : zq2 P (Instr.indexAt t v x) := by
 unfold Instr.indexAt
 repeat' (first | with_reducible exact Stdy.out | with_reducible refine zq8 ?_ | with_reducible refine zq9 ?_ (fun _ => ?_) | with_reducible refine zq5 ?_ (fun _ => ?_) | exact fun _ _ => rfl | split | simp only [])
instance (t : TypeId) (v x : Value) : Stdy P (Instr.indexAt t v x) := ⟨steady_indexAt t v x⟩
theorem steady_sliceBound (v : Value) (y : Nat) (c : BoundsCode) : zq2 P (Instr.sliceBound v y c) := by
 unfold Instr.sliceBound
 repeat' (first | with_reducible exact Stdy.out | with_reducible refine zq8 ?_ | with_reducible refine zq9 ?_ (fun _ => ?_) | with_reducible refine zq5 ?_ (fun _ => ?_) | exact fun _ _ => rfl | split | simp only [])
instance (v : Value) (y : Nat) (c : BoundsCode) : Stdy P (Instr.sliceBound v y c) := ⟨steady_sliceBound v y c⟩
theorem steady_sliceBounds (b : Bool) (n m : Nat) (x y z : Option Value) : zq2 P (Instr.sliceBounds b n m x y z) := by
 unfold Instr.sliceBounds
 repeat' (first | with_reducible exact Stdy.out | with_reducible refine zq8 ?_ | with_reducible refine zq9 ?_ (fun _ => ?_) | with_reducible refine zq5 ?_ (fun _ => ?_) | exact fun _ _ => rfl | split | simp only [])
instance (b : Bool) (n m : Nat) (x y z : Option Value) : Stdy P (Instr.sliceBounds b n m x y z) := ⟨steady_sliceBounds b n m x y z⟩
theorem steady_slice (t : TypeId) (v : Value) (x y z : Option Value) : zq2 P (Instr.slice t v x y z) := by
 unfold Instr.slice
 repeat' (first | with_reducible exact Stdy.out | with_reducible refine zq8 ?_ | with_reducible refine zq9 ?_ (fun _ => ?_) | with_reducible refine zq5 ?_ (fun _ => ?_) | exact fun _ _ => rfl | split | simp only [])
instance (t : TypeId) (v : Value) (x y z : Option Value) : Stdy P (Instr.slice t v x y z) := ⟨steady_slice t v x y z⟩
theorem steady_sliceAt (t : TypeId) (v : Value) (x y z : Option Value) : zq2 P (Instr.sliceAt t v x y z) := by
 unfold Instr.sliceAt
 repeat' (first | with_reducible exact Stdy.out | with_reducible refine zq8 ?_ | with_reducible refine zq9 ?_ (fun _ => ?_) | with_reducible refine zq5 ?_ (fun _ => ?_) | exact fun _ _ => rfl | split | simp only [])
instance (t : TypeId) (v : Value) (x y z : Option Value) : Stdy P (Instr.sliceAt t v x y z) := ⟨steady_sliceAt t v x y z⟩
theorem steady_makeInterface (t : TypeId) (v : Value) : zq2 P (Instr.makeInterface t v) := by
 unfold Instr.makeInterface
 repeat' (first | with_reducible exact Stdy.out | with_reducible refine zq8 ?_ | with_reducible refine zq9 ?_ (fun _ => ?_) | with_reducible refine zq5 ?_ (fun _ => ?_) | exact fun _ _ => rfl | split | simp only [])
instance (t : TypeId) (v : Value) : Stdy P (Instr.makeInterface t v) := ⟨steady_makeInterface t v⟩
theorem steady_makeFunc (f : Fn) (a b : Array Value) : zq2 P (Instr.makeFunc f a b) := by
 unfold Instr.makeFunc
 repeat' (first | with_reducible exact Stdy.out | with_reducible refine zq8 ?_ | with_reducible refine zq9 ?_ (fun _ => ?_) | with_reducible refine zq5 ?_ (fun _ => ?_) | exact fun _ _ => rfl | split | simp only [])
instance (f : Fn) (a b : Array Value) : Stdy P (Instr.makeFunc f a b) := ⟨steady_makeFunc f a b⟩
theorem steady_makeChan (t : TypeId) (v : Value) : zq2 P (Instr.makeChan t v) := by
 unfold Instr.makeChan
 repeat' (first | with_reducible exact Stdy.out | with_reducible refine zq8 ?_ | with_reducible refine zq9 ?_ (fun _ => ?_) | with_reducible refine zq5 ?_ (fun _ => ?_) | exact fun _ _ => rfl | split | simp only [])
instance (t : TypeId) (v : Value) : Stdy P (Instr.makeChan t v) := ⟨steady_makeChan t v⟩
theorem steady_askRoom (n : Nat) : zq2 P (askRoom n) := by
 unfold askRoom
 repeat' (first | with_reducible exact Stdy.out | with_reducible refine zq8 ?_ | with_reducible refine zq9 ?_ (fun _ => ?_) | with_reducible refine zq5 ?_ (fun _ => ?_) | exact fun _ _ => rfl | split | simp only [])
instance (n : Nat) : Stdy P (askRoom n) := ⟨steady_askRoom n⟩
theorem steady_makeSlice (t : TypeId) (a b : Value) : zq2 P (Instr.makeSlice t a b) := by
 unfold Instr.makeSlice
 repeat' (first | with_reducible exact Stdy.out | with_reducible refine zq8 ?_ | with_reducible refine zq9 ?_ (fun _ => ?_) | with_reducible refine zq5 ?_ (fun _ => ?_) | exact fun _ _ => rfl | split | simp only [])
instance (t : TypeId) (a b : Value) : Stdy P (Instr.makeSlice t a b) := ⟨steady_makeSlice t a b⟩
theorem steady_field (t : TypeId) (v : Value) (i : Nat) : zq2 P (Instr.field t v i) := by
 unfold Instr.field
 repeat' (first | with_reducible exact Stdy.out | with_reducible refine zq8 ?_ | with_reducible refine zq9 ?_ (fun _ => ?_) | with_reducible refine zq5 ?_ (fun _ => ?_) | exact fun _ _ => rfl | split | simp only [])
instance (t : TypeId) (v : Value) (i : Nat) : Stdy P (Instr.field t v i) := ⟨steady_field t v i⟩
theorem steady_index (t : TypeId) (v x : Value) : zq2 P (Instr.index t v x) := by
 unfold Instr.index
 repeat' (first | with_reducible exact Stdy.out | with_reducible refine zq8 ?_ | with_reducible refine zq9 ?_ (fun _ => ?_) | with_reducible refine zq5 ?_ (fun _ => ?_) | exact fun _ _ => rfl | split | simp only [])
instance (t : TypeId) (v x : Value) : Stdy P (Instr.index t v x) := ⟨steady_index t v x⟩
theorem steady_extract (v : Value) (i : Nat) : zq2 P (Instr.extract v i) := by
 unfold Instr.extract
 repeat' (first | with_reducible exact Stdy.out | with_reducible refine zq8 ?_ | with_reducible refine zq9 ?_ (fun _ => ?_) | with_reducible refine zq5 ?_ (fun _ => ?_) | exact fun _ _ => rfl | split | simp only [])
instance (v : Value) (i : Nat) : Stdy P (Instr.extract v i) := ⟨steady_extract v i⟩
theorem steady_typeAssert (v : Value) (t u : TypeId) (b : Bool) : zq2 P (Instr.typeAssert v t u b) := by
 unfold Instr.typeAssert
 repeat' (first | with_reducible exact Stdy.out | with_reducible refine zq8 ?_ | with_reducible refine zq9 ?_ (fun _ => ?_) | with_reducible refine zq5 ?_ (fun _ => ?_) | exact fun _ _ => rfl | split | simp only [])
instance (v : Value) (t u : TypeId) (b : Bool) : Stdy P (Instr.typeAssert v t u b) := ⟨steady_typeAssert v t u b⟩
theorem steady_intArith (o : BinOp) (k : IntKind) (x y : Int) : zq2 P (Op.intArith o k x y) := by
 unfold Op.intArith
 repeat' (first | with_reducible exact Stdy.out | with_reducible refine zq8 ?_ | with_reducible refine zq9 ?_ (fun _ => ?_) | with_reducible refine zq5 ?_ (fun _ => ?_) | exact fun _ _ => rfl | split | simp only [])
instance (o : BinOp) (k : IntKind) (x y : Int) : Stdy P (Op.intArith o k x y) := ⟨steady_intArith o k x y⟩
theorem steady_intDiv (o : BinOp) (k : IntKind) (x y : Int) : zq2 P (Op.intDiv o k x y) := by
 unfold Op.intDiv
 repeat' (first | with_reducible exact Stdy.out | with_reducible refine zq8 ?_ | with_reducible refine zq9 ?_ (fun _ => ?_) | with_reducible refine zq5 ?_ (fun _ => ?_) | exact fun _ _ => rfl | split | simp only [])
instance (o : BinOp) (k : IntKind) (x y : Int) : Stdy P (Op.intDiv o k x y) := ⟨steady_intDiv o k x y⟩
theorem steady_intBits (o : BinOp) (k : IntKind) (x y : Int) : zq2 P (Op.intBits o k x y) := by
 unfold Op.intBits
 repeat' (first | with_reducible exact Stdy.out | with_reducible refine zq8 ?_ | with_reducible refine zq9 ?_ (fun _ => ?_) | with_reducible refine zq5 ?_ (fun _ => ?_) | exact fun _ _ => rfl | split | simp only [])
instance (o : BinOp) (k : IntKind) (x y : Int) : Stdy P (Op.intBits o k x y) := ⟨steady_intBits o k x y⟩
theorem steady_intCmp (o : BinOp) (x y : Int) : zq2 P (Op.intCmp o x y) := by
 unfold Op.intCmp
 repeat' (first | with_reducible exact Stdy.out | with_reducible refine zq8 ?_ | with_reducible refine zq9 ?_ (fun _ => ?_) | with_reducible refine zq5 ?_ (fun _ => ?_) | exact fun _ _ => rfl | split | simp only [])
instance (o : BinOp) (x y : Int) : Stdy P (Op.intCmp o x y) := ⟨steady_intCmp o x y⟩
theorem steady_shift (o : BinOp) (k : IntKind) (x : Int) (l : IntKind) (y : Int) : zq2 P (Op.shift o k x l y) := by
 unfold Op.shift
 repeat' (first | with_reducible exact Stdy.out | with_reducible refine zq8 ?_ | with_reducible refine zq9 ?_ (fun _ => ?_) | with_reducible refine zq5 ?_ (fun _ => ?_) | exact fun _ _ => rfl | split | simp only [])
instance (o : BinOp) (k : IntKind) (x : Int) (l : IntKind) (y : Int) : Stdy P (Op.shift o k x l y) := ⟨steady_shift o k x l y⟩
theorem steady_floatArith (o : BinOp) (k : FloatKind) (x y : Nat) : zq2 P (Op.floatArith o k x y) := by
 unfold Op.floatArith
 repeat' (first | with_reducible exact Stdy.out | with_reducible refine zq8 ?_ | with_reducible refine zq9 ?_ (fun _ => ?_) | with_reducible refine zq5 ?_ (fun _ => ?_) | exact fun _ _ => rfl | split | simp only [])
instance (o : BinOp) (k : FloatKind) (x y : Nat) : Stdy P (Op.floatArith o k x y) := ⟨steady_floatArith o k x y⟩
theorem steady_floatCmp (o : BinOp) (k : FloatKind) (x y : Nat) : zq2 P (Op.floatCmp o k x y) := by
 unfold Op.floatCmp
 repeat' (first | with_reducible exact Stdy.out | with_reducible refine zq8 ?_ | with_reducible refine zq9 ?_ (fun _ => ?_) | with_reducible refine zq5 ?_ (fun _ => ?_) | exact fun _ _ => rfl | split | simp only [])
instance (o : BinOp) (k : FloatKind) (x y : Nat) : Stdy P (Op.floatCmp o k x y) := ⟨steady_floatCmp o k x y⟩
theorem steady_stringOp (o : BinOp) (x y : ByteArray) : zq2 P (Op.stringOp o x y) := by
 unfold Op.stringOp
 repeat' (first | with_reducible exact Stdy.out | with_reducible refine zq8 ?_ | with_reducible refine zq9 ?_ (fun _ => ?_) | with_reducible refine zq5 ?_ (fun _ => ?_) | exact fun _ _ => rfl | split | simp only [])
instance (o : BinOp) (x y : ByteArray) : Stdy P (Op.stringOp o x y) := ⟨steady_stringOp o x y⟩
theorem steady_floatToFloat (k : FloatKind) (x : Nat) (l : FloatKind) : zq2 P (Conv.floatToFloat k x l) := by
 unfold Conv.floatToFloat
 repeat' (first | with_reducible exact Stdy.out | with_reducible refine zq8 ?_ | with_reducible refine zq9 ?_ (fun _ => ?_) | with_reducible refine zq5 ?_ (fun _ => ?_) | exact fun _ _ => rfl | split | simp only [])
instance (k : FloatKind) (x : Nat) (l : FloatKind) : Stdy P (Conv.floatToFloat k x l) := ⟨steady_floatToFloat k x l⟩
theorem steady_carith (o : BinOp) (k : FloatKind) (x y : Nat) : zq2 P (Op.Complex.arith o k x y) := by
 unfold Op.Complex.arith
 repeat' (first | with_reducible exact Stdy.out | with_reducible refine zq8 ?_ | with_reducible refine zq9 ?_ (fun _ => ?_) | with_reducible refine zq5 ?_ (fun _ => ?_) | exact fun _ _ => rfl | split | simp only [])
instance (o : BinOp) (k : FloatKind) (x y : Nat) : Stdy P (Op.Complex.arith o k x y) := ⟨steady_carith o k x y⟩
theorem steady_ccmp (o : BinOp) (k : FloatKind) (x y : Nat) : zq2 P (Op.Complex.cmp o k x y) := by
 unfold Op.Complex.cmp
 repeat' (first | with_reducible exact Stdy.out | with_reducible refine zq8 ?_ | with_reducible refine zq9 ?_ (fun _ => ?_) | with_reducible refine zq5 ?_ (fun _ => ?_) | exact fun _ _ => rfl | split | simp only [])
instance (o : BinOp) (k : FloatKind) (x y : Nat) : Stdy P (Op.Complex.cmp o k x y) := ⟨steady_ccmp o k x y⟩
theorem steady_cconv (k : FloatKind) (x : Nat) (l : FloatKind) : zq2 P (Op.Complex.conv k x l) := by
 unfold Op.Complex.conv
 repeat' (first | with_reducible exact Stdy.out | with_reducible refine zq8 ?_ | with_reducible refine zq9 ?_ (fun _ => ?_) | with_reducible refine zq5 ?_ (fun _ => ?_) | exact fun _ _ => rfl | split | simp only [])
instance (k : FloatKind) (x : Nat) (l : FloatKind) : Stdy P (Op.Complex.conv k x l) := ⟨steady_cconv k x l⟩
theorem steady_cadd (x y : Nat) : zq2 P (Op.Complex.add x y) := by
 unfold Op.Complex.add
 repeat' (first | with_reducible exact Stdy.out | with_reducible refine zq8 ?_ | with_reducible refine zq9 ?_ (fun _ => ?_) | with_reducible refine zq5 ?_ (fun _ => ?_) | exact fun _ _ => rfl | split | simp only [])
instance (x y : Nat) : Stdy P (Op.Complex.add x y) := ⟨steady_cadd x y⟩
theorem steady_csub (x y : Nat) : zq2 P (Op.Complex.sub x y) := by
 unfold Op.Complex.sub
 repeat' (first | with_reducible exact Stdy.out | with_reducible refine zq8 ?_ | with_reducible refine zq9 ?_ (fun _ => ?_) | with_reducible refine zq5 ?_ (fun _ => ?_) | exact fun _ _ => rfl | split | simp only [])
instance (x y : Nat) : Stdy P (Op.Complex.sub x y) := ⟨steady_csub x y⟩
theorem steady_cmul (x y : Nat) : zq2 P (Op.Complex.mul x y) := by
 unfold Op.Complex.mul
 repeat' (first | with_reducible exact Stdy.out | with_reducible refine zq8 ?_ | with_reducible refine zq9 ?_ (fun _ => ?_) | with_reducible refine zq5 ?_ (fun _ => ?_) | exact fun _ _ => rfl | split | simp only [])
instance (x y : Nat) : Stdy P (Op.Complex.mul x y) := ⟨steady_cmul x y⟩
theorem steady_cquo (x y : Nat) : zq2 P (Op.Complex.quo x y) := by
 unfold Op.Complex.quo
 repeat' (first | with_reducible exact Stdy.out | with_reducible refine zq8 ?_ | with_reducible refine zq9 ?_ (fun _ => ?_) | with_reducible refine zq5 ?_ (fun _ => ?_) | exact fun _ _ => rfl | split | simp only [])
instance (x y : Nat) : Stdy P (Op.Complex.quo x y) := ⟨steady_cquo x y⟩
theorem steady_product (a b c d : Nat) : zq2 P (Op.Complex.product a b c d) := by
 unfold Op.Complex.product
 repeat' (first | with_reducible exact Stdy.out | with_reducible refine zq8 ?_ | with_reducible refine zq9 ?_ (fun _ => ?_) | with_reducible refine zq5 ?_ (fun _ => ?_) | exact fun _ _ => rfl | split | simp only [])
instance (a b c d : Nat) : Stdy P (Op.Complex.product a b c d) := ⟨steady_product a b c d⟩
theorem steady_corrected (s a b c d : Nat) : zq2 P (Op.Complex.corrected s a b c d) := by
 unfold Op.Complex.corrected
 repeat' (first | with_reducible exact Stdy.out | with_reducible refine zq8 ?_ | with_reducible refine zq9 ?_ (fun _ => ?_) | with_reducible refine zq5 ?_ (fun _ => ?_) | exact fun _ _ => rfl | split | simp only [])
instance (s a b c d : Nat) : Stdy P (Op.Complex.corrected s a b c d) := ⟨steady_corrected s a b c d⟩
theorem steady_quotient (a b c d : Nat) : zq2 P (Op.Complex.quotient a b c d) := by
 unfold Op.Complex.quotient
 repeat' (first | with_reducible exact Stdy.out | with_reducible refine zq8 ?_ | with_reducible refine zq9 ?_ (fun _ => ?_) | with_reducible refine zq5 ?_ (fun _ => ?_) | exact fun _ _ => rfl | split | simp only [])
instance (a b c d : Nat) : Stdy P (Op.Complex.quotient a b c d) := ⟨steady_quotient a b c d⟩
theorem steady_complexOp (o : BinOp) (k : FloatKind) (a b c d : Nat) : zq2 P (Op.complexOp o k a b c d) := by
 unfold Op.complexOp
 repeat' (first | with_reducible exact Stdy.out | with_reducible refine zq8 ?_ | with_reducible refine zq9 ?_ (fun _ => ?_) | with_reducible refine zq5 ?_ (fun _ => ?_) | exact fun _ _ => rfl | split | simp only [])
instance (o : BinOp) (k : FloatKind) (a b c d : Nat) : Stdy P (Op.complexOp o k a b c d) := ⟨steady_complexOp o k a b c d⟩
theorem steady_numberAt (r : Nat) : zq2 P (numberAt r) := by
 unfold numberAt
 refine zq9 (fun e n => rfl) fun x => ?_
 repeat' (first | with_reducible exact Stdy.out | with_reducible refine zq8 ?_ | with_reducible refine zq9 ?_ (fun _ => ?_) | with_reducible refine zq5 ?_ (fun _ => ?_) | exact fun _ _ => rfl | split | simp only [])
instance (r : Nat) : Stdy P (numberAt r) := ⟨steady_numberAt r⟩
theorem steady_behindNumber (a : Addr) : zq2 P (behindNumber a) := by
 unfold behindNumber
 repeat' (first | with_reducible exact Stdy.out | with_reducible refine zq8 ?_ | with_reducible refine zq9 ?_ (fun _ => ?_) | with_reducible refine zq5 ?_ (fun _ => ?_) | exact fun _ _ => rfl | split | simp only [])
instance (a : Addr) : Stdy P (behindNumber a) := ⟨steady_behindNumber a⟩
theorem steady_asNumber (a : Addr) (b : Bool) : zq2 P (asNumber a b) := by
 unfold asNumber
 repeat' (first | with_reducible exact Stdy.out | with_reducible refine zq8 ?_ | with_reducible refine zq9 ?_ (fun _ => ?_) | with_reducible refine zq5 ?_ (fun _ => ?_) | exact fun _ _ => rfl | split | simp only [])
instance (a : Addr) (b : Bool) : Stdy P (asNumber a b) := ⟨steady_asNumber a b⟩
theorem runT_stringish (w : World) (es : Array Event) (a : Addr) : (stringish a).runT P w es = (.ok (w.frozen? a || match w.shape? a.block with | some (_, n) => w.frozen? ⟨a.block, n, none⟩ | none => false) w, es) := by
 unfold stringish
 have e : (frozen a).runT P w es = (.ok (w.frozen? a) w, es) := rfl
 rw [runT_bind, e]
 simp only []
 cases hf : w.frozen? a with
 | true => rfl
 | false =>
  simp only [Bool.false_eq_true, if_false, Bool.false_or]
  show ((match w.shape? a.block with | some (_, n) => frozen { block := a.block, off := n } | none => pure false : Sem Bool)).runT P w es = _
  cases w.shape? a.block with
  | none => rfl
  | some x => rfl
def strB (w : World) (a : Addr) : Bool := w.frozen? a || match w.shape? a.block with | some (_, n) => w.frozen? ⟨a.block, n, none⟩ | none => false
def noneB (w : World) (a : Addr) : Bool := match w.shape? a.block with | some (_, 0) => true | _ => false
theorem strB_cut {X : Snap} {w wc : World} (h : Cut X w wc) (a : Addr) : strB wc a = strB w a := by
 unfold strB
 rw [h.frozen]
 cases hx : X a.block with
 | none => rw [h.shape_out hx]; congr 1; split <;> first | exact h.frozen _ | rfl
 | some x =>
  obtain ⟨c, e⟩ := x
  obtain ⟨h1, h2⟩ := h.shape_in hx
  rw [h1, h2]
  simp only []
  rw [h.frozen, h.frozen_in (a := ⟨a.block, 0, none⟩) hx, h.frozen_in (a := ⟨a.block, c.size, none⟩) hx]
theorem strB_in {X : Snap} {w wc : World} (h : Cut X w wc) {a : Addr} {x} (hx : X a.block = some x) : strB w a = false := by
 obtain ⟨c, e⟩ := x
 unfold strB
 rw [h.frozen_in hx, (h.shape_in hx).1]
 simp only [Bool.false_or]
 exact h.frozen_in (a := ⟨a.block, c.size, none⟩) hx
theorem runT_mayBeOne (w : World) (es : Array Event) (a b : Addr) : (mayBeOne a b).runT P w es = (.ok ((strB w a && strB w b) || (strB w a && noneB w a) || (strB w b && noneB w b)) w, es) := by
 unfold mayBeOne
 simp only []
 rw [runT_bind, runT_stringish]
 simp only []
 rw [runT_bind, runT_stringish]
 simp only []
 rfl
theorem steady_mayBeOne (a b : Addr) : zq2 P (mayBeOne a b) := by
 intro X w wc es h hfit
 rw [runT_mayBeOne, runT_mayBeOne]
 refine ⟨w, h, ?_, fun e he => .inl he⟩
 rw [strB_cut h, strB_cut h]
 have key : ∀ a : Addr, (strB w a && noneB wc a) = (strB w a && noneB w a) := fun a => by
  cases hx : X a.block with
  | none => unfold noneB; rw [h.shape_out hx]
  | some x => rw [strB_in h hx]; rfl
 rw [key, key]
 rfl
instance (a b : Addr) : Stdy P (mayBeOne a b) := ⟨steady_mayBeOne a b⟩
theorem steady_sameAddr (a b : Addr) : zq2 P (sameAddr a b) := by
 unfold sameAddr
 repeat' (first | with_reducible exact Stdy.out | with_reducible refine zq8 ?_ | with_reducible refine zq9 ?_ (fun _ => ?_) | with_reducible refine zq5 ?_ (fun _ => ?_) | exact fun _ _ => rfl | split | simp only [])
instance (a b : Addr) : Stdy P (sameAddr a b) := ⟨steady_sameAddr a b⟩
theorem steady_samePointer (a b : Option Addr) : zq2 P (samePointer a b) := by
 unfold samePointer
 repeat' (first | with_reducible exact Stdy.out | with_reducible refine zq8 ?_ | with_reducible refine zq9 ?_ (fun _ => ?_) | with_reducible refine zq5 ?_ (fun _ => ?_) | exact fun _ _ => rfl | split | simp only [])
instance (a b : Option Addr) : Stdy P (samePointer a b) := ⟨steady_samePointer a b⟩
theorem steady_twoPlaces (a b : Addr) : zq2 P (Op.twoPlaces a b) := by
 unfold Op.twoPlaces
 repeat' (first | with_reducible exact Stdy.out | with_reducible refine zq8 ?_ | with_reducible refine zq9 ?_ (fun _ => ?_) | with_reducible refine zq5 ?_ (fun _ => ?_) | exact fun _ _ => rfl | split | simp only [])
instance (a b : Addr) : Stdy P (Op.twoPlaces a b) := ⟨steady_twoPlaces a b⟩
theorem steady_addrSub (k : IntKind) (a b : Addr) : zq2 P (Op.addrSub k a b) := by
 unfold Op.addrSub
 repeat' (first | with_reducible exact Stdy.out | with_reducible refine zq8 ?_ | with_reducible refine zq9 ?_ (fun _ => ?_) | with_reducible refine zq5 ?_ (fun _ => ?_) | exact fun _ _ => rfl | split | simp only [])
instance (k : IntKind) (a b : Addr) : Stdy P (Op.addrSub k a b) := ⟨steady_addrSub k a b⟩
theorem steady_addrCmp (o : BinOp) (a b : Addr) : zq2 P (Op.addrCmp o a b) := by
 unfold Op.addrCmp
 repeat' (first | with_reducible exact Stdy.out | with_reducible refine zq8 ?_ | with_reducible refine zq9 ?_ (fun _ => ?_) | with_reducible refine zq5 ?_ (fun _ => ?_) | exact fun _ _ => rfl | split | simp only [])
instance (o : BinOp) (a b : Addr) : Stdy P (Op.addrCmp o a b) := ⟨steady_addrCmp o a b⟩
theorem steady_addrMod (k : IntKind) (a : Addr) (n : Int) : zq2 P (Op.addrMod k a n) := by
 unfold Op.addrMod
 refine zq9 (fun e n => rfl) fun x => ?_
 repeat' (first | with_reducible exact Stdy.out | with_reducible refine zq8 ?_ | with_reducible refine zq9 ?_ (fun _ => ?_) | with_reducible refine zq5 ?_ (fun _ => ?_) | exact fun _ _ => rfl | split | simp only [])
instance (k : IntKind) (a : Addr) (n : Int) : Stdy P (Op.addrMod k a n) := ⟨steady_addrMod k a n⟩
theorem steady_shapeD {r : Nat} {f : Option (TypeId × Nat) → Sem β} (he : ∀ e w es, ¬ fit ((f (some (e, 0))).runT P w es).1) (hf : ∀ x, zq2 P (f x)) : zq2 P (shape r >>= f) := by
 intro X w wc es h hfit
 have e1 : ∀ w, (shape r >>= f).runT P w es = (f (w.shape? r)).runT P w es := fun w => rfl
 rw [e1] at hfit
 rw [e1, e1]
 cases hx : X r with
 | none => rw [h.shape_out hx] at hfit ⊢; exact hf _ X w wc es h hfit
 | some x =>
  obtain ⟨c, e⟩ := x
  rw [(h.shape_in hx).2] at hfit
  exact absurd hfit (he _ _ _)
theorem cellAt_none (p : Program) (d : Nat) (e : TypeId) (off : Nat) (n : Int) : cellAtBytes p d e 0 off n = none := by
 unfold cellAtBytes
 simp only [bind, Option.bind]
 split
 · rfl
 · split
   · rfl
   · simp only []
     rw [if_pos (by simp; omega)]
theorem steady_unsafeAdd (t : TypeId) (x : Option Addr) (y : Value) : zq2 P (Builtin.unsafeAdd_ #[] t #[.pointer x, y]) := by
 refine zq5 (s := asInt y) (steady_asInt y) (fun n => ?_)
 repeat' (first | with_reducible exact Stdy.out | with_reducible refine zq8 ?_ | with_reducible refine steady_shapeD ?_ (fun _ => ?_) | with_reducible refine zq5 ?_ (fun _ => ?_) | exact fun _ _ => rfl | split | simp only [])
 all_goals (intro e w es hfit; rw [runT_bind] at hfit; simp only [program, Sem.runT, Nat.zero_div, cellAt_none] at hfit; exact hfit)
theorem steady_unsafeAddV (t : TypeId) (x y : Value) : zq2 P (Builtin.unsafeAdd_ #[] t #[x, y]) := by
 cases x <;> first | exact steady_unsafeAdd _ _ _ | exact steady_halt _
instance (t : TypeId) (x y : Value) : Stdy P (Builtin.unsafeAdd_ #[] t #[x, y]) := ⟨steady_unsafeAddV t x y⟩
theorem steady_movedNumber (t : TypeId) (x y : Value) : zq2 P (movedNumber t x y) := by
 unfold movedNumber
 repeat' (first | with_reducible exact Stdy.out | with_reducible refine zq8 ?_ | with_reducible refine zq9 ?_ (fun _ => ?_) | with_reducible refine zq5 ?_ (fun _ => ?_) | exact fun _ _ => rfl | split | simp only [])
instance (t : TypeId) (x y : Value) : Stdy P (movedNumber t x y) := ⟨steady_movedNumber t x y⟩
theorem steady_movedPointer (t : TypeId) (x y : Value) : zq2 P (movedPointer t x y) := by
 unfold movedPointer
 repeat' (first | with_reducible exact Stdy.out | with_reducible refine zq8 ?_ | with_reducible refine zq9 ?_ (fun _ => ?_) | with_reducible refine zq5 ?_ (fun _ => ?_) | exact fun _ _ => rfl | split | simp only [])
instance (t : TypeId) (x y : Value) : Stdy P (movedPointer t x y) := ⟨steady_movedPointer t x y⟩
theorem steady_eqAddr (a b : Addr) : zq2 P ((do pure ((← byteOf a) == (← byteOf b)) : Sem Bool)) := by
 repeat' (first | with_reducible exact Stdy.out | with_reducible refine zq8 ?_ | with_reducible refine zq9 ?_ (fun _ => ?_) | with_reducible refine zq5 ?_ (fun _ => ?_) | exact fun _ _ => rfl | split | simp only [])
instance (a b : Addr) : Stdy P ((do pure ((← byteOf a) == (← byteOf b)) : Sem Bool)) := ⟨steady_eqAddr a b⟩
theorem steady_forIn {γ δ : Type} (l : List γ) (b : δ) (f : γ → δ → Sem (ForInStep δ)) (h : ∀ a b, zq2 P (f a b)) : zq2 P (forIn l b f) := by
 induction l generalizing b with
 | nil => exact steady_pure _
 | cons a l ih =>
  rw [List.forIn_cons]
  refine zq5 (h a b) fun r => ?_
  cases r with
  | done b => exact steady_pure _
  | yield b => exact ih b
theorem steady_forInA {γ δ : Type} (l : Array γ) (b : δ) (f : γ → δ → Sem (ForInStep δ)) (h : ∀ a b, zq2 P (f a b)) : zq2 P (forIn l b f) := by
 rw [← Array.forIn_toList]; exact steady_forIn _ _ _ h
theorem steady_forInR {δ : Type} (r : Std.Legacy.Range) (b : δ) (f : Nat → δ → Sem (ForInStep δ)) (h : ∀ a b, zq2 P (f a b)) : zq2 P (forIn r b f) := by
 rw [Std.Legacy.Range.forIn_eq_forIn_range']; exact steady_forIn _ _ _ h
theorem steady_equalIn : ∀ (d : Nat) (t : TypeId) (x y : Value), zq2 P (Op.equalIn d t x y)
 | 0, _, _, _ => steady_halt _
 | d + 1, t, x, y => by
  have ih := fun t x y => steady_equalIn d t x y
  unfold Op.equalIn
  refine zq5 (steady_underlying _) (fun k => ?_)
  repeat' (first | with_reducible exact Stdy.out | with_reducible refine zq8 ?_ | with_reducible refine zq9 ?_ (fun _ => ?_) | with_reducible refine zq5 ?_ (fun _ => ?_) | exact fun _ _ => rfl | split | simp only [] | with_reducible exact ih _ _ _ | refine steady_forInA _ _ _ (fun _ _ => ?_) | refine steady_forInR _ _ _ (fun _ _ => ?_))
theorem steady_eqGuardIn : ∀ (d : Nat) (t : TypeId) (x y : Value), zq2 P (Op.eqGuardIn d t x y)
 | 0, _, _, _ => steady_halt _
 | d + 1, t, x, y => by
  have ih := fun t x y => steady_eqGuardIn d t x y
  unfold Op.eqGuardIn
  refine zq5 (steady_underlying _) (fun k => ?_)
  repeat' (first | with_reducible exact Stdy.out | with_reducible refine zq8 ?_ | with_reducible refine zq9 ?_ (fun _ => ?_) | with_reducible refine zq5 ?_ (fun _ => ?_) | exact fun _ _ => rfl | split | simp only [] | with_reducible exact ih _ _ _ | refine steady_forInA _ _ _ (fun _ _ => ?_) | refine steady_forInR _ _ _ (fun _ _ => ?_))
instance (d : Nat) (t : TypeId) (x y : Value) : Stdy P (Op.eqGuardIn d t x y) := ⟨steady_eqGuardIn d t x y⟩
instance (t : TypeId) (x y : Value) : Stdy P (Op.equal t x y) := ⟨steady_equalIn _ t x y⟩
theorem steady_eqGuard (o : BinOp) (t : TypeId) (x y : Operand) (a b : Value) : zq2 P (eqGuard o t x y a b) := by
 unfold eqGuard
 repeat' (first | with_reducible exact Stdy.out | with_reducible refine zq8 ?_ | with_reducible refine zq9 ?_ (fun _ => ?_) | with_reducible refine zq5 ?_ (fun _ => ?_) | exact fun _ _ => rfl | split | simp only [])
instance (o : BinOp) (t : TypeId) (x y : Operand) (a b : Value) : Stdy P (eqGuard o t x y a b) := ⟨steady_eqGuard o t x y a b⟩
theorem steady_binOp (o : BinOp) (t : TypeId) (x y : Value) : zq2 P (binOp o t x y) := by
 unfold binOp
 repeat' (first | with_reducible exact Stdy.out | with_reducible refine zq8 ?_ | with_reducible refine zq9 ?_ (fun _ => ?_) | with_reducible refine zq5 ?_ (fun _ => ?_) | exact fun _ _ => rfl | split | simp only [])
instance (o : BinOp) (t : TypeId) (x y : Value) : Stdy P (binOp o t x y) := ⟨steady_binOp o t x y⟩
theorem steady_unary (o : UnOp) (x : Value) : zq2 P (Op.unary o x) := by
 unfold Op.unary
 repeat' (first | with_reducible exact Stdy.out | with_reducible refine zq8 ?_ | with_reducible refine zq9 ?_ (fun _ => ?_) | with_reducible refine zq5 ?_ (fun _ => ?_) | exact fun _ _ => rfl | split | simp only [])
instance (o : UnOp) (x : Value) : Stdy P (Op.unary o x) := ⟨steady_unary o x⟩
theorem steady_lenOf (x : Value) : zq2 P (Builtin.lenOf x) := by
 unfold Builtin.lenOf
 repeat' (first | with_reducible exact Stdy.out | with_reducible refine zq8 ?_ | with_reducible refine zq9 ?_ (fun _ => ?_) | with_reducible refine zq5 ?_ (fun _ => ?_) | exact fun _ _ => rfl | split | simp only [])
instance (x : Value) : Stdy P (Builtin.lenOf x) := ⟨steady_lenOf x⟩
theorem steady_firstCells (s n : Nat) (x : Value) : zq2 P (Builtin.firstCells s n x) := by
 unfold Builtin.firstCells
 repeat' (first | with_reducible exact Stdy.out | with_reducible refine zq8 ?_ | with_reducible refine zq9 ?_ (fun _ => ?_) | with_reducible refine zq5 ?_ (fun _ => ?_) | exact fun _ _ => rfl | split | simp only [])
instance (s n : Nat) (x : Value) : Stdy P (Builtin.firstCells s n x) := ⟨steady_firstCells s n x⟩
theorem steady_under {t : TypeId} {f : TypeDesc → Sem α} (h : ∀ d, P.underlying t = some d → zq2 P (f d)) : zq2 P (do let d ← underlying t; f d) := by
 intro X w wc es hc hfit
 have e : ∀ w, (do let d ← underlying t; f d : Sem α).runT P w es = (match P.underlying t with | some d => (f d).runT P w es | none => (.halt (.stuck "no such type") w, es)) := by
  intro w
  rw [runT_bind]
  have : (underlying t).runT P w es = (match P.underlying t with | some d => (.ok d w, es) | none => (.halt (.stuck "no such type") w, es)) := by
   unfold underlying
   show ((match P.underlying t with | some d => pure d | none => stuck "no such type" : Sem TypeDesc)).runT P w es = _
   cases P.underlying t <;> rfl
  rw [this]
  cases P.underlying t <;> rfl
 rw [e] at hfit
 rw [e, e]
 cases hd : P.underlying t with
 | none => rw [hd] at hfit; exact hfit.elim
 | some d => rw [hd] at hfit; exact h d hd X w wc es hc hfit
def NoPanic {α : Type} (P : Program) (s : Sem α) : Prop := ∀ w es v w', (s.runT P w es).1 ≠ .halt (.panic v) w'
theorem steady_dead {s : Sem α} {f : α → Sem β} (hs : NoPanic P s) (hf : ∀ a w es, ¬ fit ((f a).runT P w es).1) : zq2 P (s >>= f) := by
 intro X w wc es h hfit
 rw [runT_bind] at hfit
 have := hs wc es
 generalize s.runT P wc es = r at this hfit
 obtain ⟨r, es'⟩ := r
 cases r with
 | ok a w' => exact absurd hfit (hf a w' es')
 | halt x w' => cases x <;> first | exact absurd rfl (this _ _) | exact hfit.elim
theorem np_holds (a : Addr) (n : Nat) (w : World) (es : Array Event) : ∃ b, (Builtin.holdsCells a n).runT P w es = (.ok b w, es) := by
 unfold Builtin.holdsCells
 show ∃ b, ((match w.shape? a.block with | some (_, m) => pure (a.spot.isNone && a.off + n ≤ m) | none => pure false : Sem Bool)).runT P w es = _
 cases w.shape? a.block <;> exact ⟨_, rfl⟩
theorem np_mayShare (s n m : Nat) (b : Option Addr) (x : Value) (w : World) (es : Array Event) : ∃ y, (Builtin.mayShare s n m b x).runT P w es = (.ok y w, es) := by
 unfold Builtin.mayShare
 have tail : ∀ t : Bool, ∃ y, ((if (!t) = true then pure true else match x with | .slice (some c) _ _ => (do pure (!(← Builtin.holdsCells c (m * s)) || b.any (·.block == c.block))) | _ => pure false : Sem Bool)).runT P w es = (.ok y w, es) := by
  intro t
  cases t with
  | false => exact ⟨true, rfl⟩
  | true =>
   simp only [Bool.not_true, Bool.false_eq_true, if_false]
   split
   · rename_i c _ _
     obtain ⟨y, hy⟩ := np_holds (P := P) c (m * s) w es
     rw [runT_bind, hy]
     exact ⟨_, rfl⟩
   · exact ⟨_, rfl⟩
 cases b with
 | none => exact tail true
 | some a =>
  obtain ⟨y, hy⟩ := np_holds (P := P) a (n * s) w es
  rw [runT_bind, hy]
  exact tail _
theorem steady_len (l : Array TypeId) (t : TypeId) (a : Array Value) : zq2 P (Builtin.len_ l t a) := by
 unfold Builtin.len_
 repeat' (first | with_reducible exact Stdy.out | with_reducible refine zq8 ?_ | with_reducible refine zq9 ?_ (fun _ => ?_) | with_reducible refine zq5 ?_ (fun _ => ?_) | exact fun _ _ => rfl | split | simp only [])
theorem steady_min2 (x y : Value) : zq2 P (Builtin.min2 x y) := by
 unfold Builtin.min2
 repeat' (first | with_reducible exact Stdy.out | with_reducible refine zq8 ?_ | with_reducible refine zq9 ?_ (fun _ => ?_) | with_reducible refine zq5 ?_ (fun _ => ?_) | exact fun _ _ => rfl | split | simp only [])
theorem steady_max2 (x y : Value) : zq2 P (Builtin.max2 x y) := by
 unfold Builtin.max2
 repeat' (first | with_reducible exact Stdy.out | with_reducible refine zq8 ?_ | with_reducible refine zq9 ?_ (fun _ => ?_) | with_reducible refine zq5 ?_ (fun _ => ?_) | exact fun _ _ => rfl | split | simp only [])
theorem steady_foldlM {γ : Type} (f : Value → γ → Sem Value) (h : ∀ a b, zq2 P (f a b)) (l : List γ) : ∀ (b : Value), zq2 P (l.foldlM f b) := by
 induction l with
 | nil => exact fun b => steady_pure _
 | cons a l ih => intro b; rw [List.foldlM_cons]; exact zq5 (h b a) fun _ => ih _
theorem steady_min (l : Array TypeId) (t : TypeId) (a : Array Value) : zq2 P (Builtin.min_ l t a) := by
 unfold Builtin.min_
 split
 · exact steady_halt _
 · exact steady_foldlM _ (fun _ _ => steady_min2 _ _) _ _
theorem steady_max (l : Array TypeId) (t : TypeId) (a : Array Value) : zq2 P (Builtin.max_ l t a) := by
 unfold Builtin.max_
 split
 · exact steady_halt _
 · exact steady_foldlM _ (fun _ _ => steady_max2 _ _) _ _
theorem steady_followBlind : ∀ (l : List FieldStep) (t : TypeId) (x : Option Value), zq2 P (followBlind l t x)
 | [], _, _ => steady_pure _
 | s :: rest, t, x => by
  have ih := fun t x => steady_followBlind rest t x
  unfold followBlind
  repeat' (first | with_reducible exact Stdy.out | with_reducible refine zq8 ?_ | with_reducible refine zq9 ?_ (fun _ => ?_) | with_reducible refine zq5 ?_ (fun _ => ?_) | exact fun _ _ => rfl | split | simp only [] | with_reducible exact ih _ _)
theorem steady_nilAhead : ∀ (n : Nat) (t : TypeId) (x : Value) (s : String), zq2 P (nilAhead n t x s)
 | 0, _, _, _ => steady_pure _
 | n + 1, t, x, s => by
  have ih := fun t x s => steady_nilAhead n t x s
  unfold nilAhead
  repeat' (first | with_reducible exact Stdy.out | with_reducible refine zq8 ?_ | with_reducible refine zq9 ?_ (fun _ => ?_) | with_reducible refine zq5 ?_ (fun _ => ?_) | exact fun _ _ => rfl | split | simp only [] | with_reducible exact ih _ _ _ | with_reducible exact steady_followBlind _ _ _)
instance (n : Nat) (t : TypeId) (x : Value) (s : String) : Stdy P (nilAhead n t x s) := ⟨steady_nilAhead n t x s⟩
end
end Go.Car
set_option maxHeartbeats 1000000
namespace Go.Car
open Go Go.Conc Go.RowKit
section
variable {α β : Type} {P : Program} {A : FuncId → Bool}
theorem steady_share {γ : Type} {s n m : Nat} {b : Option Addr} {x : Value} {f : Bool → Sem γ} (hf : ∀ a w es, ¬ fit ((f a).runT P w es).1) : zq2 P (Builtin.mayShare s n m b x >>= f) := by
 refine steady_dead (fun w es v w' h => ?_) hf
 obtain ⟨y, hy⟩ := np_mayShare (P := P) s n m b x w es
 rw [hy] at h; cases h
theorem steady_append (l : Array TypeId) (t : TypeId) (a : Array Value) (hx : ∀ x, l[1]? = some x → ∀ k, P.underlying x ≠ some (.int k)) : zq2 P (Builtin.append_ l t a) := by
 unfold Builtin.append_
 split
 · refine zq5 (steady_underlying _) fun d => ?_
   split
   · split
     · refine zq5 (steady_sizeOf _) fun size => ?_
       simp only []
       cases e : l[1]? with
       | none =>
        simp only [Bool.false_eq_true, if_false, Bool.not_false, if_true, false_or, reduceIte, pure_bind]
        repeat' (first | with_reducible exact Stdy.out | with_reducible refine zq8 ?_ | with_reducible refine steady_share ?_ | with_reducible refine zq5 ?_ (fun _ => ?_) | split | simp only [])
        all_goals (intro x w es hfit; cases x <;> exact hfit)
       | some x =>
        refine steady_under fun d hd => ?_
        have hne := hx x e
        cases d <;> first
         | (rename_i k; exact absurd hd (hne k))
         | (clear hd hne e hx
            simp only [Bool.false_eq_true, if_false, Bool.not_false, if_true, false_or, reduceIte, pure_bind]
            repeat' (first | with_reducible exact Stdy.out | with_reducible refine zq8 ?_ | with_reducible refine steady_share ?_ | with_reducible refine zq5 ?_ (fun _ => ?_) | split | simp only [])
            all_goals (intro x w es hfit; cases x <;> exact hfit))
     · exact steady_halt _
   · exact steady_halt _
 · exact steady_halt _
theorem steady_convert {s d : TypeId} {k k' : IntKind} (hs : P.underlying s = some (.int k)) (hd : P.underlying d = some (.int k')) (x : Value) : zq2 P (convert s d x) := by
 refine steady_under fun a ha => ?_
 refine steady_under fun b hb => ?_
 rw [hs] at ha; rw [hd] at hb
 cases ha; cases hb
 split <;> first | exact steady_halt _ | exact steady_pure _ | contradiction | (unfold Conv.floatToInt; simp only []; repeat' (first | with_reducible exact Stdy.out | refine zq5 ?_ (fun _ => ?_) | split))
def RowsS (P : Program) (A : FuncId → Bool) : Prop := ∀ f, A f = true → ∀ fn e, P.funcs[f]? = some fn → fn.body = none → Extern.find fn = some e → ∀ args, zq2 P (e args)
theorem steady_prog {f : Program → Sem α} (h : zq2 P (f P)) : zq2 P (program >>= f) := by
 intro X w wc es hc hfit
 have e : ∀ w, (program >>= f).runT P w es = (f P).runT P w es := fun w => rfl
 rw [e] at hfit
 rw [e, e]
 exact h X w wc es hc hfit
theorem steady_v {s : Sem Value} (h : zq2 P s) : zq2 P (do pure (.value (← s)) : Sem Next) := zq5 h fun _ => steady_pure _
theorem callFunc_steady {f : FuncId} {args : Array Value} (hA : A f = true) (h : okFn P A f) (hR : RowsS P A) : zq2 P (callFunc f args) := by
 cases h with
 | text fn c hf hb hn hc =>
  unfold callFunc
  refine steady_prog ?_
  simp only [hf, hn, hb, Option.isNone_some, Bool.false_eq_true, if_false]
  exact steady_pure _
 | row fn e hf hb hn hx he ht =>
  unfold callFunc
  refine steady_prog ?_
  simp only [hf, hn, hb, hx, he, Option.isNone_none, Bool.false_eq_true, if_false, if_true]
  exact zq5 (steady_mark _) fun _ => steady_v (hR f hA fn e hf hb he args)
theorem execOp_steady (hA : ∀ f, A f = true → okFn P A f) (hR : RowsS P A) (o : Oper) (ho : okOp P A o.op = true) (ρ : Operand → Value) (hρ : ∀ f, ρ (.func f) = .func (.func f) #[] #[]) : zq2 P (execOp ρ o) := by
 obtain ⟨dst, op, type, pos, after, guard⟩ := o
 simp only at ho
 unfold execOp
 cases op <;> simp only [okOp, Bool.false_eq_true] at ho
 case convert s d x =>
  have : ∃ k k', P.underlying s = some (.int k) ∧ P.underlying d = some (.int k') := by
   simp only [Bool.and_eq_true] at ho
   obtain ⟨h1, h2⟩ := ho
   split at h1
   · split at h2
     · exact ⟨_, _, ‹_›, ‹_›⟩
     · cases h2
   · cases h1
  obtain ⟨k, k', hs, hd⟩ := this
  exact steady_v (steady_convert hs hd _)
 case call c =>
  obtain ⟨callee, args, argTypes⟩ := c
  simp only at ho
  cases callee with
  | invoke r m => simp at ho
  | value f =>
   cases f with
   | func f =>
    have hAf : A f = true := by simpa using ho
    simp only [resolve, hρ f]
    exact callFunc_steady hAf (hA f hAf) hR
   | _ => simp at ho
  | builtin b =>
   cases b <;> simp at ho
   case append =>
    have hx : ∀ x, argTypes[1]? = some x → ∀ k, P.underlying x ≠ some (.int k) := by
     intro x hx k hk
     rw [hx] at ho
     simp only [hk] at ho
     cases ho
    exact steady_v (steady_append _ _ _ hx)
   case len => exact steady_v (steady_len _ _ _)
   case max => exact steady_v (steady_max _ _ _)
   case min => exact steady_v (steady_min _ _ _)
 all_goals (simp only []; repeat' (first | with_reducible exact Stdy.out | with_reducible refine zq5 ?_ (fun _ => ?_) | split | simp only []))
end
section
variable {P : Program} {A : FuncId → Bool}
theorem steady_results (fn : Func) (tmps : Array Value) : zq2 P (results fn tmps) := by
 unfold results
 refine zq5 (steady_mapMA _ (fun x => ?_) _) fun _ => steady_pure _
 cases x with
 | tmp t => exact steady_pure _
 | cell a t => exact zq5 (steady_asAddr _) fun _ => steady_loadVar _ _
theorem apart_seen {X : Snap} {fn : FuncId} {es : Array Event} (h : ∀ e ∈ es, e ∈ (#[] : Array Event) ∨ apart X e) : ∀ e ∈ seen P fn es, apart X e := fun e he => (h e (mem_seen he)).resolve_left (by simp)
theorem cut_apply (hP : Plain P A) {main : Bool} {fr : Frame} {cs : List Frame} {s : Sem Next} {X : Snap} {w wc wc' : World} {fr' : Frame} {cs' : List Frame} {es : Array Event} (hk : fr.kind ≠ .early) (hcall : ∀ d b r v k, fr.todo ≠ .call d b r v :: k) (hext : ∀ r v k, fr.todo ≠ .extern r v :: k)
 (hst : zq2 P s) (hl : leaf P (okNext P A) s) (ht : tame P true s) (h : Cut X w wc) (hs : stepG.apply P true fr cs none s wc = .go (G fr' cs') wc' es) :
 ∃ w', Cut X w' wc' ∧ stepG.apply P true fr cs none s w = .go (G fr' cs') w' es ∧ (∀ e ∈ es, apart X e) ∧ Chans w w' := by
 have h1 := hst X w wc #[] h
 have hg := leaf_runT s ht hl wc #[]
 have hke : (fr.kind == CallKind.early) = false := by simpa using hk
 unfold stepG.apply at hs ⊢
 simp only [if_true, hke, Bool.false_eq_true, if_false] at hs ⊢
 generalize hr : s.runT P wc #[] = r at h1 hg hs
 obtain ⟨r, es'⟩ := r
 simp only at h1 hg hs
 cases r with
 | ok nx w1 =>
  obtain ⟨w', c1, e1, v1⟩ := h1 trivial
  rw [e1]
  have hnx : okNext P A nx := hg
  simp only [resW, setW] at c1 ⊢
  cases nx with
  | value v =>
   simp only [GStep.after, GStep.go.injEq, Array.append_empty] at hs ⊢
   obtain ⟨a1, rfl, rfl⟩ := hs
   exact ⟨w', c1, ⟨a1, rfl, rfl⟩, apart_seen v1, by have := runT_chans s ht w #[]; rw [e1] at this; exact this⟩
  | skip =>
   simp only [GStep.after, GStep.go.injEq, Array.append_empty] at hs ⊢
   obtain ⟨a1, rfl, rfl⟩ := hs
   exact ⟨w', c1, ⟨a1, rfl, rfl⟩, apart_seen v1, by have := runT_chans s ht w #[]; rw [e1] at this; exact this⟩
  | enter f args =>
   simp only [GStep.after, GStep.go.injEq, Array.append_empty] at hs ⊢
   obtain ⟨a1, rfl, rfl⟩ := hs
   exact ⟨w', c1, ⟨a1, rfl, rfl⟩, apart_seen v1, by have := runT_chans s ht w #[]; rw [e1] at this; exact this⟩
  | _ => exact hnx.elim
 | halt x w1 =>
  rcases hg with hg | ⟨b, rfl⟩
  · cases x with
    | panic v =>
     obtain ⟨w', c1, e1, v1⟩ := h1 trivial
     rw [e1]
     simp only [resW, setW, GStep.after, GStep.go.injEq, Array.append_empty] at hs c1 ⊢
     obtain ⟨a1, rfl, rfl⟩ := hs
     exact ⟨w', c1, ⟨a1, rfl, rfl⟩, apart_seen v1, by have := runT_chans s ht w #[]; rw [e1] at this; exact this⟩
    | stuck s => simp only [GStep.after] at hs; cases hs
    | unsupported u => cases u <;> first | (simp only [GStep.after] at hs; cases hs) | exact hg.elim
    | _ => exact hg.elim
  · obtain ⟨o, w'', es'', he⟩ := early_ended hP fr cs none b w1
    simp only [he, GStep.after] at hs
    cases hs
theorem cut_ctl {main : Bool} {fr : Frame} {cs : List Frame} {X : Snap} {w wc wc' : World} {fr' : Frame} {cs' : List Frame} {es : Array Event} (h : Cut X w wc)
 (hc : (∃ g : Goroutine, ∀ w, stepG P main (G fr cs) w = .go g w) ∨ ∀ w, ∃ o w' es, stepG P main (G fr cs) w = .ended o w' es) (hs : stepG P main (G fr cs) wc = .go (G fr' cs') wc' es) :
 ∃ w', Cut X w' wc' ∧ stepG P main (G fr cs) w = .go (G fr' cs') w' es ∧ (∀ e ∈ es, apart X e) ∧ Chans w w' := by
 rcases hc with ⟨g, hc⟩ | hc
 · rw [hc] at hs
   cases hs
   exact ⟨w, h, hc w, by simp, Chans.refl w⟩
 · obtain ⟨o, w', es', he⟩ := hc wc
   rw [he] at hs; cases hs
theorem step_cut (hP : Plain P A) (hR : RowsS P A) {main : Bool} {fr : Frame} {cs : List Frame} {X : Snap} {w wc wc' : World} {fr' : Frame} {cs' : List Frame} {es : Array Event} (ht : Top P A fr) (h : Cut X w wc)
 (hs : stepG P main (G fr cs) wc = .go (G fr' cs') wc' es) : ∃ w', Cut X w' wc' ∧ stepG P main (G fr cs) w = .go (G fr' cs') w' es ∧ (∀ e ∈ es, apart X e) ∧ Chans w w' := by
 obtain ⟨fn, tmps, todo, defers, mode, kind, round⟩ := fr
 have hrd := ht.round
 have hkd := ht.kind
 have hhd := ht.head
 simp only at hrd hkd hhd
 subst hrd
 rcases hhd with ⟨rfl, i, t, rfl, hi⟩ | ⟨rfl, rfl⟩ | ⟨rfl, rfl⟩
 · cases i with
   | code c =>
    have hc : okCode P A c = true := hi
    cases c with
    | skip => exact cut_ctl h (.inl ⟨_, fun w => by simp only [G, stepG, stepG.exec]; rfl⟩) hs
    | exit id =>
     refine cut_ctl h ?_ hs
     cases hx : exitTo id t with
     | some k' => exact .inl ⟨_, fun w => by simp only [G, stepG, stepG.exec, hx, Option.elim]; rfl⟩
     | none => exact .inr fun w => by simp [G, stepG, stepG.exec, hx]
    | ret => exact cut_ctl h (.inl ⟨_, fun w => by simp only [G, stepG, stepG.exec]; rfl⟩) hs
    | refuse why => exact cut_ctl h (.inr fun w => by simp [G, stepG, stepG.exec]) hs
    | region id ops draw =>
     cases draw with
     | false => exact cut_ctl h (.inl ⟨_, fun w => by simp only [G, stepG, stepG.exec, Bool.not_false, if_true]; rfl⟩) hs
     | true =>
      have e : ∀ w : World, stepG P main (G ⟨fn, tmps, .code (.region id ops true) :: t, defers, .run, kind, none⟩ cs) w = .go (G ⟨fn, tmps, .inRegion ops (Region.schedule (P.follows .mixedOrders) ops (w.tape w.drawn (.order fn id))) :: t, defers, .run, kind, none⟩ cs) w.drew #[] := by
       intro w
       have := stepG_region_draw (P := P) (main := main) (b := ⟨fn, tmps, [], [], .run, kind, none⟩) (a := ⟨tmps, defers⟩) (k := t) (cs := cs) (w := w) (id := id) (ops := ops)
       exact this
      rw [e wc] at hs
      rw [e w, ← h.tape, ← h.drawn]
      cases hs
      exact ⟨w.drew, ⟨h.is, h.no, h.size, h.tape, by show wc.drawn + 1 = w.drawn + 1; rw [h.drawn], h.os, h.output⟩, rfl, by simp, ⟨fun _ _ h _ => h, rfl, rfl⟩⟩
    | seq a b => exact cut_ctl h (.inl ⟨_, fun w => by simp only [G, stepG, stepG.exec]; rfl⟩) hs
    | cond c a b =>
     refine cut_ctl h ?_ hs
     cases hb : (⟨fn, tmps, .code (.cond c a b) :: t, defers, .run, kind, none⟩ : Frame).eval c with
     | bool x => exact .inl ⟨_, fun w => by simp only [G, stepG, stepG.exec, hb]; rfl⟩
     | _ => exact .inr fun w => by simp [G, stepG, stepG.exec, hb]
    | block id c => exact cut_ctl h (.inl ⟨_, fun w => by simp only [G, stepG, stepG.exec]; rfl⟩) hs
    | loop c => exact cut_ctl h (.inl ⟨_, fun w => by simp only [G, stepG, stepG.exec]; rfl⟩) hs
    | _ => simp [okCode] at hc
   | inBlock id => exact cut_ctl h (.inl ⟨_, fun w => by simp only [G, stepG, stepG.exec]; rfl⟩) hs
   | inLoop c => exact cut_ctl h (.inl ⟨_, fun w => by simp only [G, stepG, stepG.exec]; rfl⟩) hs
   | inRegion ops l =>
    cases l with
    | nil => exact cut_ctl h (.inl ⟨_, fun w => by simp only [G, stepG, stepG.exec]; rfl⟩) hs
    | cons j r =>
     cases hj : ops[j]? with
     | none =>
      refine cut_ctl h (.inl ⟨G (Frame.finish ⟨fn, tmps, .inRegion ops (j :: r) :: t, defers, .run, kind, none⟩ undef) cs, fun w => ?_⟩) hs
      simp only [G, stepG, stepG.exec, hj, Option.map_none, Option.getD_none, Bool.false_eq_true, if_false]
     | some o =>
      cases hw : Region.wanted o (yielded ops tmps) with
      | false =>
       refine cut_ctl h (.inl ⟨G (Frame.finish ⟨fn, tmps, .inRegion ops (j :: r) :: t, defers, .run, kind, none⟩ undef) cs, fun w => ?_⟩) hs
       simp only [G, stepG, stepG.exec, hj, Option.map_some, al_od, hw, Bool.false_eq_true, if_false]
      | true =>
       have e : ∀ w, stepG P main (G ⟨fn, tmps, .inRegion ops (j :: r) :: t, defers, .run, kind, none⟩ cs) w = stepG.apply P true ⟨fn, tmps, .inRegion ops (j :: r) :: t, defers, .run, kind, none⟩ cs none (execOp (Frame.eval ⟨fn, tmps, .inRegion ops (j :: r) :: t, defers, .run, kind, none⟩) o) w := by
        intro w
        have := stepG_oper (P := P) (main := main) (b := ⟨fn, tmps, [], [], .run, kind, none⟩) (a := ⟨tmps, defers⟩) (k := t) (cs := cs) (w := w) (ops := ops) (i := j) (rest := r) hj hw
        exact this
       rw [e wc] at hs
       rw [e w]
       have hop : okOp P A o.op = true := by
        have hall : ops.all (fun o => okOp P A o.op) = true := hi
        rw [Array.all_eq_true] at hall
        obtain ⟨hlt, he⟩ := Array.getElem?_eq_some_iff.1 hj
        have := hall j hlt
        rw [he] at this
        exact this
       obtain ⟨k1, k2⟩ := execOp_ok hP.fns o hop (Frame.eval ⟨fn, tmps, .inRegion ops (j :: r) :: t, defers, .run, kind, none⟩) (fun f => rfl)
       exact cut_apply (main := main) hP (fr := ⟨fn, tmps, .inRegion ops (j :: r) :: t, defers, .run, kind, none⟩) hkd (by intro d b r v k h; cases h) (by intro r v k h; cases h) (execOp_steady hP.fns hR o hop _ (fun f => rfl)) k2 k1 h hs
   | _ => simp [okItem] at hi
 · exact cut_ctl h (.inl ⟨_, fun w => by simp only [G, stepG, stepG.exec]; rfl⟩) hs
 · simp only [G, stepG, unwind] at hs ⊢
   cases hf : P.funcs[fn]? with
   | none =>
    rw [hf] at hs
    obtain ⟨rfl, rfl, h3⟩ := doReturn_go hs
    exact ⟨w, h, h3 w, by simp, Chans.refl w⟩
   | some f =>
    rw [hf] at hs
    simp only [] at hs ⊢
    have h1 := steady_results (P := P) f tmps X w wc #[] h
    generalize (results f tmps).runT P wc #[] = r at h1 hs
    obtain ⟨r, es'⟩ := r
    cases r with
    | halt x w1 => cases x <;> (simp only [GStep.after] at hs; cases hs)
    | ok v w1 =>
     obtain ⟨w', c1, e1, v1⟩ := h1 trivial
     rw [e1]
     simp only [resW, setW] at c1 hs ⊢
     generalize hd : doReturn P main ⟨fn, tmps, todo, [], .returning, kind, none⟩ cs none v w1 = S at hs
     cases S <;> simp only [GStep.after, GStep.go.injEq, reduceCtorEq] at hs
     rename_i g w2 es2
     obtain ⟨rfl, rfl, rfl⟩ := hs
     obtain ⟨rfl, rfl, h3⟩ := doReturn_go hd
     rw [h3 w']
     exact ⟨w', c1, rfl, fun e he => apart_seen v1 e (by simpa using he), by have := runT_chans _ (tame_more _ (tame_results (P := P) f tmps)) w #[]; rw [e1] at this; exact this⟩
end
def Rows (X : Snap) (w : World) : Prop := ∀ b c e, X b = some (c, e) → w.heap[b]? = some (.cells c e)
def cutW (X : Snap) (w : World) : World := { w with heap := Array.ofFn fun i : Fin w.heap.size => match X i with | some (_, e) => Obj.cells #[] e | none => w.heap[i] }
theorem cutW_heap (X : Snap) (w : World) (b : Nat) (hb : b < w.heap.size) : (cutW X w).heap[b]? = some (match X b with | some (_, e) => Obj.cells #[] e | none => w.heap[b]) := by
 simp [cutW, hb]
theorem cut_cutW {X : Snap} {w : World} (h : Rows X w) : Cut X w (cutW X w) := by
 refine ⟨fun b c e hb => ⟨h b c e hb, ?_⟩, fun b hb => ?_, by simp [cutW], rfl, rfl, rfl, rfl⟩
 · have hlt := (Array.getElem?_eq_some_iff.1 (h b c e hb)).1
   rw [cutW_heap X w b hlt, hb]
 · by_cases hlt : b < w.heap.size
   · rw [cutW_heap X w b hlt, hb, Array.getElem?_eq_getElem hlt]
   · rw [Array.getElem?_eq_none (by simp [cutW]; omega), Array.getElem?_eq_none (by omega)]
theorem Cut.rows {X : Snap} {w wc : World} (h : Cut X w wc) : Rows X w := fun b c e hb => (h.is b c e hb).1
theorem Cut.inj {X : Snap} {w w' wc : World} (h : Cut X w wc) (h' : Cut X w' wc) : w = w' := by
 obtain ⟨h1, h2, h3, h4, h5, h6, h7⟩ := h
 obtain ⟨k1, k2, k3, k4, k5, k6, k7⟩ := h'
 have hh : w.heap = w'.heap := by
  apply Array.ext_getElem?
  intro b
  cases hx : X b with
  | none => rw [← h2 b hx, k2 b hx]
  | some x => obtain ⟨c, e⟩ := x; rw [(h1 b c e hx).1, (k1 b c e hx).1]
 cases w; cases w'; simp_all
section
variable {P : Program} {main : Bool} {Kc : Addr → Option Value} {γ : Type} {J : γ → Goroutine → World → Prop} {A : FuncId → Bool} {X : Snap}
def CalmX (P : Program) (main : Bool) (X : Snap) {γ : Type} (J : γ → Goroutine → World → Prop) : Prop :=
 ∀ s fr cs w, Rows X w → (∀ τ d, ∃ fr' cs' w' es, stepG P main (G fr cs) (re w τ d) = .go (G fr' cs') w' es ∧ (∀ e ∈ es, calmEv true e ∧ apart X e) ∧ Chans w w' ∧ Rows X w' ∧ J s (G fr' cs') w') → J s (G fr cs) w
theorem cut_J (hcalm : CalmX P main X J) (hP : Plain P A) (hR : RowsS P A) (w₀ : World) (s : γ) (fr : Frame) (cs' : List Frame) (wc : World) (ht : Top P A fr)
 (h : ∀ τ d, ∃ fr' cs'' wc' es, stepG P main (G fr cs') (re wc τ d) = .go (G fr' cs'') wc' es ∧ (∀ e ∈ es, calmEv true e) ∧ ∀ w', Cut X w' wc' → Chans w₀ w' → J s (G fr' cs'') w') : ∀ w', Cut X w' wc → Chans w₀ w' → J s (G fr cs') w' := by
 intro w' hc hch
 refine hcalm s fr cs' w' hc.rows fun τ d => ?_
 obtain ⟨fr', cs'', wc', es, h1, h2, h3⟩ := h τ d
 obtain ⟨w'', c1, e1, a1, ch1⟩ := step_cut hP hR ht (hc.re τ d) h1
 have ch2 : Chans w' w'' := ch1
 exact ⟨fr', cs'', w'', es, e1, fun e he => ⟨h2 e he, a1 e he⟩, ch2, c1.rows, h3 w'' c1 (hch.trans ch2)⟩
theorem wpJ_away (hJ : JS P main Kc J) (hcalm : CalmX P main X J) (hP : Plain P A) (hR : RowsS P A) {c : Code} (hc : okCode P A c = true) (C R : Act → World → Prop)
 (hC : ∀ a w τ d, C a w → C a (re w τ d)) (hRr : ∀ a w τ d, R a w → R a (re w τ d)) {Q : γ → Exit → Act → World → Prop} {s : γ} {a : Act} {w : World} (hX : Rows X w)
 (h : ∀ wc, (∃ τ d, Cut X (re w τ d) wc) → Code.wp P c (ends C R) ⟨a.tmps, []⟩ wc)
 (hq : ∀ t wc w', C ⟨t, []⟩ wc → Cut X w' wc → Chans w w' → Q s .normal ⟨t, a.defers⟩ w') (hr : ∀ t wc w', R ⟨t, []⟩ wc → Cut X w' wc → Chans w w' → Q s .ret ⟨t, a.defers⟩ w') : wpJ J c Q s a w := by
 intro b k cs hb hk
 let b₀ : Frame := { (default : Frame) with fn := b.fn, kind := .normal }
 let Φ : Frame → World → Prop := fun fr w => (∃ t, fr = b₀.at ⟨t, []⟩ wall ∧ C ⟨t, []⟩ w) ∨ (fr.mode = .returning ∧ fr.fn = b.fn ∧ R ⟨fr.tmps, []⟩ w)
 have hsfx : b.at a (.code c :: k) = sfx k a.defers b.kind (Fr b.fn a.tmps [.code c]) := rfl
 have hwall : sfx wall [] .normal (Fr b.fn a.tmps [.code c]) = b₀.at ⟨a.tmps, []⟩ (.code c :: wall) := rfl
 rw [hsfx]
 refine chunk (J := fun g wc => ∀ w', Cut X w' wc → Chans w w' → J s g w') hP hb (fun fr cs' wc ht h => cut_J hcalm hP hR w s fr cs' wc ht h) (fine_fr (fun i hi => by rw [List.mem_singleton.1 hi]; exact hc)) (Φ := Φ) ?_ ?_ ?_ ?_ (w := cutW X w) w (cut_cutW hX) (Chans.refl w)
 · rintro fr w τ d (⟨t, h1, h2⟩ | ⟨h1, h2, h3⟩)
   · exact .inl ⟨t, h1, hC _ _ _ _ h2⟩
   · exact .inr ⟨h1, h2, hRr _ _ _ _ h3⟩
 · rintro fr w (⟨t, h1, h2⟩ | ⟨h1, h2, h3⟩) ch hm
   · rw [h1] at hm; cases hm
   · rw [h1] at hm; cases hm
 · intro τ d
   rw [hwall]
   obtain ⟨e, a', w', hC', harr⟩ := h (re (cutW X w) τ d) ⟨τ, d, (cut_cutW hX).re τ d⟩ b₀ wall [trap]
   cases e with
   | normal =>
    obtain ⟨t, dd⟩ := a'
    obtain ⟨hd, hC'⟩ := hC'
    simp only at hd
    subst hd
    obtain ⟨n, hn⟩ := harr
    exact ⟨n, _, _, hn, .inl ⟨t, rfl, hC'⟩⟩
   | ret =>
    obtain ⟨t, dd⟩ := a'
    obtain ⟨hd, hC'⟩ := hC'
    simp only at hd
    subst hd
    obtain ⟨todo, n, hn⟩ := harr
    exact ⟨n, _, _, hn, .inr ⟨rfl, rfl, hC'⟩⟩
   | _ => exact hC'.elim
 · rintro fr wc (⟨t, h1, h2⟩ | ⟨h1, h2, h3⟩) w' hcut hch
   · have e1 : fr.fn = b.fn := by have := congrArg Frame.fn h1; exact this
     have e2 : fr.tmps = t := by have := congrArg Frame.tmps h1; exact this
     have e3 : fr.todo ++ wall = wall := by have := congrArg Frame.todo h1; exact this
     have e4 : fr.mode = .run := by have := congrArg Frame.mode h1; exact this
     have e5 : fr.todo = [] := by
      have := congrArg List.length e3
      simp at this
      exact this
     have : sfx k a.defers b.kind fr = b.at ⟨t, a.defers⟩ k := by
      simp only [sfx, Frame.at, e1, e2, e4, e5, List.nil_append]
     rw [this]
     exact hk s .normal _ _ (hq _ _ _ h2 hcut hch)
   · have h1' : fr.mode = .returning := h1
     have h2' : fr.fn = b.fn := h2
     have : sfx k a.defers b.kind fr = { b.at ⟨fr.tmps, a.defers⟩ (fr.todo ++ k) with mode := .returning } := by
      simp only [sfx, Frame.at, h1', h2']
     rw [this]
     exact hk s .ret _ _ (hr _ _ _ h3 hcut hch) _
theorem callsJ_cut (hJ : JS P main Kc J) (hcalm : CalmX P main X J) (hP : Plain P A) (hRS : RowsS P A) {f : FuncId} {fn : Func} {c : Code} {args : Array Value} {s : γ} {w : World} (hf : P.funcs[f]? = some fn) (hb : fn.body = some c) (hc : okCode P A c = true)
 {R : Value → World → Prop} (hR : ∀ v w τ d, R v w → R v (re w τ d)) (hX : Rows X w) (h : ∀ wc, (∃ τ d, Cut X (re w τ d) wc) → Calls P f args wc (onlyRet R))
 {Post : γ → Ending → World → Prop} (hpost : ∀ v wc w', R v wc → Cut X w' wc → Chans w w' → Post s (.returned v) w') : CallsJ P J f args Post s w := by
 intro cl cs h1 h2
 let Φ : Frame → World → Prop := fun fr w => fr.mode = .returning ∧ fr.defers = [] ∧ fr.kind = .normal ∧ fr.fn = f ∧ ∃ v, (results fn fr.tmps).run P w = .ok v w ∧ R v w
 refine lift hP (J := fun g wc => ∀ w', Cut X w' wc → Chans w w' → J s g w') (main := main) (cs := cl :: cs) (fun fr cs' wc ht h => cut_J hcalm hP hRS w s fr cs' wc ht h) (fine_enter args hf hb hc) (Φ := Φ) ?_ (fun fr w h => h.1) ?_ ?_ (w := cutW X w) w (cut_cutW hX) (Chans.refl w)
 · rintro fr w τ d ⟨a, b, c, e, v, hv, hr⟩
   exact ⟨a, b, c, e, v, results_re hv τ d, hR _ _ _ _ hr⟩
 · intro τ d
   obtain ⟨e, w', fr, hRe, hcm, hfn, hl⟩ := h (re (cutW X w) τ d) ⟨τ, d, (cut_cutW hX).re τ d⟩ [trap]
   cases e with
   | returned v =>
    obtain ⟨n, hn⟩ := hcm
    obtain ⟨hm, hd, hk, fn', hf', hr⟩ := hl
    rw [hfn, hf] at hf'
    obtain rfl := Option.some.inj hf'
    exact ⟨n, fr, w', hn, hm, hd, hk, hfn, v, hr, hRe⟩
   | _ => exact hRe.elim
 · rintro fr wc ⟨hm, hd, hk, hfn, v, hv, hr⟩ w' hcut hch
   have hj := h1 s v w' (hpost v wc w' hr hcut hch)
   have hv' : (results fn fr.tmps).run P w' = .ok v w' := by
    have := steady_results (P := P) fn fr.tmps X w' wc #[] hcut
    rw [Sem.runT_eq, hv] at this
    obtain ⟨w'', c1, e1, _⟩ := this trivial
    obtain rfl := c1.inj hcut
    have := (Prod.mk.inj e1).1
    rw [Sem.runT_eq] at this
    exact this
   refine hJ.step _ _ _ rfl fun τ d => ?_
   have hev : ∀ e ∈ ((results fn fr.tmps).runT P (re w' τ d) #[]).2, EvOk Kc e := fun e he => evOk_calm ((runT_calm _ (tame_results fn fr.tmps) _ #[] e he).resolve_left (by simp))
   refine ⟨G (cl.finish v) cs, re w' τ d, seen P fr.fn ((results fn fr.tmps).runT P (re w' τ d) #[]).2, ?_, OkD.refl _ _ _, fun e he => hev e (mem_seen he), hJ.re' _ _ _ _ _ hj⟩
   have h1 : ((results fn fr.tmps).runT P (re w' τ d) #[]).1 = .ok v (re w' τ d) := by rw [Sem.runT_eq]; exact results_re hv' τ d
   rw [← hfn] at hf
   simp only [G, stepG, unwind, hm, hd, hf]
   generalize (results fn fr.tmps).runT P (re w' τ d) #[] = r at h1
   obtain ⟨r, es⟩ := r
   simp only at h1
   subst h1
   simp only [doReturn, hk, GStep.after, Array.append_empty]
theorem holdR_calmX {Fin : Machine → Trace → Prop} (hFin : Back P Fin) {Kc : Addr → Option Value} {Inb : Nat → Option Seat} {h n : Nat} (hK : ∀ a v, Kc a = some v → ∃ c e, X a.block = some (c, e)) : CalmX P (h == 0) X (fun (_ : Unit) => HoldR P Fin Kc Inb h n) :=
 fun _ fr cs w hX hs => holdR_step hFin rfl fun τ d => by
  obtain ⟨fr', cs', w', es, h1, h2, h3, h4, h5⟩ := hs τ d
  refine ⟨_, w', es, h1, ⟨⟨fun hk a v e => ?_, h3.2.1, h3.2.2⟩, fun c _ ⟨cap, k, hx⟩ => ?_⟩, fun e he => ?_, h5⟩
  · obtain ⟨c, t, hx⟩ := hK a v e
    obtain ⟨k1, k2⟩ := hk a v e
    have hsame : w'.heap[a.block]? = (re w τ d).heap[a.block]? := (h4 _ _ _ hx).trans (hX _ _ _ hx).symm
    exact ⟨by rw [← k1]; simp only [World.cell?, hsame], by rw [← k2]; simp only [World.frozen?, hsame]⟩
  · exact (h3.1 c _ hx (by simp)).trans hx.symm
  · obtain ⟨he1, he2⟩ := h2 e he
    refine ⟨fun x hx hst => ?_, calm_marks he1⟩
    obtain ⟨a, v, hl, hv⟩ := hst
    obtain ⟨c, t, hxx⟩ := hK a v hv
    rw [(touch_write he1.1 hx).2] at hl
    rw [he2 a hl] at hxx
    cases hxx
end
inductive Out (M : Type) where
 | yield (m : M)
 | done (m : M)
 | broke (m : M)
def Out.mem {M : Type} : Out M → M
 | .yield m => m
 | .done m => m
 | .broke m => m
structure Thr (M : Type) where
 foot : M → Nat → Prop
 Rep : M → World → Prop
 Start : Nat → M → Out M → Prop
 Go : Nat → M → Out M → Prop
 Kill : Nat → M → M → Prop
 Same : Nat → M → M → Prop
 left : M → Nat
 frame : ∀ m w w', Rep m w → (∀ b, foot m b → w'.heap[b]? = w.heap[b]?) → Rep m w'
 lt : ∀ m w b, Rep m w → foot m b → b < w.heap.size
 refl : ∀ i m, Same i m m
 trans : ∀ i m m' m'', Same i m m' → Same i m' m'' → Same i m m''
 start_same : ∀ i j m o, i ≠ j → Start j m o → Same i m o.mem
 go_same : ∀ i j m o, i ≠ j → Go j m o → Same i m o.mem
 kill_same : ∀ i j m m', i ≠ j → Kill j m m' → Same i m m'
structure Grow {M : Type} (T : Thr M) (m : M) (w : World) (m' : M) (w' : World) : Prop where
 size : w.heap.size ≤ w'.heap.size
 old : ∀ b, b < w.heap.size → ¬ T.foot m b → w'.heap[b]? = w.heap[b]?
 grow : ∀ b, T.foot m' b → T.foot m b ∨ w.heap.size ≤ b
structure Env (P : Program) {M : Type} (T : Thr M) (Kc : Addr → Option Value) (X : Snap) (J : Goroutine → World → Prop) (m : M) (w : World) : Prop where
 js : JX P Kc J
 calm : CalmX P false X (fun (_ : Unit) => J)
 rows : Rows X w
 kept : ∀ a v, Kc a = some v → ∃ c e, X a.block = some (c, e)
 free : ∀ b x, X b = some x → ¬ T.foot m b
section
variable {M : Type}
theorem Grow.refl (T : Thr M) (m : M) (w : World) : Grow T m w m w := ⟨Nat.le_refl _, fun _ _ _ => rfl, fun _ h => .inl h⟩
theorem Grow.trans {T : Thr M} {m m' m'' : M} {w w' w'' : World} (h : Grow T m w m' w') (k : Grow T m' w' m'' w'') : Grow T m w m'' w'' :=
 ⟨Nat.le_trans h.size k.size, fun b hb hf => (k.old b (Nat.lt_of_lt_of_le hb h.size) fun hf' => (h.grow b hf').elim hf (fun x => absurd hb (Nat.not_lt_of_le x))).trans (h.old b hb hf),
  fun b hb => (k.grow b hb).elim (h.grow b) (fun x => .inr (Nat.le_trans h.size x))⟩
theorem Env.grow {P : Program} {T : Thr M} {Kc : Addr → Option Value} {X : Snap} {J : Goroutine → World → Prop} {m m' : M} {w w' : World} (h : Env P T Kc X J m w) (hf : Grow T m w m' w') : Env P T Kc X J m' w' := by
 have lt : ∀ b x, X b = some x → b < w.heap.size := fun b x hx => by obtain ⟨c, e⟩ := x; exact (Array.getElem?_eq_some_iff.1 (h.rows b c e hx)).1
 refine ⟨h.js, h.calm, fun b c e hb => ?_, h.kept, fun b x hb hf' => ?_⟩
 · rw [hf.old b (lt b _ hb) (h.free b _ hb)]; exact h.rows b c e hb
 · exact (hf.grow b hf').elim (h.free b x hb) (fun y => absurd (lt b x hb) (Nat.not_lt_of_le y))
theorem Env.none {P : Program} {T : Thr M} {Kc : Addr → Option Value} {X : Snap} {J : Goroutine → World → Prop} {m : M} {w : World} (h : Env P T Kc X J m w) {a : Addr} (ha : T.foot m a.block) : Kc a = none := by
 cases hk : Kc a with
 | none => rfl
 | some v => obtain ⟨c, e, hx⟩ := h.kept a v hk; exact absurd ha (h.free _ _ hx)
structure Conts (P : Program) (T : Thr M) (fStep : FuncId) (sx : Value) (cr : Frame) (rest : List Frame) (NE : List PanicEntry → Prop) (S : Frame → List Frame → M → Prop) (R : M → Out M → Prop) (l : Nat) (J : Goroutine → World → Prop) (m : M) (w : World) : Prop where
 yield : ∀ m' c cs w', R m (.yield m') → Grow T m w m' w' → T.Rep m' w' → l ≤ T.left m' → S c cs m' → J (G (Frame.enter P fStep #[sx] .normal) (c :: cs)) w'
 done : ∀ m' v w', R m (.done m') → Grow T m w m' w' → T.Rep m' w' → l ≤ T.left m' → J (G (cr.finish v) rest) w'
 broke : ∀ m' ch w', R m (.broke m') → NE ch → Grow T m w m' w' → T.Rep m' w' → l ≤ T.left m' → J (G (cr.raise ch) rest) w'
def Susp (P : Program) (T : Thr M) (fStep : FuncId) (sx : Value) (cr : Frame) (rest : List Frame) (NE EN : List PanicEntry → Prop) (i : Nat) : Nat → Frame → List Frame → M → Prop
 | 0, _, _, _ => True
 | k + 1, c, cs, m₀ => ∀ (Kc : Addr → Option Value) (X : Snap) (J : Goroutine → World → Prop) (m : M) (w : World), Env P T Kc X J m w → T.Same i m₀ m → T.Rep m w → 0 < T.left m →
  (Conts P T fStep sx cr rest NE (Susp P T fStep sx cr rest NE EN i k) (T.Go i) (T.left m - 1) J m w → J (G (c.finish (.tuple #[])) cs) w) ∧
  ∀ ch, EN ch → (∀ m' ch' w', EN ch' → T.Kill i m m' → Grow T m w m' w' → T.Rep m' w' → T.left m - 1 ≤ T.left m' → J (G (cr.raise ch') rest) w') → J (G (c.raise ch) cs) w
def Runs (P : Program) (T : Thr M) (fStep : FuncId) (ti : TypeId) (NE : List PanicEntry → Prop) (m₀ : M) (i : Nat) (tv : Value) : Prop :=
 (tv = .nilFunc ∧ ∀ m, T.Start i m (.done m)) ∨
 ∃ f first caps fn c, tv = .func (.func f) first caps ∧ P.funcs[f]? = some fn ∧ fn.body = some c ∧ (fn.name == "runtime.NumGoroutine") = false ∧
  ∀ (cr : Frame) (rest : List Frame) (st : Nat) (EN : List PanicEntry → Prop) (k : Nat) (Kc : Addr → Option Value) (X : Snap) (J : Goroutine → World → Prop) (m : M) (w : World), Env P T Kc X J m w → T.Rep m w → T.Same i m₀ m →
   Conts P T fStep (.pointer (some ⟨st, 0, none⟩)) cr rest NE (Susp P T fStep (.pointer (some ⟨st, 0, none⟩)) cr rest NE EN i k) (T.Start i) (T.left m) J m w →
   J (G (Frame.enter P f (first ++ #[.iface ti (.pointer (some ⟨st, 0, none⟩))] ++ caps) .normal) (cr :: rest)) w
theorem Susp.same {P : Program} {T : Thr M} {fStep : FuncId} {sx : Value} {cr : Frame} {rest : List Frame} {NE EN : List PanicEntry → Prop} {i k : Nat} {c : Frame} {cs : List Frame} {m m' : M} (h : Susp P T fStep sx cr rest NE EN i k c cs m) (hs : T.Same i m m') : Susp P T fStep sx cr rest NE EN i k c cs m' := by
 cases k with
 | zero => trivial
 | succ k => exact fun Kc X J m₁ w hJ hs' => h Kc X J m₁ w hJ (T.trans _ _ _ _ hs hs')
end
section
variable {P : Program} {main : Bool} {Kc : Addr → Option Value} {γ : Type} {J : γ → Goroutine → World → Prop}
theorem at_append {b : Frame} {k : List Item} {cs : List Frame} (hb : b.kind ≠ .early) (hJ : JS P main Kc J) {ops : Array Oper} {j : Nat} {rest : List Nat} {o : Oper} {sg : γ} {a : Act} {w : World}
 (ho : ops[j]? = some o) (hgd : o.guard = none) (s x : Operand) (t : TypeId) (hop : o.op = .call { callee := .builtin .append, args := #[s, x], argTypes := #[t, t] })
 (base : Nat) (e : TypeId) (i : TypeInfo) (z : Value) (size bytes : Nat) (ht : P.underlying t = some (.slice e)) (hi : P.info? e = some i) (hz : i.zero = some z)
 (hsize : i.size = size) (hby : i.bytes = bytes) (hzs : z.cells.size = size) (hsz : 0 < size)
 (v : Value) (n : Nat) (xs : List Value) (hs : a.eval s = v) (hown : w.ownsRow base e size v n xs)
 (ad : Addr) (m c : Nat) (news : List Value) (hx : a.eval x = .slice (some ad) m c) (hl : news.length = m * size) (hnews : ∀ j u, news[j]? = some u → w.cell? (ad.add j) = some u) (h1 : ∀ u ∈ news, u.oneCell' = true)
 (h63 : n + m ≤ maxLen) (hbytes : (n + m) * bytes ≤ 140737488355328) (hbase : base ≤ w.heap.size)
 (hfree : ∀ g, v.ownBlock = some g → ∀ y : Addr, y.block = g → Kc y = none)
 (h : ∀ v' w', w'.ownsRow base e size v' (n + m) (xs ++ news) → w.heap.size ≤ w'.heap.size → (∀ k, k < w.heap.size → some k ≠ v.ownBlock → w'.heap[k]? = w.heap[k]?) → (v'.ownBlock = v.ownBlock ∨ v'.ownBlock = some w.heap.size) →
  J sg (G (b.at (a.put o.dst v') (.inRegion ops rest :: k)) cs) w') : J sg (G (b.at a (.inRegion ops (j :: rest) :: k)) cs) w := by
 have hw : Region.wanted o (yielded ops a.tmps) = true := by simp [Region.wanted, hgd]
 refine at_cons hb hJ ho hw fun τ d => ?_
 obtain ⟨v', w', hr, h2, h3, h4⟩ := run_append_own_at (P := P) (re w τ d) base t o.type e i z size bytes ht hi hz hsize hby hzs hsz v n xs hown ad m c news hl hnews h1 h63 hbytes hbase
 have hev := events_append_own (P := P) (re w τ d) base t o.type e i z size bytes ht hi hz hsize hby v n xs hown ad m c news hl hnews h1 h63 hbytes
 have hrun : (execOp a.eval o).run P (re w τ d) = .ok (.value v') w' := by
  unfold execOp
  simp only [hop, resolve, invoke, builtin, Sem.run_bind, Sem.run_pure, Result.andThen_ok, List.map_toArray, List.map_cons, List.map_nil, hs, hx, hr]
 have hevs : ∀ e ∈ ((execOp a.eval o).runT P (re w τ d) #[]).2, EvOk Kc e := by
  intro ev he
  rw [Sem.runT_eq] at he
  have he' : ev ∈ (Builtin.append_ #[t, t] o.type #[v, .slice (some ad) m c]).events P (re w τ d) #[] := by
   unfold execOp at he
   simpa [hop, resolve, invoke, builtin, Sem.events_bind, hs, hx, hr] using he
  rcases hev ev he' with ⟨x, h5, h6⟩ | ⟨x, h5, h6⟩ | ⟨mk, h5, h6⟩
  · obtain ⟨loc, wr, sy⟩ := ev
    simp only at h5 h6
    subst h5 h6
    exact evOk_read x sy
  · obtain ⟨loc, wr, sy⟩ := ev
    simp only at h5
    subst h5
    cases wr with
    | false => exact evOk_read x sy
    | true => exact evOk_write x sy (hfree _ h6.symm x rfl)
  · subst h5
    unfold Neutral at h6
    subst h6
    exact evOk_calm ⟨fun m hm => by cases hm; trivial, fun _ => rfl⟩
 refine ⟨hevs, ?_, ?_⟩
 · rw [hrun]
   have hblk : ∀ k, k < w.heap.size → some k ≠ v.ownBlock → w'.heap[k]? = w.heap[k]? := h3.block
   refine ⟨⟨fun hK y u hy => ?_, h3.os, h3.output⟩, fun ch _ ⟨cap, kk, hch⟩ => ?_⟩
   · obtain ⟨a1, a2⟩ := hK y u hy
     have hlt : y.block < w.heap.size := cell_lt a1
     have hne : some y.block ≠ v.ownBlock := fun e => by rw [hfree _ e.symm y rfl] at hy; cases hy
     have := hblk _ hlt hne
     exact ⟨(zqf this).trans a1, (frozen_of_same this).trans a2⟩
   · have hlt : ch < w.heap.size := zq4 hch
     refine hblk ch hlt fun e => ?_
     rcases hown.2 with ⟨hv, _⟩ | ⟨g, cap', cur, hv, _, hg, _⟩
     · rw [hv] at e; cases e
     · rw [hv] at e
       simp only [Value.ownBlock, al_oi] at e
       subst e
       have hch' : w.heap[ch]? = _ := hch
       rw [hg] at hch'; cases hch'
 · rw [hrun]
   exact h v' w' h2 h3.size h3.block h4.2
end
end Go.Car
namespace Go.Car
open Go
section
variable {M : Type}
inductive Turned (R : M → Out M → Prop) (i : Nat) (m : M) (ov brk : Nat → Bool) : M → (Nat → Bool) → (Nat → Bool) → Prop
 | yield (m' : M) (h : R m (.yield m')) : Turned R i m ov brk m' ov brk
 | done (m' : M) (h : R m (.done m')) : Turned R i m ov brk m' (fun j => if j = i then true else ov j) (fun j => if j = i then false else brk j)
 | broke (m' : M) (h : R m (.broke m')) : Turned R i m ov brk m' (fun j => if j = i then true else ov j) (fun j => if j = i then true else brk j)
structure OSt (M : Type) where
 m : M
 ov : Nat → Bool
 brk : Nat → Bool
 ord : List Nat
inductive Begun (T : Thr M) (m₀ : M) : Nat → M → (Nat → Bool) → (Nat → Bool) → Prop
 | zero : Begun T m₀ 0 m₀ (fun _ => false) (fun _ => false)
 | succ {s m ov brk m' ov' brk'} (h : Begun T m₀ s m ov brk) (ht : Turned (T.Start s) s m ov brk m' ov' brk') : Begun T m₀ (s + 1) m' ov' brk'
theorem Begun.same {T : Thr M} {m₀ : M} {s : Nat} {m : M} {ov brk : Nat → Bool} (h : Begun T m₀ s m ov brk) : ∀ i, s ≤ i → T.Same i m₀ m := by
 induction h with
 | zero => exact fun i _ => T.refl i _
 | succ h ht ih =>
  intro i hi
  refine T.trans _ _ _ _ (ih i (by omega)) ?_
  cases ht with
  | yield h => exact T.start_same i _ _ _ (by omega) h
  | done h => exact T.start_same i _ _ _ (by omega) h
  | broke h => exact T.start_same i _ _ _ (by omega) h
inductive Step1 (T : Thr M) (N most : Nat) (x : Int) (a : OSt M) : OSt M → Prop
 | not (h : x < 0 ∨ (N : Int) ≤ x ∨ a.ov x.toNat = true ∨ a.ord.length = most) : Step1 T N most x a a
 | go (i : Nat) (hx : x = i) (hi : i < N) (ho : a.ov i = false) (hm : a.ord.length ≠ most) {m' ov' brk'} (ht : Turned (T.Go i) i a.m a.ov a.brk m' ov' brk') : Step1 T N most x a ⟨m', ov', brk', a.ord ++ [i]⟩
inductive StepsR (T : Thr M) (N most : Nat) : List Int → OSt M → OSt M → Prop
 | nil (a : OSt M) : StepsR T N most [] a a
 | cons {x l a b c} (h : Step1 T N most x a b) (hr : StepsR T N most l b c) : StepsR T N most (x :: l) a c
def leftN (ov : Nat → Bool) : Nat → Nat
 | 0 => 0
 | N + 1 => leftN ov N + if ov N then 0 else 1
def upto (N : Nat) : List Int := (List.range N).map fun (i : Nat) => (i : Int)
inductive Rounds (T : Thr M) (N most : Nat) : OSt M → OSt M → Prop
 | stop (a : OSt M) (h : ¬ (0 < leftN a.ov N ∧ a.ord.length < most)) : Rounds T N most a a
 | more {a b c : OSt M} (h : 0 < leftN a.ov N ∧ a.ord.length < most) (hs : StepsR T N most (upto N) a b) (hr : Rounds T N most b c) : Rounds T N most a c
inductive Ends (T : Thr M) (ov : Nat → Bool) (m₀ : M) : Nat → M → Prop
 | zero : Ends T ov m₀ 0 m₀
 | over {s m} (h : Ends T ov m₀ s m) (ho : ov s = true) : Ends T ov m₀ (s + 1) m
 | kill {s m m'} (h : Ends T ov m₀ s m) (ho : ov s = false) (hk : T.Kill s m m') : Ends T ov m₀ (s + 1) m'
structure Ran (T : Thr M) (N : Nat) (sched : List Int) (most : Nat) (m₀ : M) (b : OSt M) (m' : M) : Prop where
 run : ∃ m₁ ov₁ brk₁ a, Begun T m₀ N m₁ ov₁ brk₁ ∧ StepsR T N most sched ⟨m₁, ov₁, brk₁, []⟩ a ∧ Rounds T N most a b
 ends : Ends T b.ov b.m N m'
theorem leftN_le (ov : Nat → Bool) (N : Nat) : leftN ov N ≤ N := by
 induction N with
 | zero => exact Nat.le_refl _
 | succ N ih => unfold leftN; split <;> omega
theorem leftN_set {ov : Nat → Bool} {i N : Nat} (hi : i < N) (ho : ov i = false) : leftN (fun j => if j = i then true else ov j) N + 1 = leftN ov N := by
 induction N with
 | zero => omega
 | succ N ih =>
  unfold leftN
  by_cases e : N = i
  · subst e
    have : ∀ K, K ≤ N → leftN (fun j => if j = N then true else ov j) K = leftN ov K := by
     intro K
     induction K with
     | zero => intro _; rfl
     | succ K ih => intro hK; have hne : K ≠ N := by omega
                    simp only [leftN, ih (by omega), hne, if_false]
    rw [this N (Nat.le_refl _)]
    simp [ho]
  · have := ih (by omega)
    simp only [e, if_false]
    split <;> omega
theorem leftN_pos {ov : Nat → Bool} {N : Nat} (h : 0 < leftN ov N) : ∃ i, i < N ∧ ov i = false := by
 induction N with
 | zero => exact absurd h (Nat.lt_irrefl _)
 | succ N ih =>
  unfold leftN at h
  cases ho : ov N with
  | false => exact ⟨N, by omega, ho⟩
  | true =>
   rw [ho] at h
   obtain ⟨i, h1, h2⟩ := ih (by simpa using h)
   exact ⟨i, by omega, h2⟩
theorem leftN_congr {ov ov' : Nat → Bool} {N : Nat} (h : ∀ i, i < N → ov i = ov' i) : leftN ov N = leftN ov' N := by
 induction N with
 | zero => rfl
 | succ N ih => unfold leftN; rw [ih (fun i hi => h i (by omega)), h N (by omega)]
theorem Step1.mono {T : Thr M} {N most : Nat} {x : Int} {a b : OSt M} (h : Step1 T N most x a b) : a.ord.length ≤ b.ord.length := by
 cases h <;> simp
theorem StepsR.mono {T : Thr M} {N most : Nat} {l : List Int} {a b : OSt M} (h : StepsR T N most l a b) : a.ord.length ≤ b.ord.length := by
 induction h with
 | nil a => exact Nat.le_refl _
 | cons h _ ih => exact Nat.le_trans h.mono ih
theorem StepsR.progress {T : Thr M} {N most : Nat} {l : List Int} {a b : OSt M} (h : StepsR T N most l a b) {i : Nat} (hi : i < N) (hm : (i : Int) ∈ l) (ho : a.ov i = false) (hl : a.ord.length < most) : a.ord.length < b.ord.length := by
 induction h with
 | nil a => cases hm
 | cons h hr ih =>
  rename_i x l a c b
  cases h with
  | not hn =>
   refine ih ?_ ho hl
   rcases List.mem_cons.1 hm with e | hm
   · exfalso
     subst e
     rcases hn with h | h | h | h
     · omega
     · omega
     · rw [show ((i : Int).toNat) = i by omega, ho] at h; cases h
     · omega
   · exact hm
  | go j hx hj hoj hmj ht =>
   have := hr.mono
   simp at this
   omega
theorem mem_upto {i N : Nat} (h : i < N) : (i : Int) ∈ upto N := List.mem_map.2 ⟨i, List.mem_range.2 h, rfl⟩
theorem upto_get {N j : Nat} (h : j < N) : (upto N)[j]? = some (j : Int) := by simp [upto, h]
theorem upto_len (N : Nat) : (upto N).length = N := by simp [upto]
end
end Go.Car
set_option maxHeartbeats 1000000
set_option maxRecDepth 100000
namespace Go.Proofs
open Go Go.Conc Go.RowKit Go.Car
open Go.ConcN (upd upd_ne upd_same)
structure OA where
 n0 : Nat
 N : Nat
 cap : Nat
 capB : Nat
 bT : Nat
 bS : Nat
 sp : Option Addr
 bB : Nat
 bX : Nat
 back : Nat
 row : Array Value
 st : Nat → Nat
 pass : Nat → Nat
 rb : Nat → Nat
 tv : Nat → Value
def OA.own (A : OA) (b : Nat) : Prop := b = A.bT ∨ (0 < A.N ∧ b = A.bS) ∨ b = A.bB ∨ b = A.bX ∨ b = A.back ∨ ∃ i, i < A.N ∧ (b = A.st i ∨ b = A.pass i)
def OA.box (A : OA) (i b : Nat) : Prop := b = A.rb i ∨ b = A.rb i + 1 ∨ b = A.rb i + 2
structure OA.Ok (A : OA) : Prop where
 n0 : 0 < A.n0
 sp : 0 < A.N → A.sp = some ⟨A.bS, 0, none⟩
 row : ∀ i, i < A.N → A.row[i]? = some (.pointer (some ⟨A.st i, 0, none⟩))
 inj : ∀ i j, i < A.N → j < A.N → A.st i = A.st j → i = j
 pb : ∀ i, i < A.N → A.pass i ≠ A.back
 injp : ∀ i j, i < A.N → j < A.N → A.pass i = A.pass j → i = j
 ne : A.bT ≠ A.bS ∧ A.bT ≠ A.bB ∧ A.bS ≠ A.bB ∧ A.bX ≠ A.bT ∧ A.bX ≠ A.bS ∧ A.bX ≠ A.bB
 st : ∀ i, i < A.N → A.st i ≠ A.bT ∧ A.st i ≠ A.bS ∧ A.st i ≠ A.bB ∧ A.st i ≠ A.bX
structure OverW (A : OA) (ov brk : Nat → Bool) (w : World) : Prop where
 ts : w.heap[A.bT]? = some (.cells #[.chan (some A.back), .slice A.sp A.N A.cap, .slice (some ⟨A.bB, 0, none⟩) A.N A.capB] 95)
 box : w.heap[A.bX]? = some (.cells #[.pointer (some ⟨A.bT, 0, none⟩)] 91)
 sts : 0 < A.N → w.heap[A.bS]? = some (.cells A.row 96)
 brs : ∃ br, w.heap[A.bB]? = some (.cells br 4) ∧ ∀ i, i < A.N → br[i]? = some (.bool (brk i))
 std : ∀ i, i < A.N → w.heap[A.st i]? = some (.cells #[.pointer (some ⟨A.bT, 0, none⟩), .chan (some (A.pass i)), .bool (ov i)] 99)
 bk : ∃ cap k, w.heap[A.back]? = some (.chan cap #[] false k k false)
 ps : ∀ i, i < A.N → ∃ cap k, w.heap[A.pass i]? = some (.chan cap #[] false k k false)
structure Kept (A : OA) (Kc : Addr → Option Value) : Prop where
 t : Kc ⟨A.bT, 0, none⟩ = some (.chan (some A.back))
 x : Kc ⟨A.bX, 0, none⟩ = some (.pointer (some ⟨A.bT, 0, none⟩))
 p : ∀ i, i < A.N → Kc ⟨A.st i, 1, none⟩ = some (.chan (some (A.pass i)))
 only : ∀ a v, Kc a = some v → a = ⟨A.bT, 0, none⟩ ∨ a = ⟨A.bX, 0, none⟩ ∨ ∃ i, i < A.N ∧ a = ⟨A.st i, 1, none⟩
theorem OverW.own_lt {A : OA} {ov brk : Nat → Bool} {w : World} (h : OverW A ov brk w) {b : Nat} (hb : A.own b) : b < w.heap.size := by
 rcases hb with rfl | ⟨hN, rfl⟩ | rfl | rfl | rfl | ⟨i, hi, rfl | rfl⟩
 · exact zq4 h.ts
 · exact zq4 (h.sts hN)
 · obtain ⟨br, h1, _⟩ := h.brs; exact zq4 h1
 · exact zq4 h.box
 · obtain ⟨c, k, h1⟩ := h.bk; exact zq4 h1
 · exact zq4 (h.std i hi)
 · obtain ⟨c, k, h1⟩ := h.ps i hi; exact zq4 h1
theorem OverW.of_same {A : OA} {ov brk : Nat → Bool} {w w' : World} (h : OverW A ov brk w) (hs : ∀ b, A.own b → w'.heap[b]? = w.heap[b]?) : OverW A ov brk w' := by
 have o1 : A.own A.bT := .inl rfl
 have o2 : 0 < A.N → A.own A.bS := fun hN => .inr (.inl ⟨hN, rfl⟩)
 have o3 : A.own A.bB := .inr (.inr (.inl rfl))
 have o4 : A.own A.bX := .inr (.inr (.inr (.inl rfl)))
 have o5 : A.own A.back := .inr (.inr (.inr (.inr (.inl rfl))))
 have o6 : ∀ i, i < A.N → A.own (A.st i) := fun i hi => .inr (.inr (.inr (.inr (.inr ⟨i, hi, .inl rfl⟩))))
 have o7 : ∀ i, i < A.N → A.own (A.pass i) := fun i hi => .inr (.inr (.inr (.inr (.inr ⟨i, hi, .inr rfl⟩))))
 obtain ⟨br, b1, b2⟩ := h.brs
 obtain ⟨c, k, hk⟩ := h.bk
 exact ⟨(hs _ o1).trans h.ts, (hs _ o4).trans h.box, fun hN => (hs _ (o2 hN)).trans (h.sts hN), ⟨br, (hs _ o3).trans b1, b2⟩, fun i hi => (hs _ (o6 i hi)).trans (h.std i hi), ⟨c, k, (hs _ o5).trans hk⟩,
  fun i hi => by obtain ⟨c, k, hk⟩ := h.ps i hi; exact ⟨c, k, (hs _ (o7 i hi)).trans hk⟩⟩
theorem setChan_other {w : World} {c cap k cap₀ k₀ : Nat} (hck : w.heap[c]? = some (.chan cap₀ #[] false k₀ k₀ false)) {b : Nat} {x : Array Value} {e : TypeId} {f : Nat × Nat} (hb : w.heap[b]? = some (.cells x e f)) :
 (w.setChan c cap #[] false (k + 1) (k + 1) false).heap[b]? = some (.cells x e f) := by
 rw [heap_setChan_ne _ _ _ _ _ _ _ _ _ (fun e => by subst e; rw [hck] at hb; cases hb)]
 exact hb
theorem setChan_chan {w : World} {c cap k cap₀ k₀ : Nat} (hck : w.heap[c]? = some (.chan cap₀ #[] false k₀ k₀ false)) {d : Nat} (hd : ∃ cap k, w.heap[d]? = some (.chan cap #[] false k k false)) :
 ∃ cap' k', (w.setChan c cap #[] false (k + 1) (k + 1) false).heap[d]? = some (.chan cap' #[] false k' k' false) := by
 by_cases e : d = c
 · subst e
   refine ⟨cap, k + 1, ?_⟩
   show (w.heap.setIfInBounds d _)[d]? = _
   rw [Array.getElem?_setIfInBounds_self_of_lt (zq4 hck)]
 · obtain ⟨a, b, h⟩ := hd
   exact ⟨a, b, by rw [heap_setChan_ne _ _ _ _ _ _ _ _ _ e]; exact h⟩
theorem OverW.chan {A : OA} {ov brk : Nat → Bool} {w : World} (h : OverW A ov brk w) {c cap k : Nat} (hc : c = A.back ∨ ∃ i, i < A.N ∧ c = A.pass i) : OverW A ov brk (w.setChan c cap #[] false (k + 1) (k + 1) false) := by
 obtain ⟨cap₀, k₀, hck⟩ : ∃ cap k, w.heap[c]? = some (.chan cap #[] false k k false) := by
  rcases hc with rfl | ⟨i, hi, rfl⟩
  · exact h.bk
  · exact h.ps i hi
 obtain ⟨br, b1, b2⟩ := h.brs
 exact ⟨setChan_other hck h.ts, setChan_other hck h.box, fun hN => setChan_other hck (h.sts hN), ⟨br, setChan_other hck b1, b2⟩, fun i hi => setChan_other hck (h.std i hi), setChan_chan hck h.bk, fun i hi => setChan_chan hck (h.ps i hi)⟩
theorem OverW.stepW {A : OA} {ov brk : Nat → Bool} {w : World} (h : OverW A ov brk w) {i : Nat} (hi : i < A.N) : StepW (A.st i) A.bT A.back (A.pass i) w :=
 ⟨(zq0 (h.std i hi)).trans rfl, (zq0 h.ts).trans rfl, (zq0 (h.std i hi)).trans rfl⟩
theorem OverW.tsS {A : OA} (hA : A.Ok) {ov brk : Nat → Bool} {w : World} (h : OverW A ov brk w) (hN : 0 < A.N) : w.heap[A.bT]? = some (.cells #[.chan (some A.back), .slice (some ⟨A.bS, 0, none⟩) A.N A.cap, .slice (some ⟨A.bB, 0, none⟩) A.N A.capB] 95) := by
 rw [← hA.sp hN]; exact h.ts
theorem OverW.tw {A : OA} (hA : A.Ok) {ov brk : Nat → Bool} {w : World} (h : OverW A ov brk w) {i : Nat} (hi : i < A.N) :
 ∃ br, TW A.bT A.bS A.bB A.N A.cap A.capB i (A.st i) A.back (A.pass i) A.row br (ov i) w ∧ ∀ j, j < A.N → br[j]? = some (.bool (brk j)) := by
 obtain ⟨br, b1, b2⟩ := h.brs
 exact ⟨br, ⟨h.tsS hA (by omega), h.sts (by omega), b1, h.std i hi, hi, hA.row i hi, ⟨_, b2 i hi⟩⟩, b2⟩
def NEnd (ch : List PanicEntry) : Prop := ∃ r, ch = [{ v := r, recovered := false }] ∧ ∀ w, (Instr.typeAssert r 20 109 true).run Try.prog w = .ok (.tuple #[.agg #[.nilIface], .bool false]) w
def TEnd (A : OA) (ch : List PanicEntry) : Prop := ch = [{ v := .iface 109 (.agg #[.iface 91 (.pointer (some ⟨A.bT, 0, none⟩))]), recovered := false }]
noncomputable def OA.cr (A : OA) (i : Nat) : Frame := runCall (A.rb i) A.bT A.bS A.N A.cap i (A.st i) (A.tv i) [.inRegion ops4 [9], .code code5]
def OA.sx (A : OA) (i : Nat) : Value := .pointer (some ⟨A.st i, 0, none⟩)
def OA.seat (A : OA) (i : Nat) (c : Frame) (cs : List Frame) : Seat := Seat.one (A.pass i) (.bool false) false (AtStep (A.st i) A.bT A.back (A.pass i) c cs)
section
variable {M : Type}
structure Cf (T : Thr M) (A : OA) (Kc : Addr → Option Value) (E : Nat → Option Obj) (k s : Nat) (ov brk : Nat → Bool) (m : M) (inb : Nat → Option Seat) (w : World) : Prop where
 ow : OverW A ov brk w
 rep : T.Rep m w
 free : ∀ b, A.own b → ¬ T.foot m b
 le : s ≤ A.N
 run : ∀ i, i < s → ov i = false → RunW (A.rb i) A.bT i false w
 above : ∀ i b, i < s → A.own b → b < A.rb i
 boxes : ∀ i j, i < s → j < s → i ≠ j → A.rb i + 3 ≤ A.rb j ∨ A.rb j + 3 ≤ A.rb i
 boxfree : ∀ i b, i < s → A.box i b → ¬ T.foot m b
 boxlt : ∀ i b, i < s → A.box i b → b < w.heap.size
 seat : ∀ i, i < s → ov i = false → ∃ c cs, inb (A.n0 + i) = some (A.seat i c cs) ∧ Susp Try.prog T 74 (A.sx i) (A.cr i) [bot] NEnd (TEnd A) i k c cs m
 gone : ∀ j, j ≠ 0 → (∀ i, i < s → ov i = false → j ≠ A.n0 + i) → inb j = none
 ext : ∀ b o, E b = some o → w.heap[b]? = some o
 extfree : ∀ b o, E b = some o → ¬ A.own b ∧ ¬ T.foot m b ∧ ∀ i, i < s → ¬ A.box i b
 lft : k ≤ T.left m
theorem Kept.lt {A : OA} {Kc : Addr → Option Value} (hK : Kept A Kc) {ov brk : Nat → Bool} {w : World} (h : OverW A ov brk w) : ∀ a v, Kc a = some v → a.block < w.heap.size := by
 intro a v hv
 rcases hK.only a v hv with rfl | rfl | ⟨i, hi, rfl⟩
 · exact zq4 h.ts
 · exact zq4 h.box
 · exact zq4 (h.std i hi)
theorem Kept.own {A : OA} {Kc : Addr → Option Value} (hK : Kept A Kc) : ∀ a v, Kc a = some v → A.own a.block := by
 intro a v hv
 rcases hK.only a v hv with rfl | rfl | ⟨i, hi, rfl⟩
 · exact .inl rfl
 · exact .inr (.inr (.inr (.inl rfl)))
 · exact .inr (.inr (.inr (.inr (.inr ⟨i, hi, .inl rfl⟩))))
theorem Kept.endIn {A : OA} (hA : A.Ok) {Kc : Addr → Option Value} (hK : Kept A Kc) {ov brk : Nat → Bool} {w : World} (h : OverW A ov brk w) {i : Nat} (hi : i < A.N) (habove : ∀ b, A.own b → b < A.rb i) :
 ∃ br, EndIn Kc (A.rb i) A.bT A.bS A.bB A.N A.cap A.capB i (A.st i) A.back (A.pass i) A.row br (ov i) w ∧ ∀ j, j < A.N → br[j]? = some (.bool (brk j)) := by
 obtain ⟨br, h1, h2⟩ := h.tw hA hi
 have hs := hA.st i hi
 refine ⟨br, ⟨hK.lt h, h1, ⟨habove _ (.inl rfl), habove _ (.inr (.inl ⟨by omega, rfl⟩)), habove _ (.inr (.inr (.inl rfl))), habove _ (.inr (.inr (.inr (.inr (.inr ⟨i, hi, .inl rfl⟩)))))⟩,
  ⟨hA.ne.2.1, hA.ne.2.2.1, hs.2.2.1, fun e => hs.1 e.symm, fun e => hs.2.1 e.symm⟩, fun y hy => ?_, ?_⟩, h2⟩
 · cases hky : Kc y with
   | none => rfl
   | some v =>
    exfalso
    rcases hK.only y v hky with rfl | rfl | ⟨j, hj, rfl⟩
    · exact hA.ne.2.1 hy
    · exact hA.ne.2.2.2.2.2 hy
    · exact (hA.st j hj).2.2.1 hy
 · cases hky : Kc ⟨A.st i, 2, none⟩ with
   | none => rfl
   | some v =>
    exfalso
    rcases hK.only _ v hky with h | h | ⟨j, hj, h⟩ <;> (have := congrArg Addr.off h; simp at this)
end
end Go.Proofs
