/- YtnjpcibdaanpeaaSNone6: part 12 of the proof (the texts behind it, in order). -/
import Derived.Test.YtnjpcibdaanpeaaP11
set_option linter.unusedSimpArgs false
set_option linter.unusedVariables false
set_option linter.unusedSectionVars false
set_option linter.unnecessarySimpa false
set_option maxHeartbeats 4000000
set_option maxRecDepth 100000
namespace Go.Proofs
open Go Go.Conc Go.RowKit Go.Car
def doP {S2 : Type} (N : Nat) (op : OpX) : Proc (List Int × S2) Ans :=
 if op.k = 1 then (addP N op.a op.b).bind fun x => Proc.ret ⟨true, x, []⟩
 else if op.k = 2 then (sumP N).bind fun x => Proc.ret ⟨true, x, []⟩
 else if op.k = 3 then (takeP N).bind fun x => Proc.ret ⟨true, x, []⟩
 else if op.k = 4 then (moveP N op.a op.b op.c).bind fun _ => Proc.ret ⟨true, 0, []⟩
 else if op.k = 5 then (evenP N).bind fun x => Proc.ret ⟨x.2, x.1, []⟩
 else Proc.ret Ans.none
section
variable {M2 S2 β : Type} {D : Core M2 S2} {ro : Nat → Option Obj} {i : Nat} {cb : Nat} {z : Option Nat} {N : Nat}
theorem do_spec (Y : YSys Try.prog aM (prodCore (strCore cb z N) D) ro i β) {sv : Value} (hst : StrAtoms Y sv) (who : Int) (op : OpX) :
 SpecR Y 27 #[.pointer (some ⟨cb, 0, none⟩), sv, .int .i64 who, op.val] (doP N op) (AnsV 2) := by
 refine SpecR.of Try.func27 rfl ?_
 intro K s B w hK hA
 simp only [enterAct, Try.ntmps27, List.size_toArray, List.length_cons, List.length_nil, Nat.reduceAdd, Nat.reduceSub, Array.replicate_succ, Array.replicate_zero, List.push_toArray, List.append_toArray, List.nil_append, List.cons_append]
 have HKK := Lib.hid hK
 clear hK
 refine wpY_seq Y.jc (wpY_region Y.jc ?_)
 refine YSys.preX 0 1 1 (fun t B' => ∃ (b7 : Nat) (x4 x5 x6 x8 x9 x10 x11 x12 x13 x14 x15 x16 x17 x18 x19 x20 x21 x22 x23 x24 x25 x26 x27 x28 x29 x30 x31 x32 x33 x34 x35 x36 x37 x38 x39 x40 x41 x42 x43 x44 x45 x46 x47 x48 x49 x50 x51 x52 x53 x54 x55 x56 x57 : Value), t = #[.pointer (some ⟨cb, 0, none⟩), sv, .int .i64 who, op.val, x4, x5, x6, .pointer (some ⟨b7, 0, none⟩), x8, x9, x10, x11, x12, x13, x14, x15, x16, x17, x18, x19, x20, x21, x22, x23, x24, x25, x26, x27, x28, x29, x30, x31, x32, x33, x34, x35, x36, x37, x38, x39, x40, x41, x42, x43, x44, x45, x46, x47, x48, x49, x50, x51, x52, x53, x54, x55, x56, x57] ∧ B b7 = none ∧ B' = upB B b7 (.cells op.cells.toArray 46)) hA rfl rfl rfl rfl ?_ ?_
 · intro wc hB X0 hX0
   have HX0 := Lib.hid hX0
   clear hX0
   have hm := OMoved.push (o := .cells op.cells.toArray 46) hB.own (Ext1.alloc wc (.cells op.cells.toArray 46)) (Nat.le_refl _) (by rw [zq9]; simp)
   have hf := hB.own.fresh (Nat.le_refl _)
   have HM := Lib.hid (And.intro hm hf)
   clear hm hf
   unfold OpX.val
   go_wp2
   exact HX0.out _ _ _ HM.out.1 ⟨_, _, _, _, _, _, _, _, _, _, _, _, _, _, _, _, _, _, _, _, _, _, _, _, _, _, _, _, _, _, _, _, _, _, _, _, _, _, _, _, _, _, _, _, _, _, _, _, _, _, _, _, _, _, rfl, HM.out.2, rfl⟩
 clear hA
 rintro _ _ w ⟨b7, x4, x5, x6, x8, x9, x10, x11, x12, x13, x14, x15, x16, x17, x18, x19, x20, x21, x22, x23, x24, x25, x26, x27, x28, x29, x30, x31, x32, x33, x34, x35, x36, x37, x38, x39, x40, x41, x42, x43, x44, x45, x46, x47, x48, x49, x50, x51, x52, x53, x54, x55, x56, x57, rfl, hb7, rfl⟩ hA
 refine YSys.opsX 1 1 (fun t B' => ∃ (b8 : Nat) (x4 x5 x6 x9 x10 x11 x12 x13 x14 x15 x16 x17 x18 x19 x20 x21 x22 x23 x24 x25 x26 x27 x28 x29 x30 x31 x32 x33 x34 x35 x36 x37 x38 x39 x40 x41 x42 x43 x44 x45 x46 x47 x48 x49 x50 x51 x52 x53 x54 x55 x56 x57 : Value), t = #[.pointer (some ⟨cb, 0, none⟩), sv, .int .i64 who, op.val, x4, x5, x6, .pointer (some ⟨b7, 0, none⟩), .pointer (some ⟨b8, 0, none⟩), x9, x10, x11, x12, x13, x14, x15, x16, x17, x18, x19, x20, x21, x22, x23, x24, x25, x26, x27, x28, x29, x30, x31, x32, x33, x34, x35, x36, x37, x38, x39, x40, x41, x42, x43, x44, x45, x46, x47, x48, x49, x50, x51, x52, x53, x54, x55, x56, x57] ∧ upB B b7 (.cells op.cells.toArray 46) b8 = none ∧ B' = upB (upB B b7 (.cells op.cells.toArray 46)) b8 (.cells #[.bool false, .int .i64 0, .slice none 0 0] 43)) hA rfl rfl (by kernel_rfl) ?_ ?_
 · intro wc hB X0 hX0
   have HX0 := Lib.hid hX0
   clear hX0
   have hm := OMoved.push (o := .cells #[.bool false, .int .i64 0, .slice none 0 0] 43) hB.own (Ext1.alloc wc (.cells #[.bool false, .int .i64 0, .slice none 0 0] 43)) (Nat.le_refl _) (by rw [zq9]; simp)
   have hf := hB.own.fresh (Nat.le_refl _)
   have HM := Lib.hid (And.intro hm hf)
   clear hm hf
   go_wp2
   exact ⟨rfl, HX0.out _ _ _ HM.out.1 ⟨_, _, _, _, _, _, _, _, _, _, _, _, _, _, _, _, _, _, _, _, _, _, _, _, _, _, _, _, _, _, _, _, _, _, _, _, _, _, _, _, _, _, _, _, _, _, _, _, _, _, _, _, _, rfl, HM.out.2, rfl⟩⟩
 clear hA
 rintro _ _ w ⟨b8, x4, x5, x6, x9, x10, x11, x12, x13, x14, x15, x16, x17, x18, x19, x20, x21, x22, x23, x24, x25, x26, x27, x28, x29, x30, x31, x32, x33, x34, x35, x36, x37, x38, x39, x40, x41, x42, x43, x44, x45, x46, x47, x48, x49, x50, x51, x52, x53, x54, x55, x56, x57, rfl, hb8, rfl⟩ hA
 show wpJ Y.J _ _ _ _ _
 refine YSys.seqX (fun t B' => ∃ (b9 : Nat) (x4 x5 x6 x10 x11 x12 x13 x14 x15 x16 x17 x18 x19 x20 x21 x22 x23 x24 x25 x26 x27 x28 x29 x30 x31 x32 x33 x34 x35 x36 x37 x38 x39 x40 x41 x42 x43 x44 x45 x46 x47 x48 x49 x50 x51 x52 x53 x54 x55 x56 x57 : Value), t = #[.pointer (some ⟨cb, 0, none⟩), sv, .int .i64 who, op.val, x4, x5, x6, .pointer (some ⟨b7, 0, none⟩), .pointer (some ⟨b8, 0, none⟩), .pointer (some ⟨b9, 0, none⟩), x10, x11, x12, x13, x14, x15, x16, x17, x18, x19, x20, x21, x22, x23, x24, x25, x26, x27, x28, x29, x30, x31, x32, x33, x34, x35, x36, x37, x38, x39, x40, x41, x42, x43, x44, x45, x46, x47, x48, x49, x50, x51, x52, x53, x54, x55, x56, x57] ∧ upB (upB B b7 (.cells op.cells.toArray 46)) b8 (.cells #[.bool false, .int .i64 0, .slice none 0 0] 43) b9 = none ∧ B' = upB (upB (upB B b7 (.cells op.cells.toArray 46)) b8 (.cells #[.bool false, .int .i64 0, .slice none 0 0] 43)) b9 (.cells #[.bool true, .int .i64 0, .slice none 0 0] 43)) hA (by kernel_rfl) ?_ ?_
 · intro wc hB X0 hX0
   have HX0 := Lib.hid hX0
   clear hX0
   have hm := OMoved.push (o := .cells #[.bool true, .int .i64 0, .slice none 0 0] 43) hB.own (Ext1.alloc wc (.cells #[.bool true, .int .i64 0, .slice none 0 0] 43)) (Nat.le_refl _) (by rw [zq9]; simp)
   have hf := hB.own.fresh (Nat.le_refl _)
   have HM := Lib.hid (And.intro hm hf)
   clear hm hf
   go_wp2
   exact ⟨rfl, HX0.out _ _ _ HM.out.1 ⟨_, _, _, _, _, _, _, _, _, _, _, _, _, _, _, _, _, _, _, _, _, _, _, _, _, _, _, _, _, _, _, _, _, _, _, _, _, _, _, _, _, _, _, _, _, _, _, _, _, _, _, _, rfl, HM.out.2, rfl⟩⟩
 clear hA
 rintro _ _ w ⟨b9, x4, x5, x6, x10, x11, x12, x13, x14, x15, x16, x17, x18, x19, x20, x21, x22, x23, x24, x25, x26, x27, x28, x29, x30, x31, x32, x33, x34, x35, x36, x37, x38, x39, x40, x41, x42, x43, x44, x45, x46, x47, x48, x49, x50, x51, x52, x53, x54, x55, x56, x57, rfl, hb9, rfl⟩ hA
 have h7 : upB (upB (upB B b7 (.cells op.cells.toArray 46)) b8 (.cells #[.bool false, .int .i64 0, .slice none 0 0] 43)) b9 (.cells #[.bool true, .int .i64 0, .slice none 0 0] 43) b7 = some (.cells op.cells.toArray 46) := upB_of (upB_of (upB_same _ _ _) (none_ne (upB_same _ _ _) hb8)) (none_ne (upB_of (upB_same _ _ _) (none_ne (upB_same _ _ _) hb8)) hb9)
 have h8 : upB (upB (upB B b7 (.cells op.cells.toArray 46)) b8 (.cells #[.bool false, .int .i64 0, .slice none 0 0] 43)) b9 (.cells #[.bool true, .int .i64 0, .slice none 0 0] 43) b8 = some (.cells #[.bool false, .int .i64 0, .slice none 0 0] 43) := upB_of (upB_same _ _ _) (none_ne (upB_same _ _ _) hb9)
 have h9 : upB (upB (upB B b7 (.cells op.cells.toArray 46)) b8 (.cells #[.bool false, .int .i64 0, .slice none 0 0] 43)) b9 (.cells #[.bool true, .int .i64 0, .slice none 0 0] 43) b9 = some (.cells #[.bool true, .int .i64 0, .slice none 0 0] 43) := upB_same _ _ _
 have hB8 : B b8 = none := Classical.byContradiction fun h => by
  cases ho : B b8 with
  | none => exact h ho
  | some o => rw [upB_le (o := .cells op.cells.toArray 46) hb7 b8 o ho] at hb8; cases hb8
 have hB9 : B b9 = none := Classical.byContradiction fun h => by
  cases ho : B b9 with
  | none => exact h ho
  | some o => rw [upB_keep (o := .cells #[.bool false, .int .i64 0, .slice none 0 0] 43) (upB_le (o := .cells op.cells.toArray 46) hb7) hB8 b9 o ho] at hb9; cases hb9
 have hle : ∀ x y, B x = some y → upB (upB (upB B b7 (.cells op.cells.toArray 46)) b8 (.cells #[.bool false, .int .i64 0, .slice none 0 0] 43)) b9 (.cells #[.bool true, .int .i64 0, .slice none 0 0] 43) x = some y := upB_keep (upB_keep (upB_le (o := .cells op.cells.toArray 46) hb7) hB8) hB9
 have h89 : b8 ≠ b9 := none_ne (upB_same _ _ _) hb9
 obtain ⟨B1, hB1⟩ : ∃ X, upB (upB (upB B b7 (.cells op.cells.toArray 46)) b8 (.cells #[.bool false, .int .i64 0, .slice none 0 0] 43)) b9 (.cells #[.bool true, .int .i64 0, .slice none 0 0] 43) = X := ⟨_, rfl⟩
 rw [hB1] at h7 h8 h9 hle hA
 have H7 := Lib.hid h7
 have H8 := Lib.hid h8
 have H9 := Lib.hid h9
 have HLE := Lib.hid hle
 have HN := Lib.hid (And.intro hB8 (And.intro hB9 h89))
 clear h7 h8 h9 hle hB1 hb7 hb8 hb9 hB8 hB9 h89
 show wpJ Y.J _ _ _ _ _
 refine wpY_cut Y.jc (fun s a w => ∃ (B2 : Nat → Option Obj) (ok : Bool) (x : Int) (x4 x5 x6 x10 x11 x13 x14 x15 x16 x17 x18 x19 x20 x21 x22 x23 x24 x25 x26 x27 x28 x29 x30 x31 x32 x33 x34 x35 x36 x37 x38 x39 x40 x41 x42 x43 x44 x45 x46 x47 x48 x49 x50 x51 x52 x53 x54 x55 x56 x57 : Value), a = ⟨#[.pointer (some ⟨cb, 0, none⟩), sv, .int .i64 who, op.val, x4, x5, x6, .pointer (some ⟨b7, 0, none⟩), .pointer (some ⟨b8, 0, none⟩), .pointer (some ⟨b9, 0, none⟩), x10, x11, .int .i64 op.k, x13, x14, x15, x16, x17, x18, x19, x20, x21, x22, x23, x24, x25, x26, x27, x28, x29, x30, x31, x32, x33, x34, x35, x36, x37, x38, x39, x40, x41, x42, x43, x44, x45, x46, x47, x48, x49, x50, x51, x52, x53, x54, x55, x56, x57], []⟩ ∧ (B2 b8 = some (.cells #[.bool false, .int .i64 0, .slice none 0 0] 43) ∧ B2 b9 = some (.cells #[.bool ok, .int .i64 x, .slice none 0 0] 43) ∧ ∀ x y, B x = some y → B2 x = some y) ∧ Y.AtB B2 s w (K ⟨ok, x, []⟩)) ?_ ?_
 ·
  apply YSys.seq0 hA (by kernel_rfl)
  · intro wc hB
    have c70 : wc.cell? ⟨b7, 0, none⟩ = some (.int .i64 op.k) := (zq1 (hB.own.box b7 _ H7.out)).trans rfl
    have c71 : wc.cell? ⟨b7, 1, none⟩ = some (.int .i64 op.a) := (zq1 (hB.own.box b7 _ H7.out)).trans rfl
    have c72 : wc.cell? ⟨b7, 2, none⟩ = some (.int .i64 op.b) := (zq1 (hB.own.box b7 _ H7.out)).trans rfl
    have c73 : wc.cell? ⟨b7, 3, none⟩ = some (.int .i64 op.c) := (zq1 (hB.own.box b7 _ H7.out)).trans rfl
    go_wp2
    exact ⟨rfl, Ext1.refl _, rfl⟩
  intro w hA
  refine wpY_block Y.jc ?_
  unfold doP at hA
  apply YSys.seq0 hA (by kernel_rfl)
  · intro wc hB
    go_wp2
    exact ⟨rfl, Ext1.refl _, rfl⟩
  intro w hA
  refine wpY_cond Y.jc rfl ?_
  by_cases hk1 : op.k = 1
  · rw [if_pos (by simp [hk1])]
    rw [if_pos hk1, Proc.bind_bind] at hA
    clear hk1
    refine wpY_region Y.jc ?_
    apply YSys.callR 0 6 2 hA (add_spec Y hst op.a op.b).spec (fun x => HKK.out _) rfl rfl rfl (by rfl) rfl rfl rfl
    · intro wc hB X hX
      have HX := Lib.hid hX
      clear hX
      have c70 : wc.cell? ⟨b7, 0, none⟩ = some (.int .i64 op.k) := (zq1 (hB.own.box b7 _ H7.out)).trans rfl
      have c71 : wc.cell? ⟨b7, 1, none⟩ = some (.int .i64 op.a) := (zq1 (hB.own.box b7 _ H7.out)).trans rfl
      have c72 : wc.cell? ⟨b7, 2, none⟩ = some (.int .i64 op.b) := (zq1 (hB.own.box b7 _ H7.out)).trans rfl
      have c73 : wc.cell? ⟨b7, 3, none⟩ = some (.int .i64 op.c) := (zq1 (hB.own.box b7 _ H7.out)).trans rfl
      go_wp2
      exact HX.out _ (Ext1.refl _)
    · intro w
      simp [go_sem, execOp, Act.eval, resolve, Deferred.ofValue, invoke, callFunc, Try.func21, Try.f21]
    · intro w
      simp [go_sem, execOp, Act.eval, resolve, Deferred.ofValue, invoke, callFunc, Try.func21, Try.f21]
    · intro s' ch w' h
      exact ⟨rfl, h⟩
    intro s x w hA
    refine YSys.opsX 7 2 (fun t B' => ∃ (y4 y5 y6 y10 y11 y13 y14 y15 y16 y17 y18 y19 y20 y21 y22 y23 y24 y25 y26 y27 y28 y29 y30 y31 y32 y33 y34 y35 y36 y37 y38 y39 y40 y41 y42 y43 y44 y45 y46 y47 y48 y49 y50 y51 y52 y53 y54 y55 y56 y57 : Value), t = #[.pointer (some ⟨cb, 0, none⟩), sv, .int .i64 who, op.val, y4, y5, y6, .pointer (some ⟨b7, 0, none⟩), .pointer (some ⟨b8, 0, none⟩), .pointer (some ⟨b9, 0, none⟩), y10, y11, .int .i64 op.k, y13, y14, y15, y16, y17, y18, y19, y20, y21, y22, y23, y24, y25, y26, y27, y28, y29, y30, y31, y32, y33, y34, y35, y36, y37, y38, y39, y40, y41, y42, y43, y44, y45, y46, y47, y48, y49, y50, y51, y52, y53, y54, y55, y56, y57] ∧ B' = upB B1 b9 (.cells #[.bool true, .int .i64 x, .slice none 0 0] 43)) hA rfl rfl (by kernel_rfl) ?_ ?_
    · intro wc hB X0 hX0
      have HX0 := Lib.hid hX0
      clear hX0
      have k9 := hB.own.box b9 _ H9.out
      have c90 : wc.cell? ⟨b9, 0, none⟩ = some (.bool true) := (zq1 k9).trans rfl
      have c91 : wc.cell? ⟨b9, 1, none⟩ = some (.int .i64 0) := (zq1 k9).trans rfl
      have f90 : wc.frozen? ⟨b9, 0, none⟩ = false := zqb k9
      have f91 : wc.frozen? ⟨b9, 1, none⟩ = false := zqb k9
      clear k9
      have hm := OMoved.set (off := 1) hB.own H9.out (.int .i64 x)
      have HM := Lib.hid hm
      clear hm
      go_wp2
      exact ⟨rfl, HX0.out _ _ _ HM.out ⟨_, _, _, _, _, _, _, _, _, _, _, _, _, _, _, _, _, _, _, _, _, _, _, _, _, _, _, _, _, _, _, _, _, _, _, _, _, _, _, _, _, _, _, _, _, _, _, _, _, _, rfl, rfl⟩⟩
    rintro _ _ w ⟨y4, y5, y6, y10, y11, y13, y14, y15, y16, y17, y18, y19, y20, y21, y22, y23, y24, y25, y26, y27, y28, y29, y30, y31, y32, y33, y34, y35, y36, y37, y38, y39, y40, y41, y42, y43, y44, y45, y46, y47, y48, y49, y50, y51, y52, y53, y54, y55, y56, y57, rfl, rfl⟩ hA
    exact ⟨_, true, x, _, _, _, _, _, _, _, _, _, _, _, _, _, _, _, _, _, _, _, _, _, _, _, _, _, _, _, _, _, _, _, _, _, _, _, _, _, _, _, _, _, _, _, _, _, _, _, _, _, _, rfl, ⟨upB_of H8.out HN.out.2.2, upB_same _ _ _, upB_keep HLE.out HN.out.2.1⟩, hA⟩
  rw [if_neg (by simp [hk1])]
  rw [if_neg hk1] at hA
  clear hk1
  apply YSys.seq0 hA (by kernel_rfl)
  · intro wc hB
    go_wp2
    exact ⟨rfl, Ext1.refl _, rfl⟩
  intro w hA
  refine wpY_cond Y.jc rfl ?_
  by_cases hk2 : op.k = 2
  · rw [if_pos (by simp [hk2])]
    rw [if_pos hk2, Proc.bind_bind] at hA
    clear hk2
    refine wpY_region Y.jc ?_
    apply YSys.callR 0 2 2 hA (sum_spec Y hst).spec (fun x => HKK.out _) rfl rfl rfl (by rfl) rfl rfl rfl
    · intro wc hB X hX
      have HX := Lib.hid hX
      clear hX
      go_wp2
      exact HX.out _ (Ext1.refl _)
    · intro w
      simp [go_sem, execOp, Act.eval, resolve, Deferred.ofValue, invoke, callFunc, Try.func22, Try.f22]
    · intro w
      simp [go_sem, execOp, Act.eval, resolve, Deferred.ofValue, invoke, callFunc, Try.func22, Try.f22]
    · intro s' ch w' h
      exact ⟨rfl, h⟩
    intro s x w hA
    refine YSys.opsX 3 2 (fun t B' => ∃ (y4 y5 y6 y10 y11 y13 y14 y15 y16 y17 y18 y19 y20 y21 y22 y23 y24 y25 y26 y27 y28 y29 y30 y31 y32 y33 y34 y35 y36 y37 y38 y39 y40 y41 y42 y43 y44 y45 y46 y47 y48 y49 y50 y51 y52 y53 y54 y55 y56 y57 : Value), t = #[.pointer (some ⟨cb, 0, none⟩), sv, .int .i64 who, op.val, y4, y5, y6, .pointer (some ⟨b7, 0, none⟩), .pointer (some ⟨b8, 0, none⟩), .pointer (some ⟨b9, 0, none⟩), y10, y11, .int .i64 op.k, y13, y14, y15, y16, y17, y18, y19, y20, y21, y22, y23, y24, y25, y26, y27, y28, y29, y30, y31, y32, y33, y34, y35, y36, y37, y38, y39, y40, y41, y42, y43, y44, y45, y46, y47, y48, y49, y50, y51, y52, y53, y54, y55, y56, y57] ∧ B' = upB B1 b9 (.cells #[.bool true, .int .i64 x, .slice none 0 0] 43)) hA rfl rfl (by kernel_rfl) ?_ ?_
    · intro wc hB X0 hX0
      have HX0 := Lib.hid hX0
      clear hX0
      have k9 := hB.own.box b9 _ H9.out
      have c90 : wc.cell? ⟨b9, 0, none⟩ = some (.bool true) := (zq1 k9).trans rfl
      have c91 : wc.cell? ⟨b9, 1, none⟩ = some (.int .i64 0) := (zq1 k9).trans rfl
      have f90 : wc.frozen? ⟨b9, 0, none⟩ = false := zqb k9
      have f91 : wc.frozen? ⟨b9, 1, none⟩ = false := zqb k9
      clear k9
      have hm := OMoved.set (off := 1) hB.own H9.out (.int .i64 x)
      have HM := Lib.hid hm
      clear hm
      go_wp2
      exact ⟨rfl, HX0.out _ _ _ HM.out ⟨_, _, _, _, _, _, _, _, _, _, _, _, _, _, _, _, _, _, _, _, _, _, _, _, _, _, _, _, _, _, _, _, _, _, _, _, _, _, _, _, _, _, _, _, _, _, _, _, _, _, rfl, rfl⟩⟩
    rintro _ _ w ⟨y4, y5, y6, y10, y11, y13, y14, y15, y16, y17, y18, y19, y20, y21, y22, y23, y24, y25, y26, y27, y28, y29, y30, y31, y32, y33, y34, y35, y36, y37, y38, y39, y40, y41, y42, y43, y44, y45, y46, y47, y48, y49, y50, y51, y52, y53, y54, y55, y56, y57, rfl, rfl⟩ hA
    exact ⟨_, true, x, _, _, _, _, _, _, _, _, _, _, _, _, _, _, _, _, _, _, _, _, _, _, _, _, _, _, _, _, _, _, _, _, _, _, _, _, _, _, _, _, _, _, _, _, _, _, _, _, _, _, rfl, ⟨upB_of H8.out HN.out.2.2, upB_same _ _ _, upB_keep HLE.out HN.out.2.1⟩, hA⟩
  rw [if_neg (by simp [hk2])]
  rw [if_neg hk2] at hA
  clear hk2
  apply YSys.seq0 hA (by kernel_rfl)
  · intro wc hB
    go_wp2
    exact ⟨rfl, Ext1.refl _, rfl⟩
  intro w hA
  refine wpY_cond Y.jc rfl ?_
  by_cases hk3 : op.k = 3
  · rw [if_pos (by simp [hk3])]
    rw [if_pos hk3, Proc.bind_bind] at hA
    clear hk3
    refine wpY_region Y.jc ?_
    apply YSys.callR 0 2 2 hA (take_spec Y hst).spec (fun x => HKK.out _) rfl rfl rfl (by rfl) rfl rfl rfl
    · intro wc hB X hX
      have HX := Lib.hid hX
      clear hX
      go_wp2
      exact HX.out _ (Ext1.refl _)
    · intro w
      simp [go_sem, execOp, Act.eval, resolve, Deferred.ofValue, invoke, callFunc, Try.func23, Try.f23]
    · intro w
      simp [go_sem, execOp, Act.eval, resolve, Deferred.ofValue, invoke, callFunc, Try.func23, Try.f23]
    · intro s' ch w' h
      exact ⟨rfl, h⟩
    intro s x w hA
    refine YSys.opsX 3 2 (fun t B' => ∃ (y4 y5 y6 y10 y11 y13 y14 y15 y16 y17 y18 y19 y20 y21 y22 y23 y24 y25 y26 y27 y28 y29 y30 y31 y32 y33 y34 y35 y36 y37 y38 y39 y40 y41 y42 y43 y44 y45 y46 y47 y48 y49 y50 y51 y52 y53 y54 y55 y56 y57 : Value), t = #[.pointer (some ⟨cb, 0, none⟩), sv, .int .i64 who, op.val, y4, y5, y6, .pointer (some ⟨b7, 0, none⟩), .pointer (some ⟨b8, 0, none⟩), .pointer (some ⟨b9, 0, none⟩), y10, y11, .int .i64 op.k, y13, y14, y15, y16, y17, y18, y19, y20, y21, y22, y23, y24, y25, y26, y27, y28, y29, y30, y31, y32, y33, y34, y35, y36, y37, y38, y39, y40, y41, y42, y43, y44, y45, y46, y47, y48, y49, y50, y51, y52, y53, y54, y55, y56, y57] ∧ B' = upB B1 b9 (.cells #[.bool true, .int .i64 x, .slice none 0 0] 43)) hA rfl rfl (by kernel_rfl) ?_ ?_
    · intro wc hB X0 hX0
      have HX0 := Lib.hid hX0
      clear hX0
      have k9 := hB.own.box b9 _ H9.out
      have c90 : wc.cell? ⟨b9, 0, none⟩ = some (.bool true) := (zq1 k9).trans rfl
      have c91 : wc.cell? ⟨b9, 1, none⟩ = some (.int .i64 0) := (zq1 k9).trans rfl
      have f90 : wc.frozen? ⟨b9, 0, none⟩ = false := zqb k9
      have f91 : wc.frozen? ⟨b9, 1, none⟩ = false := zqb k9
      clear k9
      have hm := OMoved.set (off := 1) hB.own H9.out (.int .i64 x)
      have HM := Lib.hid hm
      clear hm
      go_wp2
      exact ⟨rfl, HX0.out _ _ _ HM.out ⟨_, _, _, _, _, _, _, _, _, _, _, _, _, _, _, _, _, _, _, _, _, _, _, _, _, _, _, _, _, _, _, _, _, _, _, _, _, _, _, _, _, _, _, _, _, _, _, _, _, _, rfl, rfl⟩⟩
    rintro _ _ w ⟨y4, y5, y6, y10, y11, y13, y14, y15, y16, y17, y18, y19, y20, y21, y22, y23, y24, y25, y26, y27, y28, y29, y30, y31, y32, y33, y34, y35, y36, y37, y38, y39, y40, y41, y42, y43, y44, y45, y46, y47, y48, y49, y50, y51, y52, y53, y54, y55, y56, y57, rfl, rfl⟩ hA
    exact ⟨_, true, x, _, _, _, _, _, _, _, _, _, _, _, _, _, _, _, _, _, _, _, _, _, _, _, _, _, _, _, _, _, _, _, _, _, _, _, _, _, _, _, _, _, _, _, _, _, _, _, _, _, _, rfl, ⟨upB_of H8.out HN.out.2.2, upB_same _ _ _, upB_keep HLE.out HN.out.2.1⟩, hA⟩
  rw [if_neg (by simp [hk3])]
  rw [if_neg hk3] at hA
  clear hk3
  apply YSys.seq0 hA (by kernel_rfl)
  · intro wc hB
    go_wp2
    exact ⟨rfl, Ext1.refl _, rfl⟩
  intro w hA
  refine wpY_cond Y.jc rfl ?_
  by_cases hk4 : op.k = 4
  · rw [if_pos (by simp [hk4])]
    rw [if_pos hk4, Proc.bind_bind] at hA
    clear hk4
    refine wpY_region Y.jc ?_
    apply YSys.callR 0 8 0 hA (move_spec Y hst op.a op.b op.c).spec (fun x => HKK.out _) rfl rfl rfl (by rfl) rfl rfl rfl
    · intro wc hB X hX
      have HX := Lib.hid hX
      clear hX
      have c70 : wc.cell? ⟨b7, 0, none⟩ = some (.int .i64 op.k) := (zq1 (hB.own.box b7 _ H7.out)).trans rfl
      have c71 : wc.cell? ⟨b7, 1, none⟩ = some (.int .i64 op.a) := (zq1 (hB.own.box b7 _ H7.out)).trans rfl
      have c72 : wc.cell? ⟨b7, 2, none⟩ = some (.int .i64 op.b) := (zq1 (hB.own.box b7 _ H7.out)).trans rfl
      have c73 : wc.cell? ⟨b7, 3, none⟩ = some (.int .i64 op.c) := (zq1 (hB.own.box b7 _ H7.out)).trans rfl
      go_wp2
      exact HX.out _ (Ext1.refl _)
    · intro w
      simp [go_sem, execOp, Act.eval, resolve, Deferred.ofValue, invoke, callFunc, Try.func30, Try.f30]
    · intro w
      simp [go_sem, execOp, Act.eval, resolve, Deferred.ofValue, invoke, callFunc, Try.func30, Try.f30]
    · intro s' ch w' h
      exact ⟨rfl, h⟩
    intro s x w hA
    refine opsC_nil Y.jc ?_
    exact ⟨B1, true, 0, _, _, _, _, _, _, _, _, _, _, _, _, _, _, _, _, _, _, _, _, _, _, _, _, _, _, _, _, _, _, _, _, _, _, _, _, _, _, _, _, _, _, _, _, _, _, _, _, _, _, rfl, ⟨H8.out, H9.out, HLE.out⟩, hA⟩
  rw [if_neg (by simp [hk4])]
  rw [if_neg hk4] at hA
  clear hk4
  apply YSys.seq0 hA (by kernel_rfl)
  · intro wc hB
    go_wp2
    exact ⟨rfl, Ext1.refl _, rfl⟩
  intro w hA
  refine wpY_cond Y.jc rfl ?_
  by_cases hk5 : op.k = 5
  · rw [if_pos (by simp [hk5])]
    rw [if_pos hk5, Proc.bind_bind] at hA
    clear hk5
    refine wpY_region Y.jc ?_
    apply YSys.callR 0 2 7 hA (even_spec Y hst).spec (fun x => HKK.out _) rfl rfl rfl (by rfl) rfl rfl rfl
    · intro wc hB X hX
      have HX := Lib.hid hX
      clear hX
      go_wp2
      exact HX.out _ (Ext1.refl _)
    · intro w
      simp [go_sem, execOp, Act.eval, resolve, Deferred.ofValue, invoke, callFunc, Try.func20, Try.f20]
    · intro w
      simp [go_sem, execOp, Act.eval, resolve, Deferred.ofValue, invoke, callFunc, Try.func20, Try.f20]
    · intro s' ch w' h
      exact ⟨rfl, h⟩
    intro s x w hA
    obtain ⟨x, ok⟩ := x
    unfold evenV
    refine YSys.opsX 3 7 (fun t B' => ∃ (y4 y5 y6 y10 y11 y13 y14 y15 y16 y17 y18 y19 y20 y21 y22 y23 y24 y25 y26 y27 y28 y29 y30 y31 y32 y33 y34 y35 y36 y37 y38 y39 y40 y41 y42 y43 y44 y45 y46 y47 y48 y49 y50 y51 y52 y53 y54 y55 y56 y57 : Value), t = #[.pointer (some ⟨cb, 0, none⟩), sv, .int .i64 who, op.val, y4, y5, y6, .pointer (some ⟨b7, 0, none⟩), .pointer (some ⟨b8, 0, none⟩), .pointer (some ⟨b9, 0, none⟩), y10, y11, .int .i64 op.k, y13, y14, y15, y16, y17, y18, y19, y20, y21, y22, y23, y24, y25, y26, y27, y28, y29, y30, y31, y32, y33, y34, y35, y36, y37, y38, y39, y40, y41, y42, y43, y44, y45, y46, y47, y48, y49, y50, y51, y52, y53, y54, y55, y56, y57] ∧ B' = upB B1 b9 (.cells #[.bool ok, .int .i64 x, .slice none 0 0] 43)) hA rfl rfl (by kernel_rfl) ?_ ?_
    · intro wc hB X0 hX0
      have HX0 := Lib.hid hX0
      clear hX0
      have k9 := hB.own.box b9 _ H9.out
      have c90 : wc.cell? ⟨b9, 0, none⟩ = some (.bool true) := (zq1 k9).trans rfl
      have c91 : wc.cell? ⟨b9, 1, none⟩ = some (.int .i64 0) := (zq1 k9).trans rfl
      have f90 : wc.frozen? ⟨b9, 0, none⟩ = false := zqb k9
      have f91 : wc.frozen? ⟨b9, 1, none⟩ = false := zqb k9
      clear k9
      have hm := OMoved.set2 (o1 := 1) (o2 := 0) hB.own H9.out (.int .i64 x) (.bool ok)
      have HM := Lib.hid hm
      clear hm
      go_wp2
      exact ⟨rfl, HX0.out _ _ _ HM.out ⟨_, _, _, _, _, _, _, _, _, _, _, _, _, _, _, _, _, _, _, _, _, _, _, _, _, _, _, _, _, _, _, _, _, _, _, _, _, _, _, _, _, _, _, _, _, _, _, _, _, _, rfl, rfl⟩⟩
    rintro _ _ w ⟨y4, y5, y6, y10, y11, y13, y14, y15, y16, y17, y18, y19, y20, y21, y22, y23, y24, y25, y26, y27, y28, y29, y30, y31, y32, y33, y34, y35, y36, y37, y38, y39, y40, y41, y42, y43, y44, y45, y46, y47, y48, y49, y50, y51, y52, y53, y54, y55, y56, y57, rfl, rfl⟩ hA
    exact ⟨_, ok, x, _, _, _, _, _, _, _, _, _, _, _, _, _, _, _, _, _, _, _, _, _, _, _, _, _, _, _, _, _, _, _, _, _, _, _, _, _, _, _, _, _, _, _, _, _, _, _, _, _, _, rfl, ⟨upB_of H8.out HN.out.2.2, upB_same _ _ _, upB_keep HLE.out HN.out.2.1⟩, hA⟩
  rw [if_neg (by simp [hk5])]
  rw [if_neg hk5] at hA
  clear hk5
  refine YSys.seqX (fun t B' => ∃ (y4 y5 y6 y10 y11 y13 y14 y15 y16 y17 y18 y19 y20 y21 y22 y23 y24 y25 y26 y27 y28 y29 y30 y31 y32 y33 y34 y35 y36 y37 y38 y39 y40 y41 y42 y43 y44 y45 y46 y47 y48 y49 y50 y51 y52 y53 y54 y55 y56 y57 : Value), t = #[.pointer (some ⟨cb, 0, none⟩), sv, .int .i64 who, op.val, y4, y5, y6, .pointer (some ⟨b7, 0, none⟩), .pointer (some ⟨b8, 0, none⟩), .pointer (some ⟨b9, 0, none⟩), y10, y11, .int .i64 op.k, y13, y14, y15, y16, y17, y18, y19, y20, y21, y22, y23, y24, y25, y26, y27, y28, y29, y30, y31, y32, y33, y34, y35, y36, y37, y38, y39, y40, y41, y42, y43, y44, y45, y46, y47, y48, y49, y50, y51, y52, y53, y54, y55, y56, y57] ∧ B' = upB B1 b8 (.cells #[.bool false, .int .i64 0, .slice none 0 0] 43)) hA (by kernel_rfl) ?_ ?_
  · intro wc hB X0 hX0
    have HX0 := Lib.hid hX0
    clear hX0
    have k8 := hB.own.box b8 _ H8.out
    have c80 : wc.cell? ⟨b8, 0, none⟩ = some (.bool false) := (zq1 k8).trans rfl
    have c81 : wc.cell? ⟨b8, 1, none⟩ = some (.int .i64 0) := (zq1 k8).trans rfl
    have c82 : wc.cell? ⟨b8, 2, none⟩ = some (.slice none 0 0) := (zq1 k8).trans rfl
    have f80 : wc.frozen? ⟨b8, 0, none⟩ = false := zqb k8
    have f81 : wc.frozen? ⟨b8, 1, none⟩ = false := zqb k8
    have f82 : wc.frozen? ⟨b8, 2, none⟩ = false := zqb k8
    have hm := OMoved.set3 (o1 := 0) (o2 := 1) (o3 := 2) hB.own H8.out (.bool false) (.int .i64 0) (.slice none 0 0)
    have HM := Lib.hid hm
    clear hm k8
    go_wp2
    exact ⟨rfl, HX0.out _ _ _ HM.out ⟨_, _, _, _, _, _, _, _, _, _, _, _, _, _, _, _, _, _, _, _, _, _, _, _, _, _, _, _, _, _, _, _, _, _, _, _, _, _, _, _, _, _, _, _, _, _, _, _, _, _, rfl, rfl⟩⟩
  rintro _ _ w ⟨y4, y5, y6, y10, y11, y13, y14, y15, y16, y17, y18, y19, y20, y21, y22, y23, y24, y25, y26, y27, y28, y29, y30, y31, y32, y33, y34, y35, y36, y37, y38, y39, y40, y41, y42, y43, y44, y45, y46, y47, y48, y49, y50, y51, y52, y53, y54, y55, y56, y57, rfl, rfl⟩ hA
  refine wpY_ret Y.jc ?_
  refine YSys.left hA (v := .agg #[.bool false, .int .i64 0, .slice none 0 0]) (fun wc hB => results_cell_row rfl _ wc b8 43 _ _ _ rfl (hB.own.box b8 _ (upB_same _ _ _)) rfl rfl rfl) fun w hA => ?_
  exact ⟨Ans.none, fun _ => none, AnsV.plain _ _ _, fun b hb => absurd rfl hb, hA.drop (upB_keep HLE.out HN.out.1)⟩
 ·
  clear hA
  rintro s a w ⟨B2, ok, x, z4, z5, z6, z10, z11, z13, z14, z15, z16, z17, z18, z19, z20, z21, z22, z23, z24, z25, z26, z27, z28, z29, z30, z31, z32, z33, z34, z35, z36, z37, z38, z39, z40, z41, z42, z43, z44, z45, z46, z47, z48, z49, z50, z51, z52, z53, z54, z55, z56, z57, rfl, hF, hA⟩
  have HF := Lib.hid hF
  clear hF
  refine YSys.seqX (fun t B' => ∃ (q4 q5 q6 q10 q11 q13 q14 q15 q16 q17 q18 q19 q20 q21 q22 q23 q24 q25 q26 q27 q28 q29 q30 q31 q32 q33 q34 q35 q36 q37 q38 q39 q40 q41 q42 q43 q44 q45 q46 q47 q48 q49 q50 q51 q52 q53 q54 q55 q56 q57 : Value), t = #[.pointer (some ⟨cb, 0, none⟩), sv, .int .i64 who, op.val, q4, q5, q6, .pointer (some ⟨b7, 0, none⟩), .pointer (some ⟨b8, 0, none⟩), .pointer (some ⟨b9, 0, none⟩), q10, q11, .int .i64 op.k, q13, q14, q15, q16, q17, q18, q19, q20, q21, q22, q23, q24, q25, q26, q27, q28, q29, q30, q31, q32, q33, q34, q35, q36, q37, q38, q39, q40, q41, q42, q43, q44, q45, q46, q47, q48, q49, q50, q51, q52, q53, q54, q55, q56, q57] ∧ B' = upB B2 b8 (.cells #[.bool ok, .int .i64 x, .slice none 0 0] 43)) hA (by kernel_rfl) ?_ ?_
  · intro wc hB X0 hX0
    have HX0 := Lib.hid hX0
    clear hX0
    have k8 := hB.own.box b8 _ HF.out.1
    have k9 := hB.own.box b9 _ HF.out.2.1
    have c90 : wc.cell? ⟨b9, 0, none⟩ = some (.bool ok) := (zq1 k9).trans rfl
    have c91 : wc.cell? ⟨b9, 1, none⟩ = some (.int .i64 x) := (zq1 k9).trans rfl
    have c92 : wc.cell? ⟨b9, 2, none⟩ = some (.slice none 0 0) := (zq1 k9).trans rfl
    have c80 : wc.cell? ⟨b8, 0, none⟩ = some (.bool false) := (zq1 k8).trans rfl
    have c81 : wc.cell? ⟨b8, 1, none⟩ = some (.int .i64 0) := (zq1 k8).trans rfl
    have c82 : wc.cell? ⟨b8, 2, none⟩ = some (.slice none 0 0) := (zq1 k8).trans rfl
    have hm := OMoved.set3 (o1 := 0) (o2 := 1) (o3 := 2) hB.own HF.out.1 (.bool ok) (.int .i64 x) (.slice none 0 0)
    have HM := Lib.hid hm
    have fz : ∀ j, wc.frozen? ⟨b8, j, none⟩ = false := fun j => zqb k8
    have f80 := fz 0
    have f81 := fz 1
    have f82 := fz 2
    clear fz k8 k9 hm
    go_wp2
    exact ⟨rfl, HX0.out _ _ _ HM.out ⟨_, _, _, _, _, _, _, _, _, _, _, _, _, _, _, _, _, _, _, _, _, _, _, _, _, _, _, _, _, _, _, _, _, _, _, _, _, _, _, _, _, _, _, _, _, _, _, _, _, _, rfl, rfl⟩⟩
  rintro _ _ w ⟨q4, q5, q6, q10, q11, q13, q14, q15, q16, q17, q18, q19, q20, q21, q22, q23, q24, q25, q26, q27, q28, q29, q30, q31, q32, q33, q34, q35, q36, q37, q38, q39, q40, q41, q42, q43, q44, q45, q46, q47, q48, q49, q50, q51, q52, q53, q54, q55, q56, q57, rfl, rfl⟩ hA
  refine wpY_ret Y.jc ?_
  refine YSys.left hA (v := .agg #[.bool ok, .int .i64 x, .slice none 0 0]) (fun wc hB => ?_) fun w hA => ?_
  · exact results_cell_row rfl _ wc b8 43 _ _ _ rfl (hB.own.box b8 _ (upB_same _ _ _)) rfl rfl rfl
  · exact ⟨⟨ok, x, []⟩, fun _ => none, AnsV.plain _ _ _, fun b hb => absurd rfl hb, hA.drop (upB_keep HF.out.2.2 HN.out.1)⟩
end
theorem make_stripes (w : World) (W : Nat) (hW : W ≤ 1099511627776) : (Instr.makeSlice 61 (.int .i64 W) (.int .i64 W)).run Try.prog w = .ok (.slice (some ⟨w.heap.size, 0, none⟩) W W) (w.alloc (.cells (Array.replicate W (.int .i64 0)) 60)) := by
 obtain ⟨ti, hti, hz0, hz1, hz2⟩ : ∃ ti, Try.prog.info? 60 = some ti ∧ ti.zero.map (·.cells) = some #[.int .i64 0] ∧ ti.size = 1 ∧ ti.bytes = 8 := ⟨_, rfl, by rfl, rfl, rfl⟩
 obtain ⟨z, hz, hzc⟩ : ∃ z, ti.zero = some z ∧ z.cells = #[.int .i64 0] := by
  cases h : ti.zero with
  | none => rw [h] at hz0; cases hz0
  | some z => rw [h] at hz0; exact ⟨z, rfl, by simpa using hz0⟩
 have := run_make (P := Try.prog) w 61 60 ti z (by kernel_rfl) hti hz .i64 .i64 W W (by omega) (Int.le_refl _) (by rw [hz2]; omega) (by omega)
 simp only [Int.toNat_natCast, hz1, Nat.mul_one] at this
 rw [this]
 congr 3
 rw [hzc]
 apply Array.ext_getElem?
 intro i
 by_cases hi : i < W
 · simp [madeCells, hi, Nat.mod_one]
 · simp [madeCells, hi]
def stripesN (x : Int) : Nat := (min (max x 1) 64).toNat
theorem stripesN_pos (x : Int) : 0 < stripesN x ∧ stripesN x ≤ 64 := by unfold stripesN; omega
structure NewStr (w : World) (N : Nat) (l : List Int) (w' : World) : Prop where
 rep : StrRep (w.heap.size + 1) (some w.heap.size) N l w'
 size : w'.heap.size = w.heap.size + 2
 old : ∀ b, b < w.heap.size → w'.heap[b]? = w.heap[b]?
theorem NewStr.made (w : World) {N : Nat} (h0 : 0 < N) (h1 : N ≤ 64) : NewStr w N (List.replicate N 0) ((w.alloc (.cells (Array.replicate N (.int .i64 0)) 60)).alloc (.cells #[.int .i64 0, .slice (some ⟨w.heap.size, 0, none⟩) N N] 63)) := by
 refine ⟨⟨by simp, h0, h1, ?_, fun mb hm => ?_, fun h => (by cases h)⟩, by simp only [zqc], fun b hb => ?_⟩
 · rw [zq9, if_pos (by simp only [zqc])]; rfl
 · cases hm
   refine (al_old (al_new w _)).trans ?_
   simp
 · rw [zq9, if_neg (by simp only [zqc]; omega), zq9, if_neg (by omega)]
theorem NewStr.re {w w' : World} {N : Nat} {l : List Int} (h : NewStr w N l w') (τ : Nat → Question → Nat) (d : Nat) : NewStr w N l (Go.Car.re w' τ d) := ⟨(strCore _ _ _).frame _ _ _ h.rep fun _ _ => rfl, h.size, h.old⟩
theorem new_lone (x : Int) (w : World) : Calls Try.prog 12 #[.int .i64 x] w fun e w' => e = .returned (.pointer (some ⟨w.heap.size + 1, 0, none⟩)) ∧ NewStr w (stripesN x) (List.replicate (stripesN x) 0) w' := by
 have hp := stripesN_pos x
 have H1 := Lib.hid (NewStr.made w hp.1 hp.2)
 have e1 : min (max x 1) 64 = ((stripesN x : Nat) : Int) := by unfold stripesN; omega
 have hm := make_stripes w (stripesN x) (by omega)
 generalize stripesN x = N at hp H1 e1 hm ⊢
 go_enter Try.func12, Try.ntmps12
 rcases (by omega : x < 1 ∨ (1 ≤ x ∧ x ≤ 64) ∨ 64 < x) with hc | ⟨hc, hc'⟩ | hc
 · have e2 : (N : Int) = 1 := by omega
   have h1 : x ≤ 1 := by omega
   rw [e2] at hm
   have E := Lib.hid (And.intro e1 (And.intro e2 hp))
   clear e1 e2 hp
   go_wp2
   go_ret
   exact ⟨rfl, H1.out⟩
 · have e2 : (N : Int) = x := by omega
   rw [e2] at hm
   have E := Lib.hid (And.intro e1 (And.intro e2 hp))
   clear e1 e2 hp
   go_wp2
   go_ret
   exact ⟨rfl, H1.out⟩
 · have e2 : (N : Int) = 64 := by omega
   have h1 : 1 ≤ x := by omega
   have h2 : ¬ x ≤ 64 := by omega
   rw [e2] at hm
   have E := Lib.hid (And.intro e1 (And.intro e2 hp))
   clear e1 e2 hp
   go_wp2
   go_ret
   exact ⟨rfl, H1.out⟩
structure IntsRes (w : World) (l : List Int) (v : Value) (w' : World) : Prop where
 size : w.heap.size ≤ w'.heap.size
 old : ∀ b, b < w.heap.size → w'.heap[b]? = w.heap[b]?
 row : w'.ownsRow w.heap.size 2 1 v l.length (l.map (Value.int .i64))
theorem IntsRes.re {w w' : World} {l : List Int} {v : Value} (h : IntsRes w l v w') (τ : Nat → Question → Nat) (d : Nat) : IntsRes w l v (Go.Car.re w' τ d) := ⟨h.size, h.old, h.row⟩
section
variable {cb : Nat} {z : Option Nat} {N : Nat} {l : List Int} {w : World}
theorem idx_nat {k N : Nat} (h : k < N) : idx k N = k := by
 unfold idx
 rw [Int.emod_eq_of_lt (by omega) (by omega)]
 omega
theorem all_lone (h : StrRep cb z N l w) : Calls Try.prog 17 #[.pointer (some ⟨cb, 0, none⟩)] w fun e w' => ∃ v, e = .returned v ∧ IntsRes w l v w' := by
 have hl := h.len
 have hp := h.pos
 have hle := h.le
 have HS := Lib.hid h
 have hs := stripes_lone h.head
 have HC := Lib.hid (fun (w' : World) (hh : ∀ b, b < w.heap.size → w'.heap[b]? = w.heap[b]?) => (strCore cb z N).frame _ _ _ h (fun b hb => hh b ((strCore cb z N).lt _ _ _ h hb)))
 clear h
 go_enter Try.func17, Try.ntmps17
 go_wp2_with (fail)
 refine Calls.mono hs ?_
 rintro e w' ⟨rfl, rfl⟩
 go_wp2_with (fail)
 clear hs
 have hN1 : (0 : Int) < N := by omega
 go_loopg [3, 7] N (fun k s i wr => ∃ (j : Nat) (v : Value), v = s ∧ k = N - j ∧ j ≤ N ∧ i = .int .i64 j ∧ IntsRes w' (l.take j) v wr)
 case atStart => exact ⟨0, .slice none 0 0, rfl, rfl, Nat.zero_le _, rfl, Nat.le_refl _, fun _ _ => rfl, World.ownsRow_nil _ _ _ _⟩
 case round =>
  obtain ⟨j, v, hv, hk, hj, rfl, hR⟩ := hrel
  subst hv
  have HR := Lib.hid hR
  clear hR
  by_cases hlt : j < N
  · have hlt' : (j : Int) < (N : Int) := by omega
    have hj0 : (0 : Int) ≤ j := by omega
    have hRep := HC.out wr HR.out.old
    have hst := stripe_lone hRep.head (j : Int)
    obtain ⟨ad, had⟩ : ∃ ad, loc cb z N j = ad := ⟨_, rfl⟩
    have hcl := hRep.cell (j : Int)
    rw [had] at hst hcl
    have HCL := Lib.hid hcl
    clear hRep hcl
    go_wp2_with (fail)
    refine Calls.mono hst ?_
    rintro e w2 ⟨rfl, τ, d, rfl⟩
    have hld := load_lone ad (l.getD (idx j N) 0) (re wr τ d) HCL.out
    go_wp2_with (fail)
    refine Calls.mono hld ?_
    rintro e w2 ⟨rfl, rfl⟩
    obtain ⟨tj, htj, hy0, hy1, hy2⟩ : ∃ ti, Try.prog.info? 2 = some ti ∧ ti.zero = some (.int .i64 0) ∧ ti.size = 1 ∧ ti.bytes = 8 := ⟨_, rfl, rfl, rfl, rfl⟩
    have TJ := Lib.hid (And.intro htj (And.intro hy0 (And.intro hy1 hy2)))
    clear htj hy0 hy1 hy2 hld hst
    have hrow : (re wr τ d).ownsRow w'.heap.size 2 1 v j ((l.take j).map (Value.int .i64)) := by
     have := (HR.out.re τ d).row
     rwa [show (l.take j).length = j by simp; omega] at this
    have HRW := Lib.hid hrow
    clear hrow
    have hsz := HR.out.size
    have HLT := Lib.hid (And.intro hlt (And.intro hl hle))
    go_wp2_with (at_builtin; go_loud (refine wpList_append_lies _ rfl (.tmp 10) (.tmp 15) 22 rfl w'.heap.size 2 tj (.int .i64 0) 1 8 (by kernel_rfl) TJ.out.1 TJ.out.2.1 TJ.out.2.2.1 TJ.out.2.2.2 rfl (by decide) _ j ((l.take j).map (Value.int .i64)) rfl (row_allocK HRW.out _) _ 1 1 [.int .i64 (l.getD (idx (↑j) N) 0)] rfl rfl (one_new rfl) (by simp [Value.oneCell']) (by decide) (by simp only [maxLen]; omega) (by omega) (by rw [zqc]; show w'.heap.size ≤ wr.heap.size + 1; omega) _ rfl ?next))
    case next =>
     intro g7 cap7 w7 hown7 hgrow7 hat7 hlt7
     have L7 := Lib.hid (And.intro hown7 (And.intro hgrow7 hat7))
     clear hown7 hgrow7 hat7 hlt7
     go_wp2
     go_roundg (N - (j + 1))
     case measure => omega
     case rel =>
      obtain ⟨o7, q7, a7⟩ := L7.out
      have hne : ∀ b, b < w'.heap.size → v.ownBlock ≠ some b := fun b hb e => by have := (own_lt HRW.out e).2.1; omega
      have e1 : (l.take (j + 1)).length = j + 1 := by simp; omega
      refine ⟨j + 1, _, rfl, rfl, by omega, rfl, ?_, fun b hb => ?_, ?_⟩
      · have := q7.size; rw [zqc] at this; exact Nat.le_trans hsz (Nat.le_trans (Nat.le_succ _) this)
      · rw [q7.block b (by rw [zqc]; show b < wr.heap.size + 1; omega) (fun e => hne b hb e.symm), zq9, if_neg (by show b ≠ wr.heap.size; omega)]
        exact HR.out.old b hb
      · rw [e1]
        have e2 : (l.take (j + 1)).map (Value.int .i64) = (l.take j).map (Value.int .i64) ++ [.int .i64 (l.getD (idx (↑j) N) 0)] := by
         rw [idx_nat hlt, List.take_add_one, List.map_append]
         simp [show j < l.length by omega]
        rw [e2, List.map_take]
        exact o7
  · obtain rfl : j = N := by omega
    have hlt' : ¬ (j : Int) < (j : Int) := by omega
    go_wp2
    go_ret
    refine ⟨_, rfl, ?_⟩
    have := HR.out
    rwa [List.take_of_length_le (by omega)] at this
def totalL (l : List Int) : Int := l.foldl (fun a v => wrap64 (a + v)) 0
theorem totalL_snoc (l : List Int) (x : Int) : totalL (l ++ [x]) = wrap64 (totalL l + x) := by simp [totalL]
theorem total_lone (h : StrRep cb z N l w) : Calls Try.prog 18 #[.pointer (some ⟨cb, 0, none⟩)] w fun e w' => e = .returned (.int .i64 (totalL l)) ∧ w.heap.size ≤ w'.heap.size ∧ ∀ b, b < w.heap.size → w'.heap[b]? = w.heap[b]? := by
 have hl := h.len
 have hle := h.le
 have hs := all_lone h
 clear h
 go_enter Try.func18, Try.ntmps18
 go_wp2_with (fail)
 refine Calls.mono hs ?_
 rintro e w1 ⟨v, rfl, hR⟩
 clear hs
 obtain ⟨p, C, rfl, -, -⟩ := own_slice hR.row
 have HRW := Lib.hid (And.intro hR.size hR.old)
 have HP : RowKit.Hid (0 < l.length → ∃ g, p = some ⟨g, 0, none⟩ ∧ ∀ i x, l[i]? = some x → w1.cell? ⟨g, i, none⟩ = some (.int .i64 x)) := by
  refine Lib.hid (fun h0 => ?_)
  rcases hR.row.2 with ⟨hv, h1⟩ | ⟨g, cap, cur, hv, hb, hh, h1, h2, h3, h4⟩
  · omega
  · cases hv
    refine ⟨g, rfl, fun i x hx => ?_⟩
    rw [zq1 hh]
    have hi := (List.getElem?_eq_some_iff.1 hx).1
    have e : (l.map (Value.int .i64))[i]? = some (.int .i64 x) := by simp [hx]
    rw [← h4, List.getElem?_take, if_pos (by omega)] at e
    simpa using e
 clear hR
 obtain ⟨n, hn⟩ : ∃ n, l.length = n := ⟨_, rfl⟩
 rw [hn] at hl HP ⊢
 have HN := Lib.hid (And.intro hn (And.intro hl hle))
 clear hn hl hle
 go_wp2_with (fail)
 go_loopg [3, 9] n (fun k s i wr => ∃ (j : Nat), k = n - j ∧ j ≤ n ∧ i = .int .i64 j ∧ s = .int .i64 (totalL (l.take j)) ∧ wr = w1)
 case atStart => exact ⟨0, rfl, Nat.zero_le _, rfl, rfl, rfl⟩
 case round =>
  obtain ⟨j, hk, hj, rfl, rfl, rfl⟩ := hrel
  obtain ⟨hn, hl, hle⟩ := HN.out
  by_cases hlt : j < n
  · obtain ⟨g, rfl, hc⟩ := HP.out (by omega)
    have hlt' : (j : Int) < (n : Int) := by omega
    have hj0 : (0 : Int) ≤ j := by omega
    obtain ⟨x, hx⟩ : ∃ x, l[j]? = some x := ⟨_, List.getElem?_eq_getElem (by omega)⟩
    have c1 := hc j x hx
    have HX := Lib.hid (And.intro hx (And.intro hn (And.intro hl hle)))
    have e1 : IntKind.i64.wrap ((j : Int) + 1) = ((j + 1 : Nat) : Int) := by rw [IntWalk.i64_in _ (by omega)]; omega
    clear hc hx hn hl hle
    obtain ⟨acc, hacc⟩ : ∃ acc, totalL (l.take j) = acc := ⟨_, rfl⟩
    rw [hacc]
    have HA := Lib.hid hacc
    clear hacc
    go_wp2
    go_roundg (n - (j + 1))
    case measure => omega
    case rel =>
     obtain ⟨hx, hn, hl, hle⟩ := HX.out
     refine ⟨j + 1, rfl, by omega, by simp, ?_, rfl⟩
     rw [List.take_add_one, hx, Option.toList_some, totalL_snoc, HA.out]
  · obtain rfl : j = n := by omega
    have hlt' : ¬ (j : Int) < (j : Int) := by omega
    have e2 : l.take j = l := List.take_of_length_le (by omega)
    rw [e2]
    clear hn hl hle
    go_wp2
    go_ret
    exact ⟨rfl, HRW.out⟩
end
theorem stripes_none (w : World) : Calls Try.prog 13 #[.pointer none] w fun e w' => e = .returned (.int .i64 0) ∧ w' = w := by
 go_enter Try.func13, Try.ntmps13
 go_wp2
 go_ret
 exact ⟨rfl, rfl⟩
theorem all_none (w : World) : Calls Try.prog 17 #[.pointer none] w fun e w' => e = .returned (.slice none 0 0) ∧ w' = w := by
 have hs := stripes_none w
 go_enter Try.func17, Try.ntmps17
 go_wp2_with (fail)
 refine Calls.mono hs ?_
 rintro e w' ⟨rfl, rfl⟩
 go_wp2_with (fail)
 clear hs
 go_loopg [3, 7] 0 (fun k s i wr => s = .slice none 0 0 ∧ i = .int .i64 0 ∧ wr = w')
 case atStart => exact ⟨rfl, rfl, rfl⟩
 case round =>
  obtain ⟨rfl, rfl, rfl⟩ := hrel
  go_wp2
  go_ret
  exact ⟨rfl, rfl⟩
theorem total_none (w : World) : Calls Try.prog 18 #[.pointer none] w fun e w' => e = .returned (.int .i64 0) ∧ w' = w := by
 have hs := all_none w
 go_enter Try.func18, Try.ntmps18
 go_wp2_with (fail)
 refine Calls.mono hs ?_
 rintro e w' ⟨rfl, rfl⟩
 go_wp2_with (fail)
 clear hs
 go_loopg [3, 9] 0 (fun k s i wr => s = .int .i64 0 ∧ i = .int .i64 0 ∧ wr = w')
 case atStart => exact ⟨rfl, rfl, rfl⟩
 case round =>
  obtain ⟨rfl, rfl, rfl⟩ := hrel
  go_wp2
  go_ret
  exact ⟨rfl, rfl⟩
section
variable {Ml S β : Type} {C : Core Ml S} {ro : Nat → Option Obj} {i : Nat}
theorem add_none (Y : YSys Try.prog aM C ro i β) (sv : Value) (a v : Int) : SpecB Y 21 #[.pointer none, sv, .int .i64 a, .int .i64 v] (Proc.ret 0) (fun x => .int .i64 x) := by
 refine SpecB.of Try.func21 rfl ?_
 intro K s B w hK hA
 simp only [enterAct, Try.ntmps21, List.size_toArray, List.length_cons, List.length_nil, Nat.reduceAdd, Nat.reduceSub, Array.replicate_succ, Array.replicate_zero, List.push_toArray, List.append_toArray, List.nil_append, List.cons_append]
 apply YSys.seq0 hA (by kernel_rfl)
 · intro wc hB
   go_wp2
   exact ⟨rfl, Ext1.refl _, rfl⟩
 intro w hA
 refine wpY_seq Y.jc ?_
 apply YSys.seq0 hA (by kernel_rfl)
 · intro wc hB
   go_wp2
   exact ⟨rfl, Ext1.refl _, rfl⟩
 intro w hA
 refine wpY_cond Y.jc rfl ?_
 rw [if_pos rfl]
 apply YSys.seq0 hA (by kernel_rfl)
 · intro wc hB
   go_wp2
   exact ⟨rfl, Ext1.refl _, rfl⟩
 intro w hA
 refine wpY_ret Y.jc ?_
 exact ⟨rfl, .inl ⟨_, resultsC_tmp rfl _, _, rfl, hA⟩⟩
theorem sum_none (Y : YSys Try.prog aM C ro i β) (sv : Value) : SpecB Y 22 #[.pointer none, sv] (Proc.ret 0) (fun x => .int .i64 x) := by
 refine SpecB.of Try.func22 rfl ?_
 intro K s B w hK hA
 simp only [enterAct, Try.ntmps22, List.size_toArray, List.length_cons, List.length_nil, Nat.reduceAdd, Nat.reduceSub, Array.replicate_succ, Array.replicate_zero, List.push_toArray, List.append_toArray, List.nil_append, List.cons_append]
 apply YSys.seq0 hA (by kernel_rfl)
 · intro wc hB
   go_wp2
   exact ⟨rfl, Ext1.refl _, rfl⟩
 intro w hA
 apply YSys.seq0 hA (by kernel_rfl)
 · intro wc hB
   go_wp2
   exact ⟨rfl, Ext1.refl _, rfl⟩
 intro w hA
 refine wpY_seq Y.jc ?_
 apply YSys.seq0 hA (by kernel_rfl)
 · intro wc hB
   go_wp2_with (fail)
   refine Calls.mono (stripes_none wc) ?_
   rintro e w1 ⟨rfl, rfl⟩
   go_wp2
   exact ⟨rfl, Ext1.refl _, rfl⟩
 intro w hA
 refine wpY_block Y.jc (wpY_loop Y.jc (fun s a w n => ∃ (x2 x3 x6 x10 x11 x12 x13 x14 x15 x16 x17 x18 x19 x20 x21 : Value), a = ⟨#[.pointer none, sv, x2, x3, .int .i64 0, .int .i64 0, x6, .pointer none, .int .i64 0, .int .i64 0, x10, x11, x12, x13, x14, x15, x16, x17, x18, x19, x20, x21], []⟩ ∧ Y.AtB B s w ((Proc.ret 0).bind K)) 0 ?_ ?_)
 · exact ⟨_, _, _, _, _, _, _, _, _, _, _, _, _, _, _, rfl, hA⟩
 rintro s a w n ⟨x2, x3, x6, x10, x11, x12, x13, x14, x15, x16, x17, x18, x19, x20, x21, rfl, hA⟩
 apply YSys.seq0 hA (by kernel_rfl)
 · intro wc hB
   go_wp2
   exact ⟨rfl, Ext1.refl _, rfl⟩
 intro w hA
 refine wpY_seq Y.jc (wpY_cond Y.jc rfl ?_)
 rw [if_neg (by decide)]
 refine wpY_exit Y.jc ?_
 show wpJ Y.J _ _ _ _ _
 apply YSys.seq0 hA (by kernel_rfl)
 · intro wc hB
   go_wp2
   exact ⟨rfl, Ext1.refl _, rfl⟩
 intro w hA
 refine wpY_ret Y.jc ?_
 exact ⟨rfl, .inl ⟨_, resultsC_tmp rfl _, _, rfl, hA⟩⟩
theorem take_none (Y : YSys Try.prog aM C ro i β) (sv : Value) : SpecB Y 23 #[.pointer none, sv] (Proc.ret 0) (fun x => .int .i64 x) := by
 refine SpecB.of Try.func23 rfl ?_
 intro K s B w hK hA
 simp only [enterAct, Try.ntmps23, List.size_toArray, List.length_cons, List.length_nil, Nat.reduceAdd, Nat.reduceSub, Array.replicate_succ, Array.replicate_zero, List.push_toArray, List.append_toArray, List.nil_append, List.cons_append]
 apply YSys.seq0 hA (by kernel_rfl)
 · intro wc hB
   go_wp2
   exact ⟨rfl, Ext1.refl _, rfl⟩
 intro w hA
 apply YSys.seq0 hA (by kernel_rfl)
 · intro wc hB
   go_wp2
   exact ⟨rfl, Ext1.refl _, rfl⟩
 intro w hA
 refine wpY_seq Y.jc ?_
 apply YSys.seq0 hA (by kernel_rfl)
 · intro wc hB
   go_wp2_with (fail)
   refine Calls.mono (stripes_none wc) ?_
   rintro e w1 ⟨rfl, rfl⟩
   go_wp2
   exact ⟨rfl, Ext1.refl _, rfl⟩
 intro w hA
 refine wpY_block Y.jc (wpY_loop Y.jc (fun s a w n => ∃ (x2 x3 x6 x10 x11 x12 x13 x14 x15 x16 x17 x18 x19 x20 x21 : Value), a = ⟨#[.pointer none, sv, x2, x3, .int .i64 0, .int .i64 0, x6, .pointer none, .int .i64 0, .int .i64 0, x10, x11, x12, x13, x14, x15, x16, x17, x18, x19, x20, x21], []⟩ ∧ Y.AtB B s w ((Proc.ret 0).bind K)) 0 ?_ ?_)
 · exact ⟨_, _, _, _, _, _, _, _, _, _, _, _, _, _, _, rfl, hA⟩
 rintro s a w n ⟨x2, x3, x6, x10, x11, x12, x13, x14, x15, x16, x17, x18, x19, x20, x21, rfl, hA⟩
 apply YSys.seq0 hA (by kernel_rfl)
 · intro wc hB
   go_wp2
   exact ⟨rfl, Ext1.refl _, rfl⟩
 intro w hA
 refine wpY_seq Y.jc (wpY_cond Y.jc rfl ?_)
 rw [if_neg (by decide)]
 refine wpY_exit Y.jc ?_
 show wpJ Y.J _ _ _ _ _
 apply YSys.seq0 hA (by kernel_rfl)
 · intro wc hB
   go_wp2
   exact ⟨rfl, Ext1.refl _, rfl⟩
 intro w hA
 refine wpY_ret Y.jc ?_
 exact ⟨rfl, .inl ⟨_, resultsC_tmp rfl _, _, rfl, hA⟩⟩
theorem move_none (Y : YSys Try.prog aM C ro i β) (sv : Value) (a b v : Int) : SpecB Y 30 #[.pointer none, sv, .int .i64 a, .int .i64 b, .int .i64 v] (Proc.ret ()) (fun _ => .tuple #[]) := by
 refine SpecB.of Try.func30 rfl ?_
 intro K s B w hK hA
 simp only [enterAct, Try.ntmps30, List.size_toArray, List.length_cons, List.length_nil, Nat.reduceAdd, Nat.reduceSub, Array.replicate_succ, Array.replicate_zero, List.push_toArray, List.append_toArray, List.nil_append, List.cons_append]
 replace hA : Y.AtB B s w ((Proc.ret (0 : Int)).bind fun _ => (Proc.ret (0 : Int)).bind fun _ => K ()) := hA
 refine wpY_seq Y.jc (wpY_region Y.jc ?_)
 apply YSys.callR 0 5 0 hA (add_none Y sv a (wrap64 (-v))).spec (fun _ => hK _) rfl rfl rfl (by rfl) rfl rfl rfl
 · intro wc hB X hX
   have HX := Lib.hid hX
   clear hX
   go_wp2
   exact HX.out _ (Ext1.refl _)
 · intro w
   simp [go_sem, execOp, Act.eval, resolve, Deferred.ofValue, invoke, callFunc, Try.func21, Try.f21]
 · intro w
   simp [go_sem, execOp, Act.eval, resolve, Deferred.ofValue, invoke, callFunc, Try.func21, Try.f21]
 · intro s' ch w' h
   exact ⟨rfl, h⟩
 intro s x w hA
 refine opsC_nil Y.jc ?_
 show wpJ Y.J _ _ _ _ _
 refine wpY_region Y.jc ?_
 apply YSys.callR 0 4 0 hA (add_none Y sv b v).spec (fun _ => hK _) rfl rfl rfl (by rfl) rfl rfl rfl
 · intro wc hB X hX
   have HX := Lib.hid hX
   clear hX
   go_wp2
   exact HX.out _ (Ext1.refl _)
 · intro w
   simp [go_sem, execOp, Act.eval, resolve, Deferred.ofValue, invoke, callFunc, Try.func21, Try.f21]
 · intro w
   simp [go_sem, execOp, Act.eval, resolve, Deferred.ofValue, invoke, callFunc, Try.func21, Try.f21]
 · intro s' ch w' h
   exact ⟨rfl, h⟩
 intro s x w hA
 refine opsC_nil Y.jc ?_
 exact ⟨rfl, .inl ⟨_, resultsC_none rfl _, (), rfl, hA⟩⟩
theorem even_none (Y : YSys Try.prog aM C ro i β) (sv : Value) : SpecB Y 20 #[.pointer none, sv] (Proc.ret (0, false)) evenV := by
 refine SpecB.of Try.func20 rfl ?_
 intro K s B w hK hA
 simp only [enterAct, Try.ntmps20, List.size_toArray, List.length_cons, List.length_nil, Nat.reduceAdd, Nat.reduceSub, Array.replicate_succ, Array.replicate_zero, List.push_toArray, List.append_toArray, List.nil_append, List.cons_append]
 apply YSys.seq0 hA (by kernel_rfl)
 · intro wc hB
   go_wp2
   exact ⟨rfl, Ext1.refl _, rfl⟩
 intro w hA
 refine wpY_seq Y.jc ?_
 apply YSys.seq0 hA (by kernel_rfl)
 · intro wc hB
   go_wp2
   exact ⟨rfl, Ext1.refl _, rfl⟩
 intro w hA
 refine wpY_cond Y.jc rfl ?_
 rw [if_pos rfl]
 apply YSys.seq0 hA (by kernel_rfl)
 · intro wc hB
   go_wp2
   exact ⟨rfl, Ext1.refl _, rfl⟩
 intro w hA
 refine wpY_ret Y.jc ?_
 exact ⟨rfl, .inl ⟨_, resultsC_tmp2 rfl _, _, rfl, hA⟩⟩
end
def AnsP (a : Ans) (v : Value) (X : Nat → Option Obj) : Prop := v = .agg #[.bool a.ok, .int .i64 a.n, .slice none 0 0] ∧ a.l = [] ∧ X = fun _ => none
def callP {S : Type} (pA : Int → Int → Proc S Int) (pS pT : Proc S Int) (pM : Int → Int → Int → Proc S Unit) (pE : Proc S (Int × Bool)) (op : OpX) : Proc S Ans :=
 if op.k = 1 then (pA op.a op.b).bind fun x => Proc.ret ⟨true, x, []⟩
 else if op.k = 2 then pS.bind fun x => Proc.ret ⟨true, x, []⟩
 else if op.k = 3 then pT.bind fun x => Proc.ret ⟨true, x, []⟩
 else if op.k = 4 then (pM op.a op.b op.c).bind fun _ => Proc.ret ⟨true, 0, []⟩
 else if op.k = 5 then pE.bind fun x => Proc.ret ⟨x.2, x.1, []⟩
 else Proc.ret Ans.none
section
variable {Ml S β : Type} {C : Core Ml S} {ro : Nat → Option Obj} {i : Nat} {pA : Int → Int → Proc S Int} {pS pT : Proc S Int} {pM : Int → Int → Int → Proc S Unit} {pE : Proc S (Int × Bool)}
theorem call_spec (Y : YSys Try.prog aM C ro i β) {pc sv : Value} (hadd : ∀ a v, SpecY Y 21 #[pc, sv, .int .i64 a, .int .i64 v] (pA a v) (fun x => .int .i64 x)) (hsum : SpecY Y 22 #[pc, sv] pS (fun x => .int .i64 x)) (htake : SpecY Y 23 #[pc, sv] pT (fun x => .int .i64 x)) (hmove : ∀ a b v, SpecY Y 30 #[pc, sv, .int .i64 a, .int .i64 b, .int .i64 v] (pM a b v) (fun _ => .tuple #[])) (heven : SpecY Y 20 #[pc, sv] pE evenV) (op : OpX) :
 SpecR Y 14 #[pc, sv, op.val] (callP pA pS pT pM pE op) AnsP := by
 refine SpecR.of Try.func14 rfl ?_
 intro K s B w hK hA
 simp only [enterAct, Try.ntmps14, List.size_toArray, List.length_cons, List.length_nil, Nat.reduceAdd, Nat.reduceSub, Array.replicate_succ, Array.replicate_zero, List.push_toArray, List.append_toArray, List.nil_append, List.cons_append]
 have HKK := Lib.hid hK
 clear hK
 refine wpY_seq Y.jc (wpY_region Y.jc ?_)
 refine YSys.preX 0 1 1 (fun t B' => ∃ (b7 : Nat) (x3 x4 x6 x7 x8 x9 x10 x11 x12 x13 x14 x15 x16 x17 x18 x19 x20 x21 x22 x23 x24 x25 x26 x27 x28 x29 x30 x31 x32 x33 x34 x35 x36 x37 x38 x39 x40 x41 x42 x43 x44 x45 x46 x47 x48 x49 x50 x51 x52 x53 x54 x55 : Value), t = #[pc, sv, op.val, x3, x4, .pointer (some ⟨b7, 0, none⟩), x6, x7, x8, x9, x10, x11, x12, x13, x14, x15, x16, x17, x18, x19, x20, x21, x22, x23, x24, x25, x26, x27, x28, x29, x30, x31, x32, x33, x34, x35, x36, x37, x38, x39, x40, x41, x42, x43, x44, x45, x46, x47, x48, x49, x50, x51, x52, x53, x54, x55] ∧ B b7 = none ∧ B' = upB B b7 (.cells op.cells.toArray 46)) hA rfl rfl rfl rfl ?_ ?_
 · intro wc hB X0 hX0
   have HX0 := Lib.hid hX0
   clear hX0
   have hm := OMoved.push (o := .cells op.cells.toArray 46) hB.own (Ext1.alloc wc (.cells op.cells.toArray 46)) (Nat.le_refl _) (by rw [zq9]; simp)
   have hf := hB.own.fresh (Nat.le_refl _)
   have HM := Lib.hid (And.intro hm hf)
   clear hm hf
   unfold OpX.val
   go_wp2
   exact HX0.out _ _ _ HM.out.1 ⟨_, _, _, _, _, _, _, _, _, _, _, _, _, _, _, _, _, _, _, _, _, _, _, _, _, _, _, _, _, _, _, _, _, _, _, _, _, _, _, _, _, _, _, _, _, _, _, _, _, _, _, _, _, rfl, HM.out.2, rfl⟩
 clear hA
 rintro _ _ w ⟨b7, x3, x4, x6, x7, x8, x9, x10, x11, x12, x13, x14, x15, x16, x17, x18, x19, x20, x21, x22, x23, x24, x25, x26, x27, x28, x29, x30, x31, x32, x33, x34, x35, x36, x37, x38, x39, x40, x41, x42, x43, x44, x45, x46, x47, x48, x49, x50, x51, x52, x53, x54, x55, rfl, hb7, rfl⟩ hA
 refine YSys.opsX 1 1 (fun t B' => ∃ (b8 : Nat) (x3 x4 x7 x8 x9 x10 x11 x12 x13 x14 x15 x16 x17 x18 x19 x20 x21 x22 x23 x24 x25 x26 x27 x28 x29 x30 x31 x32 x33 x34 x35 x36 x37 x38 x39 x40 x41 x42 x43 x44 x45 x46 x47 x48 x49 x50 x51 x52 x53 x54 x55 : Value), t = #[pc, sv, op.val, x3, x4, .pointer (some ⟨b7, 0, none⟩), .pointer (some ⟨b8, 0, none⟩), x7, x8, x9, x10, x11, x12, x13, x14, x15, x16, x17, x18, x19, x20, x21, x22, x23, x24, x25, x26, x27, x28, x29, x30, x31, x32, x33, x34, x35, x36, x37, x38, x39, x40, x41, x42, x43, x44, x45, x46, x47, x48, x49, x50, x51, x52, x53, x54, x55] ∧ upB B b7 (.cells op.cells.toArray 46) b8 = none ∧ B' = upB (upB B b7 (.cells op.cells.toArray 46)) b8 (.cells #[.bool false, .int .i64 0, .slice none 0 0] 43)) hA rfl rfl (by kernel_rfl) ?_ ?_
 · intro wc hB X0 hX0
   have HX0 := Lib.hid hX0
   clear hX0
   have hm := OMoved.push (o := .cells #[.bool false, .int .i64 0, .slice none 0 0] 43) hB.own (Ext1.alloc wc (.cells #[.bool false, .int .i64 0, .slice none 0 0] 43)) (Nat.le_refl _) (by rw [zq9]; simp)
   have hf := hB.own.fresh (Nat.le_refl _)
   have HM := Lib.hid (And.intro hm hf)
   clear hm hf
   go_wp2
   exact ⟨rfl, HX0.out _ _ _ HM.out.1 ⟨_, _, _, _, _, _, _, _, _, _, _, _, _, _, _, _, _, _, _, _, _, _, _, _, _, _, _, _, _, _, _, _, _, _, _, _, _, _, _, _, _, _, _, _, _, _, _, _, _, _, _, _, rfl, HM.out.2, rfl⟩⟩
 clear hA
 rintro _ _ w ⟨b8, x3, x4, x7, x8, x9, x10, x11, x12, x13, x14, x15, x16, x17, x18, x19, x20, x21, x22, x23, x24, x25, x26, x27, x28, x29, x30, x31, x32, x33, x34, x35, x36, x37, x38, x39, x40, x41, x42, x43, x44, x45, x46, x47, x48, x49, x50, x51, x52, x53, x54, x55, rfl, hb8, rfl⟩ hA
 show wpJ Y.J _ _ _ _ _
 refine YSys.seqX (fun t B' => ∃ (b9 : Nat) (x3 x4 x8 x9 x10 x11 x12 x13 x14 x15 x16 x17 x18 x19 x20 x21 x22 x23 x24 x25 x26 x27 x28 x29 x30 x31 x32 x33 x34 x35 x36 x37 x38 x39 x40 x41 x42 x43 x44 x45 x46 x47 x48 x49 x50 x51 x52 x53 x54 x55 : Value), t = #[pc, sv, op.val, x3, x4, .pointer (some ⟨b7, 0, none⟩), .pointer (some ⟨b8, 0, none⟩), .pointer (some ⟨b9, 0, none⟩), x8, x9, x10, x11, x12, x13, x14, x15, x16, x17, x18, x19, x20, x21, x22, x23, x24, x25, x26, x27, x28, x29, x30, x31, x32, x33, x34, x35, x36, x37, x38, x39, x40, x41, x42, x43, x44, x45, x46, x47, x48, x49, x50, x51, x52, x53, x54, x55] ∧ upB (upB B b7 (.cells op.cells.toArray 46)) b8 (.cells #[.bool false, .int .i64 0, .slice none 0 0] 43) b9 = none ∧ B' = upB (upB (upB B b7 (.cells op.cells.toArray 46)) b8 (.cells #[.bool false, .int .i64 0, .slice none 0 0] 43)) b9 (.cells #[.bool true, .int .i64 0, .slice none 0 0] 43)) hA (by kernel_rfl) ?_ ?_
 · intro wc hB X0 hX0
   have HX0 := Lib.hid hX0
   clear hX0
   have hm := OMoved.push (o := .cells #[.bool true, .int .i64 0, .slice none 0 0] 43) hB.own (Ext1.alloc wc (.cells #[.bool true, .int .i64 0, .slice none 0 0] 43)) (Nat.le_refl _) (by rw [zq9]; simp)
   have hf := hB.own.fresh (Nat.le_refl _)
   have HM := Lib.hid (And.intro hm hf)
   clear hm hf
   go_wp2
   exact ⟨rfl, HX0.out _ _ _ HM.out.1 ⟨_, _, _, _, _, _, _, _, _, _, _, _, _, _, _, _, _, _, _, _, _, _, _, _, _, _, _, _, _, _, _, _, _, _, _, _, _, _, _, _, _, _, _, _, _, _, _, _, _, _, _, rfl, HM.out.2, rfl⟩⟩
 clear hA
 rintro _ _ w ⟨b9, x3, x4, x8, x9, x10, x11, x12, x13, x14, x15, x16, x17, x18, x19, x20, x21, x22, x23, x24, x25, x26, x27, x28, x29, x30, x31, x32, x33, x34, x35, x36, x37, x38, x39, x40, x41, x42, x43, x44, x45, x46, x47, x48, x49, x50, x51, x52, x53, x54, x55, rfl, hb9, rfl⟩ hA
 have h7 : upB (upB (upB B b7 (.cells op.cells.toArray 46)) b8 (.cells #[.bool false, .int .i64 0, .slice none 0 0] 43)) b9 (.cells #[.bool true, .int .i64 0, .slice none 0 0] 43) b7 = some (.cells op.cells.toArray 46) := upB_of (upB_of (upB_same _ _ _) (none_ne (upB_same _ _ _) hb8)) (none_ne (upB_of (upB_same _ _ _) (none_ne (upB_same _ _ _) hb8)) hb9)
 have h8 : upB (upB (upB B b7 (.cells op.cells.toArray 46)) b8 (.cells #[.bool false, .int .i64 0, .slice none 0 0] 43)) b9 (.cells #[.bool true, .int .i64 0, .slice none 0 0] 43) b8 = some (.cells #[.bool false, .int .i64 0, .slice none 0 0] 43) := upB_of (upB_same _ _ _) (none_ne (upB_same _ _ _) hb9)
 have h9 : upB (upB (upB B b7 (.cells op.cells.toArray 46)) b8 (.cells #[.bool false, .int .i64 0, .slice none 0 0] 43)) b9 (.cells #[.bool true, .int .i64 0, .slice none 0 0] 43) b9 = some (.cells #[.bool true, .int .i64 0, .slice none 0 0] 43) := upB_same _ _ _
 have hB8 : B b8 = none := Classical.byContradiction fun h => by
  cases ho : B b8 with
  | none => exact h ho
  | some o => rw [upB_le (o := .cells op.cells.toArray 46) hb7 b8 o ho] at hb8; cases hb8
 have hB9 : B b9 = none := Classical.byContradiction fun h => by
  cases ho : B b9 with
  | none => exact h ho
  | some o => rw [upB_keep (o := .cells #[.bool false, .int .i64 0, .slice none 0 0] 43) (upB_le (o := .cells op.cells.toArray 46) hb7) hB8 b9 o ho] at hb9; cases hb9
 have hle : ∀ x y, B x = some y → upB (upB (upB B b7 (.cells op.cells.toArray 46)) b8 (.cells #[.bool false, .int .i64 0, .slice none 0 0] 43)) b9 (.cells #[.bool true, .int .i64 0, .slice none 0 0] 43) x = some y := upB_keep (upB_keep (upB_le (o := .cells op.cells.toArray 46) hb7) hB8) hB9
 have h89 : b8 ≠ b9 := none_ne (upB_same _ _ _) hb9
 obtain ⟨B1, hB1⟩ : ∃ X, upB (upB (upB B b7 (.cells op.cells.toArray 46)) b8 (.cells #[.bool false, .int .i64 0, .slice none 0 0] 43)) b9 (.cells #[.bool true, .int .i64 0, .slice none 0 0] 43) = X := ⟨_, rfl⟩
 rw [hB1] at h7 h8 h9 hle hA
 have H7 := Lib.hid h7
 have H8 := Lib.hid h8
 have H9 := Lib.hid h9
 have HLE := Lib.hid hle
 have HN := Lib.hid (And.intro hB8 (And.intro hB9 h89))
 clear h7 h8 h9 hle hB1 hb7 hb8 hb9 hB8 hB9 h89
 show wpJ Y.J _ _ _ _ _
 refine wpY_cut Y.jc (fun s a w => ∃ (B2 : Nat → Option Obj) (ok : Bool) (x : Int) (x3 x4 x8 x9 x11 x12 x13 x14 x15 x16 x17 x18 x19 x20 x21 x22 x23 x24 x25 x26 x27 x28 x29 x30 x31 x32 x33 x34 x35 x36 x37 x38 x39 x40 x41 x42 x43 x44 x45 x46 x47 x48 x49 x50 x51 x52 x53 x54 x55 : Value), a = ⟨#[pc, sv, op.val, x3, x4, .pointer (some ⟨b7, 0, none⟩), .pointer (some ⟨b8, 0, none⟩), .pointer (some ⟨b9, 0, none⟩), x8, x9, .int .i64 op.k, x11, x12, x13, x14, x15, x16, x17, x18, x19, x20, x21, x22, x23, x24, x25, x26, x27, x28, x29, x30, x31, x32, x33, x34, x35, x36, x37, x38, x39, x40, x41, x42, x43, x44, x45, x46, x47, x48, x49, x50, x51, x52, x53, x54, x55], []⟩ ∧ (B2 b8 = some (.cells #[.bool false, .int .i64 0, .slice none 0 0] 43) ∧ B2 b9 = some (.cells #[.bool ok, .int .i64 x, .slice none 0 0] 43) ∧ ∀ x y, B x = some y → B2 x = some y) ∧ Y.AtB B2 s w (K ⟨ok, x, []⟩)) ?_ ?_
 ·
  apply YSys.seq0 hA (by kernel_rfl)
  · intro wc hB
    have c70 : wc.cell? ⟨b7, 0, none⟩ = some (.int .i64 op.k) := (zq1 (hB.own.box b7 _ H7.out)).trans rfl
    have c71 : wc.cell? ⟨b7, 1, none⟩ = some (.int .i64 op.a) := (zq1 (hB.own.box b7 _ H7.out)).trans rfl
    have c72 : wc.cell? ⟨b7, 2, none⟩ = some (.int .i64 op.b) := (zq1 (hB.own.box b7 _ H7.out)).trans rfl
    have c73 : wc.cell? ⟨b7, 3, none⟩ = some (.int .i64 op.c) := (zq1 (hB.own.box b7 _ H7.out)).trans rfl
    go_wp2
    exact ⟨rfl, Ext1.refl _, rfl⟩
  intro w hA
  refine wpY_block Y.jc ?_
  unfold callP at hA
  apply YSys.seq0 hA (by kernel_rfl)
  · intro wc hB
    go_wp2
    exact ⟨rfl, Ext1.refl _, rfl⟩
  intro w hA
  refine wpY_cond Y.jc rfl ?_
  by_cases hk1 : op.k = 1
  · rw [if_pos (by simp [hk1])]
    rw [if_pos hk1, Proc.bind_bind] at hA
    clear hk1
    refine wpY_region Y.jc ?_
    apply YSys.callR 0 6 2 hA (hadd op.a op.b) (fun x => HKK.out _) rfl rfl rfl (by rfl) rfl rfl rfl
    · intro wc hB X hX
      have HX := Lib.hid hX
      clear hX
      have c70 : wc.cell? ⟨b7, 0, none⟩ = some (.int .i64 op.k) := (zq1 (hB.own.box b7 _ H7.out)).trans rfl
      have c71 : wc.cell? ⟨b7, 1, none⟩ = some (.int .i64 op.a) := (zq1 (hB.own.box b7 _ H7.out)).trans rfl
      have c72 : wc.cell? ⟨b7, 2, none⟩ = some (.int .i64 op.b) := (zq1 (hB.own.box b7 _ H7.out)).trans rfl
      have c73 : wc.cell? ⟨b7, 3, none⟩ = some (.int .i64 op.c) := (zq1 (hB.own.box b7 _ H7.out)).trans rfl
      go_wp2
      exact HX.out _ (Ext1.refl _)
    · intro w
      simp [go_sem, execOp, Act.eval, resolve, Deferred.ofValue, invoke, callFunc, Try.func21, Try.f21]
    · intro w
      simp [go_sem, execOp, Act.eval, resolve, Deferred.ofValue, invoke, callFunc, Try.func21, Try.f21]
    · intro s' ch w' h
      exact ⟨rfl, h⟩
    intro s x w hA
    refine YSys.opsX 7 2 (fun t B' => ∃ (y3 y4 y8 y9 y11 y12 y13 y14 y15 y16 y17 y18 y19 y20 y21 y22 y23 y24 y25 y26 y27 y28 y29 y30 y31 y32 y33 y34 y35 y36 y37 y38 y39 y40 y41 y42 y43 y44 y45 y46 y47 y48 y49 y50 y51 y52 y53 y54 y55 : Value), t = #[pc, sv, op.val, y3, y4, .pointer (some ⟨b7, 0, none⟩), .pointer (some ⟨b8, 0, none⟩), .pointer (some ⟨b9, 0, none⟩), y8, y9, .int .i64 op.k, y11, y12, y13, y14, y15, y16, y17, y18, y19, y20, y21, y22, y23, y24, y25, y26, y27, y28, y29, y30, y31, y32, y33, y34, y35, y36, y37, y38, y39, y40, y41, y42, y43, y44, y45, y46, y47, y48, y49, y50, y51, y52, y53, y54, y55] ∧ B' = upB B1 b9 (.cells #[.bool true, .int .i64 x, .slice none 0 0] 43)) hA rfl rfl (by kernel_rfl) ?_ ?_
    · intro wc hB X0 hX0
      have HX0 := Lib.hid hX0
      clear hX0
      have k9 := hB.own.box b9 _ H9.out
      have c90 : wc.cell? ⟨b9, 0, none⟩ = some (.bool true) := (zq1 k9).trans rfl
      have c91 : wc.cell? ⟨b9, 1, none⟩ = some (.int .i64 0) := (zq1 k9).trans rfl
      have f90 : wc.frozen? ⟨b9, 0, none⟩ = false := zqb k9
      have f91 : wc.frozen? ⟨b9, 1, none⟩ = false := zqb k9
      clear k9
      have hm := OMoved.set (off := 1) hB.own H9.out (.int .i64 x)
      have HM := Lib.hid hm
      clear hm
      go_wp2
      exact ⟨rfl, HX0.out _ _ _ HM.out ⟨_, _, _, _, _, _, _, _, _, _, _, _, _, _, _, _, _, _, _, _, _, _, _, _, _, _, _, _, _, _, _, _, _, _, _, _, _, _, _, _, _, _, _, _, _, _, _, _, _, rfl, rfl⟩⟩
    rintro _ _ w ⟨y3, y4, y8, y9, y11, y12, y13, y14, y15, y16, y17, y18, y19, y20, y21, y22, y23, y24, y25, y26, y27, y28, y29, y30, y31, y32, y33, y34, y35, y36, y37, y38, y39, y40, y41, y42, y43, y44, y45, y46, y47, y48, y49, y50, y51, y52, y53, y54, y55, rfl, rfl⟩ hA
    exact ⟨_, true, x, _, _, _, _, _, _, _, _, _, _, _, _, _, _, _, _, _, _, _, _, _, _, _, _, _, _, _, _, _, _, _, _, _, _, _, _, _, _, _, _, _, _, _, _, _, _, _, _, _, rfl, ⟨upB_of H8.out HN.out.2.2, upB_same _ _ _, upB_keep HLE.out HN.out.2.1⟩, hA⟩
  rw [if_neg (by simp [hk1])]
  rw [if_neg hk1] at hA
  clear hk1
  apply YSys.seq0 hA (by kernel_rfl)
  · intro wc hB
    go_wp2
    exact ⟨rfl, Ext1.refl _, rfl⟩
  intro w hA
  refine wpY_cond Y.jc rfl ?_
  by_cases hk2 : op.k = 2
  · rw [if_pos (by simp [hk2])]
    rw [if_pos hk2, Proc.bind_bind] at hA
    clear hk2
    refine wpY_region Y.jc ?_
    apply YSys.callR 0 2 2 hA hsum (fun x => HKK.out _) rfl rfl rfl (by rfl) rfl rfl rfl
    · intro wc hB X hX
      have HX := Lib.hid hX
      clear hX
      go_wp2
      exact HX.out _ (Ext1.refl _)
    · intro w
      simp [go_sem, execOp, Act.eval, resolve, Deferred.ofValue, invoke, callFunc, Try.func22, Try.f22]
    · intro w
      simp [go_sem, execOp, Act.eval, resolve, Deferred.ofValue, invoke, callFunc, Try.func22, Try.f22]
    · intro s' ch w' h
      exact ⟨rfl, h⟩
    intro s x w hA
    refine YSys.opsX 3 2 (fun t B' => ∃ (y3 y4 y8 y9 y11 y12 y13 y14 y15 y16 y17 y18 y19 y20 y21 y22 y23 y24 y25 y26 y27 y28 y29 y30 y31 y32 y33 y34 y35 y36 y37 y38 y39 y40 y41 y42 y43 y44 y45 y46 y47 y48 y49 y50 y51 y52 y53 y54 y55 : Value), t = #[pc, sv, op.val, y3, y4, .pointer (some ⟨b7, 0, none⟩), .pointer (some ⟨b8, 0, none⟩), .pointer (some ⟨b9, 0, none⟩), y8, y9, .int .i64 op.k, y11, y12, y13, y14, y15, y16, y17, y18, y19, y20, y21, y22, y23, y24, y25, y26, y27, y28, y29, y30, y31, y32, y33, y34, y35, y36, y37, y38, y39, y40, y41, y42, y43, y44, y45, y46, y47, y48, y49, y50, y51, y52, y53, y54, y55] ∧ B' = upB B1 b9 (.cells #[.bool true, .int .i64 x, .slice none 0 0] 43)) hA rfl rfl (by kernel_rfl) ?_ ?_
    · intro wc hB X0 hX0
      have HX0 := Lib.hid hX0
      clear hX0
      have k9 := hB.own.box b9 _ H9.out
      have c90 : wc.cell? ⟨b9, 0, none⟩ = some (.bool true) := (zq1 k9).trans rfl
      have c91 : wc.cell? ⟨b9, 1, none⟩ = some (.int .i64 0) := (zq1 k9).trans rfl
      have f90 : wc.frozen? ⟨b9, 0, none⟩ = false := zqb k9
      have f91 : wc.frozen? ⟨b9, 1, none⟩ = false := zqb k9
      clear k9
      have hm := OMoved.set (off := 1) hB.own H9.out (.int .i64 x)
      have HM := Lib.hid hm
      clear hm
      go_wp2
      exact ⟨rfl, HX0.out _ _ _ HM.out ⟨_, _, _, _, _, _, _, _, _, _, _, _, _, _, _, _, _, _, _, _, _, _, _, _, _, _, _, _, _, _, _, _, _, _, _, _, _, _, _, _, _, _, _, _, _, _, _, _, _, rfl, rfl⟩⟩
    rintro _ _ w ⟨y3, y4, y8, y9, y11, y12, y13, y14, y15, y16, y17, y18, y19, y20, y21, y22, y23, y24, y25, y26, y27, y28, y29, y30, y31, y32, y33, y34, y35, y36, y37, y38, y39, y40, y41, y42, y43, y44, y45, y46, y47, y48, y49, y50, y51, y52, y53, y54, y55, rfl, rfl⟩ hA
    exact ⟨_, true, x, _, _, _, _, _, _, _, _, _, _, _, _, _, _, _, _, _, _, _, _, _, _, _, _, _, _, _, _, _, _, _, _, _, _, _, _, _, _, _, _, _, _, _, _, _, _, _, _, _, rfl, ⟨upB_of H8.out HN.out.2.2, upB_same _ _ _, upB_keep HLE.out HN.out.2.1⟩, hA⟩
  rw [if_neg (by simp [hk2])]
  rw [if_neg hk2] at hA
  clear hk2
  apply YSys.seq0 hA (by kernel_rfl)
  · intro wc hB
    go_wp2
    exact ⟨rfl, Ext1.refl _, rfl⟩
  intro w hA
  refine wpY_cond Y.jc rfl ?_
  by_cases hk3 : op.k = 3
  · rw [if_pos (by simp [hk3])]
    rw [if_pos hk3, Proc.bind_bind] at hA
    clear hk3
    refine wpY_region Y.jc ?_
    apply YSys.callR 0 2 2 hA htake (fun x => HKK.out _) rfl rfl rfl (by rfl) rfl rfl rfl
    · intro wc hB X hX
      have HX := Lib.hid hX
      clear hX
      go_wp2
      exact HX.out _ (Ext1.refl _)
    · intro w
      simp [go_sem, execOp, Act.eval, resolve, Deferred.ofValue, invoke, callFunc, Try.func23, Try.f23]
    · intro w
      simp [go_sem, execOp, Act.eval, resolve, Deferred.ofValue, invoke, callFunc, Try.func23, Try.f23]
    · intro s' ch w' h
      exact ⟨rfl, h⟩
    intro s x w hA
    refine YSys.opsX 3 2 (fun t B' => ∃ (y3 y4 y8 y9 y11 y12 y13 y14 y15 y16 y17 y18 y19 y20 y21 y22 y23 y24 y25 y26 y27 y28 y29 y30 y31 y32 y33 y34 y35 y36 y37 y38 y39 y40 y41 y42 y43 y44 y45 y46 y47 y48 y49 y50 y51 y52 y53 y54 y55 : Value), t = #[pc, sv, op.val, y3, y4, .pointer (some ⟨b7, 0, none⟩), .pointer (some ⟨b8, 0, none⟩), .pointer (some ⟨b9, 0, none⟩), y8, y9, .int .i64 op.k, y11, y12, y13, y14, y15, y16, y17, y18, y19, y20, y21, y22, y23, y24, y25, y26, y27, y28, y29, y30, y31, y32, y33, y34, y35, y36, y37, y38, y39, y40, y41, y42, y43, y44, y45, y46, y47, y48, y49, y50, y51, y52, y53, y54, y55] ∧ B' = upB B1 b9 (.cells #[.bool true, .int .i64 x, .slice none 0 0] 43)) hA rfl rfl (by kernel_rfl) ?_ ?_
    · intro wc hB X0 hX0
      have HX0 := Lib.hid hX0
      clear hX0
      have k9 := hB.own.box b9 _ H9.out
      have c90 : wc.cell? ⟨b9, 0, none⟩ = some (.bool true) := (zq1 k9).trans rfl
      have c91 : wc.cell? ⟨b9, 1, none⟩ = some (.int .i64 0) := (zq1 k9).trans rfl
      have f90 : wc.frozen? ⟨b9, 0, none⟩ = false := zqb k9
      have f91 : wc.frozen? ⟨b9, 1, none⟩ = false := zqb k9
      clear k9
      have hm := OMoved.set (off := 1) hB.own H9.out (.int .i64 x)
      have HM := Lib.hid hm
      clear hm
      go_wp2
      exact ⟨rfl, HX0.out _ _ _ HM.out ⟨_, _, _, _, _, _, _, _, _, _, _, _, _, _, _, _, _, _, _, _, _, _, _, _, _, _, _, _, _, _, _, _, _, _, _, _, _, _, _, _, _, _, _, _, _, _, _, _, _, rfl, rfl⟩⟩
    rintro _ _ w ⟨y3, y4, y8, y9, y11, y12, y13, y14, y15, y16, y17, y18, y19, y20, y21, y22, y23, y24, y25, y26, y27, y28, y29, y30, y31, y32, y33, y34, y35, y36, y37, y38, y39, y40, y41, y42, y43, y44, y45, y46, y47, y48, y49, y50, y51, y52, y53, y54, y55, rfl, rfl⟩ hA
    exact ⟨_, true, x, _, _, _, _, _, _, _, _, _, _, _, _, _, _, _, _, _, _, _, _, _, _, _, _, _, _, _, _, _, _, _, _, _, _, _, _, _, _, _, _, _, _, _, _, _, _, _, _, _, rfl, ⟨upB_of H8.out HN.out.2.2, upB_same _ _ _, upB_keep HLE.out HN.out.2.1⟩, hA⟩
  rw [if_neg (by simp [hk3])]
  rw [if_neg hk3] at hA
  clear hk3
  apply YSys.seq0 hA (by kernel_rfl)
  · intro wc hB
    go_wp2
    exact ⟨rfl, Ext1.refl _, rfl⟩
  intro w hA
  refine wpY_cond Y.jc rfl ?_
  by_cases hk4 : op.k = 4
  · rw [if_pos (by simp [hk4])]
    rw [if_pos hk4, Proc.bind_bind] at hA
    clear hk4
    refine wpY_region Y.jc ?_
    apply YSys.callR 0 8 0 hA (hmove op.a op.b op.c) (fun x => HKK.out _) rfl rfl rfl (by rfl) rfl rfl rfl
    · intro wc hB X hX
      have HX := Lib.hid hX
      clear hX
      have c70 : wc.cell? ⟨b7, 0, none⟩ = some (.int .i64 op.k) := (zq1 (hB.own.box b7 _ H7.out)).trans rfl
      have c71 : wc.cell? ⟨b7, 1, none⟩ = some (.int .i64 op.a) := (zq1 (hB.own.box b7 _ H7.out)).trans rfl
      have c72 : wc.cell? ⟨b7, 2, none⟩ = some (.int .i64 op.b) := (zq1 (hB.own.box b7 _ H7.out)).trans rfl
      have c73 : wc.cell? ⟨b7, 3, none⟩ = some (.int .i64 op.c) := (zq1 (hB.own.box b7 _ H7.out)).trans rfl
      go_wp2
      exact HX.out _ (Ext1.refl _)
    · intro w
      simp [go_sem, execOp, Act.eval, resolve, Deferred.ofValue, invoke, callFunc, Try.func30, Try.f30]
    · intro w
      simp [go_sem, execOp, Act.eval, resolve, Deferred.ofValue, invoke, callFunc, Try.func30, Try.f30]
    · intro s' ch w' h
      exact ⟨rfl, h⟩
    intro s x w hA
    refine opsC_nil Y.jc ?_
    exact ⟨B1, true, 0, _, _, _, _, _, _, _, _, _, _, _, _, _, _, _, _, _, _, _, _, _, _, _, _, _, _, _, _, _, _, _, _, _, _, _, _, _, _, _, _, _, _, _, _, _, _, _, _, _, rfl, ⟨H8.out, H9.out, HLE.out⟩, hA⟩
  rw [if_neg (by simp [hk4])]
  rw [if_neg hk4] at hA
  clear hk4
  apply YSys.seq0 hA (by kernel_rfl)
  · intro wc hB
    go_wp2
    exact ⟨rfl, Ext1.refl _, rfl⟩
  intro w hA
  refine wpY_cond Y.jc rfl ?_
  by_cases hk5 : op.k = 5
  · rw [if_pos (by simp [hk5])]
    rw [if_pos hk5, Proc.bind_bind] at hA
    clear hk5
    refine wpY_region Y.jc ?_
    apply YSys.callR 0 2 7 hA heven (fun x => HKK.out _) rfl rfl rfl (by rfl) rfl rfl rfl
    · intro wc hB X hX
      have HX := Lib.hid hX
      clear hX
      go_wp2
      exact HX.out _ (Ext1.refl _)
    · intro w
      simp [go_sem, execOp, Act.eval, resolve, Deferred.ofValue, invoke, callFunc, Try.func20, Try.f20]
    · intro w
      simp [go_sem, execOp, Act.eval, resolve, Deferred.ofValue, invoke, callFunc, Try.func20, Try.f20]
    · intro s' ch w' h
      exact ⟨rfl, h⟩
    intro s x w hA
    obtain ⟨x, ok⟩ := x
    unfold evenV
    refine YSys.opsX 3 7 (fun t B' => ∃ (y3 y4 y8 y9 y11 y12 y13 y14 y15 y16 y17 y18 y19 y20 y21 y22 y23 y24 y25 y26 y27 y28 y29 y30 y31 y32 y33 y34 y35 y36 y37 y38 y39 y40 y41 y42 y43 y44 y45 y46 y47 y48 y49 y50 y51 y52 y53 y54 y55 : Value), t = #[pc, sv, op.val, y3, y4, .pointer (some ⟨b7, 0, none⟩), .pointer (some ⟨b8, 0, none⟩), .pointer (some ⟨b9, 0, none⟩), y8, y9, .int .i64 op.k, y11, y12, y13, y14, y15, y16, y17, y18, y19, y20, y21, y22, y23, y24, y25, y26, y27, y28, y29, y30, y31, y32, y33, y34, y35, y36, y37, y38, y39, y40, y41, y42, y43, y44, y45, y46, y47, y48, y49, y50, y51, y52, y53, y54, y55] ∧ B' = upB B1 b9 (.cells #[.bool ok, .int .i64 x, .slice none 0 0] 43)) hA rfl rfl (by kernel_rfl) ?_ ?_
    · intro wc hB X0 hX0
      have HX0 := Lib.hid hX0
      clear hX0
      have k9 := hB.own.box b9 _ H9.out
      have c90 : wc.cell? ⟨b9, 0, none⟩ = some (.bool true) := (zq1 k9).trans rfl
      have c91 : wc.cell? ⟨b9, 1, none⟩ = some (.int .i64 0) := (zq1 k9).trans rfl
      have f90 : wc.frozen? ⟨b9, 0, none⟩ = false := zqb k9
      have f91 : wc.frozen? ⟨b9, 1, none⟩ = false := zqb k9
      clear k9
      have hm := OMoved.set2 (o1 := 1) (o2 := 0) hB.own H9.out (.int .i64 x) (.bool ok)
      have HM := Lib.hid hm
      clear hm
      go_wp2
      exact ⟨rfl, HX0.out _ _ _ HM.out ⟨_, _, _, _, _, _, _, _, _, _, _, _, _, _, _, _, _, _, _, _, _, _, _, _, _, _, _, _, _, _, _, _, _, _, _, _, _, _, _, _, _, _, _, _, _, _, _, _, _, rfl, rfl⟩⟩
    rintro _ _ w ⟨y3, y4, y8, y9, y11, y12, y13, y14, y15, y16, y17, y18, y19, y20, y21, y22, y23, y24, y25, y26, y27, y28, y29, y30, y31, y32, y33, y34, y35, y36, y37, y38, y39, y40, y41, y42, y43, y44, y45, y46, y47, y48, y49, y50, y51, y52, y53, y54, y55, rfl, rfl⟩ hA
    exact ⟨_, ok, x, _, _, _, _, _, _, _, _, _, _, _, _, _, _, _, _, _, _, _, _, _, _, _, _, _, _, _, _, _, _, _, _, _, _, _, _, _, _, _, _, _, _, _, _, _, _, _, _, _, rfl, ⟨upB_of H8.out HN.out.2.2, upB_same _ _ _, upB_keep HLE.out HN.out.2.1⟩, hA⟩
  rw [if_neg (by simp [hk5])]
  rw [if_neg hk5] at hA
  clear hk5
  refine YSys.seqX (fun t B' => ∃ (y3 y4 y8 y9 y11 y12 y13 y14 y15 y16 y17 y18 y19 y20 y21 y22 y23 y24 y25 y26 y27 y28 y29 y30 y31 y32 y33 y34 y35 y36 y37 y38 y39 y40 y41 y42 y43 y44 y45 y46 y47 y48 y49 y50 y51 y52 y53 y54 y55 : Value), t = #[pc, sv, op.val, y3, y4, .pointer (some ⟨b7, 0, none⟩), .pointer (some ⟨b8, 0, none⟩), .pointer (some ⟨b9, 0, none⟩), y8, y9, .int .i64 op.k, y11, y12, y13, y14, y15, y16, y17, y18, y19, y20, y21, y22, y23, y24, y25, y26, y27, y28, y29, y30, y31, y32, y33, y34, y35, y36, y37, y38, y39, y40, y41, y42, y43, y44, y45, y46, y47, y48, y49, y50, y51, y52, y53, y54, y55] ∧ B' = upB B1 b8 (.cells #[.bool false, .int .i64 0, .slice none 0 0] 43)) hA (by kernel_rfl) ?_ ?_
  · intro wc hB X0 hX0
    have HX0 := Lib.hid hX0
    clear hX0
    have k8 := hB.own.box b8 _ H8.out
    have c80 : wc.cell? ⟨b8, 0, none⟩ = some (.bool false) := (zq1 k8).trans rfl
    have c81 : wc.cell? ⟨b8, 1, none⟩ = some (.int .i64 0) := (zq1 k8).trans rfl
    have c82 : wc.cell? ⟨b8, 2, none⟩ = some (.slice none 0 0) := (zq1 k8).trans rfl
    have f80 : wc.frozen? ⟨b8, 0, none⟩ = false := zqb k8
    have f81 : wc.frozen? ⟨b8, 1, none⟩ = false := zqb k8
    have f82 : wc.frozen? ⟨b8, 2, none⟩ = false := zqb k8
    have hm := OMoved.set3 (o1 := 0) (o2 := 1) (o3 := 2) hB.own H8.out (.bool false) (.int .i64 0) (.slice none 0 0)
    have HM := Lib.hid hm
    clear hm k8
    go_wp2
    exact ⟨rfl, HX0.out _ _ _ HM.out ⟨_, _, _, _, _, _, _, _, _, _, _, _, _, _, _, _, _, _, _, _, _, _, _, _, _, _, _, _, _, _, _, _, _, _, _, _, _, _, _, _, _, _, _, _, _, _, _, _, _, rfl, rfl⟩⟩
  rintro _ _ w ⟨y3, y4, y8, y9, y11, y12, y13, y14, y15, y16, y17, y18, y19, y20, y21, y22, y23, y24, y25, y26, y27, y28, y29, y30, y31, y32, y33, y34, y35, y36, y37, y38, y39, y40, y41, y42, y43, y44, y45, y46, y47, y48, y49, y50, y51, y52, y53, y54, y55, rfl, rfl⟩ hA
  refine wpY_ret Y.jc ?_
  refine YSys.left hA (v := .agg #[.bool false, .int .i64 0, .slice none 0 0]) (fun wc hB => results_cell_row rfl _ wc b8 43 _ _ _ rfl (hB.own.box b8 _ (upB_same _ _ _)) rfl rfl rfl) fun w hA => ?_
  exact ⟨Ans.none, fun _ => none, ⟨rfl, rfl, rfl⟩, fun b hb => absurd rfl hb, hA.drop (upB_keep HLE.out HN.out.1)⟩
 ·
  clear hA
  rintro s a w ⟨B2, ok, x, z3, z4, z8, z9, z11, z12, z13, z14, z15, z16, z17, z18, z19, z20, z21, z22, z23, z24, z25, z26, z27, z28, z29, z30, z31, z32, z33, z34, z35, z36, z37, z38, z39, z40, z41, z42, z43, z44, z45, z46, z47, z48, z49, z50, z51, z52, z53, z54, z55, rfl, hF, hA⟩
  have HF := Lib.hid hF
  clear hF
  refine YSys.seqX (fun t B' => ∃ (q3 q4 q8 q9 q11 q12 q13 q14 q15 q16 q17 q18 q19 q20 q21 q22 q23 q24 q25 q26 q27 q28 q29 q30 q31 q32 q33 q34 q35 q36 q37 q38 q39 q40 q41 q42 q43 q44 q45 q46 q47 q48 q49 q50 q51 q52 q53 q54 q55 : Value), t = #[pc, sv, op.val, q3, q4, .pointer (some ⟨b7, 0, none⟩), .pointer (some ⟨b8, 0, none⟩), .pointer (some ⟨b9, 0, none⟩), q8, q9, .int .i64 op.k, q11, q12, q13, q14, q15, q16, q17, q18, q19, q20, q21, q22, q23, q24, q25, q26, q27, q28, q29, q30, q31, q32, q33, q34, q35, q36, q37, q38, q39, q40, q41, q42, q43, q44, q45, q46, q47, q48, q49, q50, q51, q52, q53, q54, q55] ∧ B' = upB B2 b8 (.cells #[.bool ok, .int .i64 x, .slice none 0 0] 43)) hA (by kernel_rfl) ?_ ?_
  · intro wc hB X0 hX0
    have HX0 := Lib.hid hX0
    clear hX0
    have k8 := hB.own.box b8 _ HF.out.1
    have k9 := hB.own.box b9 _ HF.out.2.1
    have c90 : wc.cell? ⟨b9, 0, none⟩ = some (.bool ok) := (zq1 k9).trans rfl
    have c91 : wc.cell? ⟨b9, 1, none⟩ = some (.int .i64 x) := (zq1 k9).trans rfl
    have c92 : wc.cell? ⟨b9, 2, none⟩ = some (.slice none 0 0) := (zq1 k9).trans rfl
    have c80 : wc.cell? ⟨b8, 0, none⟩ = some (.bool false) := (zq1 k8).trans rfl
    have c81 : wc.cell? ⟨b8, 1, none⟩ = some (.int .i64 0) := (zq1 k8).trans rfl
    have c82 : wc.cell? ⟨b8, 2, none⟩ = some (.slice none 0 0) := (zq1 k8).trans rfl
    have hm := OMoved.set3 (o1 := 0) (o2 := 1) (o3 := 2) hB.own HF.out.1 (.bool ok) (.int .i64 x) (.slice none 0 0)
    have HM := Lib.hid hm
    have fz : ∀ j, wc.frozen? ⟨b8, j, none⟩ = false := fun j => zqb k8
    have f80 := fz 0
    have f81 := fz 1
    have f82 := fz 2
    clear fz k8 k9 hm
    go_wp2
    exact ⟨rfl, HX0.out _ _ _ HM.out ⟨_, _, _, _, _, _, _, _, _, _, _, _, _, _, _, _, _, _, _, _, _, _, _, _, _, _, _, _, _, _, _, _, _, _, _, _, _, _, _, _, _, _, _, _, _, _, _, _, _, rfl, rfl⟩⟩
  rintro _ _ w ⟨q3, q4, q8, q9, q11, q12, q13, q14, q15, q16, q17, q18, q19, q20, q21, q22, q23, q24, q25, q26, q27, q28, q29, q30, q31, q32, q33, q34, q35, q36, q37, q38, q39, q40, q41, q42, q43, q44, q45, q46, q47, q48, q49, q50, q51, q52, q53, q54, q55, rfl, rfl⟩ hA
  refine wpY_ret Y.jc ?_
  refine YSys.left hA (v := .agg #[.bool ok, .int .i64 x, .slice none 0 0]) (fun wc hB => ?_) fun w hA => ?_
  · exact results_cell_row rfl _ wc b8 43 _ _ _ rfl (hB.own.box b8 _ (upB_same _ _ _)) rfl rfl rfl
  · exact ⟨⟨ok, x, []⟩, fun _ => none, ⟨rfl, rfl, rfl⟩, fun b hb => absurd rfl hb, hA.drop (upB_keep HF.out.2.2 HN.out.1)⟩
end
theorem meth_stand (n : Nat) (st : Nat) (w : World) : (Go.method (n + 1) 108 (.pointer (some ⟨st, 0, none⟩)) "Step").run Try.prog w = .ok (72, .pointer (some ⟨st, 0, none⟩)) w := by kernel_rfl
theorem meth_stand_ev (n : Nat) (st : Nat) (w : World) (es : Array Event) : (Go.method (n + 1) 108 (.pointer (some ⟨st, 0, none⟩)) "Step").events Try.prog w es = es := by kernel_rfl
section
variable {Ml S β : Type} {C : Core Ml S} {ro : Nat → Option Obj} {i : Nat}
theorem step_stand (Y : YSys Try.prog aM C ro i β) {st : Nat} (h : StepY Y 72 #[.pointer (some ⟨st, 0, none⟩)]) : StepY Y 33 #[.iface 108 (.pointer (some ⟨st, 0, none⟩))] := by
 intro K s m w hA
 refine BodyY.calls ⟨_, _, Try.func33, rfl, ?_⟩
 simp only [enterAct, Try.ntmps33, List.size_toArray, List.length_cons, List.length_nil, Nat.reduceAdd, Nat.reduceSub, Array.replicate_succ, Array.replicate_zero, List.push_toArray, List.append_toArray, List.nil_append, List.cons_append]
 have hA : Y.AtB (m.box i) s w (Proc.tick.bind K) := ⟨m, rfl, hA⟩
 obtain ⟨B, hB0⟩ : ∃ B, m.box i = B := ⟨_, rfl⟩
 rw [hB0] at hA ⊢
 clear hB0
 apply YSys.seq0 hA (by kernel_rfl)
 · intro wc hB
   go_wp2
   exact ⟨rfl, Ext1.refl _, rfl⟩
 intro w hA
 refine wpY_cond Y.jc rfl ?_
 rw [if_pos rfl]
 refine wpY_region Y.jc ?_
 apply YSys.callS 0 1 0 hA h rfl rfl rfl (by rfl) rfl rfl rfl
 · intro wc hB X hX
   have HX := Lib.hid hX
   clear hX
   go_wp2
   exact HX.out _ (Ext1.refl _)
 · intro w
   simp [go_sem, execOp, Act.eval, resolve, Deferred.ofValue, invoke, callFunc, meth_stand, meth_stand_ev, Try.func72, Try.f72]
 · intro w
   simp [go_sem, execOp, Act.eval, resolve, Deferred.ofValue, invoke, callFunc, meth_stand, meth_stand_ev, Try.func72, Try.f72]
 · intro s' ch w' h
   exact ⟨rfl, h⟩
 intro s w hA
 refine opsC_nil Y.jc ?_
 exact ⟨rfl, .inl ⟨_, resultsC_none rfl _, (), hA.choose, rfl, hA.choose_spec⟩⟩
end
def begL (ws : List Int) (N j : Nat) : List Int := (List.range N).map fun i => if i < j then ws.getD i 0 else 0
theorem begL_zero (ws : List Int) (N : Nat) : begL ws N 0 = List.replicate N 0 := by
 apply List.ext_getElem?
 intro i
 by_cases hi : i < N <;> simp [begL, hi]
theorem begL_set (ws : List Int) {N j : Nat} (hj : j < N) : (begL ws N j).set j (ws.getD j 0) = begL ws N (j + 1) := by
 apply List.ext_getElem?
 intro i
 unfold begL
 by_cases hi : i < N
 · by_cases e : i = j
   · subst e
     simp [hi]
   · rw [List.getElem?_set_ne (by omega)]
     have : (i < j + 1) = (i < j) := by simp; omega
     simp [hi, this]
 · have hs : ∀ (l : List Int), l.length = N → l[i]? = none := fun l hl => List.getElem?_eq_none (by omega)
   rw [hs _ (by simp), hs _ (by simp)]
def begunL (ws : List Int) : List Int := begL ws (stripesN ws.length) (min ws.length 64)
theorem begun_lone {p : Option Addr} {n C : Nat} {ws : List Int} (w : World) (hl : ws.length = n) (hn : n ≤ 4611686018427387904) (hw : 0 < n → ∃ wb wo, p = some ⟨wb, wo, none⟩ ∧ ∀ i, i < n → w.cell? ⟨wb, wo + i, none⟩ = some (.int .i64 (ws.getD i 0))) :
 Calls Try.prog 25 #[.slice p n C] w fun e w' => e = .returned (.pointer (some ⟨w.heap.size + 1, 0, none⟩)) ∧ NewStr w (stripesN n) (begunL ws) w' := by
 have HS := Lib.hid hw
 have hnew := new_lone (n : Int) w
 have hp := stripesN_pos (n : Int)
 have HK := Lib.hid (And.intro hl hp)
 clear hw hl hp
 go_enter Try.func25, Try.ntmps25
 go_wp2_with (fail)
 refine Calls.mono hnew ?_
 rintro e w1 ⟨rfl, hR⟩
 have HP := Lib.hid hR
 clear hnew hR
 obtain ⟨H, hH⟩ : ∃ H, w.heap.size = H := ⟨_, rfl⟩
 rw [hH]
 have HH := Lib.hid hH
 clear hH
 obtain ⟨m, hm⟩ : ∃ m, min n 64 = m := ⟨_, rfl⟩
 have e1 : (if (n : Int) ≤ 64 then (n : Int) else 64) = (m : Int) := by split <;> omega
 have HM := Lib.hid hm
 by_cases hc : (n : Int) ≤ 64
 · have e2 : (n : Int) = (m : Int) := by omega
   have E := Lib.hid e2
   clear hm e1 e2
   go_wp2_with (fail)
   rw [E.out]
   have e0 := begL_zero ws (stripesN n)
   obtain ⟨N, hN⟩ : ∃ N, stripesN n = N := ⟨_, rfl⟩
   rw [hN] at HP HK e0
   rw [← e0] at HP
   have HN := Lib.hid hN
   clear hN e0
   go_loopg [11] m (fun k i wr => ∃ (j : Nat), k = m - j ∧ j ≤ m ∧ i = .int .i64 j ∧ NewStr w N (begL ws N j) wr)
   case atStart => exact ⟨0, rfl, Nat.zero_le _, rfl, HP.out⟩
   case round =>
    obtain ⟨j, hk, hj, rfl, hR⟩ := hrel
    have HR := Lib.hid hR
    have hmn : m ≤ n ∧ m ≤ 64 := by have := HM.out; omega
    by_cases hlt : j < m
    · obtain ⟨wb, wo, rfl, hcw⟩ := HS.out (by omega)
      have hcj := hcw j (by omega)
      have c2 : wr.cell? ⟨wb, wo + j, none⟩ = some (.int .i64 (ws.getD j 0)) := (cell_of_same (hR.old wb (cell_lt hcj))).trans hcj
      have c1 : wr.cell? ⟨w.heap.size + 1, 1, none⟩ = some (.slice (some ⟨w.heap.size, 0, none⟩) N N) := hR.rep.head.cell
      have hjN : j < N := by have := HM.out; have := HN.out; have := E.out; unfold stripesN at *; omega
      have c3 := hR.rep.cell (j : Int)
      have f3 := hR.rep.frozen (j : Int)
      rw [show loc (w.heap.size + 1) (some w.heap.size) N (j : Int) = ⟨w.heap.size, j, none⟩ by simp [loc, idx_nat hjN]] at c3 f3
      rw [HH.out] at c1 c3 f3
      obtain ⟨x, hx⟩ : ∃ x, ws.getD j 0 = x := ⟨_, rfl⟩
      rw [hx] at c2
      have HX := Lib.hid (And.intro hx hjN)
      clear hx
      generalize (begL ws N j).getD (idx (↑j) N) 0 = y at c3
      have C3 := Lib.hid (And.intro c3 f3)
      have hlt' : (j : Int) < (m : Int) := by omega
      have hj0 : (0 : Int) ≤ j := by omega
      have hjn : (j : Int) < (n : Int) := by omega
      have hjN' : (j : Int) < (N : Int) := by omega
      have HMN := Lib.hid hmn
      clear hcw hcj c3 f3 hR hmn
      go_wp2_with (fail)
      refine wp_region_pre (k := 10) (C := fun w' => ∃ n, w' = wr.drewN n) (by kernel_rfl) (by kernel_rfl) (by kernel_rfl) (by kernel_rfl) (by kernel_rfl) ⟨1, rfl⟩ ?_
      simp only [List.take_succ_cons, List.take_zero]
      repeat (quiet_step (fail))
      refine wpQuiet_nil ?_
      rintro w' ⟨nq, rfl⟩
      refine wpAny_one (i := 10) (by kernel_rfl) ?_
      simp only [wpOp, al_gl, al_g0, al_g1]
      rw [if_pos (by rfl)]
      refine .inl ?_
      go_simp
      refine Calls.mono (store_lone ⟨H, j, none⟩ y x (wr.drewN nq) C3.out.1 C3.out.2) ?_
      rintro e w' ⟨rfl, rfl⟩
      refine wpAny_end (by kernel_rfl) ?_
      go_wp2
      go_roundg (m - (j + 1))
      case measure => omega
      case rel =>
       refine ⟨j + 1, rfl, by omega, by simp, ?_⟩
       have h1 : StrRep (w.heap.size + 1) (some w.heap.size) N (begL ws N j) (wr.drewN nq) := (strCore _ _ _).frame _ _ _ HR.out.rep fun _ _ => rfl
       have h2 := h1.set (j : Int) x
       have e3 := HX.out.2
       rw [show loc (w.heap.size + 1) (some w.heap.size) N (j : Int) = ⟨w.heap.size, j, none⟩ by simp [loc, idx_nat e3], idx_nat e3, ← HX.out.1, begL_set _ e3] at h2
       rw [HX.out.1] at h2
       rw [← HH.out]
       refine ⟨h2, by rw [hp_size_set]; exact HR.out.size, fun b hb => ?_⟩
       rw [hp_set_ne _ _ _ _ (by show b ≠ w.heap.size; omega)]
       exact HR.out.old b hb
    · obtain rfl : j = m := by omega
      have hlt' : ¬ (j : Int) < (j : Int) := by omega
      have e9 : NewStr w N (begunL ws) wr := by
       have := HR.out
       unfold begunL
       rw [HK.out.1, HN.out, HM.out]
       exact this
      clear hR hmn
      have HE := Lib.hid e9
      clear e9
      go_wp2
      go_ret
      refine ⟨by rw [HH.out]; rfl, ?_⟩
      rw [HN.out]
      exact HE.out
 · have e2 : (64 : Int) = (m : Int) := by omega
   have E := Lib.hid e2
   have hc2 : ¬ (n : Int) < 64 := by omega
   have hc3 : (64 : Int) ≤ (n : Int) := by omega
   clear hm e1 e2
   go_wp2_with (fail)
   rw [E.out]
   have e0 := begL_zero ws (stripesN n)
   obtain ⟨N, hN⟩ : ∃ N, stripesN n = N := ⟨_, rfl⟩
   rw [hN] at HP HK e0
   rw [← e0] at HP
   have HN := Lib.hid hN
   clear hN e0
   go_loopg [11] m (fun k i wr => ∃ (j : Nat), k = m - j ∧ j ≤ m ∧ i = .int .i64 j ∧ NewStr w N (begL ws N j) wr)
   case atStart => exact ⟨0, rfl, Nat.zero_le _, rfl, HP.out⟩
   case round =>
    obtain ⟨j, hk, hj, rfl, hR⟩ := hrel
    have HR := Lib.hid hR
    have hmn : m ≤ n ∧ m ≤ 64 := by have := HM.out; omega
    by_cases hlt : j < m
    · obtain ⟨wb, wo, rfl, hcw⟩ := HS.out (by omega)
      have hcj := hcw j (by omega)
      have c2 : wr.cell? ⟨wb, wo + j, none⟩ = some (.int .i64 (ws.getD j 0)) := (cell_of_same (hR.old wb (cell_lt hcj))).trans hcj
      have c1 : wr.cell? ⟨w.heap.size + 1, 1, none⟩ = some (.slice (some ⟨w.heap.size, 0, none⟩) N N) := hR.rep.head.cell
      have hjN : j < N := by have := HM.out; have := HN.out; have := E.out; unfold stripesN at *; omega
      have c3 := hR.rep.cell (j : Int)
      have f3 := hR.rep.frozen (j : Int)
      rw [show loc (w.heap.size + 1) (some w.heap.size) N (j : Int) = ⟨w.heap.size, j, none⟩ by simp [loc, idx_nat hjN]] at c3 f3
      rw [HH.out] at c1 c3 f3
      obtain ⟨x, hx⟩ : ∃ x, ws.getD j 0 = x := ⟨_, rfl⟩
      rw [hx] at c2
      have HX := Lib.hid (And.intro hx hjN)
      clear hx
      generalize (begL ws N j).getD (idx (↑j) N) 0 = y at c3
      have C3 := Lib.hid (And.intro c3 f3)
      have hlt' : (j : Int) < (m : Int) := by omega
      have hj0 : (0 : Int) ≤ j := by omega
      have hjn : (j : Int) < (n : Int) := by omega
      have hjN' : (j : Int) < (N : Int) := by omega
      have HMN := Lib.hid hmn
      clear hcw hcj c3 f3 hR hmn
      go_wp2_with (fail)
      refine wp_region_pre (k := 10) (C := fun w' => ∃ n, w' = wr.drewN n) (by kernel_rfl) (by kernel_rfl) (by kernel_rfl) (by kernel_rfl) (by kernel_rfl) ⟨1, rfl⟩ ?_
      simp only [List.take_succ_cons, List.take_zero]
      repeat (quiet_step (fail))
      refine wpQuiet_nil ?_
      rintro w' ⟨nq, rfl⟩
      refine wpAny_one (i := 10) (by kernel_rfl) ?_
      simp only [wpOp, al_gl, al_g0, al_g1]
      rw [if_pos (by rfl)]
      refine .inl ?_
      go_simp
      refine Calls.mono (store_lone ⟨H, j, none⟩ y x (wr.drewN nq) C3.out.1 C3.out.2) ?_
      rintro e w' ⟨rfl, rfl⟩
      refine wpAny_end (by kernel_rfl) ?_
      go_wp2
      go_roundg (m - (j + 1))
      case measure => omega
      case rel =>
       refine ⟨j + 1, rfl, by omega, by simp, ?_⟩
       have h1 : StrRep (w.heap.size + 1) (some w.heap.size) N (begL ws N j) (wr.drewN nq) := (strCore _ _ _).frame _ _ _ HR.out.rep fun _ _ => rfl
       have h2 := h1.set (j : Int) x
       have e3 := HX.out.2
       rw [show loc (w.heap.size + 1) (some w.heap.size) N (j : Int) = ⟨w.heap.size, j, none⟩ by simp [loc, idx_nat e3], idx_nat e3, ← HX.out.1, begL_set _ e3] at h2
       rw [HX.out.1] at h2
       rw [← HH.out]
       refine ⟨h2, by rw [hp_size_set]; exact HR.out.size, fun b hb => ?_⟩
       rw [hp_set_ne _ _ _ _ (by show b ≠ w.heap.size; omega)]
       exact HR.out.old b hb
    · obtain rfl : j = m := by omega
      have hlt' : ¬ (j : Int) < (j : Int) := by omega
      have e9 : NewStr w N (begunL ws) wr := by
       have := HR.out
       unfold begunL
       rw [HK.out.1, HN.out, HM.out]
       exact this
      clear hR hmn
      have HE := Lib.hid e9
      clear e9
      go_wp2
      go_ret
      refine ⟨by rw [HH.out]; rfl, ?_⟩
      rw [HN.out]
      exact HE.out
theorem opsP_deep {S1 : Type} {i : Nat} {dop : OpX → Proc (S1 × (Nat → List Ans)) Ans} {k : Nat} (h : ∀ op, (dop op).Deep k) : ∀ l, (opsP i dop l).Deep k := by
 intro l
 induction l with
 | nil => exact Proc.Deep.ret _
 | cons op l ih => exact (h op).bind fun a => (Proc.Deep.act _).bind fun _ => ih
section
variable {M1 S1 : Type} {C : Core M1 S1} {RP : Nat → Option Obj} {l₀ : M1} {w wa w1 w2 : World} {N n most : Nat} {sp : Nat → Option Addr} {L Cp : Nat → Nat} {ob ib : Nat → Nat} {dv fv v : Value} {pr : Nat → Proc (S1 × (Nat → List Ans)) Unit} {sched : List Int} {b : OSt (TM (M1 × AnsM) (S1 × (Nat → List Ans)))} {m' : TM (M1 × AnsM) (S1 × (Nat → List Ans))} {g : Nat}
def mOps (l₀ : M1) (room : Nat) : TM (M1 × AnsM) (S1 × (Nat → List Ans)) := ⟨⟨(l₀, ans0), fun _ _ => none⟩, fun _ => .ret (), room⟩
theorem ops_rep0 {ro : Nat → Option Obj} {ab : Nat} {room : Nat} (h : BRep (prodCore C (ansCore tT ab N)) ro ⟨(l₀, ans0), fun _ _ => none⟩ w1) : (thrOf (prodCore C (ansCore tT ab N)) ownA ro pr).Rep (mOps l₀ room) w1 := ⟨h, fun i => trivial⟩
theorem ops_foot0 {ro : Nat → Option Obj} {ab room x : Nat} (h : (thrOf (prodCore C (ansCore tT ab N)) ownA ro pr).foot (mOps l₀ room) x) : C.foot l₀ x ∨ x = ab ∨ ro x ≠ none := by
 rcases h with (h | h | ⟨i, hi, h⟩) | ⟨i, h⟩ | h
 · exact .inl h
 · exact .inr (.inl h)
 · exact absurd rfl h
 · exact absurd rfl h
 · exact .inr (.inr h)
theorem ops_res (hR : DRes wa N dv sp L Cp N ob ib fv w1) (hb : BRep C RP ⟨l₀, fun _ _ => none⟩ wa) {room : Nat}
 (ho : Over1 (thrOf (prodCore C (ansCore tT (wa.heap.size + 1) N)) ownA (roOf RP wa.heap.size N ob ib w1) pr) N most sched (mOps l₀ room) w1 b m' v g w2) :
 OpsRes C N l₀ wa (playT pr N most sched (C.st l₀, fun _ => [])) (wa.heap.size + 1) v m'.bm.l.1 m'.bm.l.2 w2 ∧ leftN b.ov N = leftN (playT pr N most sched (C.st l₀, fun _ => [])).ov N := by
 obtain ⟨hs, he⟩ := ran_T (m₀ := mOps l₀ room) rfl ho.ran
 have hs0 : (prodCore C (ansCore tT (wa.heap.size + 1) N)).st (mOps (S1 := S1) l₀ room).bm.l = (C.st l₀, fun _ => []) := rfl
 rw [hs0] at hs
 have hst : (C.st m'.bm.l.1, m'.bm.l.2.st) = (playT pr N most sched (C.st l₀, fun _ => [])).s := he.trans hs.st
 have hB := ho.rep.1
 have hsz := hR.size
 have hsz2 := ho.size
 have hrl : ∀ x o, RP x = some o → x < wa.heap.size := fun x o h => heap_lt (hb.rod x o h)
 have hrn : ∀ x, roOf RP wa.heap.size N ob ib w1 x ≠ none → RP x ≠ none ∨ wa.heap.size ≤ x := fun x h => by
  cases hx : roOf RP wa.heap.size N ob ib w1 x with
  | none => exact absurd hx h
  | some o =>
   rcases roOf_some hx with h | ⟨h, _⟩
   · exact .inl (by rw [h]; simp)
   · right
     rcases h with h | h | ⟨i, hi, h⟩
     · omega
     · omega
     · have := hR.lo i hi
       rcases h with h | h <;> omega
 have hfn : ∀ x, (thrOf (prodCore C (ansCore tT (wa.heap.size + 1) N)) ownA (roOf RP wa.heap.size N ob ib w1) pr).foot m' x → roOf RP wa.heap.size N ob ib w1 x = none → C.foot l₀ x ∨ wa.heap.size ≤ x := fun x h hn => by
  rcases ho.foot x h with h | h
  · rcases ops_foot0 h with h | h | h
    · exact .inl h
    · exact .inr (by omega)
    · exact absurd hn h
  · exact .inr (by omega)
 have hcr : ∀ x, C.foot m'.bm.l.1 x → roOf RP wa.heap.size N ob ib w1 x = none := fun x h => Classical.byContradiction fun y => hB.rol x y (.inl h)
 refine ⟨⟨hB.core.1, congrArg Prod.fst hst, hB.core.2.1, congrArg Prod.snd hst, by omega, fun x hx hf => ?_, fun x hx => hfn x (.inl (.inl hx)) (hcr x hx), by omega, fun i x hi hx => hfn x (.inl (.inr (.inr ⟨i, hi, hx⟩))) (Classical.byContradiction fun y => hB.rol x y (.inr (.inr ⟨i, hi, hx⟩))), fun x hx => ?_, ?_, fun x hx => ?_⟩, ?_⟩
 · by_cases hro : roOf RP wa.heap.size N ob ib w1 x = none
   · refine (ho.old x (by omega) fun h => ?_).trans (hR.old x hx)
     rcases ops_foot0 h with h | h | h
     · exact hf h
     · omega
     · exact h hro
   · cases hx2 : roOf RP wa.heap.size N ob ib w1 x with
     | none => exact absurd hx2 hro
     | some o =>
      rw [hB.rod x o hx2]
      rcases roOf_some hx2 with h | ⟨h, _⟩
      · exact (hb.rod x o h).symm
      · exfalso
        rcases h with h | h | ⟨i, hi, h⟩
        · omega
        · omega
        · have := hR.lo i hi
          rcases h with h | h <;> omega
 · have h := hB.core.2.2 x hx
   exact ⟨fun e => h (.inl e), fun i hi => Classical.byContradiction fun y => h (.inr ⟨i, hi, y⟩)⟩
 · have := ho.row
   rw [hs.ord] at this
   exact ownsRow_base this (by omega)
 · have h := (ho.rowf x hx).1
   exact ⟨fun y => h (.inl (.inl y)), fun e => h (.inl (.inr (.inl e))), fun i hi => Classical.byContradiction fun y => h (.inl (.inr (.inr ⟨i, hi, y⟩)))⟩
 · exact leftN_congr fun i _ => by rw [hs.ov]
theorem OpsRes.ext {r : TSt (S1 × (Nat → List Ans))} {ab : Nat} {l' : M1} {am : AnsM} {w' : World} (h : OpsRes C N l₀ wa r ab v l' am w2) {H : Nat} (hw : w.heap.size = H) (hwa : wa.heap.size = H + 1) (hoa : ∀ b, b < H → wa.heap[b]? = w.heap[b]?) (hl : ∀ b, C.foot l₀ b → b < H) (hsz : w2.heap.size ≤ w'.heap.size) (hold : ∀ x, x < w2.heap.size → x ≠ H → w'.heap[x]? = w2.heap[x]?) : OpsRes C N l₀ w r ab v l' am w' := by
 have hs := h.size
 have hab := h.abl
 have hcn : ∀ b, C.foot l' b → b ≠ H := fun b hb e => by
  rcases h.foot b hb with h2 | h2
  · have := hl b h2; omega
  · omega
 have han : ∀ i b, i < N → am.X i b ≠ none → b ≠ H := fun i b hi hb e => by
  rcases h.ansn i b hi hb with h2 | h2
  · have := hl b h2; omega
  · omega
 refine ⟨C.frame _ _ _ h.rep fun b hb => hold b (C.lt _ _ _ h.rep hb) (hcn b hb), h.st, ⟨(hold ab (heap_lt h.ans.hd) (by omega)).trans h.ans.hd, h.ans.row, fun i b o hi hb => (hold b (heap_lt (h.ans.blk i b o hi hb)) (han i b hi (by rw [hb]; simp))).trans (h.ans.blk i b o hi hb), h.ans.nab, h.ans.sep⟩, h.ast, by omega, fun b hb hf => (hold b (by omega) (by omega)).trans ((h.old b (by omega) hf).trans (hoa b (by omega))), fun b hb => (h.foot b hb).imp id (fun x => by omega), by omega, fun i b hi hb => (h.ansn i b hi hb).imp id (fun x => by omega), h.anf, ?_, h.rowf⟩
 refine ownsRow_base (ownsRow_of h.row fun g hg => hold g (own_lt h.row hg).2.2 ?_) (by omega)
 have := (own_lt h.row hg).2.1
 omega
end
end Go.Proofs
