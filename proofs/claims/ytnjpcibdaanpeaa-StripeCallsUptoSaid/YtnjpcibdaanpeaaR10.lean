/- YtnjpcibdaanpeaaSCalls11: part 10 of the proof (the texts behind it, in order). -/
import Derived.Test.YtnjpcibdaanpeaaR09
set_option linter.unusedSimpArgs false
set_option linter.unusedVariables false
set_option linter.unusedSectionVars false
set_option linter.unnecessarySimpa false
set_option maxHeartbeats 4000000
set_option maxRecDepth 100000
namespace Go.Proofs
open Go Go.Conc Go.RowKit Go.Car
def doP{S2:Type}(N:Nat)(op:OpX):Proc (List Int×S2) Ans:=
 if op.k=1 then(addP N op.a op.b).bind λx=>Proc.ret ⟨true,x,[]⟩
 else if op.k=2 then(sumP N).bind λx=>Proc.ret ⟨true,x,[]⟩
 else if op.k=3 then(takeP N).bind λx=>Proc.ret ⟨true,x,[]⟩
 else if op.k=4 then(moveP N op.a op.b op.c).bind λ_=>Proc.ret ⟨true,0,[]⟩
 else if op.k=5 then(evenP N).bind λx=>Proc.ret ⟨x.2,x.1,[]⟩
 else Proc.ret Ans.none
section
variable {M2 S2 β:Type} {D:Core M2 S2} {ro:Nat->Option Obj} {i:Nat} {cb:Nat} {z:Option Nat} {N:Nat}
theorem do_spec(Y:YSys Try.prog aM (zqa (zq6 cb z N) D) ro i β){sv:Value}(hst:StrAtoms Y sv)(who:Int)(op:OpX):
 SpecR Y 27 #[.pointer (some ⟨cb,0,none⟩),sv,.int .i64 who,op.val] (doP N op) (AnsV 2):=by
 refine SpecR.of Try.func27 rfl ?_;intro K s B w hK hA;simp only[zqi,Try.ntmps27,List.size_toArray,List.length_cons,List.length_nil,Nat.reduceAdd,Nat.reduceSub,Array.replicate_succ,Array.replicate_zero,List.push_toArray,List.append_toArray,List.nil_append,List.cons_append];have HKK:=Lib.hid hK;clear hK;refine zqn Y.jc (zqy Y.jc ?_);refine YSys.preX 0 1 1 (λt B'=>∃(b7:Nat)(x4 x5 x6 x8 x9 x10 x11 x12 x13 x14 x15 x16 x17 x18 x19 x20 x21 x22 x23 x24 x25 x26 x27 x28 x29 x30 x31 x32 x33 x34 x35 x36 x37 x38 x39 x40 x41 x42 x43 x44 x45 x46 x47 x48 x49 x50 x51 x52 x53 x54 x55 x56 x57:Value),t=#[.pointer (some ⟨cb,0,none⟩),sv,.int .i64 who,op.val,x4,x5,x6,.pointer (some ⟨b7,0,none⟩),x8,x9,x10,x11,x12,x13,x14,x15,x16,x17,x18,x19,x20,x21,x22,x23,x24,x25,x26,x27,x28,x29,x30,x31,x32,x33,x34,x35,x36,x37,x38,x39,x40,x41,x42,x43,x44,x45,x46,x47,x48,x49,x50,x51,x52,x53,x54,x55,x56,x57]/\B b7=none/\B'=upB B b7 (.cells op.cells.toArray 46)) hA rfl rfl rfl rfl ?_ ?_
 · intro wc hB X0 hX0;have HX0:=Lib.hid hX0;clear hX0;have hm:=OMoved.push (o:=.cells op.cells.toArray 46) hB.own (Ext1.alloc wc (.cells op.cells.toArray 46)) (Nat.le_refl _) (by rw[zq2];simp);have hf:=hB.own.fresh (Nat.le_refl _);have HM:=Lib.hid (And.intro hm hf);clear hm hf;unfold OpX.val;go_wp2;exact HX0.out _ _ _ HM.out.1 ⟨_,_,_,_,_,_,_,_,_,_,_,_,_,_,_,_,_,_,_,_,_,_,_,_,_,_,_,_,_,_,_,_,_,_,_,_,_,_,_,_,_,_,_,_,_,_,_,_,_,_,_,_,_,_,rfl,HM.out.2,rfl⟩
 clear hA;rintro _ _ w ⟨b7,x4,x5,x6,x8,x9,x10,x11,x12,x13,x14,x15,x16,x17,x18,x19,x20,x21,x22,x23,x24,x25,x26,x27,x28,x29,x30,x31,x32,x33,x34,x35,x36,x37,x38,x39,x40,x41,x42,x43,x44,x45,x46,x47,x48,x49,x50,x51,x52,x53,x54,x55,x56,x57,rfl,hb7,rfl⟩ hA;refine YSys.opsX 1 1 (λt B'=>∃(b8:Nat)(x4 x5 x6 x9 x10 x11 x12 x13 x14 x15 x16 x17 x18 x19 x20 x21 x22 x23 x24 x25 x26 x27 x28 x29 x30 x31 x32 x33 x34 x35 x36 x37 x38 x39 x40 x41 x42 x43 x44 x45 x46 x47 x48 x49 x50 x51 x52 x53 x54 x55 x56 x57:Value),t=#[.pointer (some ⟨cb,0,none⟩),sv,.int .i64 who,op.val,x4,x5,x6,.pointer (some ⟨b7,0,none⟩),.pointer (some ⟨b8,0,none⟩),x9,x10,x11,x12,x13,x14,x15,x16,x17,x18,x19,x20,x21,x22,x23,x24,x25,x26,x27,x28,x29,x30,x31,x32,x33,x34,x35,x36,x37,x38,x39,x40,x41,x42,x43,x44,x45,x46,x47,x48,x49,x50,x51,x52,x53,x54,x55,x56,x57]/\upB B b7 (.cells op.cells.toArray 46) b8=none/\B'=upB (upB B b7 (.cells op.cells.toArray 46)) b8 (.cells #[.bool false,.int .i64 0,.slice none 0 0] 43)) hA rfl rfl (by kernel_rfl) ?_ ?_
 · intro wc hB X0 hX0;have HX0:=Lib.hid hX0;clear hX0;have hm:=OMoved.push (o:=.cells #[.bool false,.int .i64 0,.slice none 0 0] 43) hB.own (Ext1.alloc wc (.cells #[.bool false,.int .i64 0,.slice none 0 0] 43)) (Nat.le_refl _) (by rw[zq2];simp);have hf:=hB.own.fresh (Nat.le_refl _);have HM:=Lib.hid (And.intro hm hf);clear hm hf;go_wp2;exact⟨rfl,HX0.out _ _ _ HM.out.1 ⟨_,_,_,_,_,_,_,_,_,_,_,_,_,_,_,_,_,_,_,_,_,_,_,_,_,_,_,_,_,_,_,_,_,_,_,_,_,_,_,_,_,_,_,_,_,_,_,_,_,_,_,_,_,rfl,HM.out.2,rfl⟩⟩
 clear hA;rintro _ _ w ⟨b8,x4,x5,x6,x9,x10,x11,x12,x13,x14,x15,x16,x17,x18,x19,x20,x21,x22,x23,x24,x25,x26,x27,x28,x29,x30,x31,x32,x33,x34,x35,x36,x37,x38,x39,x40,x41,x42,x43,x44,x45,x46,x47,x48,x49,x50,x51,x52,x53,x54,x55,x56,x57,rfl,hb8,rfl⟩ hA;show wpJ Y.J _ _ _ _ _;refine YSys.seqX (λt B'=>∃(b9:Nat)(x4 x5 x6 x10 x11 x12 x13 x14 x15 x16 x17 x18 x19 x20 x21 x22 x23 x24 x25 x26 x27 x28 x29 x30 x31 x32 x33 x34 x35 x36 x37 x38 x39 x40 x41 x42 x43 x44 x45 x46 x47 x48 x49 x50 x51 x52 x53 x54 x55 x56 x57:Value),t=#[.pointer (some ⟨cb,0,none⟩),sv,.int .i64 who,op.val,x4,x5,x6,.pointer (some ⟨b7,0,none⟩),.pointer (some ⟨b8,0,none⟩),.pointer (some ⟨b9,0,none⟩),x10,x11,x12,x13,x14,x15,x16,x17,x18,x19,x20,x21,x22,x23,x24,x25,x26,x27,x28,x29,x30,x31,x32,x33,x34,x35,x36,x37,x38,x39,x40,x41,x42,x43,x44,x45,x46,x47,x48,x49,x50,x51,x52,x53,x54,x55,x56,x57]/\upB (upB B b7 (.cells op.cells.toArray 46)) b8 (.cells #[.bool false,.int .i64 0,.slice none 0 0] 43) b9=none/\B'=upB (upB (upB B b7 (.cells op.cells.toArray 46)) b8 (.cells #[.bool false,.int .i64 0,.slice none 0 0] 43)) b9 (.cells #[.bool true,.int .i64 0,.slice none 0 0] 43)) hA (by kernel_rfl) ?_ ?_
 · intro wc hB X0 hX0;have HX0:=Lib.hid hX0;clear hX0;have hm:=OMoved.push (o:=.cells #[.bool true,.int .i64 0,.slice none 0 0] 43) hB.own (Ext1.alloc wc (.cells #[.bool true,.int .i64 0,.slice none 0 0] 43)) (Nat.le_refl _) (by rw[zq2];simp);have hf:=hB.own.fresh (Nat.le_refl _);have HM:=Lib.hid (And.intro hm hf);clear hm hf;go_wp2;exact⟨rfl,HX0.out _ _ _ HM.out.1 ⟨_,_,_,_,_,_,_,_,_,_,_,_,_,_,_,_,_,_,_,_,_,_,_,_,_,_,_,_,_,_,_,_,_,_,_,_,_,_,_,_,_,_,_,_,_,_,_,_,_,_,_,_,rfl,HM.out.2,rfl⟩⟩
 clear hA;rintro _ _ w ⟨b9,x4,x5,x6,x10,x11,x12,x13,x14,x15,x16,x17,x18,x19,x20,x21,x22,x23,x24,x25,x26,x27,x28,x29,x30,x31,x32,x33,x34,x35,x36,x37,x38,x39,x40,x41,x42,x43,x44,x45,x46,x47,x48,x49,x50,x51,x52,x53,x54,x55,x56,x57,rfl,hb9,rfl⟩ hA;have h7:upB (upB (upB B b7 (.cells op.cells.toArray 46)) b8 (.cells #[.bool false,.int .i64 0,.slice none 0 0] 43)) b9 (.cells #[.bool true,.int .i64 0,.slice none 0 0] 43) b7=some (.cells op.cells.toArray 46):=zq1e (zq1e (upB_same _ _ _) (zq25 (upB_same _ _ _) hb8)) (zq25 (zq1e (upB_same _ _ _) (zq25 (upB_same _ _ _) hb8)) hb9);have h8:upB (upB (upB B b7 (.cells op.cells.toArray 46)) b8 (.cells #[.bool false,.int .i64 0,.slice none 0 0] 43)) b9 (.cells #[.bool true,.int .i64 0,.slice none 0 0] 43) b8=some (.cells #[.bool false,.int .i64 0,.slice none 0 0] 43):=zq1e (upB_same _ _ _) (zq25 (upB_same _ _ _) hb9);have h9:upB (upB (upB B b7 (.cells op.cells.toArray 46)) b8 (.cells #[.bool false,.int .i64 0,.slice none 0 0] 43)) b9 (.cells #[.bool true,.int .i64 0,.slice none 0 0] 43) b9=some (.cells #[.bool true,.int .i64 0,.slice none 0 0] 43):=upB_same _ _ _;have hB8:B b8=none:=Classical.byContradiction λh=>by
  cases ho:B b8 with
  |none=>exact h ho
  |some o=>rw[upB_le (o:=.cells op.cells.toArray 46) hb7 b8 o ho]at hb8;cases hb8
 have hB9:B b9=none:=Classical.byContradiction λh=>by
  cases ho:B b9 with
  |none=>exact h ho
  |some o=>rw[zq1d (o:=.cells #[.bool false,.int .i64 0,.slice none 0 0] 43) (upB_le (o:=.cells op.cells.toArray 46) hb7) hB8 b9 o ho]at hb9;cases hb9
 have hle:∀x y,B x=some y->upB (upB (upB B b7 (.cells op.cells.toArray 46)) b8 (.cells #[.bool false,.int .i64 0,.slice none 0 0] 43)) b9 (.cells #[.bool true,.int .i64 0,.slice none 0 0] 43) x=some y:=zq1d (zq1d (upB_le (o:=.cells op.cells.toArray 46) hb7) hB8) hB9;have h89:b8≠b9:=zq25 (upB_same _ _ _) hb9;obtain⟨B1,hB1⟩:∃X,upB (upB (upB B b7 (.cells op.cells.toArray 46)) b8 (.cells #[.bool false,.int .i64 0,.slice none 0 0] 43)) b9 (.cells #[.bool true,.int .i64 0,.slice none 0 0] 43)=X:=⟨_,rfl⟩;rw[hB1]at h7 h8 h9 hle hA;have H7:=Lib.hid h7;have H8:=Lib.hid h8;have H9:=Lib.hid h9;have HLE:=Lib.hid hle;have HN:=Lib.hid (And.intro hB8 (And.intro hB9 h89));clear h7 h8 h9 hle hB1 hb7 hb8 hb9 hB8 hB9 h89;show wpJ Y.J _ _ _ _ _;refine wpY_cut Y.jc (λs a w=>∃(B2:Nat->Option Obj)(ok:Bool)(x:Int)(x4 x5 x6 x10 x11 x13 x14 x15 x16 x17 x18 x19 x20 x21 x22 x23 x24 x25 x26 x27 x28 x29 x30 x31 x32 x33 x34 x35 x36 x37 x38 x39 x40 x41 x42 x43 x44 x45 x46 x47 x48 x49 x50 x51 x52 x53 x54 x55 x56 x57:Value),a=⟨#[.pointer (some ⟨cb,0,none⟩),sv,.int .i64 who,op.val,x4,x5,x6,.pointer (some ⟨b7,0,none⟩),.pointer (some ⟨b8,0,none⟩),.pointer (some ⟨b9,0,none⟩),x10,x11,.int .i64 op.k,x13,x14,x15,x16,x17,x18,x19,x20,x21,x22,x23,x24,x25,x26,x27,x28,x29,x30,x31,x32,x33,x34,x35,x36,x37,x38,x39,x40,x41,x42,x43,x44,x45,x46,x47,x48,x49,x50,x51,x52,x53,x54,x55,x56,x57],[]⟩/\(B2 b8=some (.cells #[.bool false,.int .i64 0,.slice none 0 0] 43)/\B2 b9=some (.cells #[.bool ok,.int .i64 x,.slice none 0 0] 43)/\∀x y,B x=some y->B2 x=some y)/\Y.AtB B2 s w (K ⟨ok,x,[]⟩)) ?_ ?_
 ·
  apply YSys.seq0 hA (by kernel_rfl)
  · intro wc hB;have c70:wc.cell? ⟨b7,0,none⟩=some (.int .i64 op.k):=(zq0 (hB.own.box b7 _ H7.out)).trans rfl;have c71:wc.cell? ⟨b7,1,none⟩=some (.int .i64 op.a):=(zq0 (hB.own.box b7 _ H7.out)).trans rfl;have c72:wc.cell? ⟨b7,2,none⟩=some (.int .i64 op.b):=(zq0 (hB.own.box b7 _ H7.out)).trans rfl;have c73:wc.cell? ⟨b7,3,none⟩=some (.int .i64 op.c):=(zq0 (hB.own.box b7 _ H7.out)).trans rfl;go_wp2;exact⟨rfl,Ext1.refl _,rfl⟩
  intro w hA;refine zq1y Y.jc ?_;unfold doP at hA;apply YSys.seq0 hA (by kernel_rfl)
  · intro wc hB;go_wp2;exact⟨rfl,Ext1.refl _,rfl⟩
  intro w hA;refine zq10 Y.jc rfl ?_
  by_cases hk1:op.k=1
  · rw[if_pos (by simp[hk1])];rw[if_pos hk1,Proc.bind_bind]at hA;clear hk1;refine zqy Y.jc ?_;apply YSys.callR 0 6 2 hA (zq2r Y hst op.a op.b).spec (λx=>HKK.out _) rfl rfl rfl (by rfl) rfl rfl rfl
    · intro wc hB X hX;have HX:=Lib.hid hX;clear hX;have c70:wc.cell? ⟨b7,0,none⟩=some (.int .i64 op.k):=(zq0 (hB.own.box b7 _ H7.out)).trans rfl;have c71:wc.cell? ⟨b7,1,none⟩=some (.int .i64 op.a):=(zq0 (hB.own.box b7 _ H7.out)).trans rfl;have c72:wc.cell? ⟨b7,2,none⟩=some (.int .i64 op.b):=(zq0 (hB.own.box b7 _ H7.out)).trans rfl;have c73:wc.cell? ⟨b7,3,none⟩=some (.int .i64 op.c):=(zq0 (hB.own.box b7 _ H7.out)).trans rfl;go_wp2;exact HX.out _ (Ext1.refl _)
    · intro w;simp[go_sem,execOp,Act.eval,resolve,Deferred.ofValue,invoke,callFunc,Try.func21,Try.f21]
    · intro w;simp[go_sem,execOp,Act.eval,resolve,Deferred.ofValue,invoke,callFunc,Try.func21,Try.f21]
    · intro s' ch w' h;exact⟨rfl,h⟩
    intro s x w hA;refine YSys.opsX 7 2 (λt B'=>∃(y4 y5 y6 y10 y11 y13 y14 y15 y16 y17 y18 y19 y20 y21 y22 y23 y24 y25 y26 y27 y28 y29 y30 y31 y32 y33 y34 y35 y36 y37 y38 y39 y40 y41 y42 y43 y44 y45 y46 y47 y48 y49 y50 y51 y52 y53 y54 y55 y56 y57:Value),t=#[.pointer (some ⟨cb,0,none⟩),sv,.int .i64 who,op.val,y4,y5,y6,.pointer (some ⟨b7,0,none⟩),.pointer (some ⟨b8,0,none⟩),.pointer (some ⟨b9,0,none⟩),y10,y11,.int .i64 op.k,y13,y14,y15,y16,y17,y18,y19,y20,y21,y22,y23,y24,y25,y26,y27,y28,y29,y30,y31,y32,y33,y34,y35,y36,y37,y38,y39,y40,y41,y42,y43,y44,y45,y46,y47,y48,y49,y50,y51,y52,y53,y54,y55,y56,y57]/\B'=upB B1 b9 (.cells #[.bool true,.int .i64 x,.slice none 0 0] 43)) hA rfl rfl (by kernel_rfl) ?_ ?_
    · intro wc hB X0 hX0;have HX0:=Lib.hid hX0;clear hX0;have k9:=hB.own.box b9 _ H9.out;have c90:wc.cell? ⟨b9,0,none⟩=some (.bool true):=(zq0 k9).trans rfl;have c91:wc.cell? ⟨b9,1,none⟩=some (.int .i64 0):=(zq0 k9).trans rfl;have f90:wc.frozen? ⟨b9,0,none⟩=false:=zq3 k9;have f91:wc.frozen? ⟨b9,1,none⟩=false:=zq3 k9;clear k9;have hm:=OMoved.set (off:=1) hB.own H9.out (.int .i64 x);have HM:=Lib.hid hm;clear hm;go_wp2;exact⟨rfl,HX0.out _ _ _ HM.out ⟨_,_,_,_,_,_,_,_,_,_,_,_,_,_,_,_,_,_,_,_,_,_,_,_,_,_,_,_,_,_,_,_,_,_,_,_,_,_,_,_,_,_,_,_,_,_,_,_,_,_,rfl,rfl⟩⟩
    rintro _ _ w ⟨y4,y5,y6,y10,y11,y13,y14,y15,y16,y17,y18,y19,y20,y21,y22,y23,y24,y25,y26,y27,y28,y29,y30,y31,y32,y33,y34,y35,y36,y37,y38,y39,y40,y41,y42,y43,y44,y45,y46,y47,y48,y49,y50,y51,y52,y53,y54,y55,y56,y57,rfl,rfl⟩ hA;exact⟨_,true,x,_,_,_,_,_,_,_,_,_,_,_,_,_,_,_,_,_,_,_,_,_,_,_,_,_,_,_,_,_,_,_,_,_,_,_,_,_,_,_,_,_,_,_,_,_,_,_,_,_,_,rfl,⟨zq1e H8.out HN.out.2.2,upB_same _ _ _,zq1d HLE.out HN.out.2.1⟩,hA⟩
  rw[if_neg (by simp[hk1])];rw[if_neg hk1]at hA;clear hk1;apply YSys.seq0 hA (by kernel_rfl)
  · intro wc hB;go_wp2;exact⟨rfl,Ext1.refl _,rfl⟩
  intro w hA;refine zq10 Y.jc rfl ?_
  by_cases hk2:op.k=2
  · rw[if_pos (by simp[hk2])];rw[if_pos hk2,Proc.bind_bind]at hA;clear hk2;refine zqy Y.jc ?_;apply YSys.callR 0 2 2 hA (sum_spec Y hst).spec (λx=>HKK.out _) rfl rfl rfl (by rfl) rfl rfl rfl
    · intro wc hB X hX;have HX:=Lib.hid hX;clear hX;go_wp2;exact HX.out _ (Ext1.refl _)
    · intro w;simp[go_sem,execOp,Act.eval,resolve,Deferred.ofValue,invoke,callFunc,Try.func22,Try.f22]
    · intro w;simp[go_sem,execOp,Act.eval,resolve,Deferred.ofValue,invoke,callFunc,Try.func22,Try.f22]
    · intro s' ch w' h;exact⟨rfl,h⟩
    intro s x w hA;refine YSys.opsX 3 2 (λt B'=>∃(y4 y5 y6 y10 y11 y13 y14 y15 y16 y17 y18 y19 y20 y21 y22 y23 y24 y25 y26 y27 y28 y29 y30 y31 y32 y33 y34 y35 y36 y37 y38 y39 y40 y41 y42 y43 y44 y45 y46 y47 y48 y49 y50 y51 y52 y53 y54 y55 y56 y57:Value),t=#[.pointer (some ⟨cb,0,none⟩),sv,.int .i64 who,op.val,y4,y5,y6,.pointer (some ⟨b7,0,none⟩),.pointer (some ⟨b8,0,none⟩),.pointer (some ⟨b9,0,none⟩),y10,y11,.int .i64 op.k,y13,y14,y15,y16,y17,y18,y19,y20,y21,y22,y23,y24,y25,y26,y27,y28,y29,y30,y31,y32,y33,y34,y35,y36,y37,y38,y39,y40,y41,y42,y43,y44,y45,y46,y47,y48,y49,y50,y51,y52,y53,y54,y55,y56,y57]/\B'=upB B1 b9 (.cells #[.bool true,.int .i64 x,.slice none 0 0] 43)) hA rfl rfl (by kernel_rfl) ?_ ?_
    · intro wc hB X0 hX0;have HX0:=Lib.hid hX0;clear hX0;have k9:=hB.own.box b9 _ H9.out;have c90:wc.cell? ⟨b9,0,none⟩=some (.bool true):=(zq0 k9).trans rfl;have c91:wc.cell? ⟨b9,1,none⟩=some (.int .i64 0):=(zq0 k9).trans rfl;have f90:wc.frozen? ⟨b9,0,none⟩=false:=zq3 k9;have f91:wc.frozen? ⟨b9,1,none⟩=false:=zq3 k9;clear k9;have hm:=OMoved.set (off:=1) hB.own H9.out (.int .i64 x);have HM:=Lib.hid hm;clear hm;go_wp2;exact⟨rfl,HX0.out _ _ _ HM.out ⟨_,_,_,_,_,_,_,_,_,_,_,_,_,_,_,_,_,_,_,_,_,_,_,_,_,_,_,_,_,_,_,_,_,_,_,_,_,_,_,_,_,_,_,_,_,_,_,_,_,_,rfl,rfl⟩⟩
    rintro _ _ w ⟨y4,y5,y6,y10,y11,y13,y14,y15,y16,y17,y18,y19,y20,y21,y22,y23,y24,y25,y26,y27,y28,y29,y30,y31,y32,y33,y34,y35,y36,y37,y38,y39,y40,y41,y42,y43,y44,y45,y46,y47,y48,y49,y50,y51,y52,y53,y54,y55,y56,y57,rfl,rfl⟩ hA;exact⟨_,true,x,_,_,_,_,_,_,_,_,_,_,_,_,_,_,_,_,_,_,_,_,_,_,_,_,_,_,_,_,_,_,_,_,_,_,_,_,_,_,_,_,_,_,_,_,_,_,_,_,_,_,rfl,⟨zq1e H8.out HN.out.2.2,upB_same _ _ _,zq1d HLE.out HN.out.2.1⟩,hA⟩
  rw[if_neg (by simp[hk2])];rw[if_neg hk2]at hA;clear hk2;apply YSys.seq0 hA (by kernel_rfl)
  · intro wc hB;go_wp2;exact⟨rfl,Ext1.refl _,rfl⟩
  intro w hA;refine zq10 Y.jc rfl ?_
  by_cases hk3:op.k=3
  · rw[if_pos (by simp[hk3])];rw[if_pos hk3,Proc.bind_bind]at hA;clear hk3;refine zqy Y.jc ?_;apply YSys.callR 0 2 2 hA (take_spec Y hst).spec (λx=>HKK.out _) rfl rfl rfl (by rfl) rfl rfl rfl
    · intro wc hB X hX;have HX:=Lib.hid hX;clear hX;go_wp2;exact HX.out _ (Ext1.refl _)
    · intro w;simp[go_sem,execOp,Act.eval,resolve,Deferred.ofValue,invoke,callFunc,Try.func23,Try.f23]
    · intro w;simp[go_sem,execOp,Act.eval,resolve,Deferred.ofValue,invoke,callFunc,Try.func23,Try.f23]
    · intro s' ch w' h;exact⟨rfl,h⟩
    intro s x w hA;refine YSys.opsX 3 2 (λt B'=>∃(y4 y5 y6 y10 y11 y13 y14 y15 y16 y17 y18 y19 y20 y21 y22 y23 y24 y25 y26 y27 y28 y29 y30 y31 y32 y33 y34 y35 y36 y37 y38 y39 y40 y41 y42 y43 y44 y45 y46 y47 y48 y49 y50 y51 y52 y53 y54 y55 y56 y57:Value),t=#[.pointer (some ⟨cb,0,none⟩),sv,.int .i64 who,op.val,y4,y5,y6,.pointer (some ⟨b7,0,none⟩),.pointer (some ⟨b8,0,none⟩),.pointer (some ⟨b9,0,none⟩),y10,y11,.int .i64 op.k,y13,y14,y15,y16,y17,y18,y19,y20,y21,y22,y23,y24,y25,y26,y27,y28,y29,y30,y31,y32,y33,y34,y35,y36,y37,y38,y39,y40,y41,y42,y43,y44,y45,y46,y47,y48,y49,y50,y51,y52,y53,y54,y55,y56,y57]/\B'=upB B1 b9 (.cells #[.bool true,.int .i64 x,.slice none 0 0] 43)) hA rfl rfl (by kernel_rfl) ?_ ?_
    · intro wc hB X0 hX0;have HX0:=Lib.hid hX0;clear hX0;have k9:=hB.own.box b9 _ H9.out;have c90:wc.cell? ⟨b9,0,none⟩=some (.bool true):=(zq0 k9).trans rfl;have c91:wc.cell? ⟨b9,1,none⟩=some (.int .i64 0):=(zq0 k9).trans rfl;have f90:wc.frozen? ⟨b9,0,none⟩=false:=zq3 k9;have f91:wc.frozen? ⟨b9,1,none⟩=false:=zq3 k9;clear k9;have hm:=OMoved.set (off:=1) hB.own H9.out (.int .i64 x);have HM:=Lib.hid hm;clear hm;go_wp2;exact⟨rfl,HX0.out _ _ _ HM.out ⟨_,_,_,_,_,_,_,_,_,_,_,_,_,_,_,_,_,_,_,_,_,_,_,_,_,_,_,_,_,_,_,_,_,_,_,_,_,_,_,_,_,_,_,_,_,_,_,_,_,_,rfl,rfl⟩⟩
    rintro _ _ w ⟨y4,y5,y6,y10,y11,y13,y14,y15,y16,y17,y18,y19,y20,y21,y22,y23,y24,y25,y26,y27,y28,y29,y30,y31,y32,y33,y34,y35,y36,y37,y38,y39,y40,y41,y42,y43,y44,y45,y46,y47,y48,y49,y50,y51,y52,y53,y54,y55,y56,y57,rfl,rfl⟩ hA;exact⟨_,true,x,_,_,_,_,_,_,_,_,_,_,_,_,_,_,_,_,_,_,_,_,_,_,_,_,_,_,_,_,_,_,_,_,_,_,_,_,_,_,_,_,_,_,_,_,_,_,_,_,_,_,rfl,⟨zq1e H8.out HN.out.2.2,upB_same _ _ _,zq1d HLE.out HN.out.2.1⟩,hA⟩
  rw[if_neg (by simp[hk3])];rw[if_neg hk3]at hA;clear hk3;apply YSys.seq0 hA (by kernel_rfl)
  · intro wc hB;go_wp2;exact⟨rfl,Ext1.refl _,rfl⟩
  intro w hA;refine zq10 Y.jc rfl ?_
  by_cases hk4:op.k=4
  · rw[if_pos (by simp[hk4])];rw[if_pos hk4,Proc.bind_bind]at hA;clear hk4;refine zqy Y.jc ?_;apply YSys.callR 0 8 0 hA (move_spec Y hst op.a op.b op.c).spec (λx=>HKK.out _) rfl rfl rfl (by rfl) rfl rfl rfl
    · intro wc hB X hX;have HX:=Lib.hid hX;clear hX;have c70:wc.cell? ⟨b7,0,none⟩=some (.int .i64 op.k):=(zq0 (hB.own.box b7 _ H7.out)).trans rfl;have c71:wc.cell? ⟨b7,1,none⟩=some (.int .i64 op.a):=(zq0 (hB.own.box b7 _ H7.out)).trans rfl;have c72:wc.cell? ⟨b7,2,none⟩=some (.int .i64 op.b):=(zq0 (hB.own.box b7 _ H7.out)).trans rfl;have c73:wc.cell? ⟨b7,3,none⟩=some (.int .i64 op.c):=(zq0 (hB.own.box b7 _ H7.out)).trans rfl;go_wp2;exact HX.out _ (Ext1.refl _)
    · intro w;simp[go_sem,execOp,Act.eval,resolve,Deferred.ofValue,invoke,callFunc,Try.func30,Try.f30]
    · intro w;simp[go_sem,execOp,Act.eval,resolve,Deferred.ofValue,invoke,callFunc,Try.func30,Try.f30]
    · intro s' ch w' h;exact⟨rfl,h⟩
    intro s x w hA;refine zq26 Y.jc ?_;exact⟨B1,true,0,_,_,_,_,_,_,_,_,_,_,_,_,_,_,_,_,_,_,_,_,_,_,_,_,_,_,_,_,_,_,_,_,_,_,_,_,_,_,_,_,_,_,_,_,_,_,_,_,_,_,rfl,⟨H8.out,H9.out,HLE.out⟩,hA⟩
  rw[if_neg (by simp[hk4])];rw[if_neg hk4]at hA;clear hk4;apply YSys.seq0 hA (by kernel_rfl)
  · intro wc hB;go_wp2;exact⟨rfl,Ext1.refl _,rfl⟩
  intro w hA;refine zq10 Y.jc rfl ?_
  by_cases hk5:op.k=5
  · rw[if_pos (by simp[hk5])];rw[if_pos hk5,Proc.bind_bind]at hA;clear hk5;refine zqy Y.jc ?_;apply YSys.callR 0 2 7 hA (even_spec Y hst).spec (λx=>HKK.out _) rfl rfl rfl (by rfl) rfl rfl rfl
    · intro wc hB X hX;have HX:=Lib.hid hX;clear hX;go_wp2;exact HX.out _ (Ext1.refl _)
    · intro w;simp[go_sem,execOp,Act.eval,resolve,Deferred.ofValue,invoke,callFunc,Try.func20,Try.f20]
    · intro w;simp[go_sem,execOp,Act.eval,resolve,Deferred.ofValue,invoke,callFunc,Try.func20,Try.f20]
    · intro s' ch w' h;exact⟨rfl,h⟩
    intro s x w hA;obtain⟨x,ok⟩:=x;unfold evenV;refine YSys.opsX 3 7 (λt B'=>∃(y4 y5 y6 y10 y11 y13 y14 y15 y16 y17 y18 y19 y20 y21 y22 y23 y24 y25 y26 y27 y28 y29 y30 y31 y32 y33 y34 y35 y36 y37 y38 y39 y40 y41 y42 y43 y44 y45 y46 y47 y48 y49 y50 y51 y52 y53 y54 y55 y56 y57:Value),t=#[.pointer (some ⟨cb,0,none⟩),sv,.int .i64 who,op.val,y4,y5,y6,.pointer (some ⟨b7,0,none⟩),.pointer (some ⟨b8,0,none⟩),.pointer (some ⟨b9,0,none⟩),y10,y11,.int .i64 op.k,y13,y14,y15,y16,y17,y18,y19,y20,y21,y22,y23,y24,y25,y26,y27,y28,y29,y30,y31,y32,y33,y34,y35,y36,y37,y38,y39,y40,y41,y42,y43,y44,y45,y46,y47,y48,y49,y50,y51,y52,y53,y54,y55,y56,y57]/\B'=upB B1 b9 (.cells #[.bool ok,.int .i64 x,.slice none 0 0] 43)) hA rfl rfl (by kernel_rfl) ?_ ?_
    · intro wc hB X0 hX0;have HX0:=Lib.hid hX0;clear hX0;have k9:=hB.own.box b9 _ H9.out;have c90:wc.cell? ⟨b9,0,none⟩=some (.bool true):=(zq0 k9).trans rfl;have c91:wc.cell? ⟨b9,1,none⟩=some (.int .i64 0):=(zq0 k9).trans rfl;have f90:wc.frozen? ⟨b9,0,none⟩=false:=zq3 k9;have f91:wc.frozen? ⟨b9,1,none⟩=false:=zq3 k9;clear k9;have hm:=OMoved.set2 (o1:=1) (o2:=0) hB.own H9.out (.int .i64 x) (.bool ok);have HM:=Lib.hid hm;clear hm;go_wp2;exact⟨rfl,HX0.out _ _ _ HM.out ⟨_,_,_,_,_,_,_,_,_,_,_,_,_,_,_,_,_,_,_,_,_,_,_,_,_,_,_,_,_,_,_,_,_,_,_,_,_,_,_,_,_,_,_,_,_,_,_,_,_,_,rfl,rfl⟩⟩
    rintro _ _ w ⟨y4,y5,y6,y10,y11,y13,y14,y15,y16,y17,y18,y19,y20,y21,y22,y23,y24,y25,y26,y27,y28,y29,y30,y31,y32,y33,y34,y35,y36,y37,y38,y39,y40,y41,y42,y43,y44,y45,y46,y47,y48,y49,y50,y51,y52,y53,y54,y55,y56,y57,rfl,rfl⟩ hA;exact⟨_,ok,x,_,_,_,_,_,_,_,_,_,_,_,_,_,_,_,_,_,_,_,_,_,_,_,_,_,_,_,_,_,_,_,_,_,_,_,_,_,_,_,_,_,_,_,_,_,_,_,_,_,_,rfl,⟨zq1e H8.out HN.out.2.2,upB_same _ _ _,zq1d HLE.out HN.out.2.1⟩,hA⟩
  rw[if_neg (by simp[hk5])];rw[if_neg hk5]at hA;clear hk5;refine YSys.seqX (λt B'=>∃(y4 y5 y6 y10 y11 y13 y14 y15 y16 y17 y18 y19 y20 y21 y22 y23 y24 y25 y26 y27 y28 y29 y30 y31 y32 y33 y34 y35 y36 y37 y38 y39 y40 y41 y42 y43 y44 y45 y46 y47 y48 y49 y50 y51 y52 y53 y54 y55 y56 y57:Value),t=#[.pointer (some ⟨cb,0,none⟩),sv,.int .i64 who,op.val,y4,y5,y6,.pointer (some ⟨b7,0,none⟩),.pointer (some ⟨b8,0,none⟩),.pointer (some ⟨b9,0,none⟩),y10,y11,.int .i64 op.k,y13,y14,y15,y16,y17,y18,y19,y20,y21,y22,y23,y24,y25,y26,y27,y28,y29,y30,y31,y32,y33,y34,y35,y36,y37,y38,y39,y40,y41,y42,y43,y44,y45,y46,y47,y48,y49,y50,y51,y52,y53,y54,y55,y56,y57]/\B'=upB B1 b8 (.cells #[.bool false,.int .i64 0,.slice none 0 0] 43)) hA (by kernel_rfl) ?_ ?_
  · intro wc hB X0 hX0;have HX0:=Lib.hid hX0;clear hX0;have k8:=hB.own.box b8 _ H8.out;have c80:wc.cell? ⟨b8,0,none⟩=some (.bool false):=(zq0 k8).trans rfl;have c81:wc.cell? ⟨b8,1,none⟩=some (.int .i64 0):=(zq0 k8).trans rfl;have c82:wc.cell? ⟨b8,2,none⟩=some (.slice none 0 0):=(zq0 k8).trans rfl;have f80:wc.frozen? ⟨b8,0,none⟩=false:=zq3 k8;have f81:wc.frozen? ⟨b8,1,none⟩=false:=zq3 k8;have f82:wc.frozen? ⟨b8,2,none⟩=false:=zq3 k8;have hm:=OMoved.set3 (o1:=0) (o2:=1) (o3:=2) hB.own H8.out (.bool false) (.int .i64 0) (.slice none 0 0);have HM:=Lib.hid hm;clear hm k8;go_wp2;exact⟨rfl,HX0.out _ _ _ HM.out ⟨_,_,_,_,_,_,_,_,_,_,_,_,_,_,_,_,_,_,_,_,_,_,_,_,_,_,_,_,_,_,_,_,_,_,_,_,_,_,_,_,_,_,_,_,_,_,_,_,_,_,rfl,rfl⟩⟩
  rintro _ _ w ⟨y4,y5,y6,y10,y11,y13,y14,y15,y16,y17,y18,y19,y20,y21,y22,y23,y24,y25,y26,y27,y28,y29,y30,y31,y32,y33,y34,y35,y36,y37,y38,y39,y40,y41,y42,y43,y44,y45,y46,y47,y48,y49,y50,y51,y52,y53,y54,y55,y56,y57,rfl,rfl⟩ hA;refine wpY_ret Y.jc ?_;refine YSys.left hA (v:=.agg #[.bool false,.int .i64 0,.slice none 0 0]) (λwc hB=>results_cell_row rfl _ wc b8 43 _ _ _ rfl (hB.own.box b8 _ (upB_same _ _ _)) rfl rfl rfl) λw hA=>?_;exact⟨Ans.none,λ_=>none,AnsV.plain _ _ _,λb hb=>absurd rfl hb,hA.drop (zq1d HLE.out HN.out.1)⟩
 ·
  clear hA;rintro s a w ⟨B2,ok,x,z4,z5,z6,z10,z11,z13,z14,z15,z16,z17,z18,z19,z20,z21,z22,z23,z24,z25,z26,z27,z28,z29,z30,z31,z32,z33,z34,z35,z36,z37,z38,z39,z40,z41,z42,z43,z44,z45,z46,z47,z48,z49,z50,z51,z52,z53,z54,z55,z56,z57,rfl,hF,hA⟩;have HF:=Lib.hid hF;clear hF;refine YSys.seqX (λt B'=>∃(q4 q5 q6 q10 q11 q13 q14 q15 q16 q17 q18 q19 q20 q21 q22 q23 q24 q25 q26 q27 q28 q29 q30 q31 q32 q33 q34 q35 q36 q37 q38 q39 q40 q41 q42 q43 q44 q45 q46 q47 q48 q49 q50 q51 q52 q53 q54 q55 q56 q57:Value),t=#[.pointer (some ⟨cb,0,none⟩),sv,.int .i64 who,op.val,q4,q5,q6,.pointer (some ⟨b7,0,none⟩),.pointer (some ⟨b8,0,none⟩),.pointer (some ⟨b9,0,none⟩),q10,q11,.int .i64 op.k,q13,q14,q15,q16,q17,q18,q19,q20,q21,q22,q23,q24,q25,q26,q27,q28,q29,q30,q31,q32,q33,q34,q35,q36,q37,q38,q39,q40,q41,q42,q43,q44,q45,q46,q47,q48,q49,q50,q51,q52,q53,q54,q55,q56,q57]/\B'=upB B2 b8 (.cells #[.bool ok,.int .i64 x,.slice none 0 0] 43)) hA (by kernel_rfl) ?_ ?_
  · intro wc hB X0 hX0;have HX0:=Lib.hid hX0;clear hX0;have k8:=hB.own.box b8 _ HF.out.1;have k9:=hB.own.box b9 _ HF.out.2.1;have c90:wc.cell? ⟨b9,0,none⟩=some (.bool ok):=(zq0 k9).trans rfl;have c91:wc.cell? ⟨b9,1,none⟩=some (.int .i64 x):=(zq0 k9).trans rfl;have c92:wc.cell? ⟨b9,2,none⟩=some (.slice none 0 0):=(zq0 k9).trans rfl;have c80:wc.cell? ⟨b8,0,none⟩=some (.bool false):=(zq0 k8).trans rfl;have c81:wc.cell? ⟨b8,1,none⟩=some (.int .i64 0):=(zq0 k8).trans rfl;have c82:wc.cell? ⟨b8,2,none⟩=some (.slice none 0 0):=(zq0 k8).trans rfl;have hm:=OMoved.set3 (o1:=0) (o2:=1) (o3:=2) hB.own HF.out.1 (.bool ok) (.int .i64 x) (.slice none 0 0);have HM:=Lib.hid hm;have fz:∀j,wc.frozen? ⟨b8,j,none⟩=false:=λj=>zq3 k8;have f80:=fz 0;have f81:=fz 1;have f82:=fz 2;clear fz k8 k9 hm;go_wp2;exact⟨rfl,HX0.out _ _ _ HM.out ⟨_,_,_,_,_,_,_,_,_,_,_,_,_,_,_,_,_,_,_,_,_,_,_,_,_,_,_,_,_,_,_,_,_,_,_,_,_,_,_,_,_,_,_,_,_,_,_,_,_,_,rfl,rfl⟩⟩
  rintro _ _ w ⟨q4,q5,q6,q10,q11,q13,q14,q15,q16,q17,q18,q19,q20,q21,q22,q23,q24,q25,q26,q27,q28,q29,q30,q31,q32,q33,q34,q35,q36,q37,q38,q39,q40,q41,q42,q43,q44,q45,q46,q47,q48,q49,q50,q51,q52,q53,q54,q55,q56,q57,rfl,rfl⟩ hA;refine wpY_ret Y.jc ?_;refine YSys.left hA (v:=.agg #[.bool ok,.int .i64 x,.slice none 0 0]) (λwc hB=>?_) λw hA=>?_
  · exact results_cell_row rfl _ wc b8 43 _ _ _ rfl (hB.own.box b8 _ (upB_same _ _ _)) rfl rfl rfl
  · exact⟨⟨ok,x,[]⟩,λ_=>none,AnsV.plain _ _ _,λb hb=>absurd rfl hb,hA.drop (zq1d HF.out.2.2 HN.out.1)⟩
end
theorem make_stripes(w:World)(W:Nat)(hW:W<=1099511627776):(Instr.makeSlice 61 (.int .i64 W) (.int .i64 W)).run Try.prog w=.ok (.slice (some ⟨w.heap.size,0,none⟩) W W) (w.alloc (.cells (Array.replicate W (.int .i64 0)) 60)):=by
 obtain⟨ti,hti,hz0,hz1,hz2⟩:∃ti,Try.prog.info? 60=some ti/\ti.zero.map (·.cells)=some #[.int .i64 0]/\ti.size=1/\ti.bytes=8:=⟨_,rfl,by rfl,rfl,rfl⟩;obtain⟨z,hz,hzc⟩:∃z,ti.zero=some z/\z.cells=#[.int .i64 0]:=by
  cases h:ti.zero with
  |none=>rw[h]at hz0;cases hz0
  |some z=>rw[h]at hz0;exact⟨z,rfl,by simpa using hz0⟩
 have:=run_make (P:=Try.prog) w 61 60 ti z (by kernel_rfl) hti hz .i64 .i64 W W (by omega) (Int.le_refl _) (by rw[hz2];omega) (by omega);simp only[Int.toNat_natCast,hz1,Nat.mul_one]at this;rw[this];congr 3;rw[hzc];apply Array.ext_getElem?;intro i
 by_cases hi:i<W
 · simp[madeCells,hi,Nat.mod_one]
 · simp[madeCells,hi]
def stripesN(x:Int):Nat:=(min (max x 1) 64).toNat
theorem zq3h(x:Int):0<stripesN x/\stripesN x<=64:=by unfold stripesN;omega
structure NewStr(w:World)(N:Nat)(l:List Int)(w':World):Prop where
 rep:StrRep (w.heap.size+1) (some w.heap.size) N l w'
 size:w'.heap.size=w.heap.size+2
 old:∀b,b<w.heap.size->w'.heap[b]?=w.heap[b]?
theorem NewStr.made (w:World){N:Nat}(h0:0<N)(h1:N<=64):NewStr w N (List.replicate N 0) ((w.alloc (.cells (Array.replicate N (.int .i64 0)) 60)).alloc (.cells #[.int .i64 0,.slice (some ⟨w.heap.size,0,none⟩) N N] 63)):=by
 refine⟨⟨by simp,h0,h1,?_,λmb hm=>?_,λh=>(by cases h)⟩,by simp only[zq5],λb hb=>?_⟩
 · rw[zq2,if_pos (by simp only[zq5])];rfl
 · cases hm;refine(zqe (zqr w _)).trans ?_;simp
 · rw[zq2,if_neg (by simp only[zq5];omega),zq2,if_neg (by omega)]
theorem NewStr.re {w w':World}{N:Nat}{l:List Int}(h:NewStr w N l w')(τ:Nat->Question->Nat)(d:Nat):NewStr w N l (Go.Car.re w' τ d):=⟨(zq6 _ _ _).frame _ _ _ h.rep λ_ _=>rfl,h.size,h.old⟩
theorem new_lone(x:Int)(w:World):Calls Try.prog 12 #[.int .i64 x] w λe w'=>e=.returned (.pointer (some ⟨w.heap.size+1,0,none⟩))/\NewStr w (stripesN x) (List.replicate (stripesN x) 0) w':=by
 have hp:=zq3h x;have H1:=Lib.hid (NewStr.made w hp.1 hp.2);have e1:min (max x 1) 64=((stripesN x:Nat):Int):=by unfold stripesN;omega
 have hm:=make_stripes w (stripesN x) (by omega);generalize stripesN x=N at hp H1 e1 hm ⊢
 go_enter Try.func12,Try.ntmps12
 rcases(by omega:x<1\/(1<=x/\x<=64)\/64<x)with hc|⟨hc,hc'⟩|hc
 · have e2:(N:Int)=1:=by omega
   have h1:x<=1:=by omega
   rw[e2]at hm;have E:=Lib.hid (And.intro e1 (And.intro e2 hp));clear e1 e2 hp;go_wp2;go_ret;exact⟨rfl,H1.out⟩
 · have e2:(N:Int)=x:=by omega
   rw[e2]at hm;have E:=Lib.hid (And.intro e1 (And.intro e2 hp));clear e1 e2 hp;go_wp2;go_ret;exact⟨rfl,H1.out⟩
 · have e2:(N:Int)=64:=by omega
   have h1:1<=x:=by omega
   have h2:¬x<=64:=by omega
   rw[e2]at hm;have E:=Lib.hid (And.intro e1 (And.intro e2 hp));clear e1 e2 hp;go_wp2;go_ret;exact⟨rfl,H1.out⟩
structure IntsRes(w:World)(l:List Int)(v:Value)(w':World):Prop where
 size:w.heap.size<=w'.heap.size
 old:∀b,b<w.heap.size->w'.heap[b]?=w.heap[b]?
 row:w'.ownsRow w.heap.size 2 1 v l.length (l.map (Value.int .i64))
theorem IntsRes.re {w w':World}{l:List Int}{v:Value}(h:IntsRes w l v w')(τ:Nat->Question->Nat)(d:Nat):IntsRes w l v (Go.Car.re w' τ d):=⟨h.size,h.old,h.row⟩
section
variable {cb:Nat} {z:Option Nat} {N:Nat} {l:List Int} {w:World}
theorem idx_nat{k N:Nat}(h:k<N):idx k N=k:=by
 unfold idx;rw[Int.emod_eq_of_lt (by omega) (by omega)];omega
theorem all_lone(h:StrRep cb z N l w):Calls Try.prog 17 #[.pointer (some ⟨cb,0,none⟩)] w λe w'=>∃v,e=.returned v/\IntsRes w l v w':=by
 have hl:=h.len;have hp:=h.pos;have hle:=h.le;have HS:=Lib.hid h;have hs:=zq34 h.head;have HC:=Lib.hid (λ(w':World)(hh:∀b,b<w.heap.size->w'.heap[b]?=w.heap[b]?)=>(zq6 cb z N).frame _ _ _ h (λb hb=>hh b ((zq6 cb z N).lt _ _ _ h hb)));clear h
 go_enter Try.func17,Try.ntmps17
 go_wp2_with (fail)
 refine Calls.mono hs ?_;rintro e w' ⟨rfl,rfl⟩
 go_wp2_with (fail)
 clear hs;have hN1:(0:Int)<N:=by omega
 go_loopg [3,7] N (λk s i wr=>∃(j:Nat)(v:Value),v=s/\k=N - j/\j<=N/\i=.int .i64 j/\IntsRes w' (l.take j) v wr)
 case atStart=>exact⟨0,.slice none 0 0,rfl,rfl,Nat.zero_le _,rfl,Nat.le_refl _,λ_ _=>rfl,World.ownsRow_nil _ _ _ _⟩
 case round=>
  obtain⟨j,v,hv,hk,hj,rfl,hR⟩:=hrel;subst hv;have HR:=Lib.hid hR;clear hR
  by_cases hlt:j<N
  · have hlt':(j:Int)<(N:Int):=by omega
    have hj0:(0:Int)<=j:=by omega
    have hRep:=HC.out wr HR.out.old;have hst:=stripe_lone hRep.head (j:Int);obtain⟨ad,had⟩:∃ad,loc cb z N j=ad:=⟨_,rfl⟩;have hcl:=hRep.cell (j:Int);rw[had]at hst hcl;have HCL:=Lib.hid hcl;clear hRep hcl
    go_wp2_with (fail)
    refine Calls.mono hst ?_;rintro e w2 ⟨rfl,τ,d,rfl⟩;have hld:=load_lone ad (l.getD (idx j N) 0) (re wr τ d) HCL.out
    go_wp2_with (fail)
    refine Calls.mono hld ?_;rintro e w2 ⟨rfl,rfl⟩;obtain⟨tj,htj,hy0,hy1,hy2⟩:∃ti,Try.prog.info? 2=some ti/\ti.zero=some (.int .i64 0)/\ti.size=1/\ti.bytes=8:=⟨_,rfl,rfl,rfl,rfl⟩;have TJ:=Lib.hid (And.intro htj (And.intro hy0 (And.intro hy1 hy2)));clear htj hy0 hy1 hy2 hld hst;have hrow:(re wr τ d).ownsRow w'.heap.size 2 1 v j ((l.take j).map (Value.int .i64)):=by
     have:=(HR.out.re τ d).row
     rwa [show(l.take j).length=j by simp;omega]at this
    have HRW:=Lib.hid hrow;clear hrow;have hsz:=HR.out.size;have HLT:=Lib.hid (And.intro hlt (And.intro hl hle))
    go_wp2_with (at_builtin;go_loud (refine wpList_append_lies _ rfl (.tmp 10) (.tmp 15) 22 rfl w'.heap.size 2 tj (.int .i64 0) 1 8 (by kernel_rfl) TJ.out.1 TJ.out.2.1 TJ.out.2.2.1 TJ.out.2.2.2 rfl (by decide) _ j ((l.take j).map (Value.int .i64)) rfl (zq2w HRW.out _) _ 1 1 [.int .i64 (l.getD (idx (↑j) N) 0)] rfl rfl (one_new rfl) (by simp[Value.oneCell']) (by decide) (by simp only[maxLen];omega) (by omega) (by rw[zq5];show w'.heap.size<=wr.heap.size+1;omega) _ rfl ?next))
    case next=>
     intro g7 cap7 w7 hown7 hgrow7 hat7 hlt7;have L7:=Lib.hid (And.intro hown7 (And.intro hgrow7 hat7));clear hown7 hgrow7 hat7 hlt7;go_wp2;go_roundg (N - (j+1))
     case measure=>omega
     case rel=>
      obtain⟨o7,q7,a7⟩:=L7.out;have hne:∀b,b<w'.heap.size->v.ownBlock≠some b:=λb hb e=>by have:=(own_lt HRW.out e).2.1;omega
      have e1:(l.take (j+1)).length=j+1:=by simp;omega
      refine⟨j+1,_,rfl,rfl,by omega,rfl,?_,λb hb=>?_,?_⟩
      · have:=q7.size;rw[zq5]at this;exact Nat.le_trans hsz (Nat.le_trans (Nat.le_succ _) this)
      · rw[q7.block b (by rw[zq5];show b<wr.heap.size+1;omega) (λe=>hne b hb e.symm),zq2,if_neg (by show b≠wr.heap.size;omega)];exact HR.out.old b hb
      · rw[e1];have e2:(l.take (j+1)).map (Value.int .i64)=(l.take j).map (Value.int .i64)++[.int .i64 (l.getD (idx (↑j) N) 0)]:=by
         rw[idx_nat hlt,List.take_add_one,List.map_append];simp[show j<l.length by omega]
        rw[e2,List.map_take];exact o7
  · obtain rfl:j=N:=by omega
    have hlt':¬(j:Int)<(j:Int):=by omega
    go_wp2;go_ret;refine⟨_,rfl,?_⟩;have:=HR.out
    rwa [List.take_of_length_le (by omega)]at this
def zq1h(l:List Int):Int:=l.foldl (λa v=>wrap64 (a+v)) 0
theorem totalL_snoc(l:List Int)(x:Int):zq1h (l++[x])=wrap64 (zq1h l+x):=by simp[zq1h]
theorem total_lone(h:StrRep cb z N l w):Calls Try.prog 18 #[.pointer (some ⟨cb,0,none⟩)] w λe w'=>e=.returned (.int .i64 (zq1h l))/\w.heap.size<=w'.heap.size/\∀b,b<w.heap.size->w'.heap[b]?=w.heap[b]?:=by
 have hl:=h.len;have hle:=h.le;have hs:=all_lone h;clear h
 go_enter Try.func18,Try.ntmps18
 go_wp2_with (fail)
 refine Calls.mono hs ?_;rintro e w1 ⟨v,rfl,hR⟩;clear hs;obtain⟨p,C,rfl,-,-⟩:=zq12 hR.row;have HRW:=Lib.hid (And.intro hR.size hR.old);have HP:RowKit.Hid (0<l.length->∃g,p=some ⟨g,0,none⟩/\∀i x,l[i]?=some x->w1.cell? ⟨g,i,none⟩=some (.int .i64 x)):=by
  refine Lib.hid (λh0=>?_);rcases hR.row.2 with⟨hv,h1⟩|⟨g,cap,cur,hv,hb,hh,h1,h2,h3,h4⟩
  · omega
  · cases hv;refine⟨g,rfl,λi x hx=>?_⟩;rw[zq0 hh];have hi:=(List.getElem?_eq_some_iff.1 hx).1;have e:(l.map (Value.int .i64))[i]?=some (.int .i64 x):=by simp[hx]
    rw[←h4,List.getElem?_take,if_pos (by omega)]at e;simpa using e
 clear hR;obtain⟨n,hn⟩:∃n,l.length=n:=⟨_,rfl⟩;rw[hn]at hl HP ⊢;have HN:=Lib.hid (And.intro hn (And.intro hl hle));clear hn hl hle
 go_wp2_with (fail)
 go_loopg [3,9] n (λk s i wr=>∃(j:Nat),k=n - j/\j<=n/\i=.int .i64 j/\s=.int .i64 (zq1h (l.take j))/\wr=w1)
 case atStart=>exact⟨0,rfl,Nat.zero_le _,rfl,rfl,rfl⟩
 case round=>
  obtain⟨j,hk,hj,rfl,rfl,rfl⟩:=hrel;obtain⟨hn,hl,hle⟩:=HN.out
  by_cases hlt:j<n
  · obtain⟨g,rfl,hc⟩:=HP.out (by omega);have hlt':(j:Int)<(n:Int):=by omega
    have hj0:(0:Int)<=j:=by omega
    obtain⟨x,hx⟩:∃x,l[j]?=some x:=⟨_,List.getElem?_eq_getElem (by omega)⟩;have c1:=hc j x hx;have HX:=Lib.hid (And.intro hx (And.intro hn (And.intro hl hle)));have e1:IntKind.i64.wrap ((j:Int)+1)=((j+1:Nat):Int):=by rw[IntWalk.i64_in _ (by omega)];omega
    clear hc hx hn hl hle;obtain⟨acc,hacc⟩:∃acc,zq1h (l.take j)=acc:=⟨_,rfl⟩;rw[hacc];have HA:=Lib.hid hacc;clear hacc;go_wp2;go_roundg (n - (j+1))
    case measure=>omega
    case rel=>
     obtain⟨hx,hn,hl,hle⟩:=HX.out;refine⟨j+1,rfl,by omega,by simp,?_,rfl⟩;rw[List.take_add_one,hx,Option.toList_some,totalL_snoc,HA.out]
  · obtain rfl:j=n:=by omega
    have hlt':¬(j:Int)<(j:Int):=by omega
    have e2:l.take j=l:=List.take_of_length_le (by omega);rw[e2];clear hn hl hle;go_wp2;go_ret;exact⟨rfl,HRW.out⟩
end
section
variable {Ml S β:Type} {C:Core Ml S} {ro:Nat->Option Obj} {i:Nat}
end
def AnsP(a:Ans)(v:Value)(X:Nat->Option Obj):Prop:=v=.agg #[.bool a.ok,.int .i64 a.n,.slice none 0 0]/\a.l=[]/\X=λ_=>none
def callP{S:Type}(pA:Int->Int->Proc S Int)(pS pT:Proc S Int)(pM:Int->Int->Int->Proc S Unit)(pE:Proc S (Int×Bool))(op:OpX):Proc S Ans:=
 if op.k=1 then(pA op.a op.b).bind λx=>Proc.ret ⟨true,x,[]⟩
 else if op.k=2 then pS.bind λx=>Proc.ret ⟨true,x,[]⟩
 else if op.k=3 then pT.bind λx=>Proc.ret ⟨true,x,[]⟩
 else if op.k=4 then(pM op.a op.b op.c).bind λ_=>Proc.ret ⟨true,0,[]⟩
 else if op.k=5 then pE.bind λx=>Proc.ret ⟨x.2,x.1,[]⟩
 else Proc.ret Ans.none
section
variable {Ml S β:Type} {C:Core Ml S} {ro:Nat->Option Obj} {i:Nat} {pA:Int->Int->Proc S Int} {pS pT:Proc S Int} {pM:Int->Int->Int->Proc S Unit} {pE:Proc S (Int×Bool)}
theorem call_spec(Y:YSys Try.prog aM C ro i β){pc sv:Value}(hadd:∀a v,SpecY Y 21 #[pc,sv,.int .i64 a,.int .i64 v] (pA a v) (λx=>.int .i64 x))(hsum:SpecY Y 22 #[pc,sv] pS (λx=>.int .i64 x))(htake:SpecY Y 23 #[pc,sv] pT (λx=>.int .i64 x))(hmove:∀a b v,SpecY Y 30 #[pc,sv,.int .i64 a,.int .i64 b,.int .i64 v] (pM a b v) (λ_=>.tuple #[]))(heven:SpecY Y 20 #[pc,sv] pE evenV)(op:OpX):
 SpecR Y 14 #[pc,sv,op.val] (callP pA pS pT pM pE op) AnsP:=by
 refine SpecR.of Try.func14 rfl ?_;intro K s B w hK hA;simp only[zqi,Try.ntmps14,List.size_toArray,List.length_cons,List.length_nil,Nat.reduceAdd,Nat.reduceSub,Array.replicate_succ,Array.replicate_zero,List.push_toArray,List.append_toArray,List.nil_append,List.cons_append];have HKK:=Lib.hid hK;clear hK;refine zqn Y.jc (zqy Y.jc ?_);refine YSys.preX 0 1 1 (λt B'=>∃(b7:Nat)(x3 x4 x6 x7 x8 x9 x10 x11 x12 x13 x14 x15 x16 x17 x18 x19 x20 x21 x22 x23 x24 x25 x26 x27 x28 x29 x30 x31 x32 x33 x34 x35 x36 x37 x38 x39 x40 x41 x42 x43 x44 x45 x46 x47 x48 x49 x50 x51 x52 x53 x54 x55:Value),t=#[pc,sv,op.val,x3,x4,.pointer (some ⟨b7,0,none⟩),x6,x7,x8,x9,x10,x11,x12,x13,x14,x15,x16,x17,x18,x19,x20,x21,x22,x23,x24,x25,x26,x27,x28,x29,x30,x31,x32,x33,x34,x35,x36,x37,x38,x39,x40,x41,x42,x43,x44,x45,x46,x47,x48,x49,x50,x51,x52,x53,x54,x55]/\B b7=none/\B'=upB B b7 (.cells op.cells.toArray 46)) hA rfl rfl rfl rfl ?_ ?_
 · intro wc hB X0 hX0;have HX0:=Lib.hid hX0;clear hX0;have hm:=OMoved.push (o:=.cells op.cells.toArray 46) hB.own (Ext1.alloc wc (.cells op.cells.toArray 46)) (Nat.le_refl _) (by rw[zq2];simp);have hf:=hB.own.fresh (Nat.le_refl _);have HM:=Lib.hid (And.intro hm hf);clear hm hf;unfold OpX.val;go_wp2;exact HX0.out _ _ _ HM.out.1 ⟨_,_,_,_,_,_,_,_,_,_,_,_,_,_,_,_,_,_,_,_,_,_,_,_,_,_,_,_,_,_,_,_,_,_,_,_,_,_,_,_,_,_,_,_,_,_,_,_,_,_,_,_,_,rfl,HM.out.2,rfl⟩
 clear hA;rintro _ _ w ⟨b7,x3,x4,x6,x7,x8,x9,x10,x11,x12,x13,x14,x15,x16,x17,x18,x19,x20,x21,x22,x23,x24,x25,x26,x27,x28,x29,x30,x31,x32,x33,x34,x35,x36,x37,x38,x39,x40,x41,x42,x43,x44,x45,x46,x47,x48,x49,x50,x51,x52,x53,x54,x55,rfl,hb7,rfl⟩ hA;refine YSys.opsX 1 1 (λt B'=>∃(b8:Nat)(x3 x4 x7 x8 x9 x10 x11 x12 x13 x14 x15 x16 x17 x18 x19 x20 x21 x22 x23 x24 x25 x26 x27 x28 x29 x30 x31 x32 x33 x34 x35 x36 x37 x38 x39 x40 x41 x42 x43 x44 x45 x46 x47 x48 x49 x50 x51 x52 x53 x54 x55:Value),t=#[pc,sv,op.val,x3,x4,.pointer (some ⟨b7,0,none⟩),.pointer (some ⟨b8,0,none⟩),x7,x8,x9,x10,x11,x12,x13,x14,x15,x16,x17,x18,x19,x20,x21,x22,x23,x24,x25,x26,x27,x28,x29,x30,x31,x32,x33,x34,x35,x36,x37,x38,x39,x40,x41,x42,x43,x44,x45,x46,x47,x48,x49,x50,x51,x52,x53,x54,x55]/\upB B b7 (.cells op.cells.toArray 46) b8=none/\B'=upB (upB B b7 (.cells op.cells.toArray 46)) b8 (.cells #[.bool false,.int .i64 0,.slice none 0 0] 43)) hA rfl rfl (by kernel_rfl) ?_ ?_
 · intro wc hB X0 hX0;have HX0:=Lib.hid hX0;clear hX0;have hm:=OMoved.push (o:=.cells #[.bool false,.int .i64 0,.slice none 0 0] 43) hB.own (Ext1.alloc wc (.cells #[.bool false,.int .i64 0,.slice none 0 0] 43)) (Nat.le_refl _) (by rw[zq2];simp);have hf:=hB.own.fresh (Nat.le_refl _);have HM:=Lib.hid (And.intro hm hf);clear hm hf;go_wp2;exact⟨rfl,HX0.out _ _ _ HM.out.1 ⟨_,_,_,_,_,_,_,_,_,_,_,_,_,_,_,_,_,_,_,_,_,_,_,_,_,_,_,_,_,_,_,_,_,_,_,_,_,_,_,_,_,_,_,_,_,_,_,_,_,_,_,_,rfl,HM.out.2,rfl⟩⟩
 clear hA;rintro _ _ w ⟨b8,x3,x4,x7,x8,x9,x10,x11,x12,x13,x14,x15,x16,x17,x18,x19,x20,x21,x22,x23,x24,x25,x26,x27,x28,x29,x30,x31,x32,x33,x34,x35,x36,x37,x38,x39,x40,x41,x42,x43,x44,x45,x46,x47,x48,x49,x50,x51,x52,x53,x54,x55,rfl,hb8,rfl⟩ hA;show wpJ Y.J _ _ _ _ _;refine YSys.seqX (λt B'=>∃(b9:Nat)(x3 x4 x8 x9 x10 x11 x12 x13 x14 x15 x16 x17 x18 x19 x20 x21 x22 x23 x24 x25 x26 x27 x28 x29 x30 x31 x32 x33 x34 x35 x36 x37 x38 x39 x40 x41 x42 x43 x44 x45 x46 x47 x48 x49 x50 x51 x52 x53 x54 x55:Value),t=#[pc,sv,op.val,x3,x4,.pointer (some ⟨b7,0,none⟩),.pointer (some ⟨b8,0,none⟩),.pointer (some ⟨b9,0,none⟩),x8,x9,x10,x11,x12,x13,x14,x15,x16,x17,x18,x19,x20,x21,x22,x23,x24,x25,x26,x27,x28,x29,x30,x31,x32,x33,x34,x35,x36,x37,x38,x39,x40,x41,x42,x43,x44,x45,x46,x47,x48,x49,x50,x51,x52,x53,x54,x55]/\upB (upB B b7 (.cells op.cells.toArray 46)) b8 (.cells #[.bool false,.int .i64 0,.slice none 0 0] 43) b9=none/\B'=upB (upB (upB B b7 (.cells op.cells.toArray 46)) b8 (.cells #[.bool false,.int .i64 0,.slice none 0 0] 43)) b9 (.cells #[.bool true,.int .i64 0,.slice none 0 0] 43)) hA (by kernel_rfl) ?_ ?_
 · intro wc hB X0 hX0;have HX0:=Lib.hid hX0;clear hX0;have hm:=OMoved.push (o:=.cells #[.bool true,.int .i64 0,.slice none 0 0] 43) hB.own (Ext1.alloc wc (.cells #[.bool true,.int .i64 0,.slice none 0 0] 43)) (Nat.le_refl _) (by rw[zq2];simp);have hf:=hB.own.fresh (Nat.le_refl _);have HM:=Lib.hid (And.intro hm hf);clear hm hf;go_wp2;exact⟨rfl,HX0.out _ _ _ HM.out.1 ⟨_,_,_,_,_,_,_,_,_,_,_,_,_,_,_,_,_,_,_,_,_,_,_,_,_,_,_,_,_,_,_,_,_,_,_,_,_,_,_,_,_,_,_,_,_,_,_,_,_,_,_,rfl,HM.out.2,rfl⟩⟩
 clear hA;rintro _ _ w ⟨b9,x3,x4,x8,x9,x10,x11,x12,x13,x14,x15,x16,x17,x18,x19,x20,x21,x22,x23,x24,x25,x26,x27,x28,x29,x30,x31,x32,x33,x34,x35,x36,x37,x38,x39,x40,x41,x42,x43,x44,x45,x46,x47,x48,x49,x50,x51,x52,x53,x54,x55,rfl,hb9,rfl⟩ hA;have h7:upB (upB (upB B b7 (.cells op.cells.toArray 46)) b8 (.cells #[.bool false,.int .i64 0,.slice none 0 0] 43)) b9 (.cells #[.bool true,.int .i64 0,.slice none 0 0] 43) b7=some (.cells op.cells.toArray 46):=zq1e (zq1e (upB_same _ _ _) (zq25 (upB_same _ _ _) hb8)) (zq25 (zq1e (upB_same _ _ _) (zq25 (upB_same _ _ _) hb8)) hb9);have h8:upB (upB (upB B b7 (.cells op.cells.toArray 46)) b8 (.cells #[.bool false,.int .i64 0,.slice none 0 0] 43)) b9 (.cells #[.bool true,.int .i64 0,.slice none 0 0] 43) b8=some (.cells #[.bool false,.int .i64 0,.slice none 0 0] 43):=zq1e (upB_same _ _ _) (zq25 (upB_same _ _ _) hb9);have h9:upB (upB (upB B b7 (.cells op.cells.toArray 46)) b8 (.cells #[.bool false,.int .i64 0,.slice none 0 0] 43)) b9 (.cells #[.bool true,.int .i64 0,.slice none 0 0] 43) b9=some (.cells #[.bool true,.int .i64 0,.slice none 0 0] 43):=upB_same _ _ _;have hB8:B b8=none:=Classical.byContradiction λh=>by
  cases ho:B b8 with
  |none=>exact h ho
  |some o=>rw[upB_le (o:=.cells op.cells.toArray 46) hb7 b8 o ho]at hb8;cases hb8
 have hB9:B b9=none:=Classical.byContradiction λh=>by
  cases ho:B b9 with
  |none=>exact h ho
  |some o=>rw[zq1d (o:=.cells #[.bool false,.int .i64 0,.slice none 0 0] 43) (upB_le (o:=.cells op.cells.toArray 46) hb7) hB8 b9 o ho]at hb9;cases hb9
 have hle:∀x y,B x=some y->upB (upB (upB B b7 (.cells op.cells.toArray 46)) b8 (.cells #[.bool false,.int .i64 0,.slice none 0 0] 43)) b9 (.cells #[.bool true,.int .i64 0,.slice none 0 0] 43) x=some y:=zq1d (zq1d (upB_le (o:=.cells op.cells.toArray 46) hb7) hB8) hB9;have h89:b8≠b9:=zq25 (upB_same _ _ _) hb9;obtain⟨B1,hB1⟩:∃X,upB (upB (upB B b7 (.cells op.cells.toArray 46)) b8 (.cells #[.bool false,.int .i64 0,.slice none 0 0] 43)) b9 (.cells #[.bool true,.int .i64 0,.slice none 0 0] 43)=X:=⟨_,rfl⟩;rw[hB1]at h7 h8 h9 hle hA;have H7:=Lib.hid h7;have H8:=Lib.hid h8;have H9:=Lib.hid h9;have HLE:=Lib.hid hle;have HN:=Lib.hid (And.intro hB8 (And.intro hB9 h89));clear h7 h8 h9 hle hB1 hb7 hb8 hb9 hB8 hB9 h89;show wpJ Y.J _ _ _ _ _;refine wpY_cut Y.jc (λs a w=>∃(B2:Nat->Option Obj)(ok:Bool)(x:Int)(x3 x4 x8 x9 x11 x12 x13 x14 x15 x16 x17 x18 x19 x20 x21 x22 x23 x24 x25 x26 x27 x28 x29 x30 x31 x32 x33 x34 x35 x36 x37 x38 x39 x40 x41 x42 x43 x44 x45 x46 x47 x48 x49 x50 x51 x52 x53 x54 x55:Value),a=⟨#[pc,sv,op.val,x3,x4,.pointer (some ⟨b7,0,none⟩),.pointer (some ⟨b8,0,none⟩),.pointer (some ⟨b9,0,none⟩),x8,x9,.int .i64 op.k,x11,x12,x13,x14,x15,x16,x17,x18,x19,x20,x21,x22,x23,x24,x25,x26,x27,x28,x29,x30,x31,x32,x33,x34,x35,x36,x37,x38,x39,x40,x41,x42,x43,x44,x45,x46,x47,x48,x49,x50,x51,x52,x53,x54,x55],[]⟩/\(B2 b8=some (.cells #[.bool false,.int .i64 0,.slice none 0 0] 43)/\B2 b9=some (.cells #[.bool ok,.int .i64 x,.slice none 0 0] 43)/\∀x y,B x=some y->B2 x=some y)/\Y.AtB B2 s w (K ⟨ok,x,[]⟩)) ?_ ?_
 ·
  apply YSys.seq0 hA (by kernel_rfl)
  · intro wc hB;have c70:wc.cell? ⟨b7,0,none⟩=some (.int .i64 op.k):=(zq0 (hB.own.box b7 _ H7.out)).trans rfl;have c71:wc.cell? ⟨b7,1,none⟩=some (.int .i64 op.a):=(zq0 (hB.own.box b7 _ H7.out)).trans rfl;have c72:wc.cell? ⟨b7,2,none⟩=some (.int .i64 op.b):=(zq0 (hB.own.box b7 _ H7.out)).trans rfl;have c73:wc.cell? ⟨b7,3,none⟩=some (.int .i64 op.c):=(zq0 (hB.own.box b7 _ H7.out)).trans rfl;go_wp2;exact⟨rfl,Ext1.refl _,rfl⟩
  intro w hA;refine zq1y Y.jc ?_;unfold callP at hA;apply YSys.seq0 hA (by kernel_rfl)
  · intro wc hB;go_wp2;exact⟨rfl,Ext1.refl _,rfl⟩
  intro w hA;refine zq10 Y.jc rfl ?_
  by_cases hk1:op.k=1
  · rw[if_pos (by simp[hk1])];rw[if_pos hk1,Proc.bind_bind]at hA;clear hk1;refine zqy Y.jc ?_;apply YSys.callR 0 6 2 hA (hadd op.a op.b) (λx=>HKK.out _) rfl rfl rfl (by rfl) rfl rfl rfl
    · intro wc hB X hX;have HX:=Lib.hid hX;clear hX;have c70:wc.cell? ⟨b7,0,none⟩=some (.int .i64 op.k):=(zq0 (hB.own.box b7 _ H7.out)).trans rfl;have c71:wc.cell? ⟨b7,1,none⟩=some (.int .i64 op.a):=(zq0 (hB.own.box b7 _ H7.out)).trans rfl;have c72:wc.cell? ⟨b7,2,none⟩=some (.int .i64 op.b):=(zq0 (hB.own.box b7 _ H7.out)).trans rfl;have c73:wc.cell? ⟨b7,3,none⟩=some (.int .i64 op.c):=(zq0 (hB.own.box b7 _ H7.out)).trans rfl;go_wp2;exact HX.out _ (Ext1.refl _)
    · intro w;simp[go_sem,execOp,Act.eval,resolve,Deferred.ofValue,invoke,callFunc,Try.func21,Try.f21]
    · intro w;simp[go_sem,execOp,Act.eval,resolve,Deferred.ofValue,invoke,callFunc,Try.func21,Try.f21]
    · intro s' ch w' h;exact⟨rfl,h⟩
    intro s x w hA;refine YSys.opsX 7 2 (λt B'=>∃(y3 y4 y8 y9 y11 y12 y13 y14 y15 y16 y17 y18 y19 y20 y21 y22 y23 y24 y25 y26 y27 y28 y29 y30 y31 y32 y33 y34 y35 y36 y37 y38 y39 y40 y41 y42 y43 y44 y45 y46 y47 y48 y49 y50 y51 y52 y53 y54 y55:Value),t=#[pc,sv,op.val,y3,y4,.pointer (some ⟨b7,0,none⟩),.pointer (some ⟨b8,0,none⟩),.pointer (some ⟨b9,0,none⟩),y8,y9,.int .i64 op.k,y11,y12,y13,y14,y15,y16,y17,y18,y19,y20,y21,y22,y23,y24,y25,y26,y27,y28,y29,y30,y31,y32,y33,y34,y35,y36,y37,y38,y39,y40,y41,y42,y43,y44,y45,y46,y47,y48,y49,y50,y51,y52,y53,y54,y55]/\B'=upB B1 b9 (.cells #[.bool true,.int .i64 x,.slice none 0 0] 43)) hA rfl rfl (by kernel_rfl) ?_ ?_
    · intro wc hB X0 hX0;have HX0:=Lib.hid hX0;clear hX0;have k9:=hB.own.box b9 _ H9.out;have c90:wc.cell? ⟨b9,0,none⟩=some (.bool true):=(zq0 k9).trans rfl;have c91:wc.cell? ⟨b9,1,none⟩=some (.int .i64 0):=(zq0 k9).trans rfl;have f90:wc.frozen? ⟨b9,0,none⟩=false:=zq3 k9;have f91:wc.frozen? ⟨b9,1,none⟩=false:=zq3 k9;clear k9;have hm:=OMoved.set (off:=1) hB.own H9.out (.int .i64 x);have HM:=Lib.hid hm;clear hm;go_wp2;exact⟨rfl,HX0.out _ _ _ HM.out ⟨_,_,_,_,_,_,_,_,_,_,_,_,_,_,_,_,_,_,_,_,_,_,_,_,_,_,_,_,_,_,_,_,_,_,_,_,_,_,_,_,_,_,_,_,_,_,_,_,_,rfl,rfl⟩⟩
    rintro _ _ w ⟨y3,y4,y8,y9,y11,y12,y13,y14,y15,y16,y17,y18,y19,y20,y21,y22,y23,y24,y25,y26,y27,y28,y29,y30,y31,y32,y33,y34,y35,y36,y37,y38,y39,y40,y41,y42,y43,y44,y45,y46,y47,y48,y49,y50,y51,y52,y53,y54,y55,rfl,rfl⟩ hA;exact⟨_,true,x,_,_,_,_,_,_,_,_,_,_,_,_,_,_,_,_,_,_,_,_,_,_,_,_,_,_,_,_,_,_,_,_,_,_,_,_,_,_,_,_,_,_,_,_,_,_,_,_,_,rfl,⟨zq1e H8.out HN.out.2.2,upB_same _ _ _,zq1d HLE.out HN.out.2.1⟩,hA⟩
  rw[if_neg (by simp[hk1])];rw[if_neg hk1]at hA;clear hk1;apply YSys.seq0 hA (by kernel_rfl)
  · intro wc hB;go_wp2;exact⟨rfl,Ext1.refl _,rfl⟩
  intro w hA;refine zq10 Y.jc rfl ?_
  by_cases hk2:op.k=2
  · rw[if_pos (by simp[hk2])];rw[if_pos hk2,Proc.bind_bind]at hA;clear hk2;refine zqy Y.jc ?_;apply YSys.callR 0 2 2 hA hsum (λx=>HKK.out _) rfl rfl rfl (by rfl) rfl rfl rfl
    · intro wc hB X hX;have HX:=Lib.hid hX;clear hX;go_wp2;exact HX.out _ (Ext1.refl _)
    · intro w;simp[go_sem,execOp,Act.eval,resolve,Deferred.ofValue,invoke,callFunc,Try.func22,Try.f22]
    · intro w;simp[go_sem,execOp,Act.eval,resolve,Deferred.ofValue,invoke,callFunc,Try.func22,Try.f22]
    · intro s' ch w' h;exact⟨rfl,h⟩
    intro s x w hA;refine YSys.opsX 3 2 (λt B'=>∃(y3 y4 y8 y9 y11 y12 y13 y14 y15 y16 y17 y18 y19 y20 y21 y22 y23 y24 y25 y26 y27 y28 y29 y30 y31 y32 y33 y34 y35 y36 y37 y38 y39 y40 y41 y42 y43 y44 y45 y46 y47 y48 y49 y50 y51 y52 y53 y54 y55:Value),t=#[pc,sv,op.val,y3,y4,.pointer (some ⟨b7,0,none⟩),.pointer (some ⟨b8,0,none⟩),.pointer (some ⟨b9,0,none⟩),y8,y9,.int .i64 op.k,y11,y12,y13,y14,y15,y16,y17,y18,y19,y20,y21,y22,y23,y24,y25,y26,y27,y28,y29,y30,y31,y32,y33,y34,y35,y36,y37,y38,y39,y40,y41,y42,y43,y44,y45,y46,y47,y48,y49,y50,y51,y52,y53,y54,y55]/\B'=upB B1 b9 (.cells #[.bool true,.int .i64 x,.slice none 0 0] 43)) hA rfl rfl (by kernel_rfl) ?_ ?_
    · intro wc hB X0 hX0;have HX0:=Lib.hid hX0;clear hX0;have k9:=hB.own.box b9 _ H9.out;have c90:wc.cell? ⟨b9,0,none⟩=some (.bool true):=(zq0 k9).trans rfl;have c91:wc.cell? ⟨b9,1,none⟩=some (.int .i64 0):=(zq0 k9).trans rfl;have f90:wc.frozen? ⟨b9,0,none⟩=false:=zq3 k9;have f91:wc.frozen? ⟨b9,1,none⟩=false:=zq3 k9;clear k9;have hm:=OMoved.set (off:=1) hB.own H9.out (.int .i64 x);have HM:=Lib.hid hm;clear hm;go_wp2;exact⟨rfl,HX0.out _ _ _ HM.out ⟨_,_,_,_,_,_,_,_,_,_,_,_,_,_,_,_,_,_,_,_,_,_,_,_,_,_,_,_,_,_,_,_,_,_,_,_,_,_,_,_,_,_,_,_,_,_,_,_,_,rfl,rfl⟩⟩
    rintro _ _ w ⟨y3,y4,y8,y9,y11,y12,y13,y14,y15,y16,y17,y18,y19,y20,y21,y22,y23,y24,y25,y26,y27,y28,y29,y30,y31,y32,y33,y34,y35,y36,y37,y38,y39,y40,y41,y42,y43,y44,y45,y46,y47,y48,y49,y50,y51,y52,y53,y54,y55,rfl,rfl⟩ hA;exact⟨_,true,x,_,_,_,_,_,_,_,_,_,_,_,_,_,_,_,_,_,_,_,_,_,_,_,_,_,_,_,_,_,_,_,_,_,_,_,_,_,_,_,_,_,_,_,_,_,_,_,_,_,rfl,⟨zq1e H8.out HN.out.2.2,upB_same _ _ _,zq1d HLE.out HN.out.2.1⟩,hA⟩
  rw[if_neg (by simp[hk2])];rw[if_neg hk2]at hA;clear hk2;apply YSys.seq0 hA (by kernel_rfl)
  · intro wc hB;go_wp2;exact⟨rfl,Ext1.refl _,rfl⟩
  intro w hA;refine zq10 Y.jc rfl ?_
  by_cases hk3:op.k=3
  · rw[if_pos (by simp[hk3])];rw[if_pos hk3,Proc.bind_bind]at hA;clear hk3;refine zqy Y.jc ?_;apply YSys.callR 0 2 2 hA htake (λx=>HKK.out _) rfl rfl rfl (by rfl) rfl rfl rfl
    · intro wc hB X hX;have HX:=Lib.hid hX;clear hX;go_wp2;exact HX.out _ (Ext1.refl _)
    · intro w;simp[go_sem,execOp,Act.eval,resolve,Deferred.ofValue,invoke,callFunc,Try.func23,Try.f23]
    · intro w;simp[go_sem,execOp,Act.eval,resolve,Deferred.ofValue,invoke,callFunc,Try.func23,Try.f23]
    · intro s' ch w' h;exact⟨rfl,h⟩
    intro s x w hA;refine YSys.opsX 3 2 (λt B'=>∃(y3 y4 y8 y9 y11 y12 y13 y14 y15 y16 y17 y18 y19 y20 y21 y22 y23 y24 y25 y26 y27 y28 y29 y30 y31 y32 y33 y34 y35 y36 y37 y38 y39 y40 y41 y42 y43 y44 y45 y46 y47 y48 y49 y50 y51 y52 y53 y54 y55:Value),t=#[pc,sv,op.val,y3,y4,.pointer (some ⟨b7,0,none⟩),.pointer (some ⟨b8,0,none⟩),.pointer (some ⟨b9,0,none⟩),y8,y9,.int .i64 op.k,y11,y12,y13,y14,y15,y16,y17,y18,y19,y20,y21,y22,y23,y24,y25,y26,y27,y28,y29,y30,y31,y32,y33,y34,y35,y36,y37,y38,y39,y40,y41,y42,y43,y44,y45,y46,y47,y48,y49,y50,y51,y52,y53,y54,y55]/\B'=upB B1 b9 (.cells #[.bool true,.int .i64 x,.slice none 0 0] 43)) hA rfl rfl (by kernel_rfl) ?_ ?_
    · intro wc hB X0 hX0;have HX0:=Lib.hid hX0;clear hX0;have k9:=hB.own.box b9 _ H9.out;have c90:wc.cell? ⟨b9,0,none⟩=some (.bool true):=(zq0 k9).trans rfl;have c91:wc.cell? ⟨b9,1,none⟩=some (.int .i64 0):=(zq0 k9).trans rfl;have f90:wc.frozen? ⟨b9,0,none⟩=false:=zq3 k9;have f91:wc.frozen? ⟨b9,1,none⟩=false:=zq3 k9;clear k9;have hm:=OMoved.set (off:=1) hB.own H9.out (.int .i64 x);have HM:=Lib.hid hm;clear hm;go_wp2;exact⟨rfl,HX0.out _ _ _ HM.out ⟨_,_,_,_,_,_,_,_,_,_,_,_,_,_,_,_,_,_,_,_,_,_,_,_,_,_,_,_,_,_,_,_,_,_,_,_,_,_,_,_,_,_,_,_,_,_,_,_,_,rfl,rfl⟩⟩
    rintro _ _ w ⟨y3,y4,y8,y9,y11,y12,y13,y14,y15,y16,y17,y18,y19,y20,y21,y22,y23,y24,y25,y26,y27,y28,y29,y30,y31,y32,y33,y34,y35,y36,y37,y38,y39,y40,y41,y42,y43,y44,y45,y46,y47,y48,y49,y50,y51,y52,y53,y54,y55,rfl,rfl⟩ hA;exact⟨_,true,x,_,_,_,_,_,_,_,_,_,_,_,_,_,_,_,_,_,_,_,_,_,_,_,_,_,_,_,_,_,_,_,_,_,_,_,_,_,_,_,_,_,_,_,_,_,_,_,_,_,rfl,⟨zq1e H8.out HN.out.2.2,upB_same _ _ _,zq1d HLE.out HN.out.2.1⟩,hA⟩
  rw[if_neg (by simp[hk3])];rw[if_neg hk3]at hA;clear hk3;apply YSys.seq0 hA (by kernel_rfl)
  · intro wc hB;go_wp2;exact⟨rfl,Ext1.refl _,rfl⟩
  intro w hA;refine zq10 Y.jc rfl ?_
  by_cases hk4:op.k=4
  · rw[if_pos (by simp[hk4])];rw[if_pos hk4,Proc.bind_bind]at hA;clear hk4;refine zqy Y.jc ?_;apply YSys.callR 0 8 0 hA (hmove op.a op.b op.c) (λx=>HKK.out _) rfl rfl rfl (by rfl) rfl rfl rfl
    · intro wc hB X hX;have HX:=Lib.hid hX;clear hX;have c70:wc.cell? ⟨b7,0,none⟩=some (.int .i64 op.k):=(zq0 (hB.own.box b7 _ H7.out)).trans rfl;have c71:wc.cell? ⟨b7,1,none⟩=some (.int .i64 op.a):=(zq0 (hB.own.box b7 _ H7.out)).trans rfl;have c72:wc.cell? ⟨b7,2,none⟩=some (.int .i64 op.b):=(zq0 (hB.own.box b7 _ H7.out)).trans rfl;have c73:wc.cell? ⟨b7,3,none⟩=some (.int .i64 op.c):=(zq0 (hB.own.box b7 _ H7.out)).trans rfl;go_wp2;exact HX.out _ (Ext1.refl _)
    · intro w;simp[go_sem,execOp,Act.eval,resolve,Deferred.ofValue,invoke,callFunc,Try.func30,Try.f30]
    · intro w;simp[go_sem,execOp,Act.eval,resolve,Deferred.ofValue,invoke,callFunc,Try.func30,Try.f30]
    · intro s' ch w' h;exact⟨rfl,h⟩
    intro s x w hA;refine zq26 Y.jc ?_;exact⟨B1,true,0,_,_,_,_,_,_,_,_,_,_,_,_,_,_,_,_,_,_,_,_,_,_,_,_,_,_,_,_,_,_,_,_,_,_,_,_,_,_,_,_,_,_,_,_,_,_,_,_,_,rfl,⟨H8.out,H9.out,HLE.out⟩,hA⟩
  rw[if_neg (by simp[hk4])];rw[if_neg hk4]at hA;clear hk4;apply YSys.seq0 hA (by kernel_rfl)
  · intro wc hB;go_wp2;exact⟨rfl,Ext1.refl _,rfl⟩
  intro w hA;refine zq10 Y.jc rfl ?_
  by_cases hk5:op.k=5
  · rw[if_pos (by simp[hk5])];rw[if_pos hk5,Proc.bind_bind]at hA;clear hk5;refine zqy Y.jc ?_;apply YSys.callR 0 2 7 hA heven (λx=>HKK.out _) rfl rfl rfl (by rfl) rfl rfl rfl
    · intro wc hB X hX;have HX:=Lib.hid hX;clear hX;go_wp2;exact HX.out _ (Ext1.refl _)
    · intro w;simp[go_sem,execOp,Act.eval,resolve,Deferred.ofValue,invoke,callFunc,Try.func20,Try.f20]
    · intro w;simp[go_sem,execOp,Act.eval,resolve,Deferred.ofValue,invoke,callFunc,Try.func20,Try.f20]
    · intro s' ch w' h;exact⟨rfl,h⟩
    intro s x w hA;obtain⟨x,ok⟩:=x;unfold evenV;refine YSys.opsX 3 7 (λt B'=>∃(y3 y4 y8 y9 y11 y12 y13 y14 y15 y16 y17 y18 y19 y20 y21 y22 y23 y24 y25 y26 y27 y28 y29 y30 y31 y32 y33 y34 y35 y36 y37 y38 y39 y40 y41 y42 y43 y44 y45 y46 y47 y48 y49 y50 y51 y52 y53 y54 y55:Value),t=#[pc,sv,op.val,y3,y4,.pointer (some ⟨b7,0,none⟩),.pointer (some ⟨b8,0,none⟩),.pointer (some ⟨b9,0,none⟩),y8,y9,.int .i64 op.k,y11,y12,y13,y14,y15,y16,y17,y18,y19,y20,y21,y22,y23,y24,y25,y26,y27,y28,y29,y30,y31,y32,y33,y34,y35,y36,y37,y38,y39,y40,y41,y42,y43,y44,y45,y46,y47,y48,y49,y50,y51,y52,y53,y54,y55]/\B'=upB B1 b9 (.cells #[.bool ok,.int .i64 x,.slice none 0 0] 43)) hA rfl rfl (by kernel_rfl) ?_ ?_
    · intro wc hB X0 hX0;have HX0:=Lib.hid hX0;clear hX0;have k9:=hB.own.box b9 _ H9.out;have c90:wc.cell? ⟨b9,0,none⟩=some (.bool true):=(zq0 k9).trans rfl;have c91:wc.cell? ⟨b9,1,none⟩=some (.int .i64 0):=(zq0 k9).trans rfl;have f90:wc.frozen? ⟨b9,0,none⟩=false:=zq3 k9;have f91:wc.frozen? ⟨b9,1,none⟩=false:=zq3 k9;clear k9;have hm:=OMoved.set2 (o1:=1) (o2:=0) hB.own H9.out (.int .i64 x) (.bool ok);have HM:=Lib.hid hm;clear hm;go_wp2;exact⟨rfl,HX0.out _ _ _ HM.out ⟨_,_,_,_,_,_,_,_,_,_,_,_,_,_,_,_,_,_,_,_,_,_,_,_,_,_,_,_,_,_,_,_,_,_,_,_,_,_,_,_,_,_,_,_,_,_,_,_,_,rfl,rfl⟩⟩
    rintro _ _ w ⟨y3,y4,y8,y9,y11,y12,y13,y14,y15,y16,y17,y18,y19,y20,y21,y22,y23,y24,y25,y26,y27,y28,y29,y30,y31,y32,y33,y34,y35,y36,y37,y38,y39,y40,y41,y42,y43,y44,y45,y46,y47,y48,y49,y50,y51,y52,y53,y54,y55,rfl,rfl⟩ hA;exact⟨_,ok,x,_,_,_,_,_,_,_,_,_,_,_,_,_,_,_,_,_,_,_,_,_,_,_,_,_,_,_,_,_,_,_,_,_,_,_,_,_,_,_,_,_,_,_,_,_,_,_,_,_,rfl,⟨zq1e H8.out HN.out.2.2,upB_same _ _ _,zq1d HLE.out HN.out.2.1⟩,hA⟩
  rw[if_neg (by simp[hk5])];rw[if_neg hk5]at hA;clear hk5;refine YSys.seqX (λt B'=>∃(y3 y4 y8 y9 y11 y12 y13 y14 y15 y16 y17 y18 y19 y20 y21 y22 y23 y24 y25 y26 y27 y28 y29 y30 y31 y32 y33 y34 y35 y36 y37 y38 y39 y40 y41 y42 y43 y44 y45 y46 y47 y48 y49 y50 y51 y52 y53 y54 y55:Value),t=#[pc,sv,op.val,y3,y4,.pointer (some ⟨b7,0,none⟩),.pointer (some ⟨b8,0,none⟩),.pointer (some ⟨b9,0,none⟩),y8,y9,.int .i64 op.k,y11,y12,y13,y14,y15,y16,y17,y18,y19,y20,y21,y22,y23,y24,y25,y26,y27,y28,y29,y30,y31,y32,y33,y34,y35,y36,y37,y38,y39,y40,y41,y42,y43,y44,y45,y46,y47,y48,y49,y50,y51,y52,y53,y54,y55]/\B'=upB B1 b8 (.cells #[.bool false,.int .i64 0,.slice none 0 0] 43)) hA (by kernel_rfl) ?_ ?_
  · intro wc hB X0 hX0;have HX0:=Lib.hid hX0;clear hX0;have k8:=hB.own.box b8 _ H8.out;have c80:wc.cell? ⟨b8,0,none⟩=some (.bool false):=(zq0 k8).trans rfl;have c81:wc.cell? ⟨b8,1,none⟩=some (.int .i64 0):=(zq0 k8).trans rfl;have c82:wc.cell? ⟨b8,2,none⟩=some (.slice none 0 0):=(zq0 k8).trans rfl;have f80:wc.frozen? ⟨b8,0,none⟩=false:=zq3 k8;have f81:wc.frozen? ⟨b8,1,none⟩=false:=zq3 k8;have f82:wc.frozen? ⟨b8,2,none⟩=false:=zq3 k8;have hm:=OMoved.set3 (o1:=0) (o2:=1) (o3:=2) hB.own H8.out (.bool false) (.int .i64 0) (.slice none 0 0);have HM:=Lib.hid hm;clear hm k8;go_wp2;exact⟨rfl,HX0.out _ _ _ HM.out ⟨_,_,_,_,_,_,_,_,_,_,_,_,_,_,_,_,_,_,_,_,_,_,_,_,_,_,_,_,_,_,_,_,_,_,_,_,_,_,_,_,_,_,_,_,_,_,_,_,_,rfl,rfl⟩⟩
  rintro _ _ w ⟨y3,y4,y8,y9,y11,y12,y13,y14,y15,y16,y17,y18,y19,y20,y21,y22,y23,y24,y25,y26,y27,y28,y29,y30,y31,y32,y33,y34,y35,y36,y37,y38,y39,y40,y41,y42,y43,y44,y45,y46,y47,y48,y49,y50,y51,y52,y53,y54,y55,rfl,rfl⟩ hA;refine wpY_ret Y.jc ?_;refine YSys.left hA (v:=.agg #[.bool false,.int .i64 0,.slice none 0 0]) (λwc hB=>results_cell_row rfl _ wc b8 43 _ _ _ rfl (hB.own.box b8 _ (upB_same _ _ _)) rfl rfl rfl) λw hA=>?_;exact⟨Ans.none,λ_=>none,⟨rfl,rfl,rfl⟩,λb hb=>absurd rfl hb,hA.drop (zq1d HLE.out HN.out.1)⟩
 ·
  clear hA;rintro s a w ⟨B2,ok,x,z3,z4,z8,z9,z11,z12,z13,z14,z15,z16,z17,z18,z19,z20,z21,z22,z23,z24,z25,z26,z27,z28,z29,z30,z31,z32,z33,z34,z35,z36,z37,z38,z39,z40,z41,z42,z43,z44,z45,z46,z47,z48,z49,z50,z51,z52,z53,z54,z55,rfl,hF,hA⟩;have HF:=Lib.hid hF;clear hF;refine YSys.seqX (λt B'=>∃(q3 q4 q8 q9 q11 q12 q13 q14 q15 q16 q17 q18 q19 q20 q21 q22 q23 q24 q25 q26 q27 q28 q29 q30 q31 q32 q33 q34 q35 q36 q37 q38 q39 q40 q41 q42 q43 q44 q45 q46 q47 q48 q49 q50 q51 q52 q53 q54 q55:Value),t=#[pc,sv,op.val,q3,q4,.pointer (some ⟨b7,0,none⟩),.pointer (some ⟨b8,0,none⟩),.pointer (some ⟨b9,0,none⟩),q8,q9,.int .i64 op.k,q11,q12,q13,q14,q15,q16,q17,q18,q19,q20,q21,q22,q23,q24,q25,q26,q27,q28,q29,q30,q31,q32,q33,q34,q35,q36,q37,q38,q39,q40,q41,q42,q43,q44,q45,q46,q47,q48,q49,q50,q51,q52,q53,q54,q55]/\B'=upB B2 b8 (.cells #[.bool ok,.int .i64 x,.slice none 0 0] 43)) hA (by kernel_rfl) ?_ ?_
  · intro wc hB X0 hX0;have HX0:=Lib.hid hX0;clear hX0;have k8:=hB.own.box b8 _ HF.out.1;have k9:=hB.own.box b9 _ HF.out.2.1;have c90:wc.cell? ⟨b9,0,none⟩=some (.bool ok):=(zq0 k9).trans rfl;have c91:wc.cell? ⟨b9,1,none⟩=some (.int .i64 x):=(zq0 k9).trans rfl;have c92:wc.cell? ⟨b9,2,none⟩=some (.slice none 0 0):=(zq0 k9).trans rfl;have c80:wc.cell? ⟨b8,0,none⟩=some (.bool false):=(zq0 k8).trans rfl;have c81:wc.cell? ⟨b8,1,none⟩=some (.int .i64 0):=(zq0 k8).trans rfl;have c82:wc.cell? ⟨b8,2,none⟩=some (.slice none 0 0):=(zq0 k8).trans rfl;have hm:=OMoved.set3 (o1:=0) (o2:=1) (o3:=2) hB.own HF.out.1 (.bool ok) (.int .i64 x) (.slice none 0 0);have HM:=Lib.hid hm;have fz:∀j,wc.frozen? ⟨b8,j,none⟩=false:=λj=>zq3 k8;have f80:=fz 0;have f81:=fz 1;have f82:=fz 2;clear fz k8 k9 hm;go_wp2;exact⟨rfl,HX0.out _ _ _ HM.out ⟨_,_,_,_,_,_,_,_,_,_,_,_,_,_,_,_,_,_,_,_,_,_,_,_,_,_,_,_,_,_,_,_,_,_,_,_,_,_,_,_,_,_,_,_,_,_,_,_,_,rfl,rfl⟩⟩
  rintro _ _ w ⟨q3,q4,q8,q9,q11,q12,q13,q14,q15,q16,q17,q18,q19,q20,q21,q22,q23,q24,q25,q26,q27,q28,q29,q30,q31,q32,q33,q34,q35,q36,q37,q38,q39,q40,q41,q42,q43,q44,q45,q46,q47,q48,q49,q50,q51,q52,q53,q54,q55,rfl,rfl⟩ hA;refine wpY_ret Y.jc ?_;refine YSys.left hA (v:=.agg #[.bool ok,.int .i64 x,.slice none 0 0]) (λwc hB=>?_) λw hA=>?_
  · exact results_cell_row rfl _ wc b8 43 _ _ _ rfl (hB.own.box b8 _ (upB_same _ _ _)) rfl rfl rfl
  · exact⟨⟨ok,x,[]⟩,λ_=>none,⟨rfl,rfl,rfl⟩,λb hb=>absurd rfl hb,hA.drop (zq1d HF.out.2.2 HN.out.1)⟩
end
theorem meth_stand(n:Nat)(st:Nat)(w:World):(Go.method (n+1) 108 (.pointer (some ⟨st,0,none⟩)) "Step").run Try.prog w=.ok (72,.pointer (some ⟨st,0,none⟩)) w:=by kernel_rfl
theorem meth_stand_ev(n:Nat)(st:Nat)(w:World)(es:Array Event):(Go.method (n+1) 108 (.pointer (some ⟨st,0,none⟩)) "Step").events Try.prog w es=es:=by kernel_rfl
section
variable {Ml S β:Type} {C:Core Ml S} {ro:Nat->Option Obj} {i:Nat}
theorem step_stand(Y:YSys Try.prog aM C ro i β){st:Nat}(h:StepY Y 72 #[.pointer (some ⟨st,0,none⟩)]):StepY Y 33 #[.iface 108 (.pointer (some ⟨st,0,none⟩))]:=by
 intro K s m w hA;refine BodyY.calls ⟨_,_,Try.func33,rfl,?_⟩;simp only[zqi,Try.ntmps33,List.size_toArray,List.length_cons,List.length_nil,Nat.reduceAdd,Nat.reduceSub,Array.replicate_succ,Array.replicate_zero,List.push_toArray,List.append_toArray,List.nil_append,List.cons_append];have hA:Y.AtB (m.box i) s w (Proc.tick.bind K):=⟨m,rfl,hA⟩;obtain⟨B,hB0⟩:∃B,m.box i=B:=⟨_,rfl⟩;rw[hB0]at hA ⊢;clear hB0;apply YSys.seq0 hA (by kernel_rfl)
 · intro wc hB;go_wp2;exact⟨rfl,Ext1.refl _,rfl⟩
 intro w hA;refine zq10 Y.jc rfl ?_;rw[if_pos rfl];refine zqy Y.jc ?_;apply YSys.callS 0 1 0 hA h rfl rfl rfl (by rfl) rfl rfl rfl
 · intro wc hB X hX;have HX:=Lib.hid hX;clear hX;go_wp2;exact HX.out _ (Ext1.refl _)
 · intro w;simp[go_sem,execOp,Act.eval,resolve,Deferred.ofValue,invoke,callFunc,meth_stand,meth_stand_ev,Try.func72,Try.f72]
 · intro w;simp[go_sem,execOp,Act.eval,resolve,Deferred.ofValue,invoke,callFunc,meth_stand,meth_stand_ev,Try.func72,Try.f72]
 · intro s' ch w' h;exact⟨rfl,h⟩
 intro s w hA;refine zq26 Y.jc ?_;exact⟨rfl,.inl ⟨_,resultsC_none rfl _,(),hA.choose,rfl,hA.choose_spec⟩⟩
end
def begL(ws:List Int)(N j:Nat):List Int:=(List.range N).map λi=>if i<j then ws.getD i 0 else 0
theorem begL_zero(ws:List Int)(N:Nat):begL ws N 0=List.replicate N 0:=by
 apply List.ext_getElem?;intro i
 by_cases hi:i<N<;>simp[begL,hi]
theorem begL_set(ws:List Int){N j:Nat}(hj:j<N):(begL ws N j).set j (ws.getD j 0)=begL ws N (j+1):=by
 apply List.ext_getElem?;intro i;unfold begL
 by_cases hi:i<N
 · by_cases e:i=j
   · subst e;simp[hi]
   · rw[List.getElem?_set_ne (by omega)];have:(i<j+1)=(i<j):=by simp;omega
     simp[hi,this]
 · have hs:∀(l:List Int),l.length=N->l[i]?=none:=λl hl=>List.getElem?_eq_none (by omega);rw[hs _ (by simp),hs _ (by simp)]
def zq13(ws:List Int):List Int:=begL ws (stripesN ws.length) (min ws.length 64)
theorem begunL_eq(ws:List Int):zq13 ws=if ws=[]then [0]else ws.take 64:=by
 unfold zq13
 by_cases h:ws=[]
 · subst h;rfl
 · rw[if_neg h];have h0:0<ws.length:=List.length_pos_iff.2 h;have e:stripesN ws.length=min ws.length 64:=by unfold stripesN;omega
   rw[e];apply List.ext_getElem?;intro i;unfold begL
   by_cases hi:i<min ws.length 64
   · simp[hi,show i<ws.length by omega,show i<64 by omega]
   · rw[List.getElem?_eq_none (by simp;omega),List.getElem?_eq_none (by simp;omega)]
theorem begun_lone{p:Option Addr}{n C:Nat}{ws:List Int}(w:World)(hl:ws.length=n)(hn:n<=4611686018427387904)(hw:0<n->∃wb wo,p=some ⟨wb,wo,none⟩/\∀i,i<n->w.cell? ⟨wb,wo+i,none⟩=some (.int .i64 (ws.getD i 0))):
 Calls Try.prog 25 #[.slice p n C] w λe w'=>e=.returned (.pointer (some ⟨w.heap.size+1,0,none⟩))/\NewStr w (stripesN n) (zq13 ws) w':=by
 have HS:=Lib.hid hw;have hnew:=new_lone (n:Int) w;have hp:=zq3h (n:Int);have HK:=Lib.hid (And.intro hl hp);clear hw hl hp
 go_enter Try.func25,Try.ntmps25
 go_wp2_with (fail)
 refine Calls.mono hnew ?_;rintro e w1 ⟨rfl,hR⟩;have HP:=Lib.hid hR;clear hnew hR;obtain⟨H,hH⟩:∃H,w.heap.size=H:=⟨_,rfl⟩;rw[hH];have HH:=Lib.hid hH;clear hH;obtain⟨m,hm⟩:∃m,min n 64=m:=⟨_,rfl⟩;have e1:(if(n:Int)<=64 then(n:Int)else 64)=(m:Int):=by split<;>omega
 have HM:=Lib.hid hm
 by_cases hc:(n:Int)<=64
 · have e2:(n:Int)=(m:Int):=by omega
   have E:=Lib.hid e2;clear hm e1 e2
   go_wp2_with (fail)
   rw[E.out];have e0:=begL_zero ws (stripesN n);obtain⟨N,hN⟩:∃N,stripesN n=N:=⟨_,rfl⟩;rw[hN]at HP HK e0;rw[←e0]at HP;have HN:=Lib.hid hN;clear hN e0
   go_loopg [11] m (λk i wr=>∃(j:Nat),k=m - j/\j<=m/\i=.int .i64 j/\NewStr w N (begL ws N j) wr)
   case atStart=>exact⟨0,rfl,Nat.zero_le _,rfl,HP.out⟩
   case round=>
    obtain⟨j,hk,hj,rfl,hR⟩:=hrel;have HR:=Lib.hid hR;have hmn:m<=n/\m<=64:=by have:=HM.out;omega
    by_cases hlt:j<m
    · obtain⟨wb,wo,rfl,hcw⟩:=HS.out (by omega);have hcj:=hcw j (by omega);have c2:wr.cell? ⟨wb,wo+j,none⟩=some (.int .i64 (ws.getD j 0)):=(zqd (hR.old wb (cell_lt hcj))).trans hcj;have c1:wr.cell? ⟨w.heap.size+1,1,none⟩=some (.slice (some ⟨w.heap.size,0,none⟩) N N):=hR.rep.head.cell;have hjN:j<N:=by have:=HM.out;have:=HN.out;have:=E.out;unfold stripesN at *;omega
      have c3:=hR.rep.cell (j:Int);have f3:=hR.rep.frozen (j:Int);rw[show loc (w.heap.size+1) (some w.heap.size) N (j:Int)=⟨w.heap.size,j,none⟩by simp[loc,idx_nat hjN]]at c3 f3;rw[HH.out]at c1 c3 f3;obtain⟨x,hx⟩:∃x,ws.getD j 0=x:=⟨_,rfl⟩;rw[hx]at c2;have HX:=Lib.hid (And.intro hx hjN);clear hx;generalize (begL ws N j).getD (idx (↑j) N) 0=y at c3;have C3:=Lib.hid (And.intro c3 f3);have hlt':(j:Int)<(m:Int):=by omega
      have hj0:(0:Int)<=j:=by omega
      have hjn:(j:Int)<(n:Int):=by omega
      have hjN':(j:Int)<(N:Int):=by omega
      have HMN:=Lib.hid hmn;clear hcw hcj c3 f3 hR hmn
      go_wp2_with (fail)
      refine zq23 (k:=10) (C:=λw'=>∃n,w'=wr.drewN n) (by kernel_rfl) (by kernel_rfl) (by kernel_rfl) (by kernel_rfl) (by kernel_rfl) ⟨1,rfl⟩ ?_;simp only[List.take_succ_cons,List.take_zero]
      repeat (quiet_step (fail))
      refine wpQuiet_nil ?_;rintro w' ⟨nq,rfl⟩;refine zq19 (i:=10) (by kernel_rfl) ?_;simp only[wpOp,al_gl,al_g0,al_g1];rw[if_pos (by rfl)];refine .inl ?_;go_simp;refine Calls.mono (store_lone ⟨H,j,none⟩ y x (wr.drewN nq) C3.out.1 C3.out.2) ?_;rintro e w' ⟨rfl,rfl⟩;refine zq18 (by kernel_rfl) ?_;go_wp2;go_roundg (m - (j+1))
      case measure=>omega
      case rel=>
       refine⟨j+1,rfl,by omega,by simp,?_⟩;have h1:StrRep (w.heap.size+1) (some w.heap.size) N (begL ws N j) (wr.drewN nq):=(zq6 _ _ _).frame _ _ _ HR.out.rep λ_ _=>rfl;have h2:=h1.set (j:Int) x;have e3:=HX.out.2;rw[show loc (w.heap.size+1) (some w.heap.size) N (j:Int)=⟨w.heap.size,j,none⟩by simp[loc,idx_nat e3],idx_nat e3,←HX.out.1,begL_set _ e3]at h2;rw[HX.out.1]at h2;rw[←HH.out];refine⟨h2,by rw[zqq];exact HR.out.size,λb hb=>?_⟩;rw[zq4 _ _ _ _ (by show b≠w.heap.size;omega)];exact HR.out.old b hb
    · obtain rfl:j=m:=by omega
      have hlt':¬(j:Int)<(j:Int):=by omega
      have e9:NewStr w N (zq13 ws) wr:=by
       have:=HR.out;unfold zq13;rw[HK.out.1,HN.out,HM.out];exact this
      clear hR hmn;have HE:=Lib.hid e9;clear e9;go_wp2;go_ret;refine⟨by rw[HH.out];rfl,?_⟩;rw[HN.out];exact HE.out
 · have e2:(64:Int)=(m:Int):=by omega
   have E:=Lib.hid e2;have hc2:¬(n:Int)<64:=by omega
   have hc3:(64:Int)<=(n:Int):=by omega
   clear hm e1 e2
   go_wp2_with (fail)
   rw[E.out];have e0:=begL_zero ws (stripesN n);obtain⟨N,hN⟩:∃N,stripesN n=N:=⟨_,rfl⟩;rw[hN]at HP HK e0;rw[←e0]at HP;have HN:=Lib.hid hN;clear hN e0
   go_loopg [11] m (λk i wr=>∃(j:Nat),k=m - j/\j<=m/\i=.int .i64 j/\NewStr w N (begL ws N j) wr)
   case atStart=>exact⟨0,rfl,Nat.zero_le _,rfl,HP.out⟩
   case round=>
    obtain⟨j,hk,hj,rfl,hR⟩:=hrel;have HR:=Lib.hid hR;have hmn:m<=n/\m<=64:=by have:=HM.out;omega
    by_cases hlt:j<m
    · obtain⟨wb,wo,rfl,hcw⟩:=HS.out (by omega);have hcj:=hcw j (by omega);have c2:wr.cell? ⟨wb,wo+j,none⟩=some (.int .i64 (ws.getD j 0)):=(zqd (hR.old wb (cell_lt hcj))).trans hcj;have c1:wr.cell? ⟨w.heap.size+1,1,none⟩=some (.slice (some ⟨w.heap.size,0,none⟩) N N):=hR.rep.head.cell;have hjN:j<N:=by have:=HM.out;have:=HN.out;have:=E.out;unfold stripesN at *;omega
      have c3:=hR.rep.cell (j:Int);have f3:=hR.rep.frozen (j:Int);rw[show loc (w.heap.size+1) (some w.heap.size) N (j:Int)=⟨w.heap.size,j,none⟩by simp[loc,idx_nat hjN]]at c3 f3;rw[HH.out]at c1 c3 f3;obtain⟨x,hx⟩:∃x,ws.getD j 0=x:=⟨_,rfl⟩;rw[hx]at c2;have HX:=Lib.hid (And.intro hx hjN);clear hx;generalize (begL ws N j).getD (idx (↑j) N) 0=y at c3;have C3:=Lib.hid (And.intro c3 f3);have hlt':(j:Int)<(m:Int):=by omega
      have hj0:(0:Int)<=j:=by omega
      have hjn:(j:Int)<(n:Int):=by omega
      have hjN':(j:Int)<(N:Int):=by omega
      have HMN:=Lib.hid hmn;clear hcw hcj c3 f3 hR hmn
      go_wp2_with (fail)
      refine zq23 (k:=10) (C:=λw'=>∃n,w'=wr.drewN n) (by kernel_rfl) (by kernel_rfl) (by kernel_rfl) (by kernel_rfl) (by kernel_rfl) ⟨1,rfl⟩ ?_;simp only[List.take_succ_cons,List.take_zero]
      repeat (quiet_step (fail))
      refine wpQuiet_nil ?_;rintro w' ⟨nq,rfl⟩;refine zq19 (i:=10) (by kernel_rfl) ?_;simp only[wpOp,al_gl,al_g0,al_g1];rw[if_pos (by rfl)];refine .inl ?_;go_simp;refine Calls.mono (store_lone ⟨H,j,none⟩ y x (wr.drewN nq) C3.out.1 C3.out.2) ?_;rintro e w' ⟨rfl,rfl⟩;refine zq18 (by kernel_rfl) ?_;go_wp2;go_roundg (m - (j+1))
      case measure=>omega
      case rel=>
       refine⟨j+1,rfl,by omega,by simp,?_⟩;have h1:StrRep (w.heap.size+1) (some w.heap.size) N (begL ws N j) (wr.drewN nq):=(zq6 _ _ _).frame _ _ _ HR.out.rep λ_ _=>rfl;have h2:=h1.set (j:Int) x;have e3:=HX.out.2;rw[show loc (w.heap.size+1) (some w.heap.size) N (j:Int)=⟨w.heap.size,j,none⟩by simp[loc,idx_nat e3],idx_nat e3,←HX.out.1,begL_set _ e3]at h2;rw[HX.out.1]at h2;rw[←HH.out];refine⟨h2,by rw[zqq];exact HR.out.size,λb hb=>?_⟩;rw[zq4 _ _ _ _ (by show b≠w.heap.size;omega)];exact HR.out.old b hb
    · obtain rfl:j=m:=by omega
      have hlt':¬(j:Int)<(j:Int):=by omega
      have e9:NewStr w N (zq13 ws) wr:=by
       have:=HR.out;unfold zq13;rw[HK.out.1,HN.out,HM.out];exact this
      clear hR hmn;have HE:=Lib.hid e9;clear e9;go_wp2;go_ret;refine⟨by rw[HH.out];rfl,?_⟩;rw[HN.out];exact HE.out
theorem opsP_deep{S1:Type}{i:Nat}{dop:OpX->Proc (S1×(Nat->List Ans)) Ans}{k:Nat}(h:∀op,(dop op).Deep k):∀l,(opsP i dop l).Deep k:=by
 intro l
 induction l with
 |nil=>exact Proc.Deep.ret _
 |cons op l ih=>exact(h op).bind λa=>(Proc.Deep.act _).bind λ_=>ih
section
variable {M1 S1:Type} {C:Core M1 S1} {RP:Nat->Option Obj} {l₀:M1} {w wa w1 w2:World} {N n most:Nat} {sp:Nat->Option Addr} {L Cp:Nat->Nat} {ob ib:Nat->Nat} {dv fv v:Value} {pr:Nat->Proc (S1×(Nat->List Ans)) Unit} {sched:List Int} {b:OSt (TM (M1×AnsM) (S1×(Nat->List Ans)))} {m':TM (M1×AnsM) (S1×(Nat->List Ans))} {g:Nat}
def mOps(l₀:M1)(room:Nat):TM (M1×AnsM) (S1×(Nat->List Ans)):=⟨⟨(l₀,ans0),λ_ _=>none⟩,λ_=>.ret (),room⟩
theorem ops_rep0{ro:Nat->Option Obj}{ab:Nat}{room:Nat}(h:BRep (zqa C (zqo tT ab N)) ro ⟨(l₀,ans0),λ_ _=>none⟩ w1):(thrOf (zqa C (zqo tT ab N)) ownA ro pr).Rep (mOps l₀ room) w1:=⟨h,λi=>trivial⟩
theorem ops_foot0{ro:Nat->Option Obj}{ab room x:Nat}(h:(thrOf (zqa C (zqo tT ab N)) ownA ro pr).foot (mOps l₀ room) x):C.foot l₀ x\/x=ab\/ro x≠none:=by
 rcases h with(h|h|⟨i,hi,h⟩)|⟨i,h⟩|h
 · exact .inl h
 · exact .inr (.inl h)
 · exact absurd rfl h
 · exact absurd rfl h
 · exact .inr (.inr h)
theorem ops_res(hR:DRes wa N dv sp L Cp N ob ib fv w1)(hb:BRep C RP ⟨l₀,λ_ _=>none⟩ wa){room:Nat}
 (ho:Over1 (thrOf (zqa C (zqo tT (wa.heap.size+1) N)) ownA (roOf RP wa.heap.size N ob ib w1) pr) N most sched (mOps l₀ room) w1 b m' v g w2):
 OpsRes C N l₀ wa (playT pr N most sched (C.st l₀,λ_=>[])) (wa.heap.size+1) v m'.bm.l.1 m'.bm.l.2 w2/\leftN b.ov N=leftN (playT pr N most sched (C.st l₀,λ_=>[])).ov N:=by
 obtain⟨hs,he⟩:=ran_T (m₀:=mOps l₀ room) rfl ho.ran;have hs0:(zqa C (zqo tT (wa.heap.size+1) N)).st (mOps (S1:=S1) l₀ room).bm.l=(C.st l₀,λ_=>[]):=rfl;rw[hs0]at hs;have hst:(C.st m'.bm.l.1,m'.bm.l.2.st)=(playT pr N most sched (C.st l₀,λ_=>[])).s:=he.trans hs.st;have hB:=ho.rep.1;have hsz:=hR.size;have hsz2:=ho.size;have hrl:∀x o,RP x=some o->x<wa.heap.size:=λx o h=>zq7 (hb.rod x o h);have hrn:∀x,roOf RP wa.heap.size N ob ib w1 x≠none->RP x≠none\/wa.heap.size<=x:=λx h=>by
  cases hx:roOf RP wa.heap.size N ob ib w1 x with
  |none=>exact absurd hx h
  |some o=>
   rcases roOf_some hx with h|⟨h,_⟩
   · exact .inl (by rw[h];simp)
   · right
     rcases h with h|h|⟨i,hi,h⟩
     · omega
     · omega
     · have:=hR.lo i hi;rcases h with h|h<;>omega
 have hfn:∀x,(thrOf (zqa C (zqo tT (wa.heap.size+1) N)) ownA (roOf RP wa.heap.size N ob ib w1) pr).foot m' x->roOf RP wa.heap.size N ob ib w1 x=none->C.foot l₀ x\/wa.heap.size<=x:=λx h hn=>by
  rcases ho.foot x h with h|h
  · rcases ops_foot0 h with h|h|h
    · exact .inl h
    · exact .inr (by omega)
    · exact absurd hn h
  · exact .inr (by omega)
 have hcr:∀x,C.foot m'.bm.l.1 x->roOf RP wa.heap.size N ob ib w1 x=none:=λx h=>Classical.byContradiction λy=>hB.rol x y (.inl h);refine⟨⟨hB.core.1,congrArg Prod.fst hst,hB.core.2.1,congrArg Prod.snd hst,by omega,λx hx hf=>?_,λx hx=>hfn x (.inl (.inl hx)) (hcr x hx),by omega,λi x hi hx=>hfn x (.inl (.inr (.inr ⟨i,hi,hx⟩))) (Classical.byContradiction λy=>hB.rol x y (.inr (.inr ⟨i,hi,hx⟩))),λx hx=>?_,?_,λx hx=>?_⟩,?_⟩
 · by_cases hro:roOf RP wa.heap.size N ob ib w1 x=none
   · refine(ho.old x (by omega) λh=>?_).trans (hR.old x hx);rcases ops_foot0 h with h|h|h
     · exact hf h
     · omega
     · exact h hro
   · cases hx2:roOf RP wa.heap.size N ob ib w1 x with
     |none=>exact absurd hx2 hro
     |some o=>
      rw[hB.rod x o hx2];rcases roOf_some hx2 with h|⟨h,_⟩
      · exact(hb.rod x o h).symm
      · exfalso;rcases h with h|h|⟨i,hi,h⟩
        · omega
        · omega
        · have:=hR.lo i hi;rcases h with h|h<;>omega
 · have h:=hB.core.2.2 x hx;exact⟨λe=>h (.inl e),λi hi=>Classical.byContradiction λy=>h (.inr ⟨i,hi,y⟩)⟩
 · have:=ho.row;rw[hs.ord]at this;exact zq2k this (by omega)
 · have h:=(ho.rowf x hx).1;exact⟨λy=>h (.inl (.inl y)),λe=>h (.inl (.inr (.inl e))),λi hi=>Classical.byContradiction λy=>h (.inl (.inr (.inr ⟨i,hi,y⟩)))⟩
 · exact leftN_congr λi _=>by rw[hs.ov]
theorem OpsRes.ext {r:TSt (S1×(Nat->List Ans))}{ab:Nat}{l':M1}{am:AnsM}{w':World}(h:OpsRes C N l₀ wa r ab v l' am w2){H:Nat}(hw:w.heap.size=H)(hwa:wa.heap.size=H+1)(hoa:∀b,b<H->wa.heap[b]?=w.heap[b]?)(hl:∀b,C.foot l₀ b->b<H)(hsz:w2.heap.size<=w'.heap.size)(hold:∀x,x<w2.heap.size->x≠H->w'.heap[x]?=w2.heap[x]?):OpsRes C N l₀ w r ab v l' am w':=by
 have hs:=h.size;have hab:=h.abl;have hcn:∀b,C.foot l' b->b≠H:=λb hb e=>by
  rcases h.foot b hb with h2|h2
  · have:=hl b h2;omega
  · omega
 have han:∀i b,i<N->am.X i b≠none->b≠H:=λi b hi hb e=>by
  rcases h.ansn i b hi hb with h2|h2
  · have:=hl b h2;omega
  · omega
 refine⟨C.frame _ _ _ h.rep λb hb=>hold b (C.lt _ _ _ h.rep hb) (hcn b hb),h.st,⟨(hold ab (zq7 h.ans.hd) (by omega)).trans h.ans.hd,h.ans.row,λi b o hi hb=>(hold b (zq7 (h.ans.blk i b o hi hb)) (han i b hi (by rw[hb];simp))).trans (h.ans.blk i b o hi hb),h.ans.nab,h.ans.sep⟩,h.ast,by omega,λb hb hf=>(hold b (by omega) (by omega)).trans ((h.old b (by omega) hf).trans (hoa b (by omega))),λb hb=>(h.foot b hb).imp id (λx=>by omega),by omega,λi b hi hb=>(h.ansn i b hi hb).imp id (λx=>by omega),h.anf,?_,h.rowf⟩;refine zq2k (zqs h.row λg hg=>hold g (own_lt h.row hg).2.2 ?_) (by omega);have:=(own_lt h.row hg).2.1;omega
end
theorem DRes.re {w w':World}{N n:Nat}{dv:Value}{sp:Nat->Option Addr}{L Cp:Nat->Nat}{ob ib:Nat->Nat}{fv:Value}(h:DRes w N dv sp L Cp n ob ib fv w')(τ:Nat->Question->Nat)(d:Nat):DRes w N dv sp L Cp n ob ib fv (Go.Car.re w' τ d):=h.of_heap rfl
theorem DRes.of_re {w w':World}{τ:Nat->Question->Nat}{d:Nat}{N n:Nat}{dv:Value}{sp:Nat->Option Addr}{L Cp:Nat->Nat}{ob ib:Nat->Nat}{fv:Value}(h:DRes (Go.Car.re w τ d) N dv sp L Cp n ob ib fv w'):DRes w N dv sp L Cp n ob ib fv w':=
 ⟨h.size,h.old,h.db,h.ab,h.hb,h.frow,h.obx,h.ibx,h.lo,h.inc⟩
theorem ops_row_form{w:World}{B N:Nat}{T:TypeId}{v:Value}{xs:List Value}(h:w.ownsRow B T 1 v N xs):∃p C,v=.slice p N C/\(v.ownBlock=p.map (·.block))/\(0<N->∃g,p=some ⟨g,0,none⟩/\v.ownBlock=some g/\∀i x,xs[i]?=some x->w.cell? ⟨g,i,none⟩=some x):=by
 rcases h.2 with⟨hv,h0⟩|⟨g,cap,cur,hv,hb,hh,h1,h2,h3,h4⟩
 · subst h0;exact⟨none,0,hv,by rw[hv];rfl,λh=>absurd h (Nat.lt_irrefl _)⟩
 · refine⟨_,cap,hv,by rw[hv];rfl,λ_=>⟨g,rfl,by rw[hv];rfl,λi x hx=>?_⟩⟩;rw[zq0 (off:=i) hh];have hi:i<xs.length:=(List.getElem?_eq_some_iff.1 hx).1;have hl:=h.1;rw[←h4,List.getElem?_take]at hx;split at hx
   · simpa using hx
   · cases hx
theorem ops_calls{Fin:Machine->Trace->Prop}(hFin:Back Try.prog Fin){n:Nat}(hn:0<n){A:FuncId->Bool}(hP:Plain Try.prog A)(hRS:RowsS Try.prog A){M1 S1:Type}{C:Core M1 S1}{RP:Nat->Option Obj}{l₀:M1}{w:World}
 {np Cn N Cs:Nat} {pp scp:Option Addr} {sp:Nat->Option Addr} {L Cp:Nat->Nat} {ops:Nat->List OpX} {sched:List Int} {mo:Int} {f:FuncId} {first caps:Array Value} {fn:Func} {cc:Code} (hf:Try.prog.funcs[f]?=some fn) (hb':fn.body=some cc) (hnm:(fn.name== "runtime.NumGoroutine")=false)
 (hb:BRep C RP ⟨l₀,λ_ _=>none⟩ w) (ho:OpsAt w RP pp np N sp L Cp ops) (hsl:sched.length<=4611686018427387904)
 (hs:sched≠[]->∃sb off,scp=some ⟨sb,off,none⟩/\¬C.foot l₀ sb/\∀j x,sched[j]?=some x->w.cell? ⟨sb,off+j,none⟩=some (.int .i64 x))
 {dop:Nat->OpX->Proc (S1×(Nat->List Ans)) Ans} (hdeep:∀i op k,(dop i op).Deep k)
 (hdo:∀(ro:Nat->Option Obj)(ab:Nat)(pr:Nat->Proc (S1×(Nat->List Ans)) Unit)(st:Nat)(cr:Frame)(rest:List Frame)(EN:List PanicEntry->Prop)(i:Nat)(o:List Ans)(op:OpX),(∀b x,RP b=some x->ro b=some x)->i<N->
  SpecR (thrSys hP hRS (zqa C (zqo tT ab N)) ownA ro pr 72 (.pointer (some ⟨st,0,none⟩)) cr rest NEnd EN i o) f (first++#[.iface 108 (.pointer (some ⟨st,0,none⟩)),.int .i64 i,op.val]++caps) (dop i op) (AnsV 2))
 {c:Frame} {cs:List Frame}
 (hmain:∀ab v l' am w',OpsRes C N l₀ w (playT (λi=>opsP i (dop i) (ops i)) N (min mo.toNat 1048576) sched (C.st l₀,λ_=>[])) ab v l' am w'->
  J0 Try.prog Fin (n+N) (G (c.finish (.agg #[.slice (some ⟨ab,0,none⟩) N N,v,.slice none 0 0,.bool (decide (0<leftN (playT (λi=>opsP i (dop i) (ops i)) N (min mo.toNat 1048576) sched (C.st l₀,λ_=>[])).ov N))])) cs) w'):
 J0 Try.prog Fin n (G (Frame.enter Try.prog 26 #[.slice pp np Cn,.func (.func f) first caps,.slice scp sched.length Cs,.int .i64 mo] .normal) (c::cs)) w:=by
 have hJ:=j0_JS hFin;have hC:=zq1n hFin;have e:Frame.enter Try.prog 26 #[.slice pp np Cn,.func (.func f) first caps,.slice scp sched.length Cs,.int .i64 mo] .normal=(bN 26).at (zqi Try.f26 #[.slice pp np Cn,.func (.func f) first caps,.slice scp sched.length Cs,.int .i64 mo]) [.code ((Try.f26.body).getD .skip)]:=by kernel_rfl
 have ea:zqi Try.f26 #[.slice pp np Cn,.func (.func f) first caps,.slice scp sched.length Cs,.int .i64 mo]=⟨#[.slice pp np Cn,.func (.func f) first caps,.slice scp sched.length Cs,.int .i64 mo,undef,undef,undef,undef,undef,undef,undef,undef,undef,undef,undef,undef,undef,undef,undef,undef,undef,undef,undef,undef,undef,undef,undef,undef,undef,undef,undef,undef],[]⟩:=by kernel_rfl
 rw[e,ea,ops0];clear e ea;have hm:=Lib.hid hmain;clear hmain;obtain⟨H,hH⟩:∃H,w.heap.size=H:=⟨_,rfl⟩;refine hJ.ctl (s:=n) (λw=>stepG_seq) ?_;refine zq1l hJ hC plainMD (by kernel_rfl) (λt w'=>t=#[.slice pp np Cn,.func (.func f) first caps,.slice scp sched.length Cs,.int .i64 mo,undef,undef,undef,undef,.pointer (some ⟨H,0,none⟩),undef,undef,undef,undef,undef,undef,undef,undef,undef,undef,undef,undef,undef,undef,undef,undef,undef,undef,undef,undef,undef,undef,undef]/\∃τ d,w'=re (w.alloc (.cells #[.slice none 0 0,.slice none 0 0,.slice none 0 0,.bool false] 31)) τ d) (λt w' τ d h=>⟨h.1,by obtain⟨τ',d',rfl⟩:=h.2;exact⟨τ,d,by rw[re_re]⟩⟩) (by decide) (λτ d=>?_) ?_
 · obtain⟨u0,hu0⟩:∃c,headC (opsT 0)=c:=⟨_,rfl⟩;have eu0:=hu0;rw[hu0];simp only[opsT,headC,tailN,Try.f26,al_od]at eu0;subst eu0;clear hu0 hdo hdeep hs ho hb hf hb' hnm;go_wp2;exact⟨rfl,rfl,τ,d,rfl⟩
 rintro t w' ⟨rfl,τ,d,rfl⟩;refine hJ.re' n _ _ τ d ?_;have hwa:(w.alloc (.cells #[.slice none 0 0,.slice none 0 0,.slice none 0 0,.bool false] 31)).heap.size=H+1:=by rw[zq5,hH]
 have hob:∀b,b<H->(w.alloc (.cells #[.slice none 0 0,.slice none 0 0,.slice none 0 0,.bool false] 31)).heap[b]?=w.heap[b]?:=λb hb=>by rw[zq2,if_neg (by omega)]
 have hzb:(w.alloc (.cells #[.slice none 0 0,.slice none 0 0,.slice none 0 0,.bool false] 31)).heap[H]?=some (.cells #[.slice none 0 0,.slice none 0 0,.slice none 0 0,.bool false] 31):=hH▸zqr w _;obtain⟨wa,hwae⟩:∃wa,w.alloc (.cells #[.slice none 0 0,.slice none 0 0,.slice none 0 0,.bool false] 31)=wa:=⟨_,rfl⟩;rw[hwae]at hwa hob hzb ⊢;clear hwae;have hlw:∀b,C.foot l₀ b->b<H:=λb h=>by rw[←hH];exact C.lt _ _ _ hb.core h
 have hba:BRep C RP ⟨l₀,λ_ _=>none⟩ wa:=hb.frame λb h=>hob b (by rw[←hH];exact hb.lt h);have hat:0<np->∃tb to',pp=some ⟨tb,to',none⟩/\∀i,i<N->wa.cell? ⟨tb,to'+i,none⟩=some (.slice (sp i) (L i) (Cp i)):=λh0=>by
  obtain⟨tb,to',e,h1⟩:=ho.at' h0;exact⟨tb,to',e,λi hi=>(zqd (hob tb (by rw[←hH];exact cell_lt (h1 i hi)))).trans (h1 i hi)⟩
 have hs2:sched≠[]->∃sb off,scp=some ⟨sb,off,none⟩/\¬C.foot l₀ sb/\sb<H/\∀j x,sched[j]?=some x->wa.cell? ⟨sb,off+j,none⟩=some (.int .i64 x):=λh0=>by
  obtain⟨sb,off,e,h1',h2⟩:=hs h0;obtain⟨x,l,hsl⟩:=List.exists_cons_of_ne_nil h0;have hlt:sb<H:=by rw[←hH];exact cell_lt (h2 0 x (by rw[hsl];rfl))
  exact⟨sb,off,e,h1',hlt,λj x hj=>(zqd (hob sb hlt)).trans (h2 j x hj)⟩
 have hNe:=ho.eq;have hN64:N<=64:=by omega
 have hnp:=ho.le;have hrow:=ho.row;have hlen:=ho.len;have hop:=ho.op;clear ho hs hb;refine hJ.ctl (s:=n) (λw=>stepG_seq) ?_;refine zq1l hJ hC plainMD (by kernel_rfl) (λt w'=>∃ob ib fv,t=#[.slice pp np Cn,.func (.func f) first caps,.slice scp sched.length Cs,.int .i64 mo,undef,undef,undef,undef,.pointer (some ⟨H,0,none⟩),fv,.slice (some ⟨H+1+1,0,none⟩) N N,undef,undef,undef,.tuple #[fv,.slice (some ⟨H+1+1,0,none⟩) N N],.slice pp np Cn,.func (.func f) first caps,.tuple #[fv,.slice (some ⟨H+1+1,0,none⟩) N N],fv,.slice (some ⟨H+1+1,0,none⟩) N N,undef,undef,undef,undef,undef,undef,undef,undef,undef,undef,undef,undef]/\DRes wa N (.func (.func f) first caps) sp L Cp N ob ib fv w') (λt w' τ d h=>?_) (by decide) (λτ d=>?_) ?_
 · obtain⟨ob,ib,fv,h1,h2⟩:=h;exact⟨ob,ib,fv,h1,h2.re τ d⟩
 · obtain⟨u0,hu0⟩:∃c,headC (opsT 1)=c:=⟨_,rfl⟩;have eu0:=hu0;rw[hu0];simp only[opsT,headC,tailN,Try.f26,al_od]at eu0;subst eu0;clear hu0;have HM:=Lib.hid (doing_lone (pp:=pp) (n:=np) (Cn:=Cn) (dv:=.func (.func f) first caps) (sp:=sp) (L:=L) (Cp:=Cp) ⟨_,_,_,rfl⟩ (re wa τ d) hnp (λi hi=>hrow i (by rw[hNe];exact hi)) (λh0=>by
    obtain⟨tb,to',e,h1⟩:=hat h0;exact⟨tb,to',e,λi hi=>h1 i (by rw[hNe];exact hi)⟩))
   rw[←hNe]at HM;have HH:=Lib.hid (And.intro hH hwa);clear hs2 hat hlw hba hob hzb hH hwa hNe hN64 hnp hrow hlen hop hdo hdeep hf hb' hnm hsl
   go_wp2_with (fail)
   refine Calls.mono HM.out ?_;rintro e w' ⟨ob,ib,fv,rfl,hR⟩;have hR2:=Lib.hid hR.of_re;clear hR;rw[show(re wa τ d).heap.size=H+1 from HH.out.2];go_wp2;exact⟨rfl,ob,ib,fv,rfl,hR2.out⟩
 rintro t w1 ⟨ob,ib,fv,rfl,hR⟩;obtain⟨fp,Cf,rfl,hfo,hfp⟩:=ops_row_form hR.frow;refine hJ.ctl (s:=n) (λw=>stepG_seq) ?_;have hrep1:=ops_rep hR hba;obtain⟨u0,hu0⟩:∃c,headC (opsT 2)=c:=⟨_,rfl⟩;have eu0:=hu0;rw[hu0];simp only[opsT,headC,tailN,Try.f26,al_od]at eu0;subst eu0;clear hu0;refine hJ.ctl (s:=n) (λw=>stepG_region) ?_;have HR:=Lib.hid hR;have HP:=Lib.hid hrep1;have HX:=Lib.hid (And.intro hat (And.intro hs2 (And.intro hob (And.intro hzb (And.intro hwa (And.intro hlw (And.intro hba (And.intro hrow (And.intro hlen hop)))))))));have HA:=Lib.hid (And.intro hfo hfp);have HNE:=Lib.hid hNe;clear hNe;have HD:=Lib.hid (And.intro hdo (And.intro hdeep (And.intro hf (And.intro hb' hnm))));clear hR hrep1 hat hs2 hob hzb hwa hfo hfp hlw hba hrow hlen hop hdo hdeep hf hb' hnm;refine zqp (s:=n) (by decide) hJ (zqm _) true (.inl rfl) 0 3 8 rfl rfl rfl (by rfl) ?_;intro τ d;simp only[List.drop_zero,List.take_succ_cons,List.take_zero];go_wp2;simp only[zq8];refine hJ.re' n _ _ τ d ?_;refine zq1f (by decide) hJ (s:=n) rfl rfl (f:=38) (args:=#[.slice fp N Cf,.slice scp sched.length Cs,.int .i64 mo]) (λτ d=>?_) (λτ d=>?_) ?_
 · simp[go_sem,execOp,Act.eval,resolve,Deferred.ofValue,invoke,callFunc,Try.func38,Try.f38]
 · intro e he;simp[go_sem,execOp,Act.eval,resolve,Deferred.ofValue,invoke,callFunc,Try.func38,Try.f38,Sem.runT_eq]at he
 obtain⟨hat,hs2,hob,hzb,hwa,hlw,hba,hrow,hlen,hop⟩:=HX.out;obtain⟨hfo,hfp⟩:=HA.out;obtain⟨hdo,hdeep,hf,hb',hnm⟩:=HD.out;have hRo:∀i,i<N->DoRo (roOf RP wa.heap.size N ob ib w1) i N (wa.heap.size+1) (ob i) wa.heap.size (ib i) (wa.heap.size+2) (sp i) (min (L i) 65536) (Cp i) (ops i) f first caps:=λi hi=>ops_ro HR.out hba hN64 hlen hop hi
 have hfree:∀x,wa.heap.size+3<=x->w1.heap[x]?≠none->(∀i,i<N->x≠ob i/\x≠ib i)->¬(C.foot l₀ x\/x=wa.heap.size+1\/roOf RP wa.heap.size N ob ib w1 x≠none):=λx hx _ hne h=>by
  rcases h with h|h|h
  · have:=hlw x h;omega
  · omega
  · cases ho:roOf RP wa.heap.size N ob ib w1 x with
    |none=>exact h ho
    |some o=>
     rcases roOf_some ho with h2|⟨h2,_⟩
     · have:=zq7 (hba.rod x o h2);omega
     · rcases h2 with h2|h2|⟨i,hi,h2|h2⟩
       · omega
       · omega
       · exact(hne i hi).1 h2
       · exact(hne i hi).2 h2
 refine over_calls hFin (T:=thrOf (zqa C (zqo tT (wa.heap.size+1) N)) ownA (roOf RP wa.heap.size N ob ib w1) (λi=>opsP i (dop i) (ops i))) (m₀:=mOps l₀ (min mo.toNat 1048576+100)) (N:=N) (most:=min mo.toNat 1048576) (tv:=λi=>cloD wa.heap.size (ob i) (ib i)) (sched:=sched) hn (by have:=HNE.out;omega) rfl (ops_rep0 HP.out) (Nat.le_refl _) ?_ (λi hi=>?_) ?_ ?_
 · intro h0;obtain⟨g,e,hg,hc⟩:=hfp h0;refine⟨g,e,λhf=>?_,λi hi=>hc i _ (by simp[clsD,hi])⟩;obtain⟨⟨cc,hcc⟩,hlo,hlt⟩:=own_lt HR.out.frow hg;refine hfree g hlo (by rw[hcc];simp) (λi hi=>⟨λe=>?_,λe=>?_⟩) (ops_foot0 hf)
   · exact heap_ne hcc (HR.out.obx i hi) (by decide) e
   · exact heap_ne hcc (HR.out.ibx i hi) (by decide) e
 · refine thr_runs hP hRS (fn:=Try.f47) (c:=(Try.f47.body).getD .skip) Try.func47 rfl rfl (λk=>opsP_deep (λop=>hdeep i op k) _) (λst cr rest EN s m w hA hown=>?_);exact doing_calls hP hRS hf hb' hnm (hRo i hi) (λo op=>hdo _ _ _ st cr rest EN i o op (λb x h=>roOf_rp h) hi) s m w hA hown
 · refine⟨hsl,scp,Cs,rfl,λh0=>?_⟩;obtain⟨sb,off,e,h1',h2,h3⟩:=hs2 h0;refine⟨sb,off,e,λj x hj=>?_⟩;cases h1:RP sb with
   |some o=>exact .inr λm w h=>(zqd ((h.1.rod sb o (roOf_rp h1)).trans (hba.rod sb o h1).symm)).trans (h3 j x hj)
   |none=>
   refine .inl ⟨(zqd (HR.out.old sb (by omega))).trans (h3 j x hj),by have:=HR.out.size;omega,λhf=>?_⟩;rcases ops_foot0 hf with h4|h4|h4
   · exact h1' h4
   · omega
   · cases ho:roOf RP wa.heap.size N ob ib w1 sb with
     |none=>exact h4 ho
     |some o=>
      rcases roOf_some ho with h5|⟨h5,_⟩
      · rw[h1]at h5;cases h5
      · rcases h5 with h5|h5|⟨i,hi,h5⟩
        · omega
        · omega
        · have:=HR.out.lo i hi;rcases h5 with h5|h5<;>omega
 intro b m' v g capg w2 ho;obtain⟨hres,hleft⟩:=ops_res HR.out hba ho;have hvrow:=ho.row;clear ho;rw[Frame.finish_at]
 walk_nrm
 obtain⟨pv',cv',rfl,_⟩:=zq12 hvrow;clear hvrow;generalize b.ord.length=nv' at hres ⊢;have HO:=Lib.hid hres;rw[hleft];have hHw:=zq7 hzb;clear hleft hres;obtain⟨stuck,hstuck⟩:∃x,decide (0<leftN (playT (λi=>opsP i (dop i) (ops i)) N (min mo.toNat 1048576) sched (C.st l₀,λ_=>[])).ov N)=x:=⟨_,rfl⟩;rw[hstuck];have HST:=Lib.hid hstuck;clear hstuck;refine zqp (s:=n+N) (by decide) hJ (zqm _) true (.inl rfl) 4 7 0 rfl rfl rfl (by rfl) ?_;intro τ d;simp only[List.drop_succ_cons,List.drop_zero,List.take_succ_cons,List.take_zero];go_wp2;simp only[zq8];refine hJ.re' (n+N) _ _ τ d ?_;refine hJ.ctl (s:=n+N) (λw=>stepG_region_end) ?_;have hze:w2.heap[H]?=some (.cells #[.slice none 0 0,.slice none 0 0,.slice none 0 0,.bool false] 31):=(HO.out.old H hHw (λh=>by have:=hlw H h;omega)).trans hzb;refine zq3k hJ hC plainMD (by kernel_rfl) (λv w'=>v=.agg #[.slice (some ⟨H+1+1,0,none⟩) N N,.slice pv' nv' cv',.slice none 0 0,.bool stuck]/\∃l' am,OpsRes C N l₀ w (playT (λi=>opsP i (dop i) (ops i)) N (min mo.toNat 1048576) sched (C.st l₀,λ_=>[])) (H+1+1) (.slice pv' nv' cv') l' am w') (λv w' τ d⟨h1,l',am,h2⟩=>⟨h1,l',am,h2.re τ d⟩) rfl Try.func26 (λτ d=>?_) ?_
 · obtain⟨u0,hu0⟩:∃c,opsT 3=c:=⟨_,rfl⟩;have eu0:=hu0;rw[hu0];simp only[opsT,headC,tailN,Try.f26,al_od]at eu0;subst eu0;clear hu0;have HZ:=Lib.hid (And.intro hH (And.intro hwa (And.intro hob hlw)));have b0:(re w2 τ d).heap[H]?=some (.cells #[.slice none 0 0,.slice none 0 0,.slice none 0 0,.bool false] 31):=hze;have hre:=HO.out.re τ d;clear HO;generalize re w2 τ d=w3 at b0 hre ⊢;have HPR:=Lib.hid hre;clear hre hfree hRo hat hs2 hob hzb hwa hlw hba hrow hlen hop hfo hfp hdo hdeep hf hb' hnm hze hHw HX HA HD HP HR hH hsl hN64 hnp hm;have r0:=(zq0 (off:=0) b0).trans rfl;have r1:=(zq0 (off:=1) b0).trans rfl;have r2:=(zq0 (off:=2) b0).trans rfl;have r3:=(zq0 (off:=3) b0).trans rfl;have z0:=zq3 (off:=0) b0;have z1:=zq3 (off:=1) b0;have z2:=zq3 (off:=2) b0;have z3:=zq3 (off:=3) b0;have B0:=Lib.hid b0;clear b0;go_wp2;clear r0 r1 r2 r3 z0 z1 z2 z3;have b1':=zqb w3 H 0 (.slice (some ⟨H+1+1,0,none⟩) N N) B0.out;have b2':=zqb _ H 1 (.slice pv' nv' cv') b1';have b3':=zqb _ H 2 (.slice none 0 0) b2';have b4':=zqb _ H 3 (.bool stuck) b3';have hext:∀x,x<w3.heap.size->x≠H->((((w3.setCell ⟨H,0,none⟩ (.slice (some ⟨H+1+1,0,none⟩) N N)).setCell ⟨H,1,none⟩ (.slice pv' nv' cv')).setCell ⟨H,2,none⟩ (.slice none 0 0)).setCell ⟨H,3,none⟩ (.bool stuck)).heap[x]?=w3.heap[x]?:=λx _ hx=>by
    rw[zq4 _ _ _ _ hx,zq4 _ _ _ _ hx,zq4 _ _ _ _ hx,zq4 _ _ _ _ hx]
   have hsz8:((((w3.setCell ⟨H,0,none⟩ (.slice (some ⟨H+1+1,0,none⟩) N N)).setCell ⟨H,1,none⟩ (.slice pv' nv' cv')).setCell ⟨H,2,none⟩ (.slice none 0 0)).setCell ⟨H,3,none⟩ (.bool stuck)).heap.size=w3.heap.size:=by simp only[zqq]
   generalize ((((w3.setCell ⟨H,0,none⟩ (.slice (some ⟨H+1+1,0,none⟩) N N)).setCell ⟨H,1,none⟩ (.slice pv' nv' cv')).setCell ⟨H,2,none⟩ (.slice none 0 0)).setCell ⟨H,3,none⟩ (.bool stuck))=w8 at b4' hext hsz8 ⊢;clear b1' b2' b3';have k0:=(zq0 (off:=0) b4').trans rfl;have k1:=(zq0 (off:=1) b4').trans rfl;have k2:=(zq0 (off:=2) b4').trans rfl;have k3:=(zq0 (off:=3) b4').trans rfl;have hres:=HPR.out;rw[HZ.out.2.1]at hres;refine⟨rfl,.agg #[.slice (some ⟨H+1+1,0,none⟩) N N,.slice pv' nv' cv',.slice none 0 0,.bool stuck],?_,_,rfl,rfl,_,_,hres.ext HZ.out.1 HZ.out.2.1 HZ.out.2.2.1 HZ.out.2.2.2 (by omega) hext⟩;simp only[results,Try.f26];simp[go_sem,k0,k1,k2,k3]
 · rintro v w' ⟨rfl,l',am,h⟩;have h2:=hm.out _ _ l' am w' h;rw[HST.out]at h2;exact h2
noncomputable def splT(n:Nat):Code:=tailN n (Try.f10.body.getD .skip)
theorem spl0:Try.f10.body.getD .skip=.seq (headC (splT 0)) (.seq (headC (splT 1)) (.seq (headC (splT 2)) (splT 3))):=by kernel_rfl
structure PlayedR{S1:Type}(N:Nat)(w:World)(r:TSt (S1×(Nat->List Ans)))(st:List Int)(ab:Nat)(ov sv:Value)(am:AnsM)(w':World):Prop where
 size:w.heap.size<=w'.heap.size
 old:∀b,b<w.heap.size->w'.heap[b]?=w.heap[b]?
 ans:AnsRep tT ab N am w'
 ast:am.st=r.s.2
 abl:w.heap.size<=ab
 ansn:∀i b,i<N->am.X i b≠none->w.heap.size<=b
 orow:w'.ownsRow w.heap.size 3 1 ov r.ord.length (r.ord.map λ(i:Nat)=>.int .i64 i)
 srow:w'.ownsRow w.heap.size 2 1 sv st.length (st.map (Value.int .i64))
 rowf:∀x,ov.ownBlock=some x->x≠ab/\∀i,i<N->am.X i x=none
 srowf:∀x,sv.ownBlock=some x->x≠ab/\(∀i,i<N->am.X i x=none)/\ov.ownBlock≠some x
theorem PlayedR.re {S1:Type}{N:Nat}{w w':World}{r:TSt (S1×(Nat->List Ans))}{st:List Int}{ab:Nat}{ov sv:Value}{am:AnsM}(h:PlayedR N w r st ab ov sv am w')(τ:Nat->Question->Nat)(d:Nat):PlayedR N w r st ab ov sv am (Go.Car.re w' τ d):=
 ⟨h.size,h.old,⟨h.ans.hd,h.ans.row,h.ans.blk,h.ans.nab,h.ans.sep⟩,h.ast,h.abl,h.ansn,h.orow,h.srow,h.rowf,h.srowf⟩
theorem played_of{M1 S1:Type}{C:Core M1 S1}{N H:Nat}{l₀ l':M1}{w wb w2 w':World}{r:TSt (S1×(Nat->List Ans))}{ab:Nat}{v sv:Value}{am:AnsM}{st:List Int}(h:OpsRes C N l₀ wb r ab v l' am w2)(hw:w.heap.size=H)(hwb:H+1<=wb.heap.size)(hob:∀b,b<H->wb.heap[b]?=w.heap[b]?)
 (hl:∀b,C.foot l₀ b->H+1<=b) (hsz:w2.heap.size<=w'.heap.size) (hold:∀x,x<w2.heap.size->x≠H->w'.heap[x]?=w2.heap[x]?) (hs:w'.ownsRow w2.heap.size 2 1 sv st.length (st.map (Value.int .i64))):PlayedR N w r st ab v sv am w':=by
 have h1:=h.size;have h2:=h.abl;have han:∀i b,i<N->am.X i b≠none->H+1<=b:=λi b hi hb=>(h.ansn i b hi hb).elim (hl b) (λx=>by omega);refine⟨by omega,λb hb=>(hold b (by omega) (by omega)).trans ((h.old b (by omega) λx=>by have:=hl b x;omega).trans (hob b (by omega))),⟨(hold ab (zq7 h.ans.hd) (by omega)).trans h.ans.hd,h.ans.row,λi b o hi hb=>(hold b (zq7 (h.ans.blk i b o hi hb)) (by have:=han i b hi (by rw[hb];simp);omega)).trans (h.ans.blk i b o hi hb),h.ans.nab,h.ans.sep⟩,h.ast,by omega,λi b hi hb=>by have:=han i b hi hb;omega,?_,zq2k hs (by omega),λx hx=>(h.rowf x hx).2,λx hx=>?_⟩
 · refine zq2k (zqs h.row λg hg=>hold g (own_lt h.row hg).2.2 ?_) (by omega);have:=(own_lt h.row hg).2.1;omega
 · have h3:=(own_lt hs hx).2.1;refine⟨?_,λi hi=>?_,λe=>?_⟩
   · have:=zq7 h.ans.hd;omega
   · cases ho:am.X i x with
     |none=>rfl
     |some o=>have:=zq7 (h.ans.blk i x o hi ho);omega
   · have:=(own_lt h.row e).2.2;omega
def strPr(ws:List Int)(ops:Nat->List OpX)(i:Nat):Proc (List Int×(Nat->List Ans)) Unit:=opsP i (doP (stripesN ws.length)) (ops i)
def strT(ws:List Int)(ops:Nat->List OpX)(N:Nat)(mo:Int)(sched:List Int):TSt (List Int×(Nat->List Ans)):=playT (strPr ws ops) N (min mo.toNat 1048576) sched (zq13 ws,λ_=>[])
section
variable {S2:Type}
theorem tick_deep{k:Nat}:(Proc.tick:Proc (List Int×S2) Unit).Deep k:=(Proc.Deep.ret _).then
theorem onL_deep{α:Type}{k:Nat}(f:List Int->List Int×α):(onL f:Proc (List Int×S2) α).Deep k:=Proc.Deep.act _
theorem foldP_deep(g:Nat->Int->List Int->List Int×Int)(N k:Nat):∀n j acc,(foldP g N n j acc:Proc (List Int×S2) Int).Deep k
 |0,_,_=>Proc.Deep.ret _
 |n+1,j,acc=>(tick_deep.bind λ_=>onL_deep _).bind λx=>foldP_deep g N k n (j+1) _
theorem addP_deep(N k:Nat)(a v:Int):(addP N a v:Proc (List Int×S2) Int).Deep k:=tick_deep.bind λ_=>onL_deep _
theorem evenB_deep(N k:Nat)(seen:List Int):∀n j acc,(evenB N seen n j acc:Proc (List Int×S2) (Int×Bool)).Deep k
 |0,_,_=>Proc.Deep.ret _
 |n+1,j,acc=>by
  unfold evenB;refine(tick_deep.bind λ_=>onL_deep _).bind λx=>?_;split
  · exact evenB_deep N k seen n (j+1) acc
  · exact Proc.Deep.ret _
theorem evenA_deep(N k:Nat):∀n j seen acc,(evenA N n j seen acc:Proc (List Int×S2) (Int×Bool)).Deep k
 |0,_,_,_=>evenB_deep _ _ _ _ _ _
 |n+1,j,seen,acc=>(tick_deep.bind λ_=>onL_deep _).bind λx=>evenA_deep N k n (j+1) _ _
theorem doP_deep(N k:Nat)(op:OpX):(doP N op:Proc (List Int×S2) Ans).Deep k:=by
 unfold doP
 repeat' split
 · exact(addP_deep _ _ _ _).bind λ_=>Proc.Deep.ret _
 · exact(foldP_deep _ _ _ _ _ _).bind λ_=>Proc.Deep.ret _
 · exact(foldP_deep _ _ _ _ _ _).bind λ_=>Proc.Deep.ret _
 · exact((addP_deep _ _ _ _).bind λ_=>(addP_deep _ _ _ _).bind λ_=>Proc.Deep.ret _).bind λ_=>Proc.Deep.ret _
 · exact(evenA_deep _ _ _ _ _ _).bind λ_=>Proc.Deep.ret _
 · exact Proc.Deep.ret _
end
theorem do_turn{cb:Nat}{z:Option Nat}{NS N ab:Nat}(hp:0<NS)(hl:NS<=64)(ro:Nat->Option Obj)(pr:Nat->Proc (List Int×(Nat->List Ans)) Unit)(st:Nat)(cr:Frame)(rest:List Frame)(EN:List PanicEntry->Prop)(i:Nat)(o:List Ans)(op:OpX):
 SpecR (thrSys zql rowsM (zqa (zq6 cb z NS) (zqo tT ab N)) ownA ro pr 72 (.pointer (some ⟨st,0,none⟩)) cr rest NEnd EN i o) 27 (#[.pointer (some ⟨cb,0,none⟩)]++#[.iface 108 (.pointer (some ⟨st,0,none⟩)),.int .i64 i,op.val]++#[]) (doP NS op) (AnsV 2):=
 do_spec _ (zq3b _ (I:=λs=>ownA i s=o) (λl l' s h=>h) (λl l' s j _=>rfl) hp hl (step_stand _ (thr_step zql rowsM o))) (i:Int) op
end Go.Proofs
