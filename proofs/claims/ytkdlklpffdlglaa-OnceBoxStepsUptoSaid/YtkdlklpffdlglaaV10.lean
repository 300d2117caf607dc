/- YtkdlklpffdlglaaBox5: part 10 of the proof (the texts behind it, in order). -/
import Derived.Test.YtkdlklpffdlglaaV09
set_option maxHeartbeats 4000000
set_option maxRecDepth 100000
set_option linter.all false
set_option maxHeartbeats 16000000
namespace Go.Proofs
open Go Go.Conc Go.RowKit Go.Car
def zq1a(c:Int):Int:=min (max c 0) 1024
def onceP{S2:Type}(c:Nat)(op:OpX):Proc (Nums×S2) Ans:=
 if op.k=1 then(getP c).bind λx=>Proc.ret ⟨x.2,x.1,[]⟩
 else if op.k=2 then(setP c op.b).bind λx=>Proc.ret ⟨x.2,x.1,[]⟩
 else if op.k=3 then(makeL c (mkP c op) (triesN (zq1a op.c))).bind λx=>Proc.ret (madeA x.1 x.2)
 else if op.k=4 then(makeL c (Proc.ret (0,false)) (triesN (zq1a op.c))).bind λx=>Proc.ret (madeA x.1 x.2)
 else Proc.ret Ans.none
theorem zq7g(v e:Int){ti:TypeId}:AnsV ti (madeA v e) (.agg #[.bool (madeA v e).ok,.int .i64 (madeA v e).n,.slice none 0 0]) (λ_=>none):=by
 unfold madeA;split<;>exact AnsV.plain _ _ _
section
variable {M2 S2 β:Type} {D:Core M2 S2} {ro:Nat->Option Obj} {i:Nat} {T:NumT}
structure zq4r(Y:YSys Try.prog aM (zq8 (zqw T) D) ro i β)(sv:Value):Prop where
 base:OnceAtoms Y sv
 maker:∀{c:Nat}(hc:c<T.N){B:Nat->Option Obj}{b3 b5:Nat}{op:OpX},B b3=some (.cells #[.pointer (some ⟨T.ob c,0,none⟩)] 35)->B b5=some (.cells op.cells.toArray 34)->SpecAt Y B 82 (#[]++#[sv]++#[.pointer (some ⟨b5,0,none⟩),.pointer (some ⟨b3,0,none⟩)]) (mkP c op) pairV
theorem zq7h(Y:YSys Try.prog aM (zq8 (zqw T) D) ro i β)(v e:Int):PureY Y 81 #[.int .i64 v,.int .i64 e] (ansV (madeA v e)):=
 PureY.of Try.func81 rfl (by kernel_rfl) λB wc hB=>zqcj v e wc
theorem do_spec(Y:YSys Try.prog aM (zq8 (zqw T) D) ro i β){sv:Value}(hst:zq4r Y sv){c:Nat}(hc:c<T.N)(op:OpX):
 SpecR Y 64 #[.pointer (some ⟨T.ob c,0,none⟩),sv,op.val] (onceP c op) (AnsV 2):=by
 refine SpecR.of Try.func64 rfl ?_;intro K s B w hK hA;simp only[zql,Try.ntmps64,List.size_toArray,List.length_cons,List.length_nil,Nat.reduceAdd,Nat.reduceSub,Array.replicate_succ,Array.replicate_zero,List.push_toArray,List.append_toArray,List.nil_append,List.cons_append];have HKK:=Lib.hid hK;clear hK;refine zqf Y.jc (zqs Y.jc ?_);refine YSys.preX 0 1 2 (λt B'=>∃(b3:Nat)(x4 x5 x6 x7 x8 x9 x10 x11 x12 x13 x14 x15 x16 x17 x18 x19 x20 x21 x22 x23 x24 x25 x26 x27 x28 x29 x30 x31 x32 x33 x34 x35 x36 x37 x38 x39 x40 x41 x42 x43 x44 x45 x46 x47 x48 x49 x50 x51 x52 x53 x54 x55 x56 x57 x58 x59 x60 x61 x62 x63 x64:Value),t=#[.pointer (some ⟨T.ob c,0,none⟩),sv,op.val,.pointer (some ⟨b3,0,none⟩),x4,x5,x6,x7,x8,x9,x10,x11,x12,x13,x14,x15,x16,x17,x18,x19,x20,x21,x22,x23,x24,x25,x26,x27,x28,x29,x30,x31,x32,x33,x34,x35,x36,x37,x38,x39,x40,x41,x42,x43,x44,x45,x46,x47,x48,x49,x50,x51,x52,x53,x54,x55,x56,x57,x58,x59,x60,x61,x62,x63,x64]/\(B) b3=none/\B'=upB (B) b3 (.cells #[.pointer (some ⟨T.ob c,0,none⟩)] 35)) hA rfl rfl rfl rfl ?_ ?_
 . intro wc hB X0 hX0;have HX0:=Lib.hid hX0;clear hX0;have hm:=OMoved.push (o:=.cells #[.pointer (some ⟨T.ob c,0,none⟩)] 35) hB.own (Ext1.alloc wc (.cells #[.pointer (some ⟨T.ob c,0,none⟩)] 35)) (Nat.le_refl _) (by rw[zqc];simp);have hf:=hB.own.fresh (Nat.le_refl _);have HM:=Lib.hid (And.intro hm hf);clear hm hf;go_wp2;exact HX0.out _ _ _ HM.out.1 ⟨_,_,_,_,_,_,_,_,_,_,_,_,_,_,_,_,_,_,_,_,_,_,_,_,_,_,_,_,_,_,_,_,_,_,_,_,_,_,_,_,_,_,_,_,_,_,_,_,_,_,_,_,_,_,_,_,_,_,_,_,_,_,rfl,HM.out.2,rfl⟩
 clear hA;rintro _ _ w ⟨b3,x4,x5,x6,x7,x8,x9,x10,x11,x12,x13,x14,x15,x16,x17,x18,x19,x20,x21,x22,x23,x24,x25,x26,x27,x28,x29,x30,x31,x32,x33,x34,x35,x36,x37,x38,x39,x40,x41,x42,x43,x44,x45,x46,x47,x48,x49,x50,x51,x52,x53,x54,x55,x56,x57,x58,x59,x60,x61,x62,x63,x64,rfl,hb3,rfl⟩ hA;refine YSys.preX 1 1 1 (λt B'=>∃(b5:Nat)(x4 x6 x7 x8 x9 x10 x11 x12 x13 x14 x15 x16 x17 x18 x19 x20 x21 x22 x23 x24 x25 x26 x27 x28 x29 x30 x31 x32 x33 x34 x35 x36 x37 x38 x39 x40 x41 x42 x43 x44 x45 x46 x47 x48 x49 x50 x51 x52 x53 x54 x55 x56 x57 x58 x59 x60 x61 x62 x63 x64:Value),t=#[.pointer (some ⟨T.ob c,0,none⟩),sv,op.val,.pointer (some ⟨b3,0,none⟩),x4,.pointer (some ⟨b5,0,none⟩),x6,x7,x8,x9,x10,x11,x12,x13,x14,x15,x16,x17,x18,x19,x20,x21,x22,x23,x24,x25,x26,x27,x28,x29,x30,x31,x32,x33,x34,x35,x36,x37,x38,x39,x40,x41,x42,x43,x44,x45,x46,x47,x48,x49,x50,x51,x52,x53,x54,x55,x56,x57,x58,x59,x60,x61,x62,x63,x64]/\(upB B b3 (.cells #[.pointer (some ⟨T.ob c,0,none⟩)] 35)) b5=none/\B'=upB (upB B b3 (.cells #[.pointer (some ⟨T.ob c,0,none⟩)] 35)) b5 (.cells op.cells.toArray 34)) hA rfl rfl rfl rfl ?_ ?_
 . intro wc hB X0 hX0;have HX0:=Lib.hid hX0;clear hX0;have hm:=OMoved.push (o:=.cells op.cells.toArray 34) hB.own (Ext1.alloc wc (.cells op.cells.toArray 34)) (Nat.le_refl _) (by rw[zqc];simp);have hf:=hB.own.fresh (Nat.le_refl _);have HM:=Lib.hid (And.intro hm hf);clear hm hf;unfold OpX.val;go_wp2;exact HX0.out _ _ _ HM.out.1 ⟨_,_,_,_,_,_,_,_,_,_,_,_,_,_,_,_,_,_,_,_,_,_,_,_,_,_,_,_,_,_,_,_,_,_,_,_,_,_,_,_,_,_,_,_,_,_,_,_,_,_,_,_,_,_,_,_,_,_,_,_,_,rfl,HM.out.2,rfl⟩
 clear hA;rintro _ _ w ⟨b5,x4,x6,x7,x8,x9,x10,x11,x12,x13,x14,x15,x16,x17,x18,x19,x20,x21,x22,x23,x24,x25,x26,x27,x28,x29,x30,x31,x32,x33,x34,x35,x36,x37,x38,x39,x40,x41,x42,x43,x44,x45,x46,x47,x48,x49,x50,x51,x52,x53,x54,x55,x56,x57,x58,x59,x60,x61,x62,x63,x64,rfl,hb5,rfl⟩ hA;refine YSys.opsX 2 1 (λt B'=>∃(b6:Nat)(x4 x7 x8 x9 x10 x11 x12 x13 x14 x15 x16 x17 x18 x19 x20 x21 x22 x23 x24 x25 x26 x27 x28 x29 x30 x31 x32 x33 x34 x35 x36 x37 x38 x39 x40 x41 x42 x43 x44 x45 x46 x47 x48 x49 x50 x51 x52 x53 x54 x55 x56 x57 x58 x59 x60 x61 x62 x63 x64:Value),t=#[.pointer (some ⟨T.ob c,0,none⟩),sv,op.val,.pointer (some ⟨b3,0,none⟩),x4,.pointer (some ⟨b5,0,none⟩),.pointer (some ⟨b6,0,none⟩),x7,x8,x9,x10,x11,x12,x13,x14,x15,x16,x17,x18,x19,x20,x21,x22,x23,x24,x25,x26,x27,x28,x29,x30,x31,x32,x33,x34,x35,x36,x37,x38,x39,x40,x41,x42,x43,x44,x45,x46,x47,x48,x49,x50,x51,x52,x53,x54,x55,x56,x57,x58,x59,x60,x61,x62,x63,x64]/\(upB (upB B b3 (.cells #[.pointer (some ⟨T.ob c,0,none⟩)] 35)) b5 (.cells op.cells.toArray 34)) b6=none/\B'=upB (upB (upB B b3 (.cells #[.pointer (some ⟨T.ob c,0,none⟩)] 35)) b5 (.cells op.cells.toArray 34)) b6 (.cells #[.bool false,.int .i64 0,.slice none 0 0] 49)) hA rfl rfl (by kernel_rfl) ?_ ?_
 . intro wc hB X0 hX0;have HX0:=Lib.hid hX0;clear hX0;have hm:=OMoved.push (o:=.cells #[.bool false,.int .i64 0,.slice none 0 0] 49) hB.own (Ext1.alloc wc (.cells #[.bool false,.int .i64 0,.slice none 0 0] 49)) (Nat.le_refl _) (by rw[zqc];simp);have hf:=hB.own.fresh (Nat.le_refl _);have HM:=Lib.hid (And.intro hm hf);clear hm hf;go_wp2;exact⟨rfl,HX0.out _ _ _ HM.out.1 ⟨_,_,_,_,_,_,_,_,_,_,_,_,_,_,_,_,_,_,_,_,_,_,_,_,_,_,_,_,_,_,_,_,_,_,_,_,_,_,_,_,_,_,_,_,_,_,_,_,_,_,_,_,_,_,_,_,_,_,_,_,rfl,HM.out.2,rfl⟩⟩
 clear hA;rintro _ _ w ⟨b6,x4,x7,x8,x9,x10,x11,x12,x13,x14,x15,x16,x17,x18,x19,x20,x21,x22,x23,x24,x25,x26,x27,x28,x29,x30,x31,x32,x33,x34,x35,x36,x37,x38,x39,x40,x41,x42,x43,x44,x45,x46,x47,x48,x49,x50,x51,x52,x53,x54,x55,x56,x57,x58,x59,x60,x61,x62,x63,x64,rfl,hb6,rfl⟩ hA;have h3:(upB (upB (upB B b3 (.cells #[.pointer (some ⟨T.ob c,0,none⟩)] 35)) b5 (.cells op.cells.toArray 34)) b6 (.cells #[.bool false,.int .i64 0,.slice none 0 0] 49)) b3=some (.cells #[.pointer (some ⟨T.ob c,0,none⟩)] 35):=zq26 (zq26 (upB_same _ _ _) (zq31 (upB_same _ _ _) hb5)) (zq31 (zq26 (upB_same _ _ _) (zq31 (upB_same _ _ _) hb5)) hb6);have h5:(upB (upB (upB B b3 (.cells #[.pointer (some ⟨T.ob c,0,none⟩)] 35)) b5 (.cells op.cells.toArray 34)) b6 (.cells #[.bool false,.int .i64 0,.slice none 0 0] 49)) b5=some (.cells op.cells.toArray 34):=zq26 (upB_same _ _ _) (zq31 (upB_same _ _ _) hb6);have h6:(upB (upB (upB B b3 (.cells #[.pointer (some ⟨T.ob c,0,none⟩)] 35)) b5 (.cells op.cells.toArray 34)) b6 (.cells #[.bool false,.int .i64 0,.slice none 0 0] 49)) b6=some (.cells #[.bool false,.int .i64 0,.slice none 0 0] 49):=upB_same _ _ _;have hB5:B b5=none:=Classical.byContradiction λh=>by
  cases ho:B b5 with
  |none=>exact h ho
  |some o=>rw[zq2s (o:=.cells #[.pointer (some ⟨T.ob c,0,none⟩)] 35) hb3 b5 o ho]at hb5;cases hb5
 have hB6:B b6=none:=Classical.byContradiction λh=>by
  cases ho:B b6 with
  |none=>exact h ho
  |some o=>rw[zq1n (o:=.cells op.cells.toArray 34) (zq2s (o:=.cells #[.pointer (some ⟨T.ob c,0,none⟩)] 35) hb3) hB5 b6 o ho]at hb6;cases hb6
 have hle:∀x y,B x=some y->(upB (upB (upB B b3 (.cells #[.pointer (some ⟨T.ob c,0,none⟩)] 35)) b5 (.cells op.cells.toArray 34)) b6 (.cells #[.bool false,.int .i64 0,.slice none 0 0] 49)) x=some y:=zq1n (zq1n (zq2s (o:=.cells #[.pointer (some ⟨T.ob c,0,none⟩)] 35) hb3) hB5) hB6;obtain⟨Bq,hBq⟩:∃X,upB (upB (upB B b3 (.cells #[.pointer (some ⟨T.ob c,0,none⟩)] 35)) b5 (.cells op.cells.toArray 34)) b6 (.cells #[.bool false,.int .i64 0,.slice none 0 0] 49)=X:=⟨_,rfl⟩;rw[hBq]at h3 h5 h6 hle hA;have H3:=Lib.hid h3;have H5:=Lib.hid h5;have H6:=Lib.hid h6;have HLE:=Lib.hid hle;have HN:=Lib.hid hB6;clear h3 h5 h6 hle hBq hb3 hb5 hb6 hB5 hB6;show wpJ Y.J _ _ _ _ _;refine YSys.seqX (λt B'=>∃(x4 x8 x9 x10 x11 x12 x13 x14 x15 x16 x17 x18 x19 x20 x21 x22 x23 x24 x25 x26 x27 x28 x29 x30 x31 x32 x33 x34 x35 x36 x37 x38 x39 x40 x41 x42 x43 x44 x45 x46 x47 x48 x49 x50 x51 x52 x53 x54 x55 x56 x57 x58 x59 x60 x61 x62 x63 x64:Value),t=#[.pointer (some ⟨T.ob c,0,none⟩),sv,op.val,.pointer (some ⟨b3,0,none⟩),x4,.pointer (some ⟨b5,0,none⟩),.pointer (some ⟨b6,0,none⟩),.int .i64 (zq1a op.c),x8,x9,x10,x11,x12,x13,x14,x15,x16,x17,x18,x19,x20,x21,x22,x23,x24,x25,x26,x27,x28,x29,x30,x31,x32,x33,x34,x35,x36,x37,x38,x39,x40,x41,x42,x43,x44,x45,x46,x47,x48,x49,x50,x51,x52,x53,x54,x55,x56,x57,x58,x59,x60,x61,x62,x63,x64]/\B'=Bq) hA (by kernel_rfl) ?_ ?_
 . intro wc hB X0 hX0;have HX0:=Lib.hid hX0;clear hX0;have HOM:=Lib.hid (OMoved.ext hB.own (Ext1.refl wc));have c50:wc.cell? ⟨b5,0,none⟩=some (.int .i64 op.k):=(zq1 (hB.own.box b5 _ H5.out)).trans rfl;have c51:wc.cell? ⟨b5,1,none⟩=some (.int .i64 op.a):=(zq1 (hB.own.box b5 _ H5.out)).trans rfl;have c52:wc.cell? ⟨b5,2,none⟩=some (.int .i64 op.b):=(zq1 (hB.own.box b5 _ H5.out)).trans rfl;have c53:wc.cell? ⟨b5,3,none⟩=some (.int .i64 op.c):=(zq1 (hB.own.box b5 _ H5.out)).trans rfl;rcases(by omega:op.c<0\/(0<=op.c/\op.c<=1024)\/1024<op.c)with h|⟨h,h'⟩|h
   . have e:zq1a op.c=0:=by unfold zq1a;omega
     have h1:op.c<=0:=by omega
     have E:=Lib.hid e;clear e;go_wp2;exact⟨rfl,HX0.out _ _ _ HOM.out ⟨_,_,_,_,_,_,_,_,_,_,_,_,_,_,_,_,_,_,_,_,_,_,_,_,_,_,_,_,_,_,_,_,_,_,_,_,_,_,_,_,_,_,_,_,_,_,_,_,_,_,_,_,_,_,_,_,_,_,by rw[E.out],rfl⟩⟩
   . have e:zq1a op.c=op.c:=by unfold zq1a;omega
     have E:=Lib.hid e;clear e;go_wp2;exact⟨rfl,HX0.out _ _ _ HOM.out ⟨_,_,_,_,_,_,_,_,_,_,_,_,_,_,_,_,_,_,_,_,_,_,_,_,_,_,_,_,_,_,_,_,_,_,_,_,_,_,_,_,_,_,_,_,_,_,_,_,_,_,_,_,_,_,_,_,_,_,by rw[E.out],rfl⟩⟩
   . have e:zq1a op.c=1024:=by unfold zq1a;omega
     have h1:0<=op.c:=by omega
     have h2:¬op.c<=1024:=by omega
     have E:=Lib.hid e;clear e;go_wp2;exact⟨rfl,HX0.out _ _ _ HOM.out ⟨_,_,_,_,_,_,_,_,_,_,_,_,_,_,_,_,_,_,_,_,_,_,_,_,_,_,_,_,_,_,_,_,_,_,_,_,_,_,_,_,_,_,_,_,_,_,_,_,_,_,_,_,_,_,_,_,_,_,by rw[E.out],rfl⟩⟩
 rintro _ Bz w ⟨x4,x8,x9,x10,x11,x12,x13,x14,x15,x16,x17,x18,x19,x20,x21,x22,x23,x24,x25,x26,x27,x28,x29,x30,x31,x32,x33,x34,x35,x36,x37,x38,x39,x40,x41,x42,x43,x44,x45,x46,x47,x48,x49,x50,x51,x52,x53,x54,x55,x56,x57,x58,x59,x60,x61,x62,x63,x64,rfl,hBz⟩ hA;rw[hBz]at hA;clear hBz;apply YSys.seq0 hA (by kernel_rfl)
 . intro wc hB;go_wp2;exact⟨rfl,Ext1.refl _,rfl⟩
 intro w hA;refine zqf Y.jc ?_;apply YSys.seq0 hA (by kernel_rfl)
 . intro wc hB;have c50:wc.cell? ⟨b5,0,none⟩=some (.int .i64 op.k):=(zq1 (hB.own.box b5 _ H5.out)).trans rfl;have c51:wc.cell? ⟨b5,1,none⟩=some (.int .i64 op.a):=(zq1 (hB.own.box b5 _ H5.out)).trans rfl;have c52:wc.cell? ⟨b5,2,none⟩=some (.int .i64 op.b):=(zq1 (hB.own.box b5 _ H5.out)).trans rfl;have c53:wc.cell? ⟨b5,3,none⟩=some (.int .i64 op.c):=(zq1 (hB.own.box b5 _ H5.out)).trans rfl;go_wp2;exact⟨rfl,Ext1.refl _,rfl⟩
 intro w hA;refine zq35 Y.jc ?_;unfold onceP at hA;apply YSys.seq0 hA (by kernel_rfl)
 . intro wc hB;go_wp2;exact⟨rfl,Ext1.refl _,rfl⟩
 intro w hA;refine zqt Y.jc rfl ?_
 by_cases hk1:op.k=1
 . rw[if_pos (by simp[hk1])];rw[if_pos hk1,Proc.bind_bind]at hA;clear hk1;refine zqf Y.jc (zqs Y.jc ?_);apply YSys.callR 0 2 5 hA (zq4z Y hst.base hc).spec (λx=>HKK.out _) rfl rfl rfl (by rfl) rfl rfl rfl
   . intro wc hB X hX;have HX:=Lib.hid hX;clear hX;have c30:wc.cell? ⟨b3,0,none⟩=some (.pointer (some ⟨T.ob c,0,none⟩)):=(zq1 (hB.own.box b3 _ H3.out)).trans rfl;go_wp2;exact HX.out _ (Ext1.refl _)
   . intro w;simp[go_sem,execOp,Act.eval,resolve,Deferred.ofValue,invoke,callFunc,Try.func25,Try.f25]
   . intro w;simp[go_sem,execOp,Act.eval,resolve,Deferred.ofValue,invoke,callFunc,Try.func25,Try.f25]
   . intro s' ch w' h;exact⟨rfl,h⟩
   intro s x w hA;apply YSys.ops0 3 5 hA rfl rfl (by kernel_rfl)
   . intro wc hB;go_wp2;exact⟨rfl,Ext1.refl _,rfl⟩
   intro w hA;show wpJ Y.J _ _ _ _ _;refine YSys.seqX (λt B'=>∃(y4 y8 y9 y10 y11 y12 y13 y14 y15 y16 y17 y18 y19 y20 y21 y22 y23 y24 y25 y26 y27 y28 y29 y30 y31 y32 y33 y34 y35 y36 y37 y38 y39 y40 y41 y42 y43 y44 y45 y46 y47 y48 y49 y50 y51 y52 y53 y54 y55 y56 y57 y58 y59 y60 y61 y62 y63 y64:Value),t=#[.pointer (some ⟨T.ob c,0,none⟩),sv,op.val,.pointer (some ⟨b3,0,none⟩),y4,.pointer (some ⟨b5,0,none⟩),.pointer (some ⟨b6,0,none⟩),.int .i64 (zq1a op.c),y8,y9,y10,y11,y12,y13,y14,y15,y16,y17,y18,y19,y20,y21,y22,y23,y24,y25,y26,y27,y28,y29,y30,y31,y32,y33,y34,y35,y36,y37,y38,y39,y40,y41,y42,y43,y44,y45,y46,y47,y48,y49,y50,y51,y52,y53,y54,y55,y56,y57,y58,y59,y60,y61,y62,y63,y64]/\B'=upB Bq b6 (.cells #[.bool x.2,.int .i64 x.1,.slice none 0 0] 49)) hA (by kernel_rfl) ?_ ?_
   . intro wc hB X0 hX0;have HX0:=Lib.hid hX0;clear hX0;have k6:=hB.own.box b6 _ H6.out;have c60:wc.cell? ⟨b6,0,none⟩=some (.bool false):=(zq1 k6).trans rfl;have c61:wc.cell? ⟨b6,1,none⟩=some (.int .i64 0):=(zq1 k6).trans rfl;have c62:wc.cell? ⟨b6,2,none⟩=some (.slice none 0 0):=(zq1 k6).trans rfl;have f60:wc.frozen? ⟨b6,0,none⟩=false:=zqd k6;have f61:wc.frozen? ⟨b6,1,none⟩=false:=zqd k6;have f62:wc.frozen? ⟨b6,2,none⟩=false:=zqd k6;have hm:=OMoved.set3 (o1:=0) (o2:=1) (o3:=2) hB.own H6.out (.bool x.2) (.int .i64 x.1) (.slice none 0 0);have HM:=Lib.hid hm;clear hm k6;go_wp2;exact⟨rfl,HX0.out _ _ _ HM.out ⟨_,_,_,_,_,_,_,_,_,_,_,_,_,_,_,_,_,_,_,_,_,_,_,_,_,_,_,_,_,_,_,_,_,_,_,_,_,_,_,_,_,_,_,_,_,_,_,_,_,_,_,_,_,_,_,_,_,_,rfl,rfl⟩⟩
   rintro _ _ w ⟨y4,y8,y9,y10,y11,y12,y13,y14,y15,y16,y17,y18,y19,y20,y21,y22,y23,y24,y25,y26,y27,y28,y29,y30,y31,y32,y33,y34,y35,y36,y37,y38,y39,y40,y41,y42,y43,y44,y45,y46,y47,y48,y49,y50,y51,y52,y53,y54,y55,y56,y57,y58,y59,y60,y61,y62,y63,y64,rfl,rfl⟩ hA;refine zq16 Y.jc ?_;refine YSys.left hA (v:=.agg #[.bool x.2,.int .i64 x.1,.slice none 0 0]) (λwc hB=>results_cell_row rfl _ wc b6 49 _ _ _ rfl (hB.own.box b6 _ (upB_same _ _ _)) rfl rfl rfl) λw hA=>?_;exact⟨⟨x.2,x.1,[]⟩,λ_=>none,AnsV.plain _ _ _,λb hb=>absurd rfl hb,hA.drop (zq1n HLE.out HN.out)⟩
 rw[if_neg (by simp[hk1])];rw[if_neg hk1]at hA;clear hk1;apply YSys.seq0 hA (by kernel_rfl)
 . intro wc hB;go_wp2;exact⟨rfl,Ext1.refl _,rfl⟩
 intro w hA;refine zqt Y.jc rfl ?_
 by_cases hk2:op.k=2
 . rw[if_pos (by simp[hk2])];rw[if_pos hk2,Proc.bind_bind]at hA;clear hk2;refine zqf Y.jc (zqs Y.jc ?_);apply YSys.callR 0 4 5 hA (set_spec Y hst.base hc op.b).spec (λx=>HKK.out _) rfl rfl rfl (by rfl) rfl rfl rfl
   . intro wc hB X hX;have HX:=Lib.hid hX;clear hX;have c30:wc.cell? ⟨b3,0,none⟩=some (.pointer (some ⟨T.ob c,0,none⟩)):=(zq1 (hB.own.box b3 _ H3.out)).trans rfl;have c50:wc.cell? ⟨b5,0,none⟩=some (.int .i64 op.k):=(zq1 (hB.own.box b5 _ H5.out)).trans rfl;have c51:wc.cell? ⟨b5,1,none⟩=some (.int .i64 op.a):=(zq1 (hB.own.box b5 _ H5.out)).trans rfl;have c52:wc.cell? ⟨b5,2,none⟩=some (.int .i64 op.b):=(zq1 (hB.own.box b5 _ H5.out)).trans rfl;have c53:wc.cell? ⟨b5,3,none⟩=some (.int .i64 op.c):=(zq1 (hB.own.box b5 _ H5.out)).trans rfl;go_wp2;exact HX.out _ (Ext1.refl _)
   . intro w;simp[go_sem,execOp,Act.eval,resolve,Deferred.ofValue,invoke,callFunc,Try.func26,Try.f26]
   . intro w;simp[go_sem,execOp,Act.eval,resolve,Deferred.ofValue,invoke,callFunc,Try.func26,Try.f26]
   . intro s' ch w' h;exact⟨rfl,h⟩
   intro s x w hA;apply YSys.ops0 5 5 hA rfl rfl (by kernel_rfl)
   . intro wc hB;go_wp2;exact⟨rfl,Ext1.refl _,rfl⟩
   intro w hA;show wpJ Y.J _ _ _ _ _;refine YSys.seqX (λt B'=>∃(y4 y8 y9 y10 y11 y12 y13 y14 y15 y16 y17 y18 y19 y20 y21 y22 y23 y24 y25 y26 y27 y28 y29 y30 y31 y32 y33 y34 y35 y36 y37 y38 y39 y40 y41 y42 y43 y44 y45 y46 y47 y48 y49 y50 y51 y52 y53 y54 y55 y56 y57 y58 y59 y60 y61 y62 y63 y64:Value),t=#[.pointer (some ⟨T.ob c,0,none⟩),sv,op.val,.pointer (some ⟨b3,0,none⟩),y4,.pointer (some ⟨b5,0,none⟩),.pointer (some ⟨b6,0,none⟩),.int .i64 (zq1a op.c),y8,y9,y10,y11,y12,y13,y14,y15,y16,y17,y18,y19,y20,y21,y22,y23,y24,y25,y26,y27,y28,y29,y30,y31,y32,y33,y34,y35,y36,y37,y38,y39,y40,y41,y42,y43,y44,y45,y46,y47,y48,y49,y50,y51,y52,y53,y54,y55,y56,y57,y58,y59,y60,y61,y62,y63,y64]/\B'=upB Bq b6 (.cells #[.bool x.2,.int .i64 x.1,.slice none 0 0] 49)) hA (by kernel_rfl) ?_ ?_
   . intro wc hB X0 hX0;have HX0:=Lib.hid hX0;clear hX0;have k6:=hB.own.box b6 _ H6.out;have c60:wc.cell? ⟨b6,0,none⟩=some (.bool false):=(zq1 k6).trans rfl;have c61:wc.cell? ⟨b6,1,none⟩=some (.int .i64 0):=(zq1 k6).trans rfl;have c62:wc.cell? ⟨b6,2,none⟩=some (.slice none 0 0):=(zq1 k6).trans rfl;have f60:wc.frozen? ⟨b6,0,none⟩=false:=zqd k6;have f61:wc.frozen? ⟨b6,1,none⟩=false:=zqd k6;have f62:wc.frozen? ⟨b6,2,none⟩=false:=zqd k6;have hm:=OMoved.set3 (o1:=0) (o2:=1) (o3:=2) hB.own H6.out (.bool x.2) (.int .i64 x.1) (.slice none 0 0);have HM:=Lib.hid hm;clear hm k6;go_wp2;exact⟨rfl,HX0.out _ _ _ HM.out ⟨_,_,_,_,_,_,_,_,_,_,_,_,_,_,_,_,_,_,_,_,_,_,_,_,_,_,_,_,_,_,_,_,_,_,_,_,_,_,_,_,_,_,_,_,_,_,_,_,_,_,_,_,_,_,_,_,_,_,rfl,rfl⟩⟩
   rintro _ _ w ⟨y4,y8,y9,y10,y11,y12,y13,y14,y15,y16,y17,y18,y19,y20,y21,y22,y23,y24,y25,y26,y27,y28,y29,y30,y31,y32,y33,y34,y35,y36,y37,y38,y39,y40,y41,y42,y43,y44,y45,y46,y47,y48,y49,y50,y51,y52,y53,y54,y55,y56,y57,y58,y59,y60,y61,y62,y63,y64,rfl,rfl⟩ hA;refine zq16 Y.jc ?_;refine YSys.left hA (v:=.agg #[.bool x.2,.int .i64 x.1,.slice none 0 0]) (λwc hB=>results_cell_row rfl _ wc b6 49 _ _ _ rfl (hB.own.box b6 _ (upB_same _ _ _)) rfl rfl rfl) λw hA=>?_;exact⟨⟨x.2,x.1,[]⟩,λ_=>none,AnsV.plain _ _ _,λb hb=>absurd rfl hb,hA.drop (zq1n HLE.out HN.out)⟩
 rw[if_neg (by simp[hk2])];rw[if_neg hk2]at hA;clear hk2;apply YSys.seq0 hA (by kernel_rfl)
 . intro wc hB;go_wp2;exact⟨rfl,Ext1.refl _,rfl⟩
 intro w hA;refine zqt Y.jc rfl ?_
 by_cases hk3:op.k=3
 . rw[if_pos (by simp[hk3])];rw[if_pos hk3,Proc.bind_bind]at hA;clear hk3;refine zqf Y.jc (zqs Y.jc ?_);apply YSys.callB 0 5 4 hA (zq7i Y hst.base hc Try.func82 rfl rfl (first:=#[]) (caps:=#[.pointer (some ⟨b5,0,none⟩),.pointer (some ⟨b3,0,none⟩)]) (hst.maker hc H3.out H5.out) (λK hK=>by rw[mkP,Proc.bind_bind];exact Y.sil_tick _) (zq1a op.c)) (λx=>HKK.out _) rfl rfl rfl (by rfl) rfl rfl rfl
   . intro wc hB X hX;have HX:=Lib.hid hX;clear hX;have c30:wc.cell? ⟨b3,0,none⟩=some (.pointer (some ⟨T.ob c,0,none⟩)):=(zq1 (hB.own.box b3 _ H3.out)).trans rfl;go_wp2;exact HX.out _ (Ext1.refl _)
   . intro w;simp[go_sem,execOp,Act.eval,resolve,Deferred.ofValue,invoke,callFunc,Try.func27,Try.f27]
   . intro w;simp[go_sem,execOp,Act.eval,resolve,Deferred.ofValue,invoke,callFunc,Try.func27,Try.f27]
   . intro s' ch w' h;exact⟨rfl,h⟩
   intro s x w hA;apply YSys.callP 6 2 1 hA (zq7h Y x.1 x.2) rfl rfl rfl (by rfl) rfl rfl rfl
   . intro wc hB X hX;have HX:=Lib.hid hX;clear hX;go_wp2;exact HX.out _ (Ext1.refl _)
   . intro w;simp[go_sem,execOp,Act.eval,resolve,Deferred.ofValue,invoke,callFunc,Try.func81,Try.f81]
   . intro w;simp[go_sem,execOp,Act.eval,resolve,Deferred.ofValue,invoke,callFunc,Try.func81,Try.f81]
   intro w hA;refine YSys.opsX 9 1 (λt B'=>∃(y4 y8 y9 y10 y11 y12 y13 y14 y15 y16 y17 y18 y19 y20 y21 y22 y23 y24 y25 y26 y27 y28 y29 y30 y31 y32 y33 y34 y35 y36 y37 y38 y39 y40 y41 y42 y43 y44 y45 y46 y47 y48 y49 y50 y51 y52 y53 y54 y55 y56 y57 y58 y59 y60 y61 y62 y63 y64:Value),t=#[.pointer (some ⟨T.ob c,0,none⟩),sv,op.val,.pointer (some ⟨b3,0,none⟩),y4,.pointer (some ⟨b5,0,none⟩),.pointer (some ⟨b6,0,none⟩),.int .i64 (zq1a op.c),y8,y9,y10,y11,y12,y13,y14,y15,y16,y17,y18,y19,y20,y21,y22,y23,y24,y25,y26,y27,y28,y29,y30,y31,y32,y33,y34,y35,y36,y37,y38,y39,y40,y41,y42,y43,y44,y45,y46,y47,y48,y49,y50,y51,y52,y53,y54,y55,y56,y57,y58,y59,y60,y61,y62,y63,y64]/\B'=upB Bq b6 (.cells #[.bool (madeA x.1 x.2).ok,.int .i64 (madeA x.1 x.2).n,.slice none 0 0] 49)) hA rfl rfl (by kernel_rfl) ?_ ?_
   . intro wc hB X0 hX0;have HX0:=Lib.hid hX0;clear hX0;have k6:=hB.own.box b6 _ H6.out;have c60:wc.cell? ⟨b6,0,none⟩=some (.bool false):=(zq1 k6).trans rfl;have c61:wc.cell? ⟨b6,1,none⟩=some (.int .i64 0):=(zq1 k6).trans rfl;have c62:wc.cell? ⟨b6,2,none⟩=some (.slice none 0 0):=(zq1 k6).trans rfl;have f60:wc.frozen? ⟨b6,0,none⟩=false:=zqd k6;have f61:wc.frozen? ⟨b6,1,none⟩=false:=zqd k6;have f62:wc.frozen? ⟨b6,2,none⟩=false:=zqd k6;have hm:=OMoved.set3 (o1:=0) (o2:=1) (o3:=2) hB.own H6.out (.bool (madeA x.1 x.2).ok) (.int .i64 (madeA x.1 x.2).n) (.slice none 0 0);have HM:=Lib.hid hm;clear hm k6;go_wp2;exact⟨rfl,HX0.out _ _ _ HM.out ⟨_,_,_,_,_,_,_,_,_,_,_,_,_,_,_,_,_,_,_,_,_,_,_,_,_,_,_,_,_,_,_,_,_,_,_,_,_,_,_,_,_,_,_,_,_,_,_,_,_,_,_,_,_,_,_,_,_,_,rfl,rfl⟩⟩
   rintro _ _ w ⟨y4,y8,y9,y10,y11,y12,y13,y14,y15,y16,y17,y18,y19,y20,y21,y22,y23,y24,y25,y26,y27,y28,y29,y30,y31,y32,y33,y34,y35,y36,y37,y38,y39,y40,y41,y42,y43,y44,y45,y46,y47,y48,y49,y50,y51,y52,y53,y54,y55,y56,y57,y58,y59,y60,y61,y62,y63,y64,rfl,rfl⟩ hA;show wpJ Y.J _ _ _ _ _;refine zq16 Y.jc ?_;refine YSys.left hA (v:=.agg #[.bool (madeA x.1 x.2).ok,.int .i64 (madeA x.1 x.2).n,.slice none 0 0]) (λwc hB=>results_cell_row rfl _ wc b6 49 _ _ _ rfl (hB.own.box b6 _ (upB_same _ _ _)) rfl rfl rfl) λw hA=>?_;exact⟨madeA x.1 x.2,λ_=>none,zq7g _ _,λb hb=>absurd rfl hb,hA.drop (zq1n HLE.out HN.out)⟩
 rw[if_neg (by simp[hk3])];rw[if_neg hk3]at hA;clear hk3;apply YSys.seq0 hA (by kernel_rfl)
 . intro wc hB;go_wp2;exact⟨rfl,Ext1.refl _,rfl⟩
 intro w hA;refine zqt Y.jc rfl ?_
 by_cases hk4:op.k=4
 . rw[if_pos (by simp[hk4])];rw[if_pos hk4,Proc.bind_bind]at hA;clear hk4;refine zqf Y.jc (zqs Y.jc ?_);apply YSys.callB 0 4 4 hA (zq7i Y hst.base hc Try.func83 rfl rfl (first:=#[]) (caps:=#[]) (zqdi Y Bq sv) (λK hK=>hK _) (zq1a op.c)) (λx=>HKK.out _) rfl rfl rfl (by rfl) rfl rfl rfl
   . intro wc hB X hX;have HX:=Lib.hid hX;clear hX;have c30:wc.cell? ⟨b3,0,none⟩=some (.pointer (some ⟨T.ob c,0,none⟩)):=(zq1 (hB.own.box b3 _ H3.out)).trans rfl;go_wp2;exact HX.out _ (Ext1.refl _)
   . intro w;simp[go_sem,execOp,Act.eval,resolve,Deferred.ofValue,invoke,callFunc,Try.func27,Try.f27]
   . intro w;simp[go_sem,execOp,Act.eval,resolve,Deferred.ofValue,invoke,callFunc,Try.func27,Try.f27]
   . intro s' ch w' h;exact⟨rfl,h⟩
   intro s x w hA;apply YSys.callP 5 2 1 hA (zq7h Y x.1 x.2) rfl rfl rfl (by rfl) rfl rfl rfl
   . intro wc hB X hX;have HX:=Lib.hid hX;clear hX;go_wp2;exact HX.out _ (Ext1.refl _)
   . intro w;simp[go_sem,execOp,Act.eval,resolve,Deferred.ofValue,invoke,callFunc,Try.func81,Try.f81]
   . intro w;simp[go_sem,execOp,Act.eval,resolve,Deferred.ofValue,invoke,callFunc,Try.func81,Try.f81]
   intro w hA;refine YSys.opsX 8 1 (λt B'=>∃(y4 y8 y9 y10 y11 y12 y13 y14 y15 y16 y17 y18 y19 y20 y21 y22 y23 y24 y25 y26 y27 y28 y29 y30 y31 y32 y33 y34 y35 y36 y37 y38 y39 y40 y41 y42 y43 y44 y45 y46 y47 y48 y49 y50 y51 y52 y53 y54 y55 y56 y57 y58 y59 y60 y61 y62 y63 y64:Value),t=#[.pointer (some ⟨T.ob c,0,none⟩),sv,op.val,.pointer (some ⟨b3,0,none⟩),y4,.pointer (some ⟨b5,0,none⟩),.pointer (some ⟨b6,0,none⟩),.int .i64 (zq1a op.c),y8,y9,y10,y11,y12,y13,y14,y15,y16,y17,y18,y19,y20,y21,y22,y23,y24,y25,y26,y27,y28,y29,y30,y31,y32,y33,y34,y35,y36,y37,y38,y39,y40,y41,y42,y43,y44,y45,y46,y47,y48,y49,y50,y51,y52,y53,y54,y55,y56,y57,y58,y59,y60,y61,y62,y63,y64]/\B'=upB Bq b6 (.cells #[.bool (madeA x.1 x.2).ok,.int .i64 (madeA x.1 x.2).n,.slice none 0 0] 49)) hA rfl rfl (by kernel_rfl) ?_ ?_
   . intro wc hB X0 hX0;have HX0:=Lib.hid hX0;clear hX0;have k6:=hB.own.box b6 _ H6.out;have c60:wc.cell? ⟨b6,0,none⟩=some (.bool false):=(zq1 k6).trans rfl;have c61:wc.cell? ⟨b6,1,none⟩=some (.int .i64 0):=(zq1 k6).trans rfl;have c62:wc.cell? ⟨b6,2,none⟩=some (.slice none 0 0):=(zq1 k6).trans rfl;have f60:wc.frozen? ⟨b6,0,none⟩=false:=zqd k6;have f61:wc.frozen? ⟨b6,1,none⟩=false:=zqd k6;have f62:wc.frozen? ⟨b6,2,none⟩=false:=zqd k6;have hm:=OMoved.set3 (o1:=0) (o2:=1) (o3:=2) hB.own H6.out (.bool (madeA x.1 x.2).ok) (.int .i64 (madeA x.1 x.2).n) (.slice none 0 0);have HM:=Lib.hid hm;clear hm k6;go_wp2;exact⟨rfl,HX0.out _ _ _ HM.out ⟨_,_,_,_,_,_,_,_,_,_,_,_,_,_,_,_,_,_,_,_,_,_,_,_,_,_,_,_,_,_,_,_,_,_,_,_,_,_,_,_,_,_,_,_,_,_,_,_,_,_,_,_,_,_,_,_,_,_,rfl,rfl⟩⟩
   rintro _ _ w ⟨y4,y8,y9,y10,y11,y12,y13,y14,y15,y16,y17,y18,y19,y20,y21,y22,y23,y24,y25,y26,y27,y28,y29,y30,y31,y32,y33,y34,y35,y36,y37,y38,y39,y40,y41,y42,y43,y44,y45,y46,y47,y48,y49,y50,y51,y52,y53,y54,y55,y56,y57,y58,y59,y60,y61,y62,y63,y64,rfl,rfl⟩ hA;show wpJ Y.J _ _ _ _ _;refine zq16 Y.jc ?_;refine YSys.left hA (v:=.agg #[.bool (madeA x.1 x.2).ok,.int .i64 (madeA x.1 x.2).n,.slice none 0 0]) (λwc hB=>results_cell_row rfl _ wc b6 49 _ _ _ rfl (hB.own.box b6 _ (upB_same _ _ _)) rfl rfl rfl) λw hA=>?_;exact⟨madeA x.1 x.2,λ_=>none,zq7g _ _,λb hb=>absurd rfl hb,hA.drop (zq1n HLE.out HN.out)⟩
 rw[if_neg (by simp[hk4])];rw[if_neg hk4]at hA;clear hk4;refine zq1b Y.jc ?_;show wpJ Y.J _ _ _ _ _;refine YSys.seqX (λt B'=>∃(y4 y8 y9 y10 y11 y12 y13 y14 y15 y16 y17 y18 y19 y20 y21 y22 y23 y24 y25 y26 y27 y28 y29 y30 y31 y32 y33 y34 y35 y36 y37 y38 y39 y40 y41 y42 y43 y44 y45 y46 y47 y48 y49 y50 y51 y52 y53 y54 y55 y56 y57 y58 y59 y60 y61 y62 y63 y64:Value),t=#[.pointer (some ⟨T.ob c,0,none⟩),sv,op.val,.pointer (some ⟨b3,0,none⟩),y4,.pointer (some ⟨b5,0,none⟩),.pointer (some ⟨b6,0,none⟩),.int .i64 (zq1a op.c),y8,y9,y10,y11,y12,y13,y14,y15,y16,y17,y18,y19,y20,y21,y22,y23,y24,y25,y26,y27,y28,y29,y30,y31,y32,y33,y34,y35,y36,y37,y38,y39,y40,y41,y42,y43,y44,y45,y46,y47,y48,y49,y50,y51,y52,y53,y54,y55,y56,y57,y58,y59,y60,y61,y62,y63,y64]/\B'=upB Bq b6 (.cells #[.bool false,.int .i64 0,.slice none 0 0] 49)) hA (by kernel_rfl) ?_ ?_
 . intro wc hB X0 hX0;have HX0:=Lib.hid hX0;clear hX0;have k6:=hB.own.box b6 _ H6.out;have c60:wc.cell? ⟨b6,0,none⟩=some (.bool false):=(zq1 k6).trans rfl;have c61:wc.cell? ⟨b6,1,none⟩=some (.int .i64 0):=(zq1 k6).trans rfl;have c62:wc.cell? ⟨b6,2,none⟩=some (.slice none 0 0):=(zq1 k6).trans rfl;have f60:wc.frozen? ⟨b6,0,none⟩=false:=zqd k6;have f61:wc.frozen? ⟨b6,1,none⟩=false:=zqd k6;have f62:wc.frozen? ⟨b6,2,none⟩=false:=zqd k6;have hm:=OMoved.set3 (o1:=0) (o2:=1) (o3:=2) hB.own H6.out (.bool false) (.int .i64 0) (.slice none 0 0);have HM:=Lib.hid hm;clear hm k6;go_wp2;exact⟨rfl,HX0.out _ _ _ HM.out ⟨_,_,_,_,_,_,_,_,_,_,_,_,_,_,_,_,_,_,_,_,_,_,_,_,_,_,_,_,_,_,_,_,_,_,_,_,_,_,_,_,_,_,_,_,_,_,_,_,_,_,_,_,_,_,_,_,_,_,rfl,rfl⟩⟩
 rintro _ _ w ⟨y4,y8,y9,y10,y11,y12,y13,y14,y15,y16,y17,y18,y19,y20,y21,y22,y23,y24,y25,y26,y27,y28,y29,y30,y31,y32,y33,y34,y35,y36,y37,y38,y39,y40,y41,y42,y43,y44,y45,y46,y47,y48,y49,y50,y51,y52,y53,y54,y55,y56,y57,y58,y59,y60,y61,y62,y63,y64,rfl,rfl⟩ hA;refine zq16 Y.jc ?_;refine YSys.left hA (v:=.agg #[.bool false,.int .i64 0,.slice none 0 0]) (λwc hB=>results_cell_row rfl _ wc b6 49 _ _ _ rfl (hB.own.box b6 _ (upB_same _ _ _)) rfl rfl rfl) λw hA=>?_;exact⟨Ans.none,λ_=>none,AnsV.plain _ _ _,λb hb=>absurd rfl hb,hA.drop (zq1n HLE.out HN.out)⟩
end
end Go.Proofs
namespace Go.Car
open Go Go.Conc Go.RowKit
open Go.ConcN (upd upd_ne upd_same)
section
variable {P:Program} {main:Bool} {γ:Type} {J:γ->Goroutine->World->Prop}
def zq3z(ops:Array Oper):Bool:=(List.range ops.size).all λi=>match ops[i]? with
 |some o=>o.after.all (λe=>!Region.binds .any e || decide (e.on<i))
 |none=>false
end
section
variable {P:Program} {main:Bool} {γ:Type} {J:γ->Goroutine->World->Prop}
end
section
variable {P:Program} {main:Bool} {γ:Type} {J:γ->Goroutine->World->Prop}
end
def lstK(n k:Nat):Array Bool:=((List.range n).map λi=>decide (i<k)).toArray
theorem zq4c(n k:Nat):(lstK n k).size=n:=by simp[lstK]
theorem zq4b(n k i:Nat)(h:i<n):(lstK n k)[i]?=some (decide (i<k)):=by
 unfold lstK;rw[al_gl,List.getElem?_map,List.getElem?_range h];rfl
theorem lstK_of{listed:Array Bool}{n k:Nat}(hs:listed.size=n)(h1:∀i,i<k->listed.getD i false=true)(h2:∀i,k<=i->listed.getD i false=false):listed=lstK n k:=by
 apply Array.ext_getElem?;intro i
 by_cases hi:i<n
 . rw[zq4b n k i hi];have hi':i<listed.size:=by omega
   have e:listed.getD i false=listed[i]:=by simp[hi']
   rw[Array.getElem?_eq_getElem hi',<-e]
   by_cases hk:i<k
   . rw[h1 i hk];simp[hk]
   . rw[h2 i (by omega)];simp[hk]
 . rw[Array.getElem?_eq_none (by omega),Array.getElem?_eq_none (by rw[zq4c];omega)]
theorem zq7f(n k:Nat)(h:k<n):(lstK n k).setIfInBounds k true=lstK n (k+1):=by
 apply Array.ext_getElem?;intro i;rw[al_gs]
 by_cases hi:i<n
 . rw[zq4b n k i hi,zq4b n (k+1) i hi]
   by_cases e:k=i
   . subst e;rw[if_pos rfl,if_pos (by rw[zq4c];exact h)];simp
   . rw[if_neg e];congr 1;simp;omega
 . rw[Array.getElem?_eq_none (by rw[zq4c];omega),Array.getElem?_eq_none (by rw[zq4c];omega)]
   by_cases e:k=i
   . subst e;omega
   . rw[if_neg e]
def zq41(ops:Array Oper)(k:Nat):Bool:=(List.range ops.size).all λj=>decide (j<k) || (Region.ready .any ops (lstK ops.size j)==[j])
theorem chain_go{ops:Array Oper}{k:Nat}(h:zq41 ops k=true):∀(q j t:Nat),k<=j->j+q=ops.size->Region.linearise.go .any ops q t (lstK ops.size j) []=List.range' j q:=by
 intro q
 induction q with
 |zero=>intro j t _ _;rfl
 |succ q ih=>
  intro j t hk hj;have hr:Region.ready .any ops (lstK ops.size j)=[j]:=by
   unfold zq41 at h;rw[List.all_eq_true]at h;have:=h j (List.mem_range.2 (by omega));simp only[Bool.or_eq_true,decide_eq_true_eq,beq_iff_eq]at this;exact this.resolve_left (by omega)
  simp only[Region.linearise.go];change (match (Region.ready .any ops (lstK ops.size j))[t % (Region.ready .any ops (lstK ops.size j)).length]? with
   |some i=>Region.linearise.go .any ops q (t / (Region.ready .any ops (lstK ops.size j)).length) ((lstK ops.size j).setIfInBounds i true) [i]
   |none=>[].reverse)=_
  rw[hr];simp only[List.length_singleton,Nat.mod_one,al_g0];rw[linearise_go_acc,List.reverse_singleton,List.singleton_append,zq7f _ _ (by omega),ih (j+1) _ (by omega) (by omega),List.range'_succ]
theorem zqci(n:Nat):∀(q k:Nat),k+q=n->left (lstK n k)=q:=by
 intro q
 induction q with
 |zero=>
  intro k hk;unfold left;rw[List.length_eq_zero_iff,List.filter_eq_nil_iff];intro x hx;simp only[lstK,List.mem_map,List.mem_range]at hx;obtain⟨i,hi,rfl⟩:=hx;simp;omega
 |succ q ih=>
  intro k hk;have h1:(lstK n k).getD k true=false:=by
   rw[al_gd,zq4b n k k (by omega)];simp
  have:=zq30 h1;rw[zq7f n k (by omega),ih (k+1) (by omega)]at this;omega
section
variable {P:Program} {main:Bool} {γ:Type} {J:γ->Goroutine->World->Prop}
theorem zqah(hjs:∀s,∃Kc,JS P main Kc (λ(_:Unit)=>J s)){b:Frame}{kk:List Item}{cs:List Frame}(hm:P.follows .mixedOrders=true){id:Nat}{ops:Array Oper}{T₀:Array Value}{ds:List Deferred}{s:γ}{w:World}(k:Nat)(I:(Nat->Bool)->Array Value->World->Prop)
 (hback:zq3z ops=true) (hbackB:backB .any ops k=true) (hwait:zq27 .any ops k=true) (hchain:zq41 ops k=true) (hk:k<=ops.size) (hre:∀L T w τ d,I L T w->I L T (re w τ d)) (hI:I (λ_=>false) T₀ w)
 (hstep:∀(L:Nat->Bool)(T:Array Value)(w:World)(i:Nat)(o:Oper),i<k->I L T w->L i=false->ops[i]?=some o->(∀e∈o.after,Region.binds .any e=true->L e.on=true)->
  ∀rest:List Nat,(∀T' w',I (upd L i true) T' w'->J s (G (b.at ⟨T',ds⟩ (.inRegion ops rest::kk)) cs) w')->J s (G (b.at ⟨T,ds⟩ (.inRegion ops (i::rest)::kk)) cs) w)
 (hgo:∀L T w,(∀i,i<k->L i=true)->I L T w->J s (G (b.at ⟨T,ds⟩ (.inRegion ops (List.range' k (ops.size - k))::kk)) cs) w):J s (G (b.at ⟨T₀,ds⟩ (.code (.region id ops true)::kk)) cs) w:=by
 have hb':∀i o,ops[i]?=some o->∀e∈o.after,Region.binds .any e=true->e.on<i:=by
  intro i o ho;have hlt:=(Array.getElem?_eq_some_iff.1 ho).1;unfold zq3z at hback;rw[List.all_eq_true]at hback;have:=hback i (List.mem_range.2 hlt);rw[ho]at this;simp only[Array.all_eq_true_iff_forall_mem]at this;exact λe he hbe=>by have:=this e he;simpa[hbe]using this
 have hAW:=zq65 hwait;have key:∀(fuel t:Nat)(listed:Array Bool)(L:Nat->Bool)(T:Array Value)(w:World),listed.size=ops.size->left listed=fuel->(∀i,i<ops.size->listed.getD i false=L i)->Closed .any ops listed->(∀i,k<=i->listed.getD i false=false)->I L T w->
  J s (G (b.at ⟨T,ds⟩ (.inRegion ops (Region.linearise.go .any ops fuel t listed [])::kk)) cs) w:=by
  intro fuel
  induction fuel with
  |zero=>
   intro t listed L T w hsz hl hL hcl hhi hi;have all:∀i,i<ops.size->listed.getD i false=true:=λi hlt=>by
    have hlt':i<listed.size:=by omega
    cases hv:listed[i]with
    |true=>simp[hlt',hv]
    |false=>have:=zq49 (listed:=listed) (i:=i) (by simp[hlt',hv]);omega
   have hke:k=ops.size:=by
    refine Classical.byContradiction λhne=>?_;have h1:=all k (by omega);rw[hhi k (Nat.le_refl _)]at h1;cases h1
   have:=hgo L T w (λi hlt=>by rw[<-hL i (by omega)];exact all i (by omega)) hi;rw[hke,Nat.sub_self]at this;exact this
  |succ fuel ih=>
   intro t listed L T w hsz hl hL hcl hhi hi
   by_cases hall:∀i,i<k->listed.getD i false=true
   . have e:listed=lstK ops.size k:=lstK_of hsz hall hhi;have hq:fuel+1=ops.size - k:=by
      rw[<-hl,e];exact zqci _ _ _ (by omega)
     rw[e,hq,chain_go hchain _ _ _ (Nat.le_refl _) (by omega)];exact hgo L T w (λi hlt=>by rw[<-hL i (by omega)];exact hall i hlt) hi
   . obtain⟨i0,hi0⟩:=Classical.not_forall.1 hall;obtain⟨hik0,hi0⟩:=Classical.not_imp.1 hi0;have hi0s:i0<listed.size:=by omega
     have hready:∃i,i∈Region.ready .any ops listed:=zq6a hbackB listed ⟨i0,hik0,by simp[hi0s]at hi0 |-;exact hi0⟩;simp only[Region.linearise.go];change J s (G (b.at ⟨T,ds⟩ (.inRegion ops (match (Region.ready .any ops listed)[t % (Region.ready .any ops listed).length]? with
      |some i=>Region.linearise.go .any ops fuel (t / (Region.ready .any ops listed).length) (listed.setIfInBounds i true) [i]
      |none=>[].reverse)::kk)) cs) w
     cases hi':(Region.ready .any ops listed)[t % (Region.ready .any ops listed).length]? with
     |none=>
      exfalso;obtain⟨i,hi''⟩:=hready;have hpos:0<(Region.ready .any ops listed).length:=List.length_pos_of_mem hi'';have hlt:=Nat.mod_lt t hpos;rw[List.getElem?_eq_none_iff]at hi';omega
     |some i=>
      have hmem:=List.mem_of_getElem? hi';obtain⟨hun,o,ho,hall2⟩:=mem_ready.1 hmem;have hik:i<k:=Classical.byContradiction λhge=>hi0 (hAW listed hcl i hmem (by omega) i0 hik0);have hilt:i<ops.size:=by have:=zq1l hun;omega
      simp only[];rw[linearise_go_acc,List.reverse_singleton,List.singleton_append];have hbk:=hb' i o ho;have hLi:L i=false:=by
       rw[<-hL i hilt];have hlt':i<listed.size:=by omega
       simp[hlt']at hun |-;exact hun
      have hld:left (listed.setIfInBounds i true)+1=left listed:=zq30 hun;have hL':∀j,j<ops.size->(listed.setIfInBounds i true).getD j false=upd L i true j:=λj hj=>by
       by_cases e:i=j
       . subst e;have:i<listed.size:=by omega
         rw[upd_same];simp[this]
       . rw[getD_set_ne false e,upd_ne _ _ (λx=>e x.symm)];exact hL j hj
      have hall':∀e∈o.after,Region.binds .any e=true->L e.on=true:=λe he hbe=>by
       rw[<-hL e.on (by have:=hbk e he hbe;omega)];exact hall2 e he hbe
      exact hstep L T w i o hik hi hLi ho hall' _ λT' w' hI'=>ih _ _ (upd L i true) _ _ (by simpa using hsz) (by omega) hL' (hcl.set hmem) (λj hj=>by rw[getD_set_ne false (by omega)];exact hhi j hj) hI'
 obtain⟨Kc,hJ⟩:=hjs s;refine hJ.step () _ _ rfl λτ d=>⟨_,_,#[],stepG_region_draw (a:=⟨T₀,ds⟩),?_,by simp,?_⟩
 . exact OkD.refl _ _ _
 . refine hJ.re' () _ w τ (d+1) ?_;simp only[Region.schedule,hm,Bool.true_or,if_true,Region.linearise];refine key _ _ _ (λ_=>false) _ _ (by simp) ?_ (λi hi=>by simp[hi]) (λi o e _ hl=>?_) (λi _=>?_) hI
   . unfold left;simp
   . exfalso;rw[al_gd,Array.getElem?_replicate]at hl;split at hl<;>simp at hl
   . rw[al_gd,Array.getElem?_replicate];split<;>rfl
end
def chkP(P:Program)(ops:Array Oper)(k n:Nat):Bool:=
 (List.range k).all (λi=>match ops[i]? with
  |some o=>o.guard.isNone&&zq1h P o.op&&(match o.dst with|some d=>decide (d<n)|none=>false)
  |none=>false)&&
 (List.range k).all (λi=>(List.range i).all λj=>dstOf ops i !=dstOf ops j)
section
variable {P:Program} {A:FuncId->Bool} {Ml S β α:Type} {C:Core Ml S} {ro:Nat->Option Obj} {i:Nat}
theorem Alone.re (Z:Alone P A C ro i β){I:S->Prop}{B:Nat->Option Obj}{s:Z.γ}{w:World}{p:Proc S β}(h:(Z.sys I).AtB B s w p)(τ:Nat->Question->Nat)(d:Nat):(Z.sys I).AtB B s (Car.re w τ d) p:=by
 obtain⟨m,rfl,h1,h2⟩:=h;have h3:=Z.move h1 (Moved.ext (Z.rep h1) (Ext.re w τ d)) (Z.oth _);rw[BM.put_same]at h3;exact⟨m,rfl,h3,h2⟩
theorem Alone.region (Z:Alone P A C ro i β)(hm:P.follows .mixedOrders=true){I:S->Prop}{B:Nat->Option Obj}{s:Z.γ}{w:World}{p:Proc S β}{id:Nat}{ops:Array Oper}{t₀:Array Value}{ds:List Deferred}{Q:Z.γ->Exit->Act->World->Prop}(k:Nat)(vals:List Value)(hA:(Z.sys I).AtB B s w p)(hv:vals.length=k)
 (hback:zq3z ops=true) (hbackB:backB .any ops k=true) (hwait:zq27 .any ops k=true) (hchain:zq41 ops k=true) (hk:k<=ops.size) (hchk:chkP P ops k t₀.size=true)
 (hread:∀wc,(Z.sys I).KnB B wc->∀(j:Nat)(o:Oper)(v:Value)(T:Array Value),ops[j]?=some o->vals[j]?=some v->(∀e∈o.after,Region.binds .any e=true->∀d x,dstOf ops e.on=some d->vals[e.on]?=some x->T[d]?=some x)->(∀t,(∀j,j<k->dstOf ops j≠some t)->T[t]?=t₀[t]?)->(execOp (Act.mk T []).eval o).run P wc=.ok (.value v) wc)
 (hgo:∀w',(Z.sys I).AtB B s w' p->opsJ Z.J ops (List.range' k (ops.size - k)) Q s ⟨putv ops vals 0 t₀,ds⟩ w'):wpJ Z.J (.region id ops true) Q s ⟨t₀,ds⟩ w:=by
 intro b kk cs hb hQ;unfold chkP at hchk;simp only[Bool.and_eq_true,List.all_eq_true,List.mem_range]at hchk;obtain⟨h1,h2⟩:=hchk;have plain:∀(j:Nat)(o:Oper),j<k->ops[j]?=some o->o.guard=none/\zq1h P o.op=true/\∃d,o.dst=some d/\d<t₀.size:=λj o hj ho=>by
  have:=h1 j hj;rw[ho]at this;simp only[Bool.and_eq_true]at this;obtain⟨⟨a1,a2⟩,a3⟩:=this;refine⟨Option.isNone_iff_eq_none.1 a1,a2,?_⟩;cases hd:o.dst with
  |none=>rw[hd]at a3;cases a3
  |some d=>rw[hd]at a3;exact⟨d,rfl,by simpa using a3⟩
 have apart:∀(a c:Nat)(d:Tmp),a<k->c<k->dstOf ops a=some d->dstOf ops c=some d->a=c:=λa c d ha hc hd hd'=>by
  rcases Nat.lt_trichotomy a c with h|h|h
  . have:=h2 c hc a h;rw[hd,hd']at this;simp at this
  . exact h
  . have:=h2 a ha c h;rw[hd,hd']at this;simp at this
 obtain⟨T,hT⟩:∃T,putv ops vals 0 t₀=T:=⟨_,rfl⟩;have Tat:∀j d x,j<k->dstOf ops j=some d->vals[j]?=some x->T[d]?=some x:=λj d x hj hd hx=>by
  have hd':=hd;unfold dstOf at hd';obtain⟨o,ho⟩:∃o,ops[j]?=some o:=⟨_,Array.getElem?_eq_getElem (by omega)⟩;obtain⟨_,_,d2,hd2,hlt⟩:=plain j o hj ho;rw[ho]at hd';simp only[al_ob]at hd';rw[hd2]at hd';cases hd';rw[<-hT];refine zq4h vals 0 _ j x d hx (by rw[Nat.zero_add];exact hd) hlt λq a b e=>?_;have:=apart q j d (by omega) hj (by simpa using e) hd;omega
 have Tout:∀t,(∀j,j<k->dstOf ops j≠some t)->T[t]?=t₀[t]?:=λt ht=>by
  rw[<-hT];exact zq2n vals 0 _ t λj a b=>ht j (by omega)
 refine zqah (γ:=Z.γ) (J:=Z.J) Z.js hm k (λL T' w=>(Z.sys I).AtB B s w p/\T'.size=t₀.size/\(∀t,(∀j,j<k->dstOf ops j≠some t)->T'[t]?=t₀[t]?)/\∀j d x,j<k->L j=true->dstOf ops j=some d->vals[j]?=some x->T'[d]?=some x) hback hbackB hwait hchain hk (λL T' w τ d h=>⟨Z.re h.1 τ d,h.2⟩) ⟨hA,rfl,λ_ _=>rfl,λj d x _ hl=>(by cases hl)⟩ ?_ ?_
 . rintro L T' w j o hj ⟨hA,hsz,hout,hin⟩ hL ho hdep rest hnext;obtain⟨hg,hrd,d,hd,hlt⟩:=plain j o hj ho;obtain⟨v,hvj⟩:∃v,vals[j]?=some v:=⟨_,List.getElem?_eq_getElem (by omega)⟩;obtain⟨Kc,hJ⟩:=Z.js s;have hdj:dstOf ops j=some d:=by unfold dstOf;rw[ho];exact hd
   have hback':∀e∈o.after,Region.binds .any e=true->e.on<j:=by
    unfold zq3z at hback;rw[List.all_eq_true]at hback;have:=hback j (List.mem_range.2 (by omega));rw[ho]at this;simp only[Array.all_eq_true_iff_forall_mem]at this;exact λe he hbe=>by have:=this e he;simpa[hbe]using this
   refine at_opK (J:=λ(_:Unit)=>Z.J s) (s:=()) hJ hb ho hrd (by simp[Region.wanted,hg]) hd λτ dd=>?_;have hA':=Z.re hA τ dd;have hkn:(Z.sys I).KnB B (Car.re w τ dd):=by
    obtain⟨m,rfl,q1,q2⟩:=hA';exact⟨m,rfl,Z.rep q1⟩
   refine⟨v,Car.re w τ dd,hread _ hkn j o v T' ho hvj (λe he hbe d' x hd' hx=>hin e.on d' x (by have:=hback' e he hbe;omega) (hdep e he hbe) hd' hx) hout,hnext _ _ ⟨hA',by simpa using hsz,λt ht=>?_,λj' d' x hj' hl hd' hx=>?_⟩⟩
   . have:d≠t:=λe=>ht j hj (e▸hdj);rw[al_gn this];exact hout t ht
   . have hltT:d<T'.size:=by rw[hsz];exact hlt
     by_cases e:j'=j
     . subst e;rw[hdj]at hd';cases hd';rw[hvj]at hx;cases hx;rw[al_gs,if_pos rfl,if_pos hltT]
     . have hne:d≠d':=λe2=>by subst e2;exact e (apart j' j d hj' hj hd' hdj)
       rw[upd_ne _ _ e]at hl;rw[al_gn hne];exact hin j' d' x hj' hl hd' hx
 . rintro L T' w hall ⟨hA,hsz,hout,hin⟩;have e:T'=T:=by
    apply Array.ext_getElem?;intro x
    by_cases hx:∃j,j<k/\dstOf ops j=some x
    . obtain⟨j,hj,hdj⟩:=hx;obtain⟨v,hvj⟩:∃v,vals[j]?=some v:=⟨_,List.getElem?_eq_getElem (by omega)⟩;rw[hin j x v hj (hall j hj) hdj hvj,Tat j x v hj hdj hvj]
    . have hno:∀j,j<k->dstOf ops j≠some x:=λj hj hd=>hx ⟨j,hj,hd⟩;rw[hout x hno,Tout x hno]
   rw[e];have:=hgo w hA;rw[hT]at this;exact this b kk cs hb hQ
end
end Go.Car
set_option maxHeartbeats 8000000
namespace Go.Proofs
open Go Go.Conc Go.RowKit Go.Car
def doerP{S2:Type}(N:Nat)(op:OpX):Proc (Nums×S2) Ans:=if op.a<0\/(N:Int)<=op.a then Proc.ret Ans.none else onceP op.a.toNat op
section
variable {M2 S2 β:Type} {D:Core M2 S2} {ro:Nat->Option Obj} {i:Nat} {T:NumT}
theorem zqbc(Z:Alone Try.prog aM (zq8 (zqw T) D) ro i β){I:Nums×S2->Prop}{sv:Value}(hst:zq4r (Z.sys I) sv){vb pb Cp:Nat}{ps:Array Value}(hv:ro vb=some (.cells #[.slice (some ⟨pb,0,none⟩) T.N Cp] 108))(hp:ro pb=some (.cells ps 35))(hps:∀c,c<T.N->ps[c]?=some (.pointer (some ⟨T.ob c,0,none⟩)))(hN:T.N<=64)(who:Int)(op:OpX):
 SpecR (Z.sys I) 63 #[sv,.int .i64 who,op.val,.pointer (some ⟨vb,0,none⟩)] (doerP T.N op) (AnsV 2):=by
 have HS:=Lib.hid hst;have HR:=Lib.hid (And.intro hv (And.intro hp hps));clear hst hv hp hps;refine SpecR.of Try.func63 rfl ?_;intro K s B w hK hA;simp only[zql,Try.ntmps63,List.size_toArray,List.length_cons,List.length_nil,Nat.reduceAdd,Nat.reduceSub,Array.replicate_succ,Array.replicate_zero,List.push_toArray,List.append_toArray,List.nil_append,List.cons_append];have HKK:=Lib.hid hK;clear hK;refine zqf (Z.sys I).jc (zqs (Z.sys I).jc ?_);refine YSys.preX 0 1 1 (λt B'=>∃(b6:Nat)(x4 x5 x7 x8 x9 x10 x11 x12 x13 x14 x15 x16 x17 x18 x19 x20 x21 x22 x23 x24 x25 x26:Value),t=#[sv,.int .i64 who,op.val,.pointer (some ⟨vb,0,none⟩),x4,x5,.pointer (some ⟨b6,0,none⟩),x7,x8,x9,x10,x11,x12,x13,x14,x15,x16,x17,x18,x19,x20,x21,x22,x23,x24,x25,x26]/\(B) b6=none/\B'=upB (B) b6 (.cells op.cells.toArray 34)) hA rfl rfl rfl rfl ?_ ?_
 . intro wc hB X0 hX0;have HX0:=Lib.hid hX0;clear hX0;have hm:=OMoved.push (o:=.cells op.cells.toArray 34) hB.own (Ext1.alloc wc (.cells op.cells.toArray 34)) (Nat.le_refl _) (by rw[zqc];simp);have hf:=hB.own.fresh (Nat.le_refl _);have HM:=Lib.hid (And.intro hm hf);clear hm hf;unfold OpX.val;go_wp2;exact HX0.out _ _ _ HM.out.1 ⟨_,_,_,_,_,_,_,_,_,_,_,_,_,_,_,_,_,_,_,_,_,_,_,rfl,HM.out.2,rfl⟩
 clear hA;rintro _ _ w ⟨b6,x4,x5,x7,x8,x9,x10,x11,x12,x13,x14,x15,x16,x17,x18,x19,x20,x21,x22,x23,x24,x25,x26,rfl,hb6,rfl⟩ hA;refine YSys.opsX 1 1 (λt B'=>∃(b7:Nat)(x4 x5 x8 x9 x10 x11 x12 x13 x14 x15 x16 x17 x18 x19 x20 x21 x22 x23 x24 x25 x26:Value),t=#[sv,.int .i64 who,op.val,.pointer (some ⟨vb,0,none⟩),x4,x5,.pointer (some ⟨b6,0,none⟩),.pointer (some ⟨b7,0,none⟩),x8,x9,x10,x11,x12,x13,x14,x15,x16,x17,x18,x19,x20,x21,x22,x23,x24,x25,x26]/\(upB B b6 (.cells op.cells.toArray 34)) b7=none/\B'=upB (upB B b6 (.cells op.cells.toArray 34)) b7 (.cells #[.bool false,.int .i64 0,.slice none 0 0] 49)) hA rfl rfl (by kernel_rfl) ?_ ?_
 . intro wc hB X0 hX0;have HX0:=Lib.hid hX0;clear hX0;have hm:=OMoved.push (o:=.cells #[.bool false,.int .i64 0,.slice none 0 0] 49) hB.own (Ext1.alloc wc (.cells #[.bool false,.int .i64 0,.slice none 0 0] 49)) (Nat.le_refl _) (by rw[zqc];simp);have hf:=hB.own.fresh (Nat.le_refl _);have HM:=Lib.hid (And.intro hm hf);clear hm hf;go_wp2;exact⟨rfl,HX0.out _ _ _ HM.out.1 ⟨_,_,_,_,_,_,_,_,_,_,_,_,_,_,_,_,_,_,_,_,_,_,rfl,HM.out.2,rfl⟩⟩
 clear hA;rintro _ _ w ⟨b7,x4,x5,x8,x9,x10,x11,x12,x13,x14,x15,x16,x17,x18,x19,x20,x21,x22,x23,x24,x25,x26,rfl,hb7,rfl⟩ hA;have h6:(upB (upB B b6 (.cells op.cells.toArray 34)) b7 (.cells #[.bool false,.int .i64 0,.slice none 0 0] 49)) b6=some (.cells op.cells.toArray 34):=zq26 (upB_same _ _ _) (zq31 (upB_same _ _ _) hb7);have h7:(upB (upB B b6 (.cells op.cells.toArray 34)) b7 (.cells #[.bool false,.int .i64 0,.slice none 0 0] 49)) b7=some (.cells #[.bool false,.int .i64 0,.slice none 0 0] 49):=upB_same _ _ _;have hB7:B b7=none:=Classical.byContradiction λh=>by
  cases ho:B b7 with
  |none=>exact h ho
  |some o=>rw[zq2s (o:=.cells op.cells.toArray 34) hb6 b7 o ho]at hb7;cases hb7
 have hle:∀x y,B x=some y->(upB (upB B b6 (.cells op.cells.toArray 34)) b7 (.cells #[.bool false,.int .i64 0,.slice none 0 0] 49)) x=some y:=zq1n (zq2s (o:=.cells op.cells.toArray 34) hb6) hB7;obtain⟨Bq,hBq⟩:∃X,upB (upB B b6 (.cells op.cells.toArray 34)) b7 (.cells #[.bool false,.int .i64 0,.slice none 0 0] 49)=X:=⟨_,rfl⟩;rw[hBq]at h6 h7 hle hA;have H6:=Lib.hid h6;have H7:=Lib.hid h7;have HLE:=Lib.hid hle;have HN:=Lib.hid hB7;clear h6 h7 hle hBq hb6 hb7 hB7;show wpJ (Z.sys I).J _ _ _ _ _;refine zqf (Z.sys I).jc ?_;unfold doerP at hA;obtain⟨x,hx⟩:∃x,op.a=x:=⟨_,rfl⟩;obtain⟨NN,hNN⟩:∃x,T.N=x:=⟨_,rfl⟩;have HX:=Lib.hid (And.intro hx hNN);rw[hx,hNN]at hA;rw[hNN]at hN;clear hx hNN
 by_cases h1:x<0
 . rw[if_pos (.inl h1)]at hA;apply YSys.seq0 hA (by kernel_rfl)
   . intro wc hB;have k6:=hB.own.box b6 _ H6.out;have c60:wc.cell? ⟨b6,0,none⟩=some (.int .i64 op.k):=(zq1 k6).trans rfl;have c61:wc.cell? ⟨b6,1,none⟩=some (.int .i64 op.a):=(zq1 k6).trans rfl;have c62:wc.cell? ⟨b6,2,none⟩=some (.int .i64 op.b):=(zq1 k6).trans rfl;have c63:wc.cell? ⟨b6,3,none⟩=some (.int .i64 op.c):=(zq1 k6).trans rfl;rw[HX.out.1]at c61;clear k6;go_wp2;exact⟨rfl,Ext1.refl _,rfl⟩
   intro w hA;refine zqt (Z.sys I).jc rfl ?_;rw[if_pos rfl];refine YSys.seqX (λt B'=>∃(y4 y5 y8 y9 y10 y11 y12 y13 y14 y15 y16 y17 y18 y19 y20 y21 y22 y23 y24 y25 y26:Value),t=#[sv,.int .i64 who,op.val,.pointer (some ⟨vb,0,none⟩),y4,y5,.pointer (some ⟨b6,0,none⟩),.pointer (some ⟨b7,0,none⟩),y8,y9,y10,y11,y12,y13,y14,y15,y16,y17,y18,y19,y20,y21,y22,y23,y24,y25,y26]/\B'=upB Bq b7 (.cells #[.bool false,.int .i64 0,.slice none 0 0] 49)) hA (by kernel_rfl) ?_ ?_
   . intro wc hB X0 hX0;have HX0:=Lib.hid hX0;clear hX0;have k7:=hB.own.box b7 _ H7.out;have c70:wc.cell? ⟨b7,0,none⟩=some (.bool false):=(zq1 k7).trans rfl;have c71:wc.cell? ⟨b7,1,none⟩=some (.int .i64 0):=(zq1 k7).trans rfl;have c72:wc.cell? ⟨b7,2,none⟩=some (.slice none 0 0):=(zq1 k7).trans rfl;have f70:wc.frozen? ⟨b7,0,none⟩=false:=zqd k7;have f71:wc.frozen? ⟨b7,1,none⟩=false:=zqd k7;have f72:wc.frozen? ⟨b7,2,none⟩=false:=zqd k7;clear k7;have hm:=OMoved.set3 (o1:=0) (o2:=1) (o3:=2) hB.own H7.out (.bool false) (.int .i64 0) (.slice none 0 0);have HM:=Lib.hid hm;clear hm;go_wp2;exact⟨rfl,HX0.out _ _ _ HM.out ⟨_,_,_,_,_,_,_,_,_,_,_,_,_,_,_,_,_,_,_,_,_,rfl,rfl⟩⟩
   rintro _ _ w ⟨y4,y5,y8,y9,y10,y11,y12,y13,y14,y15,y16,y17,y18,y19,y20,y21,y22,y23,y24,y25,y26,rfl,rfl⟩ hA;refine zq16 (Z.sys I).jc ?_;refine YSys.left hA (v:=.agg #[.bool false,.int .i64 0,.slice none 0 0]) (λwc hB=>results_cell_row rfl _ wc b7 49 _ _ _ rfl (hB.own.box b7 _ (upB_same _ _ _)) rfl rfl rfl) λw hA=>?_;exact⟨Ans.none,λ_=>none,AnsV.plain _ _ _,λb hb=>absurd rfl hb,hA.drop (zq1n HLE.out HN.out)⟩
 by_cases h2:(NN:Int)<=x
 . rw[if_pos (.inr h2)]at hA;apply YSys.seq0 (t':=#[sv,.int .i64 who,op.val,.pointer (some ⟨vb,0,none⟩),x4,x5,.pointer (some ⟨b6,0,none⟩),.pointer (some ⟨b7,0,none⟩),.pointer (some ⟨b6,1,none⟩),.int .i64 x,.bool false,.bool false,.pointer (some ⟨b6,1,none⟩),.int .i64 x,.slice (some ⟨pb,0,none⟩) NN Cp,.int .i64 NN,.bool true,.bool true,x18,x19,x20,x21,x22,x23,x24,x25,x26]) hA (by kernel_rfl)
   . intro wc hB;have k6:=hB.own.box b6 _ H6.out;have c60:wc.cell? ⟨b6,0,none⟩=some (.int .i64 op.k):=(zq1 k6).trans rfl;have c61:wc.cell? ⟨b6,1,none⟩=some (.int .i64 op.a):=(zq1 k6).trans rfl;have c62:wc.cell? ⟨b6,2,none⟩=some (.int .i64 op.b):=(zq1 k6).trans rfl;have c63:wc.cell? ⟨b6,3,none⟩=some (.int .i64 op.c):=(zq1 k6).trans rfl;rw[HX.out.1]at c61;clear k6;have cv:wc.cell? ⟨vb,0,none⟩=some (.slice (some ⟨pb,0,none⟩) T.N Cp):=(zq1 (hB.own.rod vb _ HR.out.1)).trans rfl;rw[HX.out.2]at cv;clear hA hN c60 c62 c63;have h3:(0:Int)<=x:=by omega
     go_wp2;exact⟨rfl,Ext1.refl _,rfl⟩
   intro w hA;refine zqt (Z.sys I).jc rfl ?_;rw[if_pos rfl];refine YSys.seqX (λt B'=>∃(y4 y5 y8 y9 y10 y11 y12 y13 y14 y15 y16 y17 y18 y19 y20 y21 y22 y23 y24 y25 y26:Value),t=#[sv,.int .i64 who,op.val,.pointer (some ⟨vb,0,none⟩),y4,y5,.pointer (some ⟨b6,0,none⟩),.pointer (some ⟨b7,0,none⟩),y8,y9,y10,y11,y12,y13,y14,y15,y16,y17,y18,y19,y20,y21,y22,y23,y24,y25,y26]/\B'=upB Bq b7 (.cells #[.bool false,.int .i64 0,.slice none 0 0] 49)) hA (by kernel_rfl) ?_ ?_
   . intro wc hB X0 hX0;have HX0:=Lib.hid hX0;clear hX0;have k7:=hB.own.box b7 _ H7.out;have c70:wc.cell? ⟨b7,0,none⟩=some (.bool false):=(zq1 k7).trans rfl;have c71:wc.cell? ⟨b7,1,none⟩=some (.int .i64 0):=(zq1 k7).trans rfl;have c72:wc.cell? ⟨b7,2,none⟩=some (.slice none 0 0):=(zq1 k7).trans rfl;have f70:wc.frozen? ⟨b7,0,none⟩=false:=zqd k7;have f71:wc.frozen? ⟨b7,1,none⟩=false:=zqd k7;have f72:wc.frozen? ⟨b7,2,none⟩=false:=zqd k7;clear k7;have hm:=OMoved.set3 (o1:=0) (o2:=1) (o3:=2) hB.own H7.out (.bool false) (.int .i64 0) (.slice none 0 0);have HM:=Lib.hid hm;clear hm;go_wp2;exact⟨rfl,HX0.out _ _ _ HM.out ⟨_,_,_,_,_,_,_,_,_,_,_,_,_,_,_,_,_,_,_,_,_,rfl,rfl⟩⟩
   rintro _ _ w ⟨y4,y5,y8,y9,y10,y11,y12,y13,y14,y15,y16,y17,y18,y19,y20,y21,y22,y23,y24,y25,y26,rfl,rfl⟩ hA;refine zq16 (Z.sys I).jc ?_;refine YSys.left hA (v:=.agg #[.bool false,.int .i64 0,.slice none 0 0]) (λwc hB=>results_cell_row rfl _ wc b7 49 _ _ _ rfl (hB.own.box b7 _ (upB_same _ _ _)) rfl rfl rfl) λw hA=>?_;exact⟨Ans.none,λ_=>none,AnsV.plain _ _ _,λb hb=>absurd rfl hb,hA.drop (zq1n HLE.out HN.out)⟩
 rw[if_neg (λh=>h.elim h1 h2)]at hA;have h3:x<(NN:Int):=by omega
 have h4:(0:Int)<=x:=by omega
 have h5:¬x>=(NN:Int):=by omega
 apply YSys.seq0 (t':=#[sv,.int .i64 who,op.val,.pointer (some ⟨vb,0,none⟩),x4,x5,.pointer (some ⟨b6,0,none⟩),.pointer (some ⟨b7,0,none⟩),.pointer (some ⟨b6,1,none⟩),.int .i64 x,.bool false,.bool false,.pointer (some ⟨b6,1,none⟩),.int .i64 x,.slice (some ⟨pb,0,none⟩) NN Cp,.int .i64 NN,.bool false,.bool false,x18,x19,x20,x21,x22,x23,x24,x25,x26]) hA (by kernel_rfl)
 . intro wc hB;have k6:=hB.own.box b6 _ H6.out;have c60:wc.cell? ⟨b6,0,none⟩=some (.int .i64 op.k):=(zq1 k6).trans rfl;have c61:wc.cell? ⟨b6,1,none⟩=some (.int .i64 op.a):=(zq1 k6).trans rfl;have c62:wc.cell? ⟨b6,2,none⟩=some (.int .i64 op.b):=(zq1 k6).trans rfl;have c63:wc.cell? ⟨b6,3,none⟩=some (.int .i64 op.c):=(zq1 k6).trans rfl;rw[HX.out.1]at c61;clear k6;have cv:wc.cell? ⟨vb,0,none⟩=some (.slice (some ⟨pb,0,none⟩) T.N Cp):=(zq1 (hB.own.rod vb _ HR.out.1)).trans rfl;rw[HX.out.2]at cv;clear hA hN c60 c62 c63 h2;go_wp2;exact⟨rfl,Ext1.refl _,rfl⟩
 intro w hA;refine zqt (Z.sys I).jc rfl (zq1b (Z.sys I).jc ?_);show wpJ (Z.sys I).J _ _ _ _ _;refine zqf (Z.sys I).jc ?_;obtain⟨c,rfl⟩:∃c:Nat,x=c:=⟨x.toNat,by omega⟩;have hcN:c<T.N:=by have:=HX.out.2;omega
 have hac:op.a.toNat=c:=by have:=HX.out.1;omega
 refine Z.region (by kernel_rfl) 7 [.slice (some ⟨pb,0,none⟩) NN Cp,.pointer (some ⟨b6,1,none⟩),.int .i64 c,.pointer (some ⟨pb,c,none⟩),.pointer (some ⟨T.ob c,0,none⟩),sv,op.val] hA rfl (by kernel_rfl) (by kernel_rfl) (by kernel_rfl) (by kernel_rfl) (by decide) (by kernel_rfl) ?_ ?_
 . intro wc hB j o v Tm hj hvj hdep hout;have hj7:j<7:=by have:=(List.getElem?_eq_some_iff.1 hvj).1;simpa using this
   have t0:Tm[0]?=some sv:=hout 0 (by intro q hq;rcases(by omega:q=0\/q=1\/q=2\/q=3\/q=4\/q=5\/q=6)with rfl |rfl |rfl |rfl |rfl |rfl |rfl<;>decide);have t3:Tm[3]?=some (.pointer (some ⟨vb,0,none⟩)):=hout 3 (by intro q hq;rcases(by omega:q=0\/q=1\/q=2\/q=3\/q=4\/q=5\/q=6)with rfl |rfl |rfl |rfl |rfl |rfl |rfl<;>decide);have t6:Tm[6]?=some (.pointer (some ⟨b6,0,none⟩)):=hout 6 (by intro q hq;rcases(by omega:q=0\/q=1\/q=2\/q=3\/q=4\/q=5\/q=6)with rfl |rfl |rfl |rfl |rfl |rfl |rfl<;>decide);have k6:=hB.own.box b6 _ H6.out;have c60:wc.cell? ⟨b6,0,none⟩=some (.int .i64 op.k):=(zq1 k6).trans rfl;have c61:wc.cell? ⟨b6,1,none⟩=some (.int .i64 op.a):=(zq1 k6).trans rfl;have c62:wc.cell? ⟨b6,2,none⟩=some (.int .i64 op.b):=(zq1 k6).trans rfl;have c63:wc.cell? ⟨b6,3,none⟩=some (.int .i64 op.c):=(zq1 k6).trans rfl;rw[HX.out.1]at c61;clear k6;have cv:wc.cell? ⟨vb,0,none⟩=some (.slice (some ⟨pb,0,none⟩) T.N Cp):=(zq1 (hB.own.rod vb _ HR.out.1)).trans rfl;rw[HX.out.2]at cv;have cp:wc.cell? ⟨pb,c,none⟩=some (.pointer (some ⟨T.ob c,0,none⟩)):=(zq1 (hB.own.rod pb _ HR.out.2.1)).trans (HR.out.2.2 c hcN);clear hout hA;rcases(by omega:j=0\/j=1\/j=2\/j=3\/j=4\/j=5\/j=6)with rfl |rfl |rfl |rfl |rfl |rfl |rfl
   all_goals simp only[al_gl,al_g0,al_g1,al_oi]at hj hvj
   all_goals subst hj hvj
   . simp[go_sem,execOp,Act.eval,resolve,t3,cv]
   . simp[go_sem,execOp,Act.eval,resolve,t6]
   . have d:=hdep _ (by simp;rfl) (by decide) 20 _ rfl rfl;simp[go_sem,execOp,Act.eval,resolve,d,c61]
   . have d:=hdep _ (by simp;exact .inl rfl) (by decide) 19 _ rfl rfl;have d2:=hdep _ (by simp;exact .inr rfl) (by decide) 21 _ rfl rfl;simp[go_sem,execOp,Act.eval,resolve,d,d2,h3,h4]
   . have d:=hdep _ (by simp;rfl) (by decide) 22 _ rfl rfl;simp[go_sem,execOp,Act.eval,resolve,d,cp]
   . simp[go_sem,execOp,Act.eval,resolve,t0]
   . simp[go_sem,execOp,Act.eval,resolve,t6,c60,c61,c62,c63,OpX.val];exact HX.out.1.symm
 . intro w hA;simp only[putv,dstOf,al_gl,al_g0,al_g1,al_ob,al_g2,List.set_cons_succ,List.set_cons_zero];rw[Int.toNat_natCast]at hA;change opsJ (Z.sys I).J _ [7,8] _ _ _ _;refine YSys.callO ((do_spec (Z.sys I) HS.out hcN op) K s Bq w HKK.out hA) rfl rfl rfl ?_ ?_ ?_
   . intro w;simp[go_sem,execOp,Act.eval,resolve,Deferred.ofValue,invoke,callFunc,Try.func64,Try.f64]
   . intro w;simp[go_sem,execOp,Act.eval,resolve,Deferred.ofValue,invoke,callFunc,Try.func64,Try.f64]
   clear hA;intro s e' w hp;cases e' with
   |outgrown=>exact hp
   |panicked ch=>exact⟨rfl,hp⟩
   |returned v=>
   obtain⟨a,X,⟨sl,rfl,hsl⟩,hXB,hA⟩:=hp;have hX7:X b7=none:=Classical.byContradiction λh=>by
    have:=hXB b7 h;rw[H7.out]at this;cases this
   have h7':orB X Bq b7=some (.cells #[.bool false,.int .i64 0,.slice none 0 0] 49):=by simp[orB,hX7,H7.out]
   obtain⟨sa,sn,sc,hsl'⟩:∃sa sn sc,sl=.slice sa sn sc:=by rcases hsl.2 with⟨h,_⟩|⟨_,_,_,h,_⟩<;>exact⟨_,_,_,h⟩
   subst hsl';have HQ:=Lib.hid (And.intro hsl (And.intro hXB hX7));clear hsl hXB hX7;have H7:=Lib.hid h7';clear h7';refine YSys.opsX 8 1 (λt B'=>∃(y4 y5 y8 y9 y10 y11 y12 y13 y14 y15 y16 y17 y18 y19 y20 y21 y22 y23 y24 y25 y26:Value),t=#[sv,.int .i64 who,op.val,.pointer (some ⟨vb,0,none⟩),y4,y5,.pointer (some ⟨b6,0,none⟩),.pointer (some ⟨b7,0,none⟩),y8,y9,y10,y11,y12,y13,y14,y15,y16,y17,y18,y19,y20,y21,y22,y23,y24,y25,y26]/\B'=upB (orB X Bq) b7 (.cells #[.bool a.ok,.int .i64 a.n,.slice sa sn sc] 49)) hA rfl rfl (by kernel_rfl) ?_ ?_
   . intro wc hB X0 hX0;have HX0:=Lib.hid hX0;clear hX0;have k7:=hB.own.box b7 _ H7.out;have c70:wc.cell? ⟨b7,0,none⟩=some (.bool false):=(zq1 k7).trans rfl;have c71:wc.cell? ⟨b7,1,none⟩=some (.int .i64 0):=(zq1 k7).trans rfl;have c72:wc.cell? ⟨b7,2,none⟩=some (.slice none 0 0):=(zq1 k7).trans rfl;have f70:wc.frozen? ⟨b7,0,none⟩=false:=zqd k7;have f71:wc.frozen? ⟨b7,1,none⟩=false:=zqd k7;have f72:wc.frozen? ⟨b7,2,none⟩=false:=zqd k7;clear k7;have hm:=OMoved.set3 (o1:=0) (o2:=1) (o3:=2) hB.own H7.out (.bool a.ok) (.int .i64 a.n) (.slice sa sn sc);have HM:=Lib.hid hm;clear hm hA;go_wp2;exact⟨rfl,HX0.out _ _ _ HM.out ⟨_,_,_,_,_,_,_,_,_,_,_,_,_,_,_,_,_,_,_,_,_,rfl,rfl⟩⟩
   clear hA;rintro _ _ w ⟨y4,y5,y8,y9,y10,y11,y12,y13,y14,y15,y16,y17,y18,y19,y20,y21,y22,y23,y24,y25,y26,rfl,rfl⟩ hA;refine zq16 (Z.sys I).jc ?_;refine YSys.left hA (v:=.agg #[.bool a.ok,.int .i64 a.n,.slice sa sn sc]) (λwc hB=>results_cell_row rfl _ wc b7 49 _ _ _ rfl (hB.own.box b7 _ (upB_same _ _ _)) rfl rfl rfl) λw hA=>?_;refine⟨a,X,⟨_,rfl,HQ.out.1⟩,λb hb=>?_,hA.drop λb o hb=>?_⟩
   . cases ho:B b with
     |none=>rfl
     |some o=>have:=HQ.out.2.1 b hb;rw[HLE.out b o ho]at this;cases this
   . have hne:b≠b7:=λe=>by subst e;simp[orB,HQ.out.2.2,HN.out]at hb
     rw[zq1x _ _ hne];unfold orB at hb |-;cases hx:X b with
     |none=>rw[hx]at hb;exact HLE.out b o hb
     |some y=>rw[hx]at hb;exact hb
end
theorem zq7j(n:Nat)(st:Nat)(w:World):(Go.method (n+1) 141 (.pointer (some ⟨st,0,none⟩)) "Step").run Try.prog w=.ok (130,.pointer (some ⟨st,0,none⟩)) w:=by kernel_rfl
theorem zq7k(n:Nat)(st:Nat)(w:World)(es:Array Event):(Go.method (n+1) 141 (.pointer (some ⟨st,0,none⟩)) "Step").events Try.prog w es=es:=by kernel_rfl
section
variable {Ml S β:Type} {C:Core Ml S} {ro:Nat->Option Obj} {i:Nat}
theorem zqgx(Y:YSys Try.prog aM C ro i β){st:Nat}(h:StepY Y 130 #[.pointer (some ⟨st,0,none⟩)]):StepY Y 48 #[.iface 141 (.pointer (some ⟨st,0,none⟩))]:=by
 intro K s m w hA;refine BodyY.calls ⟨_,_,Try.func48,rfl,?_⟩;simp only[zql,Try.ntmps48,List.size_toArray,List.length_cons,List.length_nil,Nat.reduceAdd,Nat.reduceSub,Array.replicate_succ,Array.replicate_zero,List.push_toArray,List.append_toArray,List.nil_append,List.cons_append];have hA:Y.AtB (m.box i) s w (Proc.tick.bind K):=⟨m,rfl,hA⟩;obtain⟨B,hB0⟩:∃B,m.box i=B:=⟨_,rfl⟩;rw[hB0]at hA |-;clear hB0;apply YSys.seq0 hA (by kernel_rfl)
 . intro wc hB;go_wp2;exact⟨rfl,Ext1.refl _,rfl⟩
 intro w hA;refine zqt Y.jc rfl ?_;rw[if_pos rfl];refine zqs Y.jc ?_;apply YSys.callS 0 1 0 hA h rfl rfl rfl (by rfl) rfl rfl rfl
 . intro wc hB X hX;have HX:=Lib.hid hX;clear hX;go_wp2;exact HX.out _ (Ext1.refl _)
 . intro w;simp[go_sem,execOp,Act.eval,resolve,Deferred.ofValue,invoke,callFunc,zq7j,zq7k,Try.func130,Try.f130]
 . intro w;simp[go_sem,execOp,Act.eval,resolve,Deferred.ofValue,invoke,callFunc,zq7j,zq7k,Try.func130,Try.f130]
 . intro s' ch w' h;exact⟨rfl,h⟩
 intro s w hA;refine zq12 Y.jc ?_;exact⟨rfl,.inl ⟨_,resultsC_none rfl _,(),hA.choose,rfl,hA.choose_spec⟩⟩
end
section
variable {M2 S2 β:Type} {D:Core M2 S2} {ro:Nat->Option Obj} {i:Nat} {T:NumT}
theorem zqcx(Z:Alone Try.prog aM (zq8 (zqw T) D) ro i β){I:Nums×S2->Prop}(hI:∀g g' s,I (g,s)->I (g',s))(hO:∀g g' s,Z.Oth (g,s) (g',s))(hl:∀c,c<T.N->T.len c=3){sv:Value}(hs:StepY (Z.sys I) 48 #[sv]):zq4r (Z.sys I) sv where
 base:=⟨hl,zq7o Z hI hO,hs⟩
 maker hc _ _ _ _ h3 h5:=zqcn Z ⟨hl,zq7o Z hI hO,hs⟩ hc h3 h5
end
theorem zqbd{T:NumT}{N ab vb pb Cp:Nat}{ps:Array Value}(hN:T.N<=64)(hl:∀c,c<T.N->T.len c=3)(ro:Nat->Option Obj)(hv:ro vb=some (.cells #[.slice (some ⟨pb,0,none⟩) T.N Cp] 108))(hp:ro pb=some (.cells ps 35))(hps:∀c,c<T.N->ps[c]?=some (.pointer (some ⟨T.ob c,0,none⟩)))
 (pr:Nat->Proc (Nums×(Nat->List Ans)) Unit) (st:Nat) (cr:Frame) (rest:List Frame) (EN:List PanicEntry->Prop) (i:Nat) (o:List Ans) (op:OpX):
 SpecR (zq2r zq2b rowsM (zq8 (zqw T) (zqq tT ab N)) ownA ro pr 130 (.pointer (some ⟨st,0,none⟩)) cr rest NEnd EN i o) 63 (#[]++#[.iface 141 (.pointer (some ⟨st,0,none⟩)),.int .i64 i,op.val]++#[.pointer (some ⟨vb,0,none⟩)]) (doerP T.N op) (AnsV 2):=
 zqbc _ (I:=λs=>ownA i s=o) (zqcx _ (λg g' s h=>h) (λg g' s j _=>rfl) hl (zqgx _ (thr_step zq2b rowsM o))) hv hp hps hN (i:Int) op
section
variable {S2:Type}
theorem tickN_deep{k:Nat}:(Proc.tick:Proc (Nums×S2) Unit).Deep k:=(Proc.Deep.ret _).then
theorem zq23{α:Type}{k:Nat}(f:Nums->Nums×α):(onN f:Proc (Nums×S2) α).Deep k:=Proc.Deep.act _
theorem zq4y(k c:Nat):(getP c:Proc (Nums×S2) (Int×Bool)).Deep k:=by
 unfold getP;refine(tickN_deep.bind λ_=>zq23 _).bind λx=>?_;split
 . exact(tickN_deep.bind λ_=>zq23 _).bind λ_=>Proc.Deep.ret _
 . exact Proc.Deep.ret _
theorem zq6w(k c:Nat)(v:Int):(finP c v:Proc (Nums×S2) Unit).Deep k:=(tickN_deep.bind λ_=>zq23 _).bind λ_=>tickN_deep.bind λ_=>zq23 _
theorem zqe2(k c:Nat)(v:Int):(setP c v:Proc (Nums×S2) (Int×Bool)).Deep k:=by
 unfold setP;refine(tickN_deep.bind λ_=>zq23 _).bind λx=>?_;split
 . exact(zq6w _ _ _).bind λ_=>Proc.Deep.ret _
 . exact(zq4y _ _).bind λ_=>Proc.Deep.ret _
theorem zq57(k c:Nat){mk:Proc (Nums×S2) (Int×Bool)}(hm:mk.Deep k):∀n,(makeL c mk n:Proc (Nums×S2) (Int×Int)).Deep k
 |0=>Proc.Deep.ret _
 |n+1=>by
  unfold makeL;refine(zq4y _ _).bind λx=>?_;split
  . exact Proc.Deep.ret _
  . refine(tickN_deep.bind λ_=>zq23 _).bind λb=>?_;split
    . refine(tickN_deep.bind λ_=>zq23 _).bind λ_=>hm.bind λv=>?_;split
      . exact(zq6w _ _ _).bind λ_=>Proc.Deep.ret _
      . exact(tickN_deep.bind λ_=>zq23 _).bind λ_=>Proc.Deep.ret _
    . exact zq57 k c hm n
theorem zqcw(k c:Nat)(op:OpX):(onceP c op:Proc (Nums×S2) Ans).Deep k:=by
 unfold onceP
 repeat' split
 . exact(zq4y _ _).bind λ_=>Proc.Deep.ret _
 . exact(zqe2 _ _ _).bind λ_=>Proc.Deep.ret _
 . exact(zq57 _ _ (tickN_deep.bind λ_=>zq23 _) _).bind λ_=>Proc.Deep.ret _
 . exact(zq57 _ _ (Proc.Deep.ret _) _).bind λ_=>Proc.Deep.ret _
 . exact Proc.Deep.ret _
theorem zqba(k N:Nat)(op:OpX):(doerP N op:Proc (Nums×S2) Ans).Deep k:=by
 unfold doerP;split
 . exact Proc.Deep.ret _
 . exact zqcw _ _ _
end
theorem zq7s(w:World):Calls Try.prog 13 #[] w λe w'=>e=.returned (.pointer (some ⟨w.heap.size,0,none⟩))/\w'=w.alloc (.cells #[.int .i64 0,.int .i64 0,.int .i64 0] 43):=by
 go_enter Try.func13,Try.ntmps13
 go_wp2;go_ret;exact⟨rfl,rfl⟩
theorem zqd5{w:World}{b:Nat}{s v c:Int}(h0:w.cell? ⟨b,0,none⟩=some (.int .i64 s))(h1:w.cell? ⟨b,1,none⟩=some (.int .i64 v))(h2:w.cell? ⟨b,2,none⟩=some (.int .i64 c)):
 Calls Try.prog 15 #[.pointer (some ⟨b,0,none⟩)] w λe w'=>e=.returned (.tuple #[.int .i64 s,.int .i64 v,.int .i64 c])/\∃n,w'=w.drewN n:=by
 have key:∀(j:Nat)(x:Int),w.cell? ⟨b,j,none⟩=some (.int .i64 x)->∀W:World,(∀a,W.cell? a=w.cell? a)->Calls Try.prog 47 #[.pointer (some ⟨b,j,none⟩)] W λe w'=>e=.returned (.int .i64 x)/\∃n,w'=W.drewN n:=λj x h W hW=>Calls.mono (zq56 _ x W ((hW _).trans h)) (by rintro e w' ⟨rfl,rfl⟩;exact⟨rfl,0,rfl⟩);have L0:=Lib.hid (key 0 s h0);have L1:=Lib.hid (key 1 v h1);have L2:=Lib.hid (key 2 c h2);clear key h0 h1 h2
 go_enter Try.func15,Try.ntmps15
 go_wp2_with (fail)
 go_quiet (first|(go_at_call 47;exact Calls.quiet_of (L0.out _ (λa=>rfl)))|(go_at_call 47;exact Calls.quiet_of (L1.out _ (λa=>rfl)))|(go_at_call 47;exact Calls.quiet_of (L2.out _ (λa=>rfl))))
 go_wp2;refine bodyPost_ret (v:=.tuple #[.int .i64 s,.int .i64 v,.int .i64 c]) ?_ rfl ⟨rfl,_,rfl⟩;simp only[results,Try.f15];simp[go_sem]
end Go.Proofs
namespace Go.Car
open Go Go.Conc Go.RowKit
theorem hao(w:World)(o:Obj)(b:Nat)(h:b<w.heap.size):(w.alloc o).heap[b]?=w.heap[b]?:=by first|exact heap_alloc_old w o b h|exact heap_alloc_old w o h
structure Wr(X:Nat->Prop)(w w':World):Prop where
 size:w.heap.size<=w'.heap.size
 shp:∀(b:Nat)(c:Array Value)(T:TypeId),w.heap[b]?=some (.cells c T)->∃c',w'.heap[b]?=some (.cells c' T)/\c'.size=c.size
 old:∀b,b<w.heap.size->¬X b->w'.heap[b]?=w.heap[b]?
section
variable {X:Nat->Prop} {w w' w'':World}
theorem Wr.refl (X:Nat->Prop)(w:World):Wr X w w:=⟨Nat.le_refl _,λb c T h=>⟨c,h,rfl⟩,λ_ _ _=>rfl⟩
end
section
variable {P:Program}
theorem app_wr(w:World)(t ty e:TypeId)(i:TypeInfo)(z:Value)(size bytes:Nat)(ht:P.underlying t=some (.slice e))(hi:P.info? e=some i)(hz:i.zero=some z)(hsize:i.size=size)(hby:i.bytes=bytes)(hzs:z.cells.size=size)(hsz:0<size)
 {v:Value} {n:Nat} {xs:List Value} {B:Nat} (hown:w.ownsRow B e size v n xs) (hB:B<=w.heap.size) (pa:Option Addr) (m c:Nat) (news:List Value) (hl:news.length=m*size) (hnews:0<m->∃a,pa=some a/\∀j u,news[j]?=some u->w.cell? (a.add j)=some u) (h1:∀u∈news,u.oneCell'=true)
 (h63:n+m<=maxLen) (hbytes:(n+m)*bytes<=140737488355328):
 ∃v' w',(Builtin.append_ #[t,t] ty #[v,.slice pa m c]).run P w=.ok v' w'/\w'.ownsRow B e size v' (n+m) (xs++news)/\Wr (λb=>v.ownBlock=some b) w w'/\(v'.ownBlock=v.ownBlock\/v'.ownBlock=some w.heap.size)/\
  (∀g o,v.ownBlock=some g->o<n*size->w'.cell? ⟨g,o,none⟩=w.cell? ⟨g,o,none⟩)/\(m=0->w'=w/\v'=v):=by
 subst hsize;subst hby
 have hsmall:n+m<=9223372036854775807:=by simp only[maxLen]at h63;omega
 by_cases hm:m=0
 . subst hm;have hn:news=[]:=List.eq_nil_of_length_eq_zero (by simpa using hl);subst hn;refine⟨v,w,?_,by simpa using hown,Wr.refl _ _,.inl rfl,λ_ _ _ _=>rfl,λ_=>⟨rfl,rfl⟩⟩;rcases hown.2 with⟨rfl,rfl⟩|⟨g,cap,cur,rfl,hbg,hg,hnc,hcm,hcs,htake⟩
   . cases pa<;>simp[Builtin.append_,run_underlying ht,sizeOf,typeInfo,hi,Builtin.lenOf,Builtin.firstCells,loadCells,loadCellsFrom,storeCells]
   . cases pa<;>simp[Builtin.append_,run_underlying ht,sizeOf,typeInfo,hi,Builtin.lenOf,Builtin.firstCells,loadCells,loadCellsFrom,storeCells,hnc]
 . obtain⟨a,rfl,hnw⟩:=hnews (Nat.pos_of_ne_zero hm);clear hnews;rcases hown.2 with⟨rfl,rfl⟩|⟨g,cap,cur,rfl,hbg,hg,hnc,hcm,hcs,htake⟩
   . obtain⟨g,cap,w',hr,h2,h3,h4,_⟩:=run_append_lies (P:=P) w t ty B e i z i.size i.bytes ht hi hz rfl rfl hzs hsz _ 0 xs hown a m c news hl hnw h1 (Nat.pos_of_ne_zero hm) h63 hbytes hB _ rfl;have same:∀b,b<w.heap.size->w'.heap[b]?=w.heap[b]?:=λb hb=>h3.block b hb (by simp[Value.ownBlock]);refine⟨_,_,hr,h2,⟨h3.size,λb c T hb=>⟨c,(same b (zqe hb)).trans hb,rfl⟩,λb hb _=>same b hb⟩,?_,λg o h=>(by simp[Value.ownBlock]at h),λh=>absurd h hm⟩;rcases h4 with h|h
     . simp[Value.ownBlock]at h
     . exact .inr (by simp[Value.ownBlock,h])
   . have hlen:(xs++news).length=(n+m)*i.size:=by rw[List.length_append,hown.1,hl,Nat.add_mul]
     by_cases hroom:n+m<=cap
     . have hfit:n*i.size+news.length<=cur.size:=by rw[hl,hcs,<-Nat.add_mul];exact Nat.mul_le_mul_right _ hroom
       have hr:=run_append_room (P:=P) w t ty e i ht hi g n cap cur hg a m c news hl hnw h1 hroom hfit;have hsz2:(cur.toList.take (n*i.size)++news++cur.toList.drop (n*i.size+news.length)).toArray.size=cur.size:=by
        simp only[List.size_toArray,List.length_append,List.length_take,List.length_drop,Array.length_toList];omega
       have hh:=setRow_heap w g cur (cur.toList.take (n*i.size)++news++cur.toList.drop (n*i.size+news.length)).toArray e (0,0) hg;refine⟨_,_,hr,⟨hlen,.inr ⟨g,cap,_,rfl,hbg,hh,hroom,hcm,by rw[hsz2,hcs],?_⟩⟩,⟨by simp,λb c T hb=>?_,λb _ hx=>setRow_other w g b _ (λe=>hx (by simp[Value.ownBlock,e]))⟩,.inl rfl,λg2 o h ho=>?_,λh=>absurd h hm⟩
       . rw[htake,<-hlen];exact List.take_left
       . by_cases e2:b=g
         . subst e2;have:=hg.symm.trans hb;simp only[al_oi,Obj.cells.injEq]at this;obtain⟨rfl,rfl,-⟩:=this;exact⟨_,hh,hsz2⟩
         . exact⟨c,(setRow_other w g b _ e2).trans hb,rfl⟩
       . simp only[Value.ownBlock,al_oi]at h;subst h;rw[zq1 hg];rw[zq1 hh,al_gl,List.append_assoc,List.getElem?_append_left (by rw[List.length_take,Array.length_toList];omega),List.getElem?_take,if_pos ho,Array.getElem?_toList]
     . have holds:∀j u,xs[j]?=some u->w.cell? ((⟨g,0,none⟩:Addr).add j)=some u:=hown.cells (g:=g) rfl;have hr:=run_append_grow (P:=P) w t ty e i z ht hi hz ⟨g,0,none⟩ n cap xs hown.1 holds a m c news hl hnw (by omega) (by omega) (growslice_fits (by omega) hbytes);have hge:=grownCap_ge w (n+m) cap e;have hcm':grownCap w (n+m) cap e<=maxLen:=grownCap_le_maxLen w (n+m) cap e h63;refine⟨_,_,hr,⟨hlen,.inr ⟨w.heap.size,_,_,rfl,hB,heap_alloc_new w.drew _,hge,hcm',?_,?_⟩⟩,⟨by simp,λb c T hb=>⟨c,(hao w.drew _ b (zqe hb)).trans hb,rfl⟩,λb hb _=>hao w.drew _ b hb⟩,.inr rfl,λg2 o h _=>?_,λh=>absurd h hm⟩
       . simp only[Array.size_append,List.size_toArray,size_zeroCells,hzs,hown.1,hl,<-Nat.add_mul];congr 1;omega
       . simp only[Array.toList_append,List.append_assoc];rw[<-List.append_assoc,<-hlen];exact List.take_left
       . simp only[Value.ownBlock,al_oi]at h;subst h;exact zq17 (hao w.drew _ g (zqe hg))
theorem zqjg{ops:Array Oper}{rest:List Oper}{o:Oper}{a:Act}{Q:Exit->Act->World->Prop}{w w':World}{v:Value}(hgd:o.guard=none)(s x:Operand)(t:TypeId)
 (ho:o.op=.call {callee:=.builtin .append,args:=#[s,x],argTypes:=#[t,t]}) (hr:(Builtin.append_ #[t,t] o.type #[a.eval s,a.eval x]).run P w=.ok v w') (h:wpList P ops Q rest (a.put o.dst v) w'):wpList P ops Q (o::rest) a w:=
 wpList_plain hgd λ_ hK=>by
  unfold Oper.wp execOp;simp only[ho,resolve,invoke,builtin,Sem.run_bind,Sem.run_pure,Result.andThen_ok,List.map_toArray,List.map_cons,List.map_nil,hr];exact hK _ _ h
end
end Go.Car
namespace Go.Proofs
open Go Go.Conc Go.RowKit Go.Car
structure NumsI(w0:World)(l:List Int)(v:Value)(w:World):Prop where
 be:Beyond w0 w
 row:w.ownsRow w0.heap.size 2 1 v l.length (l.map (Value.int .i64))
theorem zqcs{w0 w:World}{l:List Int}{v:Value}(h:NumsI w0 l v w)(hl:l.length<=1048576)(a b c:Int):
 ∃p C w2,(Builtin.append_ #[27,27] 27 #[v,.slice (some ⟨w.heap.size,0,none⟩) 3 3]).run Try.prog (w.alloc (.cells #[.int .i64 a,.int .i64 b,.int .i64 c] 2))=.ok (.slice p (l.length+3) C) w2/\NumsI w0 (l++[a,b,c]) (.slice p (l.length+3) C) w2:=by
 obtain⟨ti,hti,hz,hz1,hz2⟩:∃ti,Try.prog.info? 2=some ti/\ti.zero=some (.int .i64 0)/\ti.size=1/\ti.bytes=8:=⟨_,rfl,rfl,rfl,rfl⟩;have hr:(w.alloc (.cells #[.int .i64 a,.int .i64 b,.int .i64 c] 2)).ownsRow w0.heap.size 2 1 v l.length (l.map (Value.int .i64)):=zq3o h.row _;have hs:=zqg w (.cells #[.int .i64 a,.int .i64 b,.int .i64 c] 2);have hb0:=h.be.1;obtain⟨v',w',hrun,ho,hw,hat,hkeep,_⟩:=app_wr (P:=Try.prog) (w.alloc (.cells #[.int .i64 a,.int .i64 b,.int .i64 c] 2)) 27 27 2 ti (.int .i64 0) 1 8 (by kernel_rfl) hti hz hz1 hz2 rfl (by decide) hr (by omega) (some ⟨w.heap.size,0,none⟩) 3 3 [.int .i64 a,.int .i64 b,.int .i64 c] rfl (λ_=>⟨_,rfl,λj u hj=>news_new (T:=2) rfl j u (by simpa using hj)⟩) (by simp[Value.oneCell']) (by simp only[maxLen];omega) (by omega);obtain⟨p,C,rfl,-,-⟩:=zq4g ho;refine⟨p,C,w',hrun,⟨by have:=hw.size;omega,λx hx=>?_⟩,by rw[List.length_append,List.map_append];exact ho⟩;exact(hw.old x (by omega) λhv=>by have:=(own_lt h.row hv).2.1;omega).trans (((Beyond.alloc w _).2 x (by omega)).trans (h.be.2 x hx))
def numL(g:Nums)(n:Nat):List Int:=(List.range n).flatMap λc=>[g c 0,g c 1,g c 2]
theorem zq7n(g:Nums)(n:Nat):numL g (n+1)=numL g n++[g n 0,g n 1,g n 2]:=by
 unfold numL;rw[List.range_succ,List.flatMap_append];simp
theorem zq58(g:Nums):∀n,(numL g n).length=3*n
 |0=>rfl
 |n+1=>by rw[zq7n,List.length_append,zq58 g n];simp;omega
theorem zqe5{w:World}{T:NumT}{g:Nums}(hR:NumRep T g w)(hlen:∀c,c<T.N->T.len c=3)(hN:T.N<=64){pb Cp:Nat}{ps:Array Value}(hp:w.heap[pb]?=some (.cells ps 35))(hps:∀c,c<T.N->ps[c]?=some (.pointer (some ⟨T.ob c,0,none⟩))):
 Calls Try.prog 36 #[.slice (some ⟨pb,0,none⟩) T.N Cp] w λe w'=>∃v,e=.returned v/\NumsI w (numL g T.N) v w':=by
 obtain⟨N,hNN⟩:∃N,T.N=N:=⟨_,rfl⟩;have HR:=Lib.hid (And.intro hR (And.intro hlen (And.intro hN (And.intro hp (And.intro hps hNN)))));rw[hNN];clear hR hlen hN hp hps hNN
 go_enter Try.func36,Try.ntmps36
 go_wp2_with (fail)
 go_loopg [3,11] N (λk s3 s11 wr=>∃(j:Nat)(p:Option Addr)(C:Nat),k=N - j/\j<=N/\s11=.int .i64 j/\s3=.slice p (3*j) C/\NumsI w (numL g j) (.slice p (3*j) C) wr)
 case atStart=>exact⟨0,none,0,rfl,Nat.zero_le _,rfl,rfl,Beyond.refl _,World.ownsRow_nil _ _ _ _⟩
 case round=>
  obtain⟨j,p,C,hk,hj,rfl,rfl,hI⟩:=hrel;have HI:=Lib.hid hI
  by_cases hlt:j<N
  . have hlt':(j:Int)<(N:Int):=by omega
    have hj0:(0:Int)<=j:=by omega
    have hj64:(j:Int)<64:=by have:=HR.out.2.2.1;have:=HR.out.2.2.2.2.2;omega
    have hjT:j<T.N:=by have:=HR.out.2.2.2.2.2;omega
    have cp:wr.cell? ⟨pb,j,none⟩=some (.pointer (some ⟨T.ob j,0,none⟩)):=hI.be.cell ((zq1 HR.out.2.2.2.1).trans (HR.out.2.2.2.2.1 j hjT));have hl3:=HR.out.2.1 j hjT;have HC:=Lib.hid (zqd5 (hI.be.cell (HR.out.1.cell hjT (j:=0) (by omega))) (hI.be.cell (HR.out.1.cell hjT (j:=1) (by omega))) (hI.be.cell (HR.out.1.cell hjT (j:=2) (by omega))));clear hl3 hI
    go_wp2_with (fail)
    refine Calls.mono HC.out ?_;rintro e w' ⟨rfl,n,rfl⟩;have hI2:NumsI w (numL g j) (.slice p (3*j) C) (wr.drewN n):=⟨HI.out.be.trans ⟨Nat.le_refl _,λ_ _=>rfl⟩,zq24 HI.out.row λ_ _=>rfl⟩;clear cp;generalize wr.drewN n=w5 at hI2 |-;obtain⟨p2,C2,w2,r,hI3⟩:=zqcs (w0:=w) (w:=w5) (l:=numL g j) hI2 (by rw[zq58];have:=HR.out.2.2.1;omega) (g j 0) (g j 1) (g j 2);rw[zq58]at r hI3;rw[<-zq7n]at hI3;have H3:=Lib.hid hI3;clear hI2 hI3
    go_wp2_with (at_builtin;go_loud (refine zqjg rfl (.tmp 21) (.tmp 25) 27 rfl r ?_))
    go_roundg (N - (j+1))
    case measure=>omega
    case rel=>exact⟨j+1,p2,C2,rfl,by omega,(by first|rfl |(congr 1;unfold wrap64;omega)),by rw[show 3*(j+1)=3*j+3 by omega],by rw[show 3*(j+1)=3*j+3 by omega];exact H3.out⟩
  . obtain rfl:N=j:=by omega
    clear hk hj hlt;go_wp2;go_ret;exact⟨_,rfl,HI.out⟩
def onceN(cells:Int):Nat:=(min (max cells 1) 64).toNat
theorem zq7r(c:Int):0<onceN c/\onceN c<=64:=by unfold onceN;omega
def zq2a(ob:Nat->Nat)(j:Nat):List Value:=(List.range j).map λc=>.pointer (some ⟨ob c,0,none⟩)
structure zq36(w0:World)(vb j:Nat)(ob:Nat->Nat)(v:Value)(w:World):Prop where
 be:Beyond w0 w
 vbk:w.heap[vb]?=some (.cells #[v] 108)
 row:w.ownsRow w0.heap.size 35 1 v j (zq2a ob j)
 blk:∀c,c<j->w.heap[ob c]?=some (.cells #[.int .i64 0,.int .i64 0,.int .i64 0] 43)
 lo:∀c,c<j->w0.heap.size<=ob c
 inj:∀c d,c<j->d<j->ob c=ob d->c=d
 vlo:w0.heap.size<=vb
theorem zqcy{w0 wr W w2:World}{vb j q g cap C:Nat}{p:Option Addr}{ob:Nat->Nat}(h:zq36 w0 vb j ob (.slice p j C) wr)(hq:wr.heap.size=q)
 (hW:W.heap=((wr.alloc (.cells #[.int .i64 0,.int .i64 0,.int .i64 0] 43)).alloc (.cells #[.pointer (some ⟨q,0,none⟩)] 35)).heap)
 (hrow:w2.ownsRow w0.heap.size 35 1 (.slice (some ⟨g,0,none⟩) (j+1) cap) (j+1) (zq2a ob j++[.pointer (some ⟨q,0,none⟩)])) (hgr:W.grownBy w2 (Value.slice p j C).ownBlock):
 zq36 w0 vb (j+1) (upd' ob j q) (.slice (some ⟨g,0,none⟩) (j+1) cap) (w2.setCell ⟨vb,0,none⟩ (.slice (some ⟨g,0,none⟩) (j+1) cap)):=by
 have a0:∀b o,wr.heap[b]?=some o->W.heap[b]?=some o:=λb o hb=>by rw[hW];exact zqk (zqk hb)
 have aq:W.heap[q]?=some (.cells #[.int .i64 0,.int .i64 0,.int .i64 0] 43):=by rw[hW,<-hq];exact zqk (zq13 _ _)
 have hsz:W.heap.size=q+2:=by rw[hW,zqg,zqg,hq]
 have keep:∀b o,W.heap[b]?=some o->(Value.slice p j C).ownBlock≠some b->w2.heap[b]?=some o:=λb o hb hn=>(hgr.block b (zqr hb) (λe=>hn e.symm)).trans hb;have set1:∀b o,w2.heap[b]?=some o->b≠vb->(w2.setCell ⟨vb,0,none⟩ (.slice (some ⟨g,0,none⟩) (j+1) cap)).heap[b]?=some o:=λb o hb hn=>(zqn _ _ _ _ hn).trans hb;have hv2:w2.heap[vb]?=some (.cells #[.slice p j C] 108):=keep _ _ (a0 _ _ h.vbk) (zq3g h.row h.vbk (by decide));have hb0:=h.be.1;refine⟨⟨?_,λb hb=>?_⟩,?_,?_,λc hc=>?_,λc hc=>?_,λc d hc hd e=>?_,h.vlo⟩
 . rw[zq11];have:=hgr.size;omega
 . rw[zqn _ _ _ _ (show b≠vb by have:=h.vlo;omega)];refine(hgr.block b (by omega) (λe=>?_)).trans ?_
   . have:=(own_lt h.row e.symm).2.1;omega
   . rw[hW,zqc,if_neg (by rw[zqg];omega),zqc,if_neg (by omega)];exact h.be.2 b hb
 . exact zqv _ _ _ _ hv2
 . have e:zq2a (upd' ob j q) (j+1)=zq2a ob j++[.pointer (some ⟨q,0,none⟩)]:=by
    unfold zq2a;rw[List.range_succ,List.map_append];congr 1
    . refine List.map_congr_left λc hc=>?_;rw[zq18 _ _ (by have:=List.mem_range.1 hc;omega)]
    . simp
   rw[e];exact zq24 hrow λg' hg'=>zqn _ _ _ _ λe2=>zq3g hrow hv2 (by decide) (by rw[hg',show g'=vb from e2])
 . by_cases e:c=j
   . subst e;rw[upd'_same];refine set1 _ _ (keep _ _ aq λe=>?_) λe=>?_
     . have:=(own_lt h.row e).2.2;omega
     . have:=zqr h.vbk;omega
   . rw[zq18 _ _ e];have hb:=h.blk c (by omega);exact set1 _ _ (keep _ _ (a0 _ _ hb) (zq3g h.row hb (by decide))) λe2=>by rw[e2]at hb;exact absurd (zq51 hb h.vbk) (by decide)
 . by_cases e:c=j
   . subst e;rw[upd'_same];omega
   . rw[zq18 _ _ e];exact h.lo c (by omega)
 . by_cases e1:c=j
   . by_cases e2:d=j
     . omega
     . subst e1;rw[upd'_same,zq18 _ _ e2]at e;have:=zqr (h.blk d (by omega));omega
   . by_cases e2:d=j
     . subst e2;rw[upd'_same,zq18 _ _ e1]at e;have:=zqr (h.blk c (by omega));omega
     . rw[zq18 _ _ e1,zq18 _ _ e2]at e;exact h.inj c d (by omega) (by omega) e
structure NewOnces(w:World)(T:NumT)(vb pb Cp:Nat)(ps:Array Value)(w':World):Prop where
 be:Beyond w w'
 rep:NumRep T (λ_ _=>0) w'
 len:∀c,c<T.N->T.len c=3
 lo:∀c,c<T.N->w.heap.size<=T.ob c
 vlo:w.heap.size<=vb
 plo:w.heap.size<=pb
 vbk:w'.heap[vb]?=some (.cells #[.slice (some ⟨pb,0,none⟩) T.N Cp] 108)
 pbk:w'.heap[pb]?=some (.cells ps 35)
 ps':∀c,c<T.N->ps[c]?=some (.pointer (some ⟨T.ob c,0,none⟩))
 sep:∀c,c<T.N->vb≠T.ob c/\pb≠T.ob c
theorem NewOnces.re {w w':World}{T:NumT}{vb pb Cp:Nat}{ps:Array Value}(h:NewOnces w T vb pb Cp ps w')(τ:Nat->Question->Nat)(d:Nat):NewOnces w T vb pb Cp ps (Go.Car.re w' τ d):=⟨h.be,⟨h.rep.blk,h.rep.inj⟩,h.len,h.lo,h.vlo,h.plo,h.vbk,h.pbk,h.ps',h.sep⟩
theorem NewOnces.of_re {w w':World}{T:NumT}{vb pb Cp:Nat}{ps:Array Value}{τ:Nat->Question->Nat}{d:Nat}(h:NewOnces (Go.Car.re w τ d) T vb pb Cp ps w'):NewOnces w T vb pb Cp ps w':=⟨h.be,h.rep,h.len,h.lo,h.vlo,h.plo,h.vbk,h.pbk,h.ps',h.sep⟩
theorem zqd0{w w':World}{vb j:Nat}{ob:Nat->Nat}{v:Value}(h:zq36 w vb j ob v w')(hj:0<j):∃pb Cp ps,v=.slice (some ⟨pb,0,none⟩) j Cp/\NewOnces w ⟨j,ob,λ_=>3,λ_=>43⟩ vb pb Cp ps w':=by
 rcases h.row.2 with⟨_,h0⟩|⟨g,cap,cur,rfl,hb,hg,h1,h2,h3,h4⟩
 . omega
 refine⟨g,cap,cur,rfl,h.be,⟨λc hc=>?_,h.inj⟩,λ_ _=>rfl,h.lo,h.vlo,hb,h.vbk,hg,λc hc=>?_,λc hc=>⟨?_,?_⟩⟩
 . exact h.blk c hc
 . have hc':c<j:=hc;have:(cur.toList.take (j*1))[c]?=some (Value.pointer (some ⟨ob c,0,none⟩)):=by
    rw[h4];unfold zq2a;simp[hc']
   rw[List.getElem?_take,if_pos (by omega)]at this;simpa using this
 . exact zq3b h.vbk (h.blk c hc) (by decide)
 . exact zq3b hg (h.blk c hc) (by decide)
theorem zqbb(cells:Int)(w:World):Calls Try.prog 34 #[.int .i64 cells] w λe w'=>∃T vb pb Cp ps,T.N=onceN cells/\NewOnces w T vb pb Cp ps w'/\e=.returned (.tuple #[.slice (some ⟨pb,0,none⟩) T.N Cp,.func (.func 63) #[] #[.pointer (some ⟨vb,0,none⟩)]]):=by
 obtain⟨H,hH⟩:∃H,w.heap.size=H:=⟨_,rfl⟩;obtain⟨N,hNN⟩:∃N,onceN cells=N:=⟨_,rfl⟩;have hN:0<N/\N<=64:=hNN▸zq7r cells;rw[hNN];obtain⟨m,hM⟩:∃m:Int,(if cells<1 then 1 else cells)=m:=⟨_,rfl⟩;have hNi:(if(64:Int)<m then 64 else m)=(N:Int):=by
  rw[<-hM];unfold onceN at hNN;split<;>split<;>omega
 have HH:=Lib.hid (And.intro hH hNN);have HN:=Lib.hid hN;have hI0:zq36 w H 0 (λ_=>0) (.slice none 0 0) (w.alloc (.cells #[.slice none 0 0] 108)):=
  ⟨Beyond.alloc _ _,by rw[<-hH];exact zq13 _ _,World.ownsRow_nil _ _ _ _,λc hc=>absurd hc (Nat.not_lt_zero _),λc hc=>absurd hc (Nat.not_lt_zero _),λc d hc=>absurd hc (Nat.not_lt_zero _),by omega⟩
 have HI0:=Lib.hid hI0;clear hNN hN hI0
 go_enter Try.func34,Try.ntmps34
 go_wp2_with (fail)
 clear hM hNi hH
 go_loopg [8] N (λk s8 wr=>∃(j:Nat)(p:Option Addr)(C:Nat)(ob:Nat->Nat),k=N - j/\j<=N/\s8=.int .i64 j/\zq36 w H j ob (.slice p j C) wr)
 case atStart=>exact⟨0,none,0,_,rfl,Nat.zero_le _,rfl,HI0.out⟩
 case round=>
  obtain⟨j,p,C,ob,hk,hj,rfl,hI⟩:=hrel;have HI:=Lib.hid hI
  by_cases hlt:j<N
  . have hlt':(j:Int)<(N:Int):=by omega
    have hj0:(0:Int)<=j:=by omega
    have hj64:(j:Int)<64:=by have:=HN.out;omega
    have c4:=(zq1 (off:=0) hI.vbk).trans rfl;have f4:=zqd (off:=0) hI.vbk;have c4a:∀o1:Obj,(wr.alloc o1).cell? ⟨H,0,none⟩=some (.slice p j C):=λo1=>(zq1 (zqk (o:=o1) hI.vbk)).trans rfl;have c4b:∀o1 o2:Obj,((wr.alloc o1).alloc o2).cell? ⟨H,0,none⟩=some (.slice p j C):=λo1 o2=>(zq1 (zqk (o:=o2) (zqk (o:=o1) hI.vbk))).trans rfl;obtain⟨q,hq⟩:∃q,wr.heap.size=q:=⟨_,rfl⟩;have HQ:=Lib.hid hq;have hsz0:w.heap.size<=wr.heap.size:=hI.be.1;have HRW:∀o1 o2:Obj,((wr.alloc o1).alloc o2).ownsRow w.heap.size 35 1 (.slice p j C) j (zq2a ob j):=λo1 o2=>zq3o (zq3o hI.row _) _;have HRX:=Lib.hid (And.intro HRW hsz0);have ON:=Lib.hid zq7s;have hvk:∀(o1 o2:Obj)w2,(((wr.alloc o1).alloc o2).drew).grownBy w2 (Value.slice p j C).ownBlock->w2.heap[H]?=some (.cells #[.slice p j C] 108):=λo1 o2 w2 hg=>by
     have h1:=zqk (o:=o2) (zqk (o:=o1) hI.vbk);exact(hg.block H (zqr h1) (λe=>zq3g hI.row hI.vbk (by decide) e.symm)).trans h1
    have HVK:=Lib.hid hvk;clear hI HRW hsz0 hvk
    go_wp2_with (fail)
    have HKJ:=Lib.hid (And.intro hk hj64);clear hlt' hj0 hj64 hk hj;obtain⟨ti,hti,hz,hz1,hz2⟩:∃ti,Try.prog.info? 35=some ti/\ti.zero=some (.pointer none)/\ti.size=1/\ti.bytes=8:=⟨_,rfl,rfl,rfl,rfl⟩;have HT:=Lib.hid (And.intro hti (And.intro hz (And.intro hz1 hz2)));clear hti hz hz1 hz2;have hund:Try.prog.underlying 108=some (.slice 35):=by kernel_rfl
    have HU:=Lib.hid hund;clear hund;have hnw:∀o1:Obj,∀jj u,[Value.pointer (some ⟨q,0,none⟩)][jj]?=some u->((wr.alloc o1).alloc (.cells #[.pointer (some ⟨q,0,none⟩)] 35)).drew.cell? ((⟨q+1,0,none⟩:Addr).add jj)=some u:=λo1 jj u hj=>zq5a (w:=wr.alloc o1) (T:=35) (B:=q+1) (by rw[zqg,HQ.out]) jj u hj;have HNW:=Lib.hid hnw;clear hnw
    go_region_law (first
     |(go_simp;go_at_call 13;refine Calls.mono (ON.out _) ?_;rintro e w' ⟨rfl,rfl⟩)
     |(refine step_append_lies _ rfl (.tmp 10) (.tmp 12) 108 rfl w.heap.size 35 ti (.pointer none) 1 8 HU.out HT.out.1 HT.out.2.1 HT.out.2.2.1 HT.out.2.2.2 rfl Nat.one_pos (.slice p j C) j (zq2a ob j) rfl (HRX.out.1 _ _) ⟨q+1,0,none⟩ 1 1 [.pointer (some ⟨q,0,none⟩)] rfl rfl (HNW.out _) ?_ Nat.one_pos ?_ ?_ ?_ (q+2) ?_ ?_
       . intro u hu;rw[List.mem_singleton.1 hu];rfl
       . have:=HN.out;simp only[maxLen];omega
       . have:=HN.out;omega
       . have:=HRX.out.2;have:=HQ.out;show _<=((wr.alloc _).alloc _).heap.size;rw[zqg,zqg];omega
       . show((wr.alloc _).alloc _).heap.size=_;rw[zqg,zqg,HQ.out]
       intro g cap w2 k1 k2 k3 k4;have HK:=Lib.hid (And.intro k1 k2);have cS:=(zq1 (off:=0) (HVK.out _ _ _ k2)).trans rfl;have fS:=zqd (off:=0) (HVK.out _ _ _ k2);clear k1 k2 k3 k4))
    all_goals(
     go_wp2_with (fail)
     go_roundg (N - (j+1))
     case measure=>have:=HKJ.out.1;omega
     case rel=>have hj64:=HKJ.out.2;exact⟨j+1,_,_,upd' ob j q,rfl,by omega,(by first|rfl |(congr 1;unfold wrap64;omega)),zqcy HI.out HQ.out (by rfl) HK.out.1 HK.out.2⟩)
  . obtain rfl:N=j:=by omega
    clear hk hj hlt;obtain⟨pb,Cp,ps,e,hnew⟩:=zqd0 hI (by have:=HN.out;omega);have c4:=(zq1 (off:=0) hI.vbk).trans rfl;rw[e]at c4;have HW:=Lib.hid (And.intro hnew e);clear hI hnew e;go_wp2;refine bodyPost_ret (v:=.tuple #[.slice (some ⟨pb,0,none⟩) N Cp,.func (.func 63) #[] #[.pointer (some ⟨H,0,none⟩)]]) ?_ rfl ⟨_,_,_,_,_,rfl,HW.out.1,rfl⟩;simp only[results,Try.f34];simp[go_sem]
end Go.Proofs
