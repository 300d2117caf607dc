/- YtkdlklpffdlglaaOAlone10: part 10 of the proof (the texts behind it, in order). -/
import Derived.Test.YtkdlklpffdlglaaR09
set_option maxHeartbeats 4000000
set_option maxRecDepth 100000
set_option linter.all false
namespace Go
theorem zx7 {p : Prop} (h : p := by intro wc hB X0 hX0;have HX0:=Lib.hid hX0;clear hX0;have k6:=hB.own.box b6 _ H6.out;have c60:wc.cell? ⟨b6,0,none⟩=some (.bool false):=(zq0 k6).trans rfl;have c61:wc.cell? ⟨b6,1,none⟩=some (.int .i64 0):=(zq0 k6).trans rfl;have c62:wc.cell? ⟨b6,2,none⟩=some (.slice none 0 0):=(zq0 k6).trans rfl;have f60:wc.frozen? ⟨b6,0,none⟩=false:=zq3 k6;have f61:wc.frozen? ⟨b6,1,none⟩=false:=zq3 k6;have f62:wc.frozen? ⟨b6,2,none⟩=false:=zq3 k6;have hm:=OMoved.set3 (o1:=0) (o2:=1) (o3:=2) hB.own H6.out (.bool (madeA x.1 x.2).ok) (.int .i64 (madeA x.1 x.2).n) (.slice none 0 0);have HM:=Lib.hid hm;clear hm k6;go_wp2;exact⟨rfl,HX0.out _ _ _ HM.out ⟨_,_,_,_,_,_,_,_,_,_,_,_,_,_,_,_,_,_,_,_,_,_,_,_,_,_,_,_,_,_,_,_,_,_,_,_,_,_,_,_,_,_,_,_,_,_,_,_,_,_,_,_,_,_,_,_,_,_,rfl,rfl⟩⟩) : p := h
theorem zx9 {p : Prop} (h : p := by intro wc hB X0 hX0;have HX0:=Lib.hid hX0;clear hX0;have k6:=hB.own.box b6 _ H6.out;have c60:wc.cell? ⟨b6,0,none⟩=some (.bool false):=(zq0 k6).trans rfl;have c61:wc.cell? ⟨b6,1,none⟩=some (.int .i64 0):=(zq0 k6).trans rfl;have c62:wc.cell? ⟨b6,2,none⟩=some (.slice none 0 0):=(zq0 k6).trans rfl;have f60:wc.frozen? ⟨b6,0,none⟩=false:=zq3 k6;have f61:wc.frozen? ⟨b6,1,none⟩=false:=zq3 k6;have f62:wc.frozen? ⟨b6,2,none⟩=false:=zq3 k6;have hm:=OMoved.set3 (o1:=0) (o2:=1) (o3:=2) hB.own H6.out (.bool x.2) (.int .i64 x.1) (.slice none 0 0);have HM:=Lib.hid hm;clear hm k6;go_wp2;exact⟨rfl,HX0.out _ _ _ HM.out ⟨_,_,_,_,_,_,_,_,_,_,_,_,_,_,_,_,_,_,_,_,_,_,_,_,_,_,_,_,_,_,_,_,_,_,_,_,_,_,_,_,_,_,_,_,_,_,_,_,_,_,_,_,_,_,_,_,_,_,rfl,rfl⟩⟩) : p := h
theorem zxc {p : Prop} (h : p := by intro wc hB X0 hX0;have HX0:=Lib.hid hX0;clear hX0;have k7:=hB.own.box b7 _ H7.out;have c70:wc.cell? ⟨b7,0,none⟩=some (.bool false):=(zq0 k7).trans rfl;have c71:wc.cell? ⟨b7,1,none⟩=some (.int .i64 0):=(zq0 k7).trans rfl;have c72:wc.cell? ⟨b7,2,none⟩=some (.slice none 0 0):=(zq0 k7).trans rfl;have f70:wc.frozen? ⟨b7,0,none⟩=false:=zq3 k7;have f71:wc.frozen? ⟨b7,1,none⟩=false:=zq3 k7;have f72:wc.frozen? ⟨b7,2,none⟩=false:=zq3 k7;clear k7;have hm:=OMoved.set3 (o1:=0) (o2:=1) (o3:=2) hB.own H7.out (.bool false) (.int .i64 0) (.slice none 0 0);have HM:=Lib.hid hm;clear hm;go_wp2;exact⟨rfl,HX0.out _ _ _ HM.out ⟨_,_,_,_,_,_,_,_,_,_,_,_,_,_,_,_,_,_,_,_,_,rfl,rfl⟩⟩) : p := h
theorem zxu {p : Prop} (h : p := by intro wc hB X hX;have HX:=Lib.hid hX;clear hX;have c30:wc.cell? ⟨b3,0,none⟩=some (.pointer (some ⟨T.ob c,0,none⟩)):=(zq0 (hB.own.box b3 _ H3.out)).trans rfl;go_wp2;exact HX.out _ (Ext1.refl _)) : p := h
theorem zxz {p : Prop} (h : p := by intro w;simp[go_sem,execOp,Act.eval,resolve,Deferred.ofValue,invoke,callFunc,zq5m,zq5n,Try.func124,Try.f124]) : p := h
theorem zx16 {p : Prop} (h : p := by intro w;simp[go_sem,execOp,Act.eval,resolve,Deferred.ofValue,invoke,callFunc,Try.func27,Try.f27]) : p := h
theorem zx17 {p : Prop} (h : p := by intro w;simp[go_sem,execOp,Act.eval,resolve,Deferred.ofValue,invoke,callFunc,Try.func81,Try.f81]) : p := h
theorem zx2d {p : Prop} (h : p := by intro w;simp[go_sem,execOp,Act.eval,resolve,Deferred.ofValue,invoke,callFunc,zq90,zq91,Try.func130,Try.f130]) : p := h
theorem zx2l {p : Prop} (h : p := by intro w;simp[go_sem,execOp,Act.eval,resolve,Deferred.ofValue,invoke,callFunc,Try.func26,Try.f26]) : p := h
theorem zx2m {p : Prop} (h : p := by intro w;simp[go_sem,execOp,Act.eval,resolve,Deferred.ofValue,invoke,callFunc,Try.func64,Try.f64]) : p := h
theorem zx37 {p : Prop} (h : p := by intro q hq;rcases(by omega:q=0\/q=1\/q=2\/q=3\/q=4\/q=5\/q=6)with rfl |rfl |rfl |rfl |rfl |rfl |rfl<;>decide) : p := h
end Go
set_option maxHeartbeats 16000000
namespace Go.Proofs
open Go Go.Conc Go.RowKit Go.Car
def zq1a(c:Int):Int:=min (max c 0) 1024
def onceP{S2:Type}(c:Nat)(op:OpX):Proc (Nums×S2) Ans:=
 if op.k=1 then(getP c).bind λx=>Proc.ret ⟨x.2,x.1,[]⟩
 else if op.k=2 then(setP c op.b).bind λx=>Proc.ret ⟨x.2,x.1,[]⟩
 else if op.k=3 then(makeL c (mkP c op) (triesN (zq1a op.c))).bind λx=>Proc.ret (madeA x.1 x.2)
 else if op.k=4 then(makeL c (Proc.ret (0,false)) (triesN (zq1a op.c))).bind λx=>Proc.ret (madeA x.1 x.2)
 else Proc.ret Ans.none
theorem zq8w(v e:Int){ti:TypeId}:AnsV ti (madeA v e) (.agg #[.bool (madeA v e).ok,.int .i64 (madeA v e).n,.slice none 0 0]) (λ_=>none):=by
 unfold madeA;split<;>exact AnsV.plain _ _ _
section
variable {M2 S2 β:Type} {D:Core M2 S2} {ro:Nat->Option Obj} {i:Nat} {T:NumT}
structure zq48(Y:YSys Try.prog aM (zqc (zqg T) D) ro i β)(sv:Value):Prop where
 base:OnceAtoms Y sv
 maker:∀{c:Nat}(hc:c<T.N){B:Nat->Option Obj}{b3 b5:Nat}{op:OpX},B b3=some (.cells #[.pointer (some ⟨T.ob c,0,none⟩)] 35)->B b5=some (.cells op.cells.toArray 34)->SpecAt Y B 82 (#[]++#[sv]++#[.pointer (some ⟨b5,0,none⟩),.pointer (some ⟨b3,0,none⟩)]) (mkP c op) pairV
theorem zq8x(Y:YSys Try.prog aM (zqc (zqg T) D) ro i β)(v e:Int):PureY Y 81 #[.int .i64 v,.int .i64 e] (ansV (madeA v e)):=
 PureY.of Try.func81 rfl zyk λB wc hB=>zqex v e wc
theorem do_spec(Y:YSys Try.prog aM (zqc (zqg T) D) ro i β){sv:Value}(hst:zq48 Y sv){c:Nat}(hc:c<T.N)(op:OpX):
 SpecR Y 64 #[.pointer (some ⟨T.ob c,0,none⟩),sv,op.val] (onceP c op) (AnsV 2):=by
 refine SpecR.of Try.func64 rfl ?_;intro K s B w hK hA;simp only[zqe,Try.ntmps64,List.size_toArray,List.length_cons,List.length_nil,Nat.reduceAdd,Nat.reduceSub,Array.replicate_succ,Array.replicate_zero,List.push_toArray,List.append_toArray,List.nil_append,List.cons_append];have HKK:=Lib.hid hK;clear hK;refine zqh Y.jc (zqx Y.jc ?_);refine YSys.preX 0 1 2 (λt B'=>∃(b3:Nat)(x4 x5 x6 x7 x8 x9 x10 x11 x12 x13 x14 x15 x16 x17 x18 x19 x20 x21 x22 x23 x24 x25 x26 x27 x28 x29 x30 x31 x32 x33 x34 x35 x36 x37 x38 x39 x40 x41 x42 x43 x44 x45 x46 x47 x48 x49 x50 x51 x52 x53 x54 x55 x56 x57 x58 x59 x60 x61 x62 x63 x64:Value),t=#[.pointer (some ⟨T.ob c,0,none⟩),sv,op.val,.pointer (some ⟨b3,0,none⟩),x4,x5,x6,x7,x8,x9,x10,x11,x12,x13,x14,x15,x16,x17,x18,x19,x20,x21,x22,x23,x24,x25,x26,x27,x28,x29,x30,x31,x32,x33,x34,x35,x36,x37,x38,x39,x40,x41,x42,x43,x44,x45,x46,x47,x48,x49,x50,x51,x52,x53,x54,x55,x56,x57,x58,x59,x60,x61,x62,x63,x64]/\(B) b3=none/\B'=upB (B) b3 (.cells #[.pointer (some ⟨T.ob c,0,none⟩)] 35)) hA rfl rfl rfl rfl ?_ ?_
 . intro wc hB X0 hX0;have HX0:=Lib.hid hX0;clear hX0;have hm:=OMoved.push (o:=.cells #[.pointer (some ⟨T.ob c,0,none⟩)] 35) hB.own (Ext1.alloc wc (.cells #[.pointer (some ⟨T.ob c,0,none⟩)] 35)) (Nat.le_refl _) zx47;have hf:=hB.own.fresh (Nat.le_refl _);have HM:=Lib.hid (And.intro hm hf);clear hm hf;go_wp2;exact HX0.out _ _ _ HM.out.1 ⟨_,_,_,_,_,_,_,_,_,_,_,_,_,_,_,_,_,_,_,_,_,_,_,_,_,_,_,_,_,_,_,_,_,_,_,_,_,_,_,_,_,_,_,_,_,_,_,_,_,_,_,_,_,_,_,_,_,_,_,_,_,_,rfl,HM.out.2,rfl⟩
 clear hA;rintro _ _ w ⟨b3,x4,x5,x6,x7,x8,x9,x10,x11,x12,x13,x14,x15,x16,x17,x18,x19,x20,x21,x22,x23,x24,x25,x26,x27,x28,x29,x30,x31,x32,x33,x34,x35,x36,x37,x38,x39,x40,x41,x42,x43,x44,x45,x46,x47,x48,x49,x50,x51,x52,x53,x54,x55,x56,x57,x58,x59,x60,x61,x62,x63,x64,rfl,hb3,rfl⟩ hA;refine YSys.preX 1 1 1 (λt B'=>∃(b5:Nat)(x4 x6 x7 x8 x9 x10 x11 x12 x13 x14 x15 x16 x17 x18 x19 x20 x21 x22 x23 x24 x25 x26 x27 x28 x29 x30 x31 x32 x33 x34 x35 x36 x37 x38 x39 x40 x41 x42 x43 x44 x45 x46 x47 x48 x49 x50 x51 x52 x53 x54 x55 x56 x57 x58 x59 x60 x61 x62 x63 x64:Value),t=#[.pointer (some ⟨T.ob c,0,none⟩),sv,op.val,.pointer (some ⟨b3,0,none⟩),x4,.pointer (some ⟨b5,0,none⟩),x6,x7,x8,x9,x10,x11,x12,x13,x14,x15,x16,x17,x18,x19,x20,x21,x22,x23,x24,x25,x26,x27,x28,x29,x30,x31,x32,x33,x34,x35,x36,x37,x38,x39,x40,x41,x42,x43,x44,x45,x46,x47,x48,x49,x50,x51,x52,x53,x54,x55,x56,x57,x58,x59,x60,x61,x62,x63,x64]/\(upB B b3 (.cells #[.pointer (some ⟨T.ob c,0,none⟩)] 35)) b5=none/\B'=upB (upB B b3 (.cells #[.pointer (some ⟨T.ob c,0,none⟩)] 35)) b5 (.cells op.cells.toArray 34)) hA rfl rfl rfl rfl ?_ ?_
 . intro wc hB X0 hX0;have HX0:=Lib.hid hX0;clear hX0;have hm:=OMoved.push (o:=.cells op.cells.toArray 34) hB.own (Ext1.alloc wc (.cells op.cells.toArray 34)) (Nat.le_refl _) zx47;have hf:=hB.own.fresh (Nat.le_refl _);have HM:=Lib.hid (And.intro hm hf);clear hm hf;unfold OpX.val;go_wp2;exact HX0.out _ _ _ HM.out.1 ⟨_,_,_,_,_,_,_,_,_,_,_,_,_,_,_,_,_,_,_,_,_,_,_,_,_,_,_,_,_,_,_,_,_,_,_,_,_,_,_,_,_,_,_,_,_,_,_,_,_,_,_,_,_,_,_,_,_,_,_,_,_,rfl,HM.out.2,rfl⟩
 clear hA;rintro _ _ w ⟨b5,x4,x6,x7,x8,x9,x10,x11,x12,x13,x14,x15,x16,x17,x18,x19,x20,x21,x22,x23,x24,x25,x26,x27,x28,x29,x30,x31,x32,x33,x34,x35,x36,x37,x38,x39,x40,x41,x42,x43,x44,x45,x46,x47,x48,x49,x50,x51,x52,x53,x54,x55,x56,x57,x58,x59,x60,x61,x62,x63,x64,rfl,hb5,rfl⟩ hA;refine YSys.opsX 2 1 (λt B'=>∃(b6:Nat)(x4 x7 x8 x9 x10 x11 x12 x13 x14 x15 x16 x17 x18 x19 x20 x21 x22 x23 x24 x25 x26 x27 x28 x29 x30 x31 x32 x33 x34 x35 x36 x37 x38 x39 x40 x41 x42 x43 x44 x45 x46 x47 x48 x49 x50 x51 x52 x53 x54 x55 x56 x57 x58 x59 x60 x61 x62 x63 x64:Value),t=#[.pointer (some ⟨T.ob c,0,none⟩),sv,op.val,.pointer (some ⟨b3,0,none⟩),x4,.pointer (some ⟨b5,0,none⟩),.pointer (some ⟨b6,0,none⟩),x7,x8,x9,x10,x11,x12,x13,x14,x15,x16,x17,x18,x19,x20,x21,x22,x23,x24,x25,x26,x27,x28,x29,x30,x31,x32,x33,x34,x35,x36,x37,x38,x39,x40,x41,x42,x43,x44,x45,x46,x47,x48,x49,x50,x51,x52,x53,x54,x55,x56,x57,x58,x59,x60,x61,x62,x63,x64]/\(upB (upB B b3 (.cells #[.pointer (some ⟨T.ob c,0,none⟩)] 35)) b5 (.cells op.cells.toArray 34)) b6=none/\B'=upB (upB (upB B b3 (.cells #[.pointer (some ⟨T.ob c,0,none⟩)] 35)) b5 (.cells op.cells.toArray 34)) b6 (.cells #[.bool false,.int .i64 0,.slice none 0 0] 49)) hA rfl rfl zyk ?_ ?_
 . intro wc hB X0 hX0;have HX0:=Lib.hid hX0;clear hX0;have hm:=OMoved.push (o:=.cells #[.bool false,.int .i64 0,.slice none 0 0] 49) hB.own (Ext1.alloc wc (.cells #[.bool false,.int .i64 0,.slice none 0 0] 49)) (Nat.le_refl _) zx47;have hf:=hB.own.fresh (Nat.le_refl _);have HM:=Lib.hid (And.intro hm hf);clear hm hf;go_wp2;exact⟨rfl,HX0.out _ _ _ HM.out.1 ⟨_,_,_,_,_,_,_,_,_,_,_,_,_,_,_,_,_,_,_,_,_,_,_,_,_,_,_,_,_,_,_,_,_,_,_,_,_,_,_,_,_,_,_,_,_,_,_,_,_,_,_,_,_,_,_,_,_,_,_,_,rfl,HM.out.2,rfl⟩⟩
 clear hA;rintro _ _ w ⟨b6,x4,x7,x8,x9,x10,x11,x12,x13,x14,x15,x16,x17,x18,x19,x20,x21,x22,x23,x24,x25,x26,x27,x28,x29,x30,x31,x32,x33,x34,x35,x36,x37,x38,x39,x40,x41,x42,x43,x44,x45,x46,x47,x48,x49,x50,x51,x52,x53,x54,x55,x56,x57,x58,x59,x60,x61,x62,x63,x64,rfl,hb6,rfl⟩ hA;have h3:(upB (upB (upB B b3 (.cells #[.pointer (some ⟨T.ob c,0,none⟩)] 35)) b5 (.cells op.cells.toArray 34)) b6 (.cells #[.bool false,.int .i64 0,.slice none 0 0] 49)) b3=some (.cells #[.pointer (some ⟨T.ob c,0,none⟩)] 35):=zq39 (zq39 (upB_same _ _ _) (zq41 (upB_same _ _ _) hb5)) (zq41 (zq39 (upB_same _ _ _) (zq41 (upB_same _ _ _) hb5)) hb6);have h5:(upB (upB (upB B b3 (.cells #[.pointer (some ⟨T.ob c,0,none⟩)] 35)) b5 (.cells op.cells.toArray 34)) b6 (.cells #[.bool false,.int .i64 0,.slice none 0 0] 49)) b5=some (.cells op.cells.toArray 34):=zq39 (upB_same _ _ _) (zq41 (upB_same _ _ _) hb6);have h6:(upB (upB (upB B b3 (.cells #[.pointer (some ⟨T.ob c,0,none⟩)] 35)) b5 (.cells op.cells.toArray 34)) b6 (.cells #[.bool false,.int .i64 0,.slice none 0 0] 49)) b6=some (.cells #[.bool false,.int .i64 0,.slice none 0 0] 49):=upB_same _ _ _;have hB5:B b5=none:=Classical.byContradiction λh=>by
  cases ho:B b5 with
  |none=>exact h ho
  |some o=>rw[zq3p (o:=.cells #[.pointer (some ⟨T.ob c,0,none⟩)] 35) hb3 b5 o ho]at hb5;cases hb5
 have hB6:B b6=none:=Classical.byContradiction λh=>by
  cases ho:B b6 with
  |none=>exact h ho
  |some o=>rw[zq1z (o:=.cells op.cells.toArray 34) (zq3p (o:=.cells #[.pointer (some ⟨T.ob c,0,none⟩)] 35) hb3) hB5 b6 o ho]at hb6;cases hb6
 have hle:∀x y,B x=some y->(upB (upB (upB B b3 (.cells #[.pointer (some ⟨T.ob c,0,none⟩)] 35)) b5 (.cells op.cells.toArray 34)) b6 (.cells #[.bool false,.int .i64 0,.slice none 0 0] 49)) x=some y:=zq1z (zq1z (zq3p (o:=.cells #[.pointer (some ⟨T.ob c,0,none⟩)] 35) hb3) hB5) hB6;obtain⟨Bq,hBq⟩:∃X,upB (upB (upB B b3 (.cells #[.pointer (some ⟨T.ob c,0,none⟩)] 35)) b5 (.cells op.cells.toArray 34)) b6 (.cells #[.bool false,.int .i64 0,.slice none 0 0] 49)=X:=⟨_,rfl⟩;rw[hBq]at h3 h5 h6 hle hA;have H3:=Lib.hid h3;have H5:=Lib.hid h5;have H6:=Lib.hid h6;have HLE:=Lib.hid hle;have HN:=Lib.hid hB6;clear h3 h5 h6 hle hBq hb3 hb5 hb6 hB5 hB6;show wpJ Y.J _ _ _ _ _;refine YSys.seqX (λt B'=>∃(x4 x8 x9 x10 x11 x12 x13 x14 x15 x16 x17 x18 x19 x20 x21 x22 x23 x24 x25 x26 x27 x28 x29 x30 x31 x32 x33 x34 x35 x36 x37 x38 x39 x40 x41 x42 x43 x44 x45 x46 x47 x48 x49 x50 x51 x52 x53 x54 x55 x56 x57 x58 x59 x60 x61 x62 x63 x64:Value),t=#[.pointer (some ⟨T.ob c,0,none⟩),sv,op.val,.pointer (some ⟨b3,0,none⟩),x4,.pointer (some ⟨b5,0,none⟩),.pointer (some ⟨b6,0,none⟩),.int .i64 (zq1a op.c),x8,x9,x10,x11,x12,x13,x14,x15,x16,x17,x18,x19,x20,x21,x22,x23,x24,x25,x26,x27,x28,x29,x30,x31,x32,x33,x34,x35,x36,x37,x38,x39,x40,x41,x42,x43,x44,x45,x46,x47,x48,x49,x50,x51,x52,x53,x54,x55,x56,x57,x58,x59,x60,x61,x62,x63,x64]/\B'=Bq) hA zyk ?_ ?_
 . intro wc hB X0 hX0;have HX0:=Lib.hid hX0;clear hX0;have HOM:=Lib.hid (OMoved.ext hB.own (Ext1.refl wc));have c50:wc.cell? ⟨b5,0,none⟩=some (.int .i64 op.k):=(zq0 (hB.own.box b5 _ H5.out)).trans rfl;have c51:wc.cell? ⟨b5,1,none⟩=some (.int .i64 op.a):=(zq0 (hB.own.box b5 _ H5.out)).trans rfl;have c52:wc.cell? ⟨b5,2,none⟩=some (.int .i64 op.b):=(zq0 (hB.own.box b5 _ H5.out)).trans rfl;have c53:wc.cell? ⟨b5,3,none⟩=some (.int .i64 op.c):=(zq0 (hB.own.box b5 _ H5.out)).trans rfl;rcases(by omega:op.c<0\/(0<=op.c/\op.c<=1024)\/1024<op.c)with h|⟨h,h'⟩|h
   . have e:zq1a op.c=0:=by unfold zq1a;omega
     have h1:op.c<=0:=by omega
     have E:=Lib.hid e;clear e;go_wp2;exact⟨rfl,HX0.out _ _ _ HOM.out ⟨_,_,_,_,_,_,_,_,_,_,_,_,_,_,_,_,_,_,_,_,_,_,_,_,_,_,_,_,_,_,_,_,_,_,_,_,_,_,_,_,_,_,_,_,_,_,_,_,_,_,_,_,_,_,_,_,_,_,by rw[E.out],rfl⟩⟩
   . have e:zq1a op.c=op.c:=by unfold zq1a;omega
     have E:=Lib.hid e;clear e;go_wp2;exact⟨rfl,HX0.out _ _ _ HOM.out ⟨_,_,_,_,_,_,_,_,_,_,_,_,_,_,_,_,_,_,_,_,_,_,_,_,_,_,_,_,_,_,_,_,_,_,_,_,_,_,_,_,_,_,_,_,_,_,_,_,_,_,_,_,_,_,_,_,_,_,by rw[E.out],rfl⟩⟩
   . have e:zq1a op.c=1024:=by unfold zq1a;omega
     have h1:0<=op.c:=by omega
     have h2:¬op.c<=1024:=by omega
     have E:=Lib.hid e;clear e;go_wp2;exact⟨rfl,HX0.out _ _ _ HOM.out ⟨_,_,_,_,_,_,_,_,_,_,_,_,_,_,_,_,_,_,_,_,_,_,_,_,_,_,_,_,_,_,_,_,_,_,_,_,_,_,_,_,_,_,_,_,_,_,_,_,_,_,_,_,_,_,_,_,_,_,by rw[E.out],rfl⟩⟩
 rintro _ Bz w ⟨x4,x8,x9,x10,x11,x12,x13,x14,x15,x16,x17,x18,x19,x20,x21,x22,x23,x24,x25,x26,x27,x28,x29,x30,x31,x32,x33,x34,x35,x36,x37,x38,x39,x40,x41,x42,x43,x44,x45,x46,x47,x48,x49,x50,x51,x52,x53,x54,x55,x56,x57,x58,x59,x60,x61,x62,x63,x64,rfl,hBz⟩ hA;rw[hBz]at hA;clear hBz;apply YSys.seq0 hA zyk
 . exact zx3
 intro w hA;refine zqh Y.jc ?_;apply YSys.seq0 hA zyk
 . intro wc hB;have c50:wc.cell? ⟨b5,0,none⟩=some (.int .i64 op.k):=(zq0 (hB.own.box b5 _ H5.out)).trans rfl;have c51:wc.cell? ⟨b5,1,none⟩=some (.int .i64 op.a):=(zq0 (hB.own.box b5 _ H5.out)).trans rfl;have c52:wc.cell? ⟨b5,2,none⟩=some (.int .i64 op.b):=(zq0 (hB.own.box b5 _ H5.out)).trans rfl;have c53:wc.cell? ⟨b5,3,none⟩=some (.int .i64 op.c):=(zq0 (hB.own.box b5 _ H5.out)).trans rfl;go_wp2;exact⟨rfl,Ext1.refl _,rfl⟩
 intro w hA;refine zq46 Y.jc ?_;unfold onceP at hA;apply YSys.seq0 hA zyk
 . exact zx3
 intro w hA;refine zqz Y.jc rfl ?_
 by_cases hk1:op.k=1
 . rw[if_pos (by simp[hk1])];rw[if_pos hk1,Proc.bind_bind]at hA;clear hk1;refine zqh Y.jc (zqx Y.jc ?_);apply YSys.callR 0 2 5 hA (zq5d Y hst.base hc).spec (λx=>HKK.out _) rfl rfl rfl zx2p rfl rfl rfl
   . exact zxu
   . exact zxr
   . exact zxr
   . exact zxe
   intro s x w hA;apply YSys.ops0 3 5 hA rfl rfl zyk
   . exact zx3
   intro w hA;show wpJ Y.J _ _ _ _ _;refine YSys.seqX (λt B'=>∃(y4 y8 y9 y10 y11 y12 y13 y14 y15 y16 y17 y18 y19 y20 y21 y22 y23 y24 y25 y26 y27 y28 y29 y30 y31 y32 y33 y34 y35 y36 y37 y38 y39 y40 y41 y42 y43 y44 y45 y46 y47 y48 y49 y50 y51 y52 y53 y54 y55 y56 y57 y58 y59 y60 y61 y62 y63 y64:Value),t=#[.pointer (some ⟨T.ob c,0,none⟩),sv,op.val,.pointer (some ⟨b3,0,none⟩),y4,.pointer (some ⟨b5,0,none⟩),.pointer (some ⟨b6,0,none⟩),.int .i64 (zq1a op.c),y8,y9,y10,y11,y12,y13,y14,y15,y16,y17,y18,y19,y20,y21,y22,y23,y24,y25,y26,y27,y28,y29,y30,y31,y32,y33,y34,y35,y36,y37,y38,y39,y40,y41,y42,y43,y44,y45,y46,y47,y48,y49,y50,y51,y52,y53,y54,y55,y56,y57,y58,y59,y60,y61,y62,y63,y64]/\B'=upB Bq b6 (.cells #[.bool x.2,.int .i64 x.1,.slice none 0 0] 49)) hA zyk ?_ ?_
   . exact zx9
   rintro _ _ w ⟨y4,y8,y9,y10,y11,y12,y13,y14,y15,y16,y17,y18,y19,y20,y21,y22,y23,y24,y25,y26,y27,y28,y29,y30,y31,y32,y33,y34,y35,y36,y37,y38,y39,y40,y41,y42,y43,y44,y45,y46,y47,y48,y49,y50,y51,y52,y53,y54,y55,y56,y57,y58,y59,y60,y61,y62,y63,y64,rfl,rfl⟩ hA;refine zq1c Y.jc ?_;refine YSys.left hA (v:=.agg #[.bool x.2,.int .i64 x.1,.slice none 0 0]) (λwc hB=>results_cell_row rfl _ wc b6 49 _ _ _ rfl (hB.own.box b6 _ (upB_same _ _ _)) rfl rfl rfl) λw hA=>?_;exact⟨⟨x.2,x.1,[]⟩,λ_=>none,AnsV.plain _ _ _,λb hb=>absurd rfl hb,hA.drop (zq1z HLE.out HN.out)⟩
 rw[if_neg (by simp[hk1])];rw[if_neg hk1]at hA;clear hk1;apply YSys.seq0 hA zyk
 . exact zx3
 intro w hA;refine zqz Y.jc rfl ?_
 by_cases hk2:op.k=2
 . rw[if_pos (by simp[hk2])];rw[if_pos hk2,Proc.bind_bind]at hA;clear hk2;refine zqh Y.jc (zqx Y.jc ?_);apply YSys.callR 0 4 5 hA (zqa8 Y hst.base hc op.b).spec (λx=>HKK.out _) rfl rfl rfl zx2p rfl rfl rfl
   . intro wc hB X hX;have HX:=Lib.hid hX;clear hX;have c30:wc.cell? ⟨b3,0,none⟩=some (.pointer (some ⟨T.ob c,0,none⟩)):=(zq0 (hB.own.box b3 _ H3.out)).trans rfl;have c50:wc.cell? ⟨b5,0,none⟩=some (.int .i64 op.k):=(zq0 (hB.own.box b5 _ H5.out)).trans rfl;have c51:wc.cell? ⟨b5,1,none⟩=some (.int .i64 op.a):=(zq0 (hB.own.box b5 _ H5.out)).trans rfl;have c52:wc.cell? ⟨b5,2,none⟩=some (.int .i64 op.b):=(zq0 (hB.own.box b5 _ H5.out)).trans rfl;have c53:wc.cell? ⟨b5,3,none⟩=some (.int .i64 op.c):=(zq0 (hB.own.box b5 _ H5.out)).trans rfl;go_wp2;exact HX.out _ (Ext1.refl _)
   . exact zx2l
   . exact zx2l
   . exact zxe
   intro s x w hA;apply YSys.ops0 5 5 hA rfl rfl zyk
   . exact zx3
   intro w hA;show wpJ Y.J _ _ _ _ _;refine YSys.seqX (λt B'=>∃(y4 y8 y9 y10 y11 y12 y13 y14 y15 y16 y17 y18 y19 y20 y21 y22 y23 y24 y25 y26 y27 y28 y29 y30 y31 y32 y33 y34 y35 y36 y37 y38 y39 y40 y41 y42 y43 y44 y45 y46 y47 y48 y49 y50 y51 y52 y53 y54 y55 y56 y57 y58 y59 y60 y61 y62 y63 y64:Value),t=#[.pointer (some ⟨T.ob c,0,none⟩),sv,op.val,.pointer (some ⟨b3,0,none⟩),y4,.pointer (some ⟨b5,0,none⟩),.pointer (some ⟨b6,0,none⟩),.int .i64 (zq1a op.c),y8,y9,y10,y11,y12,y13,y14,y15,y16,y17,y18,y19,y20,y21,y22,y23,y24,y25,y26,y27,y28,y29,y30,y31,y32,y33,y34,y35,y36,y37,y38,y39,y40,y41,y42,y43,y44,y45,y46,y47,y48,y49,y50,y51,y52,y53,y54,y55,y56,y57,y58,y59,y60,y61,y62,y63,y64]/\B'=upB Bq b6 (.cells #[.bool x.2,.int .i64 x.1,.slice none 0 0] 49)) hA zyk ?_ ?_
   . exact zx9
   rintro _ _ w ⟨y4,y8,y9,y10,y11,y12,y13,y14,y15,y16,y17,y18,y19,y20,y21,y22,y23,y24,y25,y26,y27,y28,y29,y30,y31,y32,y33,y34,y35,y36,y37,y38,y39,y40,y41,y42,y43,y44,y45,y46,y47,y48,y49,y50,y51,y52,y53,y54,y55,y56,y57,y58,y59,y60,y61,y62,y63,y64,rfl,rfl⟩ hA;refine zq1c Y.jc ?_;refine YSys.left hA (v:=.agg #[.bool x.2,.int .i64 x.1,.slice none 0 0]) (λwc hB=>results_cell_row rfl _ wc b6 49 _ _ _ rfl (hB.own.box b6 _ (upB_same _ _ _)) rfl rfl rfl) λw hA=>?_;exact⟨⟨x.2,x.1,[]⟩,λ_=>none,AnsV.plain _ _ _,λb hb=>absurd rfl hb,hA.drop (zq1z HLE.out HN.out)⟩
 rw[if_neg (by simp[hk2])];rw[if_neg hk2]at hA;clear hk2;apply YSys.seq0 hA zyk
 . exact zx3
 intro w hA;refine zqz Y.jc rfl ?_
 by_cases hk3:op.k=3
 . rw[if_pos (by simp[hk3])];rw[if_pos hk3,Proc.bind_bind]at hA;clear hk3;refine zqh Y.jc (zqx Y.jc ?_);apply YSys.callB 0 5 4 hA (zq5i Y hst.base hc Try.func82 rfl rfl (first:=#[]) (caps:=#[.pointer (some ⟨b5,0,none⟩),.pointer (some ⟨b3,0,none⟩)]) (hst.maker hc H3.out H5.out) (λK hK=>by rw[mkP,Proc.bind_bind];exact Y.sil_tick _) (zq1a op.c)) (λx=>HKK.out _) rfl rfl rfl zx2p rfl rfl rfl
   . exact zxu
   . exact zx16
   . exact zx16
   . exact zxe
   intro s x w hA;apply YSys.callP 6 2 1 hA (zq8x Y x.1 x.2) rfl rfl rfl zx2p rfl rfl rfl
   . exact zx2
   . exact zx17
   . exact zx17
   intro w hA;refine YSys.opsX 9 1 (λt B'=>∃(y4 y8 y9 y10 y11 y12 y13 y14 y15 y16 y17 y18 y19 y20 y21 y22 y23 y24 y25 y26 y27 y28 y29 y30 y31 y32 y33 y34 y35 y36 y37 y38 y39 y40 y41 y42 y43 y44 y45 y46 y47 y48 y49 y50 y51 y52 y53 y54 y55 y56 y57 y58 y59 y60 y61 y62 y63 y64:Value),t=#[.pointer (some ⟨T.ob c,0,none⟩),sv,op.val,.pointer (some ⟨b3,0,none⟩),y4,.pointer (some ⟨b5,0,none⟩),.pointer (some ⟨b6,0,none⟩),.int .i64 (zq1a op.c),y8,y9,y10,y11,y12,y13,y14,y15,y16,y17,y18,y19,y20,y21,y22,y23,y24,y25,y26,y27,y28,y29,y30,y31,y32,y33,y34,y35,y36,y37,y38,y39,y40,y41,y42,y43,y44,y45,y46,y47,y48,y49,y50,y51,y52,y53,y54,y55,y56,y57,y58,y59,y60,y61,y62,y63,y64]/\B'=upB Bq b6 (.cells #[.bool (madeA x.1 x.2).ok,.int .i64 (madeA x.1 x.2).n,.slice none 0 0] 49)) hA rfl rfl zyk ?_ ?_
   . exact zx7
   rintro _ _ w ⟨y4,y8,y9,y10,y11,y12,y13,y14,y15,y16,y17,y18,y19,y20,y21,y22,y23,y24,y25,y26,y27,y28,y29,y30,y31,y32,y33,y34,y35,y36,y37,y38,y39,y40,y41,y42,y43,y44,y45,y46,y47,y48,y49,y50,y51,y52,y53,y54,y55,y56,y57,y58,y59,y60,y61,y62,y63,y64,rfl,rfl⟩ hA;show wpJ Y.J _ _ _ _ _;refine zq1c Y.jc ?_;refine YSys.left hA (v:=.agg #[.bool (madeA x.1 x.2).ok,.int .i64 (madeA x.1 x.2).n,.slice none 0 0]) (λwc hB=>results_cell_row rfl _ wc b6 49 _ _ _ rfl (hB.own.box b6 _ (upB_same _ _ _)) rfl rfl rfl) λw hA=>?_;exact⟨madeA x.1 x.2,λ_=>none,zq8w _ _,λb hb=>absurd rfl hb,hA.drop (zq1z HLE.out HN.out)⟩
 rw[if_neg (by simp[hk3])];rw[if_neg hk3]at hA;clear hk3;apply YSys.seq0 hA zyk
 . exact zx3
 intro w hA;refine zqz Y.jc rfl ?_
 by_cases hk4:op.k=4
 . rw[if_pos (by simp[hk4])];rw[if_pos hk4,Proc.bind_bind]at hA;clear hk4;refine zqh Y.jc (zqx Y.jc ?_);apply YSys.callB 0 4 4 hA (zq5i Y hst.base hc Try.func83 rfl rfl (first:=#[]) (caps:=#[]) (zqgb Y Bq sv) (λK hK=>hK _) (zq1a op.c)) (λx=>HKK.out _) rfl rfl rfl zx2p rfl rfl rfl
   . exact zxu
   . exact zx16
   . exact zx16
   . exact zxe
   intro s x w hA;apply YSys.callP 5 2 1 hA (zq8x Y x.1 x.2) rfl rfl rfl zx2p rfl rfl rfl
   . exact zx2
   . exact zx17
   . exact zx17
   intro w hA;refine YSys.opsX 8 1 (λt B'=>∃(y4 y8 y9 y10 y11 y12 y13 y14 y15 y16 y17 y18 y19 y20 y21 y22 y23 y24 y25 y26 y27 y28 y29 y30 y31 y32 y33 y34 y35 y36 y37 y38 y39 y40 y41 y42 y43 y44 y45 y46 y47 y48 y49 y50 y51 y52 y53 y54 y55 y56 y57 y58 y59 y60 y61 y62 y63 y64:Value),t=#[.pointer (some ⟨T.ob c,0,none⟩),sv,op.val,.pointer (some ⟨b3,0,none⟩),y4,.pointer (some ⟨b5,0,none⟩),.pointer (some ⟨b6,0,none⟩),.int .i64 (zq1a op.c),y8,y9,y10,y11,y12,y13,y14,y15,y16,y17,y18,y19,y20,y21,y22,y23,y24,y25,y26,y27,y28,y29,y30,y31,y32,y33,y34,y35,y36,y37,y38,y39,y40,y41,y42,y43,y44,y45,y46,y47,y48,y49,y50,y51,y52,y53,y54,y55,y56,y57,y58,y59,y60,y61,y62,y63,y64]/\B'=upB Bq b6 (.cells #[.bool (madeA x.1 x.2).ok,.int .i64 (madeA x.1 x.2).n,.slice none 0 0] 49)) hA rfl rfl zyk ?_ ?_
   . exact zx7
   rintro _ _ w ⟨y4,y8,y9,y10,y11,y12,y13,y14,y15,y16,y17,y18,y19,y20,y21,y22,y23,y24,y25,y26,y27,y28,y29,y30,y31,y32,y33,y34,y35,y36,y37,y38,y39,y40,y41,y42,y43,y44,y45,y46,y47,y48,y49,y50,y51,y52,y53,y54,y55,y56,y57,y58,y59,y60,y61,y62,y63,y64,rfl,rfl⟩ hA;show wpJ Y.J _ _ _ _ _;refine zq1c Y.jc ?_;refine YSys.left hA (v:=.agg #[.bool (madeA x.1 x.2).ok,.int .i64 (madeA x.1 x.2).n,.slice none 0 0]) (λwc hB=>results_cell_row rfl _ wc b6 49 _ _ _ rfl (hB.own.box b6 _ (upB_same _ _ _)) rfl rfl rfl) λw hA=>?_;exact⟨madeA x.1 x.2,λ_=>none,zq8w _ _,λb hb=>absurd rfl hb,hA.drop (zq1z HLE.out HN.out)⟩
 rw[if_neg (by simp[hk4])];rw[if_neg hk4]at hA;clear hk4;refine zq1s Y.jc ?_;show wpJ Y.J _ _ _ _ _;refine YSys.seqX (λt B'=>∃(y4 y8 y9 y10 y11 y12 y13 y14 y15 y16 y17 y18 y19 y20 y21 y22 y23 y24 y25 y26 y27 y28 y29 y30 y31 y32 y33 y34 y35 y36 y37 y38 y39 y40 y41 y42 y43 y44 y45 y46 y47 y48 y49 y50 y51 y52 y53 y54 y55 y56 y57 y58 y59 y60 y61 y62 y63 y64:Value),t=#[.pointer (some ⟨T.ob c,0,none⟩),sv,op.val,.pointer (some ⟨b3,0,none⟩),y4,.pointer (some ⟨b5,0,none⟩),.pointer (some ⟨b6,0,none⟩),.int .i64 (zq1a op.c),y8,y9,y10,y11,y12,y13,y14,y15,y16,y17,y18,y19,y20,y21,y22,y23,y24,y25,y26,y27,y28,y29,y30,y31,y32,y33,y34,y35,y36,y37,y38,y39,y40,y41,y42,y43,y44,y45,y46,y47,y48,y49,y50,y51,y52,y53,y54,y55,y56,y57,y58,y59,y60,y61,y62,y63,y64]/\B'=upB Bq b6 (.cells #[.bool false,.int .i64 0,.slice none 0 0] 49)) hA zyk ?_ ?_
 . intro wc hB X0 hX0;have HX0:=Lib.hid hX0;clear hX0;have k6:=hB.own.box b6 _ H6.out;have c60:wc.cell? ⟨b6,0,none⟩=some (.bool false):=(zq0 k6).trans rfl;have c61:wc.cell? ⟨b6,1,none⟩=some (.int .i64 0):=(zq0 k6).trans rfl;have c62:wc.cell? ⟨b6,2,none⟩=some (.slice none 0 0):=(zq0 k6).trans rfl;have f60:wc.frozen? ⟨b6,0,none⟩=false:=zq3 k6;have f61:wc.frozen? ⟨b6,1,none⟩=false:=zq3 k6;have f62:wc.frozen? ⟨b6,2,none⟩=false:=zq3 k6;have hm:=OMoved.set3 (o1:=0) (o2:=1) (o3:=2) hB.own H6.out (.bool false) (.int .i64 0) (.slice none 0 0);have HM:=Lib.hid hm;clear hm k6;go_wp2;exact⟨rfl,HX0.out _ _ _ HM.out ⟨_,_,_,_,_,_,_,_,_,_,_,_,_,_,_,_,_,_,_,_,_,_,_,_,_,_,_,_,_,_,_,_,_,_,_,_,_,_,_,_,_,_,_,_,_,_,_,_,_,_,_,_,_,_,_,_,_,_,rfl,rfl⟩⟩
 rintro _ _ w ⟨y4,y8,y9,y10,y11,y12,y13,y14,y15,y16,y17,y18,y19,y20,y21,y22,y23,y24,y25,y26,y27,y28,y29,y30,y31,y32,y33,y34,y35,y36,y37,y38,y39,y40,y41,y42,y43,y44,y45,y46,y47,y48,y49,y50,y51,y52,y53,y54,y55,y56,y57,y58,y59,y60,y61,y62,y63,y64,rfl,rfl⟩ hA;refine zq1c Y.jc ?_;refine YSys.left hA (v:=.agg #[.bool false,.int .i64 0,.slice none 0 0]) (λwc hB=>results_cell_row rfl _ wc b6 49 _ _ _ rfl (hB.own.box b6 _ (upB_same _ _ _)) rfl rfl rfl) λw hA=>?_;exact⟨Ans.none,λ_=>none,AnsV.plain _ _ _,λb hb=>absurd rfl hb,hA.drop (zq1z HLE.out HN.out)⟩
end
end Go.Proofs
namespace Go.Car
open Go Go.Conc Go.RowKit
open Go.ConcN (upd upd_ne upd_same)
section
variable {P:Program} {main:Bool} {γ:Type} {J:γ->Goroutine->World->Prop}
def zq2z(ops:Array Oper):Bool:=(List.range ops.size).all λi=>match ops[i]? with
 |some o=>o.after.all (λe=>!Region.binds .any e || decide (e.on<i))
 |none=>false
end
def chkW(ops:Array Oper)(n:Nat):Bool:=
 (List.range ops.size).all (λi=>match ops[i]? with
  |some o=>o.guard.isNone&&(match o.dst with|some d=>decide (d<n)|none=>true)
  |none=>false)&&
 (List.range ops.size).all (λi=>(List.range i).all λj=>(dstOf ops i).isNone || dstOf ops i !=dstOf ops j)
def noD(ops:Array Oper)(t:Tmp):Bool:=ops.all λo=>o.dst !=some t
theorem zq3g{ops:Array Oper}{t:Tmp}(h:noD ops t=true):∀j,dstOf ops j≠some t:=λj hd=>by
 unfold dstOf at hd;cases ho:ops[j]? with
 |none=>rw[ho]at hd;cases hd
 |some o=>
  rw[ho]at hd;simp only[al_ob]at hd;unfold noD at h;rw[Array.all_eq_true_iff_forall_mem]at h;have:=h o (Array.mem_of_getElem? ho);simp[hd]at this
section
variable {P:Program} {main:Bool} {γ:Type} {J:γ->Goroutine->World->Prop}
end
section
variable {P:Program} {main:Bool} {γ:Type} {J:γ->Goroutine->World->Prop}
end
def lstK(n k:Nat):Array Bool:=((List.range n).map λi=>decide (i<k)).toArray
theorem zq5h(n k:Nat):(lstK n k).size=n:=by simp[lstK]
theorem zq5g(n k i:Nat)(h:i<n):(lstK n k)[i]?=some (decide (i<k)):=by
 unfold lstK;rw[al_gl,List.getElem?_map,List.getElem?_range h];rfl
theorem lstK_of{listed:Array Bool}{n k:Nat}(hs:listed.size=n)(h1:∀i,i<k->listed.getD i false=true)(h2:∀i,k<=i->listed.getD i false=false):listed=lstK n k:=by
 apply Array.ext_getElem?;intro i
 by_cases hi:i<n
 . rw[zq5g n k i hi];have hi':i<listed.size:=by omega
   have e:listed.getD i false=listed[i]:=by simp[hi']
   rw[Array.getElem?_eq_getElem hi',<-e]
   by_cases hk:i<k
   . rw[h1 i hk];simp[hk]
   . rw[h2 i zyo];simp[hk]
 . rw[Array.getElem?_eq_none zyo,Array.getElem?_eq_none (by rw[zq5h];omega)]
theorem zq8v(n k:Nat)(h:k<n):(lstK n k).setIfInBounds k true=lstK n (k+1):=by
 apply Array.ext_getElem?;intro i;rw[al_gs]
 by_cases hi:i<n
 . rw[zq5g n k i hi,zq5g n (k+1) i hi]
   by_cases e:k=i
   . subst e;rw[if_pos rfl,if_pos (by rw[zq5h];exact h)];simp
   . rw[if_neg e];congr 1;simp;omega
 . rw[Array.getElem?_eq_none (by rw[zq5h];omega),Array.getElem?_eq_none (by rw[zq5h];omega)]
   by_cases e:k=i
   . subst e;omega
   . rw[if_neg e]
def zq55(ops:Array Oper)(k:Nat):Bool:=(List.range ops.size).all λj=>decide (j<k) || (Region.ready .any ops (lstK ops.size j)==[j])
theorem chain_go{ops:Array Oper}{k:Nat}(h:zq55 ops k=true):∀(q j t:Nat),k<=j->j+q=ops.size->Region.linearise.go .any ops q t (lstK ops.size j) []=List.range' j q:=by
 intro q
 induction q with
 |zero=>intro j t _ _;rfl
 |succ q ih=>
  intro j t hk hj;have hr:Region.ready .any ops (lstK ops.size j)=[j]:=by
   unfold zq55 at h;rw[List.all_eq_true]at h;have:=h j (List.mem_range.2 zyo);simp only[Bool.or_eq_true,decide_eq_true_eq,beq_iff_eq]at this;exact this.resolve_left zyo
  simp only[Region.linearise.go];change (match (Region.ready .any ops (lstK ops.size j))[t % (Region.ready .any ops (lstK ops.size j)).length]? with
   |some i=>Region.linearise.go .any ops q (t / (Region.ready .any ops (lstK ops.size j)).length) ((lstK ops.size j).setIfInBounds i true) [i]
   |none=>[].reverse)=_
  rw[hr];simp only[List.length_singleton,Nat.mod_one,al_g0];rw[linearise_go_acc,List.reverse_singleton,List.singleton_append,zq8v _ _ zyo,ih (j+1) _ zyo zyo,List.range'_succ]
theorem zqew(n:Nat):∀(q k:Nat),k+q=n->left (lstK n k)=q:=by
 intro q
 induction q with
 |zero=>
  intro k hk;unfold left;rw[List.length_eq_zero_iff,List.filter_eq_nil_iff];intro x hx;simp only[lstK,List.mem_map,List.mem_range]at hx;obtain⟨i,hi,rfl⟩:=hx;simp;omega
 |succ q ih=>
  intro k hk;have h1:(lstK n k).getD k true=false:=by
   rw[al_gd,zq5g n k k zyo];simp
  have:=zq3f h1;rw[zq8v n k zyo,ih (k+1) zyo]at this;omega
section
variable {P:Program} {main:Bool} {γ:Type} {J:γ->Goroutine->World->Prop}
theorem zqd0(hjs:∀s,∃Kc,JS P main Kc (λ(_:Unit)=>J s)){b:Frame}{kk:List Item}{cs:List Frame}(hm:P.follows .mixedOrders=true){id:Nat}{ops:Array Oper}{T₀:Array Value}{ds:List Deferred}{s:γ}{w:World}(k:Nat)(I:(Nat->Bool)->Array Value->World->Prop)
 (hback:zq2z ops=true) (hbackB:backB .any ops k=true) (hwait:zq2p .any ops k=true) (hchain:zq55 ops k=true) (hk:k<=ops.size) (hre:∀L T w τ d,I L T w->I L T (re w τ d)) (hI:I (λ_=>false) T₀ w)
 (hstep:∀(L:Nat->Bool)(T:Array Value)(w:World)(i:Nat)(o:Oper),i<k->I L T w->L i=false->ops[i]?=some o->(∀e∈o.after,Region.binds .any e=true->L e.on=true)->
  ∀rest:List Nat,(∀T' w',I (upd L i true) T' w'->J s (G (b.at ⟨T',ds⟩ (.inRegion ops rest::kk)) cs) w')->J s (G (b.at ⟨T,ds⟩ (.inRegion ops (i::rest)::kk)) cs) w)
 (hgo:∀L T w,(∀i,i<k->L i=true)->I L T w->J s (G (b.at ⟨T,ds⟩ (.inRegion ops (List.range' k (ops.size - k))::kk)) cs) w):J s (G (b.at ⟨T₀,ds⟩ (.code (.region id ops true)::kk)) cs) w:=by
 have hb':∀i o,ops[i]?=some o->∀e∈o.after,Region.binds .any e=true->e.on<i:=by
  intro i o ho;have hlt:=(Array.getElem?_eq_some_iff.1 ho).1;unfold zq2z at hback;rw[List.all_eq_true]at hback;have:=hback i (List.mem_range.2 hlt);rw[ho]at this;simp only[Array.all_eq_true_iff_forall_mem]at this;exact λe he hbe=>by have:=this e he;simpa[hbe]using this
 have hAW:=zq67 hwait;have key:∀(fuel t:Nat)(listed:Array Bool)(L:Nat->Bool)(T:Array Value)(w:World),listed.size=ops.size->left listed=fuel->(∀i,i<ops.size->listed.getD i false=L i)->Closed .any ops listed->(∀i,k<=i->listed.getD i false=false)->I L T w->
  J s (G (b.at ⟨T,ds⟩ (.inRegion ops (Region.linearise.go .any ops fuel t listed [])::kk)) cs) w:=by
  intro fuel
  induction fuel with
  |zero=>
   intro t listed L T w hsz hl hL hcl hhi hi;have all:∀i,i<ops.size->listed.getD i false=true:=λi hlt=>by
    have hlt':i<listed.size:=by omega
    cases hv:listed[i]with
    |true=>simp[hlt',hv]
    |false=>have:=zq4l (listed:=listed) (i:=i) (by simp[hlt',hv]);omega
   have hke:k=ops.size:=by
    refine Classical.byContradiction λhne=>?_;have h1:=all k zyo;rw[hhi k (Nat.le_refl _)]at h1;cases h1
   have:=hgo L T w (λi hlt=>by rw[<-hL i zyo];exact all i zyo) hi;rw[hke,Nat.sub_self]at this;exact this
  |succ fuel ih=>
   intro t listed L T w hsz hl hL hcl hhi hi
   by_cases hall:∀i,i<k->listed.getD i false=true
   . have e:listed=lstK ops.size k:=lstK_of hsz hall hhi;have hq:fuel+1=ops.size - k:=by
      rw[<-hl,e];exact zqew _ _ _ zyo
     rw[e,hq,chain_go hchain _ _ _ (Nat.le_refl _) zyo];exact hgo L T w (λi hlt=>by rw[<-hL i zyo];exact hall i hlt) hi
   . obtain⟨i0,hi0⟩:=Classical.not_forall.1 hall;obtain⟨hik0,hi0⟩:=Classical.not_imp.1 hi0;have hi0s:i0<listed.size:=by omega
     have hready:∃i,i∈Region.ready .any ops listed:=zq6c hbackB listed ⟨i0,hik0,by simp[hi0s]at hi0 |-;exact hi0⟩;simp only[Region.linearise.go];change J s (G (b.at ⟨T,ds⟩ (.inRegion ops (match (Region.ready .any ops listed)[t % (Region.ready .any ops listed).length]? with
      |some i=>Region.linearise.go .any ops fuel (t / (Region.ready .any ops listed).length) (listed.setIfInBounds i true) [i]
      |none=>[].reverse)::kk)) cs) w
     cases hi':(Region.ready .any ops listed)[t % (Region.ready .any ops listed).length]? with
     |none=>
      exfalso;obtain⟨i,hi''⟩:=hready;have hpos:0<(Region.ready .any ops listed).length:=List.length_pos_of_mem hi'';have hlt:=Nat.mod_lt t hpos;rw[List.getElem?_eq_none_iff]at hi';omega
     |some i=>
      have hmem:=List.mem_of_getElem? hi';obtain⟨hun,o,ho,hall2⟩:=mem_ready.1 hmem;have hik:i<k:=Classical.byContradiction λhge=>hi0 (hAW listed hcl i hmem zyo i0 hik0);have hilt:i<ops.size:=by have:=zq1m hun;omega
      simp only[];rw[linearise_go_acc,List.reverse_singleton,List.singleton_append];have hbk:=hb' i o ho;have hLi:L i=false:=by
       rw[<-hL i hilt];have hlt':i<listed.size:=by omega
       simp[hlt']at hun |-;exact hun
      have hld:left (listed.setIfInBounds i true)+1=left listed:=zq3f hun;have hL':∀j,j<ops.size->(listed.setIfInBounds i true).getD j false=upd L i true j:=λj hj=>by
       by_cases e:i=j
       . exact zx2b
       . exact zx29
      have hall':∀e∈o.after,Region.binds .any e=true->L e.on=true:=λe he hbe=>by
       rw[<-hL e.on (by have:=hbk e he hbe;omega)];exact hall2 e he hbe
      exact hstep L T w i o hik hi hLi ho hall' _ λT' w' hI'=>ih _ _ (upd L i true) _ _ zx3z zyo hL' (hcl.set hmem) (λj hj=>by rw[getD_set_ne false zyo];exact hhi j hj) hI'
 obtain⟨Kc,hJ⟩:=hjs s;refine hJ.step () _ _ rfl λτ d=>⟨_,_,#[],stepG_region_draw (a:=⟨T₀,ds⟩),?_,by simp,?_⟩
 . exact OkD.refl _ _ _
 . refine hJ.re' () _ w τ (d+1) ?_;simp only[Region.schedule,hm,Bool.true_or,if_true,Region.linearise];refine key _ _ _ (λ_=>false) _ _ zx2n ?_ (λi hi=>by simp[hi]) (λi o e _ hl=>?_) (λi _=>?_) hI
   . unfold left;simp
   . exfalso;rw[al_gd,Array.getElem?_replicate]at hl;split at hl<;>simp at hl
   . rw[al_gd,Array.getElem?_replicate];split<;>rfl
end
def chkP(P:Program)(ops:Array Oper)(k n:Nat):Bool:=
 (List.range k).all (λi=>match ops[i]? with
  |some o=>o.guard.isNone&&zq1j P o.op&&(match o.dst with|some d=>decide (d<n)|none=>false)
  |none=>false)&&
 (List.range k).all (λi=>(List.range i).all λj=>dstOf ops i !=dstOf ops j)
section
variable {P:Program} {A:FuncId->Bool} {Ml S β α:Type} {C:Core Ml S} {ro:Nat->Option Obj} {i:Nat}
theorem Alone.re (Z:Alone P A C ro i β){I:S->Prop}{B:Nat->Option Obj}{s:Z.γ}{w:World}{p:Proc S β}(h:(Z.sys I).AtB B s w p)(τ:Nat->Question->Nat)(d:Nat):(Z.sys I).AtB B s (Car.re w τ d) p:=by
 obtain⟨m,rfl,h1,h2⟩:=h;have h3:=Z.move h1 (Moved.ext (Z.rep h1) (Ext.re w τ d)) (Z.oth _);rw[BM.put_same]at h3;exact⟨m,rfl,h3,h2⟩
theorem Alone.region (Z:Alone P A C ro i β)(hm:P.follows .mixedOrders=true){I:S->Prop}{B:Nat->Option Obj}{s:Z.γ}{w:World}{p:Proc S β}{id:Nat}{ops:Array Oper}{t₀:Array Value}{ds:List Deferred}{Q:Z.γ->Exit->Act->World->Prop}(k:Nat)(vals:List Value)(hA:(Z.sys I).AtB B s w p)(hv:vals.length=k)
 (hback:zq2z ops=true) (hbackB:backB .any ops k=true) (hwait:zq2p .any ops k=true) (hchain:zq55 ops k=true) (hk:k<=ops.size) (hchk:chkP P ops k t₀.size=true)
 (hread:∀wc,(Z.sys I).KnB B wc->∀(j:Nat)(o:Oper)(v:Value)(T:Array Value),ops[j]?=some o->vals[j]?=some v->(∀e∈o.after,Region.binds .any e=true->∀d x,dstOf ops e.on=some d->vals[e.on]?=some x->T[d]?=some x)->(∀t,(∀j,j<k->dstOf ops j≠some t)->T[t]?=t₀[t]?)->(execOp (Act.mk T []).eval o).run P wc=.ok (.value v) wc)
 (hgo:∀w',(Z.sys I).AtB B s w' p->opsJ Z.J ops (List.range' k (ops.size - k)) Q s ⟨putv ops vals 0 t₀,ds⟩ w'):wpJ Z.J (.region id ops true) Q s ⟨t₀,ds⟩ w:=by
 intro b kk cs hb hQ;unfold chkP at hchk;simp only[Bool.and_eq_true,List.all_eq_true,List.mem_range]at hchk;obtain⟨h1,h2⟩:=hchk;have plain:∀(j:Nat)(o:Oper),j<k->ops[j]?=some o->o.guard=none/\zq1j P o.op=true/\∃d,o.dst=some d/\d<t₀.size:=λj o hj ho=>by
  have:=h1 j hj;rw[ho]at this;simp only[Bool.and_eq_true]at this;obtain⟨⟨a1,a2⟩,a3⟩:=this;refine⟨Option.isNone_iff_eq_none.1 a1,a2,?_⟩;cases hd:o.dst with
  |none=>rw[hd]at a3;cases a3
  |some d=>rw[hd]at a3;exact⟨d,rfl,by simpa using a3⟩
 have apart:∀(a c:Nat)(d:Tmp),a<k->c<k->dstOf ops a=some d->dstOf ops c=some d->a=c:=λa c d ha hc hd hd'=>by
  rcases Nat.lt_trichotomy a c with h|h|h
  . have:=h2 c hc a h;rw[hd,hd']at this;simp at this
  . exact h
  . have:=h2 a ha c h;rw[hd,hd']at this;simp at this
 obtain⟨T,hT⟩:∃T,putv ops vals 0 t₀=T:=⟨_,rfl⟩;have Tat:∀j d x,j<k->dstOf ops j=some d->vals[j]?=some x->T[d]?=some x:=λj d x hj hd hx=>by
  have hd':=hd;unfold dstOf at hd';obtain⟨o,ho⟩:∃o,ops[j]?=some o:=⟨_,Array.getElem?_eq_getElem zyo⟩;obtain⟨_,_,d2,hd2,hlt⟩:=plain j o hj ho;rw[ho]at hd';simp only[al_ob]at hd';rw[hd2]at hd';cases hd';rw[<-hT];refine zq23 vals 0 _ j x d hx zx3w hlt λq a b e=>?_;have:=apart q j d zyo hj (by simpa using e) hd;omega
 have Tout:∀t,(∀j,j<k->dstOf ops j≠some t)->T[t]?=t₀[t]?:=λt ht=>by
  rw[<-hT];exact zq1p vals 0 _ t λj a b=>ht j zyo
 refine zqd0 (γ:=Z.γ) (J:=Z.J) Z.js hm k (λL T' w=>(Z.sys I).AtB B s w p/\T'.size=t₀.size/\(∀t,(∀j,j<k->dstOf ops j≠some t)->T'[t]?=t₀[t]?)/\∀j d x,j<k->L j=true->dstOf ops j=some d->vals[j]?=some x->T'[d]?=some x) hback hbackB hwait hchain hk (λL T' w τ d h=>⟨Z.re h.1 τ d,h.2⟩) ⟨hA,rfl,λ_ _=>rfl,λj d x _ hl=>(by cases hl)⟩ ?_ ?_
 . rintro L T' w j o hj ⟨hA,hsz,hout,hin⟩ hL ho hdep rest hnext;obtain⟨hg,hrd,d,hd,hlt⟩:=plain j o hj ho;obtain⟨v,hvj⟩:∃v,vals[j]?=some v:=⟨_,List.getElem?_eq_getElem zyo⟩;obtain⟨Kc,hJ⟩:=Z.js s;have hdj:dstOf ops j=some d:=by unfold dstOf;rw[ho];exact hd
   have hback':∀e∈o.after,Region.binds .any e=true->e.on<j:=by
    unfold zq2z at hback;rw[List.all_eq_true]at hback;have:=hback j (List.mem_range.2 zyo);rw[ho]at this;simp only[Array.all_eq_true_iff_forall_mem]at this;exact λe he hbe=>by have:=this e he;simpa[hbe]using this
   refine at_opK (J:=λ(_:Unit)=>Z.J s) (s:=()) hJ hb ho hrd (by simp[Region.wanted,hg]) hd λτ dd=>?_;have hA':=Z.re hA τ dd;have hkn:(Z.sys I).KnB B (Car.re w τ dd):=by
    obtain⟨m,rfl,q1,q2⟩:=hA';exact⟨m,rfl,Z.rep q1⟩
   refine⟨v,Car.re w τ dd,hread _ hkn j o v T' ho hvj (λe he hbe d' x hd' hx=>hin e.on d' x (by have:=hback' e he hbe;omega) (hdep e he hbe) hd' hx) hout,hnext _ _ ⟨hA',by simpa using hsz,λt ht=>?_,λj' d' x hj' hl hd' hx=>?_⟩⟩
   . have:d≠t:=λe=>ht j hj (e▸hdj);rw[al_gn this];exact hout t ht
   . have hltT:d<T'.size:=by rw[hsz];exact hlt
     by_cases e:j'=j
     . subst e;rw[hdj]at hd';cases hd';rw[hvj]at hx;cases hx;rw[al_gs,if_pos rfl,if_pos hltT]
     . have hne:d≠d':=λe2=>by subst e2;exact e (apart j' j d hj' hj hd' hdj)
       rw[upd_ne _ _ e]at hl;rw[al_gn hne];exact hin j' d' x hj' hl hd' hx
 . rintro L T' w hall ⟨hA,hsz,hout,hin⟩;have e:T'=T:=by
    apply Array.ext_getElem?;intro x
    by_cases hx:∃j,j<k/\dstOf ops j=some x
    . obtain⟨j,hj,hdj⟩:=hx;obtain⟨v,hvj⟩:∃v,vals[j]?=some v:=⟨_,List.getElem?_eq_getElem zyo⟩;rw[hin j x v hj (hall j hj) hdj hvj,Tat j x v hj hdj hvj]
    . have hno:∀j,j<k->dstOf ops j≠some x:=λj hj hd=>hx ⟨j,hj,hd⟩;rw[hout x hno,Tout x hno]
   rw[e];have:=hgo w hA;rw[hT]at this;exact this b kk cs hb hQ
end
end Go.Car
set_option maxHeartbeats 8000000
namespace Go.Proofs
open Go Go.Conc Go.RowKit Go.Car
def doerP{S2:Type}(N:Nat)(op:OpX):Proc (Nums×S2) Ans:=if op.a<0\/(N:Int)<=op.a then Proc.ret Ans.none else onceP op.a.toNat op
section
variable {M2 S2 β:Type} {D:Core M2 S2} {ro:Nat->Option Obj} {i:Nat} {T:NumT}
theorem zqdr(Z:Alone Try.prog aM (zqc (zqg T) D) ro i β){I:Nums×S2->Prop}{sv:Value}(hst:zq48 (Z.sys I) sv){vb pb Cp:Nat}{ps:Array Value}(hv:ro vb=some (.cells #[.slice (some ⟨pb,0,none⟩) T.N Cp] 108))(hp:ro pb=some (.cells ps 35))(hps:∀c,c<T.N->ps[c]?=some (.pointer (some ⟨T.ob c,0,none⟩)))(hN:T.N<=64)(who:Int)(op:OpX):
 SpecR (Z.sys I) 63 #[sv,.int .i64 who,op.val,.pointer (some ⟨vb,0,none⟩)] (doerP T.N op) (AnsV 2):=by
 have HS:=Lib.hid hst;have HR:=Lib.hid (And.intro hv (And.intro hp hps));clear hst hv hp hps;refine SpecR.of Try.func63 rfl ?_;intro K s B w hK hA;simp only[zqe,Try.ntmps63,List.size_toArray,List.length_cons,List.length_nil,Nat.reduceAdd,Nat.reduceSub,Array.replicate_succ,Array.replicate_zero,List.push_toArray,List.append_toArray,List.nil_append,List.cons_append];have HKK:=Lib.hid hK;clear hK;refine zqh (Z.sys I).jc (zqx (Z.sys I).jc ?_);refine YSys.preX 0 1 1 (λt B'=>∃(b6:Nat)(x4 x5 x7 x8 x9 x10 x11 x12 x13 x14 x15 x16 x17 x18 x19 x20 x21 x22 x23 x24 x25 x26:Value),t=#[sv,.int .i64 who,op.val,.pointer (some ⟨vb,0,none⟩),x4,x5,.pointer (some ⟨b6,0,none⟩),x7,x8,x9,x10,x11,x12,x13,x14,x15,x16,x17,x18,x19,x20,x21,x22,x23,x24,x25,x26]/\(B) b6=none/\B'=upB (B) b6 (.cells op.cells.toArray 34)) hA rfl rfl rfl rfl ?_ ?_
 . intro wc hB X0 hX0;have HX0:=Lib.hid hX0;clear hX0;have hm:=OMoved.push (o:=.cells op.cells.toArray 34) hB.own (Ext1.alloc wc (.cells op.cells.toArray 34)) (Nat.le_refl _) zx47;have hf:=hB.own.fresh (Nat.le_refl _);have HM:=Lib.hid (And.intro hm hf);clear hm hf;unfold OpX.val;go_wp2;exact HX0.out _ _ _ HM.out.1 ⟨_,_,_,_,_,_,_,_,_,_,_,_,_,_,_,_,_,_,_,_,_,_,_,rfl,HM.out.2,rfl⟩
 clear hA;rintro _ _ w ⟨b6,x4,x5,x7,x8,x9,x10,x11,x12,x13,x14,x15,x16,x17,x18,x19,x20,x21,x22,x23,x24,x25,x26,rfl,hb6,rfl⟩ hA;refine YSys.opsX 1 1 (λt B'=>∃(b7:Nat)(x4 x5 x8 x9 x10 x11 x12 x13 x14 x15 x16 x17 x18 x19 x20 x21 x22 x23 x24 x25 x26:Value),t=#[sv,.int .i64 who,op.val,.pointer (some ⟨vb,0,none⟩),x4,x5,.pointer (some ⟨b6,0,none⟩),.pointer (some ⟨b7,0,none⟩),x8,x9,x10,x11,x12,x13,x14,x15,x16,x17,x18,x19,x20,x21,x22,x23,x24,x25,x26]/\(upB B b6 (.cells op.cells.toArray 34)) b7=none/\B'=upB (upB B b6 (.cells op.cells.toArray 34)) b7 (.cells #[.bool false,.int .i64 0,.slice none 0 0] 49)) hA rfl rfl zyk ?_ ?_
 . intro wc hB X0 hX0;have HX0:=Lib.hid hX0;clear hX0;have hm:=OMoved.push (o:=.cells #[.bool false,.int .i64 0,.slice none 0 0] 49) hB.own (Ext1.alloc wc (.cells #[.bool false,.int .i64 0,.slice none 0 0] 49)) (Nat.le_refl _) zx47;have hf:=hB.own.fresh (Nat.le_refl _);have HM:=Lib.hid (And.intro hm hf);clear hm hf;go_wp2;exact⟨rfl,HX0.out _ _ _ HM.out.1 ⟨_,_,_,_,_,_,_,_,_,_,_,_,_,_,_,_,_,_,_,_,_,_,rfl,HM.out.2,rfl⟩⟩
 clear hA;rintro _ _ w ⟨b7,x4,x5,x8,x9,x10,x11,x12,x13,x14,x15,x16,x17,x18,x19,x20,x21,x22,x23,x24,x25,x26,rfl,hb7,rfl⟩ hA;have h6:(upB (upB B b6 (.cells op.cells.toArray 34)) b7 (.cells #[.bool false,.int .i64 0,.slice none 0 0] 49)) b6=some (.cells op.cells.toArray 34):=zq39 (upB_same _ _ _) (zq41 (upB_same _ _ _) hb7);have h7:(upB (upB B b6 (.cells op.cells.toArray 34)) b7 (.cells #[.bool false,.int .i64 0,.slice none 0 0] 49)) b7=some (.cells #[.bool false,.int .i64 0,.slice none 0 0] 49):=upB_same _ _ _;have hB7:B b7=none:=Classical.byContradiction λh=>by
  cases ho:B b7 with
  |none=>exact h ho
  |some o=>rw[zq3p (o:=.cells op.cells.toArray 34) hb6 b7 o ho]at hb7;cases hb7
 have hle:∀x y,B x=some y->(upB (upB B b6 (.cells op.cells.toArray 34)) b7 (.cells #[.bool false,.int .i64 0,.slice none 0 0] 49)) x=some y:=zq1z (zq3p (o:=.cells op.cells.toArray 34) hb6) hB7;obtain⟨Bq,hBq⟩:∃X,upB (upB B b6 (.cells op.cells.toArray 34)) b7 (.cells #[.bool false,.int .i64 0,.slice none 0 0] 49)=X:=⟨_,rfl⟩;rw[hBq]at h6 h7 hle hA;have H6:=Lib.hid h6;have H7:=Lib.hid h7;have HLE:=Lib.hid hle;have HN:=Lib.hid hB7;clear h6 h7 hle hBq hb6 hb7 hB7;show wpJ (Z.sys I).J _ _ _ _ _;refine zqh (Z.sys I).jc ?_;unfold doerP at hA;obtain⟨x,hx⟩:∃x,op.a=x:=⟨_,rfl⟩;obtain⟨NN,hNN⟩:∃x,T.N=x:=⟨_,rfl⟩;have HX:=Lib.hid (And.intro hx hNN);rw[hx,hNN]at hA;rw[hNN]at hN;clear hx hNN
 by_cases h1:x<0
 . rw[if_pos (.inl h1)]at hA;apply YSys.seq0 hA zyk
   . intro wc hB;have k6:=hB.own.box b6 _ H6.out;have c60:wc.cell? ⟨b6,0,none⟩=some (.int .i64 op.k):=(zq0 k6).trans rfl;have c61:wc.cell? ⟨b6,1,none⟩=some (.int .i64 op.a):=(zq0 k6).trans rfl;have c62:wc.cell? ⟨b6,2,none⟩=some (.int .i64 op.b):=(zq0 k6).trans rfl;have c63:wc.cell? ⟨b6,3,none⟩=some (.int .i64 op.c):=(zq0 k6).trans rfl;rw[HX.out.1]at c61;clear k6;go_wp2;exact⟨rfl,Ext1.refl _,rfl⟩
   intro w hA;refine zqz (Z.sys I).jc rfl ?_;rw[if_pos rfl];refine YSys.seqX (λt B'=>∃(y4 y5 y8 y9 y10 y11 y12 y13 y14 y15 y16 y17 y18 y19 y20 y21 y22 y23 y24 y25 y26:Value),t=#[sv,.int .i64 who,op.val,.pointer (some ⟨vb,0,none⟩),y4,y5,.pointer (some ⟨b6,0,none⟩),.pointer (some ⟨b7,0,none⟩),y8,y9,y10,y11,y12,y13,y14,y15,y16,y17,y18,y19,y20,y21,y22,y23,y24,y25,y26]/\B'=upB Bq b7 (.cells #[.bool false,.int .i64 0,.slice none 0 0] 49)) hA zyk ?_ ?_
   . exact zxc
   rintro _ _ w ⟨y4,y5,y8,y9,y10,y11,y12,y13,y14,y15,y16,y17,y18,y19,y20,y21,y22,y23,y24,y25,y26,rfl,rfl⟩ hA;refine zq1c (Z.sys I).jc ?_;refine YSys.left hA (v:=.agg #[.bool false,.int .i64 0,.slice none 0 0]) (λwc hB=>results_cell_row rfl _ wc b7 49 _ _ _ rfl (hB.own.box b7 _ (upB_same _ _ _)) rfl rfl rfl) λw hA=>?_;exact⟨Ans.none,λ_=>none,AnsV.plain _ _ _,λb hb=>absurd rfl hb,hA.drop (zq1z HLE.out HN.out)⟩
 by_cases h2:(NN:Int)<=x
 . rw[if_pos (.inr h2)]at hA;apply YSys.seq0 (t':=#[sv,.int .i64 who,op.val,.pointer (some ⟨vb,0,none⟩),x4,x5,.pointer (some ⟨b6,0,none⟩),.pointer (some ⟨b7,0,none⟩),.pointer (some ⟨b6,1,none⟩),.int .i64 x,.bool false,.bool false,.pointer (some ⟨b6,1,none⟩),.int .i64 x,.slice (some ⟨pb,0,none⟩) NN Cp,.int .i64 NN,.bool true,.bool true,x18,x19,x20,x21,x22,x23,x24,x25,x26]) hA zyk
   . intro wc hB;have k6:=hB.own.box b6 _ H6.out;have c60:wc.cell? ⟨b6,0,none⟩=some (.int .i64 op.k):=(zq0 k6).trans rfl;have c61:wc.cell? ⟨b6,1,none⟩=some (.int .i64 op.a):=(zq0 k6).trans rfl;have c62:wc.cell? ⟨b6,2,none⟩=some (.int .i64 op.b):=(zq0 k6).trans rfl;have c63:wc.cell? ⟨b6,3,none⟩=some (.int .i64 op.c):=(zq0 k6).trans rfl;rw[HX.out.1]at c61;clear k6;have cv:wc.cell? ⟨vb,0,none⟩=some (.slice (some ⟨pb,0,none⟩) T.N Cp):=(zq0 (hB.own.rod vb _ HR.out.1)).trans rfl;rw[HX.out.2]at cv;clear hA hN c60 c62 c63;have h3:(0:Int)<=x:=by omega
     go_wp2;exact⟨rfl,Ext1.refl _,rfl⟩
   intro w hA;refine zqz (Z.sys I).jc rfl ?_;rw[if_pos rfl];refine YSys.seqX (λt B'=>∃(y4 y5 y8 y9 y10 y11 y12 y13 y14 y15 y16 y17 y18 y19 y20 y21 y22 y23 y24 y25 y26:Value),t=#[sv,.int .i64 who,op.val,.pointer (some ⟨vb,0,none⟩),y4,y5,.pointer (some ⟨b6,0,none⟩),.pointer (some ⟨b7,0,none⟩),y8,y9,y10,y11,y12,y13,y14,y15,y16,y17,y18,y19,y20,y21,y22,y23,y24,y25,y26]/\B'=upB Bq b7 (.cells #[.bool false,.int .i64 0,.slice none 0 0] 49)) hA zyk ?_ ?_
   . exact zxc
   rintro _ _ w ⟨y4,y5,y8,y9,y10,y11,y12,y13,y14,y15,y16,y17,y18,y19,y20,y21,y22,y23,y24,y25,y26,rfl,rfl⟩ hA;refine zq1c (Z.sys I).jc ?_;refine YSys.left hA (v:=.agg #[.bool false,.int .i64 0,.slice none 0 0]) (λwc hB=>results_cell_row rfl _ wc b7 49 _ _ _ rfl (hB.own.box b7 _ (upB_same _ _ _)) rfl rfl rfl) λw hA=>?_;exact⟨Ans.none,λ_=>none,AnsV.plain _ _ _,λb hb=>absurd rfl hb,hA.drop (zq1z HLE.out HN.out)⟩
 rw[if_neg (λh=>h.elim h1 h2)]at hA;have h3:x<(NN:Int):=by omega
 have h4:(0:Int)<=x:=by omega
 have h5:¬x>=(NN:Int):=by omega
 apply YSys.seq0 (t':=#[sv,.int .i64 who,op.val,.pointer (some ⟨vb,0,none⟩),x4,x5,.pointer (some ⟨b6,0,none⟩),.pointer (some ⟨b7,0,none⟩),.pointer (some ⟨b6,1,none⟩),.int .i64 x,.bool false,.bool false,.pointer (some ⟨b6,1,none⟩),.int .i64 x,.slice (some ⟨pb,0,none⟩) NN Cp,.int .i64 NN,.bool false,.bool false,x18,x19,x20,x21,x22,x23,x24,x25,x26]) hA zyk
 . intro wc hB;have k6:=hB.own.box b6 _ H6.out;have c60:wc.cell? ⟨b6,0,none⟩=some (.int .i64 op.k):=(zq0 k6).trans rfl;have c61:wc.cell? ⟨b6,1,none⟩=some (.int .i64 op.a):=(zq0 k6).trans rfl;have c62:wc.cell? ⟨b6,2,none⟩=some (.int .i64 op.b):=(zq0 k6).trans rfl;have c63:wc.cell? ⟨b6,3,none⟩=some (.int .i64 op.c):=(zq0 k6).trans rfl;rw[HX.out.1]at c61;clear k6;have cv:wc.cell? ⟨vb,0,none⟩=some (.slice (some ⟨pb,0,none⟩) T.N Cp):=(zq0 (hB.own.rod vb _ HR.out.1)).trans rfl;rw[HX.out.2]at cv;clear hA hN c60 c62 c63 h2;go_wp2;exact⟨rfl,Ext1.refl _,rfl⟩
 intro w hA;refine zqz (Z.sys I).jc rfl (zq1s (Z.sys I).jc ?_);show wpJ (Z.sys I).J _ _ _ _ _;refine zqh (Z.sys I).jc ?_;obtain⟨c,rfl⟩:∃c:Nat,x=c:=⟨x.toNat,by omega⟩;have hcN:c<T.N:=by have:=HX.out.2;omega
 have hac:op.a.toNat=c:=by have:=HX.out.1;omega
 refine Z.region zyk 7 [.slice (some ⟨pb,0,none⟩) NN Cp,.pointer (some ⟨b6,1,none⟩),.int .i64 c,.pointer (some ⟨pb,c,none⟩),.pointer (some ⟨T.ob c,0,none⟩),sv,op.val] hA rfl zyk zyk zyk zyk zyd zyk ?_ ?_
 . intro wc hB j o v Tm hj hvj hdep hout;have hj7:j<7:=by have:=(List.getElem?_eq_some_iff.1 hvj).1;simpa using this
   have t0:Tm[0]?=some sv:=hout 0 zx37;have t3:Tm[3]?=some (.pointer (some ⟨vb,0,none⟩)):=hout 3 zx37;have t6:Tm[6]?=some (.pointer (some ⟨b6,0,none⟩)):=hout 6 zx37;have k6:=hB.own.box b6 _ H6.out;have c60:wc.cell? ⟨b6,0,none⟩=some (.int .i64 op.k):=(zq0 k6).trans rfl;have c61:wc.cell? ⟨b6,1,none⟩=some (.int .i64 op.a):=(zq0 k6).trans rfl;have c62:wc.cell? ⟨b6,2,none⟩=some (.int .i64 op.b):=(zq0 k6).trans rfl;have c63:wc.cell? ⟨b6,3,none⟩=some (.int .i64 op.c):=(zq0 k6).trans rfl;rw[HX.out.1]at c61;clear k6;have cv:wc.cell? ⟨vb,0,none⟩=some (.slice (some ⟨pb,0,none⟩) T.N Cp):=(zq0 (hB.own.rod vb _ HR.out.1)).trans rfl;rw[HX.out.2]at cv;have cp:wc.cell? ⟨pb,c,none⟩=some (.pointer (some ⟨T.ob c,0,none⟩)):=(zq0 (hB.own.rod pb _ HR.out.2.1)).trans (HR.out.2.2 c hcN);clear hout hA;rcases(by omega:j=0\/j=1\/j=2\/j=3\/j=4\/j=5\/j=6)with rfl |rfl |rfl |rfl |rfl |rfl |rfl
   all_goals simp only[al_gl,al_g0,al_g1,al_oi]at hj hvj
   all_goals subst hj hvj
   . simp[go_sem,execOp,Act.eval,resolve,t3,cv]
   . simp[go_sem,execOp,Act.eval,resolve,t6]
   . have d:=hdep _ (by simp;rfl) zyd 20 _ rfl rfl;simp[go_sem,execOp,Act.eval,resolve,d,c61]
   . have d:=hdep _ (by simp;exact .inl rfl) zyd 19 _ rfl rfl;have d2:=hdep _ (by simp;exact .inr rfl) zyd 21 _ rfl rfl;simp[go_sem,execOp,Act.eval,resolve,d,d2,h3,h4]
   . have d:=hdep _ (by simp;rfl) zyd 22 _ rfl rfl;simp[go_sem,execOp,Act.eval,resolve,d,cp]
   . simp[go_sem,execOp,Act.eval,resolve,t0]
   . simp[go_sem,execOp,Act.eval,resolve,t6,c60,c61,c62,c63,OpX.val];exact HX.out.1.symm
 . intro w hA;simp only[putv,dstOf,al_gl,al_g0,al_g1,al_ob,al_g2,List.set_cons_succ,List.set_cons_zero];rw[Int.toNat_natCast]at hA;change opsJ (Z.sys I).J _ [7,8] _ _ _ _;refine YSys.callO ((do_spec (Z.sys I) HS.out hcN op) K s Bq w HKK.out hA) rfl rfl rfl ?_ ?_ ?_
   . exact zx2m
   . exact zx2m
   clear hA;intro s e' w hp;cases e' with
   |outgrown=>exact hp
   |panicked ch=>exact⟨rfl,hp⟩
   |returned v=>
   obtain⟨a,X,⟨sl,rfl,hsl⟩,hXB,hA⟩:=hp;have hX7:X b7=none:=Classical.byContradiction λh=>by
    have:=hXB b7 h;rw[H7.out]at this;cases this
   have h7':orB X Bq b7=some (.cells #[.bool false,.int .i64 0,.slice none 0 0] 49):=by simp[orB,hX7,H7.out]
   obtain⟨sa,sn,sc,hsl'⟩:∃sa sn sc,sl=.slice sa sn sc:=by rcases hsl.2 with⟨h,_⟩|⟨_,_,_,h,_⟩<;>exact⟨_,_,_,h⟩
   subst hsl';have HQ:=Lib.hid (And.intro hsl (And.intro hXB hX7));clear hsl hXB hX7;have H7:=Lib.hid h7';clear h7';refine YSys.opsX 8 1 (λt B'=>∃(y4 y5 y8 y9 y10 y11 y12 y13 y14 y15 y16 y17 y18 y19 y20 y21 y22 y23 y24 y25 y26:Value),t=#[sv,.int .i64 who,op.val,.pointer (some ⟨vb,0,none⟩),y4,y5,.pointer (some ⟨b6,0,none⟩),.pointer (some ⟨b7,0,none⟩),y8,y9,y10,y11,y12,y13,y14,y15,y16,y17,y18,y19,y20,y21,y22,y23,y24,y25,y26]/\B'=upB (orB X Bq) b7 (.cells #[.bool a.ok,.int .i64 a.n,.slice sa sn sc] 49)) hA rfl rfl zyk ?_ ?_
   . intro wc hB X0 hX0;have HX0:=Lib.hid hX0;clear hX0;have k7:=hB.own.box b7 _ H7.out;have c70:wc.cell? ⟨b7,0,none⟩=some (.bool false):=(zq0 k7).trans rfl;have c71:wc.cell? ⟨b7,1,none⟩=some (.int .i64 0):=(zq0 k7).trans rfl;have c72:wc.cell? ⟨b7,2,none⟩=some (.slice none 0 0):=(zq0 k7).trans rfl;have f70:wc.frozen? ⟨b7,0,none⟩=false:=zq3 k7;have f71:wc.frozen? ⟨b7,1,none⟩=false:=zq3 k7;have f72:wc.frozen? ⟨b7,2,none⟩=false:=zq3 k7;clear k7;have hm:=OMoved.set3 (o1:=0) (o2:=1) (o3:=2) hB.own H7.out (.bool a.ok) (.int .i64 a.n) (.slice sa sn sc);have HM:=Lib.hid hm;clear hm hA;go_wp2;exact⟨rfl,HX0.out _ _ _ HM.out ⟨_,_,_,_,_,_,_,_,_,_,_,_,_,_,_,_,_,_,_,_,_,rfl,rfl⟩⟩
   clear hA;rintro _ _ w ⟨y4,y5,y8,y9,y10,y11,y12,y13,y14,y15,y16,y17,y18,y19,y20,y21,y22,y23,y24,y25,y26,rfl,rfl⟩ hA;refine zq1c (Z.sys I).jc ?_;refine YSys.left hA (v:=.agg #[.bool a.ok,.int .i64 a.n,.slice sa sn sc]) (λwc hB=>results_cell_row rfl _ wc b7 49 _ _ _ rfl (hB.own.box b7 _ (upB_same _ _ _)) rfl rfl rfl) λw hA=>?_;refine⟨a,X,⟨_,rfl,HQ.out.1⟩,λb hb=>?_,hA.drop λb o hb=>?_⟩
   . cases ho:B b with
     |none=>rfl
     |some o=>have:=HQ.out.2.1 b hb;rw[HLE.out b o ho]at this;cases this
   . have hne:b≠b7:=λe=>by subst e;simp[orB,HQ.out.2.2,HN.out]at hb
     rw[zq2w _ _ hne];unfold orB at hb |-;cases hx:X b with
     |none=>rw[hx]at hb;exact HLE.out b o hb
     |some y=>rw[hx]at hb;exact hb
end
theorem zq90(n:Nat)(st:Nat)(w:World):(Go.method (n+1) 141 (.pointer (some ⟨st,0,none⟩)) "Step").run Try.prog w=.ok (130,.pointer (some ⟨st,0,none⟩)) w:=by kernel_rfl
theorem zq91(n:Nat)(st:Nat)(w:World)(es:Array Event):(Go.method (n+1) 141 (.pointer (some ⟨st,0,none⟩)) "Step").events Try.prog w es=es:=by kernel_rfl
section
variable {Ml S β:Type} {C:Core Ml S} {ro:Nat->Option Obj} {i:Nat}
theorem zqk1(Y:YSys Try.prog aM C ro i β){st:Nat}(h:StepY Y 130 #[.pointer (some ⟨st,0,none⟩)]):StepY Y 48 #[.iface 141 (.pointer (some ⟨st,0,none⟩))]:=by
 intro K s m w hA;refine BodyY.calls ⟨_,_,Try.func48,rfl,?_⟩;simp only[zqe,Try.ntmps48,List.size_toArray,List.length_cons,List.length_nil,Nat.reduceAdd,Nat.reduceSub,Array.replicate_succ,Array.replicate_zero,List.push_toArray,List.append_toArray,List.nil_append,List.cons_append];have hA:Y.AtB (m.box i) s w (Proc.tick.bind K):=⟨m,rfl,hA⟩;obtain⟨B,hB0⟩:∃B,m.box i=B:=⟨_,rfl⟩;rw[hB0]at hA |-;clear hB0;apply YSys.seq0 hA zyk
 . exact zx3
 intro w hA;refine zqz Y.jc rfl ?_;rw[if_pos rfl];refine zqx Y.jc ?_;apply YSys.callS 0 1 0 hA h rfl rfl rfl zx2p rfl rfl rfl
 . exact zx2
 . exact zx2d
 . exact zx2d
 . exact zxe
 intro s w hA;refine zq1e Y.jc ?_;exact⟨rfl,.inl ⟨_,resultsC_none rfl _,(),hA.choose,rfl,hA.choose_spec⟩⟩
end
theorem zqfn{S1:Type}{i:Nat}{dop:OpX->Proc (S1×(Nat->List Ans)) Ans}{k:Nat}(h:∀op,(dop op).Deep k):∀l,(opsP i dop l).Deep k:=by
 intro l
 induction l with
 |nil=>exact Proc.Deep.ret _
 |cons op l ih=>exact(h op).bind λa=>(Proc.Deep.act _).bind λ_=>ih
section
variable {M1 S1:Type} {C:Core M1 S1} {RP:Nat->Option Obj} {l₀:M1} {w wa w1 w2:World} {N n most:Nat} {sp:Nat->Option Addr} {L Cp:Nat->Nat} {ob ib:Nat->Nat} {dv fv v:Value} {pr:Nat->Proc (S1×(Nat->List Ans)) Unit} {sched:List Int} {b:OSt (TM (M1×AnsM) (S1×(Nat->List Ans)))} {m':TM (M1×AnsM) (S1×(Nat->List Ans))} {g:Nat}
def mOps(l₀:M1)(room:Nat):TM (M1×AnsM) (S1×(Nat->List Ans)):=⟨⟨(l₀,ans0),λ_ _=>none⟩,λ_=>.ret (),room⟩
theorem ops_rep0{ro:Nat->Option Obj}{ab:Nat}{room:Nat}(h:BRep (zqc C (zqr tT ab N)) ro ⟨(l₀,ans0),λ_ _=>none⟩ w1):(thrOf (zqc C (zqr tT ab N)) ownA ro pr).Rep (mOps l₀ room) w1:=⟨h,λi=>trivial⟩
theorem zq5p{ro:Nat->Option Obj}{ab room x:Nat}(h:(thrOf (zqc C (zqr tT ab N)) ownA ro pr).foot (mOps l₀ room) x):C.foot l₀ x\/x=ab\/ro x≠none:=by
 rcases h with(h|h|⟨i,hi,h⟩)|⟨i,h⟩|h
 . exact .inl h
 . exact .inr (.inl h)
 . exact absurd rfl h
 . exact absurd rfl h
 . exact .inr (.inr h)
theorem ops_res(hR:DRes wa N dv sp L Cp N ob ib fv w1)(hb:BRep C RP ⟨l₀,λ_ _=>none⟩ wa){room:Nat}
 (ho:Over1 (thrOf (zqc C (zqr tT (wa.heap.size+1) N)) ownA (roOf RP wa.heap.size N ob ib w1) pr) N most sched (mOps l₀ room) w1 b m' v g w2):
 OpsRes C N l₀ wa (playT pr N most sched (C.st l₀,λ_=>[])) (wa.heap.size+1) v m'.bm.l.1 m'.bm.l.2 w2/\leftN b.ov N=leftN (playT pr N most sched (C.st l₀,λ_=>[])).ov N:=by
 obtain⟨hs,he⟩:=ran_T (m₀:=mOps l₀ room) rfl ho.ran;have hs0:(zqc C (zqr tT (wa.heap.size+1) N)).st (mOps (S1:=S1) l₀ room).bm.l=(C.st l₀,λ_=>[]):=rfl;rw[hs0]at hs;have hst:(C.st m'.bm.l.1,m'.bm.l.2.st)=(playT pr N most sched (C.st l₀,λ_=>[])).s:=he.trans hs.st;have hB:=ho.rep.1;have hsz:=hR.size;have hsz2:=ho.size;have hrl:∀x o,RP x=some o->x<wa.heap.size:=λx o h=>zq7 (hb.rod x o h);have hrn:∀x,roOf RP wa.heap.size N ob ib w1 x≠none->RP x≠none\/wa.heap.size<=x:=λx h=>by
  cases hx:roOf RP wa.heap.size N ob ib w1 x with
  |none=>exact absurd hx h
  |some o=>
   rcases zq4s hx with h|⟨h,_⟩
   . exact .inl (by rw[h];simp)
   . right
     rcases h with h|h|⟨i,hi,h⟩
     . omega
     . omega
     . have:=hR.lo i hi;rcases h with h|h<;>omega
 have hfn:∀x,(thrOf (zqc C (zqr tT (wa.heap.size+1) N)) ownA (roOf RP wa.heap.size N ob ib w1) pr).foot m' x->roOf RP wa.heap.size N ob ib w1 x=none->C.foot l₀ x\/wa.heap.size<=x:=λx h hn=>by
  rcases ho.foot x h with h|h
  . rcases zq5p h with h|h|h
    . exact .inl h
    . exact .inr zyo
    . exact absurd hn h
  . exact .inr zyo
 have hcr:∀x,C.foot m'.bm.l.1 x->roOf RP wa.heap.size N ob ib w1 x=none:=λx h=>Classical.byContradiction λy=>hB.rol x y (.inl h);refine⟨⟨hB.core.1,congrArg Prod.fst hst,hB.core.2.1,congrArg Prod.snd hst,by omega,λx hx hf=>?_,λx hx=>hfn x (.inl (.inl hx)) (hcr x hx),by omega,λi x hi hx=>hfn x (.inl (.inr (.inr ⟨i,hi,hx⟩))) (Classical.byContradiction λy=>hB.rol x y (.inr (.inr ⟨i,hi,hx⟩))),λx hx=>?_,?_,λx hx=>?_⟩,?_⟩
 . by_cases hro:roOf RP wa.heap.size N ob ib w1 x=none
   . refine(ho.old x zyo λh=>?_).trans (hR.old x hx);rcases zq5p h with h|h|h
     . exact hf h
     . omega
     . exact h hro
   . cases hx2:roOf RP wa.heap.size N ob ib w1 x with
     |none=>exact absurd hx2 hro
     |some o=>
      rw[hB.rod x o hx2];rcases zq4s hx2 with h|⟨h,_⟩
      . exact(hb.rod x o h).symm
      . exfalso;rcases h with h|h|⟨i,hi,h⟩
        . omega
        . omega
        . have:=hR.lo i hi;rcases h with h|h<;>omega
 . have h:=hB.core.2.2 x hx;exact⟨λe=>h (.inl e),λi hi=>Classical.byContradiction λy=>h (.inr ⟨i,hi,y⟩)⟩
 . have:=ho.row;rw[hs.ord]at this;exact zq3k this zyo
 . have h:=(ho.rowf x hx).1;exact⟨λy=>h (.inl (.inl y)),λe=>h (.inl (.inr (.inl e))),λi hi=>Classical.byContradiction λy=>h (.inl (.inr (.inr ⟨i,hi,y⟩)))⟩
 . exact zq6l λi _=>by rw[hs.ov]
theorem OpsRes.ext {r:TSt (S1×(Nat->List Ans))}{ab:Nat}{l':M1}{am:AnsM}{w':World}(h:OpsRes C N l₀ wa r ab v l' am w2){H:Nat}(hw:w.heap.size=H)(hwa:wa.heap.size=H+1)(hoa:∀b,b<H->wa.heap[b]?=w.heap[b]?)(hl:∀b,C.foot l₀ b->b<H)(hsz:w2.heap.size<=w'.heap.size)(hold:∀x,x<w2.heap.size->x≠H->w'.heap[x]?=w2.heap[x]?):OpsRes C N l₀ w r ab v l' am w':=by
 have hs:=h.size;have hab:=h.abl;have hcn:∀b,C.foot l' b->b≠H:=λb hb e=>by
  rcases h.foot b hb with h2|h2
  . have:=hl b h2;omega
  . omega
 have han:∀i b,i<N->am.X i b≠none->b≠H:=λi b hi hb e=>by
  rcases h.ansn i b hi hb with h2|h2
  . have:=hl b h2;omega
  . omega
 refine⟨C.frame _ _ _ h.rep λb hb=>hold b (C.lt _ _ _ h.rep hb) (hcn b hb),h.st,⟨(hold ab (zq7 h.ans.hd) zyo).trans h.ans.hd,h.ans.row,λi b o hi hb=>(hold b (zq7 (h.ans.blk i b o hi hb)) (han i b hi zx41)).trans (h.ans.blk i b o hi hb),h.ans.nab,h.ans.sep⟩,h.ast,by omega,λb hb hf=>(hold b zyo zyo).trans ((h.old b zyo hf).trans (hoa b zyo)),λb hb=>(h.foot b hb).imp id (λx=>by omega),by omega,λi b hi hb=>(h.ansn i b hi hb).imp id (λx=>by omega),h.anf,?_,h.rowf⟩;refine zq3k (zqs h.row λg hg=>hold g (own_lt h.row hg).2.2 ?_) zyo;have:=(own_lt h.row hg).2.1;omega
end
theorem DRes.re {w w':World}{N n:Nat}{dv:Value}{sp:Nat->Option Addr}{L Cp:Nat->Nat}{ob ib:Nat->Nat}{fv:Value}(h:DRes w N dv sp L Cp n ob ib fv w')(τ:Nat->Question->Nat)(d:Nat):DRes w N dv sp L Cp n ob ib fv (Go.Car.re w' τ d):=h.of_heap rfl
theorem DRes.of_re {w w':World}{τ:Nat->Question->Nat}{d:Nat}{N n:Nat}{dv:Value}{sp:Nat->Option Addr}{L Cp:Nat->Nat}{ob ib:Nat->Nat}{fv:Value}(h:DRes (Go.Car.re w τ d) N dv sp L Cp n ob ib fv w'):DRes w N dv sp L Cp n ob ib fv w':=
 ⟨h.size,h.old,h.db,h.ab,h.hb,h.frow,h.obx,h.ibx,h.lo,h.inc⟩
theorem zqfp{w:World}{B N:Nat}{T:TypeId}{v:Value}{xs:List Value}(h:w.ownsRow B T 1 v N xs):∃p C,v=.slice p N C/\(v.ownBlock=p.map (·.block))/\(0<N->∃g,p=some ⟨g,0,none⟩/\v.ownBlock=some g/\∀i x,xs[i]?=some x->w.cell? ⟨g,i,none⟩=some x):=by
 rcases h.2 with⟨hv,h0⟩|⟨g,cap,cur,hv,hb,hh,h1,h2,h3,h4⟩
 . subst h0;exact⟨none,0,hv,by rw[hv];rfl,λh=>absurd h (Nat.lt_irrefl _)⟩
 . refine⟨_,cap,hv,by rw[hv];rfl,λ_=>⟨g,rfl,by rw[hv];rfl,λi x hx=>?_⟩⟩;rw[zq0 (off:=i) hh];have hi:i<xs.length:=(List.getElem?_eq_some_iff.1 hx).1;have hl:=h.1;rw[<-h4,List.getElem?_take]at hx;split at hx
   . simpa using hx
   . cases hx
theorem zqfo{Fin:Machine->Trace->Prop}(hFin:Back Try.prog Fin){n:Nat}(hn:0<n){A:FuncId->Bool}(hP:Plain Try.prog A)(hRS:RowsS Try.prog A){M1 S1:Type}{C:Core M1 S1}{RP:Nat->Option Obj}{l₀:M1}{w:World}
 {np Cn N Cs:Nat} {pp scp:Option Addr} {sp:Nat->Option Addr} {L Cp:Nat->Nat} {ops:Nat->List OpX} {sched:List Int} {mo:Int} {f:FuncId} {first caps:Array Value} {fn:Func} {cc:Code} (hf:Try.prog.funcs[f]?=some fn) (hb':fn.body=some cc) (hnm:(fn.name== "runtime.NumGoroutine")=false)
 (hb:BRep C RP ⟨l₀,λ_ _=>none⟩ w) (ho:OpsAt w RP pp np N sp L Cp ops) (hsl:sched.length<=4611686018427387904)
 (hs:sched≠[]->∃sb off,scp=some ⟨sb,off,none⟩/\¬C.foot l₀ sb/\∀j x,sched[j]?=some x->w.cell? ⟨sb,off+j,none⟩=some (.int .i64 x))
 {dop:Nat->OpX->Proc (S1×(Nat->List Ans)) Ans} (hdeep:∀i op k,(dop i op).Deep k)
 (hdo:∀(ro:Nat->Option Obj)(ab:Nat)(pr:Nat->Proc (S1×(Nat->List Ans)) Unit)(st:Nat)(cr:Frame)(rest:List Frame)(EN:List PanicEntry->Prop)(i:Nat)(o:List Ans)(op:OpX),(∀b x,RP b=some x->ro b=some x)->i<N->
  SpecR (zq3o hP hRS (zqc C (zqr tT ab N)) ownA ro pr 130 (.pointer (some ⟨st,0,none⟩)) cr rest NEnd EN i o) f (first++#[.iface 141 (.pointer (some ⟨st,0,none⟩)),.int .i64 i,op.val]++caps) (dop i op) (AnsV 2))
 {c:Frame} {cs:List Frame}
 (hmain:∀ab v l' am w',OpsRes C N l₀ w (playT (λi=>opsP i (dop i) (ops i)) N (min mo.toNat 1048576) sched (C.st l₀,λ_=>[])) ab v l' am w'->
  J0 Try.prog Fin (n+N) (G (c.finish (.agg #[.slice (some ⟨ab,0,none⟩) N N,v,.slice none 0 0,.bool (decide (0<leftN (playT (λi=>opsP i (dop i) (ops i)) N (min mo.toNat 1048576) sched (C.st l₀,λ_=>[])).ov N))])) cs) w'):
 J0 Try.prog Fin n (G (Frame.enter Try.prog 35 #[.slice pp np Cn,.func (.func f) first caps,.slice scp sched.length Cs,.int .i64 mo] .normal) (c::cs)) w:=by
 have hJ:=j0_JS hFin;have hC:=zq1d hFin;have e:Frame.enter Try.prog 35 #[.slice pp np Cn,.func (.func f) first caps,.slice scp sched.length Cs,.int .i64 mo] .normal=(bN 35).at (zqe Try.f35 #[.slice pp np Cn,.func (.func f) first caps,.slice scp sched.length Cs,.int .i64 mo]) [.code ((Try.f35.body).getD .skip)]:=by kernel_rfl
 have ea:zqe Try.f35 #[.slice pp np Cn,.func (.func f) first caps,.slice scp sched.length Cs,.int .i64 mo]=⟨#[.slice pp np Cn,.func (.func f) first caps,.slice scp sched.length Cs,.int .i64 mo,undef,undef,undef,undef,undef,undef,undef,undef,undef,undef,undef,undef,undef,undef,undef,undef,undef,undef,undef,undef,undef,undef,undef,undef,undef,undef,undef,undef],[]⟩:=by kernel_rfl
 rw[e,ea,ops0];clear e ea;have hm:=Lib.hid hmain;clear hmain;obtain⟨H,hH⟩:∃H,w.heap.size=H:=⟨_,rfl⟩;refine hJ.ctl (s:=n) (λw=>stepG_seq) ?_;refine zq4c hJ hC zq6x zyk (λt w'=>t=#[.slice pp np Cn,.func (.func f) first caps,.slice scp sched.length Cs,.int .i64 mo,undef,undef,undef,undef,.pointer (some ⟨H,0,none⟩),undef,undef,undef,undef,undef,undef,undef,undef,undef,undef,undef,undef,undef,undef,undef,undef,undef,undef,undef,undef,undef,undef,undef]/\∃τ d,w'=re (w.alloc (.cells #[.slice none 0 0,.slice none 0 0,.slice none 0 0,.bool false] 29)) τ d) (λt w' τ d h=>⟨h.1,by obtain⟨τ',d',rfl⟩:=h.2;exact⟨τ,d,by rw[re_re]⟩⟩) zyd (λτ d=>?_) ?_
 . obtain⟨u0,hu0⟩:∃c,headC (opsT 0)=c:=⟨_,rfl⟩;have eu0:=hu0;rw[hu0];simp only[opsT,headC,tailN,Try.f35,al_od]at eu0;subst eu0;clear hu0 hdo hdeep hs ho hb hf hb' hnm;go_wp2;exact⟨rfl,rfl,τ,d,rfl⟩
 rintro t w' ⟨rfl,τ,d,rfl⟩;refine hJ.re' n _ _ τ d ?_;have hwa:(w.alloc (.cells #[.slice none 0 0,.slice none 0 0,.slice none 0 0,.bool false] 29)).heap.size=H+1:=by rw[zq4,hH]
 have hob:∀b,b<H->(w.alloc (.cells #[.slice none 0 0,.slice none 0 0,.slice none 0 0,.bool false] 29)).heap[b]?=w.heap[b]?:=λb hb=>by rw[zq6,if_neg zyo]
 have hzb:(w.alloc (.cells #[.slice none 0 0,.slice none 0 0,.slice none 0 0,.bool false] 29)).heap[H]?=some (.cells #[.slice none 0 0,.slice none 0 0,.slice none 0 0,.bool false] 29):=hH▸zqo w _;obtain⟨wa,hwae⟩:∃wa,w.alloc (.cells #[.slice none 0 0,.slice none 0 0,.slice none 0 0,.bool false] 29)=wa:=⟨_,rfl⟩;rw[hwae]at hwa hob hzb |-;clear hwae;have hlw:∀b,C.foot l₀ b->b<H:=λb h=>by rw[<-hH];exact C.lt _ _ _ hb.core h
 have hba:BRep C RP ⟨l₀,λ_ _=>none⟩ wa:=hb.frame λb h=>hob b (by rw[<-hH];exact hb.lt h);have hat:0<np->∃tb to',pp=some ⟨tb,to',none⟩/\∀i,i<N->wa.cell? ⟨tb,to'+i,none⟩=some (.slice (sp i) (L i) (Cp i)):=λh0=>by
  obtain⟨tb,to',e,h1⟩:=ho.at' h0;exact⟨tb,to',e,λi hi=>(zqy (hob tb (by rw[<-hH];exact cell_lt (h1 i hi)))).trans (h1 i hi)⟩
 have hs2:sched≠[]->∃sb off,scp=some ⟨sb,off,none⟩/\¬C.foot l₀ sb/\sb<H/\∀j x,sched[j]?=some x->wa.cell? ⟨sb,off+j,none⟩=some (.int .i64 x):=λh0=>by
  obtain⟨sb,off,e,h1',h2⟩:=hs h0;obtain⟨x,l,hsl⟩:=List.exists_cons_of_ne_nil h0;have hlt:sb<H:=by rw[<-hH];exact cell_lt (h2 0 x (by rw[hsl];rfl))
  exact⟨sb,off,e,h1',hlt,λj x hj=>(zqy (hob sb hlt)).trans (h2 j x hj)⟩
 have hNe:=ho.eq;have hN64:N<=64:=by omega
 have hnp:=ho.le;have hrow:=ho.row;have hlen:=ho.len;have hop:=ho.op;clear ho hs hb;refine hJ.ctl (s:=n) (λw=>stepG_seq) ?_;refine zq4c hJ hC zq6x zyk (λt w'=>∃ob ib fv,t=#[.slice pp np Cn,.func (.func f) first caps,.slice scp sched.length Cs,.int .i64 mo,undef,undef,undef,undef,.pointer (some ⟨H,0,none⟩),fv,.slice (some ⟨H+1+1,0,none⟩) N N,undef,undef,undef,.tuple #[fv,.slice (some ⟨H+1+1,0,none⟩) N N],.slice pp np Cn,.func (.func f) first caps,.tuple #[fv,.slice (some ⟨H+1+1,0,none⟩) N N],fv,.slice (some ⟨H+1+1,0,none⟩) N N,undef,undef,undef,undef,undef,undef,undef,undef,undef,undef,undef,undef]/\DRes wa N (.func (.func f) first caps) sp L Cp N ob ib fv w') (λt w' τ d h=>?_) zyd (λτ d=>?_) ?_
 . obtain⟨ob,ib,fv,h1,h2⟩:=h;exact⟨ob,ib,fv,h1,h2.re τ d⟩
 . obtain⟨u0,hu0⟩:∃c,headC (opsT 1)=c:=⟨_,rfl⟩;have eu0:=hu0;rw[hu0];simp only[opsT,headC,tailN,Try.f35,al_od]at eu0;subst eu0;clear hu0;have HM:=Lib.hid (zqdv (pp:=pp) (n:=np) (Cn:=Cn) (dv:=.func (.func f) first caps) (sp:=sp) (L:=L) (Cp:=Cp) ⟨_,_,_,rfl⟩ (re wa τ d) hnp (λi hi=>hrow i (by rw[hNe];exact hi)) (λh0=>by
    obtain⟨tb,to',e,h1⟩:=hat h0;exact⟨tb,to',e,λi hi=>h1 i (by rw[hNe];exact hi)⟩))
   rw[<-hNe]at HM;have HH:=Lib.hid (And.intro hH hwa);clear hs2 hat hlw hba hob hzb hH hwa hNe hN64 hnp hrow hlen hop hdo hdeep hf hb' hnm hsl
   go_wp2_with (fail)
   refine Calls.mono HM.out ?_;rintro e w' ⟨ob,ib,fv,rfl,hR⟩;have hR2:=Lib.hid hR.of_re;clear hR;rw[show(re wa τ d).heap.size=H+1 from HH.out.2];go_wp2;exact⟨rfl,ob,ib,fv,rfl,hR2.out⟩
 rintro t w1 ⟨ob,ib,fv,rfl,hR⟩;obtain⟨fp,Cf,rfl,hfo,hfp⟩:=zqfp hR.frow;refine hJ.ctl (s:=n) (λw=>stepG_seq) ?_;have hrep1:=ops_rep hR hba;obtain⟨u0,hu0⟩:∃c,headC (opsT 2)=c:=⟨_,rfl⟩;have eu0:=hu0;rw[hu0];simp only[opsT,headC,tailN,Try.f35,al_od]at eu0;subst eu0;clear hu0;refine hJ.ctl (s:=n) (λw=>stepG_region) ?_;have HR:=Lib.hid hR;have HP:=Lib.hid hrep1;have HX:=Lib.hid (And.intro hat (And.intro hs2 (And.intro hob (And.intro hzb (And.intro hwa (And.intro hlw (And.intro hba (And.intro hrow (And.intro hlen hop)))))))));have HA:=Lib.hid (And.intro hfo hfp);have HNE:=Lib.hid hNe;clear hNe;have HD:=Lib.hid (And.intro hdo (And.intro hdeep (And.intro hf (And.intro hb' hnm))));clear hR hrep1 hat hs2 hob hzb hwa hfo hfp hlw hba hrow hlen hop hdo hdeep hf hb' hnm;refine zq12 (s:=n) zyd hJ (zqu _) true (.inl rfl) 0 3 8 rfl rfl rfl zx2p ?_;intro τ d;simp only[List.drop_zero,List.take_succ_cons,List.take_zero];go_wp2;simp only[zqi];refine hJ.re' n _ _ τ d ?_;refine zq21 zyd hJ (s:=n) rfl rfl (f:=22) (args:=#[.slice fp N Cf,.slice scp sched.length Cs,.int .i64 mo]) (λτ d=>?_) (λτ d=>?_) ?_
 . simp[go_sem,execOp,Act.eval,resolve,Deferred.ofValue,invoke,callFunc,Try.func22,Try.f22]
 . intro e he;simp[go_sem,execOp,Act.eval,resolve,Deferred.ofValue,invoke,callFunc,Try.func22,Try.f22,Sem.runT_eq]at he
 obtain⟨hat,hs2,hob,hzb,hwa,hlw,hba,hrow,hlen,hop⟩:=HX.out;obtain⟨hfo,hfp⟩:=HA.out;obtain⟨hdo,hdeep,hf,hb',hnm⟩:=HD.out;have hRo:∀i,i<N->DoRo (roOf RP wa.heap.size N ob ib w1) i N (wa.heap.size+1) (ob i) wa.heap.size (ib i) (wa.heap.size+2) (sp i) (min (L i) 65536) (Cp i) (ops i) f first caps:=λi hi=>ops_ro HR.out hba hN64 hlen hop hi
 have hfree:∀x,wa.heap.size+3<=x->w1.heap[x]?≠none->(∀i,i<N->x≠ob i/\x≠ib i)->¬(C.foot l₀ x\/x=wa.heap.size+1\/roOf RP wa.heap.size N ob ib w1 x≠none):=λx hx _ hne h=>by
  rcases h with h|h|h
  . have:=hlw x h;omega
  . omega
  . cases ho:roOf RP wa.heap.size N ob ib w1 x with
    |none=>exact h ho
    |some o=>
     rcases zq4s ho with h2|⟨h2,_⟩
     . have:=zq7 (hba.rod x o h2);omega
     . rcases h2 with h2|h2|⟨i,hi,h2|h2⟩
       . omega
       . omega
       . exact(hne i hi).1 h2
       . exact(hne i hi).2 h2
 refine zqfx hFin (T:=thrOf (zqc C (zqr tT (wa.heap.size+1) N)) ownA (roOf RP wa.heap.size N ob ib w1) (λi=>opsP i (dop i) (ops i))) (m₀:=mOps l₀ (min mo.toNat 1048576+100)) (N:=N) (most:=min mo.toNat 1048576) (tv:=λi=>cloD wa.heap.size (ob i) (ib i)) (sched:=sched) hn (by have:=HNE.out;omega) rfl (ops_rep0 HP.out) (Nat.le_refl _) ?_ (λi hi=>?_) ?_ ?_
 . intro h0;obtain⟨g,e,hg,hc⟩:=hfp h0;refine⟨g,e,λhf=>?_,λi hi=>hc i _ (by simp[clsD,hi])⟩;obtain⟨⟨cc,hcc⟩,hlo,hlt⟩:=own_lt HR.out.frow hg;refine hfree g hlo (by rw[hcc];simp) (λi hi=>⟨λe=>?_,λe=>?_⟩) (zq5p hf)
   . exact zq14 hcc (HR.out.obx i hi) zyd e
   . exact zq14 hcc (HR.out.ibx i hi) zyd e
 . refine thr_runs hP hRS (fn:=Try.f84) (c:=(Try.f84.body).getD .skip) Try.func84 rfl rfl (λk=>zqfn (λop=>hdeep i op k) _) (λst cr rest EN s m w hA hown=>?_);exact zqdu hP hRS hf hb' hnm (hRo i hi) (λo op=>hdo _ _ _ st cr rest EN i o op (λb x h=>zq6y h) hi) s m w hA hown
 . refine⟨hsl,scp,Cs,rfl,λh0=>?_⟩;obtain⟨sb,off,e,h1',h2,h3⟩:=hs2 h0;refine⟨sb,off,e,λj x hj=>?_⟩;cases h1:RP sb with
   |some o=>exact .inr λm w h=>(zqy ((h.1.rod sb o (zq6y h1)).trans (hba.rod sb o h1).symm)).trans (h3 j x hj)
   |none=>
   refine .inl ⟨(zqy (HR.out.old sb zyo)).trans (h3 j x hj),by have:=HR.out.size;omega,λhf=>?_⟩;rcases zq5p hf with h4|h4|h4
   . exact h1' h4
   . omega
   . cases ho:roOf RP wa.heap.size N ob ib w1 sb with
     |none=>exact h4 ho
     |some o=>
      rcases zq4s ho with h5|⟨h5,_⟩
      . rw[h1]at h5;cases h5
      . rcases h5 with h5|h5|⟨i,hi,h5⟩
        . omega
        . omega
        . have:=HR.out.lo i hi;rcases h5 with h5|h5<;>omega
 intro b m' v g capg w2 ho;obtain⟨hres,hleft⟩:=ops_res HR.out hba ho;have hvrow:=ho.row;clear ho;rw[Frame.finish_at]
 walk_nrm
 obtain⟨pv',cv',rfl,_⟩:=zq2d hvrow;clear hvrow;generalize b.ord.length=nv' at hres |-;have HO:=Lib.hid hres;rw[hleft];have hHw:=zq7 hzb;clear hleft hres;obtain⟨stuck,hstuck⟩:∃x,decide (0<leftN (playT (λi=>opsP i (dop i) (ops i)) N (min mo.toNat 1048576) sched (C.st l₀,λ_=>[])).ov N)=x:=⟨_,rfl⟩;rw[hstuck];have HST:=Lib.hid hstuck;clear hstuck;refine zq12 (s:=n+N) zyd hJ (zqu _) true (.inl rfl) 4 7 0 rfl rfl rfl zx2p ?_;intro τ d;simp only[List.drop_succ_cons,List.drop_zero,List.take_succ_cons,List.take_zero];go_wp2;simp only[zqi];refine hJ.re' (n+N) _ _ τ d ?_;refine hJ.ctl (s:=n+N) (λw=>stepG_region_end) ?_;have hze:w2.heap[H]?=some (.cells #[.slice none 0 0,.slice none 0 0,.slice none 0 0,.bool false] 29):=(HO.out.old H hHw (λh=>by have:=hlw H h;omega)).trans hzb;refine zq6a hJ hC zq6x zyk (λv w'=>v=.agg #[.slice (some ⟨H+1+1,0,none⟩) N N,.slice pv' nv' cv',.slice none 0 0,.bool stuck]/\∃l' am,OpsRes C N l₀ w (playT (λi=>opsP i (dop i) (ops i)) N (min mo.toNat 1048576) sched (C.st l₀,λ_=>[])) (H+1+1) (.slice pv' nv' cv') l' am w') (λv w' τ d⟨h1,l',am,h2⟩=>⟨h1,l',am,h2.re τ d⟩) rfl Try.func35 (λτ d=>?_) ?_
 . obtain⟨u0,hu0⟩:∃c,opsT 3=c:=⟨_,rfl⟩;have eu0:=hu0;rw[hu0];simp only[opsT,headC,tailN,Try.f35,al_od]at eu0;subst eu0;clear hu0;have HZ:=Lib.hid (And.intro hH (And.intro hwa (And.intro hob hlw)));have b0:(re w2 τ d).heap[H]?=some (.cells #[.slice none 0 0,.slice none 0 0,.slice none 0 0,.bool false] 29):=hze;have hre:=HO.out.re τ d;clear HO;generalize re w2 τ d=w3 at b0 hre |-;have HPR:=Lib.hid hre;clear hre hfree hRo hat hs2 hob hzb hwa hlw hba hrow hlen hop hfo hfp hdo hdeep hf hb' hnm hze hHw HX HA HD HP HR hH hsl hN64 hnp hm;have r0:=(zq0 (off:=0) b0).trans rfl;have r1:=(zq0 (off:=1) b0).trans rfl;have r2:=(zq0 (off:=2) b0).trans rfl;have r3:=(zq0 (off:=3) b0).trans rfl;have z0:=zq3 (off:=0) b0;have z1:=zq3 (off:=1) b0;have z2:=zq3 (off:=2) b0;have z3:=zq3 (off:=3) b0;have B0:=Lib.hid b0;clear b0;go_wp2;clear r0 r1 r2 r3 z0 z1 z2 z3;have b1':=zqa w3 H 0 (.slice (some ⟨H+1+1,0,none⟩) N N) B0.out;have b2':=zqa _ H 1 (.slice pv' nv' cv') b1';have b3':=zqa _ H 2 (.slice none 0 0) b2';have b4':=zqa _ H 3 (.bool stuck) b3';have hext:∀x,x<w3.heap.size->x≠H->((((w3.setCell ⟨H,0,none⟩ (.slice (some ⟨H+1+1,0,none⟩) N N)).setCell ⟨H,1,none⟩ (.slice pv' nv' cv')).setCell ⟨H,2,none⟩ (.slice none 0 0)).setCell ⟨H,3,none⟩ (.bool stuck)).heap[x]?=w3.heap[x]?:=λx _ hx=>by
    rw[zq8 _ _ _ _ hx,zq8 _ _ _ _ hx,zq8 _ _ _ _ hx,zq8 _ _ _ _ hx]
   have hsz8:((((w3.setCell ⟨H,0,none⟩ (.slice (some ⟨H+1+1,0,none⟩) N N)).setCell ⟨H,1,none⟩ (.slice pv' nv' cv')).setCell ⟨H,2,none⟩ (.slice none 0 0)).setCell ⟨H,3,none⟩ (.bool stuck)).heap.size=w3.heap.size:=by simp only[zqf]
   generalize ((((w3.setCell ⟨H,0,none⟩ (.slice (some ⟨H+1+1,0,none⟩) N N)).setCell ⟨H,1,none⟩ (.slice pv' nv' cv')).setCell ⟨H,2,none⟩ (.slice none 0 0)).setCell ⟨H,3,none⟩ (.bool stuck))=w8 at b4' hext hsz8 |-;clear b1' b2' b3';have k0:=(zq0 (off:=0) b4').trans rfl;have k1:=(zq0 (off:=1) b4').trans rfl;have k2:=(zq0 (off:=2) b4').trans rfl;have k3:=(zq0 (off:=3) b4').trans rfl;have hres:=HPR.out;rw[HZ.out.2.1]at hres;refine⟨rfl,.agg #[.slice (some ⟨H+1+1,0,none⟩) N N,.slice pv' nv' cv',.slice none 0 0,.bool stuck],?_,_,rfl,rfl,_,_,hres.ext HZ.out.1 HZ.out.2.1 HZ.out.2.2.1 HZ.out.2.2.2 zyo hext⟩;simp only[results,Try.f35];simp[go_sem,k0,k1,k2,k3]
 . rintro v w' ⟨rfl,l',am,h⟩;have h2:=hm.out _ _ l' am w' h;rw[HST.out]at h2;exact h2
section
variable {M2 S2 β:Type} {D:Core M2 S2} {ro:Nat->Option Obj} {i:Nat} {T:NumT}
theorem zq9d(Z:Alone Try.prog aM (zqc (zqg T) D) ro i β){I:Nums×S2->Prop}(hI:∀g g' s,I (g,s)->I (g',s))(hO:∀g g' s,Z.Oth (g,s) (g',s))(hl:∀c,c<T.N->T.len c=3){sv:Value}(hs:StepY (Z.sys I) 48 #[sv]):zq48 (Z.sys I) sv where
 base:=⟨hl,zq95 Z hI hO,hs⟩
 maker hc _ _ _ _ h3 h5:=zqf1 Z ⟨hl,zq95 Z hI hO,hs⟩ hc h3 h5
end
theorem zqds{T:NumT}{N ab vb pb Cp:Nat}{ps:Array Value}(hN:T.N<=64)(hl:∀c,c<T.N->T.len c=3)(ro:Nat->Option Obj)(hv:ro vb=some (.cells #[.slice (some ⟨pb,0,none⟩) T.N Cp] 108))(hp:ro pb=some (.cells ps 35))(hps:∀c,c<T.N->ps[c]?=some (.pointer (some ⟨T.ob c,0,none⟩)))
 (pr:Nat->Proc (Nums×(Nat->List Ans)) Unit) (st:Nat) (cr:Frame) (rest:List Frame) (EN:List PanicEntry->Prop) (i:Nat) (o:List Ans) (op:OpX):
 SpecR (zq3o zqp rowsM (zqc (zqg T) (zqr tT ab N)) ownA ro pr 130 (.pointer (some ⟨st,0,none⟩)) cr rest NEnd EN i o) 63 (#[]++#[.iface 141 (.pointer (some ⟨st,0,none⟩)),.int .i64 i,op.val]++#[.pointer (some ⟨vb,0,none⟩)]) (doerP T.N op) (AnsV 2):=
 zqdr _ (I:=λs=>ownA i s=o) (zq9d _ (λg g' s h=>h) (λg g' s j _=>rfl) hl (zqk1 _ (thr_step zqp rowsM o))) hv hp hps hN (i:Int) op
section
variable {S2:Type}
theorem tickN_deep{k:Nat}:(Proc.tick:Proc (Nums×S2) Unit).Deep k:=(Proc.Deep.ret _).then
theorem zq2c{α:Type}{k:Nat}(f:Nums->Nums×α):(onN f:Proc (Nums×S2) α).Deep k:=Proc.Deep.act _
theorem zq5c(k c:Nat):(getP c:Proc (Nums×S2) (Int×Bool)).Deep k:=by
 unfold getP;refine(tickN_deep.bind λ_=>zq2c _).bind λx=>?_;split
 . exact(tickN_deep.bind λ_=>zq2c _).bind λ_=>Proc.Deep.ret _
 . exact Proc.Deep.ret _
theorem zq8f(k c:Nat)(v:Int):(finP c v:Proc (Nums×S2) Unit).Deep k:=(tickN_deep.bind λ_=>zq2c _).bind λ_=>tickN_deep.bind λ_=>zq2c _
theorem zqa7(k c:Nat)(v:Int):(setP c v:Proc (Nums×S2) (Int×Bool)).Deep k:=by
 unfold setP;refine(tickN_deep.bind λ_=>zq2c _).bind λx=>?_;split
 . exact(zq8f _ _ _).bind λ_=>Proc.Deep.ret _
 . exact(zq5c _ _).bind λ_=>Proc.Deep.ret _
theorem zq4n(k c:Nat){mk:Proc (Nums×S2) (Int×Bool)}(hm:mk.Deep k):∀n,(makeL c mk n:Proc (Nums×S2) (Int×Int)).Deep k
 |0=>Proc.Deep.ret _
 |n+1=>by
  unfold makeL;refine(zq5c _ _).bind λx=>?_;split
  . exact Proc.Deep.ret _
  . refine(tickN_deep.bind λ_=>zq2c _).bind λb=>?_;split
    . refine(tickN_deep.bind λ_=>zq2c _).bind λ_=>hm.bind λv=>?_;split
      . exact(zq8f _ _ _).bind λ_=>Proc.Deep.ret _
      . exact(tickN_deep.bind λ_=>zq2c _).bind λ_=>Proc.Deep.ret _
    . exact zq4n k c hm n
theorem zq9c(k c:Nat)(op:OpX):(onceP c op:Proc (Nums×S2) Ans).Deep k:=by
 unfold onceP
 repeat' split
 . exact(zq5c _ _).bind λ_=>Proc.Deep.ret _
 . exact(zqa7 _ _ _).bind λ_=>Proc.Deep.ret _
 . exact(zq4n _ _ (tickN_deep.bind λ_=>zq2c _) _).bind λ_=>Proc.Deep.ret _
 . exact(zq4n _ _ (Proc.Deep.ret _) _).bind λ_=>Proc.Deep.ret _
 . exact Proc.Deep.ret _
theorem zqdp(k N:Nat)(op:OpX):(doerP N op:Proc (Nums×S2) Ans).Deep k:=by
 unfold doerP;split
 . exact Proc.Deep.ret _
 . exact zq9c _ _ _
end
theorem zq6u(w:World):Calls Try.prog 13 #[] w λe w'=>e=.returned (.pointer (some ⟨w.heap.size,0,none⟩))/\w'=w.alloc (.cells #[.int .i64 0,.int .i64 0,.int .i64 0] 43):=by
 go_enter Try.func13,Try.ntmps13
 go_wp2;go_ret;exact⟨rfl,rfl⟩
theorem zq5q{w:World}{b:Nat}{s v c:Int}(h0:w.cell? ⟨b,0,none⟩=some (.int .i64 s))(h1:w.cell? ⟨b,1,none⟩=some (.int .i64 v))(h2:w.cell? ⟨b,2,none⟩=some (.int .i64 c)):
 Calls Try.prog 15 #[.pointer (some ⟨b,0,none⟩)] w λe w'=>e=.returned (.tuple #[.int .i64 s,.int .i64 v,.int .i64 c])/\∃n,w'=w.drewN n:=by
 have key:∀(j:Nat)(x:Int),w.cell? ⟨b,j,none⟩=some (.int .i64 x)->∀W:World,(∀a,W.cell? a=w.cell? a)->Calls Try.prog 47 #[.pointer (some ⟨b,j,none⟩)] W λe w'=>e=.returned (.int .i64 x)/\∃n,w'=W.drewN n:=λj x h W hW=>Calls.mono (zq6p _ x W ((hW _).trans h)) (by rintro e w' ⟨rfl,rfl⟩;exact⟨rfl,0,rfl⟩);have L0:=Lib.hid (key 0 s h0);have L1:=Lib.hid (key 1 v h1);have L2:=Lib.hid (key 2 c h2);clear key h0 h1 h2
 go_enter Try.func15,Try.ntmps15
 go_wp2_with (fail)
 go_quiet (first|(go_at_call 47;exact Calls.quiet_of (L0.out _ (λa=>rfl)))|(go_at_call 47;exact Calls.quiet_of (L1.out _ (λa=>rfl)))|(go_at_call 47;exact Calls.quiet_of (L2.out _ (λa=>rfl))))
 go_wp2;refine bodyPost_ret (v:=.tuple #[.int .i64 s,.int .i64 v,.int .i64 c]) ?_ rfl ⟨rfl,_,rfl⟩;simp only[results,Try.f15];simp[go_sem]
end Go.Proofs
namespace Go.Car
open Go Go.Conc Go.RowKit
section
variable {P:Program} {A:FuncId->Bool} {Ml S α:Type} {C:Core Ml S} {ro:Nat->Option Obj} {i:Nat}
theorem zqgw(hP:Plain P A){main:Bool}{Kc:Addr->Option Value}{J:Goroutine->World->Prop}(hJ:JS P main Kc (λ(_:Unit)=>J))(hC:CalmJ P main (λ(_:Unit)=>J)){f:FuncId}{args:Array Value}{p:Proc S α}{val:α->Value}{m₀:BM Ml}{w₀:World}(hrep:BRep C ro m₀ w₀)(hT:∃a,(p.run (C.st m₀.l)).2.1=some a)(cf:Nat)
 (hspec:SpecAt (zq37 hP hJ hC C ro i cf m₀ w₀ (p.run (C.st m₀.l))) (m₀.box i) f args p val) {cl:Frame} {cs:List Frame}
 (hq:∀a m' w',m'.box i=m₀.box i->LoneAt C ro i cf m₀ w₀ (p.run (C.st m₀.l)) m' w' (C.st m'.l,.ret a)->J (G (cl.finish (val a)) cs) w'):J (G (Frame.enter P f args .normal) (cl::cs)) w₀:=by
 have h0:LoneAt C ro i cf m₀ w₀ (p.run (C.st m₀.l)) m₀ w₀ (p.bind Proc.ret (C.st m₀.l)):=by
  rw[Proc.bind_pure];exact⟨hrep,Nat.le_refl _,λ_ _ _=>rfl,λ_ h=>.inl h,⟨_,rfl,hT,rfl⟩,λ_ _=>rfl⟩
 refine hspec Proc.ret () w₀ (λ_=>trivial) ⟨m₀,rfl,h0,trivial⟩ cl cs ?_ ?_
 . rintro s' v w' ⟨a,rfl,m',k2,k3,_⟩;exact hq a m' w' k2 k3
 . intro s' ch w' hf;exact hf.elim
end
theorem jU0{P:Program}{Fin:Machine->Trace->Prop}(hFin:Back P Fin)(n:Nat):JS P true (λ_=>none) (λ(_:Unit)=>J0 P Fin n):=⟨λ_ g w τ d h=>(j0_JS hFin).re' n g w τ d h,λ_ g w h1 h2=>(j0_JS hFin).step n g w h1 h2⟩
theorem jC0{P:Program}{Fin:Machine->Trace->Prop}(hFin:Back P Fin)(n:Nat):CalmJ P true (λ(_:Unit)=>J0 P Fin n):=λ_ fr cs w h=>zq1d hFin n fr cs w h
end Go.Car
namespace Go.Proofs
open Go Go.Conc Go.RowKit Go.Car
section
variable {Ml S α:Type} {C:Core Ml S} {ro:Nat->Option Obj} {i:Nat}
theorem oskip{main:Bool}{Kc:Addr->Option Value}{J:Goroutine->World->Prop}(hJ:JS Try.prog main Kc (λ(_:Unit)=>J))(hC:CalmJ Try.prog main (λ(_:Unit)=>J))(m₀:BM Ml)(w₀:World)(T:S×Option α×Nat)(K:Unit->Proc S α)(s:(zq37 zqp hJ hC C ro i 0 m₀ w₀ T).γ)(B:Nat->Option Obj)(w:World)(h:(zq37 zqp hJ hC C ro i 0 m₀ w₀ T).AtB B s w (Proc.tick.bind K)):(zq37 zqp hJ hC C ro i 0 m₀ w₀ T).AtB B s w (K ()):=by
 obtain⟨m,h1,h2,h3⟩:=h;exact⟨m,h1,LoneAt.skip h2,h3⟩
theorem zqfv{main:Bool}{Kc:Addr->Option Value}{J:Goroutine->World->Prop}(hJ:JS Try.prog main Kc (λ(_:Unit)=>J))(hC:CalmJ Try.prog main (λ(_:Unit)=>J))(m₀:BM Ml)(w₀:World)(T:S×Option α×Nat):
 StepY (zq37 zqp hJ hC C ro i 0 m₀ w₀ T) 48 #[.nilIface]:=by
 obtain⟨Y,hY⟩:∃Y,zq37 zqp hJ hC C ro i 0 m₀ w₀ T=Y:=⟨_,rfl⟩;have hskip:∀(K:Unit->Proc S α)(s:Y.γ)(B:Nat->Option Obj)(w:World),Y.AtB B s w (Proc.tick.bind K)->Y.AtB B s w (K ()):=by
  subst hY;rintro K s B w ⟨m,h1,h2,h3⟩;exact⟨m,h1,LoneAt.skip h2,h3⟩
 rw[hY];clear hY;intro K s m w hA;refine BodyY.calls ⟨_,_,Try.func48,rfl,?_⟩;simp only[zqe,Try.ntmps48,List.size_toArray,List.length_cons,List.length_nil,Nat.reduceAdd,Nat.reduceSub,Array.replicate_succ,Array.replicate_zero,List.push_toArray,List.append_toArray,List.nil_append,List.cons_append];have hA:Y.AtB (m.box i) s w (Proc.tick.bind K):=⟨m,rfl,hA⟩;obtain⟨B,hB0⟩:∃B,m.box i=B:=⟨_,rfl⟩;rw[hB0]at hA |-;clear hB0;apply YSys.seq0 hA zyk
 . exact zx3
 intro w hA;refine zqz Y.jc rfl ?_;rw[if_neg zyd];refine zq1s Y.jc ?_;have h:=hskip K s B w hA;exact⟨rfl,.inl ⟨_,resultsC_none rfl _,(),h.choose,rfl,h.choose_spec⟩⟩
end
def zq3j(kb:Nat):Core Nat Unit where
 foot _ b:=b=kb
 Rep n w:=w.heap[kb]?=some (.cells #[.int .i64 (wrap64 n)] 46)
 st _:=()
 frame n w w' h hs:=(hs kb rfl).trans h
 lt n w b h hb:=by subst hb;exact zq7 h
 pin n:=n
theorem zq5m(n:Nat)(st:Nat)(w:World):(Go.method (n+1) 44 (.pointer (some ⟨st,0,none⟩)) "Step").run Try.prog w=.ok (124,.pointer (some ⟨st,0,none⟩)) w:=by kernel_rfl
theorem zq5n(n:Nat)(st:Nat)(w:World)(es:Array Event):(Go.method (n+1) 44 (.pointer (some ⟨st,0,none⟩)) "Step").events Try.prog w es=es:=by kernel_rfl
section
variable {Ml S β:Type} {C:Core Ml S} {ro:Nat->Option Obj} {i:Nat}
theorem zqfw(Y:YSys Try.prog aM C ro i β){st:Nat}(h:StepY Y 124 #[.pointer (some ⟨st,0,none⟩)]):StepY Y 48 #[.iface 44 (.pointer (some ⟨st,0,none⟩))]:=by
 intro K s m w hA;refine BodyY.calls ⟨_,_,Try.func48,rfl,?_⟩;simp only[zqe,Try.ntmps48,List.size_toArray,List.length_cons,List.length_nil,Nat.reduceAdd,Nat.reduceSub,Array.replicate_succ,Array.replicate_zero,List.push_toArray,List.append_toArray,List.nil_append,List.cons_append];have hA:Y.AtB (m.box i) s w (Proc.tick.bind K):=⟨m,rfl,hA⟩;obtain⟨B,hB0⟩:∃B,m.box i=B:=⟨_,rfl⟩;rw[hB0]at hA |-;clear hB0;apply YSys.seq0 hA zyk
 . exact zx3
 intro w hA;refine zqz Y.jc rfl ?_;rw[if_pos rfl];refine zqx Y.jc ?_;apply YSys.callS 0 1 0 hA h rfl rfl rfl zx2p rfl rfl rfl
 . exact zx2
 . exact zxz
 . exact zxz
 . exact zxe
 intro s w hA;refine zq1e Y.jc ?_;exact⟨rfl,.inl ⟨_,resultsC_none rfl _,(),hA.choose,rfl,hA.choose_spec⟩⟩
end
theorem zqg4(n:Nat):IntKind.i64.wrap (wrap64 (n:Int)+1)=wrap64 ((n+1:Nat):Int):=by
 rw[IntKind.wrap_i64];simp only[wrap64]<;>omega
theorem zqf8{kb n:Nat}(w:World)(h:w.heap[kb]?=some (.cells #[.int .i64 (wrap64 n)] 46)):
 Calls Try.prog 124 #[.pointer (some ⟨kb,0,none⟩)] w λe w'=>e=.returned (.tuple #[])/\w'.heap[kb]?=some (.cells #[.int .i64 (wrap64 ((n+1:Nat):Int))] 46)/\w'.heap.size=w.heap.size/\∀b,b≠kb->w'.heap[b]?=w.heap[b]?:=by
 have c0:w.cell? ⟨kb,0,none⟩=some (.int .i64 (wrap64 n)):=(zq0 (off:=0) h).trans rfl;have z0:w.frozen? ⟨kb,0,none⟩=false:=zq3 h;obtain⟨q,hq⟩:∃q,wrap64 ((n+1:Nat):Int)=q:=⟨_,rfl⟩;have hw:=(zqg4 n).trans hq;obtain⟨p,hp⟩:∃p,wrap64 (n:Int)=p:=⟨_,rfl⟩;rw[hp]at c0 hw h;rw[hq];have HB:=Lib.hid h;clear h hq hp
 go_enter Try.func124,Try.ntmps124
 go_wp2
 go_end0
 refine⟨rfl,?_,zqf _ _ _,λb hb=>zq8 _ _ _ _ hb⟩;rw[zqa _ _ _ _ HB.out];rfl
theorem zq98{T0:NumT}{kb:Nat}{ro:Nat->Option Obj}{i:Nat}{α:Type}{main:Bool}{Kc:Addr->Option Value}{J:Goroutine->World->Prop}(hJ:JS Try.prog main Kc (λ(_:Unit)=>J))(hC:CalmJ Try.prog main (λ(_:Unit)=>J))(m₀:BM (Nums×Nat))(w₀:World)(T:(Nums×Unit)×Option α×Nat):
 StepY (zq37 zqp hJ hC (zqc (zqg T0) (zq3j kb)) ro i 1 m₀ w₀ T) 124 #[.pointer (some ⟨kb,0,none⟩)]:=by
 intro K s m w hA;obtain⟨hL,_⟩:=hA;obtain⟨⟨lc,n⟩,bx⟩:=m;have hrep:=hL.rep;have hk:w.heap[kb]?=some (.cells #[.int .i64 (wrap64 n)] 46):=hrep.core.2.1;intro cl cs h1 _;refine zq4b (J:=λ(_:Unit)=>J) (s:=()) hJ hC zqp Try.func124 rfl zyk (R:=λv w'=>v=.tuple #[]/\w'.heap[kb]?=some (.cells #[.int .i64 (wrap64 ((n+1:Nat):Int))] 46)/\w'.heap.size=w.heap.size/\∀b,b≠kb->w'.heap[b]?=w.heap[b]?) (λv w' τ d h=>h) (λτ d=>?_) ?_
 . refine Calls.mono (zqf8 (re w τ d) hk) ?_;rintro e w' ⟨rfl,h⟩;exact⟨_,rfl,rfl,h⟩
 . rintro v w' ⟨rfl,g1,g2,g3⟩;refine h1 s _ w' ⟨(),⟨(lc,n+1),bx⟩,rfl,rfl,?_,trivial⟩;refine LoneAt.count hL rfl rfl (λb=>Iff.rfl) ?_ (Nat.le_of_eq g2.symm) λb _ hf=>g3 b λe=>hf (.inr e);have hnk:∀b,(zqg T0).foot lc b->b≠kb:=λb hb e=>hrep.core.2.2 b hb e;refine⟨⟨(zqg T0).frame _ _ _ hrep.core.1 λb hb=>g3 b (hnk b hb),g1,hrep.core.2.2⟩,λj b o hb=>?_,λb o hb=>?_,hrep.apart,hrep.own,hrep.rol,hrep.rob⟩
   . exact(g3 b λe=>hrep.apart j b zx41 (.inr e)).trans (hrep.box j b o hb)
   . exact(g3 b λe=>hrep.rol b zx41 (.inr e)).trans (hrep.rod b o hb)
theorem zqft{T0:NumT}{kb:Nat}{ro:Nat->Option Obj}{i:Nat}{α:Type}{main:Bool}{Kc:Addr->Option Value}{J:Goroutine->World->Prop}(hJ:JS Try.prog main Kc (λ(_:Unit)=>J))(hC:CalmJ Try.prog main (λ(_:Unit)=>J))(m₀:BM (Nums×Nat))(w₀:World)(T:(Nums×Unit)×Option α×Nat):
 StepY (zq37 zqp hJ hC (zqc (zqg T0) (zq3j kb)) ro i 1 m₀ w₀ T) 48 #[.iface 44 (.pointer (some ⟨kb,0,none⟩))]:=
 zqfw _ (zq98 hJ hC m₀ w₀ T)
def OStp{Ml S β:Type}{C:Core Ml S}{ro:Nat->Option Obj}{i:Nat}(Y:YSys Try.prog aM C ro i β)(kb:Nat):Bool->Prop
 |true=>StepY Y 124 #[.pointer (some ⟨kb,0,none⟩)]
 |false=>∀(K:Unit->Proc S β)(s:Y.γ)(B:Nat->Option Obj)(w:World),Y.AtB B s w (Proc.tick.bind K)->Y.AtB B s w (K ())
def oneT(ob:Nat):NumT:=⟨1,λ_=>ob,λ_=>3,λ_=>43⟩
structure OAft(ob kb:Nat)(g:Nums)(n:Nat)(w w':World):Prop where
 rep:NumRep (oneT ob) g w'
 cnt:w'.heap[kb]?=some (.cells #[.int .i64 (wrap64 (n:Int))] 46)
 size:w.heap.size<=w'.heap.size
 old:∀b,b<w.heap.size->b≠ob->b≠kb->w'.heap[b]?=w.heap[b]?
def svOf(kb:Nat):Bool->Value
 |true=>.iface 44 (.pointer (some ⟨kb,0,none⟩))
 |false=>.nilIface
def cfOf:Bool->Nat
 |true=>1
 |false=>0
theorem once_J{Fin:Machine->Trace->Prop}(hFin:Back Try.prog Fin){n ob kb c:Nat}{g:Nums}{w:World}(ct:Bool){α:Type}{f:FuncId}{args:Array Value}{p:Proc (Nums×Unit) α}{val:α->Value}{B:Nat->Option Obj}{a:α}(hrep:NumRep (oneT ob) g w)(hk:w.heap[kb]?=some (.cells #[.int .i64 (wrap64 (c:Int))] 46))(hne:kb≠ob)
 (hB:∀b o,B b=some o->w.heap[b]?=some o/\b≠ob/\b≠kb)
 (hspec:∀(Z:Alone Try.prog aM (zqc (zqg (oneT ob)) (zq3j kb)) (λ_=>none) 0 α)(I:Nums×Unit->Prop),zq48 (Z.sys I) (svOf kb ct)->OStp (Z.sys I) kb ct->SpecAt (Z.sys I) B f args p val)
 (hT:(p.run (g,())).2.1=some a) {cl:Frame} {cs:List Frame}
 (hq:∀w',OAft ob kb (p.run (g,())).1.1 (c+cfOf ct*(p.run (g,())).2.2) w w'->J0 Try.prog Fin n (G (cl.finish (val a)) cs) w'):J0 Try.prog Fin n (G (Frame.enter Try.prog f args .normal) (cl::cs)) w:=by
 have hJ:=jU0 hFin n;have hC:=jC0 hFin n;have hno:∀j,j≠0->(λj:Nat=>if j=0 then B else λ_=>none) j=λ_=>none:=λj hj=>if_neg hj;have hbox:∀j b o,(λj:Nat=>if j=0 then B else λ_=>none) j b=some o->B b=some o:=λj b o h=>by
  by_cases e:j=0
  . simpa[e]using h
  . rw[hno j e]at h;cases h
 have hbn:∀j b,(λj:Nat=>if j=0 then B else λ_=>none) j b≠none->∃o,B b=some o:=λj b h=>by
  cases ho:(λj:Nat=>if j=0 then B else λ_=>none) j b with
  |none=>exact absurd ho h
  |some o=>exact⟨o,hbox j b o ho⟩
 have hfoot:∀b,(zqc (zqg (oneT ob)) (zq3j kb)).foot (g,c) b->b=ob\/b=kb:=λb hb=>hb.elim (λ⟨_,_,e⟩=>.inl e) (λe=>.inr e);refine zqgw (J:=J0 Try.prog Fin n) (C:=zqc (zqg (oneT ob)) (zq3j kb)) (ro:=λ_=>none) (i:=0) (p:=p) (m₀:=⟨(g,c),λj=>if j=0 then B else λ_=>none⟩) (val:=val) zqp hJ hC ⟨⟨hrep,hk,λb hb he=>?_⟩,λi b o h=>(hB b o (hbox i b o h)).1,λb o h=>zx3j,λi b h hf=>?_,λi j b hij h=>?_,λb h=>absurd rfl h,λi b h=>absurd rfl h⟩ ⟨a,hT⟩ (cfOf ct) ?_ ?_
 . obtain⟨_,_,e⟩:=hb;exact hne (he.symm.trans e)
 . obtain⟨o,ho⟩:=hbn i b h;obtain⟨_,h1,h2⟩:=hB b o ho;exact(hfoot b hf).elim h1 h2
 . by_cases e:i=0
   . exact congrFun (hno j λx=>hij (e.trans x.symm)) b
   . exact absurd (congrFun (hno i e) b) h
 . refine hspec _ _ (zq9d _ (λ_ _ _ _=>trivial) (λ_ _ _=>trivial) (λ_ _=>rfl) ?_) ?_
   . cases ct with
     |true=>exact zqft _ _ _ _ _
     |false=>exact zqfv _ _ _ _ _
   . cases ct with
     |true=>exact zq98 _ _ _ _ _
     |false=>exact oskip _ _ _ _ _
 . intro a' m' w' hbx hL;obtain⟨n',g1,_,g3⟩:=hL.run;have hst:(zqc (zqg (oneT ob)) (zq3j kb)).st (g,c)=(g,()):=rfl;rw[hst]at g1 g3;simp only[Tree.run,Prod.mk.injEq]at g1;obtain⟨g1,g2,rfl⟩:=g1;have e1:a'=a:=Option.some.inj (g2.trans hT);subst e1;have e2:m'.l.1=(p.run (g,())).1.1:=congrArg Prod.fst g1;have e3:m'.l.2=c+cfOf ct*(p.run (g,())).2.2:=by
    have:m'.l.2+cfOf ct*0=c+cfOf ct*(p.run (g,())).2.2:=g3;omega
   refine hq w' ⟨e2▸hL.rep.core.1,e3▸hL.rep.core.2.1,hL.size,λb hb h6 h7=>?_⟩
   by_cases hBb:∃o,B b=some o
   . obtain⟨o,ho⟩:=hBb;rw[hL.rep.box 0 b o (by rw[hbx];simpa using ho),(hB b o ho).1]
   . refine hL.old b hb ?_;rintro(h9|⟨i,h9⟩|h9)
     . exact(hfoot b h9).elim h6 h7
     . exact hBb (hbn i b h9)
     . exact absurd rfl h9
end Go.Proofs
