/- YtkdlklpffdlglaaBox15: part 11 of the proof (the texts behind it, in order). -/
import Derived.Test.YtkdlklpffdlglaaW10
set_option maxHeartbeats 4000000
set_option maxRecDepth 100000
set_option linter.all false
set_option maxHeartbeats 8000000
namespace Go.Proofs
open Go Go.Conc Go.RowKit Go.Car
def doerP{S2:Type}(N:Nat)(op:OpX):Proc (Nums×S2) Ans:=if op.a<0\/(N:Int)<=op.a then Proc.ret Ans.none else onceP op.a.toNat op
section
variable {M2 S2 β:Type} {D:Core M2 S2} {ro:Nat->Option Obj} {i:Nat} {T:NumT}
theorem zqc0(Z:Alone Try.prog aM (zq7 (zqz T) D) ro i β){I:Nums×S2->Prop}{sv:Value}(hst:zq55 (Z.sys I) sv){vb pb Cp:Nat}{ps:Array Value}(hv:ro vb=some (.cells #[.slice (some ⟨pb,0,none⟩) T.N Cp] 108))(hp:ro pb=some (.cells ps 35))(hps:∀c,c<T.N->ps[c]?=some (.pointer (some ⟨T.ob c,0,none⟩)))(hN:T.N<=64)(who:Int)(op:OpX):
 SpecR (Z.sys I) 63 #[sv,.int .i64 who,op.val,.pointer (some ⟨vb,0,none⟩)] (doerP T.N op) (AnsV 2):=by
 have HS:=Lib.hid hst;have HR:=Lib.hid (And.intro hv (And.intro hp hps));clear hst hv hp hps;refine SpecR.of Try.func63 rfl ?_;intro K s B w hK hA;simp only[zqk,Try.ntmps63,List.size_toArray,List.length_cons,List.length_nil,Nat.reduceAdd,Nat.reduceSub,Array.replicate_succ,Array.replicate_zero,List.push_toArray,List.append_toArray,List.nil_append,List.cons_append];have HKK:=Lib.hid hK;clear hK;refine zqh (Z.sys I).jc (zqv (Z.sys I).jc ?_);refine YSys.preX 0 1 1 (λt B'=>∃(b6:Nat)(x4 x5 x7 x8 x9 x10 x11 x12 x13 x14 x15 x16 x17 x18 x19 x20 x21 x22 x23 x24 x25 x26:Value),t=#[sv,.int .i64 who,op.val,.pointer (some ⟨vb,0,none⟩),x4,x5,.pointer (some ⟨b6,0,none⟩),x7,x8,x9,x10,x11,x12,x13,x14,x15,x16,x17,x18,x19,x20,x21,x22,x23,x24,x25,x26]/\(B) b6=none/\B'=upB (B) b6 (.cells op.cells.toArray 34)) hA rfl rfl rfl rfl ?_ ?_
 . intro wc hB X0 hX0;have HX0:=Lib.hid hX0;clear hX0;have hm:=OMoved.push (o:=.cells op.cells.toArray 34) hB.own (Ext1.alloc wc (.cells op.cells.toArray 34)) (Nat.le_refl _) (by rw[zqa];simp);have hf:=hB.own.fresh (Nat.le_refl _);have HM:=Lib.hid (And.intro hm hf);clear hm hf;unfold OpX.val;go_wp2;exact HX0.out _ _ _ HM.out.1 ⟨_,_,_,_,_,_,_,_,_,_,_,_,_,_,_,_,_,_,_,_,_,_,_,rfl,HM.out.2,rfl⟩
 clear hA;rintro _ _ w ⟨b6,x4,x5,x7,x8,x9,x10,x11,x12,x13,x14,x15,x16,x17,x18,x19,x20,x21,x22,x23,x24,x25,x26,rfl,hb6,rfl⟩ hA;refine YSys.opsX 1 1 (λt B'=>∃(b7:Nat)(x4 x5 x8 x9 x10 x11 x12 x13 x14 x15 x16 x17 x18 x19 x20 x21 x22 x23 x24 x25 x26:Value),t=#[sv,.int .i64 who,op.val,.pointer (some ⟨vb,0,none⟩),x4,x5,.pointer (some ⟨b6,0,none⟩),.pointer (some ⟨b7,0,none⟩),x8,x9,x10,x11,x12,x13,x14,x15,x16,x17,x18,x19,x20,x21,x22,x23,x24,x25,x26]/\(upB B b6 (.cells op.cells.toArray 34)) b7=none/\B'=upB (upB B b6 (.cells op.cells.toArray 34)) b7 (.cells #[.bool false,.int .i64 0,.slice none 0 0] 49)) hA rfl rfl (by kernel_rfl) ?_ ?_
 . intro wc hB X0 hX0;have HX0:=Lib.hid hX0;clear hX0;have hm:=OMoved.push (o:=.cells #[.bool false,.int .i64 0,.slice none 0 0] 49) hB.own (Ext1.alloc wc (.cells #[.bool false,.int .i64 0,.slice none 0 0] 49)) (Nat.le_refl _) (by rw[zqa];simp);have hf:=hB.own.fresh (Nat.le_refl _);have HM:=Lib.hid (And.intro hm hf);clear hm hf;go_wp2;exact⟨rfl,HX0.out _ _ _ HM.out.1 ⟨_,_,_,_,_,_,_,_,_,_,_,_,_,_,_,_,_,_,_,_,_,_,rfl,HM.out.2,rfl⟩⟩
 clear hA;rintro _ _ w ⟨b7,x4,x5,x8,x9,x10,x11,x12,x13,x14,x15,x16,x17,x18,x19,x20,x21,x22,x23,x24,x25,x26,rfl,hb7,rfl⟩ hA;have h6:(upB (upB B b6 (.cells op.cells.toArray 34)) b7 (.cells #[.bool false,.int .i64 0,.slice none 0 0] 49)) b6=some (.cells op.cells.toArray 34):=zq2e (upB_same _ _ _) (zq3g (upB_same _ _ _) hb7);have h7:(upB (upB B b6 (.cells op.cells.toArray 34)) b7 (.cells #[.bool false,.int .i64 0,.slice none 0 0] 49)) b7=some (.cells #[.bool false,.int .i64 0,.slice none 0 0] 49):=upB_same _ _ _;have hB7:B b7=none:=Classical.byContradiction λh=>by
  cases ho:B b7 with
  |none=>exact h ho
  |some o=>rw[zq35 (o:=.cells op.cells.toArray 34) hb6 b7 o ho]at hb7;cases hb7
 have hle:∀x y,B x=some y->(upB (upB B b6 (.cells op.cells.toArray 34)) b7 (.cells #[.bool false,.int .i64 0,.slice none 0 0] 49)) x=some y:=zq1s (zq35 (o:=.cells op.cells.toArray 34) hb6) hB7;obtain⟨Bq,hBq⟩:∃X,upB (upB B b6 (.cells op.cells.toArray 34)) b7 (.cells #[.bool false,.int .i64 0,.slice none 0 0] 49)=X:=⟨_,rfl⟩;rw[hBq]at h6 h7 hle hA;have H6:=Lib.hid h6;have H7:=Lib.hid h7;have HLE:=Lib.hid hle;have HN:=Lib.hid hB7;clear h6 h7 hle hBq hb6 hb7 hB7;show wpJ (Z.sys I).J _ _ _ _ _;refine zqh (Z.sys I).jc ?_;unfold doerP at hA;obtain⟨x,hx⟩:∃x,op.a=x:=⟨_,rfl⟩;obtain⟨NN,hNN⟩:∃x,T.N=x:=⟨_,rfl⟩;have HX:=Lib.hid (And.intro hx hNN);rw[hx,hNN]at hA;rw[hNN]at hN;clear hx hNN
 by_cases h1:x<0
 . rw[if_pos (.inl h1)]at hA;apply YSys.seq0 hA (by kernel_rfl)
   . intro wc hB;have k6:=hB.own.box b6 _ H6.out;have c60:wc.cell? ⟨b6,0,none⟩=some (.int .i64 op.k):=(zq0 k6).trans rfl;have c61:wc.cell? ⟨b6,1,none⟩=some (.int .i64 op.a):=(zq0 k6).trans rfl;have c62:wc.cell? ⟨b6,2,none⟩=some (.int .i64 op.b):=(zq0 k6).trans rfl;have c63:wc.cell? ⟨b6,3,none⟩=some (.int .i64 op.c):=(zq0 k6).trans rfl;rw[HX.out.1]at c61;clear k6;go_wp2;exact⟨rfl,Ext1.refl _,rfl⟩
   intro w hA;refine zqx (Z.sys I).jc rfl ?_;rw[if_pos rfl];refine YSys.seqX (λt B'=>∃(y4 y5 y8 y9 y10 y11 y12 y13 y14 y15 y16 y17 y18 y19 y20 y21 y22 y23 y24 y25 y26:Value),t=#[sv,.int .i64 who,op.val,.pointer (some ⟨vb,0,none⟩),y4,y5,.pointer (some ⟨b6,0,none⟩),.pointer (some ⟨b7,0,none⟩),y8,y9,y10,y11,y12,y13,y14,y15,y16,y17,y18,y19,y20,y21,y22,y23,y24,y25,y26]/\B'=upB Bq b7 (.cells #[.bool false,.int .i64 0,.slice none 0 0] 49)) hA (by kernel_rfl) ?_ ?_
   . intro wc hB X0 hX0;have HX0:=Lib.hid hX0;clear hX0;have k7:=hB.own.box b7 _ H7.out;have c70:wc.cell? ⟨b7,0,none⟩=some (.bool false):=(zq0 k7).trans rfl;have c71:wc.cell? ⟨b7,1,none⟩=some (.int .i64 0):=(zq0 k7).trans rfl;have c72:wc.cell? ⟨b7,2,none⟩=some (.slice none 0 0):=(zq0 k7).trans rfl;have f70:wc.frozen? ⟨b7,0,none⟩=false:=zqc k7;have f71:wc.frozen? ⟨b7,1,none⟩=false:=zqc k7;have f72:wc.frozen? ⟨b7,2,none⟩=false:=zqc k7;clear k7;have hm:=OMoved.set3 (o1:=0) (o2:=1) (o3:=2) hB.own H7.out (.bool false) (.int .i64 0) (.slice none 0 0);have HM:=Lib.hid hm;clear hm;go_wp2;exact⟨rfl,HX0.out _ _ _ HM.out ⟨_,_,_,_,_,_,_,_,_,_,_,_,_,_,_,_,_,_,_,_,_,rfl,rfl⟩⟩
   rintro _ _ w ⟨y4,y5,y8,y9,y10,y11,y12,y13,y14,y15,y16,y17,y18,y19,y20,y21,y22,y23,y24,y25,y26,rfl,rfl⟩ hA;refine zq1b (Z.sys I).jc ?_;refine YSys.left hA (v:=.agg #[.bool false,.int .i64 0,.slice none 0 0]) (λwc hB=>results_cell_row rfl _ wc b7 49 _ _ _ rfl (hB.own.box b7 _ (upB_same _ _ _)) rfl rfl rfl) λw hA=>?_;exact⟨Ans.none,λ_=>none,AnsV.plain _ _ _,λb hb=>absurd rfl hb,hA.drop (zq1s HLE.out HN.out)⟩
 by_cases h2:(NN:Int)<=x
 . rw[if_pos (.inr h2)]at hA;apply YSys.seq0 (t':=#[sv,.int .i64 who,op.val,.pointer (some ⟨vb,0,none⟩),x4,x5,.pointer (some ⟨b6,0,none⟩),.pointer (some ⟨b7,0,none⟩),.pointer (some ⟨b6,1,none⟩),.int .i64 x,.bool false,.bool false,.pointer (some ⟨b6,1,none⟩),.int .i64 x,.slice (some ⟨pb,0,none⟩) NN Cp,.int .i64 NN,.bool true,.bool true,x18,x19,x20,x21,x22,x23,x24,x25,x26]) hA (by kernel_rfl)
   . intro wc hB;have k6:=hB.own.box b6 _ H6.out;have c60:wc.cell? ⟨b6,0,none⟩=some (.int .i64 op.k):=(zq0 k6).trans rfl;have c61:wc.cell? ⟨b6,1,none⟩=some (.int .i64 op.a):=(zq0 k6).trans rfl;have c62:wc.cell? ⟨b6,2,none⟩=some (.int .i64 op.b):=(zq0 k6).trans rfl;have c63:wc.cell? ⟨b6,3,none⟩=some (.int .i64 op.c):=(zq0 k6).trans rfl;rw[HX.out.1]at c61;clear k6;have cv:wc.cell? ⟨vb,0,none⟩=some (.slice (some ⟨pb,0,none⟩) T.N Cp):=(zq0 (hB.own.rod vb _ HR.out.1)).trans rfl;rw[HX.out.2]at cv;clear hA hN c60 c62 c63;have h3:(0:Int)<=x:=by omega
     go_wp2;exact⟨rfl,Ext1.refl _,rfl⟩
   intro w hA;refine zqx (Z.sys I).jc rfl ?_;rw[if_pos rfl];refine YSys.seqX (λt B'=>∃(y4 y5 y8 y9 y10 y11 y12 y13 y14 y15 y16 y17 y18 y19 y20 y21 y22 y23 y24 y25 y26:Value),t=#[sv,.int .i64 who,op.val,.pointer (some ⟨vb,0,none⟩),y4,y5,.pointer (some ⟨b6,0,none⟩),.pointer (some ⟨b7,0,none⟩),y8,y9,y10,y11,y12,y13,y14,y15,y16,y17,y18,y19,y20,y21,y22,y23,y24,y25,y26]/\B'=upB Bq b7 (.cells #[.bool false,.int .i64 0,.slice none 0 0] 49)) hA (by kernel_rfl) ?_ ?_
   . intro wc hB X0 hX0;have HX0:=Lib.hid hX0;clear hX0;have k7:=hB.own.box b7 _ H7.out;have c70:wc.cell? ⟨b7,0,none⟩=some (.bool false):=(zq0 k7).trans rfl;have c71:wc.cell? ⟨b7,1,none⟩=some (.int .i64 0):=(zq0 k7).trans rfl;have c72:wc.cell? ⟨b7,2,none⟩=some (.slice none 0 0):=(zq0 k7).trans rfl;have f70:wc.frozen? ⟨b7,0,none⟩=false:=zqc k7;have f71:wc.frozen? ⟨b7,1,none⟩=false:=zqc k7;have f72:wc.frozen? ⟨b7,2,none⟩=false:=zqc k7;clear k7;have hm:=OMoved.set3 (o1:=0) (o2:=1) (o3:=2) hB.own H7.out (.bool false) (.int .i64 0) (.slice none 0 0);have HM:=Lib.hid hm;clear hm;go_wp2;exact⟨rfl,HX0.out _ _ _ HM.out ⟨_,_,_,_,_,_,_,_,_,_,_,_,_,_,_,_,_,_,_,_,_,rfl,rfl⟩⟩
   rintro _ _ w ⟨y4,y5,y8,y9,y10,y11,y12,y13,y14,y15,y16,y17,y18,y19,y20,y21,y22,y23,y24,y25,y26,rfl,rfl⟩ hA;refine zq1b (Z.sys I).jc ?_;refine YSys.left hA (v:=.agg #[.bool false,.int .i64 0,.slice none 0 0]) (λwc hB=>results_cell_row rfl _ wc b7 49 _ _ _ rfl (hB.own.box b7 _ (upB_same _ _ _)) rfl rfl rfl) λw hA=>?_;exact⟨Ans.none,λ_=>none,AnsV.plain _ _ _,λb hb=>absurd rfl hb,hA.drop (zq1s HLE.out HN.out)⟩
 rw[if_neg (λh=>h.elim h1 h2)]at hA;have h3:x<(NN:Int):=by omega
 have h4:(0:Int)<=x:=by omega
 have h5:¬x>=(NN:Int):=by omega
 apply YSys.seq0 (t':=#[sv,.int .i64 who,op.val,.pointer (some ⟨vb,0,none⟩),x4,x5,.pointer (some ⟨b6,0,none⟩),.pointer (some ⟨b7,0,none⟩),.pointer (some ⟨b6,1,none⟩),.int .i64 x,.bool false,.bool false,.pointer (some ⟨b6,1,none⟩),.int .i64 x,.slice (some ⟨pb,0,none⟩) NN Cp,.int .i64 NN,.bool false,.bool false,x18,x19,x20,x21,x22,x23,x24,x25,x26]) hA (by kernel_rfl)
 . intro wc hB;have k6:=hB.own.box b6 _ H6.out;have c60:wc.cell? ⟨b6,0,none⟩=some (.int .i64 op.k):=(zq0 k6).trans rfl;have c61:wc.cell? ⟨b6,1,none⟩=some (.int .i64 op.a):=(zq0 k6).trans rfl;have c62:wc.cell? ⟨b6,2,none⟩=some (.int .i64 op.b):=(zq0 k6).trans rfl;have c63:wc.cell? ⟨b6,3,none⟩=some (.int .i64 op.c):=(zq0 k6).trans rfl;rw[HX.out.1]at c61;clear k6;have cv:wc.cell? ⟨vb,0,none⟩=some (.slice (some ⟨pb,0,none⟩) T.N Cp):=(zq0 (hB.own.rod vb _ HR.out.1)).trans rfl;rw[HX.out.2]at cv;clear hA hN c60 c62 c63 h2;go_wp2;exact⟨rfl,Ext1.refl _,rfl⟩
 intro w hA;refine zqx (Z.sys I).jc rfl (zq1e (Z.sys I).jc ?_);show wpJ (Z.sys I).J _ _ _ _ _;refine zqh (Z.sys I).jc ?_;obtain⟨c,rfl⟩:∃c:Nat,x=c:=⟨x.toNat,by omega⟩;have hcN:c<T.N:=by have:=HX.out.2;omega
 have hac:op.a.toNat=c:=by have:=HX.out.1;omega
 refine Z.region (by kernel_rfl) 7 [.slice (some ⟨pb,0,none⟩) NN Cp,.pointer (some ⟨b6,1,none⟩),.int .i64 c,.pointer (some ⟨pb,c,none⟩),.pointer (some ⟨T.ob c,0,none⟩),sv,op.val] hA rfl (by kernel_rfl) (by kernel_rfl) (by kernel_rfl) (by kernel_rfl) (by decide) (by kernel_rfl) ?_ ?_
 . intro wc hB j o v Tm hj hvj hdep hout;have hj7:j<7:=by have:=(List.getElem?_eq_some_iff.1 hvj).1;simpa using this
   have t0:Tm[0]?=some sv:=hout 0 (by intro q hq;rcases(by omega:q=0\/q=1\/q=2\/q=3\/q=4\/q=5\/q=6)with rfl |rfl |rfl |rfl |rfl |rfl |rfl<;>decide);have t3:Tm[3]?=some (.pointer (some ⟨vb,0,none⟩)):=hout 3 (by intro q hq;rcases(by omega:q=0\/q=1\/q=2\/q=3\/q=4\/q=5\/q=6)with rfl |rfl |rfl |rfl |rfl |rfl |rfl<;>decide);have t6:Tm[6]?=some (.pointer (some ⟨b6,0,none⟩)):=hout 6 (by intro q hq;rcases(by omega:q=0\/q=1\/q=2\/q=3\/q=4\/q=5\/q=6)with rfl |rfl |rfl |rfl |rfl |rfl |rfl<;>decide);have k6:=hB.own.box b6 _ H6.out;have c60:wc.cell? ⟨b6,0,none⟩=some (.int .i64 op.k):=(zq0 k6).trans rfl;have c61:wc.cell? ⟨b6,1,none⟩=some (.int .i64 op.a):=(zq0 k6).trans rfl;have c62:wc.cell? ⟨b6,2,none⟩=some (.int .i64 op.b):=(zq0 k6).trans rfl;have c63:wc.cell? ⟨b6,3,none⟩=some (.int .i64 op.c):=(zq0 k6).trans rfl;rw[HX.out.1]at c61;clear k6;have cv:wc.cell? ⟨vb,0,none⟩=some (.slice (some ⟨pb,0,none⟩) T.N Cp):=(zq0 (hB.own.rod vb _ HR.out.1)).trans rfl;rw[HX.out.2]at cv;have cp:wc.cell? ⟨pb,c,none⟩=some (.pointer (some ⟨T.ob c,0,none⟩)):=(zq0 (hB.own.rod pb _ HR.out.2.1)).trans (HR.out.2.2 c hcN);clear hout hA;rcases(by omega:j=0\/j=1\/j=2\/j=3\/j=4\/j=5\/j=6)with rfl |rfl |rfl |rfl |rfl |rfl |rfl
   all_goals simp only[al_gl,al_g0,al_g1,al_oi]at hj hvj
   all_goals subst hj hvj
   . simp[go_sem,execOp,Act.eval,resolve,t3,cv]
   . simp[go_sem,execOp,Act.eval,resolve,t6]
   . have d:=hdep _ (by simp;rfl) (by decide) 20 _ rfl rfl;simp[go_sem,execOp,Act.eval,resolve,d,c61]
   . have d:=hdep _ (by simp;exact .inl rfl) (by decide) 19 _ rfl rfl;have d2:=hdep _ (by simp;exact .inr rfl) (by decide) 21 _ rfl rfl;simp[go_sem,execOp,Act.eval,resolve,d,d2,h3,h4]
   . have d:=hdep _ (by simp;rfl) (by decide) 22 _ rfl rfl;simp[go_sem,execOp,Act.eval,resolve,d,cp]
   . simp[go_sem,execOp,Act.eval,resolve,t0]
   . simp[go_sem,execOp,Act.eval,resolve,t6,c60,c61,c62,c63,OpX.val];exact HX.out.1.symm
 . intro w hA;simp only[putv,dstOf,al_gl,al_g0,al_g1,al_ob,al_g2,List.set_cons_succ,List.set_cons_zero];rw[Int.toNat_natCast]at hA;change opsJ (Z.sys I).J _ [7,8] _ _ _ _;refine YSys.callO ((do_spec (Z.sys I) HS.out hcN op) K s Bq w HKK.out hA) rfl rfl rfl ?_ ?_ ?_
   . intro w;simp[go_sem,execOp,Act.eval,resolve,Deferred.ofValue,invoke,callFunc,Try.func64,Try.f64]
   . intro w;simp[go_sem,execOp,Act.eval,resolve,Deferred.ofValue,invoke,callFunc,Try.func64,Try.f64]
   clear hA;intro s e' w hp;cases e' with
   |outgrown=>exact hp
   |panicked ch=>exact⟨rfl,hp⟩
   |returned v=>
   obtain⟨a,X,⟨sl,rfl,hsl⟩,hXB,hA⟩:=hp;have hX7:X b7=none:=Classical.byContradiction λh=>by
    have:=hXB b7 h;rw[H7.out]at this;cases this
   have h7':orB X Bq b7=some (.cells #[.bool false,.int .i64 0,.slice none 0 0] 49):=by simp[orB,hX7,H7.out]
   obtain⟨sa,sn,sc,hsl'⟩:∃sa sn sc,sl=.slice sa sn sc:=by rcases hsl.2 with⟨h,_⟩|⟨_,_,_,h,_⟩<;>exact⟨_,_,_,h⟩
   subst hsl';have HQ:=Lib.hid (And.intro hsl (And.intro hXB hX7));clear hsl hXB hX7;have H7:=Lib.hid h7';clear h7';refine YSys.opsX 8 1 (λt B'=>∃(y4 y5 y8 y9 y10 y11 y12 y13 y14 y15 y16 y17 y18 y19 y20 y21 y22 y23 y24 y25 y26:Value),t=#[sv,.int .i64 who,op.val,.pointer (some ⟨vb,0,none⟩),y4,y5,.pointer (some ⟨b6,0,none⟩),.pointer (some ⟨b7,0,none⟩),y8,y9,y10,y11,y12,y13,y14,y15,y16,y17,y18,y19,y20,y21,y22,y23,y24,y25,y26]/\B'=upB (orB X Bq) b7 (.cells #[.bool a.ok,.int .i64 a.n,.slice sa sn sc] 49)) hA rfl rfl (by kernel_rfl) ?_ ?_
   . intro wc hB X0 hX0;have HX0:=Lib.hid hX0;clear hX0;have k7:=hB.own.box b7 _ H7.out;have c70:wc.cell? ⟨b7,0,none⟩=some (.bool false):=(zq0 k7).trans rfl;have c71:wc.cell? ⟨b7,1,none⟩=some (.int .i64 0):=(zq0 k7).trans rfl;have c72:wc.cell? ⟨b7,2,none⟩=some (.slice none 0 0):=(zq0 k7).trans rfl;have f70:wc.frozen? ⟨b7,0,none⟩=false:=zqc k7;have f71:wc.frozen? ⟨b7,1,none⟩=false:=zqc k7;have f72:wc.frozen? ⟨b7,2,none⟩=false:=zqc k7;clear k7;have hm:=OMoved.set3 (o1:=0) (o2:=1) (o3:=2) hB.own H7.out (.bool a.ok) (.int .i64 a.n) (.slice sa sn sc);have HM:=Lib.hid hm;clear hm hA;go_wp2;exact⟨rfl,HX0.out _ _ _ HM.out ⟨_,_,_,_,_,_,_,_,_,_,_,_,_,_,_,_,_,_,_,_,_,rfl,rfl⟩⟩
   clear hA;rintro _ _ w ⟨y4,y5,y8,y9,y10,y11,y12,y13,y14,y15,y16,y17,y18,y19,y20,y21,y22,y23,y24,y25,y26,rfl,rfl⟩ hA;refine zq1b (Z.sys I).jc ?_;refine YSys.left hA (v:=.agg #[.bool a.ok,.int .i64 a.n,.slice sa sn sc]) (λwc hB=>results_cell_row rfl _ wc b7 49 _ _ _ rfl (hB.own.box b7 _ (upB_same _ _ _)) rfl rfl rfl) λw hA=>?_;refine⟨a,X,⟨_,rfl,HQ.out.1⟩,λb hb=>?_,hA.drop λb o hb=>?_⟩
   . cases ho:B b with
     |none=>rfl
     |some o=>have:=HQ.out.2.1 b hb;rw[HLE.out b o ho]at this;cases this
   . have hne:b≠b7:=λe=>by subst e;simp[orB,HQ.out.2.2,HN.out]at hb
     rw[zq26 _ _ hne];unfold orB at hb |-;cases hx:X b with
     |none=>rw[hx]at hb;exact HLE.out b o hb
     |some y=>rw[hx]at hb;exact hb
end
theorem zq7x(n:Nat)(st:Nat)(w:World):(Go.method (n+1) 141 (.pointer (some ⟨st,0,none⟩)) "Step").run Try.prog w=.ok (130,.pointer (some ⟨st,0,none⟩)) w:=by kernel_rfl
theorem zq7y(n:Nat)(st:Nat)(w:World)(es:Array Event):(Go.method (n+1) 141 (.pointer (some ⟨st,0,none⟩)) "Step").events Try.prog w es=es:=by kernel_rfl
section
variable {Ml S β:Type} {C:Core Ml S} {ro:Nat->Option Obj} {i:Nat}
theorem zqhs(Y:YSys Try.prog aM C ro i β){st:Nat}(h:StepY Y 130 #[.pointer (some ⟨st,0,none⟩)]):StepY Y 48 #[.iface 141 (.pointer (some ⟨st,0,none⟩))]:=by
 intro K s m w hA;refine BodyY.calls ⟨_,_,Try.func48,rfl,?_⟩;simp only[zqk,Try.ntmps48,List.size_toArray,List.length_cons,List.length_nil,Nat.reduceAdd,Nat.reduceSub,Array.replicate_succ,Array.replicate_zero,List.push_toArray,List.append_toArray,List.nil_append,List.cons_append];have hA:Y.AtB (m.box i) s w (Proc.tick.bind K):=⟨m,rfl,hA⟩;obtain⟨B,hB0⟩:∃B,m.box i=B:=⟨_,rfl⟩;rw[hB0]at hA |-;clear hB0;apply YSys.seq0 hA (by kernel_rfl)
 . intro wc hB;go_wp2;exact⟨rfl,Ext1.refl _,rfl⟩
 intro w hA;refine zqx Y.jc rfl ?_;rw[if_pos rfl];refine zqv Y.jc ?_;apply YSys.callS 0 1 0 hA h rfl rfl rfl (by rfl) rfl rfl rfl
 . intro wc hB X hX;have HX:=Lib.hid hX;clear hX;go_wp2;exact HX.out _ (Ext1.refl _)
 . intro w;simp[go_sem,execOp,Act.eval,resolve,Deferred.ofValue,invoke,callFunc,zq7x,zq7y,Try.func130,Try.f130]
 . intro w;simp[go_sem,execOp,Act.eval,resolve,Deferred.ofValue,invoke,callFunc,zq7x,zq7y,Try.func130,Try.f130]
 . intro s' ch w' h;exact⟨rfl,h⟩
 intro s w hA;refine zq17 Y.jc ?_;exact⟨rfl,.inl ⟨_,resultsC_none rfl _,(),hA.choose,rfl,hA.choose_spec⟩⟩
end
section
variable {M2 S2 β:Type} {D:Core M2 S2} {ro:Nat->Option Obj} {i:Nat} {T:NumT}
theorem zqdq(Z:Alone Try.prog aM (zq7 (zqz T) D) ro i β){I:Nums×S2->Prop}(hI:∀g g' s,I (g,s)->I (g',s))(hO:∀g g' s,Z.Oth (g,s) (g',s))(hl:∀c,c<T.N->T.len c=3){sv:Value}(hs:StepY (Z.sys I) 48 #[sv]):zq55 (Z.sys I) sv where
 base:=⟨hl,zq82 Z hI hO,hs⟩
 maker hc _ _ _ _ h3 h5:=zqdd Z ⟨hl,zq82 Z hI hO,hs⟩ hc h3 h5
end
theorem zqc1{T:NumT}{N ab vb pb Cp:Nat}{ps:Array Value}(hN:T.N<=64)(hl:∀c,c<T.N->T.len c=3)(ro:Nat->Option Obj)(hv:ro vb=some (.cells #[.slice (some ⟨pb,0,none⟩) T.N Cp] 108))(hp:ro pb=some (.cells ps 35))(hps:∀c,c<T.N->ps[c]?=some (.pointer (some ⟨T.ob c,0,none⟩)))
 (pr:Nat->Proc (Nums×(Nat->List Ans)) Unit) (st:Nat) (cr:Frame) (rest:List Frame) (EN:List PanicEntry->Prop) (i:Nat) (o:List Ans) (op:OpX):
 SpecR (zq34 zq2l rowsM (zq7 (zqz T) (zqt tT ab N)) ownA ro pr 130 (.pointer (some ⟨st,0,none⟩)) cr rest NEnd EN i o) 63 (#[]++#[.iface 141 (.pointer (some ⟨st,0,none⟩)),.int .i64 i,op.val]++#[.pointer (some ⟨vb,0,none⟩)]) (doerP T.N op) (AnsV 2):=
 zqc0 _ (I:=λs=>ownA i s=o) (zqdq _ (λg g' s h=>h) (λg g' s j _=>rfl) hl (zqhs _ (zqap zq2l rowsM o))) hv hp hps hN (i:Int) op
section
variable {S2:Type}
theorem tickN_deep{k:Nat}:(Proc.tick:Proc (Nums×S2) Unit).Deep k:=(Proc.Deep.ret _).then
theorem zq2b{α:Type}{k:Nat}(f:Nums->Nums×α):(onN f:Proc (Nums×S2) α).Deep k:=Proc.Deep.act _
theorem zq5f(k c:Nat):(getP c:Proc (Nums×S2) (Int×Bool)).Deep k:=by
 unfold getP;refine(tickN_deep.bind λ_=>zq2b _).bind λx=>?_;split
 . exact(tickN_deep.bind λ_=>zq2b _).bind λ_=>Proc.Deep.ret _
 . exact Proc.Deep.ret _
theorem zq7a(k c:Nat)(v:Int):(finP c v:Proc (Nums×S2) Unit).Deep k:=(tickN_deep.bind λ_=>zq2b _).bind λ_=>tickN_deep.bind λ_=>zq2b _
theorem zqev(k c:Nat)(v:Int):(setP c v:Proc (Nums×S2) (Int×Bool)).Deep k:=by
 unfold setP;refine(tickN_deep.bind λ_=>zq2b _).bind λx=>?_;split
 . exact(zq7a _ _ _).bind λ_=>Proc.Deep.ret _
 . exact(zq5f _ _).bind λ_=>Proc.Deep.ret _
theorem zq5o(k c:Nat){mk:Proc (Nums×S2) (Int×Bool)}(hm:mk.Deep k):∀n,(makeL c mk n:Proc (Nums×S2) (Int×Int)).Deep k
 |0=>Proc.Deep.ret _
 |n+1=>by
  unfold makeL;refine(zq5f _ _).bind λx=>?_;split
  . exact Proc.Deep.ret _
  . refine(tickN_deep.bind λ_=>zq2b _).bind λb=>?_;split
    . refine(tickN_deep.bind λ_=>zq2b _).bind λ_=>hm.bind λv=>?_;split
      . exact(zq7a _ _ _).bind λ_=>Proc.Deep.ret _
      . exact(tickN_deep.bind λ_=>zq2b _).bind λ_=>Proc.Deep.ret _
    . exact zq5o k c hm n
theorem zqdp(k c:Nat)(op:OpX):(onceP c op:Proc (Nums×S2) Ans).Deep k:=by
 unfold onceP
 repeat' split
 . exact(zq5f _ _).bind λ_=>Proc.Deep.ret _
 . exact(zqev _ _ _).bind λ_=>Proc.Deep.ret _
 . exact(zq5o _ _ (tickN_deep.bind λ_=>zq2b _) _).bind λ_=>Proc.Deep.ret _
 . exact(zq5o _ _ (Proc.Deep.ret _) _).bind λ_=>Proc.Deep.ret _
 . exact Proc.Deep.ret _
theorem zqby(k N:Nat)(op:OpX):(doerP N op:Proc (Nums×S2) Ans).Deep k:=by
 unfold doerP;split
 . exact Proc.Deep.ret _
 . exact zqdp _ _ _
end
theorem zq86(w:World):Calls Try.prog 13 #[] w λe w'=>e=.returned (.pointer (some ⟨w.heap.size,0,none⟩))/\w'=w.alloc (.cells #[.int .i64 0,.int .i64 0,.int .i64 0] 43):=by
 go_enter Try.func13,Try.ntmps13
 go_wp2;go_ret;exact⟨rfl,rfl⟩
theorem zqdy{w:World}{b:Nat}{s v c:Int}(h0:w.cell? ⟨b,0,none⟩=some (.int .i64 s))(h1:w.cell? ⟨b,1,none⟩=some (.int .i64 v))(h2:w.cell? ⟨b,2,none⟩=some (.int .i64 c)):
 Calls Try.prog 15 #[.pointer (some ⟨b,0,none⟩)] w λe w'=>e=.returned (.tuple #[.int .i64 s,.int .i64 v,.int .i64 c])/\∃n,w'=w.drewN n:=by
 have key:∀(j:Nat)(x:Int),w.cell? ⟨b,j,none⟩=some (.int .i64 x)->∀W:World,(∀a,W.cell? a=w.cell? a)->Calls Try.prog 47 #[.pointer (some ⟨b,j,none⟩)] W λe w'=>e=.returned (.int .i64 x)/\∃n,w'=W.drewN n:=λj x h W hW=>Calls.mono (zq5n _ x W ((hW _).trans h)) (by rintro e w' ⟨rfl,rfl⟩;exact⟨rfl,0,rfl⟩);have L0:=Lib.hid (key 0 s h0);have L1:=Lib.hid (key 1 v h1);have L2:=Lib.hid (key 2 c h2);clear key h0 h1 h2
 go_enter Try.func15,Try.ntmps15
 go_wp2_with (fail)
 go_quiet (first|(go_at_call 47;exact Calls.quiet_of (L0.out _ (λa=>rfl)))|(go_at_call 47;exact Calls.quiet_of (L1.out _ (λa=>rfl)))|(go_at_call 47;exact Calls.quiet_of (L2.out _ (λa=>rfl))))
 go_wp2;refine bodyPost_ret (v:=.tuple #[.int .i64 s,.int .i64 v,.int .i64 c]) ?_ rfl ⟨rfl,_,rfl⟩;simp only[results,Try.f15];simp[go_sem]
end Go.Proofs
namespace Go.Car
open Go Go.Conc Go.RowKit
theorem hao(w:World)(o:Obj)(b:Nat)(h:b<w.heap.size):(w.alloc o).heap[b]?=w.heap[b]?:=by first|exact heap_alloc_old w o b h|exact heap_alloc_old w o h
structure Wr(X:Nat->Prop)(w w':World):Prop where
 size:w.heap.size<=w'.heap.size
 shp:∀(b:Nat)(c:Array Value)(T:TypeId),w.heap[b]?=some (.cells c T)->∃c',w'.heap[b]?=some (.cells c' T)/\c'.size=c.size
 old:∀b,b<w.heap.size->¬X b->w'.heap[b]?=w.heap[b]?
section
variable {X:Nat->Prop} {w w' w'':World}
theorem Wr.refl (X:Nat->Prop)(w:World):Wr X w w:=⟨Nat.le_refl _,λb c T h=>⟨c,h,rfl⟩,λ_ _ _=>rfl⟩
end
section
variable {P:Program}
theorem app_wr(w:World)(t ty e:TypeId)(i:TypeInfo)(z:Value)(size bytes:Nat)(ht:P.underlying t=some (.slice e))(hi:P.info? e=some i)(hz:i.zero=some z)(hsize:i.size=size)(hby:i.bytes=bytes)(hzs:z.cells.size=size)(hsz:0<size)
 {v:Value} {n:Nat} {xs:List Value} {B:Nat} (hown:w.ownsRow B e size v n xs) (hB:B<=w.heap.size) (pa:Option Addr) (m c:Nat) (news:List Value) (hl:news.length=m*size) (hnews:0<m->∃a,pa=some a/\∀j u,news[j]?=some u->w.cell? (a.add j)=some u) (h1:∀u∈news,u.oneCell'=true)
 (h63:n+m<=maxLen) (hbytes:(n+m)*bytes<=140737488355328):
 ∃v' w',(Builtin.append_ #[t,t] ty #[v,.slice pa m c]).run P w=.ok v' w'/\w'.ownsRow B e size v' (n+m) (xs++news)/\Wr (λb=>v.ownBlock=some b) w w'/\(v'.ownBlock=v.ownBlock\/v'.ownBlock=some w.heap.size)/\
  (∀g o,v.ownBlock=some g->o<n*size->w'.cell? ⟨g,o,none⟩=w.cell? ⟨g,o,none⟩)/\(m=0->w'=w/\v'=v):=by
 subst hsize;subst hby
 have hsmall:n+m<=9223372036854775807:=by simp only[maxLen]at h63;omega
 by_cases hm:m=0
 . subst hm;have hn:news=[]:=List.eq_nil_of_length_eq_zero (by simpa using hl);subst hn;refine⟨v,w,?_,by simpa using hown,Wr.refl _ _,.inl rfl,λ_ _ _ _=>rfl,λ_=>⟨rfl,rfl⟩⟩;rcases hown.2 with⟨rfl,rfl⟩|⟨g,cap,cur,rfl,hbg,hg,hnc,hcm,hcs,htake⟩
   . cases pa<;>simp[Builtin.append_,run_underlying ht,sizeOf,typeInfo,hi,Builtin.lenOf,Builtin.firstCells,loadCells,loadCellsFrom,storeCells]
   . cases pa<;>simp[Builtin.append_,run_underlying ht,sizeOf,typeInfo,hi,Builtin.lenOf,Builtin.firstCells,loadCells,loadCellsFrom,storeCells,hnc]
 . obtain⟨a,rfl,hnw⟩:=hnews (Nat.pos_of_ne_zero hm);clear hnews;rcases hown.2 with⟨rfl,rfl⟩|⟨g,cap,cur,rfl,hbg,hg,hnc,hcm,hcs,htake⟩
   . obtain⟨g,cap,w',hr,h2,h3,h4,_⟩:=run_append_lies (P:=P) w t ty B e i z i.size i.bytes ht hi hz rfl rfl hzs hsz _ 0 xs hown a m c news hl hnw h1 (Nat.pos_of_ne_zero hm) h63 hbytes hB _ rfl;have same:∀b,b<w.heap.size->w'.heap[b]?=w.heap[b]?:=λb hb=>h3.block b hb (by simp[Value.ownBlock]);refine⟨_,_,hr,h2,⟨h3.size,λb c T hb=>⟨c,(same b (zqe hb)).trans hb,rfl⟩,λb hb _=>same b hb⟩,?_,λg o h=>(by simp[Value.ownBlock]at h),λh=>absurd h hm⟩;rcases h4 with h|h
     . simp[Value.ownBlock]at h
     . exact .inr (by simp[Value.ownBlock,h])
   . have hlen:(xs++news).length=(n+m)*i.size:=by rw[List.length_append,hown.1,hl,Nat.add_mul]
     by_cases hroom:n+m<=cap
     . have hfit:n*i.size+news.length<=cur.size:=by rw[hl,hcs,<-Nat.add_mul];exact Nat.mul_le_mul_right _ hroom
       have hr:=run_append_room (P:=P) w t ty e i ht hi g n cap cur hg a m c news hl hnw h1 hroom hfit;have hsz2:(cur.toList.take (n*i.size)++news++cur.toList.drop (n*i.size+news.length)).toArray.size=cur.size:=by
        simp only[List.size_toArray,List.length_append,List.length_take,List.length_drop,Array.length_toList];omega
       have hh:=setRow_heap w g cur (cur.toList.take (n*i.size)++news++cur.toList.drop (n*i.size+news.length)).toArray e (0,0) hg;refine⟨_,_,hr,⟨hlen,.inr ⟨g,cap,_,rfl,hbg,hh,hroom,hcm,by rw[hsz2,hcs],?_⟩⟩,⟨by simp,λb c T hb=>?_,λb _ hx=>setRow_other w g b _ (λe=>hx (by simp[Value.ownBlock,e]))⟩,.inl rfl,λg2 o h ho=>?_,λh=>absurd h hm⟩
       . rw[htake,<-hlen];exact List.take_left
       . by_cases e2:b=g
         . subst e2;have:=hg.symm.trans hb;simp only[al_oi,Obj.cells.injEq]at this;obtain⟨rfl,rfl,-⟩:=this;exact⟨_,hh,hsz2⟩
         . exact⟨c,(setRow_other w g b _ e2).trans hb,rfl⟩
       . simp only[Value.ownBlock,al_oi]at h;subst h;rw[zq0 hg];rw[zq0 hh,al_gl,List.append_assoc,List.getElem?_append_left (by rw[List.length_take,Array.length_toList];omega),List.getElem?_take,if_pos ho,Array.getElem?_toList]
     . have holds:∀j u,xs[j]?=some u->w.cell? ((⟨g,0,none⟩:Addr).add j)=some u:=hown.cells (g:=g) rfl;have hr:=run_append_grow (P:=P) w t ty e i z ht hi hz ⟨g,0,none⟩ n cap xs hown.1 holds a m c news hl hnw (by omega) (by omega) (growslice_fits (by omega) hbytes);have hge:=grownCap_ge w (n+m) cap e;have hcm':grownCap w (n+m) cap e<=maxLen:=grownCap_le_maxLen w (n+m) cap e h63;refine⟨_,_,hr,⟨hlen,.inr ⟨w.heap.size,_,_,rfl,hB,heap_alloc_new w.drew _,hge,hcm',?_,?_⟩⟩,⟨by simp,λb c T hb=>⟨c,(hao w.drew _ b (zqe hb)).trans hb,rfl⟩,λb hb _=>hao w.drew _ b hb⟩,.inr rfl,λg2 o h _=>?_,λh=>absurd h hm⟩
       . simp only[Array.size_append,List.size_toArray,size_zeroCells,hzs,hown.1,hl,<-Nat.add_mul];congr 1;omega
       . simp only[Array.toList_append,List.append_assoc];rw[<-List.append_assoc,<-hlen];exact List.take_left
       . simp only[Value.ownBlock,al_oi]at h;subst h;exact zq16 (hao w.drew _ g (zqe hg))
theorem zqkf{ops:Array Oper}{rest:List Oper}{o:Oper}{a:Act}{Q:Exit->Act->World->Prop}{w w':World}{v:Value}(hgd:o.guard=none)(s x:Operand)(t:TypeId)
 (ho:o.op=.call {callee:=.builtin .append,args:=#[s,x],argTypes:=#[t,t]}) (hr:(Builtin.append_ #[t,t] o.type #[a.eval s,a.eval x]).run P w=.ok v w') (h:wpList P ops Q rest (a.put o.dst v) w'):wpList P ops Q (o::rest) a w:=
 wpList_plain hgd λ_ hK=>by
  unfold Oper.wp execOp;simp only[ho,resolve,invoke,builtin,Sem.run_bind,Sem.run_pure,Result.andThen_ok,List.map_toArray,List.map_cons,List.map_nil,hr];exact hK _ _ h
end
end Go.Car
namespace Go.Proofs
open Go Go.Conc Go.RowKit Go.Car
structure NumsI(w0:World)(l:List Int)(v:Value)(w:World):Prop where
 be:Beyond w0 w
 row:w.ownsRow w0.heap.size 2 1 v l.length (l.map (Value.int .i64))
theorem zqdi{w0 w:World}{l:List Int}{v:Value}(h:NumsI w0 l v w)(hl:l.length<=1048576)(a b c:Int):
 ∃p C w2,(Builtin.append_ #[27,27] 27 #[v,.slice (some ⟨w.heap.size,0,none⟩) 3 3]).run Try.prog (w.alloc (.cells #[.int .i64 a,.int .i64 b,.int .i64 c] 2))=.ok (.slice p (l.length+3) C) w2/\NumsI w0 (l++[a,b,c]) (.slice p (l.length+3) C) w2:=by
 obtain⟨ti,hti,hz,hz1,hz2⟩:∃ti,Try.prog.info? 2=some ti/\ti.zero=some (.int .i64 0)/\ti.size=1/\ti.bytes=8:=⟨_,rfl,rfl,rfl,rfl⟩;have hr:(w.alloc (.cells #[.int .i64 a,.int .i64 b,.int .i64 c] 2)).ownsRow w0.heap.size 2 1 v l.length (l.map (Value.int .i64)):=zq31 h.row _;have hs:=zqd w (.cells #[.int .i64 a,.int .i64 b,.int .i64 c] 2);have hb0:=h.be.1;obtain⟨v',w',hrun,ho,hw,hat,hkeep,_⟩:=app_wr (P:=Try.prog) (w.alloc (.cells #[.int .i64 a,.int .i64 b,.int .i64 c] 2)) 27 27 2 ti (.int .i64 0) 1 8 (by kernel_rfl) hti hz hz1 hz2 rfl (by decide) hr (by omega) (some ⟨w.heap.size,0,none⟩) 3 3 [.int .i64 a,.int .i64 b,.int .i64 c] rfl (λ_=>⟨_,rfl,λj u hj=>news_new (T:=2) rfl j u (by simpa using hj)⟩) (by simp[Value.oneCell']) (by simp only[maxLen];omega) (by omega);obtain⟨p,C,rfl,-,-⟩:=zq3x ho;refine⟨p,C,w',hrun,⟨by have:=hw.size;omega,λx hx=>?_⟩,by rw[List.length_append,List.map_append];exact ho⟩;exact(hw.old x (by omega) λhv=>by have:=(own_lt h.row hv).2.1;omega).trans (((Beyond.alloc w _).2 x (by omega)).trans (h.be.2 x hx))
def numL(g:Nums)(n:Nat):List Int:=(List.range n).flatMap λc=>[g c 0,g c 1,g c 2]
theorem zq81(g:Nums)(n:Nat):numL g (n+1)=numL g n++[g n 0,g n 1,g n 2]:=by
 unfold numL;rw[List.range_succ,List.flatMap_append];simp
theorem zq5p(g:Nums):∀n,(numL g n).length=3*n
 |0=>rfl
 |n+1=>by rw[zq81,List.length_append,zq5p g n];simp;omega
theorem zqez{w:World}{T:NumT}{g:Nums}(hR:NumRep T g w)(hlen:∀c,c<T.N->T.len c=3)(hN:T.N<=64){pb Cp:Nat}{ps:Array Value}(hp:w.heap[pb]?=some (.cells ps 35))(hps:∀c,c<T.N->ps[c]?=some (.pointer (some ⟨T.ob c,0,none⟩))):
 Calls Try.prog 36 #[.slice (some ⟨pb,0,none⟩) T.N Cp] w λe w'=>∃v,e=.returned v/\NumsI w (numL g T.N) v w':=by
 obtain⟨N,hNN⟩:∃N,T.N=N:=⟨_,rfl⟩;have HR:=Lib.hid (And.intro hR (And.intro hlen (And.intro hN (And.intro hp (And.intro hps hNN)))));rw[hNN];clear hR hlen hN hp hps hNN
 go_enter Try.func36,Try.ntmps36
 go_wp2_with (fail)
 go_loopg [3,11] N (λk s3 s11 wr=>∃(j:Nat)(p:Option Addr)(C:Nat),k=N - j/\j<=N/\s11=.int .i64 j/\s3=.slice p (3*j) C/\NumsI w (numL g j) (.slice p (3*j) C) wr)
 case atStart=>exact⟨0,none,0,rfl,Nat.zero_le _,rfl,rfl,Beyond.refl _,World.ownsRow_nil _ _ _ _⟩
 case round=>
  obtain⟨j,p,C,hk,hj,rfl,rfl,hI⟩:=hrel;have HI:=Lib.hid hI
  by_cases hlt:j<N
  . have hlt':(j:Int)<(N:Int):=by omega
    have hj0:(0:Int)<=j:=by omega
    have hj64:(j:Int)<64:=by have:=HR.out.2.2.1;have:=HR.out.2.2.2.2.2;omega
    have hjT:j<T.N:=by have:=HR.out.2.2.2.2.2;omega
    have cp:wr.cell? ⟨pb,j,none⟩=some (.pointer (some ⟨T.ob j,0,none⟩)):=hI.be.cell ((zq0 HR.out.2.2.2.1).trans (HR.out.2.2.2.2.1 j hjT));have hl3:=HR.out.2.1 j hjT;have HC:=Lib.hid (zqdy (hI.be.cell (HR.out.1.cell hjT (j:=0) (by omega))) (hI.be.cell (HR.out.1.cell hjT (j:=1) (by omega))) (hI.be.cell (HR.out.1.cell hjT (j:=2) (by omega))));clear hl3 hI
    go_wp2_with (fail)
    refine Calls.mono HC.out ?_;rintro e w' ⟨rfl,n,rfl⟩;have hI2:NumsI w (numL g j) (.slice p (3*j) C) (wr.drewN n):=⟨HI.out.be.trans ⟨Nat.le_refl _,λ_ _=>rfl⟩,zq1x HI.out.row λ_ _=>rfl⟩;clear cp;generalize wr.drewN n=w5 at hI2 |-;obtain⟨p2,C2,w2,r,hI3⟩:=zqdi (w0:=w) (w:=w5) (l:=numL g j) hI2 (by rw[zq5p];have:=HR.out.2.2.1;omega) (g j 0) (g j 1) (g j 2);rw[zq5p]at r hI3;rw[<-zq81]at hI3;have H3:=Lib.hid hI3;clear hI2 hI3
    go_wp2_with (at_builtin;go_loud (refine zqkf rfl (.tmp 21) (.tmp 25) 27 rfl r ?_))
    go_roundg (N - (j+1))
    case measure=>omega
    case rel=>exact⟨j+1,p2,C2,rfl,by omega,(by first|rfl |(congr 1;unfold wrap64;omega)),by rw[show 3*(j+1)=3*j+3 by omega],by rw[show 3*(j+1)=3*j+3 by omega];exact H3.out⟩
  . obtain rfl:N=j:=by omega
    clear hk hj hlt;go_wp2;go_ret;exact⟨_,rfl,HI.out⟩
def onceN(cells:Int):Nat:=(min (max cells 1) 64).toNat
theorem zq85(c:Int):0<onceN c/\onceN c<=64:=by unfold onceN;omega
def zq2k(ob:Nat->Nat)(j:Nat):List Value:=(List.range j).map λc=>.pointer (some ⟨ob c,0,none⟩)
structure zq3n(w0:World)(vb j:Nat)(ob:Nat->Nat)(v:Value)(w:World):Prop where
 be:Beyond w0 w
 vbk:w.heap[vb]?=some (.cells #[v] 108)
 row:w.ownsRow w0.heap.size 35 1 v j (zq2k ob j)
 blk:∀c,c<j->w.heap[ob c]?=some (.cells #[.int .i64 0,.int .i64 0,.int .i64 0] 43)
 lo:∀c,c<j->w0.heap.size<=ob c
 inj:∀c d,c<j->d<j->ob c=ob d->c=d
 vlo:w0.heap.size<=vb
theorem zqdr{w0 wr W w2:World}{vb j q g cap C:Nat}{p:Option Addr}{ob:Nat->Nat}(h:zq3n w0 vb j ob (.slice p j C) wr)(hq:wr.heap.size=q)
 (hW:W.heap=((wr.alloc (.cells #[.int .i64 0,.int .i64 0,.int .i64 0] 43)).alloc (.cells #[.pointer (some ⟨q,0,none⟩)] 35)).heap)
 (hrow:w2.ownsRow w0.heap.size 35 1 (.slice (some ⟨g,0,none⟩) (j+1) cap) (j+1) (zq2k ob j++[.pointer (some ⟨q,0,none⟩)])) (hgr:W.grownBy w2 (Value.slice p j C).ownBlock):
 zq3n w0 vb (j+1) (upd' ob j q) (.slice (some ⟨g,0,none⟩) (j+1) cap) (w2.setCell ⟨vb,0,none⟩ (.slice (some ⟨g,0,none⟩) (j+1) cap)):=by
 have a0:∀b o,wr.heap[b]?=some o->W.heap[b]?=some o:=λb o hb=>by rw[hW];exact zqf (zqf hb)
 have aq:W.heap[q]?=some (.cells #[.int .i64 0,.int .i64 0,.int .i64 0] 43):=by rw[hW,<-hq];exact zqf (zq12 _ _)
 have hsz:W.heap.size=q+2:=by rw[hW,zqd,zqd,hq]
 have keep:∀b o,W.heap[b]?=some o->(Value.slice p j C).ownBlock≠some b->w2.heap[b]?=some o:=λb o hb hn=>(hgr.block b (zqs hb) (λe=>hn e.symm)).trans hb;have set1:∀b o,w2.heap[b]?=some o->b≠vb->(w2.setCell ⟨vb,0,none⟩ (.slice (some ⟨g,0,none⟩) (j+1) cap)).heap[b]?=some o:=λb o hb hn=>(zqi _ _ _ _ hn).trans hb;have hv2:w2.heap[vb]?=some (.cells #[.slice p j C] 108):=keep _ _ (a0 _ _ h.vbk) (zq3h h.row h.vbk (by decide));have hb0:=h.be.1;refine⟨⟨?_,λb hb=>?_⟩,?_,?_,λc hc=>?_,λc hc=>?_,λc d hc hd e=>?_,h.vlo⟩
 . rw[zq13];have:=hgr.size;omega
 . rw[zqi _ _ _ _ (show b≠vb by have:=h.vlo;omega)];refine(hgr.block b (by omega) (λe=>?_)).trans ?_
   . have:=(own_lt h.row e.symm).2.1;omega
   . rw[hW,zqa,if_neg (by rw[zqd];omega),zqa,if_neg (by omega)];exact h.be.2 b hb
 . exact zqy _ _ _ _ hv2
 . have e:zq2k (upd' ob j q) (j+1)=zq2k ob j++[.pointer (some ⟨q,0,none⟩)]:=by
    unfold zq2k;rw[List.range_succ,List.map_append];congr 1
    . refine List.map_congr_left λc hc=>?_;rw[zqj _ _ (by have:=List.mem_range.1 hc;omega)]
    . simp
   rw[e];exact zq1x hrow λg' hg'=>zqi _ _ _ _ λe2=>zq3h hrow hv2 (by decide) (by rw[hg',show g'=vb from e2])
 . by_cases e:c=j
   . subst e;rw[upd'_same];refine set1 _ _ (keep _ _ aq λe=>?_) λe=>?_
     . have:=(own_lt h.row e).2.2;omega
     . have:=zqs h.vbk;omega
   . rw[zqj _ _ e];have hb:=h.blk c (by omega);exact set1 _ _ (keep _ _ (a0 _ _ hb) (zq3h h.row hb (by decide))) λe2=>by rw[e2]at hb;exact absurd (zq5i hb h.vbk) (by decide)
 . by_cases e:c=j
   . subst e;rw[upd'_same];omega
   . rw[zqj _ _ e];exact h.lo c (by omega)
 . by_cases e1:c=j
   . by_cases e2:d=j
     . omega
     . subst e1;rw[upd'_same,zqj _ _ e2]at e;have:=zqs (h.blk d (by omega));omega
   . by_cases e2:d=j
     . subst e2;rw[upd'_same,zqj _ _ e1]at e;have:=zqs (h.blk c (by omega));omega
     . rw[zqj _ _ e1,zqj _ _ e2]at e;exact h.inj c d (by omega) (by omega) e
structure NewOnces(w:World)(T:NumT)(vb pb Cp:Nat)(ps:Array Value)(w':World):Prop where
 be:Beyond w w'
 rep:NumRep T (λ_ _=>0) w'
 len:∀c,c<T.N->T.len c=3
 lo:∀c,c<T.N->w.heap.size<=T.ob c
 vlo:w.heap.size<=vb
 plo:w.heap.size<=pb
 vbk:w'.heap[vb]?=some (.cells #[.slice (some ⟨pb,0,none⟩) T.N Cp] 108)
 pbk:w'.heap[pb]?=some (.cells ps 35)
 ps':∀c,c<T.N->ps[c]?=some (.pointer (some ⟨T.ob c,0,none⟩))
 sep:∀c,c<T.N->vb≠T.ob c/\pb≠T.ob c
theorem NewOnces.re {w w':World}{T:NumT}{vb pb Cp:Nat}{ps:Array Value}(h:NewOnces w T vb pb Cp ps w')(τ:Nat->Question->Nat)(d:Nat):NewOnces w T vb pb Cp ps (Go.Car.re w' τ d):=⟨h.be,⟨h.rep.blk,h.rep.inj⟩,h.len,h.lo,h.vlo,h.plo,h.vbk,h.pbk,h.ps',h.sep⟩
theorem NewOnces.of_re {w w':World}{T:NumT}{vb pb Cp:Nat}{ps:Array Value}{τ:Nat->Question->Nat}{d:Nat}(h:NewOnces (Go.Car.re w τ d) T vb pb Cp ps w'):NewOnces w T vb pb Cp ps w':=⟨h.be,h.rep,h.len,h.lo,h.vlo,h.plo,h.vbk,h.pbk,h.ps',h.sep⟩
theorem zqdt{w w':World}{vb j:Nat}{ob:Nat->Nat}{v:Value}(h:zq3n w vb j ob v w')(hj:0<j):∃pb Cp ps,v=.slice (some ⟨pb,0,none⟩) j Cp/\NewOnces w ⟨j,ob,λ_=>3,λ_=>43⟩ vb pb Cp ps w':=by
 rcases h.row.2 with⟨_,h0⟩|⟨g,cap,cur,rfl,hb,hg,h1,h2,h3,h4⟩
 . omega
 refine⟨g,cap,cur,rfl,h.be,⟨λc hc=>?_,h.inj⟩,λ_ _=>rfl,h.lo,h.vlo,hb,h.vbk,hg,λc hc=>?_,λc hc=>⟨?_,?_⟩⟩
 . exact h.blk c hc
 . have hc':c<j:=hc;have:(cur.toList.take (j*1))[c]?=some (Value.pointer (some ⟨ob c,0,none⟩)):=by
    rw[h4];unfold zq2k;simp[hc']
   rw[List.getElem?_take,if_pos (by omega)]at this;simpa using this
 . exact zq1h h.vbk (h.blk c hc) (by decide)
 . exact zq1h hg (h.blk c hc) (by decide)
theorem zqbz(cells:Int)(w:World):Calls Try.prog 34 #[.int .i64 cells] w λe w'=>∃T vb pb Cp ps,T.N=onceN cells/\NewOnces w T vb pb Cp ps w'/\e=.returned (.tuple #[.slice (some ⟨pb,0,none⟩) T.N Cp,.func (.func 63) #[] #[.pointer (some ⟨vb,0,none⟩)]]):=by
 obtain⟨H,hH⟩:∃H,w.heap.size=H:=⟨_,rfl⟩;obtain⟨N,hNN⟩:∃N,onceN cells=N:=⟨_,rfl⟩;have hN:0<N/\N<=64:=hNN▸zq85 cells;rw[hNN];obtain⟨m,hM⟩:∃m:Int,(if cells<1 then 1 else cells)=m:=⟨_,rfl⟩;have hNi:(if(64:Int)<m then 64 else m)=(N:Int):=by
  rw[<-hM];unfold onceN at hNN;split<;>split<;>omega
 have HH:=Lib.hid (And.intro hH hNN);have HN:=Lib.hid hN;have hI0:zq3n w H 0 (λ_=>0) (.slice none 0 0) (w.alloc (.cells #[.slice none 0 0] 108)):=
  ⟨Beyond.alloc _ _,by rw[<-hH];exact zq12 _ _,World.ownsRow_nil _ _ _ _,λc hc=>absurd hc (Nat.not_lt_zero _),λc hc=>absurd hc (Nat.not_lt_zero _),λc d hc=>absurd hc (Nat.not_lt_zero _),by omega⟩
 have HI0:=Lib.hid hI0;clear hNN hN hI0
 go_enter Try.func34,Try.ntmps34
 go_wp2_with (fail)
 clear hM hNi hH
 go_loopg [8] N (λk s8 wr=>∃(j:Nat)(p:Option Addr)(C:Nat)(ob:Nat->Nat),k=N - j/\j<=N/\s8=.int .i64 j/\zq3n w H j ob (.slice p j C) wr)
 case atStart=>exact⟨0,none,0,_,rfl,Nat.zero_le _,rfl,HI0.out⟩
 case round=>
  obtain⟨j,p,C,ob,hk,hj,rfl,hI⟩:=hrel;have HI:=Lib.hid hI
  by_cases hlt:j<N
  . have hlt':(j:Int)<(N:Int):=by omega
    have hj0:(0:Int)<=j:=by omega
    have hj64:(j:Int)<64:=by have:=HN.out;omega
    have c4:=(zq0 (off:=0) hI.vbk).trans rfl;have f4:=zqc (off:=0) hI.vbk;have c4a:∀o1:Obj,(wr.alloc o1).cell? ⟨H,0,none⟩=some (.slice p j C):=λo1=>(zq0 (zqf (o:=o1) hI.vbk)).trans rfl;have c4b:∀o1 o2:Obj,((wr.alloc o1).alloc o2).cell? ⟨H,0,none⟩=some (.slice p j C):=λo1 o2=>(zq0 (zqf (o:=o2) (zqf (o:=o1) hI.vbk))).trans rfl;obtain⟨q,hq⟩:∃q,wr.heap.size=q:=⟨_,rfl⟩;have HQ:=Lib.hid hq;have hsz0:w.heap.size<=wr.heap.size:=hI.be.1;have HRW:∀o1 o2:Obj,((wr.alloc o1).alloc o2).ownsRow w.heap.size 35 1 (.slice p j C) j (zq2k ob j):=λo1 o2=>zq31 (zq31 hI.row _) _;have HRX:=Lib.hid (And.intro HRW hsz0);have ON:=Lib.hid zq86;have hvk:∀(o1 o2:Obj)w2,(((wr.alloc o1).alloc o2).drew).grownBy w2 (Value.slice p j C).ownBlock->w2.heap[H]?=some (.cells #[.slice p j C] 108):=λo1 o2 w2 hg=>by
     have h1:=zqf (o:=o2) (zqf (o:=o1) hI.vbk);exact(hg.block H (zqs h1) (λe=>zq3h hI.row hI.vbk (by decide) e.symm)).trans h1
    have HVK:=Lib.hid hvk;clear hI HRW hsz0 hvk
    go_wp2_with (fail)
    have HKJ:=Lib.hid (And.intro hk hj64);clear hlt' hj0 hj64 hk hj;obtain⟨ti,hti,hz,hz1,hz2⟩:∃ti,Try.prog.info? 35=some ti/\ti.zero=some (.pointer none)/\ti.size=1/\ti.bytes=8:=⟨_,rfl,rfl,rfl,rfl⟩;have HT:=Lib.hid (And.intro hti (And.intro hz (And.intro hz1 hz2)));clear hti hz hz1 hz2;have hund:Try.prog.underlying 108=some (.slice 35):=by kernel_rfl
    have HU:=Lib.hid hund;clear hund;have hnw:∀o1:Obj,∀jj u,[Value.pointer (some ⟨q,0,none⟩)][jj]?=some u->((wr.alloc o1).alloc (.cells #[.pointer (some ⟨q,0,none⟩)] 35)).drew.cell? ((⟨q+1,0,none⟩:Addr).add jj)=some u:=λo1 jj u hj=>zq4u (w:=wr.alloc o1) (T:=35) (B:=q+1) (by rw[zqd,HQ.out]) jj u hj;have HNW:=Lib.hid hnw;clear hnw
    go_region_law (first
     |(go_simp;go_at_call 13;refine Calls.mono (ON.out _) ?_;rintro e w' ⟨rfl,rfl⟩)
     |(refine step_append_lies _ rfl (.tmp 10) (.tmp 12) 108 rfl w.heap.size 35 ti (.pointer none) 1 8 HU.out HT.out.1 HT.out.2.1 HT.out.2.2.1 HT.out.2.2.2 rfl Nat.one_pos (.slice p j C) j (zq2k ob j) rfl (HRX.out.1 _ _) ⟨q+1,0,none⟩ 1 1 [.pointer (some ⟨q,0,none⟩)] rfl rfl (HNW.out _) ?_ Nat.one_pos ?_ ?_ ?_ (q+2) ?_ ?_
       . intro u hu;rw[List.mem_singleton.1 hu];rfl
       . have:=HN.out;simp only[maxLen];omega
       . have:=HN.out;omega
       . have:=HRX.out.2;have:=HQ.out;show _<=((wr.alloc _).alloc _).heap.size;rw[zqd,zqd];omega
       . show((wr.alloc _).alloc _).heap.size=_;rw[zqd,zqd,HQ.out]
       intro g cap w2 k1 k2 k3 k4;have HK:=Lib.hid (And.intro k1 k2);have cS:=(zq0 (off:=0) (HVK.out _ _ _ k2)).trans rfl;have fS:=zqc (off:=0) (HVK.out _ _ _ k2);clear k1 k2 k3 k4))
    all_goals(
     go_wp2_with (fail)
     go_roundg (N - (j+1))
     case measure=>have:=HKJ.out.1;omega
     case rel=>have hj64:=HKJ.out.2;exact⟨j+1,_,_,upd' ob j q,rfl,by omega,(by first|rfl |(congr 1;unfold wrap64;omega)),zqdr HI.out HQ.out (by rfl) HK.out.1 HK.out.2⟩)
  . obtain rfl:N=j:=by omega
    clear hk hj hlt;obtain⟨pb,Cp,ps,e,hnew⟩:=zqdt hI (by have:=HN.out;omega);have c4:=(zq0 (off:=0) hI.vbk).trans rfl;rw[e]at c4;have HW:=Lib.hid (And.intro hnew e);clear hI hnew e;go_wp2;refine bodyPost_ret (v:=.tuple #[.slice (some ⟨pb,0,none⟩) N Cp,.func (.func 63) #[] #[.pointer (some ⟨H,0,none⟩)]]) ?_ rfl ⟨_,_,_,_,_,rfl,HW.out.1,rfl⟩;simp only[results,Try.f34];simp[go_sem]
noncomputable def oplT(n:Nat):Code:=tailN n (Try.f11.body.getD .skip)
theorem opl0:Try.f11.body.getD .skip=.seq (headC (oplT 0)) (.seq (headC (oplT 1)) (.seq (headC (oplT 2)) (oplT 3))):=by kernel_rfl
def onceT(NC:Nat)(ops:Nat->List OpX)(N:Nat)(mo:Int)(sched:List Int):TSt (Nums×(Nat->List Ans)):=playT (λi=>opsP i (doerP NC) (ops i)) N (min mo.toNat 1048576) sched (λ_ _=>0,λ_=>[])
theorem zqds{Fin:Machine->Trace->Prop}(hFin:Back Try.prog Fin){n:Nat}(hn:0<n){RP:Nat->Option Obj}{w:World}{np Cn N Cs:Nat}{pp scp:Option Addr}{sp:Nat->Option Addr}{L Cp:Nat->Nat}{ops:Nat->List OpX}{sched:List Int}{mo cells:Int}
 (hRP:∀b o,RP b=some o->w.heap[b]?=some o) (ho:OpsAt w RP pp np N sp L Cp ops) (hsl:sched.length<=4611686018427387904)
 (hs:sched≠[]->∃sb off,scp=some ⟨sb,off,none⟩/\∀j x,sched[j]?=some x->w.cell? ⟨sb,off+j,none⟩=some (.int .i64 x))
 {c:Frame} {cs:List Frame}
 (hmain:∀ab ov sv am w',PlayedR N w (onceT (onceN cells) ops N mo sched) (numL (onceT (onceN cells) ops N mo sched).s.1 (onceN cells)) ab ov sv am w'->
  J0 Try.prog Fin (n+N) (G (c.finish (.agg #[.slice (some ⟨ab,0,none⟩) N N,ov,sv,.bool (decide (0<leftN (onceT (onceN cells) ops N mo sched).ov N))])) cs) w'):
 J0 Try.prog Fin n (G (Frame.enter Try.prog 11 #[.int .i64 cells,.slice pp np Cn,.slice scp sched.length Cs,.int .i64 mo] .normal) (c::cs)) w:=by
 have hJ:=j0_JS hFin;have hC:=zq2i hFin;have e:Frame.enter Try.prog 11 #[.int .i64 cells,.slice pp np Cn,.slice scp sched.length Cs,.int .i64 mo] .normal=(bN 11).at (zqk Try.f11 #[.int .i64 cells,.slice pp np Cn,.slice scp sched.length Cs,.int .i64 mo]) [.code ((Try.f11.body).getD .skip)]:=by kernel_rfl
 have ea:zqk Try.f11 #[.int .i64 cells,.slice pp np Cn,.slice scp sched.length Cs,.int .i64 mo]=⟨#[.int .i64 cells,.slice pp np Cn,.slice scp sched.length Cs,.int .i64 mo,undef,undef,undef,undef,undef,undef,undef,undef,undef,undef,undef,undef,undef,undef,undef,undef,undef,undef,undef,undef,undef,undef],[]⟩:=by kernel_rfl
 rw[e,ea,opl0];clear e ea;have hm:=Lib.hid hmain;clear hmain;obtain⟨H,hH⟩:∃H,w.heap.size=H:=⟨_,rfl⟩;refine hJ.ctl (s:=n) (λw=>stepG_seq) ?_;refine zq2t hJ hC zq2l (by kernel_rfl) (λt w'=>t=#[.int .i64 cells,.slice pp np Cn,.slice scp sched.length Cs,.int .i64 mo,undef,undef,undef,undef,.pointer (some ⟨H,0,none⟩),undef,undef,undef,undef,undef,undef,undef,undef,undef,undef,undef,undef,undef,undef,undef,undef,undef]/\∃τ d,w'=re (w.alloc (.cells #[.slice none 0 0,.slice none 0 0,.slice none 0 0,.bool false] 29)) τ d) (λt w' τ d h=>⟨h.1,by obtain⟨τ',d',rfl⟩:=h.2;exact⟨τ,d,by rw[re_re]⟩⟩) (by decide) (λτ d=>?_) ?_
 . obtain⟨u0,hu0⟩:∃c,headC (oplT 0)=c:=⟨_,rfl⟩;have eu0:=hu0;rw[hu0];simp only[oplT,headC,tailN,Try.f11,al_od]at eu0;subst eu0;clear hu0;clear hs ho hRP;go_wp2;exact⟨rfl,rfl,τ,d,rfl⟩
 rintro t w' ⟨rfl,τ,d,rfl⟩;refine hJ.re' n _ _ τ d ?_;have hwa:(w.alloc (.cells #[.slice none 0 0,.slice none 0 0,.slice none 0 0,.bool false] 29)).heap.size=H+1:=by rw[zqd,hH]
 have hob:∀b,b<H->(w.alloc (.cells #[.slice none 0 0,.slice none 0 0,.slice none 0 0,.bool false] 29)).heap[b]?=w.heap[b]?:=λb hb=>by rw[zqa,if_neg (by omega)]
 have hzb:(w.alloc (.cells #[.slice none 0 0,.slice none 0 0,.slice none 0 0,.bool false] 29)).heap[H]?=some (.cells #[.slice none 0 0,.slice none 0 0,.slice none 0 0,.bool false] 29):=hH▸zq12 w _;obtain⟨wa,hwae⟩:∃wa,w.alloc (.cells #[.slice none 0 0,.slice none 0 0,.slice none 0 0,.bool false] 29)=wa:=⟨_,rfl⟩;rw[hwae]at hwa hob hzb |-;clear hwae;refine hJ.ctl (s:=n) (λw=>stepG_seq) ?_;refine zq2t hJ hC zq2l (by kernel_rfl) (λt w'=>∃TN vb pb Cp ps,t=#[.int .i64 cells,.slice pp np Cn,.slice scp sched.length Cs,.int .i64 mo,undef,undef,undef,undef,.pointer (some ⟨H,0,none⟩),.slice (some ⟨pb,0,none⟩) (onceN cells) Cp,.func (.func 63) #[] #[.pointer (some ⟨vb,0,none⟩)],undef,.tuple #[.slice (some ⟨pb,0,none⟩) (onceN cells) Cp,.func (.func 63) #[] #[.pointer (some ⟨vb,0,none⟩)]],.int .i64 cells,.tuple #[.slice (some ⟨pb,0,none⟩) (onceN cells) Cp,.func (.func 63) #[] #[.pointer (some ⟨vb,0,none⟩)]],.slice (some ⟨pb,0,none⟩) (onceN cells) Cp,.func (.func 63) #[] #[.pointer (some ⟨vb,0,none⟩)],undef,undef,undef,undef,undef,undef,undef,undef,undef]/\TN.N=onceN cells/\NewOnces wa TN vb pb Cp ps w') (λt w' τ d h=>by obtain⟨TN,vb,pb,Cp,ps,h1,h2,h3⟩:=h;exact⟨TN,vb,pb,Cp,ps,h1,h2,h3.re τ d⟩) (by decide) (λτ d=>?_) ?_
 . obtain⟨u0,hu0⟩:∃c,headC (oplT 1)=c:=⟨_,rfl⟩;have eu0:=hu0;rw[hu0];simp only[oplT,headC,tailN,Try.f11,al_od]at eu0;subst eu0;clear hu0;have HM:=Lib.hid (zqbz cells (re wa τ d));clear hs ho hRP hob hzb hH hwa hsl
   go_wp2_with (fail)
   refine Calls.mono HM.out ?_;rintro e w' ⟨TN,vb,pb,Cp,ps,hN,hR,rfl⟩;rw[hN];have HR:RowKit.Hid (TN.N=onceN cells/\NewOnces wa TN vb pb Cp ps w'):=Lib.hid ⟨hN,hR.of_re⟩;clear hR hN;go_wp2;exact⟨rfl,_,_,_,_,_,rfl,HR.out⟩
 rintro t wb ⟨TN,vb,pb,Cq,ps,rfl,hTN,hR⟩;have hNN:=zq85 cells;have hwb:H+1<=wb.heap.size:=by have:=hR.be.1;omega
 have hobb:∀b,b<H->wb.heap[b]?=w.heap[b]?:=λb hb=>(hR.be.2 b (by omega)).trans (hob b hb);have hzb2:wb.heap[H]?=some (.cells #[.slice none 0 0,.slice none 0 0,.slice none 0 0,.bool false] 29):=(hR.be.2 H (by omega)).trans hzb;have hlo:=hR.lo;have hvl:=hR.vlo;have hpl:=hR.plo;rw[hwa]at hlo hvl hpl;clear hzb hob hwa;have hlt:∀b o,RP b=some o->b<H:=λb o h=>by rw[<-hH];exact zqs (hRP b o h)
 have hnf:∀b,(zqz TN).foot (λ_ _=>0) b->H+1<=b:=λb⟨x,hx,hb⟩=>by have:=hlo x hx;omega
 obtain⟨RQ,hRQ⟩:∃RQ:Nat->Option Obj,RQ=λb=>if b=vb then some (.cells #[.slice (some ⟨pb,0,none⟩) TN.N Cq] 108)else if b=pb then some (.cells ps 35)else RP b:=⟨_,rfl⟩
 have hpv:pb≠vb:=zq1h hR.pbk hR.vbk (by decide);have hqv:RQ vb=some (.cells #[.slice (some ⟨pb,0,none⟩) TN.N Cq] 108):=by rw[hRQ];simp
 have hqp:RQ pb=some (.cells ps 35):=by rw[hRQ];simp[hpv]
 have hqr:∀b o,RP b=some o->RQ b=some o:=λb o h=>by
  have:=hlt b o h;rw[hRQ];simp only;rw[if_neg (by omega),if_neg (by omega)];exact h
 have hqw:∀b o,RQ b=some o->(b=vb\/b=pb\/b<H)/\wb.heap[b]?=some o:=λb o h=>by
  rw[hRQ]at h;simp only at h;split at h
  . rename_i e;cases h;subst e;exact⟨.inl rfl,hR.vbk⟩
  . split at h
    . rename_i e;cases h;subst e;exact⟨.inr (.inl rfl),hR.pbk⟩
    . exact⟨.inr (.inr (hlt b o h)),(hobb b (hlt b o h)).trans (hRP b o h)⟩
 have hB:BRep (zqz TN) RQ ⟨λ_ _=>0,λ_ _=>none⟩ wb:=by
  refine⟨hR.rep,λi b o h=>(by cases h),λb o h=>(hqw b o h).2,λi b h=>absurd rfl h,λi j b _ h=>absurd rfl h,λb h hf=>?_,λi b _=>rfl⟩;cases ho:RQ b with
  |none=>exact h ho
  |some o=>
   obtain⟨x,hx,hb⟩:=hf;have h1:=hR.sep x hx;have h2:=hlo x hx;rcases(hqw b o ho).1 with e|e|e
   . exact h1.1 (by rw[<-e];exact hb)
   . exact h1.2 (by rw[<-e];exact hb)
   . omega
 have hOp:OpsAt wb RQ pp np N sp L Cp ops:=by
  refine⟨ho.eq,ho.le,λh0=>?_,ho.row,ho.len,λi hi k op hk=>?_⟩
  . obtain⟨tb,to',e,h1⟩:=ho.at' h0;exact⟨tb,to',e,λi hi=>(zq16 (hobb tb (by rw[<-hH];exact cell_lt (h1 i hi)))).trans (h1 i hi)⟩
  . obtain⟨g,off,cur,e,fr,h1,h2,h3⟩:=ho.op i hi k op hk;exact⟨g,off,cur,e,fr,h1,hqr _ _ h2,h3⟩
 have hsc:sched≠[]->∃sb off,scp=some ⟨sb,off,none⟩/\¬(zqz TN).foot (λ_ _=>0) sb/\∀j x,sched[j]?=some x->wb.cell? ⟨sb,off+j,none⟩=some (.int .i64 x):=λh0=>by
  obtain⟨sb,off,e,h2⟩:=hs h0;obtain⟨x,l,hsl⟩:=List.exists_cons_of_ne_nil h0;have hlt:sb<H:=by rw[<-hH];exact cell_lt (h2 0 x (by rw[hsl];rfl))
  exact⟨sb,off,e,λhf=>by have:=hnf sb hf;omega,λj x hj=>(zq16 (hobb sb hlt)).trans (h2 j x hj)⟩
 have hpn:¬(zqz TN).foot (λ_ _=>0) pb:=λ⟨x,hx,hb⟩=>(hR.sep x hx).2 hb
 have hpw:=hR.pbk;have hps:=hR.ps';have hln:=hR.len;clear ho hs hRP hlt hR;refine hJ.ctl (s:=n) (λw=>stepG_seq) ?_;obtain⟨u0,hu0⟩:∃c,headC (oplT 2)=c:=⟨_,rfl⟩;have eu0:=hu0;rw[hu0];simp only[oplT,headC,tailN,Try.f11,al_od]at eu0;subst eu0;clear hu0;refine hJ.ctl (s:=n) (λw=>stepG_region) ?_;have HX:=Lib.hid (And.intro hB (And.intro hOp (And.intro hsc (And.intro hnf (And.intro hobb (And.intro hzb2 hwb))))));have HE:=Lib.hid (And.intro hTN (And.intro hH (And.intro hpw (And.intro hps (And.intro hln (And.intro hpn (And.intro hqv (And.intro hqp hNN))))))));clear hB hOp hsc hnf hobb hzb2 hwb hH hpw hps hln hpn hqv hqp hRQ hqr hqw hlo hvl hpl hTN hpv hNN;refine zqo (s:=n) (by decide) hJ (zqn _) true (.inl rfl) 0 4 3 rfl rfl rfl (by rfl) ?_;intro τ d;simp only[List.drop_zero,List.take_succ_cons,List.take_zero];go_wp2;simp only[zqg];refine hJ.re' n _ _ τ d ?_;refine zq1q (by decide) hJ (s:=n) rfl rfl (f:=35) (args:=#[.slice pp np Cn,.func (.func 63) #[] #[.pointer (some ⟨vb,0,none⟩)],.slice scp sched.length Cs,.int .i64 mo]) (λτ d=>?_) (λτ d=>?_) ?_
 . simp[go_sem,execOp,Act.eval,resolve,Deferred.ofValue,invoke,callFunc,Try.func35,Try.f35]
 . intro e he;simp[go_sem,execOp,Act.eval,resolve,Deferred.ofValue,invoke,callFunc,Try.func35,Try.f35,Sem.runT_eq]at he
 obtain⟨hB,hOp,hsc,hnf,hobb,hzb2,hwb⟩:=HX.out;obtain⟨hTN,hH,hpw,hps,hln,hpn,hqv,hqp,hNN⟩:=HE.out;refine zqdw hFin hn zq2l rowsM (fn:=Try.f63) (cc:=(Try.f63.body).getD .skip) Try.func63 rfl rfl hB hOp hsl hsc (dop:=λ_=>doerP TN.N) (λi op k=>zqby _ _ _) (λro ab pr st cr rest EN i o op hro _=>zqc1 (by omega) hln ro (hro _ _ hqv) (hro _ _ hqp) hps pr st cr rest EN i o op) ?_;intro ab v l' am w2 hO;rw[Frame.finish_at]
 walk_nrm
 have hTe:playT (λi=>opsP i (doerP TN.N) (ops i)) N (min mo.toNat 1048576) sched ((zqz TN).st (λ_ _=>0),λ_=>[])=onceT (onceN cells) ops N mo sched:=by
  unfold onceT;rw[hTN];rfl
 rw[hTe]at hO |-;obtain⟨pv',cv',rfl,_⟩:=zq3x hO.row;have hl':(onceT (onceN cells) ops N mo sched).s.1=l':=hO.st.symm;have hze:w2.heap[H]?=some (.cells #[.slice none 0 0,.slice none 0 0,.slice none 0 0,.bool false] 29):=(hO.old H (by omega) (λh=>by have:=hnf H h;omega)).trans hzb2;have hpe:w2.heap[pb]?=some (.cells ps 35):=(hO.old pb (zqs hpw) hpn).trans hpw;generalize (onceT (onceN cells) ops N mo sched).ord.length=nv' at hO |-;have HO:=Lib.hid hO;have HZ:=Lib.hid (And.intro hze (And.intro hl' hpe));obtain⟨stuck,hstuck⟩:∃x,decide (0<leftN (onceT (onceN cells) ops N mo sched).ov N)=x:=⟨_,rfl⟩;rw[hstuck];have HST:=Lib.hid hstuck;clear hstuck hO hze hl' hpe hTe hB hOp hsc hnf hobb hzb2 hwb hTN hH hpw hps hln hpn hqv hqp hNN;refine zqo (s:=n+N) (by decide) hJ (zqn _) false (.inr rfl) 5 2 0 rfl rfl rfl (by rfl) ?_;intro τ d;simp only[List.drop_succ_cons,List.drop_zero,List.take_succ_cons,List.take_zero];have HO2:=Lib.hid (HO.out.re τ d);have HZ2:RowKit.Hid ((re w2 τ d).heap[H]?=some (.cells #[.slice none 0 0,.slice none 0 0,.slice none 0 0,.bool false] 29)/\(onceT (onceN cells) ops N mo sched).s.1=l'/\(re w2 τ d).heap[pb]?=some (.cells ps 35)):=Lib.hid HZ.out;clear HO HZ;generalize re w2 τ d=w3 at HO2 HZ2 |-;go_wp2;simp only[zqg];refine hJ.ctl (s:=n+N) (λw=>stepG_region_end) ?_;have hT:=zq12 w3 (.cells #[.slice (some ⟨ab,0,none⟩) N N,.slice pv' nv' cv',.slice none 0 0,.bool stuck] 29);have hoT:∀b,b<w3.heap.size->(w3.alloc (.cells #[.slice (some ⟨ab,0,none⟩) N N,.slice pv' nv' cv',.slice none 0 0,.bool stuck] 29)).heap[b]?=w3.heap[b]?:=λb hb=>by rw[zqa,if_neg (by omega)]
 have hsT:(w3.alloc (.cells #[.slice (some ⟨ab,0,none⟩) N N,.slice pv' nv' cv',.slice none 0 0,.bool stuck] 29)).heap.size=w3.heap.size+1:=zqd _ _;generalize (w3.alloc (.cells #[.slice (some ⟨ab,0,none⟩) N N,.slice pv' nv' cv',.slice none 0 0,.bool stuck] 29))=w4 at hT hoT hsT |-;obtain⟨T,hTT⟩:∃T,w3.heap.size=T:=⟨_,rfl⟩;rw[hTT]at hT hoT hsT |-;have HT:=Lib.hid (And.intro hT (And.intro hoT (And.intro hsT hTT)));clear hT hoT hsT hTT;refine zq58 hJ hC zq2l (by kernel_rfl) (λv w'=>∃sv am,v=.agg #[.slice (some ⟨ab,0,none⟩) N N,.slice pv' nv' cv',sv,.bool stuck]/\PlayedR N w (onceT (onceN cells) ops N mo sched) (numL (onceT (onceN cells) ops N mo sched).s.1 (onceN cells)) ab (.slice pv' nv' cv') sv am w') (λv w' τ d⟨sv,am,h1,h2⟩=>⟨sv,am,h1,h2.re τ d⟩) rfl Try.func11 (λτ d=>?_) ?_
 . obtain⟨u0,hu0⟩:∃c,oplT 3=c:=⟨_,rfl⟩;have eu0:=hu0;rw[hu0];simp only[oplT,headC,tailN,Try.f11,al_od]at eu0;subst eu0;clear hu0;obtain⟨hT,hoT,hsT,hTT⟩:=HT.out;have hT':(re w4 τ d).heap[T]?=some (.cells #[.slice (some ⟨ab,0,none⟩) N N,.slice pv' nv' cv',.slice none 0 0,.bool stuck] 29):=hT;have hoT':∀b,b<T->(re w4 τ d).heap[b]?=w3.heap[b]?:=hoT;have hsT':(re w4 τ d).heap.size=T+1:=hsT;have hHl:H<T:=by rw[<-hTT];exact zqs HZ2.out.1
   have hpT:(re w4 τ d).heap[pb]?=some (.cells ps 35):=(hoT' pb (by rw[<-hTT];exact zqs HZ2.out.2.2)).trans HZ2.out.2.2;have hall:=zqez (T:=TN) ((zqz TN).frame _ _ _ HO2.out.rep λb hb=>hoT' b (by rw[<-hTT];exact(zqz TN).lt _ _ _ HO2.out.rep hb)) HE.out.2.2.2.2.1 (by have:=HE.out.1;have:=HE.out.2.2.2.2.2.2.2.2;omega) (Cp:=Cq) hpT HE.out.2.2.2.1;rw[HE.out.1]at hall;generalize re w4 τ d=w5 at hT' hoT' hsT' hall |-;have HA:=Lib.hid hall;have HW:=Lib.hid (And.intro hT' (And.intro hoT' (And.intro hsT' (And.intro hTT hHl))));clear hT hoT hsT hTT hT' hoT' hsT' hpT hall HT hHl hm
   go_wp2_with (fail)
   refine Calls.mono HA.out ?_;rintro e w6 ⟨sv,rfl,hI⟩;obtain⟨sp',sc',rfl,-,-⟩:=zq3x hI.row;obtain⟨sl,hsl'⟩:∃x,(numL l' (onceN cells)).length=x:=⟨_,rfl⟩;rw[hsl']at hI |-;have hI2:=Lib.hid (And.intro hI hsl');clear hsl';have b1:w6.heap[T]?=some (.cells #[.slice (some ⟨ab,0,none⟩) N N,.slice pv' nv' cv',.slice none 0 0,.bool stuck] 29):=(hI.be.2 T (by have:=HW.out.2.2.1;omega)).trans HW.out.1;have b0:w6.heap[H]?=some (.cells #[.slice none 0 0,.slice none 0 0,.slice none 0 0,.bool false] 29):=(hI.be.2 H (by have:=HW.out.2.2.1;have:=HW.out.2.2.2.2;omega)).trans ((HW.out.2.1 H HW.out.2.2.2.2).trans HZ2.out.1);have hne:¬(T=H):=by have:=HW.out.2.2.2.2;omega
   have hne2:¬(H=T):=by omega
   clear hI;have c0:=(zq0 (off:=0) b1).trans rfl;have c1:=(zq0 (off:=1) b1).trans rfl;have c2:=(zq0 (off:=2) b1).trans rfl;have c3:=(zq0 (off:=3) b1).trans rfl;have y2:=zqc (off:=2) b1;have r0:=(zq0 (off:=0) b0).trans rfl;have r1:=(zq0 (off:=1) b0).trans rfl;have r2:=(zq0 (off:=2) b0).trans rfl;have r3:=(zq0 (off:=3) b0).trans rfl;have z0:=zqc (off:=0) b0;have z1:=zqc (off:=1) b0;have z2:=zqc (off:=2) b0;have z3:=zqc (off:=3) b0;have B0:=Lib.hid b0;have B1:=Lib.hid b1;clear b0 b1;go_wp2;clear c0 c1 c2 c3 y2 r0 r1 r2 r3 z0 z1 z2 z3;have b0:(w6.setCell ⟨T,2,none⟩ (.slice sp' sl sc')).heap[H]?=some (.cells #[.slice none 0 0,.slice none 0 0,.slice none 0 0,.bool false] 29):=by rw[zqi _ _ _ _ hne2];exact B0.out
   have b1':=zqy _ H 0 (.slice (some ⟨ab,0,none⟩) N N) b0;have b2':=zqy _ H 1 (.slice pv' nv' cv') b1';have b3':=zqy _ H 2 (.slice sp' sl sc') b2';have b4':=zqy _ H 3 (.bool stuck) b3';have hext:∀x,x≠T->x≠H->(((((w6.setCell ⟨T,2,none⟩ (.slice sp' sl sc')).setCell ⟨H,0,none⟩ (.slice (some ⟨ab,0,none⟩) N N)).setCell ⟨H,1,none⟩ (.slice pv' nv' cv')).setCell ⟨H,2,none⟩ (.slice sp' sl sc')).setCell ⟨H,3,none⟩ (.bool stuck)).heap[x]?=w6.heap[x]?:=λx hx1 hx=>by
    rw[zqi _ _ _ _ hx,zqi _ _ _ _ hx,zqi _ _ _ _ hx,zqi _ _ _ _ hx,zqi _ _ _ _ hx1]
   have hsz8:(((((w6.setCell ⟨T,2,none⟩ (.slice sp' sl sc')).setCell ⟨H,0,none⟩ (.slice (some ⟨ab,0,none⟩) N N)).setCell ⟨H,1,none⟩ (.slice pv' nv' cv')).setCell ⟨H,2,none⟩ (.slice sp' sl sc')).setCell ⟨H,3,none⟩ (.bool stuck)).heap.size=w6.heap.size:=by simp only[zq13]
   generalize (((((w6.setCell ⟨T,2,none⟩ (.slice sp' sl sc')).setCell ⟨H,0,none⟩ (.slice (some ⟨ab,0,none⟩) N N)).setCell ⟨H,1,none⟩ (.slice pv' nv' cv')).setCell ⟨H,2,none⟩ (.slice sp' sl sc')).setCell ⟨H,3,none⟩ (.bool stuck))=w8 at b4' hext hsz8 |-;clear b1' b2' b3' b0;have k0:=(zq0 (off:=0) b4').trans rfl;have k1:=(zq0 (off:=1) b4').trans rfl;have k2:=(zq0 (off:=2) b4').trans rfl;have k3:=(zq0 (off:=3) b4').trans rfl;obtain⟨_,hoT,hsT,hTT,hHl⟩:=HW.out;obtain⟨hI,hsl2⟩:=hI2.out;have hwl:=HE.out.1;obtain⟨hB,hOp,hsc,hnf,hobb,hzb2,hwb⟩:=HX.out;have hrow:w8.ownsRow w3.heap.size 2 1 (.slice sp' sl sc') (numL (onceT (onceN cells) ops N mo sched).s.1 (onceN cells)).length ((numL (onceT (onceN cells) ops N mo sched).s.1 (onceN cells)).map (Value.int .i64)):=by
    rw[HZ2.out.2.1,hsl2];have hrI:=hI.row;rw[hsl2]at hrI;have q:w8.ownsRow w5.heap.size 2 1 (.slice sp' sl sc') sl ((numL l' (onceN cells)).map (Value.int .i64)):=zq1x hrI λg hg=>by
     have h1:=(own_lt hrI hg).2.1;exact hext g (by omega) (by omega)
    exact zq3y q (by omega)
   have hfin:PlayedR N w (onceT (onceN cells) ops N mo sched) (numL (onceT (onceN cells) ops N mo sched).s.1 (onceN cells)) ab (.slice pv' nv' cv') (.slice sp' sl sc') am w8:=by
    refine zqe9 HO2.out HE.out.2.1 (by omega) hobb hnf (by have:=hI.be.1;omega) (λx hx hxH=>?_) hrow;rw[hext x (by omega) hxH,hI.be.2 x (by omega)];exact hoT x (by omega)
   refine⟨rfl,.agg #[.slice (some ⟨ab,0,none⟩) N N,.slice pv' nv' cv',.slice sp' sl sc',.bool stuck],?_,_,rfl,_,_,rfl,hfin⟩;simp only[results,Try.f11];simp[go_sem,k0,k1,k2,k3]
 . rintro v w' ⟨sv,am,rfl,h⟩;have h2:=hm.out _ _ sv am w' h;rw[HST.out]at h2;exact h2
theorem zq5m{w:World}{B:Nat}{T:TypeId}{v:Value}{l:List Int}(h:w.ownsRow B T 1 v l.length (l.map (Value.int .i64))):zq38 w v l:=by
 rcases h.2 with⟨hv,h0⟩|⟨g,cap,cur,hv,hb,hh,h1,h2,h3,h4⟩
 . exact⟨none,0,by rw[hv,h0],λhne=>absurd (List.length_eq_zero_iff.1 h0) hne⟩
 . refine⟨_,cap,hv,λ_=>⟨g,0,rfl,λi hi=>?_⟩⟩;rw[zq0 hh,Nat.zero_add];have e:(l.map (Value.int .i64))[i]?=some (.int .i64 (l.getD i 0)):=by simp[hi]
   rw[<-h4,List.getElem?_take,if_pos (by omega)]at e;simpa using e
theorem zqcv{w:World}{B:Nat}{T:TypeId}{v:Value}{l:List Nat}(h:w.ownsRow B T 1 v l.length (l.map λ(i:Nat)=>.int .i64 i)):zq38 w v (l.map λ(i:Nat)=>(i:Int)):=by
 refine zq5m (B:=B) (T:=T) ?_;rw[List.length_map,List.map_map];exact h
theorem zqeg{X:Nat->Option Obj}{T:TypeId}{v:Value}{l:List Int}{w:World}(h:RowB X T 1 v l.length (l.map (Value.int .i64)))(hX:∀b o,X b=some o->w.heap[b]?=some o):zq38 w v l:=zq5m (h.own hX)
theorem ansL_get{tI:TypeId}{X:Nat->Option Obj}{l:List Ans}{cs:List Value}(h:AnsL tI X l cs):∀{i:Nat}{a:Ans},l[i]?=some a->∃Y sl,cs[i*3]?=some (.bool a.ok)/\cs[i*3+1]?=some (.int .i64 a.n)/\cs[i*3+2]?=some sl/\RowB Y tI 1 sl a.l.length (a.l.map (Value.int .i64))/\∀b o,Y b=some o->X b=some o:=by
 induction h with
 |nil=>intro i a hi;simp at hi
 |snoc h ha hd ih=>
  rename_i X Y l cs cs' a';intro i a hi;have hlen:=h.len;rcases Nat.lt_or_ge i l.length with hlt|hge
  . rw[List.getElem?_append_left hlt]at hi;obtain⟨Z,sl,h1,h2,h3,h4,h5⟩:=ih hi;refine⟨Z,sl,?_,?_,?_,h4,λb o hb=>?_⟩
    . rw[List.getElem?_append_left (by omega)];exact h1
    . rw[List.getElem?_append_left (by omega)];exact h2
    . rw[List.getElem?_append_left (by omega)];exact h3
    . have h6:=h5 b o hb;unfold orB;cases hY:Y b with
      |none=>simp[h6]
      |some y=>have:=hd b (by rw[hY];simp);rw[this]at h6;cases h6
  . have e:i=l.length:=by
     have:=(List.getElem?_eq_some_iff.1 hi).1;simp at this;omega
    subst e;simp at hi;subst hi;obtain⟨sl,rfl,hr⟩:=ha;refine⟨Y,sl,?_,?_,?_,hr,λb o hb=>by simp[orB,hb]⟩
    . rw[List.getElem?_append_right (by omega),hlen];simp
    . rw[List.getElem?_append_right (by omega),hlen];simp
    . rw[List.getElem?_append_right (by omega),hlen];simp
theorem ansR_at{tA tI:TypeId}{X:Nat->Option Obj}{hv:Value}{l:List Ans}{w:World}(h:AnsR tA tI X hv l)(hX:∀b o,X b=some o->w.heap[b]?=some o):AnsAt w hv l:=by
 obtain⟨Xr,XL,cs,hr,hL,rfl,hd⟩:=h;rcases hr.2 with⟨hv,h0,_⟩|⟨g,cap,cur,rfl,rfl,h1,h2,h3,h4⟩
 . exact⟨none,0,by rw[hv,h0],λhne=>absurd (List.length_eq_zero_iff.1 h0) hne⟩
 . refine⟨_,cap,rfl,λ_=>⟨g,0,rfl,λi a hi=>?_⟩⟩;have hg:w.heap[g]?=some (.cells cur tA (0,0)):=hX g _ (by simp[orB]);obtain⟨Y,sl,e1,e2,e3,e4,e5⟩:=ansL_get hL hi;have hil:=(List.getElem?_eq_some_iff.1 hi).1;have get:∀{j:Nat}{v:Value},j<l.length*3->cs[j]?=some v->w.cell? ⟨g,0+j,none⟩=some v:=λ{j v}hj e=>by
    rw[zq0 hg,Nat.zero_add];rw[<-h4,List.getElem?_take,if_pos hj]at e;simpa using e
   refine⟨get (by omega) e1,?_,sl,?_,zqeg e4 λb o hb=>hX b o ?_⟩
   . exact get (by omega) e2
   . exact get (by omega) e3
   . have h6:=e5 b o hb
     by_cases hbg:b=g
     . subst hbg;have:=hd b (by simp);rw[this]at h6;cases h6
     . simp[orB,hbg,h6]
theorem zq6n{ab N:Nat}{m:AnsM}{w:World}(h:zq37 tT ab N m w){i:Nat}(hi:i<N):w.cell? ⟨ab,i,none⟩=some (m.hv i)/\AnsAt w (m.hv i) (m.st i):=by
 refine⟨(zq0 h.hd).trans ?_,ansR_at (h.row i hi) λb o hb=>h.blk i b o hi hb⟩;simp[hi]
noncomputable def seT(n:Nat):Code:=tailN n (Try.f9.body.getD .skip)
theorem se0:Try.f9.body.getD .skip=.seq (headC (seT 0)) (.seq (headC (seT 1)) (seT 2)):=by kernel_rfl
theorem zqde(w:World):Calls Try.prog 31 #[] w λe w'=>e=.returned (.pointer (some ⟨w.heap.size,0,none⟩))/\∃o,w'=w.alloc o:=by
 go_enter Try.func31,Try.ntmps31
 go_wp2;go_ret;exact⟨rfl,_,rfl⟩
theorem zqdf(w:World):Calls Try.prog 32 #[.nilFunc] w λe w'=>e=.returned (.pointer (some ⟨w.heap.size,0,none⟩))/\∃o,w'=w.alloc o:=by
 go_enter Try.func32,Try.ntmps32
 go_wp2;go_ret;exact⟨rfl,_,rfl⟩
def seOps(i:Nat):List OpX:=if i=0 then [⟨2,0,7,0⟩]else [⟨2,0,9,0⟩]
theorem se_ops{w:World}{rb p0 p1:Nat}(hr:w.heap[rb]?=some (.cells #[.slice (some ⟨p0,0,none⟩) 1 1,.slice (some ⟨p1,0,none⟩) 1 1] 32))(h0:w.heap[p0]?=some (.cells #[.int .i64 2,.int .i64 0,.int .i64 7,.int .i64 0] 34))(h1:w.heap[p1]?=some (.cells #[.int .i64 2,.int .i64 0,.int .i64 9,.int .i64 0] 34)):
 OpsAt w (λb=>if b=p0\/b=p1 then w.heap[b]? else none) (some ⟨rb,0,none⟩) 2 2 (λi=>if i=0 then some ⟨p0,0,none⟩else some ⟨p1,0,none⟩) (λ_=>1) (λ_=>1) seOps:=by
 refine⟨rfl,by decide,λ_=>⟨rb,0,rfl,λi hi=>?_⟩,λi hi=>?_,λi hi=>?_,λi hi k' op hop=>?_⟩
 . rw[zq0 hr];obtain rfl |rfl:i=0\/i=1:=by omega
   . rfl
   . rfl
 . obtain rfl |rfl:i=0\/i=1:=by omega
   . exact⟨by decide,by decide,λh=>(by cases h)⟩
   . exact⟨by decide,by decide,λh=>(by cases h)⟩
 . obtain rfl |rfl:i=0\/i=1:=by omega
   . rfl
   . rfl
 . obtain rfl |rfl:i=0\/i=1:=by omega
   . refine⟨p0,0,_,_,_,rfl,by rw[if_pos (.inl rfl)];exact h0,λj hj=>?_⟩;obtain rfl:k'=0:=by have:=(List.getElem?_eq_some_iff.1 hop).1;simp[seOps]at this;omega
     simp[seOps]at hop;subst hop;obtain rfl |rfl |rfl |rfl:j=0\/j=1\/j=2\/j=3:=by omega
     all_goals rfl
   . refine⟨p1,0,_,_,_,rfl,by rw[if_pos (.inr rfl)];exact h1,λj hj=>?_⟩;obtain rfl:k'=0:=by have:=(List.getElem?_eq_some_iff.1 hop).1;simp[seOps]at this;omega
     simp[seOps]at hop;subst hop;obtain rfl |rfl |rfl |rfl:j=0\/j=1\/j=2\/j=3:=by omega
     all_goals rfl
theorem se_a0:(onceT 1 seOps 2 100 [0,1,1,0,0]).s.2 0=[⟨true,7,[]⟩]:=by kernel_rfl
theorem se_a1:(onceT 1 seOps 2 100 [0,1,1,0,0]).s.2 1=[⟨false,0,[]⟩]:=by kernel_rfl
theorem se_st:numL (onceT 1 seOps 2 100 [0,1,1,0,0]).s.1 1=[2,7,0]:=by kernel_rfl
theorem se_ord:(onceT 1 seOps 2 100 [0,1,1,0,0]).ord.length=5:=by kernel_rfl
theorem se_stk:decide (0<leftN (onceT 1 seOps 2 100 [0,1,1,0,0]).ov 2)=false:=by kernel_rfl
theorem zqew{Fin:Machine->Trace->Prop}(hFin:Back Try.prog Fin){n:Nat}(hn:0<n){w:World}{c:Frame}{cs:List Frame}(hmain:∀w',Beyond w w'->J0 Try.prog Fin (n+2) (G (c.finish (.bool true)) cs) w'):
 J0 Try.prog Fin n (G (Frame.enter Try.prog 9 #[] .normal) (c::cs)) w:=by
 have hJ:=j0_JS hFin;have hC:=zq2i hFin;have e:Frame.enter Try.prog 9 #[] .normal=(bN 9).at (zqk Try.f9 #[]) [.code ((Try.f9.body).getD .skip)]:=by kernel_rfl
 have ea:zqk Try.f9 #[]=⟨#[undef,undef,undef,undef,undef,undef,undef,undef,undef,undef,undef,undef,undef,undef,undef,undef,undef,undef,undef,undef,undef,undef,undef,undef,undef,undef,undef,undef,undef,undef,undef,undef,undef,undef,undef,undef,undef,undef,undef,undef,undef,undef,undef,undef,undef,undef,undef,undef,undef,undef,undef,undef,undef,undef,undef,undef,undef,undef,undef,undef,undef,undef,undef,undef,undef,undef,undef,undef,undef,undef,undef,undef,undef,undef,undef,undef,undef,undef,undef,undef,undef,undef,undef,undef,undef,undef,undef,undef,undef,undef,undef,undef,undef,undef,undef,undef,undef,undef,undef,undef,undef,undef,undef,undef,undef,undef,undef,undef,undef],[]⟩:=by kernel_rfl
 rw[e,ea,se0];clear e ea;have hm:=Lib.hid hmain;clear hmain;refine hJ.ctl (s:=n) (λw=>stepG_seq) ?_;refine zq2t hJ hC zq2l (by kernel_rfl) (λt w'=>t=#[.bool false,undef,undef,undef,undef,undef,undef,undef,undef,undef,undef,undef,undef,undef,undef,undef,undef,undef,undef,undef,undef,undef,undef,undef,undef,undef,undef,undef,undef,undef,undef,undef,undef,undef,undef,undef,undef,undef,undef,undef,undef,undef,undef,undef,undef,undef,undef,undef,undef,undef,undef,undef,undef,undef,undef,undef,undef,undef,undef,undef,undef,undef,undef,undef,undef,undef,undef,undef,undef,undef,undef,undef,undef,undef,undef,undef,undef,undef,undef,undef,undef,undef,undef,undef,undef,undef,undef,undef,undef,undef,undef,undef,undef,undef,undef,undef,undef,undef,undef,undef,undef,undef,undef,undef,undef,undef,undef,undef,undef]/\∃τ d,w'=re w τ d) (λt w' τ d h=>⟨h.1,by obtain⟨τ',d',rfl⟩:=h.2;exact⟨τ,d,by rw[re_re]⟩⟩) (by decide) (λτ d=>?_) ?_
 . obtain⟨u0,hu0⟩:∃c,headC (seT 0)=c:=⟨_,rfl⟩;have eu0:=hu0;rw[hu0];simp only[seT,headC,tailN,Try.f9,al_od]at eu0;subst eu0;clear hu0;go_wp2;exact⟨rfl,rfl,τ,d,rfl⟩
 rintro t w' ⟨rfl,τ,d,rfl⟩;refine hJ.re' n _ _ τ d ?_;refine hJ.ctl (s:=n) (λw=>stepG_seq) ?_;obtain⟨u0,hu0⟩:∃c,headC (seT 1)=c:=⟨_,rfl⟩;have eu0:=hu0;rw[hu0];simp only[seT,headC,tailN,Try.f9,al_od]at eu0;subst eu0;clear hu0;refine hJ.ctl (s:=n) (λw=>stepG_region) ?_;refine zqo (s:=n) (by decide) hJ (zqn _) false (.inr rfl) 0 6 3 rfl rfl rfl (by rfl) ?_;intro τ d;simp only[List.drop_zero,List.take_succ_cons,List.take_zero];have HB0:=Lib.hid (Beyond.re w τ d);generalize re w τ d=v0 at HB0 |-;obtain⟨H,hH⟩:∃H,v0.heap.size=H:=⟨_,rfl⟩;have HH:=Lib.hid hH;go_wp2;simp only[zqg];have HW:RowKit.Hid (Beyond v0 (((((v0.alloc (.cells #[.int .i64 2,.int .i64 0,.int .i64 7,.int .i64 0] 34)).alloc (.cells #[.int .i64 2,.int .i64 0,.int .i64 9,.int .i64 0] 34)).alloc (.cells #[.slice (some ⟨H,0,none⟩) 1 1,.slice (some ⟨H+1,0,none⟩) 1 1] 32)).alloc (.cells #[.int .i64 0,.int .i64 1,.int .i64 1,.int .i64 0,.int .i64 0] 3)))/\(((((v0.alloc (.cells #[.int .i64 2,.int .i64 0,.int .i64 7,.int .i64 0] 34)).alloc (.cells #[.int .i64 2,.int .i64 0,.int .i64 9,.int .i64 0] 34)).alloc (.cells #[.slice (some ⟨H,0,none⟩) 1 1,.slice (some ⟨H+1,0,none⟩) 1 1] 32)).alloc (.cells #[.int .i64 0,.int .i64 1,.int .i64 1,.int .i64 0,.int .i64 0] 3))).heap[H]?=some (.cells #[.int .i64 2,.int .i64 0,.int .i64 7,.int .i64 0] 34)/\(((((v0.alloc (.cells #[.int .i64 2,.int .i64 0,.int .i64 7,.int .i64 0] 34)).alloc (.cells #[.int .i64 2,.int .i64 0,.int .i64 9,.int .i64 0] 34)).alloc (.cells #[.slice (some ⟨H,0,none⟩) 1 1,.slice (some ⟨H+1,0,none⟩) 1 1] 32)).alloc (.cells #[.int .i64 0,.int .i64 1,.int .i64 1,.int .i64 0,.int .i64 0] 3))).heap[H+1]?=some (.cells #[.int .i64 2,.int .i64 0,.int .i64 9,.int .i64 0] 34)/\(((((v0.alloc (.cells #[.int .i64 2,.int .i64 0,.int .i64 7,.int .i64 0] 34)).alloc (.cells #[.int .i64 2,.int .i64 0,.int .i64 9,.int .i64 0] 34)).alloc (.cells #[.slice (some ⟨H,0,none⟩) 1 1,.slice (some ⟨H+1,0,none⟩) 1 1] 32)).alloc (.cells #[.int .i64 0,.int .i64 1,.int .i64 1,.int .i64 0,.int .i64 0] 3))).heap[H+1+1]?=some (.cells #[.slice (some ⟨H,0,none⟩) 1 1,.slice (some ⟨H+1,0,none⟩) 1 1] 32)/\(((((v0.alloc (.cells #[.int .i64 2,.int .i64 0,.int .i64 7,.int .i64 0] 34)).alloc (.cells #[.int .i64 2,.int .i64 0,.int .i64 9,.int .i64 0] 34)).alloc (.cells #[.slice (some ⟨H,0,none⟩) 1 1,.slice (some ⟨H+1,0,none⟩) 1 1] 32)).alloc (.cells #[.int .i64 0,.int .i64 1,.int .i64 1,.int .i64 0,.int .i64 0] 3))).heap[H+1+1+1]?=some (.cells #[.int .i64 0,.int .i64 1,.int .i64 1,.int .i64 0,.int .i64 0] 3)):=by
  refine Lib.hid ⟨(((Beyond.alloc _ _).trans (Beyond.alloc _ _)).trans (Beyond.alloc _ _)).trans (Beyond.alloc _ _),?_,?_,?_,?_⟩
  . rw[<-hH];exact zqf (zqf (zqf (zq12 _ _)))
  . refine zqf (zqf ?_);rw[zqa,if_pos (by rw[zqd,hH])]
  . refine zqf ?_;rw[zqa,if_pos (by simp only[zqd,hH])]
  . rw[zqa,if_pos (by simp only[zqd,hH])]
 generalize (((((v0.alloc (.cells #[.int .i64 2,.int .i64 0,.int .i64 7,.int .i64 0] 34)).alloc (.cells #[.int .i64 2,.int .i64 0,.int .i64 9,.int .i64 0] 34)).alloc (.cells #[.slice (some ⟨H,0,none⟩) 1 1,.slice (some ⟨H+1,0,none⟩) 1 1] 32)).alloc (.cells #[.int .i64 0,.int .i64 1,.int .i64 1,.int .i64 0,.int .i64 0] 3)))=WA at HW |-;clear hH;refine zq1q (by decide) hJ (s:=n) rfl rfl (f:=11) (args:=#[.int .i64 1,.slice (some ⟨H+1+1,0,none⟩) 2 2,.slice (some ⟨H+1+1+1,0,none⟩) 5 5,.int .i64 100]) (λτ d=>?_) (λτ d=>?_) ?_
 . simp[go_sem,execOp,Act.eval,resolve,Deferred.ofValue,invoke,callFunc,Try.func11,Try.f11]
 . intro e he;simp[go_sem,execOp,Act.eval,resolve,Deferred.ofValue,invoke,callFunc,Try.func11,Try.f11,Sem.runT_eq]at he
 refine zqds hFin (n:=n) hn (RP:=λb=>if b=H\/b=H+1 then WA.heap[b]? else none) (sched:=[0,1,1,0,0]) (ops:=seOps) (N:=2) (λb o hb=>?_) (se_ops HW.out.2.2.2.1 HW.out.2.1 HW.out.2.2.1) (by decide) (λ_=>⟨H+1+1+1,0,rfl,λj x hj=>?_⟩) ?_
 . split at hb
   . exact hb
   . cases hb
 . rw[zq0 HW.out.2.2.2.2,Nat.zero_add];have hlj:=(List.getElem?_eq_some_iff.1 hj).1;simp only[List.length_cons,List.length_nil]at hlj;obtain rfl |rfl |rfl |rfl |rfl:j=0\/j=1\/j=2\/j=3\/j=4:=by omega
   all_goals(simp at hj;subst hj;rfl)
 rw[show onceN 1=1 by rfl];intro ab ov sv am wp hR;rw[se_stk];rw[Frame.finish_at]
 walk_nrm
 have hq1:=zqcv hR.orow;have hq2:=zq5m hR.srow;rw[se_st]at hq2;obtain⟨op,oc,rfl,-⟩:=hq1;obtain⟨sp,sc,rfl,hsv⟩:=hq2;obtain⟨sb,so,rfl,hsc⟩:=hsv (by decide);have s0:=hsc 0 (by decide);have s1:=hsc 1 (by decide);have ha0:=zq6n hR.ans (i:=0) (by decide);have ha1:=zq6n hR.ans (i:=1) (by decide);rw[hR.ast,se_a0]at ha0;rw[hR.ast,se_a1]at ha1;obtain⟨a1,pa,ca,a2,a3⟩:=ha0;obtain⟨b1,pb,cb,b2,b3⟩:=ha1;obtain⟨ga,oa,rfl,a4⟩:=a3 (by simp);obtain⟨gb,ob',rfl,b4⟩:=b3 (by simp);obtain⟨a5,a6,_⟩:=a4 0 _ rfl;obtain⟨b5,b6,_⟩:=b4 0 _ rfl;rw[a2]at a1;rw[b2]at b1;simp only[List.length_map,se_ord,List.length_cons,List.length_nil,Nat.zero_add,Nat.zero_mul,Nat.add_zero,List.getD_cons_zero,List.getD_cons_succ]at a1 b1 a5 a6 b5 b6 s0 s1 |-;have hbw:Beyond w wp:=(HB0.out.trans HW.out.1).trans ⟨hR.size,hR.old⟩;have HF:=Lib.hid (And.intro a1 (And.intro a5 (And.intro a6 (And.intro b1 (And.intro b5 (And.intro b6 (And.intro s0 s1)))))));have HBW:=Lib.hid hbw;clear hR a1 a2 a3 a4 a5 a6 b1 b2 b3 b4 b5 b6 s0 s1 hsc hsv HW HB0 hbw;refine zqo (s:=n+2) (by decide) hJ (zqn _) false (.inr rfl) 7 2 0 rfl rfl rfl (by rfl) ?_;intro τ d;simp only[List.drop_succ_cons,List.drop_zero,List.take_succ_cons,List.take_zero];have HF2:RowKit.Hid ((re wp τ d).cell? ⟨ab,0,none⟩=some (.slice (some ⟨ga,oa,none⟩) 1 ca)/\(re wp τ d).cell? ⟨ga,oa,none⟩=some (.bool true)/\(re wp τ d).cell? ⟨ga,oa+1,none⟩=some (.int .i64 7)/\(re wp τ d).cell? ⟨ab,1,none⟩=some (.slice (some ⟨gb,ob',none⟩) 1 cb)/\(re wp τ d).cell? ⟨gb,ob',none⟩=some (.bool false)/\(re wp τ d).cell? ⟨gb,ob'+1,none⟩=some (.int .i64 0)/\(re wp τ d).cell? ⟨sb,so,none⟩=some (.int .i64 2)/\(re wp τ d).cell? ⟨sb,so+1,none⟩=some (.int .i64 7)):=Lib.hid HF.out;have HBW2:=Lib.hid (HBW.out.trans (Beyond.re wp τ d));generalize re wp τ d=x0 at HF2 HBW2 |-;clear HF HBW;go_wp2;simp only[zqg];refine hJ.ctl (s:=n+2) (λw=>stepG_region_end) ?_;have hT:=zq12 x0 (.cells #[.slice (some ⟨ab,0,none⟩) 2 2,.slice op 5 oc,.slice (some ⟨sb,so,none⟩) 3 sc,.bool false] 29);have hbx:Beyond x0 (x0.alloc (.cells #[.slice (some ⟨ab,0,none⟩) 2 2,.slice op 5 oc,.slice (some ⟨sb,so,none⟩) 3 sc,.bool false] 29)):=Beyond.alloc _ _;generalize (x0.alloc (.cells #[.slice (some ⟨ab,0,none⟩) 2 2,.slice op 5 oc,.slice (some ⟨sb,so,none⟩) 3 sc,.bool false] 29))=y0 at hT hbx |-;obtain⟨T,hTT⟩:∃T,x0.heap.size=T:=⟨_,rfl⟩;rw[hTT]at hT |-;clear hTT;have HY:=Lib.hid (HBW2.out.trans hbx);obtain⟨a1,a5,a6,b1,b5,b6,s0,s1⟩:=HF2.out;replace a1:=hbx.cell a1;replace a5:=hbx.cell a5;replace a6:=hbx.cell a6;replace b1:=hbx.cell b1;replace b5:=hbx.cell b5;replace b6:=hbx.cell b6;replace s0:=hbx.cell s0;replace s1:=hbx.cell s1;have t0:=(zq0 (off:=0) hT).trans rfl;have t1:=(zq0 (off:=1) hT).trans rfl;have t2:=(zq0 (off:=2) hT).trans rfl;have t3:=(zq0 (off:=3) hT).trans rfl;have FF:=Lib.hid (And.intro a1 (And.intro a5 (And.intro a6 (And.intro b1 (And.intro b5 (And.intro b6 (And.intro s0 (And.intro s1 (And.intro t0 (And.intro t1 (And.intro t2 t3)))))))))));clear hT hbx HF2 HBW2 a1 a5 a6 b1 b5 b6 s0 s1 t0 t1 t2 t3;refine zq58 hJ hC zq2l (by kernel_rfl) (λv w'=>v=.bool true/\Beyond y0 w') (λv w' τ d h=>⟨h.1,h.2.trans (Beyond.re _ _ _)⟩) rfl Try.func9 (λτ d=>?_) ?_
 . obtain⟨u0,hu0⟩:∃c,seT 2=c:=⟨_,rfl⟩;have eu0:=hu0;rw[hu0];simp only[seT,headC,tailN,Try.f9,al_od]at eu0;subst eu0;clear hu0 hm;obtain⟨a1,a5,a6,b1,b5,b6,s0,s1,t0,t1,t2,t3⟩:=FF.out;clear FF;have hcl:∀a,(re y0 τ d).cell? a=y0.cell? a:=λa=>rfl;rw[<-hcl]at a1 a5 a6 b1 b5 b6 s0 s1 t0 t1 t2 t3;clear hcl;have HR:RowKit.Hid (Beyond y0 (re y0 τ d)):=Lib.hid (Beyond.re _ _ _);generalize re y0 τ d=z0 at HR a1 a5 a6 b1 b5 b6 s0 s1 t0 t1 t2 t3 |-;have a1x:∀p q r:Obj,(((z0.alloc p).alloc q).alloc r).cell? ⟨ab,0,none⟩=some (.slice (some ⟨ga,oa,none⟩) 1 ca):=λp q r=>(((Beyond.alloc z0 p).trans (Beyond.alloc _ q)).trans (Beyond.alloc _ r)).cell a1;have a5x:∀p q r:Obj,(((z0.alloc p).alloc q).alloc r).cell? ⟨ga,oa,none⟩=some (.bool true):=λp q r=>(((Beyond.alloc z0 p).trans (Beyond.alloc _ q)).trans (Beyond.alloc _ r)).cell a5;have a6x:∀p q r:Obj,(((z0.alloc p).alloc q).alloc r).cell? ⟨ga,oa+1,none⟩=some (.int .i64 7):=λp q r=>(((Beyond.alloc z0 p).trans (Beyond.alloc _ q)).trans (Beyond.alloc _ r)).cell a6;have b1x:∀p q r:Obj,(((z0.alloc p).alloc q).alloc r).cell? ⟨ab,1,none⟩=some (.slice (some ⟨gb,ob',none⟩) 1 cb):=λp q r=>(((Beyond.alloc z0 p).trans (Beyond.alloc _ q)).trans (Beyond.alloc _ r)).cell b1;have b5x:∀p q r:Obj,(((z0.alloc p).alloc q).alloc r).cell? ⟨gb,ob',none⟩=some (.bool false):=λp q r=>(((Beyond.alloc z0 p).trans (Beyond.alloc _ q)).trans (Beyond.alloc _ r)).cell b5;have b6x:∀p q r:Obj,(((z0.alloc p).alloc q).alloc r).cell? ⟨gb,ob'+1,none⟩=some (.int .i64 0):=λp q r=>(((Beyond.alloc z0 p).trans (Beyond.alloc _ q)).trans (Beyond.alloc _ r)).cell b6;have s0x:∀p q r:Obj,(((z0.alloc p).alloc q).alloc r).cell? ⟨sb,so,none⟩=some (.int .i64 2):=λp q r=>(((Beyond.alloc z0 p).trans (Beyond.alloc _ q)).trans (Beyond.alloc _ r)).cell s0;have s1x:∀p q r:Obj,(((z0.alloc p).alloc q).alloc r).cell? ⟨sb,so+1,none⟩=some (.int .i64 7):=λp q r=>(((Beyond.alloc z0 p).trans (Beyond.alloc _ q)).trans (Beyond.alloc _ r)).cell s1;have t0x:∀p q r:Obj,(((z0.alloc p).alloc q).alloc r).cell? ⟨T,0,none⟩=some (.slice (some ⟨ab,0,none⟩) 2 2):=λp q r=>(((Beyond.alloc z0 p).trans (Beyond.alloc _ q)).trans (Beyond.alloc _ r)).cell t0;have t1x:∀p q r:Obj,(((z0.alloc p).alloc q).alloc r).cell? ⟨T,1,none⟩=some (.slice op 5 oc):=λp q r=>(((Beyond.alloc z0 p).trans (Beyond.alloc _ q)).trans (Beyond.alloc _ r)).cell t1;have t2x:∀p q r:Obj,(((z0.alloc p).alloc q).alloc r).cell? ⟨T,2,none⟩=some (.slice (some ⟨sb,so,none⟩) 3 sc):=λp q r=>(((Beyond.alloc z0 p).trans (Beyond.alloc _ q)).trans (Beyond.alloc _ r)).cell t2;have t3x:∀p q r:Obj,(((z0.alloc p).alloc q).alloc r).cell? ⟨T,3,none⟩=some (.bool false):=λp q r=>(((Beyond.alloc z0 p).trans (Beyond.alloc _ q)).trans (Beyond.alloc _ r)).cell t3
   go_wp2_with (fail)
   refine Calls.mono (zq86 _) ?_;rintro e w' ⟨rfl,rfl⟩
   go_wp2_with (fail)
   refine Calls.mono (zqde _) ?_;rintro e w' ⟨rfl,o2,rfl⟩
   go_wp2_with (fail)
   refine Calls.mono (zqdf _) ?_;rintro e w' ⟨rfl,o3,rfl⟩;go_wp2;go_ret;exact⟨_,rfl,rfl,HR.out.trans (((Beyond.alloc _ _).trans (Beyond.alloc _ _)).trans (Beyond.alloc _ _))⟩
 . rintro v w' ⟨rfl,h⟩;exact hm.out _ (HY.out.trans h)
def aLB:List FuncId:=[19]
def aRB:List FuncId:=[73,72]
def aMB(f:FuncId):Bool:=aLB.contains f || aRB.contains f
theorem plain_rowsB:Plain Try.prog aMB/\RowsS Try.prog aMB:=by
 refine zq5s (by kernel_rfl) (λf hf=>?_) (by kernel_rfl) (by kernel_rfl);simp only[aRB,List.mem_cons,List.not_mem_nil,or_false]at hf;rcases hf with rfl |rfl
 . exact⟨_,Extern.Atomic.loadT .ptr,Try.func73,rfl,by kernel_rfl,by kernel_rfl,by kernel_rfl,λ_=>zqa7 _ _,λ_=>zq8y _ _⟩
 . exact⟨_,Extern.Atomic.casT .ptr,Try.func72,rfl,by kernel_rfl,by kernel_rfl,by kernel_rfl,λ_=>zq9n _ _,λ_=>zq8o _ _⟩
theorem zq20:Plain Try.prog aMB:=plain_rowsB.1
theorem rowsMB:RowsS Try.prog aMB:=plain_rowsB.2
end Go.Proofs
namespace Go.Car
open Go Go.Conc Go.RowKit
section
variable {P:Program} {st:Bool}
theorem zqjp(a:Addr):tame P st (Conv.seenAt a):=by
 unfold Conv.seenAt
 repeat' (first|with_reducible (first|exact Tm.out|refine zq4 ?_|refine zq1 ?_ (λ_=>?_))|split|simp only[])
theorem zqif(b:Nat):tame P st (cellsIn b):=by
 unfold cellsIn
 repeat' (first|with_reducible (first|exact Tm.out|refine zq4 ?_|refine zq1 ?_ (λ_=>?_))|split|simp only[])
theorem zqk6(a:Addr)(u:TypeId)(n:Nat):tame P st (variablesAt a u n):=by
 unfold variablesAt
 repeat' (first|with_reducible (first|exact Tm.out|refine zq4 ?_|refine zq1 ?_ (λ_=>?_))|split|simp only[])
theorem zqk3{s d:TypeId}(x:Value):tame P st (Conv.unsafePointer s d x):=by
 unfold Conv.unsafePointer
 repeat' (first|with_reducible exact Tm.out|exact zqjp _|exact zqif _|exact zqk6 _ _ _|with_reducible (first|refine zq4 ?_|refine zq1 ?_ (λ_=>?_))|split|simp only[])
theorem zqii{s d:TypeId}(h:(∃e,P.underlying s=some (.pointer e)/\P.underlying d=some .unsafePointer)\/(∃e,P.underlying s=some .unsafePointer/\P.underlying d=some (.pointer e)))(x:Value):tame P st (convert s d x):=by
 refine zq44 λa ha=>?_;refine zq44 λb hb=>?_;rcases h with⟨e,h1,h2⟩|⟨e,h1,h2⟩
 all_goals(
  rw[h1]at ha;rw[h2]at hb;cases ha;cases hb;split<;>first|exact zqk3 _|exact True.intro|contradiction)
end
section
variable {P:Program} {main:Bool} {Kc:Addr->Option Value} {γ:Type} {J:γ->Goroutine->World->Prop}
theorem zq56(hJ:JS P main Kc J){b:Frame}{k:List Item}{cs:List Frame}(hb:b.kind≠.early){ops:Array Oper}{i:Nat}{rest:List Nat}{o:Oper}{s:γ}{T:Array Value}{ds:List Deferred}{w:World}{d:Tmp}{src dst:TypeId}{x:Operand}{v:Value}
 (ho:ops[i]?=some o) (hop:o.op=.convert src dst x) (ht:(∃e,P.underlying src=some (.pointer e)/\P.underlying dst=some .unsafePointer)\/(∃e,P.underlying src=some .unsafePointer/\P.underlying dst=some (.pointer e))) (hg:o.guard=none) (hd:o.dst=some d)
 (hr:∀τ dd,(convert src dst ((Act.mk T ds).eval x)).run P (re w τ dd)=.ok v (re w τ dd))
 (hn:J s (G (b.at ⟨T.setIfInBounds d v,ds⟩ (.inRegion ops rest::k)) cs) w):J s (G (b.at ⟨T,ds⟩ (.inRegion ops (i::rest)::k)) cs) w:=by
 refine zq1m hb hJ ho (by simp[Region.wanted,hg]) λτ dd=>?_;have e:execOp (Act.mk T ds).eval o=(do pure (.value (<-convert src dst ((Act.mk T ds).eval x))):Sem Next):=by
  obtain⟨od,op,oty,opos,oaf,og⟩:=o;simp only at hop;subst hop;rfl
 have htame:tame P false (execOp (Act.mk T ds).eval o):=by rw[e];exact zql (zqii ht _)
 obtain⟨h1,h2⟩:=zq2h (Kc:=Kc) htame (re w τ dd);refine⟨h1,h2,?_⟩;have hrun:(execOp (Act.mk T ds).eval o).run P (re w τ dd)=.ok (.value v) (re w τ dd):=by
  rw[e,Sem.run_bind,hr τ dd];rfl
 rw[hrun];show J s (G (b.at ((Act.mk T ds).put o.dst v) _) _) _;rw[hd];exact hJ.re' s _ w τ dd hn
theorem at_val(hJ:JS P main Kc J){b:Frame}{k:List Item}{cs:List Frame}(hb:b.kind≠.early){ops:Array Oper}{i:Nat}{rest:List Nat}{o:Oper}{s:γ}{T:Array Value}{ds:List Deferred}{w:World}{d:Tmp}{v:Value}
 (ho:ops[i]?=some o) (hg:o.guard=none) (hd:o.dst=some d) (htame:tame P false (execOp (Act.mk T ds).eval o)) (hr:∀τ dd,(execOp (Act.mk T ds).eval o).run P (re w τ dd)=.ok (.value v) (re w τ dd))
 (hn:J s (G (b.at ⟨T.setIfInBounds d v,ds⟩ (.inRegion ops rest::k)) cs) w):J s (G (b.at ⟨T,ds⟩ (.inRegion ops (i::rest)::k)) cs) w:=by
 refine zq1m hb hJ ho (by simp[Region.wanted,hg]) λτ dd=>?_;obtain⟨h1,h2⟩:=zq2h (Kc:=Kc) htame (re w τ dd);refine⟨h1,h2,?_⟩;rw[hr τ dd];show J s (G (b.at ((Act.mk T ds).put o.dst v) _) _) _;rw[hd];exact hJ.re' s _ w τ dd hn
theorem zqj4(t:Extern.Atomic.T)(x:Array Value):tame P false (Extern.Atomic.loadT t x):=by
 unfold Extern.Atomic.loadT;rcases x with⟨_|⟨a,_|⟨b,l⟩⟩⟩
 . exact zq1a _
 rotate_left
 . exact zq1a _
 change tame P false (do Extern.Atomic.read t (<-asAddr a))
 repeat' (first|with_reducible (first|exact Tm.out|exact zqb _ (λ_=>zq1 (zq9 _) λ_=>zq8 _) _|refine zq4 ?_|refine zq1 ?_ (λ_=>?_))|split|simp only[])
theorem zqjm{f:FuncId}{fn:Func}{e:Array Value->Sem Value}{args:Array Value}(hf:P.funcs[f]?=some fn)(hb:fn.body=none)(hn:(fn.name== "runtime.NumGoroutine")=false)(hx:Extern.findNext fn=none)(he:Extern.find fn=some e)(ht:tame P false (e args)):tame P false (callFunc f args):=by
 unfold callFunc;refine zq67 ?_;simp only[hf,hn,hb,hx,he,Option.isNone_none,Bool.false_eq_true,if_false,if_true];exact zq1 (zq65 trivial) λ_=>zql ht
end
end Go.Car
namespace Go.Proofs
open Go Go.Conc Go.RowKit Go.Car
section
variable {P:Program} {f:FuncId} {fn:Func}
theorem zqel(hf:P.funcs[f]?=some fn)(hname:(fn.name== "runtime.NumGoroutine")=false)(hb:fn.body.isNone=true)(hn:Extern.findNext fn=none)
 (he:Extern.find fn=some (Extern.Atomic.loadT .ptr)) {a:Addr} {x:Option Addr} {w:World} (hc:w.cell? a=some (.pointer x)):
 (callFunc f #[.pointer (some a)]).run P w=.ok (.value (.pointer x)) w:=by
 rw[run_callFunc_extern hf hname hb hn he];change (Sem.run P (do Extern.Atomic.read .ptr (<-asAddr (.pointer (some a)))) w).andThen _=_;simp[Extern.Atomic.read,asAddr,hc,Result.andThen]
theorem zqej(hf:P.funcs[f]?=some fn)(hname:(fn.name== "runtime.NumGoroutine")=false)(hb:fn.body.isNone=true)(hn:Extern.findNext fn=none)
 (he:Extern.find fn=some (Extern.Atomic.casT .ptr)) {a y:Addr} {w:World} (hc:w.cell? a=some (.pointer none)) (hz:w.frozen? a=false):
 (callFunc f #[.pointer (some a),.pointer none,.pointer (some y)]).run P w=.ok (.value (.bool true)) (w.setCell a (.pointer (some y))):=by
 rw[run_callFunc_extern hf hname hb hn he];change (Sem.run P (do
  let a'<-asAddr (.pointer (some a))
  if<-Extern.Atomic.touchesFrozen a' then unsupported (.unsafePointer "a write to bytes that a string shares")
  let eq<-match Extern.Atomic.T.ptr,<-Extern.Atomic.read .ptr a',Value.pointer none with
   |_,.int _ x,.int _ y=>pure (x==y)
   |.ptr,.pointer x,.pointer y=>samePointer x y
   |.int _,.pointer (some _),.int _ 0|.int _,.int _ 0,.pointer (some _)=>pure false
   |.int _,.pointer (some _),_|.int _,_,.pointer (some _)=>unsupported .addressObserved
   |_,_,_=>stuck "atomic.CompareAndSwap: old is no T"
  if eq then store a' (.pointer (some y)) .atomic
  pure (Value.bool eq)) w).andThen _=_
 simp[Extern.Atomic.touchesFrozen,Extern.Atomic.read,asAddr,viewAt,World.shape?_isSome_of_cell? hc,hc,hz,samePointer,run_store P w a (.pointer (some y)) .atomic rfl,Result.andThen]
theorem zqek(hf:P.funcs[f]?=some fn)(hname:(fn.name== "runtime.NumGoroutine")=false)(hb:fn.body.isNone=true)(hn:Extern.findNext fn=none)
 (he:Extern.find fn=some (Extern.Atomic.casT .ptr)) {a x y:Addr} {w:World} (hc:w.cell? a=some (.pointer (some x))) (hz:w.frozen? a=false):
 (callFunc f #[.pointer (some a),.pointer none,.pointer (some y)]).run P w=.ok (.value (.bool false)) w:=by
 rw[run_callFunc_extern hf hname hb hn he];change (Sem.run P (do
  let a'<-asAddr (.pointer (some a))
  if<-Extern.Atomic.touchesFrozen a' then unsupported (.unsafePointer "a write to bytes that a string shares")
  let eq<-match Extern.Atomic.T.ptr,<-Extern.Atomic.read .ptr a',Value.pointer none with
   |_,.int _ x,.int _ y=>pure (x==y)
   |.ptr,.pointer x,.pointer y=>samePointer x y
   |.int _,.pointer (some _),.int _ 0|.int _,.int _ 0,.pointer (some _)=>pure false
   |.int _,.pointer (some _),_|.int _,_,.pointer (some _)=>unsupported .addressObserved
   |_,_,_=>stuck "atomic.CompareAndSwap: old is no T"
  if eq then store a' (.pointer (some y)) .atomic
  pure (Value.bool eq)) w).andThen _=_
 simp[Extern.Atomic.touchesFrozen,Extern.Atomic.read,asAddr,viewAt,World.shape?_isSome_of_cell? hc,hc,hz,samePointer,Result.andThen]
end
theorem conv_to{w:World}{b:Nat}{x:ByteArray}(h:w.heap[b]?=some (.cells #[.string x] 9)):(convert 73 75 (.pointer (some ⟨b,0,none⟩))).run Try.prog w=.ok (.pointer (some ⟨b,0,none⟩)) w:=by
 have h1:Try.prog.underlying 73=some (.pointer 9):=by kernel_rfl
 have h2:Try.prog.underlying 75=some .unsafePointer:=by kernel_rfl
 have h3:w.shape? b=some (9,1):=by simp[World.shape?,h]
 obtain⟨ti,h6,h7⟩:∃ti,Try.prog.info? 9=some ti/\ti.size=1:=⟨_,rfl,rfl⟩;simp[convert,underlying,Conv.unsafePointer,Conv.seenAt,viewAt,cellsIn,sizeOf,typeInfo,h1,h2,h3,h,h6,h7]
theorem zqbt{w:World}{b:Nat}{x:ByteArray}(h:w.heap[b]?=some (.cells #[.string x] 9)):(convert 75 73 (.pointer (some ⟨b,0,none⟩))).run Try.prog w=.ok (.pointer (some ⟨b,0,none⟩)) w:=by
 have h1:Try.prog.underlying 73=some (.pointer 9):=by kernel_rfl
 have h2:Try.prog.underlying 75=some .unsafePointer:=by kernel_rfl
 have h3:w.shape? b=some (9,1):=by simp[World.shape?,h]
 obtain⟨ti,h6,h7⟩:∃ti,Try.prog.info? 9=some ti/\ti.size=1:=⟨_,rfl,rfl⟩;have h8:liesAt Try.prog Try.prog.depth 9 (1 / Try.prog.cellsOf 9) 0 9 1=true:=by kernel_rfl
 simp[convert,underlying,Conv.unsafePointer,Conv.seenAt,viewAt,variablesAt,sizeOf,typeInfo,h1,h2,h3,h,h6,h7,h8]
theorem zqbv(w:World):(convert 73 75 (.pointer none)).run Try.prog w=.ok (.pointer none) w:=by
 have h1:Try.prog.underlying 73=some (.pointer 9):=by kernel_rfl
 have h2:Try.prog.underlying 75=some .unsafePointer:=by kernel_rfl
 simp[convert,underlying,Conv.unsafePointer,h1,h2]
theorem zqbu(w:World):(convert 75 73 (.pointer none)).run Try.prog w=.ok (.pointer none) w:=by
 have h1:Try.prog.underlying 73=some (.pointer 9):=by kernel_rfl
 have h2:Try.prog.underlying 75=some .unsafePointer:=by kernel_rfl
 simp[convert,underlying,Conv.unsafePointer,h1,h2]
theorem zq70:(∃e,Try.prog.underlying 73=some (.pointer e)/\Try.prog.underlying 75=some .unsafePointer):=⟨9,by kernel_rfl,by kernel_rfl⟩
theorem zqbw:(∃e,Try.prog.underlying 75=some .unsafePointer/\Try.prog.underlying 73=some (.pointer e)):=⟨9,by kernel_rfl,by kernel_rfl⟩
section
variable {main:Bool} {Kc:Addr->Option Value} {J:Goroutine->World->Prop}
def ptrOf(p:Option Nat):Value:=.pointer (p.map λb=>⟨b,0,none⟩)
theorem zq7r(hJ:JS Try.prog main Kc (λ(_:Unit)=>J)){w:World}{bb:Nat}{p:Option Nat}(h0:w.heap[bb]?=some (.cells #[ptrOf p] 79))(hp:∀b,p=some b->∃x,w.heap[b]?=some (.cells #[.string x] 9)){cl:Frame}{cs:List Frame}(hn:J (G (cl.finish (ptrOf p)) cs) w):
 J (G (Frame.enter Try.prog 50 #[.pointer (some ⟨bb,0,none⟩)] .normal) (cl::cs)) w:=by
 have e:Frame.enter Try.prog 50 #[.pointer (some ⟨bb,0,none⟩)] .normal=(bN 50).at ⟨#[.pointer (some ⟨bb,0,none⟩),undef,undef,undef,undef,undef,undef,undef],[]⟩ [.code ((Try.f50.body).getD .skip)]:=by kernel_rfl
 rw[e];clear e;obtain⟨u,hu⟩:∃c,(Try.f50.body).getD .skip=c:=⟨_,rfl⟩;have eu:=hu;rw[hu];simp only[Try.f50,al_od]at eu;subst eu;clear hu;have HN:=Lib.hid hn;clear hn;refine hJ.ctl (s:=()) (λw=>stepG_seq) ?_;refine hJ.ctl (s:=()) (λw=>stepG_region) ?_;refine zqo (s:=()) (by decide) hJ (zqn _) true (.inl rfl) 0 1 0 rfl rfl rfl (by rfl) ?_;intro τ d;simp only[List.drop_succ_cons,List.drop_zero,List.take_succ_cons,List.take_zero];go_wp2;simp only[zqg];refine hJ.re' () _ _ τ d ?_;refine hJ.ctl (s:=()) (λw=>stepG_region_end) ?_;refine hJ.ctl (s:=()) (λw=>stepG_seq) ?_;refine hJ.ctl (s:=()) (λw=>stepG_region) ?_;refine zqo (s:=()) (by decide) hJ (zqn _) true (.inl rfl) 0 3 3 rfl rfl rfl (by rfl) ?_;intro τ d;simp only[List.drop_succ_cons,List.drop_zero,List.take_succ_cons,List.take_zero];go_wp2;simp only[zqg];refine hJ.re' () _ _ τ d ?_;have hl:=λτ d=>zqel (P:=Try.prog) (w:=re w τ d) Try.func73 (by kernel_rfl) (by kernel_rfl) (by kernel_rfl) (by kernel_rfl) (a:=⟨bb,0,none⟩) (x:=p.map λb=>⟨b,0,none⟩) ((zq0 h0).trans rfl);rw[show List.range' (0+3) 3=[3,4,5]from rfl];refine at_val (s:=()) hJ (by decide) rfl rfl rfl (v:=ptrOf p) ?_ (λτ d=>?_) ?_
 . exact zqjm (e:=Extern.Atomic.loadT .ptr) Try.func73 (by kernel_rfl) (by kernel_rfl) (by kernel_rfl) (by kernel_rfl) (zqj4 _ _)
 . have h:=hl τ d;simp[go_sem,execOp,Act.eval,resolve,Deferred.ofValue,invoke,h,ptrOf]
 refine zq56 (s:=()) hJ (by decide) rfl rfl (.inr zqbw) rfl rfl (v:=ptrOf p) (λτ d=>?_) ?_
 . cases p with
   |none=>exact zqbu _
   |some b=>obtain⟨x,hx⟩:=hp b rfl;exact zqbt (w:=re w τ d) hx
 refine zqo (s:=()) (by decide) hJ (zqn _) true (.inl rfl) 5 1 0 rfl rfl rfl (by rfl) ?_;intro τ d;simp only[List.drop_succ_cons,List.drop_zero,List.take_succ_cons,List.take_zero];go_wp2;simp only[zqg];refine hJ.re' () _ _ τ d ?_;refine hJ.ctl (s:=()) (λw=>stepG_region_end) ?_;refine hJ.ctl (s:=()) (λw=>stepG_ret') ?_;exact zq1v (s:=()) hJ rfl rfl Try.func50 (λτ d=>by simp only[results,Try.f50];simp[go_sem]) HN.out
end
abbrev BoxM:=Option (Nat×ByteArray)×(Nat->Bool)
abbrev BoxS:=Option ByteArray×(Nat->Bool)
def boxP(l:BoxM):Option Nat:=l.1.map (·.1)
structure BoxRep(bb:Nat)(l:BoxM)(w:World):Prop where
 box:w.heap[bb]?=some (.cells #[ptrOf (boxP l)] 79)
 val:∀b x,l.1=some (b,x)->b≠bb/\w.heap[b]?=some (.cells #[.string x] 9)
 seen:∀i,l.2 i=true->l.1≠none
def zqr(bb:Nat):Core BoxM BoxS where
 foot l b:=b=bb\/∃x,l.1=some (b,x)
 Rep:=BoxRep bb
 st l:=(l.1.map (·.2),l.2)
 frame l w w' h hs:=⟨(hs bb (.inl rfl)).trans h.box,λb x hb=>⟨(h.val b x hb).1,(hs b (.inr ⟨x,hb⟩)).trans (h.val b x hb).2⟩,h.seen⟩
 lt l w b h hb:=by
  rcases hb with rfl |⟨x,hx⟩
  . exact zqs h.box
  . exact zqs (h.val b x hx).2
 pin _:=0
section
variable {M2 S2 β:Type} {D:Core M2 S2} {ro:Nat->Option Obj} {i:Nat} {bb:Nat}
theorem zqb9{m:BM (BoxM×M2)}{wc:World}(hB:BRep (zq7 (zqr bb) D) ro m wc)(h0:m.l.1.1=none){bv:Nat}{v:ByteArray}(hb:m.box i bv=some (.cells #[.string v] 9)):
 Moved (zq7 (zqr bb) D) m.l (m.box i) wc ((some (bv,v),m.l.1.2),m.l.2) (λb=>if b=bv then none else m.box i b) (wc.setCell ⟨bb,0,none⟩ (.pointer (some ⟨bv,0,none⟩))):=by
 have hn:m.box i bv≠none:=by rw[hb];simp
 have hne:bv≠bb:=λe=>hB.apart i bv hn (.inl (.inl e));have hold:∀b,b≠bb->(wc.setCell ⟨bb,0,none⟩ (.pointer (some ⟨bv,0,none⟩))).heap[b]?=wc.heap[b]?:=λb e=>zqi _ _ _ _ e;refine Moved.left hB ⟨by rw[zq13];exact Nat.le_refl _,λb hb' h1 h2=>hold b λe=>h1 (.inl e),⟨?_,λb x hx=>?_,λj hj=>(by simp)⟩,λb o hb'=>?_,λb hf=>?_,λb hb'=>?_,λb hf=>?_,rfl⟩
 . rw[zqy _ _ _ _ hB.core.1.box];rfl
 . cases hx;exact⟨hne,(hold bv hne).trans (hB.box i bv _ hb)⟩
 . by_cases e:b=bv
   . simp[e]at hb'
   . simp only[e,if_false]at hb';rw[hold b λe2=>by subst e2;exact hB.apart i b (by rw[hb'];simp) (.inl (.inl rfl))];exact hB.box i b o hb'
 . rcases hf with rfl |⟨x,hx⟩
   . exact .inl (.inl rfl)
   . cases hx;exact .inr (.inl hn)
 . left
   intro e;apply hb'
   by_cases e2:b=bv
   . simp[e2]
   . simp[e2,e]
 . rcases hf with rfl |⟨x,hx⟩
   . rw[if_neg (Ne.symm hne)];exact Classical.byContradiction λx=>hB.apart i b x (.inl (.inl rfl))
   . cases hx;simp
theorem box_seen{m:BM (BoxM×M2)}{wc:World}(hB:BRep (zq7 (zqr bb) D) ro m wc)(h0:m.l.1.1≠none):Moved (zq7 (zqr bb) D) m.l (m.box i) wc ((m.l.1.1,upd' m.l.1.2 i true),m.l.2) (m.box i) wc:=by
 refine Moved.left hB ⟨Nat.le_refl _,λ_ _ _ _=>rfl,⟨hB.core.1.box,hB.core.1.val,λj hj=>h0⟩,λb o hb=>hB.box i b o hb,λb hf=>.inl hf,λb hb=>.inl hb,λb hf=>Classical.byContradiction λx=>hB.apart i b x (.inl hf),rfl⟩
theorem casP_Z(Z:Alone Try.prog aMB (zq7 (zqr bb) D) ro i β){s:Z.γ}{m:BM (BoxM×M2)}{w:World}{r:(BoxS×S2)×Tree (BoxS×S2) β}(h:Z.AtE s m w r){bv:Nat}{v:ByteArray}(hb:m.box i bv=some (.cells #[.string v] 9))
 (hO1:Z.Oth ((m.l.1.1.map (·.2),m.l.1.2),D.st m.l.2) ((some v,m.l.1.2),D.st m.l.2)) (hO2:Z.Oth ((m.l.1.1.map (·.2),m.l.1.2),D.st m.l.2) ((m.l.1.1.map (·.2),upd' m.l.1.2 i true),D.st m.l.2)):
 zq19 Try.prog Z.J 49 #[.pointer (some ⟨bb,0,none⟩),.pointer none,.pointer (some ⟨bv,0,none⟩)]
  (λs' e w'=>s'=s/\((m.l.1.1=none/\e=.returned (.bool true)/\Z.AtE s (m.put i ((some (bv,v),m.l.1.2),m.l.2) (λb=>if b=bv then none else m.box i b)) w' r)\/(m.l.1.1≠none/\e=.returned (.bool false)/\Z.AtE s (m.put i ((m.l.1.1,upd' m.l.1.2 i true),m.l.2) (m.box i)) w' r))) s w:=by
 intro cl cs h1 _;have e:Frame.enter Try.prog 49 #[.pointer (some ⟨bb,0,none⟩),.pointer none,.pointer (some ⟨bv,0,none⟩)] .normal=(bN 49).at ⟨#[.pointer (some ⟨bb,0,none⟩),.pointer none,.pointer (some ⟨bv,0,none⟩),undef,undef,undef,undef,undef,undef,undef,undef,undef,undef,undef,undef],[]⟩ [.code ((Try.f49.body).getD .skip)]:=by kernel_rfl
 rw[e];clear e;obtain⟨u,hu⟩:∃c,(Try.f49.body).getD .skip=c:=⟨_,rfl⟩;have eu:=hu;rw[hu];simp only[Try.f49,al_od]at eu;subst eu;clear hu;obtain⟨Kc,hJ⟩:=Z.js s;have hrep:=Z.rep h;have hbv:=hrep.box i bv _ hb;have HN:=Lib.hid (And.intro h1 (And.intro h (And.intro hO1 (And.intro hO2 (And.intro hb hrep)))));clear h1 h hO1 hO2 hb hrep;show(λ(_:Unit)=>Z.J s) () _ _;refine hJ.ctl (s:=()) (λw=>stepG_seq) ?_;refine hJ.ctl (s:=()) (λw=>stepG_region) ?_;refine zqo (s:=()) (by decide) hJ (zqn _) true (.inl rfl) 0 1 0 rfl rfl rfl (by rfl) ?_;intro τ d;simp only[List.drop_succ_cons,List.drop_zero,List.take_succ_cons,List.take_zero];go_wp2;simp only[zqg];refine hJ.re' () _ _ τ d ?_;refine hJ.ctl (s:=()) (λw=>stepG_region_end) ?_;refine hJ.ctl (s:=()) (λw=>stepG_seq) ?_;refine hJ.ctl (s:=()) (λw=>stepG_region) ?_;refine zqo (s:=()) (by decide) hJ (zqn _) true (.inl rfl) 0 4 5 rfl rfl rfl (by rfl) ?_;intro τ d;simp only[List.drop_succ_cons,List.drop_zero,List.take_succ_cons,List.take_zero];go_wp2;simp only[zqg];refine hJ.re' () _ _ τ d ?_;rw[show List.range' (0+4) 5=[4,5,6,7,8]from rfl];refine zq56 (s:=()) hJ (by decide) rfl rfl (.inl zq70) rfl rfl (v:=.pointer none) (λτ d=>zqbv _) ?_;refine zqo (s:=()) (by decide) hJ (zqn _) true (.inl rfl) 5 1 3 rfl rfl rfl (by rfl) ?_;intro τ d;simp only[List.drop_succ_cons,List.drop_zero,List.take_succ_cons,List.take_zero];go_wp2;simp only[zqg];refine hJ.re' () _ _ τ d ?_;rw[show List.range' (5+1) 3=[6,7,8]from rfl];refine zq56 (s:=()) hJ (by decide) rfl rfl (.inl zq70) rfl rfl (v:=.pointer (some ⟨bv,0,none⟩)) (λτ d=>conv_to (w:=re w τ d) hbv) ?_;show Z.J s _ _
 by_cases h0:m.l.1.1=none
 . refine Z.item (ds:=[]) (λt l' B'=>t[6]?=some (.bool true)/\l'=((some (bv,v),m.l.1.2),m.l.2)/\B'=λb=>if b=bv then none else m.box i b) (λ_ _ _=>False) HN.out.2.1 (by kernel_rfl) (λwc hB hsz=>?_) _ _ _ (by decide) ?_
   . have hbx:=hB.core.1.box;have hl:=zqej (P:=Try.prog) (w:=wc) Try.func72 (by kernel_rfl) (by kernel_rfl) (by kernel_rfl) (by kernel_rfl) (a:=⟨bb,0,none⟩) (y:=⟨bv,0,none⟩) (by rw[zq0 hbx];simp[boxP,h0,ptrOf]) (zqc hbx);have hmv:=zqb9 hB h0 HN.out.2.2.2.2.1;have HM:=Lib.hid (And.intro hmv hB);clear hmv hB hbx;refine zq3l 7 2 rfl rfl ?_;simp only[List.drop_succ_cons,List.drop_zero];go_wp2;exact⟨rfl,_,_,⟨HM.out.1,HN.out.2.2.1⟩,rfl,rfl,rfl⟩
   . rintro s' e a w' ⟨rfl,hd,l',B',(⟨rfl,h6,rfl,rfl⟩|⟨_,hh⟩),hA⟩
     . refine hJ.ctl (s:=()) (λw=>stepG_ret') ?_;exact zq1v (s:=()) hJ rfl hd Try.func49 (v:=.bool true) (λτ d=>by simp only[results,Try.f49];simp[go_sem,h6]) (HN.out.1 _ _ _ ⟨rfl,.inl ⟨h0,rfl,hA⟩⟩)
     . exact hh.elim
 . refine Z.item (ds:=[]) (λt l' B'=>t[6]?=some (.bool false)/\l'=((m.l.1.1,upd' m.l.1.2 i true),m.l.2)/\B'=m.box i) (λ_ _ _=>False) HN.out.2.1 (by kernel_rfl) (λwc hB hsz=>?_) _ _ _ (by decide) ?_
   . have hbx:=hB.core.1.box;obtain⟨p,hp⟩:∃p,m.l.1.1=some p:=by
      cases e:m.l.1.1 with
      |none=>exact absurd e h0
      |some p=>exact⟨p,rfl⟩
     have hl:=zqek (P:=Try.prog) (w:=wc) Try.func72 (by kernel_rfl) (by kernel_rfl) (by kernel_rfl) (by kernel_rfl) (a:=⟨bb,0,none⟩) (x:=⟨p.1,0,none⟩) (y:=⟨bv,0,none⟩) (by rw[zq0 hbx];simp[boxP,hp,ptrOf]) (zqc hbx);have hmv:=box_seen (i:=i) hB h0;have HM:=Lib.hid (And.intro hmv hB);clear hmv hB hbx;refine zq3l 7 2 rfl rfl ?_;simp only[List.drop_succ_cons,List.drop_zero];go_wp2;exact⟨rfl,_,_,⟨HM.out.1,HN.out.2.2.2.1⟩,rfl,rfl,rfl⟩
   . rintro s' e a w' ⟨rfl,hd,l',B',(⟨rfl,h6,rfl,rfl⟩|⟨_,hh⟩),hA⟩
     . refine hJ.ctl (s:=()) (λw=>stepG_ret') ?_;exact zq1v (s:=()) hJ rfl hd Try.func49 (v:=.bool false) (λτ d=>by simp only[results,Try.f49];simp[go_sem,h6]) (HN.out.1 _ _ _ ⟨rfl,.inr ⟨h0,rfl,hA⟩⟩)
     . exact hh.elim
end
end Go.Proofs
