/- YtmgmbciplfkddaaESaf16: part 10 of the proof (the texts behind it, in order). -/
import Derived.Test.YtmgmbciplfkddaaS09
set_option maxHeartbeats 4000000
set_option maxRecDepth 100000
set_option linter.all false
namespace Go.Proofs
open Go Go.Conc Go.RowKit Go.Car
section
variable {M2 S2 β:Type} {D:Core M2 S2} {ro:Nat->Option Obj} {i:Nat} {T:EpT}
def collR(l:List Int)(v:Value)(X:Nat->Option Obj):Prop:=∃dv,v=.tuple #[dv,.int .i64 0]/\RowB X 2 1 dv l.length (l.map (Value.int .i64))/\l.length<=mostT
theorem zq6u(Y:YSys Try.prog aM (zqd (zqb T) D) ro i β){sv:Value}{k:Nat}(hst:EpoY T k Y sv)(hk:k<T.N)(hN:T.N<=64)(hc:EpoC T k Y sv):SpecR Y 26 #[.pointer (some ⟨T.db,0,none⟩),sv,.int .i64 k] (collP k) collR:=by
 refine SpecR.of Try.func26 rfl ?_;intro K s B w hK hA;simp only[zqm,Try.ntmps26,List.size_toArray,List.length_cons,List.length_nil,Nat.reduceAdd,Nat.reduceSub,Array.replicate_succ,Array.replicate_zero,List.push_toArray,List.append_toArray,List.nil_append,List.cons_append];have eb:Try.f26.body.getD .skip=.seq (headC (clT 0)) (.seq (headC (clT 1)) (.seq (headC (clT 2)) (.seq (headC (clT 3)) (clT 4)))):=cl0;apply YSys.seq0 hA (by kernel_rfl)
 . intro wc hB;go_wp2;exact⟨rfl,Ext1.refl _,rfl⟩
 intro w hA;refine zqq Y.jc (zq12 Y.jc ?_);apply YSys.callP 0 2 1 hA (zq3m Y hst hk hN) rfl rfl rfl (by rfl) rfl rfl rfl
 . intro wc hB X hX;have HX:=Lib.hid hX;clear hX;go_wp2;exact HX.out _ (Ext1.refl _)
 . intro w;simp[go_sem,execOp,Act.eval,resolve,Deferred.ofValue,invoke,callFunc,Try.func47,Try.f47]
 . intro w;simp[go_sem,execOp,Act.eval,resolve,Deferred.ofValue,invoke,callFunc,Try.func47,Try.f47]
 intro w hA;apply YSys.ops0 3 1 hA rfl rfl (by kernel_rfl)
 . intro wc hB;go_wp2;exact⟨rfl,Ext1.refl _,rfl⟩
 intro w hA;show wpJ Y.J _ _ _ _ _;refine zqq Y.jc ?_;apply YSys.seq0 hA (by kernel_rfl)
 . intro wc hB;go_wp2;exact⟨rfl,Ext1.refl _,rfl⟩
 intro w hA;refine zq19 Y.jc rfl ?_;rw[if_neg (by decide)];refine zq1s Y.jc ?_;show wpJ Y.J _ _ _ _ _;rw[collP,Proc.bind_bind]at hA;refine zqq Y.jc (zq12 Y.jc ?_);apply YSys.callR 0 2 1 hA (zq4s Y hst).spec (λe=>by rw[Proc.bind_bind];exact hst.silT (λl=>hK _)) rfl rfl rfl (by rfl) rfl rfl rfl
 . intro wc hB X hX;have HX:=Lib.hid hX;clear hX;go_wp2;exact HX.out _ (Ext1.refl _)
 . intro w;simp[go_sem,execOp,Act.eval,resolve,Deferred.ofValue,invoke,callFunc,Try.func48,Try.f48]
 . intro w;simp[go_sem,execOp,Act.eval,resolve,Deferred.ofValue,invoke,callFunc,Try.func48,Try.f48]
 . intro s' ch w' h;exact⟨rfl,h⟩
 intro s e w hA;apply YSys.ops0 3 1 hA rfl rfl (by kernel_rfl)
 . intro wc hB;go_wp2;exact⟨rfl,Ext1.refl _,rfl⟩
 intro w hA;show wpJ Y.J _ _ _ _ _;rw[Proc.bind_bind]at hA;refine hc.coll (e:=e) (by kernel_rfl) hA ?_;intro l X dv w' h0 h1 h2 h3;exact⟨l,X,⟨dv,rfl,h1,h0⟩,h2,h3⟩
end
section
variable {Ml S β:Type} {C:Core Ml S} {ro:Nat->Option Obj} {i:Nat}
end
set_option maxHeartbeats 16000000
def opE{S2:Type}(N k:Nat)(op:OpX):Proc (EpS×S2) Ans:=
 if op.k=1 then(enterP k).bind λx=>Proc.ret ⟨x.2==0,x.1,[]⟩
 else if op.k=2 then(leaveP k).bind λx=>Proc.ret ⟨x==0,0,[]⟩
 else if op.k=3 then(zq2e k op.a).bind λx=>Proc.ret ⟨x.2==0,x.1,[]⟩
 else if op.k=4 then(advP N).bind λx=>Proc.ret ⟨x.2==0,if x.1=true then 1 else 0,[]⟩
 else if op.k=5 then(collP k).bind λl=>Proc.ret ⟨true,0,l⟩
 else Proc.ret Ans.none
def condT:Code->Code
 |.cond _ a _=>a
 |c=>c
def condE:Code->Code
 |.cond _ _ b=>b
 |c=>c
def zqj:Code->Code
 |.block _ c=>c
 |c=>c
def sndC:Code->Code
 |.seq _ b=>b
 |c=>c
noncomputable def doCh:Nat->Code
 |0=>zqj (sndC (headC (tailN 1 (Try.f33.body.getD .skip))))
 |j+1=>condE (sndC (doCh j))
noncomputable def doC(j:Nat):Code:=condT (sndC (doCh j))
def doF(db k:Nat)(sv:Value)(op:OpX)(b7 b8:Nat)(v:Nat->Value):Array Value:=#[.pointer (some ⟨db,0,none⟩),sv,.int .i64 k,op.val,v 4,v 5,v 6,.pointer (some ⟨b7,0,none⟩),.pointer (some ⟨b8,0,none⟩),v 9,v 10,v 11,v 12,v 13,v 14,v 15,v 16,v 17,v 18,.int .i64 op.k,v 20,v 21,v 22,v 23,v 24,v 25,v 26,v 27,v 28,v 29,v 30,v 31,v 32,v 33,v 34,v 35,v 36,v 37,v 38,v 39,v 40,v 41,v 42,v 43,v 44,v 45,v 46,v 47,v 48,v 49,v 50,v 51,v 52,v 53,v 54,v 55,v 56,v 57,v 58,v 59,v 60,v 61,v 62,v 63,v 64,v 65,v 66,v 67,v 68,v 69,v 70,v 71,v 72,v 73,v 74,v 75,v 76,v 77,v 78,v 79,v 80,v 81,v 82,v 83,v 84]
structure DoB(B Bq:Nat->Option Obj)(op:OpX)(b7 b8:Nat):Prop where
 h7:Bq b7=some (.cells op.cells.toArray 44)
 h8:Bq b8=some (.cells #[.bool false,.int .i64 0,.slice none 0 0] 48)
 hle:∀x y,B x=some y->Bq x=some y
 hn:B b8=none
def actC(who:Int)(op:OpX):Array Value:=#[.int .i64 who,.int .i64 op.k,.int .i64 op.a,.int .i64 op.b,.int .i64 op.c]
def actV(who:Int)(op:OpX):Value:=.agg (actC who op)
section
variable {M2 S2 β:Type} {D:Core M2 S2} {ro:Nat->Option Obj} {i:Nat} {T:EpT}
theorem edo_c1(Y:YSys Try.prog aM (zqd (zqb T) D) ro i β){sv:Value}{k:Nat}(hst:EpoY T k Y sv)(hk:k<T.N)(hN:T.N<=64)(hc:EpoC T k Y sv){op:OpX}{B Bq:Nat->Option Obj}{b7 b8:Nat}(hd:DoB B Bq op b7 b8){K:Ans->Proc (EpS×S2) β}(hK:∀a,Y.sil (K a)){Q:Y.γ->Exit->Act->World->Prop}{s:Y.γ}{w:World}{v:Nat->Value}
 (hret:∀s a w,(Y.Bd Try.f33 (PostR Y K (AnsV 2) B)) s a w->Q s .ret a w) (hpan:∀s ch t w,Y.Dead s ch w->Q s (.panic ch) ⟨t,[]⟩ w)
 (hA:Y.AtB Bq s w (((enterP k).bind λx=>Proc.ret ⟨x.2==0,x.1,[]⟩).bind K)):wpJ Y.J (doC 0) Q s ⟨doF T.db k sv op b7 b8 v,[]⟩ w:=by
 have HKK:=Lib.hid hK;have H7:=Lib.hid hd.h7;have H8:=Lib.hid hd.h8;have HLE:=Lib.hid hd.hle;have HN:=Lib.hid hd.hn;clear hK hd;obtain⟨u_,hu_⟩:∃c,doC 0=c:=⟨_,rfl⟩;have eu_:=hu_;rw[hu_];simp only[doC,doCh,condT,condE,sndC,zqj,headC,tailN,Try.f33,al_od]at eu_;subst eu_;clear hu_;unfold doF;rw[Proc.bind_bind]at hA;refine zqq Y.jc (zq12 Y.jc ?_);apply YSys.callR 0 3 5 hA (zq6z Y hst hk hN).spec (λx=>HKK.out _) rfl rfl rfl (by rfl) rfl rfl rfl
 . intro wc hB X hX;have HX:=Lib.hid hX;clear hX;go_wp2;exact HX.out _ (Ext1.refl _)
 . intro w;simp[go_sem,execOp,Act.eval,resolve,Deferred.ofValue,invoke,callFunc,Try.func23,Try.f23]
 . intro w;simp[go_sem,execOp,Act.eval,resolve,Deferred.ofValue,invoke,callFunc,Try.func23,Try.f23]
 . intro s' ch w' h;exact hpan _ _ _ _ h
 intro s x w hA;apply YSys.ops0 4 5 hA rfl rfl (by kernel_rfl)
 . intro wc hB;go_wp2;exact⟨rfl,Ext1.refl _,rfl⟩
 intro w hA;show wpJ Y.J _ _ _ _ _;refine YSys.seqX (λt B'=>t.getD 8 undef=.pointer (some ⟨b8,0,none⟩)/\B'=upB Bq b8 (.cells #[.bool (x.2==0),.int .i64 x.1,.slice none 0 0] 48)) hA (by kernel_rfl) ?_ ?_
 . intro wc hB X0 hX0;have HX0:=Lib.hid hX0;clear hX0;have k8:=hB.own.box b8 _ H8.out;have c80:wc.cell? ⟨b8,0,none⟩=some (.bool false):=(zq1 k8).trans rfl;have c81:wc.cell? ⟨b8,1,none⟩=some (.int .i64 0):=(zq1 k8).trans rfl;have c82:wc.cell? ⟨b8,2,none⟩=some (.slice none 0 0):=(zq1 k8).trans rfl;have f80:wc.frozen? ⟨b8,0,none⟩=false:=zqh k8;have f81:wc.frozen? ⟨b8,1,none⟩=false:=zqh k8;have f82:wc.frozen? ⟨b8,2,none⟩=false:=zqh k8;have hm:=OMoved.set3 (o1:=0) (o2:=1) (o3:=2) hB.own H8.out (.bool (x.2==0)) (.int .i64 x.1) (.slice none 0 0);have HM:=Lib.hid hm;clear hm k8;go_wp2;exact⟨rfl,HX0.out _ _ _ HM.out ⟨rfl,rfl⟩⟩
 rintro t _ w ⟨ht8,rfl⟩ hA;refine zq1k Y.jc (hret _ _ _ ?_);refine YSys.left hA (v:=.agg #[.bool (x.2==0),.int .i64 x.1,.slice none 0 0]) (λwc hB=>results_cell_row rfl t wc b8 48 _ _ _ ht8 (hB.own.box b8 _ (upB_same _ _ _)) rfl rfl rfl) λw hA=>?_;exact⟨⟨(x.2==0),x.1,[]⟩,λ_=>none,AnsV.plain _ _ _,λb hb=>absurd rfl hb,hA.drop (zq2v HLE.out HN.out)⟩
end
section
variable {M2 S2 β:Type} {D:Core M2 S2} {ro:Nat->Option Obj} {i:Nat} {T:EpT}
theorem edo_c2(Y:YSys Try.prog aM (zqd (zqb T) D) ro i β){sv:Value}{k:Nat}(hst:EpoY T k Y sv)(hk:k<T.N)(hN:T.N<=64)(hc:EpoC T k Y sv){op:OpX}{B Bq:Nat->Option Obj}{b7 b8:Nat}(hd:DoB B Bq op b7 b8){K:Ans->Proc (EpS×S2) β}(hK:∀a,Y.sil (K a)){Q:Y.γ->Exit->Act->World->Prop}{s:Y.γ}{w:World}{v:Nat->Value}
 (hret:∀s a w,(Y.Bd Try.f33 (PostR Y K (AnsV 2) B)) s a w->Q s .ret a w) (hpan:∀s ch t w,Y.Dead s ch w->Q s (.panic ch) ⟨t,[]⟩ w)
 (hA:Y.AtB Bq s w (((leaveP k).bind λx=>Proc.ret ⟨x==0,0,[]⟩).bind K)):wpJ Y.J (doC 1) Q s ⟨doF T.db k sv op b7 b8 v,[]⟩ w:=by
 have HKK:=Lib.hid hK;have H7:=Lib.hid hd.h7;have H8:=Lib.hid hd.h8;have HLE:=Lib.hid hd.hle;have HN:=Lib.hid hd.hn;clear hK hd;obtain⟨u_,hu_⟩:∃c,doC 1=c:=⟨_,rfl⟩;have eu_:=hu_;rw[hu_];simp only[doC,doCh,condT,condE,sndC,zqj,headC,tailN,Try.f33,al_od]at eu_;subst eu_;clear hu_;unfold doF;rw[Proc.bind_bind]at hA;refine zqq Y.jc (zq12 Y.jc ?_);apply YSys.callR 0 3 3 hA (zq7m Y hst hk hN).spec (λx=>HKK.out _) rfl rfl rfl (by rfl) rfl rfl rfl
 . intro wc hB X hX;have HX:=Lib.hid hX;clear hX;go_wp2;exact HX.out _ (Ext1.refl _)
 . intro w;simp[go_sem,execOp,Act.eval,resolve,Deferred.ofValue,invoke,callFunc,Try.func27,Try.f27]
 . intro w;simp[go_sem,execOp,Act.eval,resolve,Deferred.ofValue,invoke,callFunc,Try.func27,Try.f27]
 . intro s' ch w' h;exact hpan _ _ _ _ h
 intro s x w hA;refine YSys.opsX 4 3 (λt B'=>t.getD 8 undef=.pointer (some ⟨b8,0,none⟩)/\B'=upB Bq b8 (.cells #[.bool (x==0),.int .i64 0,.slice none 0 0] 48)) hA rfl rfl (by kernel_rfl) ?_ ?_
 . intro wc hB X0 hX0;have HX0:=Lib.hid hX0;clear hX0;have k8:=hB.own.box b8 _ H8.out;have c80:wc.cell? ⟨b8,0,none⟩=some (.bool false):=(zq1 k8).trans rfl;have c81:wc.cell? ⟨b8,1,none⟩=some (.int .i64 0):=(zq1 k8).trans rfl;have c82:wc.cell? ⟨b8,2,none⟩=some (.slice none 0 0):=(zq1 k8).trans rfl;have f80:wc.frozen? ⟨b8,0,none⟩=false:=zqh k8;have f81:wc.frozen? ⟨b8,1,none⟩=false:=zqh k8;have f82:wc.frozen? ⟨b8,2,none⟩=false:=zqh k8;have hm:=OMoved.set3 (o1:=0) (o2:=1) (o3:=2) hB.own H8.out (.bool (x==0)) (.int .i64 0) (.slice none 0 0);have HM:=Lib.hid hm;clear hm k8;go_wp2;exact⟨rfl,HX0.out _ _ _ HM.out ⟨rfl,rfl⟩⟩
 rintro t _ w ⟨ht8,rfl⟩ hA;show wpJ Y.J _ _ _ _ _;refine zq1k Y.jc (hret _ _ _ ?_);refine YSys.left hA (v:=.agg #[.bool (x==0),.int .i64 0,.slice none 0 0]) (λwc hB=>results_cell_row rfl t wc b8 48 _ _ _ ht8 (hB.own.box b8 _ (upB_same _ _ _)) rfl rfl rfl) λw hA=>?_;exact⟨⟨(x==0),0,[]⟩,λ_=>none,AnsV.plain _ _ _,λb hb=>absurd rfl hb,hA.drop (zq2v HLE.out HN.out)⟩
end
section
variable {M2 S2 β:Type} {D:Core M2 S2} {ro:Nat->Option Obj} {i:Nat} {T:EpT}
theorem edo_c3(Y:YSys Try.prog aM (zqd (zqb T) D) ro i β){sv:Value}{k:Nat}(hst:EpoY T k Y sv)(hk:k<T.N)(hN:T.N<=64)(hc:EpoC T k Y sv){op:OpX}{B Bq:Nat->Option Obj}{b7 b8:Nat}(hd:DoB B Bq op b7 b8){K:Ans->Proc (EpS×S2) β}(hK:∀a,Y.sil (K a)){Q:Y.γ->Exit->Act->World->Prop}{s:Y.γ}{w:World}{v:Nat->Value}
 (hret:∀s a w,(Y.Bd Try.f33 (PostR Y K (AnsV 2) B)) s a w->Q s .ret a w) (hpan:∀s ch t w,Y.Dead s ch w->Q s (.panic ch) ⟨t,[]⟩ w)
 (hA:Y.AtB Bq s w (((zq2e k op.a).bind λx=>Proc.ret ⟨x.2==0,x.1,[]⟩).bind K)):wpJ Y.J (doC 2) Q s ⟨doF T.db k sv op b7 b8 v,[]⟩ w:=by
 have HKK:=Lib.hid hK;have H7:=Lib.hid hd.h7;have H8:=Lib.hid hd.h8;have HLE:=Lib.hid hd.hle;have HN:=Lib.hid hd.hn;clear hK hd;obtain⟨u_,hu_⟩:∃c,doC 2=c:=⟨_,rfl⟩;have eu_:=hu_;rw[hu_];simp only[doC,doCh,condT,condE,sndC,zqj,headC,tailN,Try.f33,al_od]at eu_;subst eu_;clear hu_;unfold doF;rw[Proc.bind_bind]at hA;refine zqq Y.jc (zq12 Y.jc ?_);apply YSys.callR 0 5 5 hA (zq85 Y hst hk hN op.a).spec (λx=>HKK.out _) rfl rfl rfl (by rfl) rfl rfl rfl
 . intro wc hB X hX;have HX:=Lib.hid hX;clear hX;have c70:wc.cell? ⟨b7,0,none⟩=some (.int .i64 op.k):=(zq1 (hB.own.box b7 _ H7.out)).trans rfl;have c71:wc.cell? ⟨b7,1,none⟩=some (.int .i64 op.a):=(zq1 (hB.own.box b7 _ H7.out)).trans rfl;have c72:wc.cell? ⟨b7,2,none⟩=some (.int .i64 op.b):=(zq1 (hB.own.box b7 _ H7.out)).trans rfl;have c73:wc.cell? ⟨b7,3,none⟩=some (.int .i64 op.c):=(zq1 (hB.own.box b7 _ H7.out)).trans rfl;go_wp2;exact HX.out _ (Ext1.refl _)
 . intro w;simp[go_sem,execOp,Act.eval,resolve,Deferred.ofValue,invoke,callFunc,Try.func24,Try.f24]
 . intro w;simp[go_sem,execOp,Act.eval,resolve,Deferred.ofValue,invoke,callFunc,Try.func24,Try.f24]
 . intro s' ch w' h;exact hpan _ _ _ _ h
 intro s x w hA;apply YSys.ops0 6 5 hA rfl rfl (by kernel_rfl)
 . intro wc hB;go_wp2;exact⟨rfl,Ext1.refl _,rfl⟩
 intro w hA;show wpJ Y.J _ _ _ _ _;refine YSys.seqX (λt B'=>t.getD 8 undef=.pointer (some ⟨b8,0,none⟩)/\B'=upB Bq b8 (.cells #[.bool (x.2==0),.int .i64 x.1,.slice none 0 0] 48)) hA (by kernel_rfl) ?_ ?_
 . intro wc hB X0 hX0;have HX0:=Lib.hid hX0;clear hX0;have k8:=hB.own.box b8 _ H8.out;have c80:wc.cell? ⟨b8,0,none⟩=some (.bool false):=(zq1 k8).trans rfl;have c81:wc.cell? ⟨b8,1,none⟩=some (.int .i64 0):=(zq1 k8).trans rfl;have c82:wc.cell? ⟨b8,2,none⟩=some (.slice none 0 0):=(zq1 k8).trans rfl;have f80:wc.frozen? ⟨b8,0,none⟩=false:=zqh k8;have f81:wc.frozen? ⟨b8,1,none⟩=false:=zqh k8;have f82:wc.frozen? ⟨b8,2,none⟩=false:=zqh k8;have hm:=OMoved.set3 (o1:=0) (o2:=1) (o3:=2) hB.own H8.out (.bool (x.2==0)) (.int .i64 x.1) (.slice none 0 0);have HM:=Lib.hid hm;clear hm k8;go_wp2;exact⟨rfl,HX0.out _ _ _ HM.out ⟨rfl,rfl⟩⟩
 rintro t _ w ⟨ht8,rfl⟩ hA;refine zq1k Y.jc (hret _ _ _ ?_);refine YSys.left hA (v:=.agg #[.bool (x.2==0),.int .i64 x.1,.slice none 0 0]) (λwc hB=>results_cell_row rfl t wc b8 48 _ _ _ ht8 (hB.own.box b8 _ (upB_same _ _ _)) rfl rfl rfl) λw hA=>?_;exact⟨⟨(x.2==0),x.1,[]⟩,λ_=>none,AnsV.plain _ _ _,λb hb=>absurd rfl hb,hA.drop (zq2v HLE.out HN.out)⟩
end
section
variable {M2 S2 β:Type} {D:Core M2 S2} {ro:Nat->Option Obj} {i:Nat} {T:EpT}
theorem edo_c4(Y:YSys Try.prog aM (zqd (zqb T) D) ro i β){sv:Value}{k:Nat}(hst:EpoY T k Y sv)(hk:k<T.N)(hN:T.N<=64)(hc:EpoC T k Y sv){op:OpX}{B Bq:Nat->Option Obj}{b7 b8:Nat}(hd:DoB B Bq op b7 b8){K:Ans->Proc (EpS×S2) β}(hK:∀a,Y.sil (K a)){Q:Y.γ->Exit->Act->World->Prop}{s:Y.γ}{w:World}{v:Nat->Value}
 (hret:∀s a w,(Y.Bd Try.f33 (PostR Y K (AnsV 2) B)) s a w->Q s .ret a w) (hpan:∀s ch t w,Y.Dead s ch w->Q s (.panic ch) ⟨t,[]⟩ w)
 (hA:Y.AtB Bq s w (((advP T.N).bind λx=>Proc.ret ⟨x.2==0,if x.1=true then 1 else 0,[]⟩).bind K)):wpJ Y.J (doC 3) Q s ⟨doF T.db k sv op b7 b8 v,[]⟩ w:=by
 have HKK:=Lib.hid hK;have H7:=Lib.hid hd.h7;have H8:=Lib.hid hd.h8;have HLE:=Lib.hid hd.hle;have HN:=Lib.hid hd.hn;clear hK hd;obtain⟨u_,hu_⟩:∃c,doC 3=c:=⟨_,rfl⟩;have eu_:=hu_;rw[hu_];simp only[doC,doCh,condT,condE,sndC,zqj,headC,tailN,Try.f33,al_od]at eu_;subst eu_;clear hu_;unfold doF;rw[Proc.bind_bind]at hA;refine zqq Y.jc (zq12 Y.jc ?_);apply YSys.callR 0 3 5 hA (zq5c Y hst hk hN).spec (λx=>HKK.out _) rfl rfl rfl (by rfl) rfl rfl rfl
 . intro wc hB X hX;have HX:=Lib.hid hX;clear hX;go_wp2;exact HX.out _ (Ext1.refl _)
 . intro w;simp[go_sem,execOp,Act.eval,resolve,Deferred.ofValue,invoke,callFunc,Try.func25,Try.f25]
 . intro w;simp[go_sem,execOp,Act.eval,resolve,Deferred.ofValue,invoke,callFunc,Try.func25,Try.f25]
 . intro s' ch w' h;exact hpan _ _ _ _ h
 intro s x w hA;apply YSys.ops0 4 5 hA rfl rfl (by kernel_rfl)
 . intro wc hB;go_wp2;exact⟨rfl,Ext1.refl _,rfl⟩
 intro w hA;show wpJ Y.J _ _ _ _ _;obtain⟨mv,xe⟩:=x;refine YSys.endX (λt B'=>t.getD 8 undef=.pointer (some ⟨b8,0,none⟩)/\B'=upB Bq b8 (.cells #[.bool (xe==0),.int .i64 (if mv=true then 1 else 0),.slice none 0 0] 48)) hA (by kernel_rfl) ?_ ?_
 . intro wc hB X0 hX0;have HX0:=Lib.hid hX0;clear hX0;have k8:=hB.own.box b8 _ H8.out;have c80:wc.cell? ⟨b8,0,none⟩=some (.bool false):=(zq1 k8).trans rfl;have c81:wc.cell? ⟨b8,1,none⟩=some (.int .i64 0):=(zq1 k8).trans rfl;have c82:wc.cell? ⟨b8,2,none⟩=some (.slice none 0 0):=(zq1 k8).trans rfl;have f80:wc.frozen? ⟨b8,0,none⟩=false:=zqh k8;have f81:wc.frozen? ⟨b8,1,none⟩=false:=zqh k8;have f82:wc.frozen? ⟨b8,2,none⟩=false:=zqh k8;have hlt8:=zqs k8;have HOB:=Lib.hid (And.intro hB.own hlt8);have k9:∀o:Obj,(wc.alloc o).heap[b8]?=some (.cells #[.bool false,.int .i64 0,.slice none 0 0] 48):=λo=>(Ext1.alloc wc o).heap k8;have c90:∀o:Obj,(wc.alloc o).cell? ⟨b8,0,none⟩=some (.bool false):=λo=>(zq1 (k9 o)).trans rfl;have c91:∀o:Obj,(wc.alloc o).cell? ⟨b8,1,none⟩=some (.int .i64 0):=λo=>(zq1 (k9 o)).trans rfl;have c92:∀o:Obj,(wc.alloc o).cell? ⟨b8,2,none⟩=some (.slice none 0 0):=λo=>(zq1 (k9 o)).trans rfl;have f9:∀(o:Obj)(j:Nat),(wc.alloc o).frozen? ⟨b8,j,none⟩=false:=λo j=>zqh (k9 o);have hne8:¬wc.heap.size=b8:=by omega
   clear k8 k9 hlt8;cases mv with
   |true=>
    go_wp2;exact⟨rfl,HX0.out _ _ _ (OMoved.behind (Ext1.alloc wc _) (OMoved.set3 (o1:=0) (o2:=1) (o3:=2) (HOB.out.1.ext (Ext1.alloc wc _).toExt) H8.out (.bool (xe==0)) (.int .i64 1) (.slice none 0 0)) (λb hb=>HOB.out.1.lt hb) (by simp only[zqz])) ⟨rfl,rfl⟩⟩
   |false=>
    go_wp2;exact⟨rfl,HX0.out _ _ _ (OMoved.behind (Ext1.alloc wc _) (OMoved.set3 (o1:=0) (o2:=1) (o3:=2) (HOB.out.1.ext (Ext1.alloc wc _).toExt) H8.out (.bool (xe==0)) (.int .i64 0) (.slice none 0 0)) (λb hb=>HOB.out.1.lt hb) (by simp only[zqz])) ⟨rfl,rfl⟩⟩
 rintro t _ w ⟨ht8,rfl⟩ hA;refine hret _ _ _ ?_;refine YSys.left hA (v:=.agg #[.bool (xe==0),.int .i64 (if mv=true then 1 else 0),.slice none 0 0]) (λwc hB=>results_cell_row rfl t wc b8 48 _ _ _ ht8 (hB.own.box b8 _ (upB_same _ _ _)) rfl rfl rfl) λw hA=>?_;exact⟨⟨(xe==0),(if mv=true then 1 else 0),[]⟩,λ_=>none,AnsV.plain _ _ _,λb hb=>absurd rfl hb,hA.drop (zq2v HLE.out HN.out)⟩
end
section
variable {M2 S2 β:Type} {D:Core M2 S2} {ro:Nat->Option Obj} {i:Nat} {T:EpT}
theorem edo_c5(Y:YSys Try.prog aM (zqd (zqb T) D) ro i β){sv:Value}{k:Nat}(hst:EpoY T k Y sv)(hk:k<T.N)(hN:T.N<=64)(hc:EpoC T k Y sv){op:OpX}{B Bq:Nat->Option Obj}{b7 b8:Nat}(hd:DoB B Bq op b7 b8){K:Ans->Proc (EpS×S2) β}(hK:∀a,Y.sil (K a)){Q:Y.γ->Exit->Act->World->Prop}{s:Y.γ}{w:World}{v:Nat->Value}
 (hret:∀s a w,(Y.Bd Try.f33 (PostR Y K (AnsV 2) B)) s a w->Q s .ret a w) (hpan:∀s ch t w,Y.Dead s ch w->Q s (.panic ch) ⟨t,[]⟩ w)
 (hA:Y.AtB Bq s w (((collP k).bind λl=>Proc.ret ⟨true,0,l⟩).bind K)):wpJ Y.J (doC 4) Q s ⟨doF T.db k sv op b7 b8 v,[]⟩ w:=by
 have HKK:=Lib.hid hK;have H7:=Lib.hid hd.h7;have H8:=Lib.hid hd.h8;have HLE:=Lib.hid hd.hle;have HN:=Lib.hid hd.hn;clear hK hd;obtain⟨u_,hu_⟩:∃c,doC 4=c:=⟨_,rfl⟩;have eu_:=hu_;rw[hu_];simp only[doC,doCh,condT,condE,sndC,zqj,headC,tailN,Try.f33,al_od]at eu_;subst eu_;clear hu_;unfold doF;rw[Proc.bind_bind]at hA;refine zqq Y.jc (zq12 Y.jc ?_);apply YSys.callQ 0 3 5 hA (zq6u Y hst hk hN hc) (λx=>HKK.out _) rfl rfl rfl (by rfl) rfl rfl rfl
 . intro wc hB X hX;have HX:=Lib.hid hX;clear hX;go_wp2;exact HX.out _ (Ext1.refl _)
 . intro w;simp[go_sem,execOp,Act.eval,resolve,Deferred.ofValue,invoke,callFunc,Try.func26,Try.f26]
 . intro w;simp[go_sem,execOp,Act.eval,resolve,Deferred.ofValue,invoke,callFunc,Try.func26,Try.f26]
 . intro s' ch w' h;exact hpan _ _ _ _ h
 intro s l vv X w hrel hXB hA;obtain⟨dv,rfl,hrow,_⟩:=hrel;obtain⟨dp,dc,rfl⟩:∃dp dc,dv=.slice dp l.length dc:=by
  rcases hrow.2 with⟨a,b,_⟩|⟨g,cap,cur,a,_⟩
  . exact⟨none,0,by rw[a,b]⟩
  . exact⟨_,cap,a⟩
 have h8x:orB X Bq b8=some (.cells #[.bool false,.int .i64 0,.slice none 0 0] 48):=by
  have hx:X b8=none:=Classical.byContradiction λy=>by have:=hXB b8 y;rw[H8.out]at this;cases this
  simp[orB,hx,H8.out]
 have H8X:=Lib.hid h8x;have HRW:=Lib.hid (And.intro hrow hXB);clear h8x hrow hXB;apply YSys.ops0 4 5 hA rfl rfl (by kernel_rfl)
 . intro wc hB;go_wp2;exact⟨rfl,Ext1.refl _,rfl⟩
 intro w hA;show wpJ Y.J _ _ _ _ _;refine YSys.seqX (λt B'=>t.getD 8 undef=.pointer (some ⟨b8,0,none⟩)/\B'=upB (orB X Bq) b8 (.cells #[.bool true,.int .i64 0,.slice dp l.length dc] 48)) hA (by kernel_rfl) ?_ ?_
 . intro wc hB X0 hX0;have HX0:=Lib.hid hX0;clear hX0;have k8:=hB.own.box b8 _ H8X.out;have c80:wc.cell? ⟨b8,0,none⟩=some (.bool false):=(zq1 k8).trans rfl;have c81:wc.cell? ⟨b8,1,none⟩=some (.int .i64 0):=(zq1 k8).trans rfl;have c82:wc.cell? ⟨b8,2,none⟩=some (.slice none 0 0):=(zq1 k8).trans rfl;have f80:wc.frozen? ⟨b8,0,none⟩=false:=zqh k8;have f81:wc.frozen? ⟨b8,1,none⟩=false:=zqh k8;have f82:wc.frozen? ⟨b8,2,none⟩=false:=zqh k8;have hm:=OMoved.set3 (o1:=0) (o2:=1) (o3:=2) hB.own H8X.out (.bool true) (.int .i64 0) (.slice dp l.length dc);have HM:=Lib.hid hm;clear hm k8;go_wp2;exact⟨rfl,HX0.out _ _ _ HM.out ⟨rfl,rfl⟩⟩
 rintro t _ w ⟨ht8,rfl⟩ hA;refine zq1k Y.jc (hret _ _ _ ?_);refine YSys.left hA (v:=.agg #[.bool true,.int .i64 0,.slice dp l.length dc]) (λwc hB=>results_cell_row rfl t wc b8 48 _ _ _ ht8 (hB.own.box b8 _ (upB_same _ _ _)) rfl rfl rfl) λw hA=>?_;refine⟨⟨true,0,l⟩,X,⟨_,rfl,HRW.out.1⟩,λb hb=>?_,hA.drop λb o hb=>?_⟩
 . have:=HRW.out.2 b hb;cases ho:B b with
   |none=>rfl
   |some o=>rw[HLE.out b o ho]at this;cases this
 . by_cases e:b=b8
   . subst e;have hx:X b=none:=Classical.byContradiction λy=>by have:=HRW.out.2 b y;rw[H8.out]at this;cases this
     rw[orB,hx]at hb;rw[HN.out]at hb;cases hb
   . rw[zq26 _ _ e];cases hx:X b with
     |some o'=>simp only[orB,hx]at hb |-;exact hb
     |none=>simp only[orB,hx]at hb |-;exact HLE.out b o hb
end
section
variable {M2 S2 β:Type} {D:Core M2 S2} {ro:Nat->Option Obj} {i:Nat} {T:EpT}
theorem edo_spec(Y:YSys Try.prog aM (zqd (zqb T) D) ro i β){sv:Value}{k:Nat}(hst:EpoY T k Y sv)(hk:k<T.N)(hN:T.N<=64)(hc:EpoC T k Y sv)(op:OpX):
 SpecR Y 33 #[.pointer (some ⟨T.db,0,none⟩),sv,.int .i64 k,op.val] (opE T.N k op) (AnsV 2):=by
 refine SpecR.of Try.func33 rfl ?_;intro K s B w hK hA;simp only[zqm,Try.ntmps33,List.size_toArray,List.length_cons,List.length_nil,Nat.reduceAdd,Nat.reduceSub,Array.replicate_succ,Array.replicate_zero,List.push_toArray,List.append_toArray,List.nil_append,List.cons_append];unfold opE at hA;refine zqq Y.jc (zq12 Y.jc ?_);refine YSys.preX 0 1 1 (λt B'=>∃(b7:Nat)(v:Nat->Value),t=#[.pointer (some ⟨T.db,0,none⟩),sv,.int .i64 k,op.val,v 4,v 5,v 6,.pointer (some ⟨b7,0,none⟩),v 8,v 9,v 10,v 11,v 12,v 13,v 14,v 15,v 16,v 17,v 18,v 19,v 20,v 21,v 22,v 23,v 24,v 25,v 26,v 27,v 28,v 29,v 30,v 31,v 32,v 33,v 34,v 35,v 36,v 37,v 38,v 39,v 40,v 41,v 42,v 43,v 44,v 45,v 46,v 47,v 48,v 49,v 50,v 51,v 52,v 53,v 54,v 55,v 56,v 57,v 58,v 59,v 60,v 61,v 62,v 63,v 64,v 65,v 66,v 67,v 68,v 69,v 70,v 71,v 72,v 73,v 74,v 75,v 76,v 77,v 78,v 79,v 80,v 81,v 82,v 83,v 84]/\(B) b7=none/\B'=upB (B) b7 (.cells op.cells.toArray 44)) hA rfl rfl rfl rfl ?_ ?_
 . intro wc hB X0 hX0;have HX0:=Lib.hid hX0;clear hX0;have hm:=OMoved.push (o:=.cells op.cells.toArray 44) hB.own (Ext1.alloc wc (.cells op.cells.toArray 44)) (Nat.le_refl _) (by rw[zqc];simp);have hf:=hB.own.fresh (Nat.le_refl _);have HM:=Lib.hid (And.intro hm hf);clear hm hf;unfold OpX.val;go_wp2;exact HX0.out _ _ _ HM.out.1 ⟨_,(λ_=>undef),rfl,HM.out.2,rfl⟩
 clear hA;rintro _ _ w ⟨b7,v,rfl,hb7,rfl⟩ hA;refine YSys.opsX 1 1 (λt B'=>∃(b8:Nat)(v:Nat->Value),t=#[.pointer (some ⟨T.db,0,none⟩),sv,.int .i64 k,op.val,v 4,v 5,v 6,.pointer (some ⟨b7,0,none⟩),.pointer (some ⟨b8,0,none⟩),v 9,v 10,v 11,v 12,v 13,v 14,v 15,v 16,v 17,v 18,v 19,v 20,v 21,v 22,v 23,v 24,v 25,v 26,v 27,v 28,v 29,v 30,v 31,v 32,v 33,v 34,v 35,v 36,v 37,v 38,v 39,v 40,v 41,v 42,v 43,v 44,v 45,v 46,v 47,v 48,v 49,v 50,v 51,v 52,v 53,v 54,v 55,v 56,v 57,v 58,v 59,v 60,v 61,v 62,v 63,v 64,v 65,v 66,v 67,v 68,v 69,v 70,v 71,v 72,v 73,v 74,v 75,v 76,v 77,v 78,v 79,v 80,v 81,v 82,v 83,v 84]/\(upB B b7 (.cells op.cells.toArray 44)) b8=none/\B'=upB (upB B b7 (.cells op.cells.toArray 44)) b8 (.cells #[.bool false,.int .i64 0,.slice none 0 0] 48)) hA rfl rfl (by kernel_rfl) ?_ ?_
 . intro wc hB X0 hX0;have HX0:=Lib.hid hX0;clear hX0;have hm:=OMoved.push (o:=.cells #[.bool false,.int .i64 0,.slice none 0 0] 48) hB.own (Ext1.alloc wc (.cells #[.bool false,.int .i64 0,.slice none 0 0] 48)) (Nat.le_refl _) (by rw[zqc];simp);have hf:=hB.own.fresh (Nat.le_refl _);have HM:=Lib.hid (And.intro hm hf);clear hm hf;go_wp2;exact⟨rfl,HX0.out _ _ _ HM.out.1 ⟨_,v,rfl,HM.out.2,rfl⟩⟩
 clear hA;rintro _ _ w ⟨b8,v,rfl,hb8,rfl⟩ hA;have h7:(upB (upB B b7 (.cells op.cells.toArray 44)) b8 (.cells #[.bool false,.int .i64 0,.slice none 0 0] 48)) b7=some (.cells op.cells.toArray 44):=zq58 (upB_same _ _ _) (zq7z (upB_same _ _ _) hb8);have h8:(upB (upB B b7 (.cells op.cells.toArray 44)) b8 (.cells #[.bool false,.int .i64 0,.slice none 0 0] 48)) b8=some (.cells #[.bool false,.int .i64 0,.slice none 0 0] 48):=upB_same _ _ _;have hB8:B b8=none:=Classical.byContradiction λh=>by
  cases ho:B b8 with
  |none=>exact h ho
  |some o=>rw[zq57 (o:=.cells op.cells.toArray 44) hb7 b8 o ho]at hb8;cases hb8
 have hle:∀x y,B x=some y->(upB (upB B b7 (.cells op.cells.toArray 44)) b8 (.cells #[.bool false,.int .i64 0,.slice none 0 0] 48)) x=some y:=zq2v (zq57 (o:=.cells op.cells.toArray 44) hb7) hB8;obtain⟨Bq,hBq⟩:∃X,upB (upB B b7 (.cells op.cells.toArray 44)) b8 (.cells #[.bool false,.int .i64 0,.slice none 0 0] 48)=X:=⟨_,rfl⟩;rw[hBq]at h7 h8 hle hA;have HD:=Lib.hid (DoB.mk h7 h8 hle hB8);have H7:=Lib.hid h7;have HK:=Lib.hid hK;clear h7 h8 hle hBq hb7 hb8 hB8 hK;show wpJ Y.J _ _ _ _ _;refine zqq Y.jc ?_;refine YSys.seqX (λt B'=>(∃v,t=doF T.db k sv op b7 b8 v)/\B'=Bq) hA (by kernel_rfl) ?_ ?_
 . intro wc hB X0 hX0;have HX0:=Lib.hid hX0;clear hX0;have HOM:=Lib.hid (OMoved.ext hB.own (Ext1.refl wc));have c70:wc.cell? ⟨b7,0,none⟩=some (.int .i64 op.k):=(zq1 (hB.own.box b7 _ H7.out)).trans rfl;have c71:wc.cell? ⟨b7,1,none⟩=some (.int .i64 op.a):=(zq1 (hB.own.box b7 _ H7.out)).trans rfl;have c72:wc.cell? ⟨b7,2,none⟩=some (.int .i64 op.b):=(zq1 (hB.own.box b7 _ H7.out)).trans rfl;have c73:wc.cell? ⟨b7,3,none⟩=some (.int .i64 op.c):=(zq1 (hB.own.box b7 _ H7.out)).trans rfl;go_wp2;exact⟨rfl,HX0.out _ _ _ HOM.out ⟨⟨λj=>if j=18 then .pointer (some ⟨b7,0,none⟩)else v j,rfl⟩,rfl⟩⟩
 rintro _ Bz w ⟨⟨v,rfl⟩,hBz⟩ hA;rw[hBz]at hA;clear hBz;refine zq2w Y.jc ?_;have eb:∀c,c=doCh 0->c=doCh 0:=λ_ h=>h;refine YSys.seqX (λt B'=>(∃v,t=(doF T.db k sv op b7 b8 v).setIfInBounds 20 (.bool (op.k==1)))/\B'=Bq) hA (by kernel_rfl) ?_ ?_
 . intro wc hB X0 hX0;have HX0:=Lib.hid hX0;clear hX0;have HOM:=Lib.hid (OMoved.ext hB.own (Ext1.refl wc));unfold doF;go_wp2;exact⟨rfl,HX0.out _ _ _ HOM.out ⟨⟨λj=>if j=21 then .bool (op.k==1)else v j,rfl⟩,rfl⟩⟩
 rintro _ Bz w ⟨⟨v',hv⟩,hBz⟩ hA;have hcd:(doF T.db k sv op b7 b8 v').setIfInBounds 20 (.bool (op.k==1))=doF T.db k sv op b7 b8 (λj=>if j=20 then .bool (op.k==1)else v' j):=rfl;rw[hcd]at hv;subst hv;rw[hBz]at hA;clear hBz hcd v;obtain⟨v,hv⟩:∃v:Nat->Value,(λj=>if j=20 then .bool (op.k==1)else v' j)=v:=⟨_,rfl⟩;have hvk:v 20=.bool (op.k==1):=by rw[<-hv];rfl
 rw[hv];clear hv;refine zq19 Y.jc (t:=(op.k==1)) (by show(doF T.db k sv op b7 b8 v)[20]?.getD undef=_;unfold doF;exact hvk) ?_;clear hvk v'
 by_cases hk1:op.k=1
 . rw[if_pos (by simp[hk1])];rw[if_pos hk1]at hA;refine edo_c1 Y hst hk hN hc HD.out HK.out (λs a w h=>?_) (λs ch a w h=>?_) hA
   . simp only[thenJ,zq1p,bodyC];exact h
   . exact⟨rfl,h⟩
 rw[if_neg (by simp[hk1])];rw[if_neg hk1]at hA;clear hk1;refine YSys.seqX (λt B'=>(∃v,t=(doF T.db k sv op b7 b8 v).setIfInBounds 33 (.bool (op.k==2)))/\B'=Bq) hA (by kernel_rfl) ?_ ?_
 . intro wc hB X0 hX0;have HX0:=Lib.hid hX0;clear hX0;have HOM:=Lib.hid (OMoved.ext hB.own (Ext1.refl wc));unfold doF;go_wp2;exact⟨rfl,HX0.out _ _ _ HOM.out ⟨⟨λj=>if j=34 then .bool (op.k==2)else v j,rfl⟩,rfl⟩⟩
 rintro _ Bz w ⟨⟨v',hv⟩,hBz⟩ hA;have hcd:(doF T.db k sv op b7 b8 v').setIfInBounds 33 (.bool (op.k==2))=doF T.db k sv op b7 b8 (λj=>if j=33 then .bool (op.k==2)else v' j):=rfl;rw[hcd]at hv;subst hv;rw[hBz]at hA;clear hBz hcd v;obtain⟨v,hv⟩:∃v:Nat->Value,(λj=>if j=33 then .bool (op.k==2)else v' j)=v:=⟨_,rfl⟩;have hvk:v 33=.bool (op.k==2):=by rw[<-hv];rfl
 rw[hv];clear hv;refine zq19 Y.jc (t:=(op.k==2)) (by show(doF T.db k sv op b7 b8 v)[33]?.getD undef=_;unfold doF;exact hvk) ?_;clear hvk v'
 by_cases hk2:op.k=2
 . rw[if_pos (by simp[hk2])];rw[if_pos hk2]at hA;refine edo_c2 Y hst hk hN hc HD.out HK.out (λs a w h=>?_) (λs ch a w h=>?_) hA
   . simp only[thenJ,zq1p,bodyC];exact h
   . exact⟨rfl,h⟩
 rw[if_neg (by simp[hk2])];rw[if_neg hk2]at hA;clear hk2;refine YSys.seqX (λt B'=>(∃v,t=(doF T.db k sv op b7 b8 v).setIfInBounds 41 (.bool (op.k==3)))/\B'=Bq) hA (by kernel_rfl) ?_ ?_
 . intro wc hB X0 hX0;have HX0:=Lib.hid hX0;clear hX0;have HOM:=Lib.hid (OMoved.ext hB.own (Ext1.refl wc));unfold doF;go_wp2;exact⟨rfl,HX0.out _ _ _ HOM.out ⟨⟨λj=>if j=42 then .bool (op.k==3)else v j,rfl⟩,rfl⟩⟩
 rintro _ Bz w ⟨⟨v',hv⟩,hBz⟩ hA;have hcd:(doF T.db k sv op b7 b8 v').setIfInBounds 41 (.bool (op.k==3))=doF T.db k sv op b7 b8 (λj=>if j=41 then .bool (op.k==3)else v' j):=rfl;rw[hcd]at hv;subst hv;rw[hBz]at hA;clear hBz hcd v;obtain⟨v,hv⟩:∃v:Nat->Value,(λj=>if j=41 then .bool (op.k==3)else v' j)=v:=⟨_,rfl⟩;have hvk:v 41=.bool (op.k==3):=by rw[<-hv];rfl
 rw[hv];clear hv;refine zq19 Y.jc (t:=(op.k==3)) (by show(doF T.db k sv op b7 b8 v)[41]?.getD undef=_;unfold doF;exact hvk) ?_;clear hvk v'
 by_cases hk3:op.k=3
 . rw[if_pos (by simp[hk3])];rw[if_pos hk3]at hA;refine edo_c3 Y hst hk hN hc HD.out HK.out (λs a w h=>?_) (λs ch a w h=>?_) hA
   . simp only[thenJ,zq1p,bodyC];exact h
   . exact⟨rfl,h⟩
 rw[if_neg (by simp[hk3])];rw[if_neg hk3]at hA;clear hk3;refine YSys.seqX (λt B'=>(∃v,t=(doF T.db k sv op b7 b8 v).setIfInBounds 56 (.bool (op.k==4)))/\B'=Bq) hA (by kernel_rfl) ?_ ?_
 . intro wc hB X0 hX0;have HX0:=Lib.hid hX0;clear hX0;have HOM:=Lib.hid (OMoved.ext hB.own (Ext1.refl wc));unfold doF;go_wp2;exact⟨rfl,HX0.out _ _ _ HOM.out ⟨⟨λj=>if j=57 then .bool (op.k==4)else v j,rfl⟩,rfl⟩⟩
 rintro _ Bz w ⟨⟨v',hv⟩,hBz⟩ hA;have hcd:(doF T.db k sv op b7 b8 v').setIfInBounds 56 (.bool (op.k==4))=doF T.db k sv op b7 b8 (λj=>if j=56 then .bool (op.k==4)else v' j):=rfl;rw[hcd]at hv;subst hv;rw[hBz]at hA;clear hBz hcd v;obtain⟨v,hv⟩:∃v:Nat->Value,(λj=>if j=56 then .bool (op.k==4)else v' j)=v:=⟨_,rfl⟩;have hvk:v 56=.bool (op.k==4):=by rw[<-hv];rfl
 rw[hv];clear hv;refine zq19 Y.jc (t:=(op.k==4)) (by show(doF T.db k sv op b7 b8 v)[56]?.getD undef=_;unfold doF;exact hvk) ?_;clear hvk v'
 by_cases hk4:op.k=4
 . rw[if_pos (by simp[hk4])];rw[if_pos hk4]at hA;refine edo_c4 Y hst hk hN hc HD.out HK.out (λs a w h=>?_) (λs ch a w h=>?_) hA
   . simp only[thenJ,zq1p,bodyC];exact h
   . exact⟨rfl,h⟩
 rw[if_neg (by simp[hk4])];rw[if_neg hk4]at hA;clear hk4;refine YSys.seqX (λt B'=>(∃v,t=(doF T.db k sv op b7 b8 v).setIfInBounds 71 (.bool (op.k==5)))/\B'=Bq) hA (by kernel_rfl) ?_ ?_
 . intro wc hB X0 hX0;have HX0:=Lib.hid hX0;clear hX0;have HOM:=Lib.hid (OMoved.ext hB.own (Ext1.refl wc));unfold doF;go_wp2;exact⟨rfl,HX0.out _ _ _ HOM.out ⟨⟨λj=>if j=72 then .bool (op.k==5)else v j,rfl⟩,rfl⟩⟩
 rintro _ Bz w ⟨⟨v',hv⟩,hBz⟩ hA;have hcd:(doF T.db k sv op b7 b8 v').setIfInBounds 71 (.bool (op.k==5))=doF T.db k sv op b7 b8 (λj=>if j=71 then .bool (op.k==5)else v' j):=rfl;rw[hcd]at hv;subst hv;rw[hBz]at hA;clear hBz hcd v;obtain⟨v,hv⟩:∃v:Nat->Value,(λj=>if j=71 then .bool (op.k==5)else v' j)=v:=⟨_,rfl⟩;have hvk:v 71=.bool (op.k==5):=by rw[<-hv];rfl
 rw[hv];clear hv;refine zq19 Y.jc (t:=(op.k==5)) (by show(doF T.db k sv op b7 b8 v)[71]?.getD undef=_;unfold doF;exact hvk) ?_;clear hvk v'
 by_cases hk5:op.k=5
 . rw[if_pos (by simp[hk5])];rw[if_pos hk5]at hA;refine edo_c5 Y hst hk hN hc HD.out HK.out (λs a w h=>?_) (λs ch a w h=>?_) hA
   . simp only[thenJ,zq1p,bodyC];exact h
   . exact⟨rfl,h⟩
 rw[if_neg (by simp[hk5])];rw[if_neg hk5]at hA;clear hk5;refine zq1s Y.jc ?_;have H8:=Lib.hid HD.out.h8;have HLE:=Lib.hid HD.out.hle;have HN:=Lib.hid HD.out.hn;show wpJ Y.J _ _ _ _ _;unfold doF;refine YSys.seqX (λt B'=>t.getD 8 undef=.pointer (some ⟨b8,0,none⟩)/\B'=upB Bq b8 (.cells #[.bool false,.int .i64 0,.slice none 0 0] 48)) hA (by kernel_rfl) ?_ ?_
 . intro wc hB X0 hX0;have HX0:=Lib.hid hX0;clear hX0;have k8:=hB.own.box b8 _ H8.out;have c80:wc.cell? ⟨b8,0,none⟩=some (.bool false):=(zq1 k8).trans rfl;have c81:wc.cell? ⟨b8,1,none⟩=some (.int .i64 0):=(zq1 k8).trans rfl;have c82:wc.cell? ⟨b8,2,none⟩=some (.slice none 0 0):=(zq1 k8).trans rfl;have f80:wc.frozen? ⟨b8,0,none⟩=false:=zqh k8;have f81:wc.frozen? ⟨b8,1,none⟩=false:=zqh k8;have f82:wc.frozen? ⟨b8,2,none⟩=false:=zqh k8;have hm:=OMoved.set3 (o1:=0) (o2:=1) (o3:=2) hB.own H8.out (.bool false) (.int .i64 0) (.slice none 0 0);have HM:=Lib.hid hm;clear hm k8;go_wp2;exact⟨rfl,HX0.out _ _ _ HM.out ⟨rfl,rfl⟩⟩
 rintro t _ w ⟨ht8,rfl⟩ hA;refine zq1k Y.jc ?_;refine YSys.left hA (v:=.agg #[.bool false,.int .i64 0,.slice none 0 0]) (λwc hB=>results_cell_row rfl t wc b8 48 _ _ _ ht8 (hB.own.box b8 _ (upB_same _ _ _)) rfl rfl rfl) λw hA=>?_;exact⟨Ans.none,λ_=>none,AnsV.plain _ _ _,λb hb=>absurd rfl hb,hA.drop (zq2v HLE.out HN.out)⟩
end
theorem zq7v(n:Nat)(st:Nat)(w:World):(Go.method (n+1) 150 (.pointer (some ⟨st,0,none⟩)) "Step").run Try.prog w=.ok (81,.pointer (some ⟨st,0,none⟩)) w:=by kernel_rfl
theorem zq7w(n:Nat)(st:Nat)(w:World)(es:Array Event):(Go.method (n+1) 150 (.pointer (some ⟨st,0,none⟩)) "Step").events Try.prog w es=es:=by kernel_rfl
section
variable {Ml S β:Type} {C:Core Ml S} {ro:Nat->Option Obj} {i:Nat}
theorem zqhf(Y:YSys Try.prog aM C ro i β){st:Nat}(h:StepY Y 81 #[.pointer (some ⟨st,0,none⟩)]):StepY Y 49 #[.iface 150 (.pointer (some ⟨st,0,none⟩))]:=by
 intro K s m w hA;refine BodyY.calls ⟨_,_,Try.func49,rfl,?_⟩;simp only[zqm,Try.ntmps49,List.size_toArray,List.length_cons,List.length_nil,Nat.reduceAdd,Nat.reduceSub,Array.replicate_succ,Array.replicate_zero,List.push_toArray,List.append_toArray,List.nil_append,List.cons_append];have hA:Y.AtB (m.box i) s w (Proc.tick.bind K):=⟨m,rfl,hA⟩;obtain⟨B,hB0⟩:∃B,m.box i=B:=⟨_,rfl⟩;rw[hB0]at hA |-;clear hB0;apply YSys.seq0 hA (by kernel_rfl)
 . intro wc hB;go_wp2;exact⟨rfl,Ext1.refl _,rfl⟩
 intro w hA;refine zq19 Y.jc rfl ?_;rw[if_pos rfl];refine zq12 Y.jc ?_;apply YSys.callS 0 1 0 hA h rfl rfl rfl (by rfl) rfl rfl rfl
 . intro wc hB X hX;have HX:=Lib.hid hX;clear hX;go_wp2;exact HX.out _ (Ext1.refl _)
 . intro w;simp[go_sem,execOp,Act.eval,resolve,Deferred.ofValue,invoke,callFunc,zq7v,zq7w,Try.func81,Try.f81]
 . intro w;simp[go_sem,execOp,Act.eval,resolve,Deferred.ofValue,invoke,callFunc,zq7v,zq7w,Try.func81,Try.f81]
 . intro s' ch w' h;exact⟨rfl,h⟩
 intro s w hA;refine zq2c Y.jc ?_;exact⟨rfl,.inl ⟨_,resultsC_none rfl _,(),hA.choose,rfl,hA.choose_spec⟩⟩
end
section
variable {M1 S1:Type} {C:Core M1 S1} {RP:Nat->Option Obj} {l₀:M1} {w wa w1 w2:World} {N n most:Nat} {sp:Nat->Option Addr} {L Cp:Nat->Nat} {ob ib:Nat->Nat} {dv fv v:Value} {pr:Nat->Proc (S1×(Nat->List Ans)) Unit} {sched:List Int} {b:OSt (TM (M1×AnsM) (S1×(Nat->List Ans)))} {m':TM (M1×AnsM) (S1×(Nat->List Ans))} {g:Nat}
def mOps(l₀:M1)(room:Nat):TM (M1×AnsM) (S1×(Nat->List Ans)):=⟨⟨(l₀,ans0),λ_ _=>none⟩,λ_=>.ret (),room⟩
theorem OpsRes.ext {r:TSt (S1×(Nat->List Ans))}{ab:Nat}{l':M1}{am:AnsM}{w':World}(h:OpsRes C N l₀ wa r ab v l' am w2){H:Nat}(hw:w.heap.size=H)(hwa:wa.heap.size=H+1)(hoa:∀b,b<H->wa.heap[b]?=w.heap[b]?)(hl:∀b,C.foot l₀ b->b<H)(hsz:w2.heap.size<=w'.heap.size)(hold:∀x,x<w2.heap.size->x≠H->w'.heap[x]?=w2.heap[x]?):OpsRes C N l₀ w r ab v l' am w':=by
 have hs:=h.size;have hab:=h.abl;have hcn:∀b,C.foot l' b->b≠H:=λb hb e=>by
  rcases h.foot b hb with h2|h2
  . have:=hl b h2;omega
  . omega
 have han:∀i b,i<N->am.X i b≠none->b≠H:=λi b hi hb e=>by
  rcases h.ansn i b hi hb with h2|h2
  . have:=hl b h2;omega
  . omega
 refine⟨C.frame _ _ _ h.rep λb hb=>hold b (C.lt _ _ _ h.rep hb) (hcn b hb),h.st,⟨(hold ab (zqs h.ans.hd) (by omega)).trans h.ans.hd,h.ans.row,λi b o hi hb=>(hold b (zqs (h.ans.blk i b o hi hb)) (han i b hi (by rw[hb];simp))).trans (h.ans.blk i b o hi hb),h.ans.nab,h.ans.sep⟩,h.ast,by omega,λb hb hf=>(hold b (by omega) (by omega)).trans ((h.old b (by omega) hf).trans (hoa b (by omega))),λb hb=>(h.foot b hb).imp id (λx=>by omega),by omega,λi b hi hb=>(h.ansn i b hi hb).imp id (λx=>by omega),h.anf,?_,h.rowf⟩;refine zq3u (zq1v h.row λg hg=>hold g (own_lt h.row hg).2.2 ?_) (by omega);have:=(own_lt h.row hg).2.1;omega
end
theorem DRes.re {w w':World}{N n:Nat}{dv:Value}{sp:Nat->Option Addr}{L Cp:Nat->Nat}{ob ib:Nat->Nat}{fv:Value}(h:DRes w N dv sp L Cp n ob ib fv w')(τ:Nat->Question->Nat)(d:Nat):DRes w N dv sp L Cp n ob ib fv (Go.Car.re w' τ d):=h.of_heap rfl
theorem DRes.of_re {w w':World}{τ:Nat->Question->Nat}{d:Nat}{N n:Nat}{dv:Value}{sp:Nat->Option Addr}{L Cp:Nat->Nat}{ob ib:Nat->Nat}{fv:Value}(h:DRes (Go.Car.re w τ d) N dv sp L Cp n ob ib fv w'):DRes w N dv sp L Cp n ob ib fv w':=
 ⟨h.size,h.old,h.db,h.ab,h.hb,h.frow,h.obx,h.ibx,h.lo,h.inc⟩
theorem zqdm{w:World}{B N:Nat}{T:TypeId}{v:Value}{xs:List Value}(h:w.ownsRow B T 1 v N xs):∃p C,v=.slice p N C/\(v.ownBlock=p.map (·.block))/\(0<N->∃g,p=some ⟨g,0,none⟩/\v.ownBlock=some g/\∀i x,xs[i]?=some x->w.cell? ⟨g,i,none⟩=some x):=by
 rcases h.2 with⟨hv,h0⟩|⟨g,cap,cur,hv,hb,hh,h1,h2,h3,h4⟩
 . subst h0;exact⟨none,0,hv,by rw[hv];rfl,λh=>absurd h (Nat.lt_irrefl _)⟩
 . refine⟨_,cap,hv,by rw[hv];rfl,λ_=>⟨g,rfl,by rw[hv];rfl,λi x hx=>?_⟩⟩;rw[zq1 (off:=i) hh];have hi:i<xs.length:=(List.getElem?_eq_some_iff.1 hx).1;have hl:=h.1;rw[<-h4,List.getElem?_take]at hx;split at hx
   . simpa using hx
   . cases hx
end Go.Proofs
namespace Go.Car
open Go Go.Conc Go.RowKit
def Tree.DeepO {S O α:Type}(ow:S->O):Nat->S->Tree S α->Prop
 |0,_,_=>True
 |_+1,_,.ret _=>True
 |_+1,_,.out=>False
 |n+1,s,.step u k=>∀s',ow s'=ow s->(k s').DeepO ow n (u s')
theorem Tree.DeepO.less {S O α:Type}{ow:S->O}{n:Nat}:∀{m:Nat}{s:S}{t:Tree S α},m<=n->t.DeepO ow n s->t.DeepO ow m s:=by
 induction n with
 |zero=>intro m s t h _;obtain rfl:m=0:=by omega
        cases t<;>trivial
 |succ n ih=>
  intro m s t h hd;cases m with
  |zero=>cases t<;>trivial
  |succ m=>
   cases t with
   |ret a=>trivial
   |out=>exact hd
   |step u k=>exact λs' e=>ih (by omega) (hd s' e)
theorem Tree.DeepO.own {S O α:Type}{ow:S->O}{n:Nat}{s s':S}{t:Tree S α}(h:t.DeepO ow n s)(e:ow s'=ow s):t.DeepO ow n s':=by
 cases n with
 |zero=>cases t<;>trivial
 |succ n=>
  cases t with
  |ret a=>trivial
  |out=>exact h
  |step u k=>exact λs2 e2=>h s2 (e2.trans e)
def Proc.DeepO {S O α:Type}(ow:S->O)(n:Nat)(s:S)(p:Proc S α):Prop:=(p s).2.DeepO ow n (p s).1
section
variable {Ml S:Type}
def zq1c{O:Type}(C:Core Ml S)(own:Nat->S->O)(ro:Nat->Option Obj)(pr:Nat->Proc S Unit):Thr (TM Ml S) where
 foot m b:=m.bm.foot C ro b
 Rep m w:=BRep C ro m.bm w/\∀i,(m.at' i).DeepO (own i) (m.room+1) (C.st m.bm.l)
 Start i m o:=Came C own i (pr i (C.st m.bm.l)) m m.room o
 Go i m o:=∃u k,m.at' i=.step u k/\Came C own i (u (C.st m.bm.l),k (C.st m.bm.l)) m (m.room - 1) o
 Kill i m m':=C.st m'.bm.l=C.st m.bm.l/\m'.at'=m.at'/\m'.bm.box=m.bm.box/\m'.room=m.room - 1
 Same i m m':=m'.at' i=m.at' i/\m'.bm.box i=m.bm.box i/\m'.room<=m.room/\own i (C.st m'.bm.l)=own i (C.st m.bm.l)
 left m:=m.room
 frame m w w' h hs:=⟨h.1.frame hs,h.2⟩
 lt m w b h hb:=h.1.lt hb
 refl i m:=⟨rfl,rfl,Nat.le_refl _,rfl⟩
 trans i a b c h k:=⟨k.1.trans h.1,k.2.1.trans h.2.1,Nat.le_trans k.2.2.1 h.2.2.1,k.2.2.2.trans h.2.2.2⟩
 start_same i j m o hij h:=⟨(h.others i hij).1,(h.others i hij).2,by rw[h.room];exact Nat.le_refl _,by rw[h.st];exact h.oth i hij⟩
 go_same i j m o hij h:=by
  obtain⟨u,k,_,h⟩:=h;exact⟨(h.others i hij).1,(h.others i hij).2,by rw[h.room];omega,by rw[h.st];exact h.oth i hij⟩
 kill_same i j m m' hij h:=⟨by rw[h.2.1],by rw[h.2.2.1],by rw[h.2.2.2];omega,by rw[h.1]⟩
section
variable {P:Program} {A:FuncId->Bool} {O:Type} {own:Nat->S->O} {C:Core Ml S} {ro:Nat->Option Obj} {pr:Nat->Proc S Unit} {fStep:FuncId} {sx:Value} {cr:Frame} {rest:List Frame} {NE EN:List PanicEntry->Prop} {i:Nat}
structure TurnAt2{O:Type}(P:Program)(C:Core Ml S)(own:Nat->S->O)(ro:Nat->Option Obj)(pr:Nat->Proc S Unit)(fStep:FuncId)(sx:Value)(cr:Frame)(rest:List Frame)(NE EN:List PanicEntry->Prop)(i:Nat)(s:Turn P Ml S)(m:BM Ml)(w:World)(r:S×Tree S Unit):Prop where
 env:Env P (zq1c C own ro pr) s.Kc s.X s.J s.m₀ s.w₀
 conts:Conts P (zq1c C own ro pr) fStep sx cr rest NE (Susp P (zq1c C own ro pr) fStep sx cr rest NE EN i s.k) s.R s.room s.J s.m₀ s.w₀
 grow:Grow (zq1c C own ro pr) s.m₀ s.w₀ ⟨m,s.m₀.at',s.room⟩ w
 rep:BRep C ro m w
 deep:∀j,j≠i->(s.m₀.at' j).DeepO (own j) (s.room+1) (C.st s.m₀.bm.l)
 deepr:r.2.DeepO (own i) (s.room+1) r.1
 others:∀j,j≠i->m.box j=s.m₀.bm.box j
 oth:∀j,j≠i->own j (C.st m.l)=own j (C.st s.m₀.bm.l)
 come:∀o,Came C own i r s.m₀ s.room o->s.R s.m₀ o
theorem TurnAt2.rows_none {s:Turn P Ml S}{m:BM Ml}{w:World}{r:S×Tree S Unit}(h:TurnAt2 P C own ro pr fStep sx cr rest NE EN i s m w r){b:Nat}(hb:m.foot C ro b):s.X b=none:=by
 have hE:=h.env.grow h.grow;cases hx:s.X b with
 |none=>rfl
 |some p=>exact absurd hb (hE.free b p hx)
theorem TurnAt2.cut {s:Turn P Ml S}{m:BM Ml}{w:World}{r:S×Tree S Unit}(h:TurnAt2 P C own ro pr fStep sx cr rest NE EN i s m w r){wc:World}(hcut:∃τ d,Cut s.X (re w τ d) wc):BRep C ro m wc:=by
 obtain⟨τ,d,hcut⟩:=hcut;exact h.rep.frame λb hb=>hcut.no b (h.rows_none hb)
theorem TurnAt2.moved {s:Turn P Ml S}{m:BM Ml}{w:World}{r:S×Tree S Unit}(h:TurnAt2 P C own ro pr fStep sx cr rest NE EN i s m w r){wc wc' w':World}{l':Ml}{B':Nat->Option Obj}(hcut:∃τ d,Cut s.X (re w τ d) wc)(k:Moved C m.l (m.box i) wc l' B' wc')(hcut':Cut s.X w' wc'):Moved C m.l (m.box i) w l' B' w':=by
 obtain⟨τ,d,hcut⟩:=hcut;have hE:=h.env.grow h.grow;have hs1:wc.heap.size=w.heap.size:=hcut.size;have hs2:wc'.heap.size=w'.heap.size:=hcut'.size;have lt:∀b x,s.X b=some x->b<w.heap.size:=λb x hx=>by obtain⟨c,e⟩:=x;exact zqs (hE.rows b c e hx)
 have hnew:∀b,w.heap.size<=b->s.X b=none:=λb hb=>by
  cases hx:s.X b with
  |none=>rfl
  |some p=>exact absurd (lt b p hx) (Nat.not_lt_of_le hb)
 have hX:∀b,(m.foot C ro b\/wc.heap.size<=b)->s.X b=none:=λb hb=>hb.elim h.rows_none λhb=>hnew b (by omega);have gl:∀b,C.foot l' b->s.X b=none:=λb hb=>hX b ((k.growl b hb).elim (λx=>.inl (.inl x)) (λx=>x.elim (λy=>.inl (.inr (.inl ⟨i,y⟩))) .inr));have gb:∀b,B' b≠none->s.X b=none:=λb hb=>hX b ((k.growb b hb).imp (λx=>.inr (.inl ⟨i,x⟩)) id);refine⟨by have:=k.size;omega,λb hb h1 h2=>?_,C.frame _ _ _ k.rep λb hb=>(hcut'.no b (gl b hb)).symm,λb o hb=>?_,λb hb=>(k.growl b hb).imp id (λx=>x.imp id λx=>by omega),λb hb=>(k.growb b hb).imp id (λx=>by omega),k.apart,k.pin⟩
 . have hold:=k.old b (by omega) h1 h2;cases hx:s.X b with
   |none=>rw[<-hcut'.no b hx,hold];exact hcut.no b hx
   |some p=>
    obtain⟨c,e⟩:=p;rw[(hcut'.is b c e hx).1];exact((hcut.is b c e hx).1).symm
 . rw[<-hcut'.no b (gb b (by rw[hb];simp))];exact k.box b o hb
theorem TurnAt2.done {s:Turn P Ml S}{m:BM Ml}{w w':World}{r:S×Tree S Unit}{l':Ml}{B':Nat->Option Obj}(h:TurnAt2 P C own ro pr fStep sx cr rest NE EN i s m w r)(k:Moved C m.l (m.box i) w l' B' w')(ho:∀j,j≠i->own j (C.st l')=own j (C.st m.l)):TurnAt2 P C own ro pr fStep sx cr rest NE EN i s (m.put i l' B') w' r:=
 ⟨h.env,h.conts,h.grow.trans ⟨k.size,Moved.foot_old h.rep k,k.foot_grow⟩,k.done h.rep,h.deep,h.deepr,λj hj=>(BM.put_other _ _ _ hj).trans (h.others j hj),λj hj=>(ho j hj).trans (h.oth j hj),h.come⟩
def zq56{O:Type}(hP:Plain P A)(hRS:RowsS P A)(C:Core Ml S)(own:Nat->S->O)(ro:Nat->Option Obj)(pr:Nat->Proc S Unit)(fStep:FuncId)(sx:Value)(cr:Frame)(rest:List Frame)(NE EN:List PanicEntry->Prop)(i:Nat):Alone P A C ro i Unit where
 main:=false
 γ:=Turn P Ml S
 J s:=s.J
 js s:=⟨s.Kc,s.js⟩
 AtE:=TurnAt2 P C own ro pr fStep sx cr rest NE EN i
 Dead s ch w:=s.J (G (cr.raise ch) rest) w
 Oth a b:=∀j,j≠i->own j b=own j a
 oth _ _ _:=rfl
 rep h:=h.rep
 move h k ho:=h.done k ho
 item {s m w r it t ds} Φ Ψ h hok hw:=by
  have hE:=h.env.grow h.grow;intro b k cs hb hk;refine wpI_away (J:=λ(_:Unit)=>s.J) (s:=()) (main:=false) (Kc:=s.Kc) (X:=s.X) (A:=A) (a:=⟨t,ds⟩) (w:=w)
   (Q:=λ_ e a w'=>a.defers=ds/\∃l' B',((e=.normal/\Φ a.tmps l' B')\/(e=.ret/\Ψ a.tmps l' B'))/\TurnAt2 P C own ro pr fStep sx cr rest NE EN i s (m.put i l' B') w' r) hE.js hE.calm hP hRS hok
   (λa w'=>∃wc,(∃τ d,Cut s.X (re w τ d) wc)/\∃l' B',(Moved C m.l (m.box i) wc l' B' w'/\∀j,j≠i->own j (C.st l')=own j (C.st m.l))/\Φ a.tmps l' B') (λa w'=>∃wc,(∃τ d,Cut s.X (re w τ d) wc)/\∃l' B',(Moved C m.l (m.box i) wc l' B' w'/\∀j,j≠i->own j (C.st l')=own j (C.st m.l))/\Ψ a.tmps l' B')
   (λa w' τ d⟨wc,h1,l',B',h2,h3⟩=>⟨wc,h1,l',B',⟨h2.1.re τ d,h2.2⟩,h3⟩) (λa w' τ d⟨wc,h1,l',B',h2,h3⟩=>⟨wc,h1,l',B',⟨h2.1.re τ d,h2.2⟩,h3⟩) hE.rows ?_ ?_ ?_ b k cs hb ?_
  . intro wc hc;refine zq28 (hw wc (h.cut hc) (by obtain⟨τ,d,hc⟩:=hc;exact hc.size)) ?_;intro e a w' q;cases e with
    |normal=>exact⟨q.1,wc,hc,q.2⟩
    |ret=>exact⟨q.1,wc,hc,q.2⟩
    |_=>exact q
  . rintro t' wc' w' ⟨wc,hc,l',B',h2,h3⟩ hc' _;exact⟨rfl,l',B',.inl ⟨rfl,h3⟩,h.done (h.moved hc h2.1 hc') h2.2⟩
  . rintro t' wc' w' ⟨wc,hc,l',B',h2,h3⟩ hc' _;exact⟨rfl,l',B',.inr ⟨rfl,h3⟩,h.done (h.moved hc h2.1 hc') h2.2⟩
  . rintro _ e a w' ⟨h1,l',B',h2,h3⟩;have:=hk s e a w' ⟨rfl,h1,l',B',h2,h3⟩;cases e<;>exact this
 call {s m w r f fn c args} R h hf hb hok hw:=by
  have hE:=h.env.grow h.grow;intro cl cs h1 h2;refine zqbf (J:=λ(_:Unit)=>s.J) (s:=()) (main:=false) (Kc:=s.Kc) (X:=s.X) (A:=A) (w:=w) hE.js hE.calm hP hRS hf hb hok (R:=λv w'=>∃wc,(∃τ d,Cut s.X (re w τ d) wc)/\∃l' B',(Moved C m.l (m.box i) wc l' B' w'/\∀j,j≠i->own j (C.st l')=own j (C.st m.l))/\R v l' B')
   (λv w' τ d⟨wc,h1,l',B',h2,h3⟩=>⟨wc,h1,l',B',⟨h2.1.re τ d,h2.2⟩,h3⟩) hE.rows ?_ (Post:=λ_ e w'=>∃v l' B',e=.returned v/\R v l' B'/\TurnAt2 P C own ro pr fStep sx cr rest NE EN i s (m.put i l' B') w' r) ?_ cl cs ?_ ?_
  . intro wc hc;refine Calls.mono (hw wc (h.cut hc) (by obtain⟨τ,d,hc⟩:=hc;exact hc.size)) ?_;intro e w' q;cases e with
    |returned v=>exact⟨wc,hc,q⟩
    |_=>exact q
  . rintro v wc' w' ⟨wc,hc,l',B',k1,k2⟩ hc' _;exact⟨v,l',B',rfl,k2,h.done (h.moved hc k1.1 hc') k1.2⟩
  . rintro _ v w' hp;exact h1 s v w' ⟨rfl,hp⟩
  . rintro _ ch w' ⟨v,l',B',k1,_⟩;cases k1
abbrev zq2u(hP:Plain P A)(hRS:RowsS P A)(C:Core Ml S)(own:Nat->S->O)(ro:Nat->Option Obj)(pr:Nat->Proc S Unit)(fStep:FuncId)(sx:Value)(cr:Frame)(rest:List Frame)(NE EN:List PanicEntry->Prop)(i:Nat)(I:S->Prop):YSys P A C ro i Unit:=(zq56 hP hRS C own ro pr fStep sx cr rest NE EN i).sys I
theorem zqjp(hP:Plain P A)(hRS:RowsS P A){I:S->Prop}(hIo:∀s s',own i s'=own i s->I s->I s'):StepY (zq2u hP hRS C own ro pr fStep sx cr rest NE EN i I) fStep #[sx]:=by
 rintro K s m w ⟨h,hI⟩ cl cs h1 h2;have hE:=h.env.grow h.grow
 let m':TM Ml S:=⟨m,λj=>if j=i then(Proc.tick.bind K (C.st m.l)).2 else s.m₀.at' j,s.room⟩
 have hm':m'.at' i=(Proc.tick.bind K (C.st m.l)).2:=by simp[m']
 have hmo:∀j,j≠i->m'.at' j=s.m₀.at' j:=λj hj=>by simp[m',hj]
 refine h.conts.yield m' cl cs w (h.come _ ⟨rfl,hm',λj hj=>⟨hmo j hj,h.others j hj⟩,rfl,λj hj=>h.oth j hj,rfl⟩) ⟨h.grow.size,h.grow.old,h.grow.grow⟩ ⟨h.rep,λj=>?_⟩ (Nat.le_refl _) ?_
 . show(m'.at' j).DeepO (own j) (s.room+1) (C.st m.l)
   by_cases hj:j=i
   . subst hj;rw[hm'];exact h.deepr
   . rw[hmo j hj];exact(h.deep j hj).own (h.oth j hj)
 . cases hk:s.k with
   |zero=>trivial
   |succ k=>
    intro Kc' X' J' m1 w1 hE1 hSame hRep hleft;obtain⟨hsa,hsb,hsr,hso⟩:=hSame;have hleft':0<m1.room:=hleft;have hat:m1.at' i=(Proc.tick.bind K (C.st m.l)).2:=hsa.trans hm'
    let s':Turn P Ml S:=⟨Kc',X',J',hE1.js,m1,w1,(zq1c C own ro pr).Go i,m1.room - 1,k⟩
    constructor
    . intro hC;refine h1 s' (.tuple #[]) w1 ⟨(),m1.bm,rfl,hsb,?_,hIo _ _ hso hI⟩;have hd:=hRep.2 i;rw[hat]at hd;refine⟨hE1,hC,⟨Nat.le_refl _,λ_ _ _=>rfl,λ_ h=>.inl h⟩,hRep.1,λj _=>?_,?_,λ_ _=>rfl,λ_ _=>rfl,λo ho=>?_⟩
      . exact Tree.DeepO.less (by show m1.room - 1+1<=m1.room+1;omega) (hRep.2 j)
      . have:=hd (C.st m1.bm.l) rfl;exact Tree.DeepO.less (by show m1.room - 1+1<=m1.room;omega) this
      . exact⟨_,_,hat,ho⟩
    . intro ch hch hmain;refine h2 s' ch w1 ?_;refine hmain ⟨m1.bm,m1.at',m1.room - 1⟩ ch w1 hch ⟨rfl,rfl,rfl,rfl⟩ ⟨Nat.le_refl _,λ_ _ _=>rfl,λ_ h=>.inl h⟩ ⟨hRep.1,λj=>?_⟩ (Nat.le_refl _);exact Tree.DeepO.less (by show m1.room - 1+1<=m1.room+1;omega) (hRep.2 j)
theorem zqjo(hP:Plain P A)(hRS:RowsS P A){ti:TypeId}{m₀:TM Ml S}{f:FuncId}{first caps:Array Value}{fn:Func}{c:Code}(hf:P.funcs[f]?=some fn)(hb:fn.body=some c)(hn:(fn.name== "runtime.NumGoroutine")=false)(hpd:∀s,own i s=own i (C.st m₀.bm.l)->∀n,(pr i).DeepO (own i) n s)
 (hspec:∀(st:Nat)(cr:Frame)(rest:List Frame)(EN:List PanicEntry->Prop)(s:Turn P Ml S)(m:BM Ml)(w:World),TurnAt2 P C own ro pr fStep (.pointer (some ⟨st,0,none⟩)) cr rest NE EN i s m w ((pr i).bind Proc.ret (C.st m.l))->own i (C.st m.l)=own i (C.st m₀.bm.l)->
  zq1g P (λ(s:Turn P Ml S)=>s.J) f (first++#[.iface ti (.pointer (some ⟨st,0,none⟩))]++caps) (λs e w=>match e with
   |.returned _=>∃m',TurnAt2 P C own ro pr fStep (.pointer (some ⟨st,0,none⟩)) cr rest NE EN i s m' w (C.st m'.l,.ret ())
   |.panicked ch=>s.J (G (cr.raise ch) rest) w
   |.outgrown=>False) s w):
 Runs P (zq1c C own ro pr) fStep ti NE m₀ i (.func (.func f) first caps):=by
 refine .inr ⟨f,first,caps,fn,c,rfl,hf,hb,hn,?_⟩;intro cr rest st EN k Kc X J m w hE hRep hSame hC
 let s:Turn P Ml S:=⟨Kc,X,J,hE.js,m,w,(zq1c C own ro pr).Start i,m.room,k⟩
 have hAt:TurnAt2 P C own ro pr fStep (.pointer (some ⟨st,0,none⟩)) cr rest NE EN i s m.bm w ((pr i).bind Proc.ret (C.st m.bm.l)):=by
  rw[Proc.bind_pure];exact⟨hE,hC,⟨Nat.le_refl _,λ_ _ _=>rfl,λ_ h=>.inl h⟩,hRep.1,λj _=>hRep.2 j,hpd _ hSame.2.2.2 _,λ_ _=>rfl,λ_ _=>rfl,λo ho=>ho⟩
 refine hspec st cr rest EN s m.bm w hAt hSame.2.2.2 cr rest ?_ ?_
 . rintro s' v w' ⟨m',hA'⟩
   let m'':TM Ml S:=⟨m',λj=>if j=i then .ret ()else s'.m₀.at' j,s'.room⟩
   have hm':m''.at' i=.ret ():=by simp[m'']
   have hmo:∀j,j≠i->m''.at' j=s'.m₀.at' j:=λj hj=>by simp[m'',hj]
   refine hA'.conts.done m'' _ w' (hA'.come _ ⟨rfl,hm',λj hj=>⟨hmo j hj,hA'.others j hj⟩,rfl,λj hj=>hA'.oth j hj,rfl⟩) ⟨hA'.grow.size,hA'.grow.old,hA'.grow.grow⟩ ⟨hA'.rep,λj=>?_⟩ (Nat.le_refl _);show(m''.at' j).DeepO (own j) (s'.room+1) (C.st m'.l)
   by_cases hj:j=i
   . subst hj;rw[hm'];trivial
   . rw[hmo j hj];exact(hA'.deep j hj).own (hA'.oth j hj)
 . intro s' ch w' hD;exact hD
end
end
end Go.Car
def Go.Car.ownE {S1 O1:Type}(oe:Nat->S1->O1)(i:Nat)(s:S1×(Nat->List Go.Car.Ans)):List Go.Car.Ans×O1:=(s.2 i,oe i s.1)
namespace Go.Proofs
open Go Go.Conc Go.RowKit Go.Car
section
variable {M1 S1 O1:Type} {oe:Nat->S1->O1} {C:Core M1 S1} {ro:Nat->Option Obj} {i N ab ob db ib hb:Nat} {sp:Option Addr} {L Cp:Nat} {ops:List OpX} {f:FuncId} {first caps:Array Value} {A:FuncId->Bool} {pr:Nat->Proc (S1×(Nat->List Ans)) Unit} {fStep:FuncId} {sv sx:Value} {cr:Frame} {rest:List Frame} {NE EN:List PanicEntry->Prop} {dop:OpX->Proc (S1×(Nat->List Ans)) Ans}
theorem zqbr(hP:Plain Try.prog A)(hRS:RowsS Try.prog A){fn:Func}{c:Code}(hf:Try.prog.funcs[f]?=some fn)(hb':fn.body=some c)(hnm:(fn.name== "runtime.NumGoroutine")=false)(hR:DoRo ro i N ab ob db ib hb sp L Cp ops f first caps)
 (hdo:∀(o:List Ans)(op:OpX),SpecR (zq2u hP hRS (zqd C (zqw tT ab N)) (ownE oe) ro pr fStep sx cr rest NE EN i (λs=>s.2 i=o)) f (first++#[sv,.int .i64 i,op.val]++caps) (dop op) (AnsV 2))
 (s:Turn Try.prog (M1×AnsM) (S1×(Nat->List Ans))) (m:BM (M1×AnsM)) (w:World) (hA:TurnAt2 Try.prog (zqd C (zqw tT ab N)) (ownE oe) ro pr fStep sx cr rest NE EN i s m w ((opsP i dop ops).bind Proc.ret ((zqd C (zqw tT ab N)).st m.l))) (ho:((zqd C (zqw tT ab N)).st m.l).2 i=[]):
 zq1g Try.prog (λ(s:Turn Try.prog (M1×AnsM) (S1×(Nat->List Ans)))=>s.J) 58 #[sv,.pointer (some ⟨ob,0,none⟩),.pointer (some ⟨db,0,none⟩),.pointer (some ⟨ib,0,none⟩),.pointer (some ⟨hb,0,none⟩)] (λs e w=>match e with
  |.returned _=>∃m',TurnAt2 Try.prog (zqd C (zqw tT ab N)) (ownE oe) ro pr fStep sx cr rest NE EN i s m' w ((zqd C (zqw tT ab N)).st m'.l,.ret ())
  |.panicked ch=>s.J (G (cr.raise ch) rest) w
  |.outgrown=>False) s w:=by
 have hJC:JC Try.prog false (λ(s:Turn Try.prog (M1×AnsM) (S1×(Nat->List Ans)))=>s.J):=((zq56 hP hRS (zqd C (zqw tT ab N)) (ownE oe) ro pr fStep sx cr rest NE EN i).sys (λ_=>True)).jc;refine zq6q (Bd:=λs a w=>a.defers=[]/\∃m',TurnAt2 Try.prog (zqd C (zqw tT ab N)) (ownE oe) ro pr fStep sx cr rest NE EN i s m' w ((zqd C (zqw tT ab N)).st m'.l,.ret ())) hJC Try.func58 rfl ?_ ?_
 . rintro s a w b cl cs todo ⟨hd,m',h⟩ hbf hbk hp;exact hJC.ctl (λw=>stepG_leave hbk hd (by rw[hbf];exact Try.func58) (resultsC_none rfl _ w).1 (resultsC_none rfl _ w).2) (hp _ _ _ ⟨m',h⟩)
 simp only[zqm,Try.ntmps58,List.size_toArray,List.length_cons,List.length_nil,Nat.reduceAdd,Nat.reduceSub,Array.replicate_succ,Array.replicate_zero,List.push_toArray,List.append_toArray,List.nil_append,List.cons_append];have HR:=Lib.hid hR;have HDO:=Lib.hid hdo;have HFN:=Lib.hid (And.intro hf (And.intro hb' hnm));have hA:(zq56 hP hRS (zqd C (zqw tT ab N)) (ownE oe) ro pr fStep sx cr rest NE EN i).sys (λs=>s.2 i=[]) |>.AtB (m.box i) s w ((opsP i dop ops).bind Proc.ret):=⟨m,rfl,hA,ho⟩
 clear hR hdo hf hb' hnm ho;apply YSys.seq0 hA (by kernel_rfl)
 . intro wc hB;have c1:wc.cell? ⟨ob,0,none⟩=some (.slice sp L Cp):=(zq1 (hB.own.rod ob _ HR.out.ob)).trans rfl;go_wp2;exact⟨rfl,Ext1.refl _,rfl⟩
 intro w hA;refine zq2w hJC (zqau hJC (λs a w n=>∃(k:Nat)(o:List Ans)(B:Nat->Option Obj)(x5 x6 x7 x8 x12 x13 x14 x15 x16 x17 x18 x19 x20 x21 x22 x23 x24 x25 x26 x27 x28 x29 x30 x31 x32:Value),k+n=L/\o.length=k/\a=⟨#[sv,.pointer (some ⟨ob,0,none⟩),.pointer (some ⟨db,0,none⟩),.pointer (some ⟨ib,0,none⟩),.pointer (some ⟨hb,0,none⟩),x5,x6,x7,x8,.slice sp L Cp,.int .i64 L,.int .i64 k,x12,x13,x14,x15,x16,x17,x18,x19,x20,x21,x22,x23,x24,x25,x26,x27,x28,x29,x30,x31,x32],[]⟩/\(zq2u hP hRS (zqd C (zqw tT ab N)) (ownE oe) ro pr fStep sx cr rest NE EN i (λs=>s.2 i=o)).AtB B s w ((opsP i dop (ops.drop k)).bind Proc.ret)) L ?_ ?_)
 . exact⟨0,[],_,_,_,_,_,_,_,_,_,_,_,_,_,_,_,_,_,_,_,_,_,_,_,_,_,_,by omega,rfl,rfl,hA⟩
 clear hA;rintro s a w n ⟨k,o,B,x5,x6,x7,x8,x12,x13,x14,x15,x16,x17,x18,x19,x20,x21,x22,x23,x24,x25,x26,x27,x28,x29,x30,x31,x32,hkn,hok,rfl,hA⟩;have HK:=Lib.hid hkn;have HO:=Lib.hid hok;clear hkn hok;cases n with
 |zero=>
  apply YSys.seq0 hA (by kernel_rfl)
  . intro wc hB;go_wp2;exact⟨rfl,Ext1.refl _,rfl⟩
  intro w hA;refine zqq hJC (zq19 hJC rfl ?_);rw[if_neg (by have:=HK.out;simp only[decide_eq_true_eq];omega)];refine zqat hJC ?_;obtain⟨m',_,hA',_⟩:=hA;have e:ops.drop k=[]:=List.drop_eq_nil_of_le (by have:=HR.out.len;have:=HK.out;omega);rw[e]at hA';exact⟨rfl,m',hA'⟩
 |succ n=>
  have hk:(k:Int)<(L:Int):=by have:=HK.out;omega
  have hk0:(0:Int)<=(k:Int):=by omega
  have e1:IntKind.i64.wrap ((k:Int)+1)=((k+1:Nat):Int):=by have:=HR.out.le;rw[IntWalk.i64_in _ (by omega)];omega
  have hkl:k<ops.length:=by have:=HR.out.len;have:=HK.out;omega
  obtain⟨op,hop⟩:∃op,ops[k]?=some op:=⟨_,List.getElem?_eq_getElem hkl⟩;obtain⟨g,off,cur,e,fr,hsp,hg,hcur⟩:=HR.out.ops k op hop;have hdrop:ops.drop k=op::ops.drop (k+1):=by rw[List.drop_eq_getElem_cons hkl,(List.getElem?_eq_some_iff.1 hop).2]
  rw[hdrop,opsP]at hA;rw[Proc.bind_bind]at hA;have HG:=Lib.hid (And.intro hsp (And.intro hg hcur));clear hsp hg hcur hop hkl hdrop;apply YSys.seq0 hA (by kernel_rfl)
  . intro wc hB;go_wp2;exact⟨rfl,Ext1.refl _,rfl⟩
  intro w hA;refine zqq hJC (zq19 hJC rfl (zq1s hJC ?_));show wpJ (λ(s:Turn Try.prog (M1×AnsM) (S1×(Nat->List Ans)))=>s.J) _ _ _ _ _;refine zqq hJC (zq2w hJC ?_);refine YSys.seqX (λt B'=>∃(b7:Nat)(y5 y6 y8 y12 y13 y14 y15 y16 y17 y18 y19 y20 y21 y22 y23 y24 y25 y26 y27 y28 y29 y30 y31 y32:Value),t=#[sv,.pointer (some ⟨ob,0,none⟩),.pointer (some ⟨db,0,none⟩),.pointer (some ⟨ib,0,none⟩),.pointer (some ⟨hb,0,none⟩),y5,y6,.pointer (some ⟨b7,0,none⟩),y8,.slice sp L Cp,.int .i64 L,.int .i64 k,y12,y13,y14,y15,y16,y17,y18,y19,y20,y21,y22,y23,y24,y25,y26,y27,y28,y29,y30,y31,y32]/\B b7=none/\B'=upB B b7 (.cells op.cells.toArray 44)) hA (by kernel_rfl) ?_ ?_
  . intro wc hB X0 hX0;have HX0:=Lib.hid hX0;clear hX0;have hm:=OMoved.push (o:=.cells op.cells.toArray 44) hB.own (Ext1.alloc wc (.cells op.cells.toArray 44)) (Nat.le_refl _) (by rw[zqc];simp);have hf:=hB.own.fresh (Nat.le_refl _);have HM:=Lib.hid (And.intro hm hf);clear hm hf;have hgw:=hB.own.rod g _ HG.out.2.1;have hc0:wc.cell? ⟨g,off+k*4,none⟩=some (.int .i64 op.k):=(zq1 hgw).trans (HG.out.2.2 0 (by decide));have hc1:wc.cell? ⟨g,off+k*4+1,none⟩=some (.int .i64 op.a):=(zq1 hgw).trans (HG.out.2.2 1 (by decide));have hc2:wc.cell? ⟨g,off+k*4+2,none⟩=some (.int .i64 op.b):=(zq1 hgw).trans (HG.out.2.2 2 (by decide));have hc3:wc.cell? ⟨g,off+k*4+3,none⟩=some (.int .i64 op.c):=(zq1 hgw).trans (HG.out.2.2 3 (by decide));clear hgw;rw[HG.out.1];go_wp2;rw[<-HG.out.1];exact⟨rfl,HX0.out _ _ _ HM.out.1 ⟨_,_,_,_,_,_,_,_,_,_,_,_,_,_,_,_,_,_,_,_,_,_,_,_,_,rfl,HM.out.2,rfl⟩⟩
  clear hA;rintro _ _ w ⟨b7,y5,y6,y8,y12,y13,y14,y15,y16,y17,y18,y19,y20,y21,y22,y23,y24,y25,y26,y27,y28,y29,y30,y31,y32,rfl,hb7,rfl⟩ hA;refine YSys.seqX (λt B'=>∃(b8:Nat)(z5 z6 z12 z13 z14 z15 z16 z17 z18 z19 z20 z21 z22 z23 z24 z25 z26 z27 z28 z29 z30 z31 z32:Value),t=#[sv,.pointer (some ⟨ob,0,none⟩),.pointer (some ⟨db,0,none⟩),.pointer (some ⟨ib,0,none⟩),.pointer (some ⟨hb,0,none⟩),z5,z6,.pointer (some ⟨b7,0,none⟩),.pointer (some ⟨b8,0,none⟩),.slice sp L Cp,.int .i64 L,.int .i64 k,z12,z13,z14,z15,z16,z17,z18,z19,z20,z21,z22,z23,z24,z25,z26,z27,z28,z29,z30,z31,z32]/\upB B b7 (.cells op.cells.toArray 44) b8=none/\B'=upB (upB B b7 (.cells op.cells.toArray 44)) b8 (.cells #[.bool false,.int .i64 0,.slice none 0 0] 48)) hA (by kernel_rfl) ?_ ?_
  . intro wc hB X0 hX0;have HX0:=Lib.hid hX0;clear hX0;have hm:=OMoved.push (o:=.cells #[.bool false,.int .i64 0,.slice none 0 0] 48) hB.own (Ext1.alloc wc (.cells #[.bool false,.int .i64 0,.slice none 0 0] 48)) (Nat.le_refl _) (by rw[zqc];simp);have hf:=hB.own.fresh (Nat.le_refl _);have HM:=Lib.hid (And.intro hm hf);clear hm hf;go_wp2;exact⟨rfl,HX0.out _ _ _ HM.out.1 ⟨_,_,_,_,_,_,_,_,_,_,_,_,_,_,_,_,_,_,_,_,_,_,_,_,rfl,HM.out.2,rfl⟩⟩
  clear hA;rintro _ _ w ⟨b8,z5,z6,z12,z13,z14,z15,z16,z17,z18,z19,z20,z21,z22,z23,z24,z25,z26,z27,z28,z29,z30,z31,z32,rfl,hb8,rfl⟩ hA;have h7:upB (upB B b7 (.cells op.cells.toArray 44)) b8 (.cells #[.bool false,.int .i64 0,.slice none 0 0] 48) b7=some (.cells op.cells.toArray 44):=zq58 (upB_same _ _ _) (zq7z (upB_same _ _ _) hb8);have h8:upB (upB B b7 (.cells op.cells.toArray 44)) b8 (.cells #[.bool false,.int .i64 0,.slice none 0 0] 48) b8=some (.cells #[.bool false,.int .i64 0,.slice none 0 0] 48):=upB_same _ _ _;have hB8:B b8=none:=Classical.byContradiction λh=>by
   cases ho:B b8 with
   |none=>exact h ho
   |some o=>rw[zq57 (o:=.cells op.cells.toArray 44) hb7 b8 o ho]at hb8;cases hb8
  have hle:∀x y,B x=some y->upB (upB B b7 (.cells op.cells.toArray 44)) b8 (.cells #[.bool false,.int .i64 0,.slice none 0 0] 48) x=some y:=zq2v (zq57 (o:=.cells op.cells.toArray 44) hb7) hB8;obtain⟨B1,hB1⟩:∃X,upB (upB B b7 (.cells op.cells.toArray 44)) b8 (.cells #[.bool false,.int .i64 0,.slice none 0 0] 48)=X:=⟨_,rfl⟩;rw[hB1]at h7 h8 hle hA;have H7:=Lib.hid h7;have H8:=Lib.hid h8;have HLE:=Lib.hid hle;have HN:=Lib.hid hB8;clear h7 h8 hle hB1 hb7 hb8 hB8;refine zqq hJC ?_;apply YSys.seq0 hA (by kernel_rfl)
  . intro wc hB;have c2:wc.cell? ⟨db,0,none⟩=some (.func (.func f) first caps):=(zq1 (hB.own.rod db _ HR.out.db)).trans rfl;go_wp2;exact⟨rfl,Ext1.refl _,rfl⟩
  intro w hA;refine zq19 hJC rfl ?_;rw[if_pos rfl];refine zq12 hJC ?_;apply YSys.pre0 0 4 2 hA rfl rfl rfl rfl
  . intro wc hB X hX;have HX:=Lib.hid hX;clear hX;have c2:wc.cell? ⟨db,0,none⟩=some (.func (.func f) first caps):=(zq1 (hB.own.rod db _ HR.out.db)).trans rfl;have c3:wc.cell? ⟨ib,0,none⟩=some (.int .i64 i):=(zq1 (hB.own.rod ib _ HR.out.ib)).trans rfl;have k7:=hB.own.box b7 _ H7.out;have c70:wc.cell? ⟨b7,0,none⟩=some (.int .i64 op.k):=(zq1 k7).trans rfl;have c71:wc.cell? ⟨b7,1,none⟩=some (.int .i64 op.a):=(zq1 k7).trans rfl;have c72:wc.cell? ⟨b7,2,none⟩=some (.int .i64 op.b):=(zq1 k7).trans rfl;have c73:wc.cell? ⟨b7,3,none⟩=some (.int .i64 op.c):=(zq1 k7).trans rfl;clear k7;go_wp2;exact HX.out _ (Ext1.refl _)
  intro w hA;have hnm':¬fn.name= "runtime.NumGoroutine" :=by simpa using HFN.out.2.2
  have hf:=HFN.out.1;have hb':=HFN.out.2.1;refine YSys.callO (HDO.out o op _ s B1 w (λ_=>trivial) hA) rfl rfl rfl ?_ ?_ ?_
  . intro w;simp[go_sem,execOp,Act.eval,resolve,Deferred.ofValue,invoke,callFunc,hf,hb',hnm',OpX.val]
  . intro w;simp[go_sem,execOp,Act.eval,resolve,Deferred.ofValue,invoke,callFunc,hf,hb',hnm',OpX.val]
  clear hnm' hf hb' hA;intro s e' w hp;cases e' with
  |outgrown=>exact hp
  |panicked ch=>exact⟨rfl,hp⟩
  |returned v=>
  obtain⟨a,X,⟨sl,rfl,hsl⟩,hXB,hA⟩:=hp;have hX8:X b8=none:=Classical.byContradiction λh=>by
   have:=hXB b8 h;rw[H8.out]at this;cases this
  have h8':orB X B1 b8=some (.cells #[.bool false,.int .i64 0,.slice none 0 0] 48):=by simp[orB,hX8,H8.out]
  have H8':=Lib.hid h8';clear h8';refine YSys.opsX 5 1 (λt B'=>∃(u5 u6 u12 u13 u14 u15 u16 u17 u18 u19 u20 u21 u22 u23 u24 u25 u26 u27 u28 u29 u30 u31 u32:Value),t=#[sv,.pointer (some ⟨ob,0,none⟩),.pointer (some ⟨db,0,none⟩),.pointer (some ⟨ib,0,none⟩),.pointer (some ⟨hb,0,none⟩),u5,u6,.pointer (some ⟨b7,0,none⟩),.pointer (some ⟨b8,0,none⟩),.slice sp L Cp,.int .i64 L,.int .i64 k,u12,u13,u14,u15,u16,u17,u18,u19,u20,u21,u22,u23,u24,u25,u26,u27,u28,u29,u30,u31,u32]/\B'=upB (orB X B1) b8 (.cells #[.bool a.ok,.int .i64 a.n,sl] 48)) hA rfl rfl (by kernel_rfl) ?_ ?_
  . intro wc hB X0 hX0;have HX0:=Lib.hid hX0;clear hX0;have hm:=OMoved.set3 (o1:=0) (o2:=1) (o3:=2) hB.own H8'.out (.bool a.ok) (.int .i64 a.n) sl;have HM:=Lib.hid hm;have k8:=hB.own.box b8 _ H8'.out;have c80:wc.cell? ⟨b8,0,none⟩=some (.bool false):=(zq1 k8).trans rfl;have c81:wc.cell? ⟨b8,1,none⟩=some (.int .i64 0):=(zq1 k8).trans rfl;have c82:wc.cell? ⟨b8,2,none⟩=some (.slice none 0 0):=(zq1 k8).trans rfl;have f80:wc.frozen? ⟨b8,0,none⟩=false:=zqh k8;have f81:wc.frozen? ⟨b8,1,none⟩=false:=zqh k8;have f82:wc.frozen? ⟨b8,2,none⟩=false:=zqh k8;obtain⟨sa,sn,sc,hsl'⟩:∃sa sn sc,sl=.slice sa sn sc:=by rcases hsl.2 with⟨h,_⟩|⟨_,_,_,h,_⟩<;>exact⟨_,_,_,h⟩
    clear hm k8 hX8 hA hXB hsl;subst hsl';go_wp2;exact⟨rfl,HX0.out _ _ _ HM.out ⟨_,_,_,_,_,_,_,_,_,_,_,_,_,_,_,_,_,_,_,_,_,_,_,rfl,rfl⟩⟩
  clear hA;rintro _ _ w ⟨u5,u6,u12,u13,u14,u15,u16,u17,u18,u19,u20,u21,u22,u23,u24,u25,u26,u27,u28,u29,u30,u31,u32,rfl,rfl⟩ hA;show wpJ (λ(s:Turn Try.prog (M1×AnsM) (S1×(Nat->List Ans)))=>s.J) _ _ _ _ _;replace hA:(zq2u hP hRS (zqd C (zqw tT ab N)) (ownE oe) ro pr fStep sx cr rest NE EN i (λs=>s.2 i=o)).AtB _ s w (((pushP i a).bind λ_=>opsP i dop (ops.drop (k+1))).bind Proc.ret):=hA;rw[Proc.bind_bind]at hA;obtain⟨m,hmB,hA⟩:=hA;refine Alone.actS (zq56 hP hRS (zqd C (zqw tT ab N)) (ownE oe) ro pr fStep sx cr rest NE EN i) (I:=λs=>s.2 i=o) (I':=λs=>s.2 i=o++[a]) (g:=λs=>((s.1,upd' s.2 i (s.2 i++[a])),())) (K:=λ_=>(opsP i dop (ops.drop (k+1))).bind Proc.ret) (λt B'=>(∃(v5 v6 v7 v8 v12 v13 v14 v15 v16 v17 v18 v19 v20 v21 v22 v23 v24 v25 v26 v27 v28 v29 v30 v31 v32:Value),t=#[sv,.pointer (some ⟨ob,0,none⟩),.pointer (some ⟨db,0,none⟩),.pointer (some ⟨ib,0,none⟩),.pointer (some ⟨hb,0,none⟩),v5,v6,v7,v8,.slice sp L Cp,.int .i64 L,.int .i64 k,v12,v13,v14,v15,v16,v17,v18,v19,v20,v21,v22,v23,v24,v25,v26,v27,v28,v29,v30,v31,v32])/\B'=B) hA (by kernel_rfl) (λs h=>by show upd' s.2 i _ i=_;rw[upd'_same,show s.2 i=o from h]) (λs j hj=>by show(upd' s.2 i _ j,oe j s.1)=(s.2 j,oe j s.1);rw[zqx _ _ hj]) ?_ ?_
  . intro wc hBR hown X0 hX0;have HX0:=Lib.hid hX0;clear hX0;have hst:m.l.2.st i=o:=hown;have hYB:∀b y,X b=some y->m.box i b=some y:=λb y hb=>by
     rw[hmB];exact zq58 (by simp[orB,hb]) (λe=>by subst e;rw[hX8]at hb;cases hb)
    have hBB:∀b y,B b=some y->m.box i b=some y:=λb y hb=>by
     have h1:=HLE.out b y hb;have h2:X b=none:=Classical.byContradiction λh=>by rw[hXB b h]at h1;cases h1
     rw[hmB];exact zq58 (by simp[orB,h2,h1]) (λe=>by subst e;rw[HN.out]at hb;cases hb)
    have hYn:∀b,X b≠none->B b=none:=λb hb=>Classical.byContradiction λh=>by
     cases ho:B b with
     |none=>exact h ho
     |some y=>have:=HLE.out b y ho;rw[hXB b hb]at this;cases this
    have hor:∀b,(orB X B1 b≠none->m.box i b≠none):=λb hb=>by
     rw[hmB]
     by_cases e:b=b8
     . subst e;simp
     . rw[zq26 _ _ e];exact hb
    obtain⟨ti,hti,hz0,hz1,hz2⟩:∃ti,Try.prog.info? 48=some ti/\ti.zero=some (.agg #[.bool false,.int .i64 0,.slice none 0 0])/\ti.size=3/\ti.bytes=40:=⟨_,rfl,rfl,rfl,rfl⟩;obtain⟨g2,cap,w2,m',hrun,hold,hst',hmv⟩:=ans_push (P:=Try.prog) hBR HR.out.lt 56 56 ti _ (by kernel_rfl) hti hz0 hz1 hz2 (by rfl) hsl hYB hBB hYn (by rw[hst];have:=HO.out;have:=HK.out;have:=HR.out.le;omega) wc.tape (wc.drawn+1);rw[hst]at hrun hmv hst';have k8:wc.heap[b8]?=some (.cells #[.bool a.ok,.int .i64 a.n,sl] 48):=hBR.box i b8 _ (by rw[hmB];exact upB_same _ _ _);have hX8f:m.l.2.X i b8=none:=Classical.byContradiction λh=>hBR.apart i b8 (by rw[hmB,upB_same];simp) (.inr (.inr ⟨i,HR.out.lt,h⟩));have hD:=hBR.core.2.1;have kab:wc.heap[ab]?=some (.cells ((List.range N).map m.l.2.hv).toArray 56):=hD.hd;have hXab:=hD.nab i HR.out.lt;have khb:=hBR.rod hb _ HR.out.hb;have hXhb:m.l.2.X i hb=none:=Classical.byContradiction λh=>hBR.rol hb (by rw[HR.out.hb];simp) (.inr (.inr ⟨i,HR.out.lt,h⟩));have kib:=hBR.rod ib _ HR.out.ib;have hXib:m.l.2.X i ib=none:=Classical.byContradiction λh=>hBR.rol ib (by rw[HR.out.ib];simp) (.inr (.inr ⟨i,HR.out.lt,h⟩));obtain⟨hv,hhv⟩:∃hv,m.l.2.hv i=hv:=⟨_,rfl⟩;have hvi:(((List.range N).map m.l.2.hv).toArray)[i]?=some hv:=by simp[HR.out.lt,hhv]
    obtain⟨sa,sn,sc,hsl'⟩:∃sa sn sc,sl=.slice sa sn sc:=by rcases hsl.2 with⟨h,_⟩|⟨_,_,_,h,_⟩<;>exact⟨_,_,_,h⟩
    obtain⟨va,vn,vc,hv'⟩:∃va vn vc,hv=.slice va vn vc:=by
     obtain⟨_,_,_,hr,_⟩:=hD.row i HR.out.lt;rw[hhv]at hr;rcases hr.2 with⟨h,_⟩|⟨_,_,_,h,_⟩<;>exact⟨_,_,_,h⟩
    rw[hhv]at hrun;obtain⟨W0,hW0⟩:∃W0,Car.re wc wc.tape (wc.drawn+1)=W0:=⟨_,rfl⟩;obtain⟨H,hH⟩:∃H,wc.heap.size=H:=⟨_,rfl⟩;rw[hW0,hH]at hrun;have hWs:∀W,W=W0\/W=W0.alloc (.cells #[.bool a.ok,.int .i64 a.n,sl] 48)\/W=w2->∀b,b<H->m.l.2.X i b=none->W.heap[b]?=wc.heap[b]?:=by
     rintro W (rfl |rfl |rfl) b hb hx
     . rw[<-hW0];rfl
     . rw[zqc,if_neg (by rw[<-hW0];show b≠wc.heap.size;omega),<-hW0];rfl
     . exact hold b (by omega) hx
    have hcell:∀W,W=W0\/W=W0.alloc (.cells #[.bool a.ok,.int .i64 a.n,sl] 48)\/W=w2->(W.cell? ⟨hb,0,none⟩=some (.slice (some ⟨ab,0,none⟩) N N)/\W.cell? ⟨ib,0,none⟩=some (.int .i64 i)/\W.cell? ⟨ab,i,none⟩=some hv/\W.cell? ⟨b8,0,none⟩=some (.bool a.ok)/\W.cell? ⟨b8,1,none⟩=some (.int .i64 a.n)/\W.cell? ⟨b8,2,none⟩=some sl)/\W.frozen? ⟨ab,i,none⟩=false:=by
     intro W hW;have e1:=(hWs W hW hb (by rw[<-hH];exact zqs khb) hXhb).trans khb;have e2:=(hWs W hW ib (by rw[<-hH];exact zqs kib) hXib).trans kib;have e3:=(hWs W hW ab (by rw[<-hH];exact zqs kab) hXab).trans kab;have e4:=(hWs W hW b8 (by rw[<-hH];exact zqs k8) hX8f).trans k8;exact⟨⟨(zq1 e1).trans rfl,(zq1 e2).trans rfl,(zq1 e3).trans hvi,(zq1 e4).trans rfl,(zq1 e4).trans rfl,(zq1 e4).trans rfl⟩,zqh e3⟩
    have HC:=Lib.hid hcell;have hi0:(0:Int)<=(i:Int):=by omega
    have hiN:(i:Int)<(N:Int):=by have:=HR.out.lt;omega
    have HMV:=Lib.hid (And.intro hmv hst');have HRUN:=Lib.hid hrun;have HST:=Lib.hid hst;have HWs:=Lib.hid (And.intro hW0 hH);have hiN':i<N:=HR.out.lt;have HIN:=Lib.hid hiN';clear hcell hWs hvi kib khb kab k8 hX8f hXab hXhb hXib hD hold hst' hmv hti hz0 hz1 hz2 hor hYn hBB hYB hst hown hA hX8 hXB hsl hrun hW0 hH hiN';subst hsl' hv';refine zqjy (k:=10) (s:=7) (t:=8) (W0:=W0) (W1:=W0.alloc (.cells #[.bool a.ok,.int .i64 a.n,.slice sa sn sc] 48)) (W2:=w2) (by kernel_rfl) (by kernel_rfl) (by kernel_rfl) (by kernel_rfl) (by decide) (by decide) (by decide) (by kernel_rfl)
     [.slice (some ⟨ab,0,none⟩) N N,.int .i64 i,.slice (some ⟨ab,0,none⟩) N N,.int .i64 i,.pointer (some ⟨ab,i,none⟩),.slice va vn vc,.agg #[.bool a.ok,.int .i64 a.n,.slice sa sn sc],.slice (some ⟨H,0,none⟩) 1 1,.slice (some ⟨g2,0,none⟩) (o.length+1) cap,.pointer (some ⟨ab,i,none⟩)] rfl HWs.out.1.symm ?_ ?_ ?_ ?_
    . intro j oo hj hj7 hj8 hoo W hWW;obtain⟨⟨d1,d2,d3,d4,d5,d6⟩,_⟩:=HC.out W hWW;clear hWW;simp only[putv,dstOf,al_gl,al_g0,al_g1,al_ob,al_g2,List.set_cons_succ,List.set_cons_zero];obtain rfl |rfl |rfl |rfl |rfl |rfl |rfl |rfl:j=0\/j=1\/j=2\/j=3\/j=4\/j=5\/j=6\/j=9:=by omega
      all_goals(simp only[al_gl,al_g0,al_g1,al_oi]at hoo;subst hoo;refine .inl ?_)
      all_goals(simp only[execOp,Act.eval,al_gd,al_gl,al_g0,al_g1,al_od])
      all_goals(try go_simp)
    . intro oo hoo;simp only[putv,dstOf,al_gl,al_g0,al_g1,al_ob,al_g2,List.set_cons_succ,List.set_cons_zero];simp only[al_gl,al_g0,al_g1,al_oi]at hoo;subst hoo;refine .inl ?_;have hs0:W0.heap.size=H:=by rw[<-HWs.out.1];exact HWs.out.2
      simp only[execOp,Act.eval,al_gd,al_gl,al_g0,al_g1,al_od];go_simp
    . intro oo hoo;have hrun:(Builtin.append_ #[56,56] 56 #[.slice va vn vc,.slice (some ⟨H,0,none⟩) 1 1]).run Try.prog (W0.alloc (.cells #[.bool a.ok,.int .i64 a.n,.slice sa sn sc] 48))=.ok (.slice (some ⟨g2,0,none⟩) (o.length+1) cap) w2:=HRUN.out;simp only[putv,dstOf,al_gl,al_g0,al_g1,al_ob,al_g2,List.set_cons_succ,List.set_cons_zero];simp only[al_gl,al_g0,al_g1,al_oi]at hoo;subst hoo;refine .inl ?_;unfold execOp;simp only[resolve,invoke,builtin,Sem.run_bind,Sem.run_pure,Result.andThen_ok,List.map_toArray,List.map_cons,List.map_nil,Act.eval,al_gd,al_gl,al_g0,al_g1,al_od,hrun];rfl
    simp only[putv,dstOf,al_gl,al_g0,al_g1,al_ob,al_g2,List.set_cons_succ,List.set_cons_zero];obtain⟨⟨_,_,d3,_,_,_⟩,d7⟩:=HC.out w2 (.inr (.inr rfl));refine zq46 (i:=10) (by kernel_rfl) ?_;simp only[wpOp,al_gl,al_g0,al_g1];rw[if_pos (by rfl)];refine .inl ?_;go_simp;refine zq45 (by kernel_rfl) ?_;refine⟨rfl,HX0.out _ _ _ _ (HMV.out.1 w2.tape w2.drawn) ?_ ⟨⟨_,_,_,_,_,_,_,_,_,_,_,_,_,_,_,_,_,_,_,_,_,_,_,_,_,rfl⟩,rfl⟩⟩;show(C.st m.l.1,m'.st)=(C.st m.l.1,upd' m.l.2.st i (m.l.2.st i++[a]));rw[HMV.out.2,HST.out]
  rintro _ m' w ⟨⟨v5,v6,v7,v8,v12,v13,v14,v15,v16,v17,v18,v19,v20,v21,v22,v23,v24,v25,v26,v27,v28,v29,v30,v31,v32,rfl⟩,hB'⟩ hA;replace hA:(zq2u hP hRS (zqd C (zqw tT ab N)) (ownE oe) ro pr fStep sx cr rest NE EN i (λs=>s.2 i=o++[a])).AtB B _ w ((opsP i dop (ops.drop (k+1))).bind Proc.ret):=⟨m',hB',hA⟩;show wpJ (λ(s:Turn Try.prog (M1×AnsM) (S1×(Nat->List Ans)))=>s.J) _ _ _ _ _;apply YSys.code0 hA (by kernel_rfl)
  . intro wc hB;go_wp2;exact⟨rfl,Ext1.refl _,rfl⟩
  intro w hA;exact⟨n,by omega,k+1,o++[a],B,_,_,_,_,_,_,_,_,_,_,_,_,_,_,_,_,_,_,_,_,_,_,_,_,_,by have:=HK.out;omega,by have:=HO.out;simp;omega,rfl,hA⟩
end
end Go.Proofs
namespace Go.Car
open Go
section
variable {Ml S O:Type} {C:Core Ml S} {own:Nat->S->O} {ro:Nat->Option Obj} {pr:Nat->Proc S Unit}
theorem begun_T2{m₀:TM Ml S}(h0:m₀.at'=λ_=>.ret ()){s:Nat}{m:TM Ml S}{ov brk:Nat->Bool}(h:Begun (zq1c C own ro pr) m₀ s m ov brk):SameT C ⟨m,ov,brk,[]⟩ (zq22 pr (C.st m₀.bm.l) s):=by
 induction h with
 |zero=>exact⟨rfl,h0,rfl,λ_=>rfl,rfl⟩
 |succ h ht ih=>
  rename_i s m ov brk m' ov' brk';obtain⟨h1,h2,h3,h4,h5⟩:=ih;simp only at h1 h2 h3 h4 h5;obtain⟨e1,e2,e3,e4⟩:=turned_T (C:=C) (own:=own) (r:=pr s (zq22 pr (C.st m₀.bm.l) s).s) (room:=m.room) (λo ho=>by rw[<-h1];exact ho) ht h4;exact⟨e1,by rw[zq22,turnT];simp only;rw[e2,h2],by rw[zq22,turnT];simp only;rw[e3,h3],e4,by rw[zq22,turnT];exact h5⟩
theorem step1_T2{N most:Nat}{x:Int}{a b:OSt (TM Ml S)}{s:TSt S}(h:Step1 (zq1c C own ro pr) N most x a b)(hs:SameT C a s):SameT C b (zq52 N most x s):=by
 obtain⟨h1,h2,h3,h4,h5⟩:=hs;cases h with
 |not hn=>
  rw[h3,h5]at hn;unfold zq52;rw[if_pos hn];exact⟨h1,h2,h3,h4,h5⟩
 |go i hx hi ho hm ht=>
  subst hx;rename_i m' ov' brk';have hn:¬((i:Int)<0\/(N:Int)<=i\/s.ov (i:Int).toNat=true\/s.ord.length=most):=by
   rw[<-h3,<-h5];rintro(e|e|e|e)
   . omega
   . omega
   . rw[Int.toNat_natCast,ho]at e;cases e
   . exact hm e
  unfold zq52;rw[if_neg hn,Int.toNat_natCast];obtain⟨e1,e2,e3,e4⟩:=turned_T (C:=C) (own:=own) (r:=goT (s.t i) s.s) (room:=a.m.room - 1) (λo ho=>by
   obtain⟨u,k,hk,hc⟩:=ho;rw[h2]at hk;rw[hk,<-h1];exact hc) ht h4
  exact⟨e1,by simp only[turnT];rw[e2,h2],by simp only[turnT];rw[e3,h3],e4,by simp only[turnT];rw[h5]⟩
theorem zq9a{N most:Nat}{l:List Int}{a b:OSt (TM Ml S)}(h:StepsR (zq1c C own ro pr) N most l a b):∀{s:TSt S},SameT C a s->SameT C b (stepsT N most l s):=by
 induction h with
 |nil a=>exact λhs=>hs
 |cons h1 h2 ih=>exact λhs=>ih (step1_T2 h1 hs)
theorem zqe4{N most:Nat}{a b:OSt (TM Ml S)}(h:zq31 (zq1c C own ro pr) N most a b):∀(f:Nat){s:TSt S},most<f+a.ord.length->SameT C a s->SameT C b (zq3y N most f s):=by
 induction h with
 |stop a hn=>
  intro f s hf hs;cases f with
  |zero=>exact hs
  |succ f=>
   unfold zq3y;rw[if_neg (by rw[<-hs.ov,<-hs.ord];exact hn)];exact hs
 |more hgo hst hr ih=>
  rename_i a b c;intro f s hf hs;cases f with
  |zero=>have:=hgo.2;omega
  |succ f=>
   unfold zq3y;rw[if_pos (by rw[<-hs.ov,<-hs.ord];exact hgo)];obtain⟨i,hi,ho⟩:=zq7p hgo.1;have:=hst.progress hi (mem_upto hi) ho hgo.2;exact ih f (by omega) (zq9a hst hs)
theorem ran_T2{N most:Nat}{l:List Int}{m₀ m':TM Ml S}{b:OSt (TM Ml S)}(h0:m₀.at'=λ_=>.ret ())(h:Ran (zq1c C own ro pr) N l most m₀ b m'):SameT C b (playT pr N most l (C.st m₀.bm.l))/\C.st m'.bm.l=C.st b.m.bm.l:=by
 obtain⟨⟨m₁,ov₁,brk₁,a,h1,h2,h3⟩,h4⟩:=h;refine⟨zqe4 h3 _ (by omega) (zq9a h2 (begun_T2 h0 h1)),?_⟩;have:∀n m,Go.Car.Ends (zq1c C own ro pr) b.ov b.m n m->C.st m.bm.l=C.st b.m.bm.l:=by
  intro n m h
  induction h with
  |zero=>rfl
  |over h _ ih=>exact ih
  |kill h _ hk ih=>exact hk.1.trans ih
 exact this _ _ h4
end
end Go.Car
namespace Go.Proofs
open Go Go.Conc Go.RowKit Go.Car
section
variable {M1 S1 O1:Type} {oe:Nat->S1->O1} {C:Core M1 S1} {RP:Nat->Option Obj} {l₀:M1} {w wa w1 w2:World} {N n most:Nat} {sp:Nat->Option Addr} {L Cp:Nat->Nat} {ob ib:Nat->Nat} {dv fv v:Value} {pr:Nat->Proc (S1×(Nat->List Ans)) Unit} {sched:List Int} {b:OSt (TM (M1×AnsM) (S1×(Nat->List Ans)))} {m':TM (M1×AnsM) (S1×(Nat->List Ans))} {g:Nat}
theorem zqdl{ro:Nat->Option Obj}{ab:Nat}{room:Nat}(h:BRep (zqd C (zqw tT ab N)) ro ⟨(l₀,ans0),λ_ _=>none⟩ w1):(zq1c (zqd C (zqw tT ab N)) (ownE oe) ro pr).Rep (mOps l₀ room) w1:=⟨h,λi=>trivial⟩
theorem zq4w{ro:Nat->Option Obj}{ab room x:Nat}(h:(zq1c (zqd C (zqw tT ab N)) (ownE oe) ro pr).foot (mOps l₀ room) x):C.foot l₀ x\/x=ab\/ro x≠none:=by
 rcases h with(h|h|⟨i,hi,h⟩)|⟨i,h⟩|h
 . exact .inl h
 . exact .inr (.inl h)
 . exact absurd rfl h
 . exact absurd rfl h
 . exact .inr (.inr h)
theorem ops_res2(hR:DRes wa N dv sp L Cp N ob ib fv w1)(hb:BRep C RP ⟨l₀,λ_ _=>none⟩ wa){room:Nat}
 (ho:Over1 (zq1c (zqd C (zqw tT (wa.heap.size+1) N)) (ownE oe) (roOf RP wa.heap.size N ob ib w1) pr) N most sched (mOps l₀ room) w1 b m' v g w2):
 OpsRes C N l₀ wa (playT pr N most sched (C.st l₀,λ_=>[])) (wa.heap.size+1) v m'.bm.l.1 m'.bm.l.2 w2/\leftN b.ov N=leftN (playT pr N most sched (C.st l₀,λ_=>[])).ov N:=by
 obtain⟨hs,he⟩:=ran_T2 (m₀:=mOps l₀ room) rfl ho.ran;have hs0:(zqd C (zqw tT (wa.heap.size+1) N)).st (mOps (S1:=S1) l₀ room).bm.l=(C.st l₀,λ_=>[]):=rfl;rw[hs0]at hs;have hst:(C.st m'.bm.l.1,m'.bm.l.2.st)=(playT pr N most sched (C.st l₀,λ_=>[])).s:=he.trans hs.st;have hB:=ho.rep.1;have hsz:=hR.size;have hsz2:=ho.size;have hrl:∀x o,RP x=some o->x<wa.heap.size:=λx o h=>zqs (hb.rod x o h);have hrn:∀x,roOf RP wa.heap.size N ob ib w1 x≠none->RP x≠none\/wa.heap.size<=x:=λx h=>by
  cases hx:roOf RP wa.heap.size N ob ib w1 x with
  |none=>exact absurd hx h
  |some o=>
   rcases zq3x hx with h|⟨h,_⟩
   . exact .inl (by rw[h];simp)
   . right
     rcases h with h|h|⟨i,hi,h⟩
     . omega
     . omega
     . have:=hR.lo i hi;rcases h with h|h<;>omega
 have hfn:∀x,(zq1c (zqd C (zqw tT (wa.heap.size+1) N)) (ownE oe) (roOf RP wa.heap.size N ob ib w1) pr).foot m' x->roOf RP wa.heap.size N ob ib w1 x=none->C.foot l₀ x\/wa.heap.size<=x:=λx h hn=>by
  rcases ho.foot x h with h|h
  . rcases zq4w h with h|h|h
    . exact .inl h
    . exact .inr (by omega)
    . exact absurd hn h
  . exact .inr (by omega)
 have hcr:∀x,C.foot m'.bm.l.1 x->roOf RP wa.heap.size N ob ib w1 x=none:=λx h=>Classical.byContradiction λy=>hB.rol x y (.inl h);refine⟨⟨hB.core.1,congrArg Prod.fst hst,hB.core.2.1,congrArg Prod.snd hst,by omega,λx hx hf=>?_,λx hx=>hfn x (.inl (.inl hx)) (hcr x hx),by omega,λi x hi hx=>hfn x (.inl (.inr (.inr ⟨i,hi,hx⟩))) (Classical.byContradiction λy=>hB.rol x y (.inr (.inr ⟨i,hi,hx⟩))),λx hx=>?_,?_,λx hx=>?_⟩,?_⟩
 . by_cases hro:roOf RP wa.heap.size N ob ib w1 x=none
   . refine(ho.old x (by omega) λh=>?_).trans (hR.old x hx);rcases zq4w h with h|h|h
     . exact hf h
     . omega
     . exact h hro
   . cases hx2:roOf RP wa.heap.size N ob ib w1 x with
     |none=>exact absurd hx2 hro
     |some o=>
      rw[hB.rod x o hx2];rcases zq3x hx2 with h|⟨h,_⟩
      . exact(hb.rod x o h).symm
      . exfalso;rcases h with h|h|⟨i,hi,h⟩
        . omega
        . omega
        . have:=hR.lo i hi;rcases h with h|h<;>omega
 . have h:=hB.core.2.2 x hx;exact⟨λe=>h (.inl e),λi hi=>Classical.byContradiction λy=>h (.inr ⟨i,hi,y⟩)⟩
 . have:=ho.row;rw[hs.ord]at this;exact zq3u this (by omega)
 . have h:=(ho.rowf x hx).1;exact⟨λy=>h (.inl (.inl y)),λe=>h (.inl (.inr (.inl e))),λi hi=>Classical.byContradiction λy=>h (.inl (.inr (.inr ⟨i,hi,y⟩)))⟩
 . exact zq7n λi _=>by rw[hs.ov]
end
theorem zqdk{Fin:Machine->Trace->Prop}(hFin:Back Try.prog Fin){n:Nat}(hn:0<n){A:FuncId->Bool}(hP:Plain Try.prog A)(hRS:RowsS Try.prog A){M1 S1 O1:Type}{oe:Nat->S1->O1}{C:Core M1 S1}{RP:Nat->Option Obj}{l₀:M1}{w:World}
 {np Cn N Cs:Nat} {pp scp:Option Addr} {sp:Nat->Option Addr} {L Cp:Nat->Nat} {ops:Nat->List OpX} {sched:List Int} {mo:Int} {f:FuncId} {first caps:Array Value} {fn:Func} {cc:Code} (hf:Try.prog.funcs[f]?=some fn) (hb':fn.body=some cc) (hnm:(fn.name== "runtime.NumGoroutine")=false)
 (hb:BRep C RP ⟨l₀,λ_ _=>none⟩ w) (ho:OpsAt w RP pp np N sp L Cp ops) (hsl:sched.length<=4611686018427387904)
 (hs:sched≠[]->∃sb off,scp=some ⟨sb,off,none⟩/\¬C.foot l₀ sb/\∀j x,sched[j]?=some x->w.cell? ⟨sb,off+j,none⟩=some (.int .i64 x))
 {dop:Nat->OpX->Proc (S1×(Nat->List Ans)) Ans} (hdeep:∀i s,i<N->ownE oe i s=ownE oe i (C.st l₀,λ_=>([]:List Ans))->∀k,(opsP i (dop i) (ops i)).DeepO (ownE oe i) k s)
 (hdo:∀(ro:Nat->Option Obj)(ab:Nat)(pr:Nat->Proc (S1×(Nat->List Ans)) Unit)(st:Nat)(cr:Frame)(rest:List Frame)(EN:List PanicEntry->Prop)(i:Nat)(o:List Ans)(op:OpX),(∀b x,RP b=some x->ro b=some x)->i<N->
  SpecR (zq2u hP hRS (zqd C (zqw tT ab N)) (ownE oe) ro pr 81 (.pointer (some ⟨st,0,none⟩)) cr rest NEnd EN i (λs=>s.2 i=o)) f (first++#[.iface 150 (.pointer (some ⟨st,0,none⟩)),.int .i64 i,op.val]++caps) (dop i op) (AnsV 2))
 {c:Frame} {cs:List Frame}
 (hmain:∀ab v l' am w',OpsRes C N l₀ w (playT (λi=>opsP i (dop i) (ops i)) N (min mo.toNat 1048576) sched (C.st l₀,λ_=>[])) ab v l' am w'->
  J0 Try.prog Fin (n+N) (G (c.finish (.agg #[.slice (some ⟨ab,0,none⟩) N N,v,.slice none 0 0,.bool (decide (0<leftN (playT (λi=>opsP i (dop i) (ops i)) N (min mo.toNat 1048576) sched (C.st l₀,λ_=>[])).ov N))])) cs) w'):
 J0 Try.prog Fin n (G (Frame.enter Try.prog 32 #[.slice pp np Cn,.func (.func f) first caps,.slice scp sched.length Cs,.int .i64 mo] .normal) (c::cs)) w:=by
 have hJ:=j0_JS hFin;have hC:=zq15 hFin;have e:Frame.enter Try.prog 32 #[.slice pp np Cn,.func (.func f) first caps,.slice scp sched.length Cs,.int .i64 mo] .normal=(bN 32).at (zqm Try.f32 #[.slice pp np Cn,.func (.func f) first caps,.slice scp sched.length Cs,.int .i64 mo]) [.code ((Try.f32.body).getD .skip)]:=by kernel_rfl
 have ea:zqm Try.f32 #[.slice pp np Cn,.func (.func f) first caps,.slice scp sched.length Cs,.int .i64 mo]=⟨#[.slice pp np Cn,.func (.func f) first caps,.slice scp sched.length Cs,.int .i64 mo,undef,undef,undef,undef,undef,undef,undef,undef,undef,undef,undef,undef,undef,undef,undef,undef,undef,undef,undef,undef,undef,undef,undef,undef,undef,undef,undef,undef],[]⟩:=by kernel_rfl
 rw[e,ea,ops0];clear e ea;have hm:=Lib.hid hmain;clear hmain;obtain⟨H,hH⟩:∃H,w.heap.size=H:=⟨_,rfl⟩;refine hJ.ctl (s:=n) (λw=>stepG_seq) ?_;refine zqv hJ hC zq5r (by kernel_rfl) (λt w'=>t=#[.slice pp np Cn,.func (.func f) first caps,.slice scp sched.length Cs,.int .i64 mo,undef,undef,undef,undef,.pointer (some ⟨H,0,none⟩),undef,undef,undef,undef,undef,undef,undef,undef,undef,undef,undef,undef,undef,undef,undef,undef,undef,undef,undef,undef,undef,undef,undef]/\∃τ d,w'=re (w.alloc (.cells #[.slice none 0 0,.slice none 0 0,.slice none 0 0,.bool false] 29)) τ d) (λt w' τ d h=>⟨h.1,by obtain⟨τ',d',rfl⟩:=h.2;exact⟨τ,d,by rw[re_re]⟩⟩) (by decide) (λτ d=>?_) ?_
 . obtain⟨u0,hu0⟩:∃c,headC (opsT 0)=c:=⟨_,rfl⟩;have eu0:=hu0;rw[hu0];simp only[opsT,headC,tailN,Try.f32,al_od]at eu0;subst eu0;clear hu0 hdo hdeep hs ho hb hf hb' hnm;go_wp2;exact⟨rfl,rfl,τ,d,rfl⟩
 rintro t w' ⟨rfl,τ,d,rfl⟩;refine hJ.re' n _ _ τ d ?_;have hwa:(w.alloc (.cells #[.slice none 0 0,.slice none 0 0,.slice none 0 0,.bool false] 29)).heap.size=H+1:=by rw[zq8,hH]
 have hob:∀b,b<H->(w.alloc (.cells #[.slice none 0 0,.slice none 0 0,.slice none 0 0,.bool false] 29)).heap[b]?=w.heap[b]?:=λb hb=>by rw[zqc,if_neg (by omega)]
 have hzb:(w.alloc (.cells #[.slice none 0 0,.slice none 0 0,.slice none 0 0,.bool false] 29)).heap[H]?=some (.cells #[.slice none 0 0,.slice none 0 0,.slice none 0 0,.bool false] 29):=hH▸zq13 w _;obtain⟨wa,hwae⟩:∃wa,w.alloc (.cells #[.slice none 0 0,.slice none 0 0,.slice none 0 0,.bool false] 29)=wa:=⟨_,rfl⟩;rw[hwae]at hwa hob hzb |-;clear hwae;have hlw:∀b,C.foot l₀ b->b<H:=λb h=>by rw[<-hH];exact C.lt _ _ _ hb.core h
 have hba:BRep C RP ⟨l₀,λ_ _=>none⟩ wa:=hb.frame λb h=>hob b (by rw[<-hH];exact hb.lt h);have hat:0<np->∃tb to',pp=some ⟨tb,to',none⟩/\∀i,i<N->wa.cell? ⟨tb,to'+i,none⟩=some (.slice (sp i) (L i) (Cp i)):=λh0=>by
  obtain⟨tb,to',e,h1⟩:=ho.at' h0;exact⟨tb,to',e,λi hi=>(zq17 (hob tb (by rw[<-hH];exact cell_lt (h1 i hi)))).trans (h1 i hi)⟩
 have hs2:sched≠[]->∃sb off,scp=some ⟨sb,off,none⟩/\¬C.foot l₀ sb/\sb<H/\∀j x,sched[j]?=some x->wa.cell? ⟨sb,off+j,none⟩=some (.int .i64 x):=λh0=>by
  obtain⟨sb,off,e,h1',h2⟩:=hs h0;obtain⟨x,l,hsl⟩:=List.exists_cons_of_ne_nil h0;have hlt:sb<H:=by rw[<-hH];exact cell_lt (h2 0 x (by rw[hsl];rfl))
  exact⟨sb,off,e,h1',hlt,λj x hj=>(zq17 (hob sb hlt)).trans (h2 j x hj)⟩
 have hNe:=ho.eq;have hN64:N<=64:=by omega
 have hnp:=ho.le;have hrow:=ho.row;have hlen:=ho.len;have hop:=ho.op;clear ho hs hb;refine hJ.ctl (s:=n) (λw=>stepG_seq) ?_;refine zqv hJ hC zq5r (by kernel_rfl) (λt w'=>∃ob ib fv,t=#[.slice pp np Cn,.func (.func f) first caps,.slice scp sched.length Cs,.int .i64 mo,undef,undef,undef,undef,.pointer (some ⟨H,0,none⟩),fv,.slice (some ⟨H+1+1,0,none⟩) N N,undef,undef,undef,.tuple #[fv,.slice (some ⟨H+1+1,0,none⟩) N N],.slice pp np Cn,.func (.func f) first caps,.tuple #[fv,.slice (some ⟨H+1+1,0,none⟩) N N],fv,.slice (some ⟨H+1+1,0,none⟩) N N,undef,undef,undef,undef,undef,undef,undef,undef,undef,undef,undef,undef]/\DRes wa N (.func (.func f) first caps) sp L Cp N ob ib fv w') (λt w' τ d h=>?_) (by decide) (λτ d=>?_) ?_
 . obtain⟨ob,ib,fv,h1,h2⟩:=h;exact⟨ob,ib,fv,h1,h2.re τ d⟩
 . obtain⟨u0,hu0⟩:∃c,headC (opsT 1)=c:=⟨_,rfl⟩;have eu0:=hu0;rw[hu0];simp only[opsT,headC,tailN,Try.f32,al_od]at eu0;subst eu0;clear hu0;have HM:=Lib.hid (zqbs (pp:=pp) (n:=np) (Cn:=Cn) (dv:=.func (.func f) first caps) (sp:=sp) (L:=L) (Cp:=Cp) ⟨_,_,_,rfl⟩ (re wa τ d) hnp (λi hi=>hrow i (by rw[hNe];exact hi)) (λh0=>by
    obtain⟨tb,to',e,h1⟩:=hat h0;exact⟨tb,to',e,λi hi=>h1 i (by rw[hNe];exact hi)⟩))
   rw[<-hNe]at HM;have HH:=Lib.hid (And.intro hH hwa);clear hs2 hat hlw hba hob hzb hH hwa hNe hN64 hnp hrow hlen hop hdo hdeep hf hb' hnm hsl
   go_wp2_with (fail)
   refine Calls.mono HM.out ?_;rintro e w' ⟨ob,ib,fv,rfl,hR⟩;have hR2:=Lib.hid hR.of_re;clear hR;rw[show(re wa τ d).heap.size=H+1 from HH.out.2];go_wp2;exact⟨rfl,ob,ib,fv,rfl,hR2.out⟩
 rintro t w1 ⟨ob,ib,fv,rfl,hR⟩;obtain⟨fp,Cf,rfl,hfo,hfp⟩:=zqdm hR.frow;refine hJ.ctl (s:=n) (λw=>stepG_seq) ?_;have hrep1:=ops_rep hR hba;obtain⟨u0,hu0⟩:∃c,headC (opsT 2)=c:=⟨_,rfl⟩;have eu0:=hu0;rw[hu0];simp only[opsT,headC,tailN,Try.f32,al_od]at eu0;subst eu0;clear hu0;refine hJ.ctl (s:=n) (λw=>stepG_region) ?_;have HR:=Lib.hid hR;have HP:=Lib.hid hrep1;have HX:=Lib.hid (And.intro hat (And.intro hs2 (And.intro hob (And.intro hzb (And.intro hwa (And.intro hlw (And.intro hba (And.intro hrow (And.intro hlen hop)))))))));have HA:=Lib.hid (And.intro hfo hfp);have HNE:=Lib.hid hNe;clear hNe;have HD:=Lib.hid (And.intro hdo (And.intro hdeep (And.intro hf (And.intro hb' hnm))));clear hR hrep1 hat hs2 hob hzb hwa hfo hfp hlw hba hrow hlen hop hdo hdeep hf hb' hnm;refine zqg (s:=n) (by decide) hJ (zqf _) true (.inl rfl) 0 3 8 rfl rfl rfl (by rfl) ?_;intro τ d;simp only[List.drop_zero,List.take_succ_cons,List.take_zero];go_wp2;simp only[zq7];refine hJ.re' n _ _ τ d ?_;refine zq14 (by decide) hJ (s:=n) rfl rfl (f:=54) (args:=#[.slice fp N Cf,.slice scp sched.length Cs,.int .i64 mo]) (λτ d=>?_) (λτ d=>?_) ?_
 . simp[go_sem,execOp,Act.eval,resolve,Deferred.ofValue,invoke,callFunc,Try.func54,Try.f54]
 . intro e he;simp[go_sem,execOp,Act.eval,resolve,Deferred.ofValue,invoke,callFunc,Try.func54,Try.f54,Sem.runT_eq]at he
 obtain⟨hat,hs2,hob,hzb,hwa,hlw,hba,hrow,hlen,hop⟩:=HX.out;obtain⟨hfo,hfp⟩:=HA.out;obtain⟨hdo,hdeep,hf,hb',hnm⟩:=HD.out;have hRo:∀i,i<N->DoRo (roOf RP wa.heap.size N ob ib w1) i N (wa.heap.size+1) (ob i) wa.heap.size (ib i) (wa.heap.size+2) (sp i) (min (L i) 65536) (Cp i) (ops i) f first caps:=λi hi=>ops_ro HR.out hba hN64 hlen hop hi
 have hfree:∀x,wa.heap.size+3<=x->w1.heap[x]?≠none->(∀i,i<N->x≠ob i/\x≠ib i)->¬(C.foot l₀ x\/x=wa.heap.size+1\/roOf RP wa.heap.size N ob ib w1 x≠none):=λx hx _ hne h=>by
  rcases h with h|h|h
  . have:=hlw x h;omega
  . omega
  . cases ho:roOf RP wa.heap.size N ob ib w1 x with
    |none=>exact h ho
    |some o=>
     rcases zq3x ho with h2|⟨h2,_⟩
     . have:=zqs (hba.rod x o h2);omega
     . rcases h2 with h2|h2|⟨i,hi,h2|h2⟩
       . omega
       . omega
       . exact(hne i hi).1 h2
       . exact(hne i hi).2 h2
 refine zqdn hFin (T:=zq1c (zqd C (zqw tT (wa.heap.size+1) N)) (ownE oe) (roOf RP wa.heap.size N ob ib w1) (λi=>opsP i (dop i) (ops i))) (m₀:=mOps l₀ (min mo.toNat 1048576+100)) (N:=N) (most:=min mo.toNat 1048576) (tv:=λi=>cloD wa.heap.size (ob i) (ib i)) (sched:=sched) hn (by have:=HNE.out;omega) rfl (zqdl HP.out) (Nat.le_refl _) ?_ (λi hi=>?_) ?_ ?_
 . intro h0;obtain⟨g,e,hg,hc⟩:=hfp h0;refine⟨g,e,λhf=>?_,λi hi=>hc i _ (by simp[clsD,hi])⟩;obtain⟨⟨cc,hcc⟩,hlo,hlt⟩:=own_lt HR.out.frow hg;refine hfree g hlo (by rw[hcc];simp) (λi hi=>⟨λe=>?_,λe=>?_⟩) (zq4w hf)
   . exact zq2a hcc (HR.out.obx i hi) (by decide) e
   . exact zq2a hcc (HR.out.ibx i hi) (by decide) e
 . refine zqjo hP hRS (fn:=Try.f58) (c:=(Try.f58.body).getD .skip) Try.func58 rfl rfl (λs hs k=>hdeep i s hi hs k) (λst cr rest EN s m w hA hown=>?_);exact zqbr hP hRS hf hb' hnm (hRo i hi) (λo op=>hdo _ _ _ st cr rest EN i o op (λb x h=>zq5t h) hi) s m w hA (congrArg Prod.fst hown)
 . refine⟨hsl,scp,Cs,rfl,λh0=>?_⟩;obtain⟨sb,off,e,h1',h2,h3⟩:=hs2 h0;refine⟨sb,off,e,λj x hj=>?_⟩;cases h1:RP sb with
   |some o=>exact .inr λm w h=>(zq17 ((h.1.rod sb o (zq5t h1)).trans (hba.rod sb o h1).symm)).trans (h3 j x hj)
   |none=>
   refine .inl ⟨(zq17 (HR.out.old sb (by omega))).trans (h3 j x hj),by have:=HR.out.size;omega,λhf=>?_⟩;rcases zq4w hf with h4|h4|h4
   . exact h1' h4
   . omega
   . cases ho:roOf RP wa.heap.size N ob ib w1 sb with
     |none=>exact h4 ho
     |some o=>
      rcases zq3x ho with h5|⟨h5,_⟩
      . rw[h1]at h5;cases h5
      . rcases h5 with h5|h5|⟨i,hi,h5⟩
        . omega
        . omega
        . have:=HR.out.lo i hi;rcases h5 with h5|h5<;>omega
 intro b m' v g capg w2 ho;obtain⟨hres,hleft⟩:=ops_res2 HR.out hba ho;have hvrow:=ho.row;clear ho;rw[Frame.finish_at]
 walk_nrm
 obtain⟨pv',cv',rfl,_⟩:=zq2d hvrow;clear hvrow;generalize b.ord.length=nv' at hres |-;have HO:=Lib.hid hres;rw[hleft];have hHw:=zqs hzb;clear hleft hres;obtain⟨stuck,hstuck⟩:∃x,decide (0<leftN (playT (λi=>opsP i (dop i) (ops i)) N (min mo.toNat 1048576) sched (C.st l₀,λ_=>[])).ov N)=x:=⟨_,rfl⟩;rw[hstuck];have HST:=Lib.hid hstuck;clear hstuck;refine zqg (s:=n+N) (by decide) hJ (zqf _) true (.inl rfl) 4 7 0 rfl rfl rfl (by rfl) ?_;intro τ d;simp only[List.drop_succ_cons,List.drop_zero,List.take_succ_cons,List.take_zero];go_wp2;simp only[zq7];refine hJ.re' (n+N) _ _ τ d ?_;refine hJ.ctl (s:=n+N) (λw=>stepG_region_end) ?_;have hze:w2.heap[H]?=some (.cells #[.slice none 0 0,.slice none 0 0,.slice none 0 0,.bool false] 29):=(HO.out.old H hHw (λh=>by have:=hlw H h;omega)).trans hzb;refine zq32 hJ hC zq5r (by kernel_rfl) (λv w'=>v=.agg #[.slice (some ⟨H+1+1,0,none⟩) N N,.slice pv' nv' cv',.slice none 0 0,.bool stuck]/\∃l' am,OpsRes C N l₀ w (playT (λi=>opsP i (dop i) (ops i)) N (min mo.toNat 1048576) sched (C.st l₀,λ_=>[])) (H+1+1) (.slice pv' nv' cv') l' am w') (λv w' τ d⟨h1,l',am,h2⟩=>⟨h1,l',am,h2.re τ d⟩) rfl Try.func32 (λτ d=>?_) ?_
 . obtain⟨u0,hu0⟩:∃c,opsT 3=c:=⟨_,rfl⟩;have eu0:=hu0;rw[hu0];simp only[opsT,headC,tailN,Try.f32,al_od]at eu0;subst eu0;clear hu0;have HZ:=Lib.hid (And.intro hH (And.intro hwa (And.intro hob hlw)));have b0:(re w2 τ d).heap[H]?=some (.cells #[.slice none 0 0,.slice none 0 0,.slice none 0 0,.bool false] 29):=hze;have hre:=HO.out.re τ d;clear HO;generalize re w2 τ d=w3 at b0 hre |-;have HPR:=Lib.hid hre;clear hre hfree hRo hat hs2 hob hzb hwa hlw hba hrow hlen hop hfo hfp hdo hdeep hf hb' hnm hze hHw HX HA HD HP HR hH hsl hN64 hnp hm;have r0:=(zq1 (off:=0) b0).trans rfl;have r1:=(zq1 (off:=1) b0).trans rfl;have r2:=(zq1 (off:=2) b0).trans rfl;have r3:=(zq1 (off:=3) b0).trans rfl;have z0:=zqh (off:=0) b0;have z1:=zqh (off:=1) b0;have z2:=zqh (off:=2) b0;have z3:=zqh (off:=3) b0;have B0:=Lib.hid b0;clear b0;go_wp2;clear r0 r1 r2 r3 z0 z1 z2 z3;have b1':=zqy w3 H 0 (.slice (some ⟨H+1+1,0,none⟩) N N) B0.out;have b2':=zqy _ H 1 (.slice pv' nv' cv') b1';have b3':=zqy _ H 2 (.slice none 0 0) b2';have b4':=zqy _ H 3 (.bool stuck) b3';have hext:∀x,x<w3.heap.size->x≠H->((((w3.setCell ⟨H,0,none⟩ (.slice (some ⟨H+1+1,0,none⟩) N N)).setCell ⟨H,1,none⟩ (.slice pv' nv' cv')).setCell ⟨H,2,none⟩ (.slice none 0 0)).setCell ⟨H,3,none⟩ (.bool stuck)).heap[x]?=w3.heap[x]?:=λx _ hx=>by
    rw[zql _ _ _ _ hx,zql _ _ _ _ hx,zql _ _ _ _ hx,zql _ _ _ _ hx]
   have hsz8:((((w3.setCell ⟨H,0,none⟩ (.slice (some ⟨H+1+1,0,none⟩) N N)).setCell ⟨H,1,none⟩ (.slice pv' nv' cv')).setCell ⟨H,2,none⟩ (.slice none 0 0)).setCell ⟨H,3,none⟩ (.bool stuck)).heap.size=w3.heap.size:=by simp only[zqz]
   generalize ((((w3.setCell ⟨H,0,none⟩ (.slice (some ⟨H+1+1,0,none⟩) N N)).setCell ⟨H,1,none⟩ (.slice pv' nv' cv')).setCell ⟨H,2,none⟩ (.slice none 0 0)).setCell ⟨H,3,none⟩ (.bool stuck))=w8 at b4' hext hsz8 |-;clear b1' b2' b3';have k0:=(zq1 (off:=0) b4').trans rfl;have k1:=(zq1 (off:=1) b4').trans rfl;have k2:=(zq1 (off:=2) b4').trans rfl;have k3:=(zq1 (off:=3) b4').trans rfl;have hres:=HPR.out;rw[HZ.out.2.1]at hres;refine⟨rfl,.agg #[.slice (some ⟨H+1+1,0,none⟩) N N,.slice pv' nv' cv',.slice none 0 0,.bool stuck],?_,_,rfl,rfl,_,_,hres.ext HZ.out.1 HZ.out.2.1 HZ.out.2.2.1 HZ.out.2.2.2 (by omega) hext⟩;simp only[results,Try.f32];simp[go_sem,k0,k1,k2,k3]
 . rintro v w' ⟨rfl,l',am,h⟩;have h2:=hm.out _ _ l' am w' h;rw[HST.out]at h2;exact h2
end Go.Proofs
namespace Go.Car
open Go
section
variable {σ O α γ:Type} {ow:σ->O} {len:σ->Nat} {b b1 b2:Nat}
def Proc.Keep (ow:σ->O)(len:σ->Nat)(b b':Nat)(p:Proc σ α):Prop:=∀{β:Type}(K:α->Proc σ β),(∀a s,len s<=b'->∀n,(K a).DeepO ow n s)->∀s,len s<=b->∀n,(p.bind K).DeepO ow n s
theorem Proc.Keep.ret (a:α):(Proc.ret a:Proc σ α).Keep ow len b b:=λK hK s hs n=>hK a s hs n
theorem Proc.Keep.act {f:σ->σ×α}(h:∀s,len s<=b->len (f s).1<=b1):(Proc.act f).Keep ow len b b1:=λK hK s hs n=>hK (f s).2 (f s).1 (h s hs) n
theorem Proc.Keep.tick (hl:∀s s',ow s'=ow s->len s'=len s):(Proc.tick:Proc σ Unit).Keep ow len b b:=λK hK s hs n=>by
 cases n with
 |zero=>trivial
 |succ n=>exact λs' e=>hK () s' (by rw[hl s s' e];exact hs) n
theorem Proc.Keep.bind {p:Proc σ α}{q:α->Proc σ γ}(hp:p.Keep ow len b b1)(hq:∀a,(q a).Keep ow len b1 b2):(p.bind q).Keep ow len b b2:=λK hK s hs n=>by
 rw[Proc.bind_bind];exact hp _ (λa s h n=>hq a K hK s h n) s hs n
theorem Proc.Keep.mono {p:Proc σ α}{b0 b3:Nat}(hp:p.Keep ow len b b1)(h0:b0<=b)(h1:b1<=b3):p.Keep ow len b0 b3:=λK hK s hs n=>hp K (λa s h n=>hK a s (Nat.le_trans h h1) n) s (Nat.le_trans hs h0) n
theorem Proc.Keep.deep {p:Proc σ α}(hp:p.Keep ow len b b1){s:σ}(hs:len s<=b)(n:Nat):p.DeepO ow n s:=by
 have:=hp Proc.ret (λa s _ n=>by cases n<;>trivial) s hs n
 rwa [Proc.bind_pure]at this
theorem Proc.Keep.then {q:Proc σ α}(hl:∀s s',ow s'=ow s->len s'=len s)(hq:q.Keep ow len b b1):(Proc.tick.bind λ_=>q).Keep ow len b b1:=Proc.Keep.bind (Proc.Keep.tick hl) λ_=>hq
end
end Go.Car
namespace Go.Proofs
open Go Go.Conc Go.RowKit Go.Car
def oeE(i:Nat)(s:EpS):List (Int×Int):=s.th i
theorem edo_turn{T:EpT}{N ab:Nat}(hty:EpTy T)(hN:T.N=N)(hN64:N<=64)(ro:Nat->Option Obj)(pr:Nat->Proc (EpS×(Nat->List Ans)) Unit)(st:Nat)(cr:Frame)(rest:List Frame)(EN:List PanicEntry->Prop)(i:Nat)(hi:i<N)(o:List Ans)(op:OpX):
 SpecR (zq2u zqk rowsM (zqd (zqb T) (zqw tT ab N)) (ownE oeE) ro pr 81 (.pointer (some ⟨st,0,none⟩)) cr rest NEnd EN i (λs=>s.2 i=o)) 33 (#[.pointer (some ⟨T.db,0,none⟩)]++#[.iface 150 (.pointer (some ⟨st,0,none⟩)),.int .i64 i,op.val]++#[]) (opE T.N i op) (AnsV 2):=by
 have hi':i<T.N:=by omega
 have hs:=zqhf _ (zqjp (C:=zqd (zqb T) (zqw tT ab N)) (own:=ownE oeE) (ro:=ro) (pr:=pr) (fStep:=81) (sx:=.pointer (some ⟨st,0,none⟩)) (cr:=cr) (rest:=rest) (NE:=NEnd) (EN:=EN) (i:=i) zqk rowsM (I:=λs=>s.2 i=o) (λs s' h hI=>(congrArg Prod.fst h).trans hI));exact edo_spec _ (zq73 _ hty hi' (λg g' s h=>h) (λg g' s hg j hj=>by show(s j,g'.th j)=(s j,g.th j);rw[hg j hj]) (λ{s m w r}h e=>by
  have:=h.deepr;rw[e]at this;exact this) hs) hi' (by omega) (zq72 _ hty hi' (λg g' s h=>h) (λg g' s hg j hj=>by show(s j,g'.th j)=(s j,g.th j);rw[hg j hj]) _) op
section
abbrev lenE(i:Nat)(s:EpS×(Nat->List Ans)):Nat:=(s.1.th i).length
variable {i:Nat} {b:Nat}
theorem lenE_own(s s':EpS×(Nat->List Ans))(h:ownE oeE i s'=ownE oeE i s):lenE i s'=lenE i s:=by
 have:=congrArg (λx=>x.2.length) h;exact this
abbrev KeepE(i b b':Nat){α:Type}(p:Proc (EpS×(Nat->List Ans)) α):Prop:=p.Keep (ownE oeE i) (lenE i) b b'
theorem zq24{α:Type}{f:EpS->EpS×α}(h:∀s,(f s).1.th i=s.th i):KeepE i b b (onE f):=Proc.Keep.act λs hs=>by
 show((f s.1).1.th i).length<=b;rw[h];exact hs
theorem zq3q{α:Type}{q:Proc (EpS×(Nat->List Ans)) α}{b':Nat}(h:KeepE i b b' q):KeepE i b b' (Proc.tick.bind λ_=>q):=Proc.Keep.then lenE_own h
theorem zq4q:KeepE i b b loadP:=zq3q (zq24 λ_=>rfl)
theorem zqbw(k:Nat):KeepE i b b (enterP k):=by
 unfold enterP;refine Proc.Keep.bind (zq24 λ_=>rfl) λx=>?_;split
 . exact Proc.Keep.ret _
 . exact Proc.Keep.bind zq4q λe=>Proc.Keep.bind (zq3q (zq24 λ_=>rfl)) λ_=>Proc.Keep.bind (zq24 λ_=>rfl) λ_=>Proc.Keep.ret _
theorem zqd3(k:Nat):KeepE i b b (leaveP k):=by
 unfold leaveP;refine Proc.Keep.bind (zq24 λ_=>rfl) λx=>?_;split
 . exact Proc.Keep.bind (zq24 λ_=>rfl) λ_=>Proc.Keep.bind (zq3q (zq24 λ_=>rfl)) λ_=>Proc.Keep.ret _
 . exact Proc.Keep.ret _
theorem zqe2(n:Int)(hb:b<mostT):KeepE i b (b+1) (zq2e i n):=by
 unfold zq2e;refine Proc.Keep.bind zq4q λe=>?_;intro β K hK s hs m;have e1:pushT i (n,e) s.1=(s.1.putT i (s.1.th i++[(n,e)]),true):=by
  unfold pushT;rw[if_pos (Nat.lt_of_le_of_lt hs hb)]
 rw[Proc.bind_bind];show((λx=>(if x=true then Proc.ret (e,(0:Int))else Proc.out).bind K) (pushT i (n,e) s.1).2).DeepO _ m ((pushT i (n,e) s.1).1,s.2);rw[e1];refine hK (e,0) _ ?_ m;show((upd' s.1.th i (s.1.th i++[(n,e)])) i).length<=b+1;rw[upd'_same,List.length_append];have:(s.1.th i).length<=b:=hs;simp;omega
theorem zq6g(N:Nat)(e:Int):∀r,KeepE i b b (advL N e r)
 |0=>Proc.Keep.bind (zq3q (zq24 λs=>by unfold casE;split<;>rfl)) λ_=>Proc.Keep.ret _
 |r+1=>Proc.Keep.bind (zq3q (zq24 λ_=>rfl)) λm=>by
  split
  . exact Proc.Keep.ret _
  . exact zq6g N e r
theorem zqbp(k:Nat):KeepE i b b (collP k):=Proc.Keep.bind zq4q λe=>Proc.Keep.bind (Proc.Keep.act λs hs=>by
 show(upd' s.1.th k _ i).length<=b
 by_cases h:i=k
 . subst h;rw[upd'_same];exact Nat.le_trans (List.length_filter_le _ _) hs
 . rw[zqx _ _ h];exact hs) λl=>Proc.Keep.ret _
theorem op_keep(N:Nat)(op:OpX)(hb:b<mostT):KeepE i b (b+1) (opE N i op):=by
 unfold opE
 repeat' split
 . exact Proc.Keep.mono (Proc.Keep.bind (zqbw i) λ_=>Proc.Keep.ret _) (Nat.le_refl _) (Nat.le_succ _)
 . exact Proc.Keep.mono (Proc.Keep.bind (zqd3 i) λ_=>Proc.Keep.ret _) (Nat.le_refl _) (Nat.le_succ _)
 . exact Proc.Keep.bind (zqe2 _ hb) λ_=>Proc.Keep.ret _
 . exact Proc.Keep.mono (Proc.Keep.bind (Proc.Keep.bind zq4q λe=>zq6g N e N) λ_=>Proc.Keep.ret _) (Nat.le_refl _) (Nat.le_succ _)
 . exact Proc.Keep.mono (Proc.Keep.bind (zqbp i) λ_=>Proc.Keep.ret _) (Nat.le_refl _) (Nat.le_succ _)
 . exact Proc.Keep.mono (Proc.Keep.ret _) (Nat.le_refl _) (Nat.le_succ _)
theorem zq83(N:Nat):∀(l:List OpX)(b:Nat),b+l.length<mostT->KeepE i b (b+l.length) (opsP i (opE N i) l)
 |[],b,_=>Proc.Keep.ret _
 |op::l,b,h=>by
  simp only[List.length_cons]at h;refine Proc.Keep.bind (op_keep N op (by omega)) λa=>Proc.Keep.bind (b1:=b+1) (Proc.Keep.act λs hs=>hs) λ_=>?_;exact Proc.Keep.mono (zq83 N l (b+1) (by omega)) (Nat.le_refl _) (by simp only[List.length_cons];omega)
end
end Go.Proofs
namespace Go.Car
open Go
section
variable {prog:Nat->List Cd} {N most:Nat}
end
end Go.Car
namespace Go.Car
open Go
section
variable {S:Type} {N most:Nat}
end
end Go.Car
