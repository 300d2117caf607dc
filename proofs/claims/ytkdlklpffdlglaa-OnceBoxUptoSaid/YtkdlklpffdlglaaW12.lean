/- YtkdlklpffdlglaaBox15: part 12 of the proof (the texts behind it, in order). -/
import Derived.Test.YtkdlklpffdlglaaW11
set_option maxHeartbeats 4000000
set_option maxRecDepth 100000
set_option linter.all false
namespace Go.Proofs
open Go Go.Conc Go.RowKit Go.Car
section
variable {P:Program} {A:FuncId->Bool} {Ml S β:Type} {C:Core Ml S} {ro:Nat->Option Obj} {i:Nat} (Z:Alone P A C ro i β) {s:Z.γ} {m:BM Ml} {w:World} {r:S×Tree S β} {t t':Array Value} {ds:List Deferred} {Q:Z.γ->Exit->Act->World->Prop}
theorem Alone.keepI {it:Item}{e0:Bool}(h:Z.AtE s m w r)(hok:zq10 P A it=true)(hx:∀wc,BRep C ro m wc->zq27 P it (ends (λa w'=>Ext wc w'/\a.tmps=t'/\e0=true) (λa w'=>Ext wc w'/\a.tmps=t'/\e0=false)) ⟨t,[]⟩ wc)(hy:∀w',Z.AtE s m w' r->Q s (if e0 then .normal else .ret) ⟨t',ds⟩ w'):wpI Z.J it Q s ⟨t,ds⟩ w:=by
 intro b k cs hb hk;refine Z.item (ds:=ds) (λt l' B'=>t=t'/\l'=m.l/\B'=m.box i/\e0=true) (λt l' B'=>t=t'/\l'=m.l/\B'=m.box i/\e0=false) h hok (λwc hB _=>zq2s (hx wc hB) λe a w' q=>?_) b k cs hb ?_
 . cases e with
   |normal=>exact⟨q.1,_,_,⟨Moved.ext hB q.2.1,Z.oth _⟩,q.2.2.1,rfl,rfl,q.2.2.2⟩
   |ret=>exact⟨q.1,_,_,⟨Moved.ext hB q.2.1,Z.oth _⟩,q.2.2.1,rfl,rfl,q.2.2.2⟩
   |_=>exact q
 . rintro s2 e a w2 ⟨rfl,hd,l',B',(⟨rfl,h6,rfl,rfl,rfl⟩|⟨rfl,h6,rfl,rfl,rfl⟩),hA2⟩
   all_goals(
    obtain⟨tt,dd⟩:=a;simp only at hd h6;subst hd h6;rw[BM.put_same]at hA2;exact hk _ _ _ _ (hy _ hA2))
end
def setB{S2:Type}(i:Nat)(v:ByteArray):Proc (BoxS×S2) (ByteArray×Bool):=
 (Proc.tick.bind λ_=>Proc.act λs=>if s.1.1=none then(((some v,s.1.2),s.2),true)else(((s.1.1,upd' s.1.2 i true),s.2),false)).bind λb=>
  if b=true then Proc.ret (v,true)else(Proc.tick.bind λ_=>Proc.act λs=>(s,s.1.1.getD v)).bind λx=>Proc.ret (x,false)
def noStr:ByteArray:={data:=#[]}
def getB{S2:Type}:Proc (BoxS×S2) (ByteArray×Bool):=(Proc.tick.bind λ_=>Proc.act λs=>(s,s.1.1)).bind λo=>Proc.ret (o.getD noStr,o.isSome)
abbrev strV(x:ByteArray×Bool):Value:=.tuple #[.string x.1,.bool x.2]
section
variable {M2 S2 β:Type} {D:Core M2 S2} {ro:Nat->Option Obj} {i:Nat} {bb:Nat}
structure BoxEnv(Z:Alone Try.prog aMB (zq7 (zqr bb) D) ro i β)(Iq:Bool->BoxS×S2->Prop)(sv:Value):Prop where
 step:∀q,StepY (Z.sys (Iq q)) 48 #[sv]
 seen:∀q s,Iq q s->s.1.2 i=q
 keep:∀q s x,Iq q s->Iq q ((x,s.1.2),s.2)
 look:∀q s,Iq q s->Iq true ((s.1.1,upd' s.1.2 i true),s.2)
 oth1:∀s x,Z.Oth s ((x,s.1.2),s.2)
 oth2:∀s,Z.Oth s ((s.1.1,upd' s.1.2 i true),s.2)
def SetPost(Z:Alone Try.prog aMB (zq7 (zqr bb) D) ro i β)(Iq:Bool->BoxS×S2->Prop)(B:Nat->Option Obj)(K:ByteArray×Bool->Proc (BoxS×S2) β)(s:Z.γ):Ending->World->Prop
 |.returned val,w=>∃a q m,val=strV a/\m.box i=B/\(Z.sys (Iq q)).At s m w (K a)
 |.panicked ch,w=>Z.Dead s ch w
 |.outgrown,_=>False
theorem zqbc(Z:Alone Try.prog aMB (zq7 (zqr bb) D) ro i β){Iq:Bool->BoxS×S2->Prop}{sv:Value}(hE:BoxEnv Z Iq sv)(q:Bool)(v:ByteArray){K:ByteArray×Bool->Proc (BoxS×S2) β}{s:Z.γ}{B:Nat->Option Obj}{w:World}(hA:(Z.sys (Iq q)).AtB B s w ((setB i v).bind K)):
 zq19 Try.prog Z.J 21 #[.pointer (some ⟨bb,0,none⟩),sv,.string v] (SetPost Z Iq B K) s w:=by
 obtain⟨Y,hY⟩:∃Y,Z.sys (Iq q)=Y:=⟨_,rfl⟩;have hJC:JC Try.prog Z.main Z.J:=.of_js Z.js;refine BodyY.calls (Y:=Z.sys (Iq q)) ⟨_,_,Try.func21,rfl,?_⟩;simp only[zqk,Try.ntmps21,List.size_toArray,List.length_cons,List.length_nil,Nat.reduceAdd,Nat.reduceSub,Array.replicate_succ,Array.replicate_zero,List.push_toArray,List.append_toArray,List.nil_append,List.cons_append];show wpJ Z.J _ _ _ _ _;refine YSys.seqX (Y:=Z.sys (Iq q)) (λt B'=>∃bv,t=#[.pointer (some ⟨bb,0,none⟩),sv,.string v,undef,undef,.pointer (some ⟨bv,0,none⟩),.string {data:=#[]},.bool false,undef,undef,undef,undef,undef,undef,undef,undef,undef,undef,undef,undef,undef,undef,undef,undef,undef,undef,undef]/\B bv=none/\B'=upB B bv (.cells #[.string v] 9)) hA (by kernel_rfl) ?_ ?_
 . intro wc hB X0 hX0;have HX0:=Lib.hid hX0;clear hX0;have hm:=OMoved.push (o:=.cells #[.string v] 9) hB.own (Ext1.alloc wc (.cells #[.string v] 9)) (Nat.le_refl _) (by rw[zqa];simp);have hf:=hB.own.fresh (Nat.le_refl _);have HM:=Lib.hid (And.intro hm hf);clear hm hf;go_wp2;exact⟨rfl,HX0.out _ _ _ HM.out.1 ⟨_,rfl,HM.out.2,rfl⟩⟩
 clear hA;rintro _ _ w ⟨bv,rfl,hbv,rfl⟩ hA;show wpJ Z.J _ _ _ _ _;refine zqh hJC ?_;apply YSys.seq0 (Y:=Z.sys (Iq q)) hA (by kernel_rfl)
 . intro wc hB;go_wp2;exact⟨rfl,Ext1.refl _,rfl⟩
 intro w hA;refine zqx hJC rfl (zq1e hJC ?_);show wpJ Z.J _ _ _ _ _;refine zqh hJC (zqv hJC ?_);rw[setB,Proc.bind_bind,Proc.bind_bind]at hA;apply YSys.callS (Y:=Z.sys (Iq q)) 0 1 0 hA (hE.step q) rfl rfl rfl (by rfl) rfl rfl rfl
 . intro wc hB X hX;have HX:=Lib.hid hX;clear hX;go_wp2;exact HX.out _ (Ext1.refl _)
 . intro w;simp[go_sem,execOp,Act.eval,resolve,Deferred.ofValue,invoke,callFunc,Try.func48,Try.f48]
 . intro w;simp[go_sem,execOp,Act.eval,resolve,Deferred.ofValue,invoke,callFunc,Try.func48,Try.f48]
 . intro s' ch w' h;exact⟨rfl,h⟩
 intro s w hA;refine zq17 hJC ?_;show wpJ Z.J _ _ _ _ _;refine zqh hJC ?_;refine zqh hJC (zqv hJC ?_);refine YSys.pre0 (Y:=Z.sys (Iq q)) (t₁:=#[.pointer (some ⟨bb,0,none⟩),sv,.string v,undef,undef,.pointer (some ⟨bv,0,none⟩),.string {data:=#[]},.bool false,undef,.pointer (some ⟨bb,0,none⟩),.bool false,undef,sv,.tuple #[],.pointer (some ⟨bb,0,none⟩),.pointer (some ⟨bb,0,none⟩),.pointer (some ⟨bb,0,none⟩),undef,undef,undef,undef,undef,undef,undef,undef,undef,undef]) 0 3 1 (rest:=[3]) hA rfl rfl rfl (by rfl) ?_ λw hA=>?_
 . intro wc hB X hX;have HX:=Lib.hid hX;clear hX;go_wp2;exact HX.out _ (Ext1.refl _)
 obtain⟨m,hmB,hAt⟩:=hA;have hbm:m.box i bv=some (.cells #[.string v] 9):=by rw[hmB,upB_same]
 have hcas:=casP_Z Z hAt.1 hbm (hE.oth1 ((m.l.1.1.map (·.2),m.l.1.2),D.st m.l.2) (some v)) (hE.oth2 ((m.l.1.1.map (·.2),m.l.1.2),D.st m.l.2));refine YSys.callO (Y:=Z.sys (Iq q)) hcas rfl rfl rfl (λw=>?_) (λw=>?_) ?_
 . simp[go_sem,execOp,Act.eval,resolve,Deferred.ofValue,invoke,callFunc,Try.func49,Try.f49]
 . simp[go_sem,execOp,Act.eval,resolve,Deferred.ofValue,invoke,callFunc,Try.func49,Try.f49]
 have hst:(zq7 (zqr bb) D).st m.l=((m.l.1.1.map (·.2),m.l.1.2),D.st m.l.2):=rfl;have hpr:=hAt.2;have hdrop:∀x o,B x=some o->x≠bv:=λx o hx e=>by rw[e,hbv]at hx;cases hx
 clear hcas;rintro s' e w' ⟨rfl,(⟨h0,rfl,hA'⟩|⟨h0,rfl,hA'⟩)⟩
 . refine zq17 hJC ?_;show wpJ Z.J _ _ _ _ _;refine zqx hJC rfl ?_;rw[if_pos rfl];rw[hst,Proc.bind_act]at hA';have hAc:Z.AtE s' (m.put i ((some (bv,v),m.l.1.2),m.l.2) (λb=>if b=bv then none else m.box i b)) w' (K (v,true) ((some v,m.l.1.2),D.st m.l.2)):=by
    have e0:m.l.1.1.map (·.2)=none:=by rw[h0];rfl
    simp only[e0,if_true]at hA';exact hA'
   clear hA';intro b k cs hb hk;have HK:=Lib.hid hk;clear hk;refine Z.item (ds:=[]) (λ_ _ _=>False) (λt l' B'=>t=#[.pointer (some ⟨bb,0,none⟩),sv,.string v,undef,undef,.pointer (some ⟨bv,0,none⟩),.string v,.bool true,undef,.pointer (some ⟨bb,0,none⟩),.bool false,undef,sv,.tuple #[],.pointer (some ⟨bb,0,none⟩),.pointer (some ⟨bb,0,none⟩),.pointer (some ⟨bb,0,none⟩),.bool true,.string v,undef,undef,undef,undef,undef,undef,undef,undef]/\l'=((some (bv,v),m.l.1.2),m.l.2)/\B'=(λb=>if b=bv then none else m.box i b)) hAc (by kernel_rfl) (λwc hB _=>?_) b k cs hb ?_
   . have hv:=(hB.core.1.val bv v rfl).2;have c0:wc.cell? ⟨bv,0,none⟩=some (.string v):=(zq0 hv).trans rfl;have HB:=Lib.hid hB;clear hv hB;refine zq46 ?_;go_wp2;exact⟨rfl,_,_,⟨Moved.ext HB.out (Ext.refl _),Z.oth _⟩,rfl,BM.put_l _ _ _ _,BM.put_box _ _ _ _⟩
   . rintro s2 e a w2 ⟨rfl,hd,l',B',(⟨_,hh⟩|⟨rfl,h6,rfl,rfl⟩),hA2⟩
     . exact hh.elim
     . obtain⟨tt,dd⟩:=a;simp only at hd h6;subst hd h6;refine HK.out _ .ret _ _ ⟨rfl,.inl ⟨_,resultsC_tmp2 rfl _,(v,true),q,_,rfl,?_,hA2,hE.keep q _ (some v) hpr⟩⟩;rw[BM.put_box]
       funext x
       by_cases e:x=bv
       . rw[if_pos e,e,hbv]
       . rw[if_neg e,hmB,zq26 _ _ e]
 . refine zq17 hJC ?_;show wpJ Z.J _ _ _ _ _;refine zqx hJC rfl (zq1e hJC ?_);show wpJ Z.J _ _ _ _ _;rw[hst,Proc.bind_act]at hA';have hA:(Z.sys (Iq true)).AtB (upB B bv (.cells #[.string v] 9)) s' w' (Proc.tick.bind λ_=>(Proc.act λ(s:BoxS×S2)=>(s,s.1.1.getD v)).bind λx=>(Proc.ret (x,false)).bind K):=by
    refine⟨m.put i ((m.l.1.1,upd' m.l.1.2 i true),m.l.2) (m.box i),by rw[BM.put_box];exact hmB,?_,hE.look q _ hpr⟩;have e0:¬m.l.1.1.map (·.2)=none:=λe=>h0 (by cases h1:m.l.1.1 with
     |none=>rfl
     |some p=>rw[h1]at e;cases e)
    simp only[e0,if_false,Bool.false_eq_true]at hA';rw[Proc.bind_bind,Proc.bind_bind]at hA';exact hA'
   clear hA' hAt hpr hst hbm hmB;refine zqh hJC (zqv hJC ?_);apply YSys.callS (Y:=Z.sys (Iq true)) 0 1 0 hA (hE.step true) rfl rfl rfl (by rfl) rfl rfl rfl
   . intro wc hB X hX;have HX:=Lib.hid hX;clear hX;go_wp2;exact HX.out _ (Ext1.refl _)
   . intro w;simp[go_sem,execOp,Act.eval,resolve,Deferred.ofValue,invoke,callFunc,Try.func48,Try.f48]
   . intro w;simp[go_sem,execOp,Act.eval,resolve,Deferred.ofValue,invoke,callFunc,Try.func48,Try.f48]
   . intro s' ch w' h;exact⟨rfl,h⟩
   intro s w hA;refine zq17 hJC ?_;show wpJ Z.J _ _ _ _ _;refine zqh hJC (zqv hJC ?_);refine YSys.pre0 (Y:=Z.sys (Iq true)) (t₁:=#[.pointer (some ⟨bb,0,none⟩),sv,.string v,undef,undef,.pointer (some ⟨bv,0,none⟩),.string {data:=#[]},.bool false,undef,.pointer (some ⟨bb,0,none⟩),.bool false,undef,sv,.tuple #[],.pointer (some ⟨bb,0,none⟩),.pointer (some ⟨bb,0,none⟩),.pointer (some ⟨bb,0,none⟩),.bool false,undef,sv,.tuple #[],.pointer (some ⟨bb,0,none⟩),.pointer (some ⟨bb,0,none⟩),.pointer (some ⟨bb,0,none⟩),undef,undef,undef]) 0 3 5 (rest:=[3,4,5,6,7]) hA rfl rfl rfl (by rfl) ?_ λw hA=>?_
   . intro wc hB X hX;have HX:=Lib.hid hX;clear hX;go_wp2;exact HX.out _ (Ext1.refl _)
   obtain⟨m2,hmB,hAt⟩:=hA;have hrep:=Z.rep hAt.1;have hsn:m2.l.1.2 i=true:=hE.seen true _ hAt.2;obtain⟨⟨b2,x2⟩,hp2⟩:∃p,m2.l.1.1=some p:=by
    cases e:m2.l.1.1 with
    |none=>exact absurd e (hrep.core.1.seen i hsn)
    |some p=>exact⟨p,rfl⟩
   have hld:zq19 Try.prog Z.J 50 #[.pointer (some ⟨bb,0,none⟩)] (λs' e w'=>s'=s/\w'=w/\e=.returned (.pointer (some ⟨b2,0,none⟩))) s w:=λcl cs h1 _=>by
    obtain⟨Kc,hJ⟩:=Z.js s;refine zq7r hJ hrep.core.1.box (λb hb=>?_) (h1 s _ w ⟨rfl,rfl,?_⟩)
    . unfold boxP at hb;rw[hp2]at hb;cases hb;exact⟨x2,(hrep.core.1.val b2 x2 hp2).2⟩
    . unfold boxP ptrOf;rw[hp2];rfl
   refine YSys.callO (Y:=Z.sys (Iq true)) hld rfl rfl rfl (λw=>?_) (λw=>?_) ?_
   . simp[go_sem,execOp,Act.eval,resolve,Deferred.ofValue,invoke,callFunc,Try.func50,Try.f50]
   . simp[go_sem,execOp,Act.eval,resolve,Deferred.ofValue,invoke,callFunc,Try.func50,Try.f50]
   clear hld;rintro s' e w' ⟨rfl,rfl,rfl⟩;have hAc:Z.AtE s' m2 w' (K (x2,false) ((zq7 (zqr bb) D).st m2.l)):=by
    have h1:=hAt.1;rw[Proc.bind_act]at h1;have e0:((zq7 (zqr bb) D).st m2.l).1.1=some x2:=by show m2.l.1.1.map (·.2)=some x2;rw[hp2];rfl
    simp only[e0,al_od]at h1;exact h1
   intro b k cs hb hk;have HK:=Lib.hid hk;have HP:=Lib.hid (And.intro hp2 hAt);clear hk hrep hAt hsn hp2;refine Z.item (ds:=[]) (λt l' B'=>t=#[.pointer (some ⟨bb,0,none⟩),sv,.string v,undef,undef,.pointer (some ⟨bv,0,none⟩),.string x2,.bool false,undef,.pointer (some ⟨bb,0,none⟩),.bool false,undef,sv,.tuple #[],.pointer (some ⟨bb,0,none⟩),.pointer (some ⟨bb,0,none⟩),.pointer (some ⟨bb,0,none⟩),.bool false,undef,sv,.tuple #[],.pointer (some ⟨bb,0,none⟩),.pointer (some ⟨bb,0,none⟩),.pointer (some ⟨bb,0,none⟩),.pointer (some ⟨b2,0,none⟩),.pointer (some ⟨b2,0,none⟩),.string x2]/\l'=m2.l/\B'=m2.box i) (λ_ _ _=>False) hAc (by kernel_rfl) (λwc hB _=>?_) b k cs hb ?_
   . have hv:=(hB.core.1.val b2 x2 HP.out.1).2;have c0:wc.cell? ⟨b2,0,none⟩=some (.string x2):=(zq0 hv).trans rfl;have HB:=Lib.hid hB;clear hv hB;refine zq3l 4 4 rfl rfl ?_;simp only[List.drop_succ_cons,List.drop_zero];go_wp2;exact⟨rfl,_,_,⟨Moved.ext HB.out (Ext.refl _),Z.oth _⟩,rfl,rfl,rfl⟩
   . rintro s2 e a w2 ⟨rfl,hd,l',B',(⟨rfl,h6,rfl,rfl⟩|⟨_,hh⟩),hA2⟩
     . obtain⟨tt,dd⟩:=a;simp only at hd h6;subst hd h6;refine HK.out _ .normal _ _ ?_;show wpJ Z.J _ _ _ _ _;refine zq1b hJC ?_;rw[BM.put_same]at hA2;have hAt:=HP.out.2;refine⟨rfl,.inl ⟨_,resultsC_tmp2 rfl _,(x2,false),true,m2.put i m2.l B,rfl,BM.put_box _ _ _ _,?_⟩⟩;refine(Z.sys (Iq true)).drop (p:=K (x2,false)) ⟨hA2,hAt.2⟩ λx o hx=>?_;rw[hmB];exact zq2e hx (hdrop x o hx)
     . exact hh.elim
theorem zqbb(Z:Alone Try.prog aMB (zq7 (zqr bb) D) ro i β){I:BoxS×S2->Prop}{sv:Value}(hstep:StepY (Z.sys I) 48 #[sv]){K:ByteArray×Bool->Proc (BoxS×S2) β}{s:Z.γ}{B:Nat->Option Obj}{w:World}(hA:(Z.sys I).AtB B s w (getB.bind K)):
 zq19 Try.prog Z.J 23 #[.pointer (some ⟨bb,0,none⟩),sv] (λs e w=>match e with
  |.returned val=>∃a m,val=strV a/\m.box i=B/\(Z.sys I).At s m w (K a)
  |.panicked ch=>Z.Dead s ch w
  |.outgrown=>False) s w:=by
 have hJC:JC Try.prog Z.main Z.J:=.of_js Z.js;refine BodyY.calls (Y:=Z.sys I) ⟨_,_,Try.func23,rfl,?_⟩;simp only[zqk,Try.ntmps23,List.size_toArray,List.length_cons,List.length_nil,Nat.reduceAdd,Nat.reduceSub,Array.replicate_succ,Array.replicate_zero,List.push_toArray,List.append_toArray,List.nil_append,List.cons_append];show wpJ Z.J _ _ _ _ _;apply YSys.seq0 (Y:=Z.sys I) hA (by kernel_rfl)
 . intro wc hB;go_wp2;exact⟨rfl,Ext1.refl _,rfl⟩
 intro w hA;apply YSys.seq0 (Y:=Z.sys I) hA (by kernel_rfl)
 . intro wc hB;go_wp2;exact⟨rfl,Ext1.refl _,rfl⟩
 intro w hA;refine zqh hJC ?_;apply YSys.seq0 (Y:=Z.sys I) hA (by kernel_rfl)
 . intro wc hB;go_wp2;exact⟨rfl,Ext1.refl _,rfl⟩
 intro w hA;refine zqx hJC rfl (zq1e hJC ?_);show wpJ Z.J _ _ _ _ _;refine zqh hJC (zqv hJC ?_);rw[getB,Proc.bind_bind,Proc.bind_bind]at hA;apply YSys.callS (Y:=Z.sys I) 0 1 0 hA hstep rfl rfl rfl (by rfl) rfl rfl rfl
 . intro wc hB X hX;have HX:=Lib.hid hX;clear hX;go_wp2;exact HX.out _ (Ext1.refl _)
 . intro w;simp[go_sem,execOp,Act.eval,resolve,Deferred.ofValue,invoke,callFunc,Try.func48,Try.f48]
 . intro w;simp[go_sem,execOp,Act.eval,resolve,Deferred.ofValue,invoke,callFunc,Try.func48,Try.f48]
 . intro s' ch w' h;exact⟨rfl,h⟩
 intro s w hA;refine zq17 hJC ?_;show wpJ Z.J _ _ _ _ _;refine zqh hJC ?_;refine zqh hJC (zqv hJC ?_);refine YSys.pre0 (Y:=Z.sys I) (t₁:=#[.pointer (some ⟨bb,0,none⟩),sv,undef,undef,.string {data:=#[]},.bool false,.string {data:=#[]},undef,.pointer (some ⟨bb,0,none⟩),.bool false,undef,sv,.tuple #[],.pointer (some ⟨bb,0,none⟩),.pointer (some ⟨bb,0,none⟩),.pointer (some ⟨bb,0,none⟩),undef,undef,undef,undef,undef,undef,undef]) 0 3 2 (rest:=[3,4]) hA rfl rfl rfl (by rfl) ?_ λw hA=>?_
 . intro wc hB X hX;have HX:=Lib.hid hX;clear hX;go_wp2;exact HX.out _ (Ext1.refl _)
 obtain⟨m2,hmB,hAt⟩:=hA;have hrep:=Z.rep hAt.1;have hld:zq19 Try.prog Z.J 50 #[.pointer (some ⟨bb,0,none⟩)] (λs' e w'=>s'=s/\w'=w/\e=.returned (ptrOf (boxP m2.l.1))) s w:=λcl cs h1 _=>by
  obtain⟨Kc,hJ⟩:=Z.js s;refine zq7r hJ hrep.core.1.box (λb hb=>?_) (h1 s _ w ⟨rfl,rfl,rfl⟩);unfold boxP at hb;cases e:m2.l.1.1 with
  |none=>rw[e]at hb;cases hb
  |some p=>rw[e]at hb;cases hb;exact⟨p.2,(hrep.core.1.val p.1 p.2 e).2⟩
 refine YSys.callO (Y:=Z.sys I) hld rfl rfl rfl (λw=>?_) (λw=>?_) ?_
 . simp[go_sem,execOp,Act.eval,resolve,Deferred.ofValue,invoke,callFunc,Try.func50,Try.f50]
 . simp[go_sem,execOp,Act.eval,resolve,Deferred.ofValue,invoke,callFunc,Try.func50,Try.f50]
 clear hld;rintro s' e w' ⟨rfl,rfl,rfl⟩;have hA:(Z.sys I).AtB B s' w' ((Proc.act λ(s:BoxS×S2)=>(s,s.1.1)).bind λo=>(Proc.ret (o.getD noStr,o.isSome)).bind K):=⟨m2,hmB,hAt⟩;cases hbx:m2.l.1.1 with
 |none=>
  have hp:ptrOf (boxP m2.l.1)=.pointer none:=by unfold boxP ptrOf;rw[hbx];rfl
  rw[hp];have hAc:(Z.sys I).AtB B s' w' (K (noStr,false)):=by
   refine⟨m2,hmB,?_,hAt.2⟩;have h1:=hAt.1;rw[Proc.bind_act]at h1;have e0:((zq7 (zqr bb) D).st m2.l).1.1=none:=by show m2.l.1.1.map (·.2)=none;rw[hbx];rfl
   simp only[e0]at h1;exact h1
  clear hA hAt hrep hbx hp hmB;apply YSys.ops0 (Y:=Z.sys I) 4 1 hAc rfl rfl (by kernel_rfl)
  . intro wc hB;go_wp2;exact⟨rfl,Ext1.refl _,rfl⟩
  intro w hA;show wpJ Z.J _ _ _ _ _;refine zqh hJC ?_;apply YSys.code0 (Y:=Z.sys I) hA (by kernel_rfl)
  . intro wc hB;go_wp2;exact⟨rfl,Ext1.refl _,rfl⟩
  intro w hA;show wpJ Z.J _ _ _ _ _;refine zqx hJC rfl ?_;rw[if_neg (by decide)];refine zq1e hJC ?_;show wpJ Z.J _ _ _ _ _;apply YSys.seq0 (Y:=Z.sys I) hA (by kernel_rfl)
  . intro wc hB;go_wp2;exact⟨rfl,Ext1.refl _,rfl⟩
  intro w hA;refine zq1b hJC ?_;exact⟨rfl,.inl ⟨_,resultsC_tmp2 rfl _,(noStr,false),hA.choose,rfl,hA.choose_spec⟩⟩
 |some p=>
  obtain⟨b2,x2⟩:=p;have hp:ptrOf (boxP m2.l.1)=.pointer (some ⟨b2,0,none⟩):=by unfold boxP ptrOf;rw[hbx];rfl
  rw[hp];have hAc:Z.AtE s' m2 w' (K (x2,true) ((zq7 (zqr bb) D).st m2.l)):=by
   have h1:=hAt.1;rw[Proc.bind_act]at h1;have e0:((zq7 (zqr bb) D).st m2.l).1.1=some x2:=by show m2.l.1.1.map (·.2)=some x2;rw[hbx];rfl
   simp only[e0]at h1;exact h1
  have HI:=Lib.hid (And.intro hAt.2 (And.intro hbx hmB));clear hA hAt hrep hbx hp hmB;refine Alone.keepI Z (t':=#[.pointer (some ⟨bb,0,none⟩),sv,undef,undef,.string {data:=#[]},.bool false,.string {data:=#[]},.pointer (some ⟨b2,0,none⟩),.pointer (some ⟨bb,0,none⟩),.bool false,undef,sv,.tuple #[],.pointer (some ⟨bb,0,none⟩),.pointer (some ⟨bb,0,none⟩),.pointer (some ⟨bb,0,none⟩),.pointer (some ⟨b2,0,none⟩),undef,undef,undef,undef,undef,undef]) (e0:=true) hAc (by kernel_rfl) (λwc hB=>?_) λw hAc=>?_
  . refine zq3l 4 1 rfl rfl ?_;simp only[List.drop_succ_cons,List.drop_zero];go_wp2
    first|exact⟨rfl,Ext.refl _,rfl,trivial⟩|exact⟨rfl,Ext.refl _,rfl⟩
  show wpJ Z.J _ _ _ _ _;refine zqh hJC ?_;refine Alone.keepI Z (it:=.code _) (t':=#[.pointer (some ⟨bb,0,none⟩),sv,undef,undef,.string {data:=#[]},.bool false,.string {data:=#[]},.pointer (some ⟨b2,0,none⟩),.pointer (some ⟨bb,0,none⟩),.bool false,undef,sv,.tuple #[],.pointer (some ⟨bb,0,none⟩),.pointer (some ⟨bb,0,none⟩),.pointer (some ⟨bb,0,none⟩),.pointer (some ⟨b2,0,none⟩),.pointer (some ⟨b2,0,none⟩),.bool true,undef,undef,undef,undef]) (e0:=true) hAc (by kernel_rfl) (λwc hB=>?_) λw hAc=>?_
  . refine zq46 ?_;go_wp2
    first|exact⟨rfl,Ext.refl _,rfl,trivial⟩|exact⟨rfl,Ext.refl _,rfl⟩
  show wpJ Z.J _ _ _ _ _;refine zqx hJC rfl ?_;rw[if_pos rfl];refine Alone.keepI Z (it:=.code _) (t':=#[.pointer (some ⟨bb,0,none⟩),sv,undef,undef,.string x2,.bool true,.string {data:=#[]},.pointer (some ⟨b2,0,none⟩),.pointer (some ⟨bb,0,none⟩),.bool false,undef,sv,.tuple #[],.pointer (some ⟨bb,0,none⟩),.pointer (some ⟨bb,0,none⟩),.pointer (some ⟨bb,0,none⟩),.pointer (some ⟨b2,0,none⟩),.pointer (some ⟨b2,0,none⟩),.bool true,.pointer (some ⟨b2,0,none⟩),.pointer (some ⟨b2,0,none⟩),.string x2,undef]) (e0:=false) hAc (by kernel_rfl) (λwc hB=>?_) λw hAc=>?_
  . have hv:=(hB.core.1.val b2 x2 HI.out.2.1).2;have c0:wc.cell? ⟨b2,0,none⟩=some (.string x2):=(zq0 hv).trans rfl;clear hv;refine zq46 ?_;go_wp2
    first|exact⟨rfl,Ext.refl _,rfl,trivial⟩|exact⟨rfl,Ext.refl _,rfl⟩
  exact⟨rfl,.inl ⟨_,resultsC_tmp2 rfl _,(x2,true),m2,rfl,HI.out.2.2,hAc,HI.out.1⟩⟩
end
end Go.Proofs
namespace Go.Car
open Go Go.Conc Go.RowKit
section
variable {P:Program} {A:FuncId->Bool} {Ml S α:Type} {C:Core Ml S} {ro:Nat->Option Obj} {i:Nat}
end
theorem jU0{P:Program}{Fin:Machine->Trace->Prop}(hFin:Back P Fin)(n:Nat):JS P true (λ_=>none) (λ(_:Unit)=>J0 P Fin n):=⟨λ_ g w τ d h=>(j0_JS hFin).re' n g w τ d h,λ_ g w h1 h2=>(j0_JS hFin).step n g w h1 h2⟩
theorem jC0{P:Program}{Fin:Machine->Trace->Prop}(hFin:Back P Fin)(n:Nat):CalmJ P true (λ(_:Unit)=>J0 P Fin n):=λ_ fr cs w h=>zq2i hFin n fr cs w h
end Go.Car
namespace Go.Proofs
open Go Go.Conc Go.RowKit Go.Car
section
variable {Ml S β:Type} {C:Core Ml S} {ro:Nat->Option Obj} {i:Nat} {A:FuncId->Bool}
end
section
variable {Fin:Machine->Trace->Prop} (hFin:Back Try.prog Fin) {n bb kb c:Nat} {W w:World} {o:Option ByteArray} {cl:Frame} {cs:List Frame}
include hFin
end
end Go.Proofs
namespace Go.Proofs
open Go Go.Conc Go.RowKit Go.Car
open Go.ConcN (upd upd_ne upd_same)
abbrev ResS:=(Nat->ByteArray)×(Nat->Bool)
def gotA(n:Nat)(g:Nat->ByteArray):Array Value:=((List.range n).map λj=>Value.string (g j)).toArray
def wonA(n:Nat)(g:Nat->Bool):Array Value:=((List.range n).map λj=>Value.bool (g j)).toArray
theorem zq3s{n j:Nat}{g:Nat->ByteArray}(h:j<n):(gotA n g)[j]?=some (.string (g j)):=by
 unfold gotA;rw[al_gl,List.getElem?_map,List.getElem?_range h];rfl
theorem zq3k{n j:Nat}{g:Nat->Bool}(h:j<n):(wonA n g)[j]?=some (.bool (g j)):=by
 unfold wonA;rw[al_gl,List.getElem?_map,List.getElem?_range h];rfl
theorem gotA_set{n j:Nat}{g:Nat->ByteArray}(x:ByteArray):(gotA n g).setIfInBounds j (.string x)=gotA n (upd' g j x):=by
 apply Array.ext_getElem?;intro k;rw[al_gs]
 by_cases hk:k<n
 . rw[zq3s hk,zq3s hk]
   by_cases e:j=k
   . subst e;rw[if_pos rfl,if_pos (by unfold gotA;simpa using hk),upd'_same]
   . rw[if_neg e,zqj _ _ (λx=>e x.symm)]
 . have e1:∀f:Nat->ByteArray,(gotA n f)[k]?=none:=λf=>by unfold gotA;simp[hk]
   rw[e1,e1]
   by_cases e:j=k
   . subst e;rw[if_pos rfl,if_neg (by unfold gotA;simpa using hk)]
   . rw[if_neg e]
theorem wonA_set{n j:Nat}{g:Nat->Bool}(x:Bool):(wonA n g).setIfInBounds j (.bool x)=wonA n (upd' g j x):=by
 apply Array.ext_getElem?;intro k;rw[al_gs]
 by_cases hk:k<n
 . rw[zq3k hk,zq3k hk]
   by_cases e:j=k
   . subst e;rw[if_pos rfl,if_pos (by unfold wonA;simpa using hk),upd'_same]
   . rw[if_neg e,zqj _ _ (λx=>e x.symm)]
 . have e1:∀f:Nat->Bool,(wonA n f)[k]?=none:=λf=>by unfold wonA;simp[hk]
   rw[e1,e1]
   by_cases e:j=k
   . subst e;rw[if_pos rfl,if_neg (by unfold wonA;simpa using hk)]
   . rw[if_neg e]
structure ResRep(gb wb n:Nat)(l:ResS)(w:World):Prop where
 got:w.heap[gb]?=some (.cells (gotA n l.1) 9)
 won:w.heap[wb]?=some (.cells (wonA n l.2) 4)
 ne:gb≠wb
def zq18(gb wb n:Nat):Core ResS ResS where
 foot _ b:=b=gb\/b=wb
 Rep:=ResRep gb wb n
 st l:=l
 frame l w w' h hs:=⟨(hs gb (.inl rfl)).trans h.got,(hs wb (.inr rfl)).trans h.won,h.ne⟩
 lt l w b h hb:=by
  rcases hb with rfl |rfl
  . exact zqs h.got
  . exact zqs h.won
 pin _:=0
section
variable {M1 S1:Type} {C:Core M1 S1} {ro:Nat->Option Obj} {i gb wb n:Nat} {m:BM (M1×ResS)} {wc:World}
theorem zqci(hB:BRep (zq7 C (zq18 gb wb n)) ro m wc)(j:Nat)(x:ByteArray):Moved (zq7 C (zq18 gb wb n)) m.l (m.box i) wc (m.l.1,(upd' m.l.2.1 j x,m.l.2.2)) (m.box i) (wc.setCell ⟨gb,j,none⟩ (.string x)):=by
 have hS:=hB.core.2.1;have hold:∀b,b≠gb->(wc.setCell ⟨gb,j,none⟩ (.string x)).heap[b]?=wc.heap[b]?:=λb e=>zqi _ _ _ _ e;refine Moved.right hB ⟨by rw[zq13];exact Nat.le_refl _,λb hb h1 h2=>hold b λe=>h1 (.inl e),⟨?_,(hold wb (Ne.symm hS.ne)).trans hS.won,hS.ne⟩,λb o hb=>?_,λb hb=>.inl hb,λb hb=>.inl hb,λb hb=>Classical.byContradiction λx=>hB.apart i b x (.inr hb),rfl⟩
 . rw[zqy _ _ _ _ hS.got,gotA_set]
 . rw[hold b λe=>hB.apart i b (by rw[hb];simp) (.inr (.inl e))];exact hB.box i b o hb
theorem zqke(hB:BRep (zq7 C (zq18 gb wb n)) ro m wc)(j:Nat)(x:Bool):Moved (zq7 C (zq18 gb wb n)) m.l (m.box i) wc (m.l.1,(m.l.2.1,upd' m.l.2.2 j x)) (m.box i) (wc.setCell ⟨wb,j,none⟩ (.bool x)):=by
 have hS:=hB.core.2.1;have hold:∀b,b≠wb->(wc.setCell ⟨wb,j,none⟩ (.bool x)).heap[b]?=wc.heap[b]?:=λb e=>zqi _ _ _ _ e;refine Moved.right hB ⟨by rw[zq13];exact Nat.le_refl _,λb hb h1 h2=>hold b λe=>h1 (.inr e),⟨(hold gb hS.ne).trans hS.got,?_,hS.ne⟩,λb o hb=>?_,λb hb=>.inl hb,λb hb=>.inl hb,λb hb=>Classical.byContradiction λx=>hB.apart i b x (.inr hb),rfl⟩
 . rw[zqy _ _ _ _ hS.won,wonA_set]
 . rw[hold b λe=>hB.apart i b (by rw[hb];simp) (.inr (.inr e))];exact hB.box i b o hb
end
def thrB(i:Nat)(v:ByteArray):Proc (BoxS×ResS) Unit:=(setB i v).bind λa=>Proc.act λs=>((s.1,(upd' s.2.1 i a.1,upd' s.2.2 i a.2)),())
def ownB(i:Nat)(s:BoxS×ResS):Bool×ByteArray×Bool:=(s.1.2 i,s.2.1 i,s.2.2 i)
theorem zq6q(n:Nat)(st:Nat)(w:World):(Go.method (n+1) 141 (.pointer (some ⟨st,0,none⟩)) "Step").run Try.prog w=.ok (130,.pointer (some ⟨st,0,none⟩)) w:=by kernel_rfl
theorem zq6r(n:Nat)(st:Nat)(w:World)(es:Array Event):(Go.method (n+1) 141 (.pointer (some ⟨st,0,none⟩)) "Step").events Try.prog w es=es:=by kernel_rfl
section
variable {Ml S β:Type} {C:Core Ml S} {ro:Nat->Option Obj} {i:Nat} {A:FuncId->Bool}
theorem zqbe(Y:YSys Try.prog A C ro i β){st:Nat}(h:StepY Y 130 #[.pointer (some ⟨st,0,none⟩)]):StepY Y 48 #[.iface 141 (.pointer (some ⟨st,0,none⟩))]:=by
 intro K s m w hA;refine BodyY.calls ⟨_,_,Try.func48,rfl,?_⟩;simp only[zqk,Try.ntmps48,List.size_toArray,List.length_cons,List.length_nil,Nat.reduceAdd,Nat.reduceSub,Array.replicate_succ,Array.replicate_zero,List.push_toArray,List.append_toArray,List.nil_append,List.cons_append];have hA:Y.AtB (m.box i) s w (Proc.tick.bind K):=⟨m,rfl,hA⟩;obtain⟨B,hB0⟩:∃B,m.box i=B:=⟨_,rfl⟩;rw[hB0]at hA |-;clear hB0;apply YSys.seq0 hA (by kernel_rfl)
 . intro wc hB;go_wp2;exact⟨rfl,Ext1.refl _,rfl⟩
 intro w hA;refine zqx Y.jc rfl ?_;rw[if_pos rfl];refine zqv Y.jc ?_;apply YSys.callS 0 1 0 hA h rfl rfl rfl (by rfl) rfl rfl rfl
 . intro wc hB X hX;have HX:=Lib.hid hX;clear hX;go_wp2;exact HX.out _ (Ext1.refl _)
 . intro w;simp[go_sem,execOp,Act.eval,resolve,Deferred.ofValue,invoke,callFunc,zq6q,zq6r,Try.func130,Try.f130]
 . intro w;simp[go_sem,execOp,Act.eval,resolve,Deferred.ofValue,invoke,callFunc,zq6q,zq6r,Try.func130,Try.f130]
 . intro s' ch w' h;exact⟨rfl,h⟩
 intro s w hA;refine zq17 Y.jc ?_;exact⟨rfl,.inl ⟨_,resultsC_none rfl _,(),hA.choose,rfl,hA.choose_spec⟩⟩
end
structure BoxRo(ro:Nat->Option Obj)(bb gb wb N i tb vb kb g1 w1 vl vC:Nat)(vp:Option Addr)(v:ByteArray):Prop where
 b1:ro tb=some (.cells #[.pointer (some ⟨bb,0,none⟩)] 60)
 b2:ro vb=some (.cells #[.slice vp vl vC] 59)
 b3:ro kb=some (.cells #[.int .i64 i] 3)
 b4:ro g1=some (.cells #[.slice (some ⟨gb,0,none⟩) N N] 59)
 b5:ro w1=some (.cells #[.slice (some ⟨wb,0,none⟩) N N] 62)
 lt:i<N/\N<=6/\i<vl
 val:∃g off cur e fr,vp=some ⟨g,off,none⟩/\ro g=some (.cells cur e fr)/\cur[off+i]?=some (.string v)
noncomputable def bxOps:Array Oper:=match Try.f20.body with
 |some (.region _ ops _)=>ops
 |_=>#[]
theorem bx_body:Try.f20.body=some (.region 0 bxOps true):=by kernel_rfl
def zq3p(sv:Value)(bb gb wb N i vl vC:Nat)(g off:Nat)(v:ByteArray)(a:ByteArray×Bool):List Value:=
 [.slice (some ⟨gb,0,none⟩) N N,.int .i64 i,.slice (some ⟨wb,0,none⟩) N N,.int .i64 i,.pointer (some ⟨bb,0,none⟩),sv,.slice (some ⟨g,off,none⟩) vl vC,.int .i64 i,.pointer (some ⟨g,off+i,none⟩),.string v,strV a,strV a,.string a.1,.bool a.2,.pointer (some ⟨gb,i,none⟩),undef,.pointer (some ⟨wb,i,none⟩),undef]
structure BxT(sv:Value)(bb gb wb N i vl vC g off tb vb kb g1 w1:Nat)(v:ByteArray)(a:ByteArray×Bool)(L:Nat->Bool)(T:Array Value):Prop where
 sz:T.size=23
 par:T[0]?=some sv/\T[1]?=some (.pointer (some ⟨tb,0,none⟩))/\T[2]?=some (.pointer (some ⟨vb,0,none⟩))/\T[3]?=some (.pointer (some ⟨kb,0,none⟩))/\T[4]?=some (.pointer (some ⟨g1,0,none⟩))/\T[5]?=some (.pointer (some ⟨w1,0,none⟩))
 val:∀j d x,L j=true->dstOf bxOps j=some d->(zq3p sv bb gb wb N i vl vC g off v a)[j]?=some x->T[d]?=some x
theorem zq4e:bxOps.size=18:=by kernel_rfl
theorem zqw(j:Nat):dstOf bxOps j=[some 8,some 9,some 10,some 11,some 12,some 13,some 14,some 15,some 16,some 17,some 18,some 7,some 19,some 20,some 21,none,some 22,none].getD j none:=by
 by_cases h:j<18
 . have:∀j,j<18->dstOf bxOps j=[some 8,some 9,some 10,some 11,some 12,some 13,some 14,some 15,some 16,some 17,some 18,some 7,some 19,some 20,some 21,none,some 22,none].getD j none:=by
    have e:((List.range 18).all λj=>dstOf bxOps j==[some 8,some 9,some 10,some 11,some 12,some 13,some 14,some 15,some 16,some 17,some 18,some 7,some 19,some 20,some 21,none,some 22,none].getD j none)=true:=by kernel_rfl
    intro j hj;rw[List.all_eq_true]at e;simpa using e j (List.mem_range.2 hj)
   exact this j h
 . have e1:bxOps[j]?=none:=Array.getElem?_eq_none (by rw[zq4e];omega);unfold dstOf;rw[e1,List.getD_eq_getElem?_getD,List.getElem?_eq_none (by simp;omega)];rfl
theorem bx_inj{j k d:Nat}(h1:dstOf bxOps j=some d)(h2:dstOf bxOps k=some d):j=k/\6<d/\d<23:=by
 have key:((List.range 18).all λj=>(List.range 18).all λk=>match dstOf bxOps j,dstOf bxOps k with
  |some a,some b=>(a !=b || j==k)&&decide (6<a)&&decide (a<23)
  |_,_=>true)=true:=by kernel_rfl
 have lt:∀j,dstOf bxOps j=some d->j<18:=λj h=>by
  refine Classical.byContradiction λhn=>?_;have e1:bxOps[j]?=none:=Array.getElem?_eq_none (by rw[zq4e];omega);unfold dstOf at h;rw[e1]at h;cases h
 rw[List.all_eq_true]at key;have k1:=key j (List.mem_range.2 (lt j h1));rw[List.all_eq_true]at k1;have k2:=k1 k (List.mem_range.2 (lt k h2));rw[h1,h2]at k2;simp only[bne_self_eq_false,Bool.false_or,Bool.and_eq_true,beq_iff_eq,decide_eq_true_eq]at k2;exact⟨k2.1.1,k2.1.2,k2.2⟩
section
variable {sv:Value} {bb gb wb N i vl vC g off tb vb kb g1 w1:Nat} {v:ByteArray} {a:ByteArray×Bool} {L:Nat->Bool} {T:Array Value}
theorem BxT.set (h:BxT sv bb gb wb N i vl vC g off tb vb kb g1 w1 v a L T){j d:Nat}{x:Value}(hd:dstOf bxOps j=some d)(hx:(zq3p sv bb gb wb N i vl vC g off v a)[j]?=some x):BxT sv bb gb wb N i vl vC g off tb vb kb g1 w1 v a (upd L j true) (T.setIfInBounds d x):=by
 obtain⟨-,d6,d23⟩:=bx_inj hd hd;obtain⟨p0,p1,p2,p3,p4,p5⟩:=h.par;refine⟨by simpa using h.sz,⟨?_,?_,?_,?_,?_,?_⟩,λk e y hl hk hy=>?_⟩
 . rw[al_gn (by omega)];exact p0
 . rw[al_gn (by omega)];exact p1
 . rw[al_gn (by omega)];exact p2
 . rw[al_gn (by omega)];exact p3
 . rw[al_gn (by omega)];exact p4
 . rw[al_gn (by omega)];exact p5
 . by_cases e2:k=j
   . subst e2;rw[hd]at hk;cases hk;rw[hx]at hy;cases hy;rw[al_gs,if_pos rfl,if_pos (by rw[h.sz];exact d23)]
   . have hne:d≠e:=λe3=>by subst e3;exact e2 (bx_inj hk hd).1
     rw[upd_ne _ _ e2]at hl;rw[al_gn hne];exact h.val k e y hl hk hy
theorem BxT.skip (h:BxT sv bb gb wb N i vl vC g off tb vb kb g1 w1 v a L T){j:Nat}(hd:dstOf bxOps j=none):BxT sv bb gb wb N i vl vC g off tb vb kb g1 w1 v a (upd L j true) T:=
 ⟨h.sz,h.par,λk e y hl hk hy=>by
  by_cases e2:k=j
  . subst e2;rw[hd]at hk;cases hk
  . rw[upd_ne _ _ e2]at hl;exact h.val k e y hl hk hy⟩
theorem BxT.anew (h:BxT sv bb gb wb N i vl vC g off tb vb kb g1 w1 v a L T)(hL:∀j,j=10\/j=11\/j=12\/j=13->L j=false)(a':ByteArray×Bool):BxT sv bb gb wb N i vl vC g off tb vb kb g1 w1 v a' L T:=
 ⟨h.sz,h.par,λj d x hl hd hx=>by
  have hj:¬(j=10\/j=11\/j=12\/j=13):=λhn=>by rw[hL j hn]at hl;cases hl
  refine h.val j d x hl hd ?_;rw[<-hx]
  by_cases h18:j<18
  . obtain rfl |rfl |rfl |rfl |rfl |rfl |rfl |rfl |rfl |rfl |rfl |rfl |rfl |rfl:j=0\/j=1\/j=2\/j=3\/j=4\/j=5\/j=6\/j=7\/j=8\/j=9\/j=14\/j=15\/j=16\/j=17:=by omega
    all_goals rfl
  . rw[List.getElem?_eq_none (by simp[zq3p];omega),List.getElem?_eq_none (by simp[zq3p];omega)]⟩
end
theorem zq54{α:Type}(f:Nat->α){i:Nat}{x:α}(h:f i=x):upd' f i x=f:=by
 funext j
 unfold upd';split
 . next e=>rw[e,h]
 . rfl
section
variable {ro:Nat->Option Obj} {pr:Nat->Proc (BoxS×ResS) Unit} {st:Nat} {cr:Frame} {rest:List Frame} {NE EN:List PanicEntry->Prop} {i bb gb wb N:Nat}
noncomputable abbrev bxZ(ro:Nat->Option Obj)(pr:Nat->Proc (BoxS×ResS) Unit)(st:Nat)(cr:Frame)(rest:List Frame)(NE EN:List PanicEntry->Prop)(i bb gb wb N:Nat):Alone Try.prog aMB (zq7 (zqr bb) (zq18 gb wb N)) ro i Unit:=
 zq45 zq20 rowsMB (zq7 (zqr bb) (zq18 gb wb N)) ownB ro pr 130 (.pointer (some ⟨st,0,none⟩)) cr rest NE EN i
def bxIq(i:Nat)(o:ByteArray×Bool)(q:Bool)(s:BoxS×ResS):Prop:=ownB i s=(q,o)
theorem bx_env(o:ByteArray×Bool):BoxEnv (bxZ ro pr st cr rest NE EN i bb gb wb N) (bxIq i o) (.iface 141 (.pointer (some ⟨st,0,none⟩))) where
 step q:=zqbe _ (zqap zq20 rowsMB (q,o))
 seen q s h:=(Prod.mk.inj h).1
 keep q s x h:=h
 look q s h:=by
  unfold bxIq ownB at h |-;rw[Prod.mk.injEq]at h;rw[Prod.mk.injEq];exact⟨upd'_same _ _ _,h.2⟩
 oth1 s x j hj:=rfl
 oth2 s j hj:=by
  show(upd' s.1.2 i true j,_)=_;rw[zqj _ _ hj];rfl
structure BxDone(ro:Nat->Option Obj)(pr:Nat->Proc (BoxS×ResS) Unit)(st:Nat)(cr:Frame)(rest:List Frame)(NE EN:List PanicEntry->Prop)(i bb gb wb N:Nat)(a:ByteArray×Bool)(L:Nat->Bool)(s:Turn Try.prog (BoxM×ResS) (BoxS×ResS))(w:World)(m:BM (BoxM×ResS))(r0:BoxS×ResS):Prop where
 at':(bxZ ro pr st cr rest NE EN i bb gb wb N).AtE s m w (r0,.ret ())
 b:r0.1=((zq7 (zqr bb) (zq18 gb wb N)).st m.l).1
 got:r0.2.1=upd' m.l.2.1 i a.1
 won:r0.2.2=upd' m.l.2.2 i a.2
 g:L 15=true->m.l.2.1 i=a.1
 w:L 17=true->m.l.2.2 i=a.2
def zqu(j:Nat):Prop:=j=10\/j=11\/j=12\/j=13\/j=15\/j=17
def BxI(ro:Nat->Option Obj)(pr:Nat->Proc (BoxS×ResS) Unit)(st:Nat)(cr:Frame)(rest:List Frame)(NE EN:List PanicEntry->Prop)(i bb gb wb N:Nat)(o:ByteArray×Bool)(sv:Value)(vl vC g off tb vb kb g1 w1:Nat)(v:ByteArray)(s:Turn Try.prog (BoxM×ResS) (BoxS×ResS))(L:Nat->Bool)(T:Array Value)(w:World):Prop:=
 ∃a,BxT sv bb gb wb N i vl vC g off tb vb kb g1 w1 v a L T/\
  (((∀j,zqu j->L j=false)/\∃B,((bxZ ro pr st cr rest NE EN i bb gb wb N).sys (bxIq i o false)).AtB B s w ((thrB i v).bind Proc.ret))\/
    (L 10=true/\∃m r0,BxDone ro pr st cr rest NE EN i bb gb wb N a L s w m r0))
variable {o:ByteArray×Bool} {sv:Value} {vl vC g off tb vb kb g1 w1:Nat} {v:ByteArray} {s:Turn Try.prog (BoxM×ResS) (BoxS×ResS)} {L:Nat->Bool} {T:Array Value} {w:World}
theorem BxDone.re {a:ByteArray×Bool}{m:BM (BoxM×ResS)}{r0:BoxS×ResS}(h:BxDone ro pr st cr rest NE EN i bb gb wb N a L s w m r0)(τ:Nat->Question->Nat)(d:Nat):BxDone ro pr st cr rest NE EN i bb gb wb N a L s (Car.re w τ d) m r0:=by
 have h3:=(bxZ ro pr st cr rest NE EN i bb gb wb N).move h.at' (Moved.ext ((bxZ ro pr st cr rest NE EN i bb gb wb N).rep h.at') (Ext.re w τ d)) ((bxZ ro pr st cr rest NE EN i bb gb wb N).oth _);rw[BM.put_same]at h3;exact⟨h3,h.b,h.got,h.won,h.g,h.w⟩
theorem BxI.re (h:BxI ro pr st cr rest NE EN i bb gb wb N o sv vl vC g off tb vb kb g1 w1 v s L T w)(τ:Nat->Question->Nat)(d:Nat):BxI ro pr st cr rest NE EN i bb gb wb N o sv vl vC g off tb vb kb g1 w1 v s L T (Car.re w τ d):=by
 obtain⟨a,h1,⟨h2,B,h3⟩|⟨h2,m,r0,h3⟩⟩:=h
 . exact⟨a,h1,.inl ⟨h2,B,Alone.re _ h3 τ d⟩⟩
 . exact⟨a,h1,.inr ⟨h2,m,r0,h3.re τ d⟩⟩
theorem BxI.rep (h:BxI ro pr st cr rest NE EN i bb gb wb N o sv vl vC g off tb vb kb g1 w1 v s L T w){b:Nat}{x:Obj}(hb:ro b=some x):w.heap[b]?=some x:=by
 obtain⟨a,h1,⟨h2,B,m,_,h3,_⟩|⟨h2,m,r0,h3⟩⟩:=h
 . exact((bxZ ro pr st cr rest NE EN i bb gb wb N).rep h3).rod b x hb
 . exact((bxZ ro pr st cr rest NE EN i bb gb wb N).rep h3.at').rod b x hb
theorem BxI.read {a:ByteArray×Bool}{j d:Nat}{x:Value}(h1:BxT sv bb gb wb N i vl vC g off tb vb kb g1 w1 v a L T)
 (h2:(((∀j,zqu j->L j=false)/\∃B,((bxZ ro pr st cr rest NE EN i bb gb wb N).sys (bxIq i o false)).AtB B s w ((thrB i v).bind Proc.ret))\/
  (L 10=true/\∃m r0,BxDone ro pr st cr rest NE EN i bb gb wb N a L s w m r0)))
 (hj:j≠15/\j≠17) (hl:zqu j->L 10=true) (hd:dstOf bxOps j=some d) (hx:(zq3p sv bb gb wb N i vl vC g off v a)[j]?=some x):
 BxI ro pr st cr rest NE EN i bb gb wb N o sv vl vC g off tb vb kb g1 w1 v s (upd L j true) (T.setIfInBounds d x) w:=by
 refine⟨a,h1.set hd hx,?_⟩;rcases h2 with⟨h2,h3⟩|⟨h2,m,r0,h3⟩
 . refine .inl ⟨λk hk=>?_,h3⟩
   by_cases e:k=j
   . subst e;have:=hl hk;rw[h2 10 (.inl rfl)]at this;cases this
   . rw[upd_ne _ _ e];exact h2 k hk
 . have up:∀k,k≠j->upd L j true k=L k:=λk e=>upd_ne _ _ e;refine .inr ⟨?_,m,r0,h3.at',h3.b,h3.got,h3.won,λh=>h3.g (by rw[<-up 15 hj.1.symm];exact h),λh=>h3.w (by rw[<-up 17 hj.2.symm];exact h)⟩
   by_cases e:10=j
   . rw[<-e,upd_same]
   . rw[up 10 e];exact h2
theorem BxDone.sgot {a:ByteArray×Bool}{m:BM (BoxM×ResS)}{r0:BoxS×ResS}(h:BxDone ro pr st cr rest NE EN i bb gb wb N a L s w m r0):BxDone ro pr st cr rest NE EN i bb gb wb N a (upd L 15 true) s (w.setCell ⟨gb,i,none⟩ (.string a.1)) (m.put i (m.l.1,(upd' m.l.2.1 i a.1,m.l.2.2)) (m.box i)) r0:=by
 have hB:=(bxZ ro pr st cr rest NE EN i bb gb wb N).rep h.at';refine⟨(bxZ ro pr st cr rest NE EN i bb gb wb N).move h.at' (zqci hB i a.1) λj hj=>?_,h.b,?_,h.won,λ_=>upd'_same _ _ _,λhL=>h.w (by rw[upd_ne _ _ (by decide)]at hL;exact hL)⟩
 . show(_,upd' m.l.2.1 i a.1 j,_)=(_,m.l.2.1 j,_);rw[zqj _ _ hj];rfl
 . rw[h.got];exact(zq54 _ (upd'_same _ _ _)).symm
theorem BxDone.swon {a:ByteArray×Bool}{m:BM (BoxM×ResS)}{r0:BoxS×ResS}(h:BxDone ro pr st cr rest NE EN i bb gb wb N a L s w m r0):BxDone ro pr st cr rest NE EN i bb gb wb N a (upd L 17 true) s (w.setCell ⟨wb,i,none⟩ (.bool a.2)) (m.put i (m.l.1,(m.l.2.1,upd' m.l.2.2 i a.2)) (m.box i)) r0:=by
 have hB:=(bxZ ro pr st cr rest NE EN i bb gb wb N).rep h.at';refine⟨(bxZ ro pr st cr rest NE EN i bb gb wb N).move h.at' (zqke hB i a.2) λj hj=>?_,h.b,h.got,?_,λhL=>h.g (by rw[upd_ne _ _ (by decide)]at hL;exact hL),λ_=>upd'_same _ _ _⟩
 . show(_,_,upd' m.l.2.2 i a.2 j)=(_,_,m.l.2.2 j);rw[zqj _ _ hj];rfl
 . rw[h.won];exact(zq54 _ (upd'_same _ _ _)).symm
end
section
variable {ro:Nat->Option Obj} {pr:Nat->Proc (BoxS×ResS) Unit} {st:Nat} {cr:Frame} {rest:List Frame} {NE EN:List PanicEntry->Prop} {i bb gb wb N:Nat} {vl vC tb vb kb g1 w1:Nat} {vp:Option Addr} {v:ByteArray}
theorem zqbg(hR:BoxRo ro bb gb wb N i tb vb kb g1 w1 vl vC vp v)(s:Turn Try.prog (BoxM×ResS) (BoxS×ResS))(m:BM (BoxM×ResS))(w:World)
 (hA:TurnAt Try.prog (zq7 (zqr bb) (zq18 gb wb N)) ownB ro pr 130 (.pointer (some ⟨st,0,none⟩)) cr rest NE EN i s m w ((thrB i v).bind Proc.ret ((zq7 (zqr bb) (zq18 gb wb N)).st m.l))) {o:ByteArray×Bool} (ho:ownB i ((zq7 (zqr bb) (zq18 gb wb N)).st m.l)=(false,o)):
 zq19 Try.prog (λ(s:Turn Try.prog (BoxM×ResS) (BoxS×ResS))=>s.J) 20 #[.iface 141 (.pointer (some ⟨st,0,none⟩)),.pointer (some ⟨tb,0,none⟩),.pointer (some ⟨vb,0,none⟩),.pointer (some ⟨kb,0,none⟩),.pointer (some ⟨g1,0,none⟩),.pointer (some ⟨w1,0,none⟩)] (λs e w=>match e with
  |.returned _=>∃m',TurnAt Try.prog (zq7 (zqr bb) (zq18 gb wb N)) ownB ro pr 130 (.pointer (some ⟨st,0,none⟩)) cr rest NE EN i s m' w ((zq7 (zqr bb) (zq18 gb wb N)).st m'.l,.ret ())
  |.panicked ch=>s.J (G (cr.raise ch) rest) w
  |.outgrown=>False) s w:=by
 have hJC:JC Try.prog false (λ(s:Turn Try.prog (BoxM×ResS) (BoxS×ResS))=>s.J):=((bxZ ro pr st cr rest NE EN i bb gb wb N).sys (λ_=>True)).jc;obtain⟨g,off,cur,et,fr,rfl,hg,hcur⟩:=hR.val;refine zq5b (Bd:=λs a w=>a.defers=[]/\∃m',TurnAt Try.prog (zq7 (zqr bb) (zq18 gb wb N)) ownB ro pr 130 (.pointer (some ⟨st,0,none⟩)) cr rest NE EN i s m' w ((zq7 (zqr bb) (zq18 gb wb N)).st m'.l,.ret ())) hJC Try.func20 bx_body ?_ ?_
 . rintro s a w b cl cs todo ⟨hd,m',h⟩ hbf hbk hp;exact hJC.ctl (λw=>stepG_leave hbk hd (by rw[hbf];exact Try.func20) (resultsC_none rfl _ w).1 (resultsC_none rfl _ w).2) (hp _ _ _ ⟨m',h⟩)
 simp only[zqk,Try.ntmps20,List.size_toArray,List.length_cons,List.length_nil,Nat.reduceAdd,Nat.reduceSub,Array.replicate_succ,Array.replicate_zero,List.push_toArray,List.append_toArray,List.nil_append,List.cons_append];intro b kk cs hb hQ;obtain⟨os,hos⟩:∃os,bxOps=os:=⟨_,rfl⟩;have eos:=hos;simp only[bxOps,Try.f20]at eos;subst eos;refine zqb2 (J:=λ(s:Turn Try.prog (BoxM×ResS) (BoxS×ResS))=>s.J) (main:=false) (λs=>⟨s.Kc,s.js⟩) hb rfl (λs L T w=>BxI ro pr st cr rest NE EN i bb gb wb N o (.iface 141 (.pointer (some ⟨st,0,none⟩))) vl vC g off tb vb kb g1 w1 v s L T w) (by kernel_rfl) (λs L T w τ d h=>h.re τ d) ?_ ?_ ?_
 . refine⟨(noStr,false),⟨rfl,⟨rfl,rfl,rfl,rfl,rfl,rfl⟩,λj d x hl=>(by cases hl)⟩,.inl ⟨λ_ _=>rfl,m.box i,m,rfl,hA,ho⟩⟩
 . intro s L T w j oo hI hLj hoo hdep rest' hnext;have hlt:j<18:=by rw[<-zq4e];exact(Array.getElem?_eq_some_iff.1 hoo).1
   have ho':=hoo;rw[hos]at ho';obtain rfl |rfl |rfl |rfl |rfl |rfl |rfl |rfl |rfl |rfl |rfl |rfl |rfl |rfl |rfl |rfl |rfl |rfl:=(by omega:j=0\/j=1\/j=2\/j=3\/j=4\/j=5\/j=6\/j=7\/j=8\/j=9\/j=10\/j=11\/j=12\/j=13\/j=14\/j=15\/j=16\/j=17)
   ·
    simp only[al_gl,al_g0,al_g1,al_oi]at ho';subst ho';refine zq1d (J:=λ(_:Unit)=>s.J) (s:=()) s.js hb hoo rfl rfl rfl λτ dd=>?_;have hI':=hI.re τ dd;generalize Car.re w τ dd=w' at hI' |-;have hro:=λb x hb=>hI'.rep (b:=b) (x:=x) hb;obtain⟨a,h1,h2⟩:=hI';have t4:=h1.par.2.2.2.2.1;have c1:w'.cell? ⟨g1,0,none⟩=some (.slice (some ⟨gb,0,none⟩) N N):=(zq0 (hro _ _ hR.b4)).trans rfl;have hl:zqu 0->L 10=true:=λh=>absurd h (by unfold zqu;decide);refine⟨_,w',?_,hnext _ _ _ (BxI.read (a:=a) h1 h2 ⟨by decide,by decide⟩ hl (by rw[zqw];rfl) rfl)⟩;clear h1 h2 hl hnext hI hQ hdep hoo hro hA ho hos;simp only[execOp,Act.eval,al_gd,t4,al_od]
    try go_simp
    all_goals(try rfl)
   ·
    simp only[al_gl,al_g0,al_g1,al_oi]at ho';subst ho';refine zq1d (J:=λ(_:Unit)=>s.J) (s:=()) s.js hb hoo rfl rfl rfl λτ dd=>?_;have hI':=hI.re τ dd;generalize Car.re w τ dd=w' at hI' |-;have hro:=λb x hb=>hI'.rep (b:=b) (x:=x) hb;obtain⟨a,h1,h2⟩:=hI';have t3:=h1.par.2.2.2.1;have c1:w'.cell? ⟨kb,0,none⟩=some (.int .i64 i):=(zq0 (hro _ _ hR.b3)).trans rfl;have hl:zqu 1->L 10=true:=λh=>absurd h (by unfold zqu;decide);refine⟨_,w',?_,hnext _ _ _ (BxI.read (a:=a) h1 h2 ⟨by decide,by decide⟩ hl (by rw[zqw];rfl) rfl)⟩;clear h1 h2 hl hnext hI hQ hdep hoo hro hA ho hos;simp only[execOp,Act.eval,al_gd,t3,al_od]
    try go_simp
    all_goals(try rfl)
   ·
    simp only[al_gl,al_g0,al_g1,al_oi]at ho';subst ho';refine zq1d (J:=λ(_:Unit)=>s.J) (s:=()) s.js hb hoo rfl rfl rfl λτ dd=>?_;have hI':=hI.re τ dd;generalize Car.re w τ dd=w' at hI' |-;have hro:=λb x hb=>hI'.rep (b:=b) (x:=x) hb;obtain⟨a,h1,h2⟩:=hI';have t5:=h1.par.2.2.2.2.2;have c1:w'.cell? ⟨w1,0,none⟩=some (.slice (some ⟨wb,0,none⟩) N N):=(zq0 (hro _ _ hR.b5)).trans rfl;have hl:zqu 2->L 10=true:=λh=>absurd h (by unfold zqu;decide);refine⟨_,w',?_,hnext _ _ _ (BxI.read (a:=a) h1 h2 ⟨by decide,by decide⟩ hl (by rw[zqw];rfl) rfl)⟩;clear h1 h2 hl hnext hI hQ hdep hoo hro hA ho hos;simp only[execOp,Act.eval,al_gd,t5,al_od]
    try go_simp
    all_goals(try rfl)
   ·
    simp only[al_gl,al_g0,al_g1,al_oi]at ho';subst ho';refine zq1d (J:=λ(_:Unit)=>s.J) (s:=()) s.js hb hoo rfl rfl rfl λτ dd=>?_;have hI':=hI.re τ dd;generalize Car.re w τ dd=w' at hI' |-;have hro:=λb x hb=>hI'.rep (b:=b) (x:=x) hb;obtain⟨a,h1,h2⟩:=hI';have t3:=h1.par.2.2.2.1;have c1:w'.cell? ⟨kb,0,none⟩=some (.int .i64 i):=(zq0 (hro _ _ hR.b3)).trans rfl;have hl:zqu 3->L 10=true:=λh=>absurd h (by unfold zqu;decide);refine⟨_,w',?_,hnext _ _ _ (BxI.read (a:=a) h1 h2 ⟨by decide,by decide⟩ hl (by rw[zqw];rfl) rfl)⟩;clear h1 h2 hl hnext hI hQ hdep hoo hro hA ho hos;simp only[execOp,Act.eval,al_gd,t3,al_od]
    try go_simp
    all_goals(try rfl)
   ·
    simp only[al_gl,al_g0,al_g1,al_oi]at ho';subst ho';refine zq1d (J:=λ(_:Unit)=>s.J) (s:=()) s.js hb hoo rfl rfl rfl λτ dd=>?_;have hI':=hI.re τ dd;generalize Car.re w τ dd=w' at hI' |-;have hro:=λb x hb=>hI'.rep (b:=b) (x:=x) hb;obtain⟨a,h1,h2⟩:=hI';have t1:=h1.par.2.1;have c1:w'.cell? ⟨tb,0,none⟩=some (.pointer (some ⟨bb,0,none⟩)):=(zq0 (hro _ _ hR.b1)).trans rfl;have hl:zqu 4->L 10=true:=λh=>absurd h (by unfold zqu;decide);refine⟨_,w',?_,hnext _ _ _ (BxI.read (a:=a) h1 h2 ⟨by decide,by decide⟩ hl (by rw[zqw];rfl) rfl)⟩;clear h1 h2 hl hnext hI hQ hdep hoo hro hA ho hos;simp only[execOp,Act.eval,al_gd,t1,al_od]
    try go_simp
    all_goals(try rfl)
   ·
    simp only[al_gl,al_g0,al_g1,al_oi]at ho';subst ho';refine zq1d (J:=λ(_:Unit)=>s.J) (s:=()) s.js hb hoo rfl rfl rfl λτ dd=>?_;have hI':=hI.re τ dd;generalize Car.re w τ dd=w' at hI' |-;have hro:=λb x hb=>hI'.rep (b:=b) (x:=x) hb;obtain⟨a,h1,h2⟩:=hI';have t0:=h1.par.1;have hl:zqu 5->L 10=true:=λh=>absurd h (by unfold zqu;decide);refine⟨_,w',?_,hnext _ _ _ (BxI.read (a:=a) h1 h2 ⟨by decide,by decide⟩ hl (by rw[zqw];rfl) rfl)⟩;clear h1 h2 hl hnext hI hQ hdep hoo hro hA ho hos;simp only[execOp,Act.eval,al_gd,t0,al_od]
    try go_simp
    all_goals(try rfl)
   ·
    simp only[al_gl,al_g0,al_g1,al_oi]at ho';subst ho';refine zq1d (J:=λ(_:Unit)=>s.J) (s:=()) s.js hb hoo rfl rfl rfl λτ dd=>?_;have hI':=hI.re τ dd;generalize Car.re w τ dd=w' at hI' |-;have hro:=λb x hb=>hI'.rep (b:=b) (x:=x) hb;obtain⟨a,h1,h2⟩:=hI';have t2:=h1.par.2.2.1;have c1:w'.cell? ⟨vb,0,none⟩=some (.slice (some ⟨g,off,none⟩) vl vC):=(zq0 (hro _ _ hR.b2)).trans rfl;have hl:zqu 6->L 10=true:=λh=>absurd h (by unfold zqu;decide);refine⟨_,w',?_,hnext _ _ _ (BxI.read (a:=a) h1 h2 ⟨by decide,by decide⟩ hl (by rw[zqw];rfl) rfl)⟩;clear h1 h2 hl hnext hI hQ hdep hoo hro hA ho hos;simp only[execOp,Act.eval,al_gd,t2,al_od]
    try go_simp
    all_goals(try rfl)
   ·
    simp only[al_gl,al_g0,al_g1,al_oi]at ho';subst ho';refine zq1d (J:=λ(_:Unit)=>s.J) (s:=()) s.js hb hoo rfl rfl rfl λτ dd=>?_;have hI':=hI.re τ dd;generalize Car.re w τ dd=w' at hI' |-;have hro:=λb x hb=>hI'.rep (b:=b) (x:=x) hb;obtain⟨a,h1,h2⟩:=hI';have t3:=h1.par.2.2.2.1;have c1:w'.cell? ⟨kb,0,none⟩=some (.int .i64 i):=(zq0 (hro _ _ hR.b3)).trans rfl;have hl:zqu 7->L 10=true:=λh=>absurd h (by unfold zqu;decide);refine⟨_,w',?_,hnext _ _ _ (BxI.read (a:=a) h1 h2 ⟨by decide,by decide⟩ hl (by rw[zqw];rfl) rfl)⟩;clear h1 h2 hl hnext hI hQ hdep hoo hro hA ho hos;simp only[execOp,Act.eval,al_gd,t3,al_od]
    try go_simp
    all_goals(try rfl)
   ·
    simp only[al_gl,al_g0,al_g1,al_oi]at ho';subst ho';have l6:L 6=true:=hdep ⟨6,.data⟩ (by simp) rfl;have l7:L 7=true:=hdep ⟨7,.data⟩ (by simp) rfl;refine zq1d (J:=λ(_:Unit)=>s.J) (s:=()) s.js hb hoo rfl rfl rfl λτ dd=>?_;have hI':=hI.re τ dd;generalize Car.re w τ dd=w' at hI' |-;have hro:=λb x hb=>hI'.rep (b:=b) (x:=x) hb;obtain⟨a,h1,h2⟩:=hI';have t14:=h1.val 6 14 _ l6 (by rw[zqw];rfl) rfl;have t15:=h1.val 7 15 _ l7 (by rw[zqw];rfl) rfl;have hi1:(i:Int)<(vl:Int):=by have:=hR.lt;omega
    have hi0:(0:Int)<=(i:Int):=by omega
    have hl:zqu 8->L 10=true:=λh=>absurd h (by unfold zqu;decide);refine⟨_,w',?_,hnext _ _ _ (BxI.read (a:=a) h1 h2 ⟨by decide,by decide⟩ hl (by rw[zqw];rfl) rfl)⟩;clear h1 h2 hl hnext hI hQ hdep hoo hro hA ho hos;simp only[execOp,Act.eval,al_gd,t14,t15,al_od]
    try go_simp
    all_goals(try rfl)
   ·
    simp only[al_gl,al_g0,al_g1,al_oi]at ho';subst ho';have l8:L 8=true:=hdep ⟨8,.data⟩ (by simp) rfl;refine zq1d (J:=λ(_:Unit)=>s.J) (s:=()) s.js hb hoo rfl rfl rfl λτ dd=>?_;have hI':=hI.re τ dd;generalize Car.re w τ dd=w' at hI' |-;have hro:=λb x hb=>hI'.rep (b:=b) (x:=x) hb;obtain⟨a,h1,h2⟩:=hI';have t16:=h1.val 8 16 _ l8 (by rw[zqw];rfl) rfl;have c1:w'.cell? ⟨g,off+i,none⟩=some (.string v):=(zq0 (hro _ _ hg)).trans hcur;have hl:zqu 9->L 10=true:=λh=>absurd h (by unfold zqu;decide);refine⟨_,w',?_,hnext _ _ _ (BxI.read (a:=a) h1 h2 ⟨by decide,by decide⟩ hl (by rw[zqw];rfl) rfl)⟩;clear h1 h2 hl hnext hI hQ hdep hoo hro hA ho hos;simp only[execOp,Act.eval,al_gd,t16,al_od]
    try go_simp
    all_goals(try rfl)
   ·
    obtain⟨OO,hOO⟩:∃O,O=oo:=⟨_,rfl⟩;rw[<-hOO]at ho' hoo hdep;have eOO:=ho';simp only[al_gl,al_g0,al_g1,al_oi]at eOO;clear hOO ho';have l4:L 4=true:=hdep ⟨4,.data⟩ (by rw[<-eOO];simp) rfl;have l5:L 5=true:=hdep ⟨5,.data⟩ (by rw[<-eOO];simp) rfl;have l9:L 9=true:=hdep ⟨9,.data⟩ (by rw[<-eOO];simp) rfl;obtain⟨a,h1,⟨h2,B,hAB⟩|⟨h2,_⟩⟩:=hI
    . have t12:=h1.val 4 12 _ l4 (by rw[zqw];rfl) rfl;have t13:=h1.val 5 13 _ l5 (by rw[zqw];rfl) rfl;have t17:=h1.val 9 17 _ l9 (by rw[zqw];rfl) rfl;have hr:∀w,(execOp (Act.mk T []).eval OO).run Try.prog w=.ok (.enter 21 #[.pointer (some ⟨bb,0,none⟩),.iface 141 (.pointer (some ⟨st,0,none⟩)),.string v]) w:=by
       intro w;clear h1 h2 hnext hQ hdep hoo hA ho hos hAB;subst eOO;simp[go_sem,execOp,Act.eval,resolve,Deferred.ofValue,invoke,callFunc,al_gd,t12,t13,t17,Try.func21,Try.f21]
      have hev:∀w,(execOp (Act.mk T []).eval OO).events Try.prog w #[]=#[]:=by
       intro w;clear h1 h2 hnext hQ hdep hoo hA ho hos hAB;subst eOO;simp[go_sem,execOp,Act.eval,resolve,Deferred.ofValue,invoke,callFunc,al_gd,t12,t13,t17,Try.func21,Try.f21]
      refine hJC.ctl (λw=>by rw[stepG_enter hoo (by rw[<-eOO];rfl) hb (hr w),listed_none (hev w)]) ?_;rw[thrB,Proc.bind_bind]at hAB;refine zqbc (bxZ ro pr st cr rest NE EN i bb gb wb N) (bx_env o) false v (K:=λa=>(Proc.act λs=>((s.1,(upd' s.2.1 i a.1,upd' s.2.2 i a.2)),())).bind Proc.ret) hAB _ cs (λs' val w' hp=>?_) (λs' ch w' hp=>?_)
      . rw[Frame.finish_at,hoo];subst eOO;obtain⟨a',q,m',rfl,_,hA',_⟩:=hp;refine hnext s' _ w' ⟨a',(h1.anew (λk hk=>h2 k (by unfold zqu;omega)) a').set (j:=10) (by rw[zqw];rfl) rfl,.inr ⟨upd_same _ _ _,m',_,hA',rfl,rfl,rfl,λh=>?_,λh=>?_⟩⟩
        . rw[upd_ne _ _ (by decide),h2 15 (by unfold zqu;decide)]at h;cases h
        . rw[upd_ne _ _ (by decide),h2 17 (by unfold zqu;decide)]at h;cases h
      . rw[Frame.raise_at];exact hQ _ (.panic ch) ⟨T,[]⟩ _ ⟨rfl,hp⟩ _
    . rw[hLj]at h2;cases h2
   ·
    simp only[al_gl,al_g0,al_g1,al_oi]at ho';subst ho';have l10:L 10=true:=hdep ⟨10,.data⟩ (by simp) rfl;refine zq1d (J:=λ(_:Unit)=>s.J) (s:=()) s.js hb hoo rfl rfl rfl λτ dd=>?_;have hI':=hI.re τ dd;generalize Car.re w τ dd=w' at hI' |-;have hro:=λb x hb=>hI'.rep (b:=b) (x:=x) hb;obtain⟨a,h1,h2⟩:=hI';have t18:=h1.val 10 18 _ l10 (by rw[zqw];rfl) rfl;have hl:zqu 11->L 10=true:=λ_=>l10;refine⟨_,w',?_,hnext _ _ _ (BxI.read (a:=a) h1 h2 ⟨by decide,by decide⟩ hl (by rw[zqw];rfl) rfl)⟩;clear h1 h2 hl hnext hI hQ hdep hoo hro hA ho hos;simp only[execOp,Act.eval,al_gd,t18,al_od]
    try go_simp
    all_goals(try rfl)
   ·
    simp only[al_gl,al_g0,al_g1,al_oi]at ho';subst ho';have l11:L 11=true:=hdep ⟨11,.data⟩ (by simp) rfl;refine zq1d (J:=λ(_:Unit)=>s.J) (s:=()) s.js hb hoo rfl rfl rfl λτ dd=>?_;have hI':=hI.re τ dd;generalize Car.re w τ dd=w' at hI' |-;have hro:=λb x hb=>hI'.rep (b:=b) (x:=x) hb;obtain⟨a,h1,h2⟩:=hI';have t7:=h1.val 11 7 _ l11 (by rw[zqw];rfl) rfl;have hl:zqu 12->L 10=true:=λ_=>by
     rcases h2 with⟨h2,_⟩|⟨h2,_⟩
     . rw[h2 11 (by unfold zqu;decide)]at l11;cases l11
     . exact h2
    refine⟨_,w',?_,hnext _ _ _ (BxI.read (a:=a) h1 h2 ⟨by decide,by decide⟩ hl (by rw[zqw];rfl) rfl)⟩;clear h1 h2 hl hnext hI hQ hdep hoo hro hA ho hos;simp only[execOp,Act.eval,al_gd,t7,al_od]
    try go_simp
    all_goals(try rfl)
   ·
    simp only[al_gl,al_g0,al_g1,al_oi]at ho';subst ho';have l11:L 11=true:=hdep ⟨11,.data⟩ (by simp) rfl;refine zq1d (J:=λ(_:Unit)=>s.J) (s:=()) s.js hb hoo rfl rfl rfl λτ dd=>?_;have hI':=hI.re τ dd;generalize Car.re w τ dd=w' at hI' |-;have hro:=λb x hb=>hI'.rep (b:=b) (x:=x) hb;obtain⟨a,h1,h2⟩:=hI';have t7:=h1.val 11 7 _ l11 (by rw[zqw];rfl) rfl;have hl:zqu 13->L 10=true:=λ_=>by
     rcases h2 with⟨h2,_⟩|⟨h2,_⟩
     . rw[h2 11 (by unfold zqu;decide)]at l11;cases l11
     . exact h2
    refine⟨_,w',?_,hnext _ _ _ (BxI.read (a:=a) h1 h2 ⟨by decide,by decide⟩ hl (by rw[zqw];rfl) rfl)⟩;clear h1 h2 hl hnext hI hQ hdep hoo hro hA ho hos;simp only[execOp,Act.eval,al_gd,t7,al_od]
    try go_simp
    all_goals(try rfl)
   ·
    simp only[al_gl,al_g0,al_g1,al_oi]at ho';subst ho';have l0:L 0=true:=hdep ⟨0,.data⟩ (by simp) rfl;have l1:L 1=true:=hdep ⟨1,.data⟩ (by simp) rfl;refine zq1d (J:=λ(_:Unit)=>s.J) (s:=()) s.js hb hoo rfl rfl rfl λτ dd=>?_;have hI':=hI.re τ dd;generalize Car.re w τ dd=w' at hI' |-;have hro:=λb x hb=>hI'.rep (b:=b) (x:=x) hb;obtain⟨a,h1,h2⟩:=hI';have t8:=h1.val 0 8 _ l0 (by rw[zqw];rfl) rfl;have t9:=h1.val 1 9 _ l1 (by rw[zqw];rfl) rfl;have hi1:(i:Int)<(N:Int):=by have:=hR.lt;omega
    have hi0:(0:Int)<=(i:Int):=by omega
    have hl:zqu 14->L 10=true:=λh=>absurd h (by unfold zqu;decide);refine⟨_,w',?_,hnext _ _ _ (BxI.read (a:=a) h1 h2 ⟨by decide,by decide⟩ hl (by rw[zqw];rfl) rfl)⟩;clear h1 h2 hl hnext hI hQ hdep hoo hro hA ho hos;simp only[execOp,Act.eval,al_gd,t8,t9,al_od]
    try go_simp
    all_goals(try rfl)
   ·
    simp only[al_gl,al_g0,al_g1,al_oi]at ho';subst ho';have l14:L 14=true:=hdep ⟨14,.data⟩ (by simp) rfl;have l12:L 12=true:=hdep ⟨12,.data⟩ (by simp) rfl;obtain⟨a,h1,⟨h2,_⟩|⟨h2,m',r0,h3⟩⟩:=hI
    . rw[h2 12 (by unfold zqu;decide)]at l12;cases l12
    have t21:=h1.val 14 21 _ l14 (by rw[zqw];rfl) rfl;have t19:=h1.val 12 19 _ l12 (by rw[zqw];rfl) rfl;have hK:∀j,s.Kc (Addr.add ⟨gb,i,none⟩ j)=none:=λj=>(h3.at'.env.grow h3.at'.grow).none (show BM.foot (zq7 (zqr bb) (zq18 gb wb N)) ro m' _ from by rw[zq4b];exact .inl (.inr (.inl rfl)));have hrow:=(h3.at'.rep.core.2.1).got;refine zq59 (J:=λ(_:Unit)=>s.J) (s:=()) s.js hb hoo rfl rfl rfl (ad:=⟨gb,i,none⟩) (by simp[Act.eval,al_gd,t21]) (λj _=>hK j) ⟨_,_,_,hrow⟩ λτ dd=>?_;have h3':=h3.re τ dd;generalize Car.re w τ dd=w' at h3' |-;have hrow':=(h3'.at'.rep.core.2.1).got;have z1:=zqc (off:=i) hrow';have y1:=(zq0 (off:=i) hrow').trans (zq3s hR.lt.1);refine⟨w'.setCell ⟨gb,i,none⟩ (.string a.1),?_,hnext _ _ _ ⟨a,h1.skip (by rw[zqw];rfl),.inr ⟨by rw[upd_ne _ _ (by decide)];exact h2,_,_,h3'.sgot⟩⟩⟩;clear h1 h2 hnext hQ hdep hoo hA ho hos h3 h3' hK hrow hrow';simp only[execOp,Act.eval,al_gd,t21,t19,al_od]
    try go_simp
    all_goals(try rfl)
   ·
    simp only[al_gl,al_g0,al_g1,al_oi]at ho';subst ho';have l2:L 2=true:=hdep ⟨2,.data⟩ (by simp) rfl;have l3:L 3=true:=hdep ⟨3,.data⟩ (by simp) rfl;refine zq1d (J:=λ(_:Unit)=>s.J) (s:=()) s.js hb hoo rfl rfl rfl λτ dd=>?_;have hI':=hI.re τ dd;generalize Car.re w τ dd=w' at hI' |-;have hro:=λb x hb=>hI'.rep (b:=b) (x:=x) hb;obtain⟨a,h1,h2⟩:=hI';have t10:=h1.val 2 10 _ l2 (by rw[zqw];rfl) rfl;have t11:=h1.val 3 11 _ l3 (by rw[zqw];rfl) rfl;have hi1:(i:Int)<(N:Int):=by have:=hR.lt;omega
    have hi0:(0:Int)<=(i:Int):=by omega
    have hl:zqu 16->L 10=true:=λh=>absurd h (by unfold zqu;decide);refine⟨_,w',?_,hnext _ _ _ (BxI.read (a:=a) h1 h2 ⟨by decide,by decide⟩ hl (by rw[zqw];rfl) rfl)⟩;clear h1 h2 hl hnext hI hQ hdep hoo hro hA ho hos;simp only[execOp,Act.eval,al_gd,t10,t11,al_od]
    try go_simp
    all_goals(try rfl)
   ·
    simp only[al_gl,al_g0,al_g1,al_oi]at ho';subst ho';have l16:L 16=true:=hdep ⟨16,.data⟩ (by simp) rfl;have l13:L 13=true:=hdep ⟨13,.data⟩ (by simp) rfl;obtain⟨a,h1,⟨h2,_⟩|⟨h2,m',r0,h3⟩⟩:=hI
    . rw[h2 13 (by unfold zqu;decide)]at l13;cases l13
    have t22:=h1.val 16 22 _ l16 (by rw[zqw];rfl) rfl;have t20:=h1.val 13 20 _ l13 (by rw[zqw];rfl) rfl;have hK:∀j,s.Kc (Addr.add ⟨wb,i,none⟩ j)=none:=λj=>(h3.at'.env.grow h3.at'.grow).none (show BM.foot (zq7 (zqr bb) (zq18 gb wb N)) ro m' _ from by rw[zq4b];exact .inl (.inr (.inr rfl)));have hrow:=(h3.at'.rep.core.2.1).won;refine zq59 (J:=λ(_:Unit)=>s.J) (s:=()) s.js hb hoo rfl rfl rfl (ad:=⟨wb,i,none⟩) (by simp[Act.eval,al_gd,t22]) (λj _=>hK j) ⟨_,_,_,hrow⟩ λτ dd=>?_;have h3':=h3.re τ dd;generalize Car.re w τ dd=w' at h3' |-;have hrow':=(h3'.at'.rep.core.2.1).won;have z1:=zqc (off:=i) hrow';have y1:=(zq0 (off:=i) hrow').trans (zq3k hR.lt.1);refine⟨w'.setCell ⟨wb,i,none⟩ (.bool a.2),?_,hnext _ _ _ ⟨a,h1.skip (by rw[zqw];rfl),.inr ⟨by rw[upd_ne _ _ (by decide)];exact h2,_,_,h3'.swon⟩⟩⟩;clear h1 h2 hnext hQ hdep hoo hA ho hos h3 h3' hK hrow hrow';simp only[execOp,Act.eval,al_gd,t22,t20,al_od]
    try go_simp
    all_goals(try rfl)
 . intro s L T w hall hI;have hL:=λj(h:j<18)=>hall j (by rw[zq4e];exact h);obtain⟨a,h1,⟨h2,_⟩|⟨h2,m',r0,h3⟩⟩:=hI
   . have:=hL 10 (by decide);rw[h2 10 (.inl rfl)]at this;cases this
   refine hJC.ctl (λw=>stepG_region_end) (hQ _ .normal ⟨T,[]⟩ _ ⟨rfl,m',?_⟩);have e:r0=(zq7 (zqr bb) (zq18 gb wb N)).st m'.l:=by
    have e1:=h3.b;have e2:=h3.got;have e3:=h3.won;rw[zq54 _ (h3.g (hL 15 (by decide)))]at e2;rw[zq54 _ (h3.w (hL 17 (by decide)))]at e3;obtain⟨x,y,z⟩:=r0;simp only at e1 e2 e3;subst e1 e2 e3;rfl
   have:=h3.at';rw[e]at this;exact this
end
def zq3f:Core Unit Unit where
 foot _ _:=False
 Rep _ _:=True
 st _:=()
 frame _ _ _ _ _:=trivial
 lt _ _ _ _ h:=h.elim
 pin _:=0
theorem zqbd{Ml S α:Type}{C:Core Ml S}{ro:Nat->Option Obj}{i:Nat}{main:Bool}{Kc:Addr->Option Value}{J:Goroutine->World->Prop}(hJ:JS Try.prog main Kc (λ(_:Unit)=>J))(hC:CalmJ Try.prog main (λ(_:Unit)=>J))(m₀:BM Ml)(w₀:World)(T:S×Option α×Nat):
 StepY (seqSys zq20 hJ hC C ro i 0 m₀ w₀ T) 48 #[.nilIface]:=by
 obtain⟨Y,hY⟩:∃Y,seqSys zq20 hJ hC C ro i 0 m₀ w₀ T=Y:=⟨_,rfl⟩;have hskip:∀(K:Unit->Proc S α)(s:Y.γ)(B:Nat->Option Obj)(w:World),Y.AtB B s w (Proc.tick.bind K)->Y.AtB B s w (K ()):=by
  subst hY;rintro K s B w ⟨m,h1,h2,h3⟩;exact⟨m,h1,LoneAt.skip h2,h3⟩
 rw[hY];clear hY;intro K s m w hA;refine BodyY.calls ⟨_,_,Try.func48,rfl,?_⟩;simp only[zqk,Try.ntmps48,List.size_toArray,List.length_cons,List.length_nil,Nat.reduceAdd,Nat.reduceSub,Array.replicate_succ,Array.replicate_zero,List.push_toArray,List.append_toArray,List.nil_append,List.cons_append];have hA:Y.AtB (m.box i) s w (Proc.tick.bind K):=⟨m,rfl,hA⟩;obtain⟨B,hB0⟩:∃B,m.box i=B:=⟨_,rfl⟩;rw[hB0]at hA |-;clear hB0;apply YSys.seq0 hA (by kernel_rfl)
 . intro wc hB;go_wp2;exact⟨rfl,Ext1.refl _,rfl⟩
 intro w hA;refine zqx Y.jc rfl ?_;rw[if_neg (by decide)];refine zq1e Y.jc ?_;have h:=hskip K s B w hA;exact⟨rfl,.inl ⟨_,resultsC_none rfl _,(),h.choose,rfl,h.choose_spec⟩⟩
section
variable {Fin:Machine->Trace->Prop} (hFin:Back Try.prog Fin) {n bb:Nat} {w:World} {p:Option (Nat×ByteArray)} {seen:Nat->Bool} {cl:Frame} {cs:List Frame}
include hFin
theorem zqba(h5:BoxRep bb (p,seen) w)(hq:∀w',w.heap.size<=w'.heap.size->(∀b,b<w.heap.size->b≠bb->(∀x,p≠some (b,x))->w'.heap[b]?=w.heap[b]?)->J0 Try.prog Fin n (G (cl.finish (strV ((p.map (·.2)).getD noStr,(p.map (·.2)).isSome))) cs) w'):
 J0 Try.prog Fin n (G (Frame.enter Try.prog 23 #[.pointer (some ⟨bb,0,none⟩),.nilIface] .normal) (cl::cs)) w:=by
 have hJ:=jU0 hFin n;have hC:=jC0 hFin n;have hrep:BRep (zq7 (zqr bb) zq3f) (λ_=>none) ⟨((p,seen),()),λ_ _=>none⟩ w:=⟨⟨h5,trivial,λb hb e=>e⟩,λi b o h=>(by cases h),λb o h=>(by cases h),λi b h=>absurd rfl h,λi j b _ h=>absurd rfl h,λb h=>absurd rfl h,λi b h=>absurd rfl h⟩;obtain⟨T,hT⟩:∃T,(getB (S2:=Unit)).run ((p.map (·.2),seen),())=T:=⟨_,rfl⟩;have hTv:T.2.1=some ((p.map (·.2)).getD noStr,(p.map (·.2)).isSome):=by rw[<-hT];rfl
 have h0:LoneAt (zq7 (zqr bb) zq3f) (λ_=>none) 0 0 ⟨((p,seen),()),λ_ _=>none⟩ w T ⟨((p,seen),()),λ_ _=>none⟩ w ((getB (S2:=Unit)).bind Proc.ret ((zq7 (zqr bb) zq3f).st ((p,seen),()))):=by
  rw[Proc.bind_pure];exact⟨hrep,Nat.le_refl _,λ_ _ _=>rfl,λ_ h=>.inl h,⟨T.2.2,by show(getB (S2:=Unit)).run _=_;rw[<-hT];rfl,⟨_,hTv⟩,rfl⟩,λ_ _=>rfl⟩
 refine zqbb (zq8i zq20 (J:=J0 Try.prog Fin n) hJ hC (zq7 (zqr bb) zq3f) (λ_=>none) 0 0 ⟨((p,seen),()),λ_ _=>none⟩ w T) (I:=λ_=>True) (sv:=.nilIface) (zqbd hJ hC _ _ _) (K:=Proc.ret) (s:=()) (B:=λ_=>none) ⟨_,rfl,h0,trivial⟩ cl cs ?_ ?_
 . rintro s' val w' ⟨a,m,rfl,_,hA,_⟩;have hA':LoneAt (zq7 (zqr bb) zq3f) (λ_=>none) 0 0 ⟨((p,seen),()),λ_ _=>none⟩ w T m w' ((zq7 (zqr bb) zq3f).st m.l,.ret a):=hA;obtain⟨k,h1,h2,h3⟩:=hA'.run;have e2:T.2.1=some a:=(congrArg (λx=>x.2.1) h1).symm;rw[hTv]at e2;cases e2;refine hq w' hA'.size λb hb hne hnp=>hA'.old b hb λhf=>?_;rcases hf with(hf|hf)|⟨_,hf⟩|hf
   . rcases hf with rfl |⟨x,hx⟩
     . exact hne rfl
     . exact hnp x hx
   . exact hf
   . exact absurd rfl hf
   . exact absurd rfl hf
 . intro s' ch w' hf;exact hf.elim
end
noncomputable def obxT(n:Nat):Code:=tailN n (Try.f6.body.getD .skip)
theorem obx0:Try.f6.body.getD .skip=.seq (headC (obxT 0)) (.seq (headC (obxT 1)) (.seq (headC (obxT 2)) (.seq (headC (obxT 3)) (.seq (headC (obxT 4)) (.seq (headC (obxT 5)) (.seq (headC (obxT 6)) (.seq (headC (obxT 7)) (.seq (headC (obxT 8)) (.seq (headC (obxT 9)) (.seq (headC (obxT 10)) (.seq (headC (obxT 11)) (obxT 12)))))))))))):=by kernel_rfl
theorem make_got(w:World)(N:Nat)(hN:N<=64):(Instr.makeSlice 59 (.int .i64 N) (.int .i64 N)).run Try.prog w=.ok (.slice (some ⟨w.heap.size,0,none⟩) N N) (w.alloc (.cells (gotA N λ_=>noStr) 9)):=by
 obtain⟨ti,hti,hz0,hz1,hz2⟩:∃ti,Try.prog.info? 9=some ti/\ti.zero=some (.string noStr)/\ti.size=1/\ti.bytes=16:=⟨_,rfl,rfl,rfl,rfl⟩;have:=run_make (P:=Try.prog) w 59 9 ti (.string noStr) (by kernel_rfl) hti hz0 .i64 .i64 N N (by omega) (Int.le_refl _) (by rw[hz2];omega) (by omega);simp only[Int.toNat_natCast,hz1,Nat.mul_one]at this;rw[this];congr 3;apply Array.ext_getElem?;intro i
 by_cases hi:i<N
 . rw[zq3s hi];simp[madeCells,hi,Nat.mod_one,Value.cells]
 . unfold gotA;simp[madeCells,hi]
theorem make_won(w:World)(N:Nat)(hN:N<=64):(Instr.makeSlice 62 (.int .i64 N) (.int .i64 N)).run Try.prog w=.ok (.slice (some ⟨w.heap.size,0,none⟩) N N) (w.alloc (.cells (wonA N λ_=>false) 4)):=by
 obtain⟨ti,hti,hz0,hz1,hz2⟩:∃ti,Try.prog.info? 4=some ti/\ti.zero=some (.bool false)/\ti.size=1/\ti.bytes=1:=⟨_,rfl,rfl,rfl,rfl⟩;have:=run_make (P:=Try.prog) w 62 4 ti (.bool false) (by kernel_rfl) hti hz0 .i64 .i64 N N (by omega) (Int.le_refl _) (by rw[hz2];omega) (by omega);simp only[Int.toNat_natCast,hz1,Nat.mul_one]at this;rw[this];congr 3;apply Array.ext_getElem?;intro i
 by_cases hi:i<N
 . rw[zq3k hi];simp[madeCells,hi,Nat.mod_one,Value.cells]
 . unfold wonA;simp[madeCells,hi]
structure R5(n:Nat)(T₀:Array Value)(w:World)(f:Nat->Nat)(L:Nat->Bool)(T:Array Value)(w':World):Prop where
 sz:T.size=127
 out:∀t,t≠24->t≠25->t≠26->t≠27->t≠7->t≠8->T[t]?=T₀[t]?
 size:w.heap.size<=w'.heap.size
 old:∀b,b<w.heap.size->w'.heap[b]?=w.heap[b]?
 a0:L 0=true->T[24]?=some (.int .i64 n)
 a1:L 1=true->T[25]?=some (.slice (some ⟨f 1,0,none⟩) n n)/\w.heap.size<=f 1/\w'.heap[f 1]?=some (.cells (gotA n λ_=>noStr) 9)
 a2:L 2=true->T[26]?=some (.int .i64 n)
 a3:L 3=true->T[27]?=some (.slice (some ⟨f 3,0,none⟩) n n)/\w.heap.size<=f 3/\w'.heap[f 3]?=some (.cells (wonA n λ_=>false) 4)
 a4:L 4=true->T[7]?=some (.pointer (some ⟨f 4,0,none⟩))/\w.heap.size<=f 4/\(L 6=false->w'.heap[f 4]?=some (.cells #[.slice none 0 0] 59))
 a5:L 5=true->T[8]?=some (.pointer (some ⟨f 5,0,none⟩))/\w.heap.size<=f 5/\(L 7=false->w'.heap[f 5]?=some (.cells #[.slice none 0 0] 62))
 a6:L 6=true->w'.heap[f 4]?=some (.cells #[.slice (some ⟨f 1,0,none⟩) n n] 59)/\L 4=true/\L 1=true
 a7:L 7=true->w'.heap[f 5]?=some (.cells #[.slice (some ⟨f 3,0,none⟩) n n] 62)/\L 5=true/\L 3=true
section
variable {n:Nat} {T₀:Array Value} {w:World} {f:Nat->Nat} {L:Nat->Bool} {T:Array Value} {w':World}
theorem R5.re (h:R5 n T₀ w f L T w')(τ:Nat->Question->Nat)(d:Nat):R5 n T₀ w f L T (Car.re w' τ d):=⟨h.sz,h.out,h.size,h.old,h.a0,h.a1,h.a2,h.a3,h.a4,h.a5,h.a6,h.a7⟩
theorem R5.s0 (H:R5 n T₀ w f L T w'):R5 n T₀ w f (upd L 0 true) (T.setIfInBounds 24 (.int .i64 n)) w':=by
 refine⟨?_,?_,?_,?_,?_,?_,?_,?_,?_,?_,?_,?_⟩
 . exact by simpa using H.sz
 . exact λt h1 h2 h3 h4 h5 h6=>by rw[al_gn (Ne.symm h1)];exact H.out t h1 h2 h3 h4 h5 h6
 . exact H.size
 . exact H.old
 . exact λ_=>by rw[al_gs,if_pos rfl,if_pos (by rw[H.sz];decide)]
 . exact λh=>by
    have q:=H.a1 (by rw[upd_ne _ _ (by decide)]at h;exact h);exact⟨by rw[al_gn (by decide)];exact q.1,q.2.1,q.2.2⟩
 . exact λh=>by rw[al_gn (by decide)];exact H.a2 (by rw[upd_ne _ _ (by decide)]at h;exact h)
 . exact λh=>by
    have q:=H.a3 (by rw[upd_ne _ _ (by decide)]at h;exact h);exact⟨by rw[al_gn (by decide)];exact q.1,q.2.1,q.2.2⟩
 . exact λh=>by
    have q:=H.a4 (by rw[upd_ne _ _ (by decide)]at h;exact h);exact⟨by rw[al_gn (by decide)];exact q.1,q.2.1,λh=>q.2.2 (by rw[upd_ne _ _ (by decide)]at h;exact h)⟩
 . exact λh=>by
    have q:=H.a5 (by rw[upd_ne _ _ (by decide)]at h;exact h);exact⟨by rw[al_gn (by decide)];exact q.1,q.2.1,λh=>q.2.2 (by rw[upd_ne _ _ (by decide)]at h;exact h)⟩
 . exact λh=>by
    have q:=H.a6 (by rw[upd_ne _ _ (by decide)]at h;exact h);exact⟨q.1,by rw[upd_ne _ _ (by decide)];exact q.2.1,by rw[upd_ne _ _ (by decide)];exact q.2.2⟩
 . exact λh=>by
    have q:=H.a7 (by rw[upd_ne _ _ (by decide)]at h;exact h);exact⟨q.1,by rw[upd_ne _ _ (by decide)];exact q.2.1,by rw[upd_ne _ _ (by decide)];exact q.2.2⟩
theorem R5.s1 (H:R5 n T₀ w f L T w')(hLj:L 1=false):R5 n T₀ w (upd' f 1 w'.heap.size) (upd L 1 true) (T.setIfInBounds 25 (.slice (some ⟨w'.heap.size,0,none⟩) n n)) (w'.alloc (.cells (gotA n λ_=>noStr) 9)):=by
 refine⟨?_,?_,?_,?_,?_,?_,?_,?_,?_,?_,?_,?_⟩
 . exact by simpa using H.sz
 . exact λt h1 h2 h3 h4 h5 h6=>by rw[al_gn (Ne.symm h2)];exact H.out t h1 h2 h3 h4 h5 h6
 . exact by rw[zqd];exact Nat.le_succ_of_le H.size
 . exact λb hb=>by rw[zqa,if_neg (by have:=H.size;omega)];exact H.old b hb
 . exact λh=>by rw[al_gn (by decide)];exact H.a0 (by rw[upd_ne _ _ (by decide)]at h;exact h)
 . exact λ_=>by
    rw[upd'_same];exact⟨by rw[al_gs,if_pos rfl,if_pos (by rw[H.sz];decide)],H.size,zq12 _ _⟩
 . exact λh=>by rw[al_gn (by decide)];exact H.a2 (by rw[upd_ne _ _ (by decide)]at h;exact h)
 . exact λh=>by
    have q:=H.a3 (by rw[upd_ne _ _ (by decide)]at h;exact h);rw[zqj f _ (show(3:Nat)≠1 by decide)];exact⟨by rw[al_gn (by decide)];exact q.1,q.2.1,zqf (q.2.2)⟩
 . exact λh=>by
    have q:=H.a4 (by rw[upd_ne _ _ (by decide)]at h;exact h);rw[zqj f _ (show(4:Nat)≠1 by decide)];exact⟨by rw[al_gn (by decide)];exact q.1,q.2.1,λh=>zqf (q.2.2 (by rw[upd_ne _ _ (by decide)]at h;exact h))⟩
 . exact λh=>by
    have q:=H.a5 (by rw[upd_ne _ _ (by decide)]at h;exact h);rw[zqj f _ (show(5:Nat)≠1 by decide)];exact⟨by rw[al_gn (by decide)];exact q.1,q.2.1,λh=>zqf (q.2.2 (by rw[upd_ne _ _ (by decide)]at h;exact h))⟩
 . exact λh=>by
    have q:=H.a6 (by rw[upd_ne _ _ (by decide)]at h;exact h);have:=q.2.2;rw[hLj]at this;cases this
 . exact λh=>by
    have q:=H.a7 (by rw[upd_ne _ _ (by decide)]at h;exact h);rw[zqj f _ (show(5:Nat)≠1 by decide),zqj f _ (show(3:Nat)≠1 by decide)];exact⟨zqf (q.1),by rw[upd_ne _ _ (by decide)];exact q.2.1,by rw[upd_ne _ _ (by decide)];exact q.2.2⟩
theorem R5.s2 (H:R5 n T₀ w f L T w'):R5 n T₀ w f (upd L 2 true) (T.setIfInBounds 26 (.int .i64 n)) w':=by
 refine⟨?_,?_,?_,?_,?_,?_,?_,?_,?_,?_,?_,?_⟩
 . exact by simpa using H.sz
 . exact λt h1 h2 h3 h4 h5 h6=>by rw[al_gn (Ne.symm h3)];exact H.out t h1 h2 h3 h4 h5 h6
 . exact H.size
 . exact H.old
 . exact λh=>by rw[al_gn (by decide)];exact H.a0 (by rw[upd_ne _ _ (by decide)]at h;exact h)
 . exact λh=>by
    have q:=H.a1 (by rw[upd_ne _ _ (by decide)]at h;exact h);exact⟨by rw[al_gn (by decide)];exact q.1,q.2.1,q.2.2⟩
 . exact λ_=>by rw[al_gs,if_pos rfl,if_pos (by rw[H.sz];decide)]
 . exact λh=>by
    have q:=H.a3 (by rw[upd_ne _ _ (by decide)]at h;exact h);exact⟨by rw[al_gn (by decide)];exact q.1,q.2.1,q.2.2⟩
 . exact λh=>by
    have q:=H.a4 (by rw[upd_ne _ _ (by decide)]at h;exact h);exact⟨by rw[al_gn (by decide)];exact q.1,q.2.1,λh=>q.2.2 (by rw[upd_ne _ _ (by decide)]at h;exact h)⟩
 . exact λh=>by
    have q:=H.a5 (by rw[upd_ne _ _ (by decide)]at h;exact h);exact⟨by rw[al_gn (by decide)];exact q.1,q.2.1,λh=>q.2.2 (by rw[upd_ne _ _ (by decide)]at h;exact h)⟩
 . exact λh=>by
    have q:=H.a6 (by rw[upd_ne _ _ (by decide)]at h;exact h);exact⟨q.1,by rw[upd_ne _ _ (by decide)];exact q.2.1,by rw[upd_ne _ _ (by decide)];exact q.2.2⟩
 . exact λh=>by
    have q:=H.a7 (by rw[upd_ne _ _ (by decide)]at h;exact h);exact⟨q.1,by rw[upd_ne _ _ (by decide)];exact q.2.1,by rw[upd_ne _ _ (by decide)];exact q.2.2⟩
theorem R5.s3 (H:R5 n T₀ w f L T w')(hLj:L 3=false):R5 n T₀ w (upd' f 3 w'.heap.size) (upd L 3 true) (T.setIfInBounds 27 (.slice (some ⟨w'.heap.size,0,none⟩) n n)) (w'.alloc (.cells (wonA n λ_=>false) 4)):=by
 refine⟨?_,?_,?_,?_,?_,?_,?_,?_,?_,?_,?_,?_⟩
 . exact by simpa using H.sz
 . exact λt h1 h2 h3 h4 h5 h6=>by rw[al_gn (Ne.symm h4)];exact H.out t h1 h2 h3 h4 h5 h6
 . exact by rw[zqd];exact Nat.le_succ_of_le H.size
 . exact λb hb=>by rw[zqa,if_neg (by have:=H.size;omega)];exact H.old b hb
 . exact λh=>by rw[al_gn (by decide)];exact H.a0 (by rw[upd_ne _ _ (by decide)]at h;exact h)
 . exact λh=>by
    have q:=H.a1 (by rw[upd_ne _ _ (by decide)]at h;exact h);rw[zqj f _ (show(1:Nat)≠3 by decide)];exact⟨by rw[al_gn (by decide)];exact q.1,q.2.1,zqf (q.2.2)⟩
 . exact λh=>by rw[al_gn (by decide)];exact H.a2 (by rw[upd_ne _ _ (by decide)]at h;exact h)
 . exact λ_=>by
    rw[upd'_same];exact⟨by rw[al_gs,if_pos rfl,if_pos (by rw[H.sz];decide)],H.size,zq12 _ _⟩
 . exact λh=>by
    have q:=H.a4 (by rw[upd_ne _ _ (by decide)]at h;exact h);rw[zqj f _ (show(4:Nat)≠3 by decide)];exact⟨by rw[al_gn (by decide)];exact q.1,q.2.1,λh=>zqf (q.2.2 (by rw[upd_ne _ _ (by decide)]at h;exact h))⟩
 . exact λh=>by
    have q:=H.a5 (by rw[upd_ne _ _ (by decide)]at h;exact h);rw[zqj f _ (show(5:Nat)≠3 by decide)];exact⟨by rw[al_gn (by decide)];exact q.1,q.2.1,λh=>zqf (q.2.2 (by rw[upd_ne _ _ (by decide)]at h;exact h))⟩
 . exact λh=>by
    have q:=H.a6 (by rw[upd_ne _ _ (by decide)]at h;exact h);rw[zqj f _ (show(4:Nat)≠3 by decide),zqj f _ (show(1:Nat)≠3 by decide)];exact⟨zqf (q.1),by rw[upd_ne _ _ (by decide)];exact q.2.1,by rw[upd_ne _ _ (by decide)];exact q.2.2⟩
 . exact λh=>by
    have q:=H.a7 (by rw[upd_ne _ _ (by decide)]at h;exact h);have:=q.2.2;rw[hLj]at this;cases this
theorem R5.s4 (H:R5 n T₀ w f L T w')(hLj:L 4=false):R5 n T₀ w (upd' f 4 w'.heap.size) (upd L 4 true) (T.setIfInBounds 7 (.pointer (some ⟨w'.heap.size,0,none⟩))) (w'.alloc (.cells #[.slice none 0 0] 59)):=by
 refine⟨?_,?_,?_,?_,?_,?_,?_,?_,?_,?_,?_,?_⟩
 . exact by simpa using H.sz
 . exact λt h1 h2 h3 h4 h5 h6=>by rw[al_gn (Ne.symm h5)];exact H.out t h1 h2 h3 h4 h5 h6
 . exact by rw[zqd];exact Nat.le_succ_of_le H.size
 . exact λb hb=>by rw[zqa,if_neg (by have:=H.size;omega)];exact H.old b hb
 . exact λh=>by rw[al_gn (by decide)];exact H.a0 (by rw[upd_ne _ _ (by decide)]at h;exact h)
 . exact λh=>by
    have q:=H.a1 (by rw[upd_ne _ _ (by decide)]at h;exact h);rw[zqj f _ (show(1:Nat)≠4 by decide)];exact⟨by rw[al_gn (by decide)];exact q.1,q.2.1,zqf (q.2.2)⟩
 . exact λh=>by rw[al_gn (by decide)];exact H.a2 (by rw[upd_ne _ _ (by decide)]at h;exact h)
 . exact λh=>by
    have q:=H.a3 (by rw[upd_ne _ _ (by decide)]at h;exact h);rw[zqj f _ (show(3:Nat)≠4 by decide)];exact⟨by rw[al_gn (by decide)];exact q.1,q.2.1,zqf (q.2.2)⟩
 . exact λ_=>by
    rw[upd'_same];exact⟨by rw[al_gs,if_pos rfl,if_pos (by rw[H.sz];decide)],H.size,λ_=>zq12 _ _⟩
 . exact λh=>by
    have q:=H.a5 (by rw[upd_ne _ _ (by decide)]at h;exact h);rw[zqj f _ (show(5:Nat)≠4 by decide)];exact⟨by rw[al_gn (by decide)];exact q.1,q.2.1,λh=>zqf (q.2.2 (by rw[upd_ne _ _ (by decide)]at h;exact h))⟩
 . exact λh=>by
    have q:=H.a6 (by rw[upd_ne _ _ (by decide)]at h;exact h);have:=q.2.1;rw[hLj]at this;cases this
 . exact λh=>by
    have q:=H.a7 (by rw[upd_ne _ _ (by decide)]at h;exact h);rw[zqj f _ (show(5:Nat)≠4 by decide),zqj f _ (show(3:Nat)≠4 by decide)];exact⟨zqf (q.1),by rw[upd_ne _ _ (by decide)];exact q.2.1,by rw[upd_ne _ _ (by decide)];exact q.2.2⟩
theorem R5.s5 (H:R5 n T₀ w f L T w')(hLj:L 5=false):R5 n T₀ w (upd' f 5 w'.heap.size) (upd L 5 true) (T.setIfInBounds 8 (.pointer (some ⟨w'.heap.size,0,none⟩))) (w'.alloc (.cells #[.slice none 0 0] 62)):=by
 refine⟨?_,?_,?_,?_,?_,?_,?_,?_,?_,?_,?_,?_⟩
 . exact by simpa using H.sz
 . exact λt h1 h2 h3 h4 h5 h6=>by rw[al_gn (Ne.symm h6)];exact H.out t h1 h2 h3 h4 h5 h6
 . exact by rw[zqd];exact Nat.le_succ_of_le H.size
 . exact λb hb=>by rw[zqa,if_neg (by have:=H.size;omega)];exact H.old b hb
 . exact λh=>by rw[al_gn (by decide)];exact H.a0 (by rw[upd_ne _ _ (by decide)]at h;exact h)
 . exact λh=>by
    have q:=H.a1 (by rw[upd_ne _ _ (by decide)]at h;exact h);rw[zqj f _ (show(1:Nat)≠5 by decide)];exact⟨by rw[al_gn (by decide)];exact q.1,q.2.1,zqf (q.2.2)⟩
 . exact λh=>by rw[al_gn (by decide)];exact H.a2 (by rw[upd_ne _ _ (by decide)]at h;exact h)
 . exact λh=>by
    have q:=H.a3 (by rw[upd_ne _ _ (by decide)]at h;exact h);rw[zqj f _ (show(3:Nat)≠5 by decide)];exact⟨by rw[al_gn (by decide)];exact q.1,q.2.1,zqf (q.2.2)⟩
 . exact λh=>by
    have q:=H.a4 (by rw[upd_ne _ _ (by decide)]at h;exact h);rw[zqj f _ (show(4:Nat)≠5 by decide)];exact⟨by rw[al_gn (by decide)];exact q.1,q.2.1,λh=>zqf (q.2.2 (by rw[upd_ne _ _ (by decide)]at h;exact h))⟩
 . exact λ_=>by
    rw[upd'_same];exact⟨by rw[al_gs,if_pos rfl,if_pos (by rw[H.sz];decide)],H.size,λ_=>zq12 _ _⟩
 . exact λh=>by
    have q:=H.a6 (by rw[upd_ne _ _ (by decide)]at h;exact h);rw[zqj f _ (show(4:Nat)≠5 by decide),zqj f _ (show(1:Nat)≠5 by decide)];exact⟨zqf (q.1),by rw[upd_ne _ _ (by decide)];exact q.2.1,by rw[upd_ne _ _ (by decide)];exact q.2.2⟩
 . exact λh=>by
    have q:=H.a7 (by rw[upd_ne _ _ (by decide)]at h;exact h);have:=q.2.1;rw[hLj]at this;cases this
theorem R5.s6 (H:R5 n T₀ w f L T w')(hLj:L 6=false)(l4:L 4=true)(l1:L 1=true):R5 n T₀ w f (upd L 6 true) T (w'.setCell ⟨f 4,0,none⟩ (.slice (some ⟨f 1,0,none⟩) n n)):=by
 have hst:=(H.a4 l4).2.2 hLj;have hlo:=(H.a4 l4).2.1;refine⟨?_,?_,?_,?_,?_,?_,?_,?_,?_,?_,?_,?_⟩
 . exact H.sz
 . exact H.out
 . exact by rw[zq13];exact H.size
 . exact λb hb=>by rw[zqi _ _ _ _ (show b≠f 4 by omega)];exact H.old b hb
 . exact λh=>by exact H.a0 (by rw[upd_ne _ _ (by decide)]at h;exact h)
 . exact λh=>by
    have q:=H.a1 (by rw[upd_ne _ _ (by decide)]at h;exact h);exact⟨by exact q.1,q.2.1,(zqi _ _ _ _ (λe=>zq1h q.2.2 hst (by decide) e)).trans q.2.2⟩
 . exact λh=>by exact H.a2 (by rw[upd_ne _ _ (by decide)]at h;exact h)
 . exact λh=>by
    have q:=H.a3 (by rw[upd_ne _ _ (by decide)]at h;exact h);exact⟨by exact q.1,q.2.1,(zqi _ _ _ _ (λe=>zq1h q.2.2 hst (by decide) e)).trans q.2.2⟩
 . exact λh=>by
    have q:=H.a4 (by rw[upd_ne _ _ (by decide)]at h;exact h);exact⟨by exact q.1,q.2.1,λh=>by rw[upd_same]at h;cases h⟩
 . exact λh=>by
    have q:=H.a5 (by rw[upd_ne _ _ (by decide)]at h;exact h);exact⟨by exact q.1,q.2.1,λh=>(zqi _ _ _ _ (λe=>zq1h (q.2.2 (by rw[upd_ne _ _ (by decide)]at h;exact h)) hst (by decide) e)).trans (q.2.2 (by rw[upd_ne _ _ (by decide)]at h;exact h))⟩
 . exact λ_=>⟨(zqy _ _ _ _ hst).trans (by rfl),by rw[upd_ne _ _ (by decide)];exact l4,by rw[upd_ne _ _ (by decide)];exact l1⟩
 . exact λh=>by
    have q:=H.a7 (by rw[upd_ne _ _ (by decide)]at h;exact h);exact⟨(zqi _ _ _ _ (λe=>zq1h q.1 hst (by decide) e)).trans q.1,by rw[upd_ne _ _ (by decide)];exact q.2.1,by rw[upd_ne _ _ (by decide)];exact q.2.2⟩
theorem R5.s7 (H:R5 n T₀ w f L T w')(hLj:L 7=false)(l5:L 5=true)(l3:L 3=true):R5 n T₀ w f (upd L 7 true) T (w'.setCell ⟨f 5,0,none⟩ (.slice (some ⟨f 3,0,none⟩) n n)):=by
 have hst:=(H.a5 l5).2.2 hLj;have hlo:=(H.a5 l5).2.1;refine⟨?_,?_,?_,?_,?_,?_,?_,?_,?_,?_,?_,?_⟩
 . exact H.sz
 . exact H.out
 . exact by rw[zq13];exact H.size
 . exact λb hb=>by rw[zqi _ _ _ _ (show b≠f 5 by omega)];exact H.old b hb
 . exact λh=>by exact H.a0 (by rw[upd_ne _ _ (by decide)]at h;exact h)
 . exact λh=>by
    have q:=H.a1 (by rw[upd_ne _ _ (by decide)]at h;exact h);exact⟨by exact q.1,q.2.1,(zqi _ _ _ _ (λe=>zq1h q.2.2 hst (by decide) e)).trans q.2.2⟩
 . exact λh=>by exact H.a2 (by rw[upd_ne _ _ (by decide)]at h;exact h)
 . exact λh=>by
    have q:=H.a3 (by rw[upd_ne _ _ (by decide)]at h;exact h);exact⟨by exact q.1,q.2.1,(zqi _ _ _ _ (λe=>zq1h q.2.2 hst (by decide) e)).trans q.2.2⟩
 . exact λh=>by
    have q:=H.a4 (by rw[upd_ne _ _ (by decide)]at h;exact h);exact⟨by exact q.1,q.2.1,λh=>(zqi _ _ _ _ (λe=>zq1h (q.2.2 (by rw[upd_ne _ _ (by decide)]at h;exact h)) hst (by decide) e)).trans (q.2.2 (by rw[upd_ne _ _ (by decide)]at h;exact h))⟩
 . exact λh=>by
    have q:=H.a5 (by rw[upd_ne _ _ (by decide)]at h;exact h);exact⟨by exact q.1,q.2.1,λh=>by rw[upd_same]at h;cases h⟩
 . exact λh=>by
    have q:=H.a6 (by rw[upd_ne _ _ (by decide)]at h;exact h);exact⟨(zqi _ _ _ _ (λe=>zq1h q.1 hst (by decide) e)).trans q.1,by rw[upd_ne _ _ (by decide)];exact q.2.1,by rw[upd_ne _ _ (by decide)];exact q.2.2⟩
 . exact λ_=>⟨(zqy _ _ _ _ hst).trans (by rfl),by rw[upd_ne _ _ (by decide)];exact l5,by rw[upd_ne _ _ (by decide)];exact l3⟩
noncomputable def r5Ops:Array Oper:=match headC (obxT 4)with
 |.region _ ops _=>ops
 |_=>#[]
theorem r5_body:headC (obxT 4)=.region 5 r5Ops true:=by kernel_rfl
theorem zq5t:r5Ops.size=8:=by kernel_rfl
end
section
variable {main:Bool} {Kc:Addr->Option Value} {γ:Type} {J:γ->Goroutine->World->Prop}
theorem bx_rows(hJ:JS Try.prog main Kc J)(hKc:∀a,Kc a=none){b:Frame}(hb:b.kind≠.early){k:List Item}{cs:List Frame}{s:γ}{T₀:Array Value}{n:Nat}{w:World}(hsz:T₀.size=127)(h5:T₀[5]?=some (.int .i64 n))(hn:n<=64)
 (hgo:∀f T w',R5 n T₀ w f (λ_=>true) T w'->J s (G (b.at ⟨T,[]⟩ k) cs) w'):J s (G (b.at ⟨T₀,[]⟩ (.code (headC (obxT 4))::k)) cs) w:=by
 rw[r5_body];obtain⟨os,hos⟩:∃os,r5Ops=os:=⟨_,rfl⟩;have eos:=hos;simp only[r5Ops,obxT,headC,tailN,Try.f6,al_od]at eos;subst eos;refine zqb0 hJ hb rfl (λL T w'=>∃f,R5 n T₀ w f L T w') (by kernel_rfl) (λL T w' τ d⟨f,h⟩=>⟨f,h.re τ d⟩) ?_ ?_ ?_
 . exact⟨λ_=>0,hsz,λ_ _ _ _ _ _ _=>rfl,Nat.le_refl _,λ_ _=>rfl,λh=>(by cases h),λh=>(by cases h),λh=>(by cases h),λh=>(by cases h),λh=>(by cases h),λh=>(by cases h),λh=>(by cases h),λh=>(by cases h)⟩
 . rintro L T w' j oo ⟨f,H⟩ hLj hoo hdep;have hlt:j<8:=by rw[<-zq5t];exact(Array.getElem?_eq_some_iff.1 hoo).1
   rw[hos]at hoo;have hmk:=make_got w' n hn;have hmk2:=make_won w' n hn;obtain rfl |rfl |rfl |rfl |rfl |rfl |rfl |rfl:j=0\/j=1\/j=2\/j=3\/j=4\/j=5\/j=6\/j=7:=by omega
   all_goals(simp only[al_gl,al_g0,al_g1,al_oi]at hoo;subst hoo)
   all_goals(have t5:T[5]?=some (.int .i64 n):=(H.out 5 (by decide) (by decide) (by decide) (by decide) (by decide) (by decide)).trans h5)
   ·
    refine .inr (.inl ⟨rfl,rfl,24,rfl,_,_,?_,f,H.s0⟩);clear hgo H hdep;simp only[execOp,Act.eval,al_gd,t5,al_od]
    try go_simp
    all_goals(try rfl)
   ·
    have l0:L 0=true:=hdep ⟨0,.data⟩ (by simp) rfl;have t24:=H.a0 l0;refine .inr (.inl ⟨rfl,rfl,25,rfl,_,_,?_,_,H.s1 hLj⟩);clear hgo H hdep;simp only[execOp,Act.eval,al_gd,t24,al_od]
    try go_simp
    all_goals(try rfl)
   ·
    refine .inr (.inl ⟨rfl,rfl,26,rfl,_,_,?_,f,H.s2⟩);clear hgo H hdep;simp only[execOp,Act.eval,al_gd,t5,al_od]
    try go_simp
    all_goals(try rfl)
   ·
    have l2:L 2=true:=hdep ⟨2,.data⟩ (by simp) rfl;have t26:=H.a2 l2;refine .inr (.inl ⟨rfl,rfl,27,rfl,_,_,?_,_,H.s3 hLj⟩);clear hgo H hdep;simp only[execOp,Act.eval,al_gd,t26,al_od]
    try go_simp
    all_goals(try rfl)
   ·
    refine .inr (.inl ⟨rfl,rfl,7,rfl,_,_,?_,_,H.s4 hLj⟩);clear hgo H hdep;simp only[execOp,Act.eval,al_gd,al_od]
    try go_simp
    all_goals(try rfl)
   ·
    refine .inr (.inl ⟨rfl,rfl,8,rfl,_,_,?_,_,H.s5 hLj⟩);clear hgo H hdep;simp only[execOp,Act.eval,al_gd,al_od]
    try go_simp
    all_goals(try rfl)
   ·
    have l4:L 4=true:=hdep ⟨4,.data⟩ (by simp) rfl;have l1:L 1=true:=hdep ⟨1,.data⟩ (by simp) rfl;have t7:=(H.a4 l4).1;have t25:=(H.a1 l1).1;have hst:=(H.a4 l4).2.2 hLj;have z0:=zqc (off:=0) hst;have y0:=(zq0 (off:=0) hst).trans rfl;refine .inr (.inr ⟨rfl,rfl,⟨_,_,_,⟨f 4,0,none⟩,rfl,by simp[Act.eval,al_gd,t7],λj _=>hKc _,_,_,_,hst⟩,_,?_,f,H.s6 hLj l4 l1⟩);clear hgo H hdep;simp only[execOp,Act.eval,al_gd,t7,t25,al_od]
    try go_simp
    all_goals(try rfl)
   ·
    have l5:L 5=true:=hdep ⟨5,.data⟩ (by simp) rfl;have l3:L 3=true:=hdep ⟨3,.data⟩ (by simp) rfl;have t8:=(H.a5 l5).1;have t27:=(H.a3 l3).1;have hst:=(H.a5 l5).2.2 hLj;have z0:=zqc (off:=0) hst;have y0:=(zq0 (off:=0) hst).trans rfl;refine .inr (.inr ⟨rfl,rfl,⟨_,_,_,⟨f 5,0,none⟩,rfl,by simp[Act.eval,al_gd,t8],λj _=>hKc _,_,_,_,hst⟩,_,?_,f,H.s7 hLj l5 l3⟩);clear hgo H hdep;simp only[execOp,Act.eval,al_gd,t8,t27,al_od]
    try go_simp
    all_goals(try rfl)
 . rintro L T w' hall ⟨f,H⟩;have hL:L=λi=>if i<8 then true else L i:=funext λi=>by
    split
    . next h=>exact hall i (by rw[zq5t];exact h)
    . rfl
   have a:=λi(h:i<8)=>hall i (by rw[zq5t];exact h);refine hJ.ctl (s:=s) (λw=>stepG_region_end) (hgo f T w' ⟨H.sz,H.out,H.size,H.old,λ_=>H.a0 (a 0 (by decide)),λ_=>H.a1 (a 1 (by decide)),λ_=>H.a2 (a 2 (by decide)),λ_=>H.a3 (a 3 (by decide)),λ_=>⟨(H.a4 (a 4 (by decide))).1,(H.a4 (a 4 (by decide))).2.1,λh=>(by cases h)⟩,λ_=>⟨(H.a5 (a 5 (by decide))).1,(H.a5 (a 5 (by decide))).2.1,λh=>(by cases h)⟩,λ_=>⟨(H.a6 (a 6 (by decide))).1,rfl,rfl⟩,λ_=>⟨(H.a7 (a 7 (by decide))).1,rfl,rfl⟩⟩)
end
end Go.Proofs
