/- YtkdlklpffdlglaaOAlone10: part 11 of the proof (the texts behind it, in order). -/
import Derived.Test.YtkdlklpffdlglaaR10
set_option maxHeartbeats 4000000
set_option maxRecDepth 100000
set_option linter.all false
namespace Go
theorem zxb {p : Prop} (h : p := by
  have hst:=λτ dd=>hst0 (re w τ dd) (hWre _ _ _ _ τ dd hw);cases hdst:o.dst with
  |some d=>
   refine zq2q hJ hb ho hok hwan hdst λτ dd=>?_;rcases hst τ dd with⟨_,⟨d',v,w',hd',hr,hI'⟩|⟨hd',_⟩⟩|⟨d',f,args,hd',hrun,hev,hcall⟩
   . exact⟨v,w',hr,hnext _ _ _ (value s d v w' hdst hI')⟩
   . rw[hdst]at hd';cases hd'
   . exfalso;rcases hpl with⟨_,v,w',_,hr,_⟩|⟨hd',_⟩
     . rw[hrun]at hr;cases hr
     . rw[hdst]at hd';cases hd'
  |none=>
   refine zq3v hJ hb ho hok hwan hdst λτ dd=>?_;rcases hst τ dd with⟨_,⟨d',v,w',hd',_⟩|⟨hd',w',hr,hI'⟩⟩|⟨d',f,args,hd',_⟩
   . rw[hdst]at hd';cases hd'
   . exact⟨w',hr,hnext _ _ _ (skip w' hdst hI')⟩
   . rw[hdst]at hd';cases hd') : p := h
theorem zxj {p : Prop} (h : p := by
  have hrun':∀w,(execOp (Act.mk T ds).eval o).run P w=.ok (.enter f args) w:=hrun;refine zq21 hb hJ ho hwan (λτ dd=>hrun' (re w τ dd)) (λτ dd e he=>?_) ?_
  . rw[Sem.runT_eq,show(execOp (Act.mk T ds).eval o).events P (re w τ dd) #[]=#[]from hev _]at he;simp at he
  . refine hcall _ _ ?_ ?_
    . rintro s' v w' ⟨v',e,hW'⟩;cases e;rw[Frame.finish_at,ho];have hp:(Act.mk T ds).put o.dst v=⟨T.setIfInBounds d v,ds⟩:=by rw[hd];rfl
      simp only[al_ob];have:=hnext _ _ _ (value s' d v w' hd hW');simpa[hp]using this
    . rintro s' ch w' ⟨v,e,_⟩;cases e) : p := h
theorem zxs {p : Prop} (h : p := by
  rintro s L T w hall ⟨vals,hlen,hw,hsz,hout,hin⟩;have:T=putv ops vals 0 T₀:=by
   apply Array.ext_getElem?;intro x
   by_cases hx:∃j,dstOf ops j=some x
   . obtain⟨j,hdj⟩:=hx;rw[hin j x hdj (hall j (dlt j x hdj).1),final vals hlen j x hdj]
   . have hno:∀j,dstOf ops j≠some x:=λj hd=>hx ⟨j,hd⟩;rw[hout x hno];exact(zq1p vals 0 _ x λj _ _=>hno j).symm
  rw[this];exact hend s L vals w hall hlen hw) : p := h
theorem zxw {p : Prop} (h : p := by
  by_cases e:j=i
  . subst e;rw[hdi]at hdj;obtain rfl:=Option.some.inj hdj;have:d<T.size:=by rw[hsz];exact hdo d hd
    have hjl:j<vals.length:=by omega
    simp[this,hjl]
  . have hdt:d≠t:=λe2=>by subst e2;exact e (apart j i d hdj hdi)
    rw[upd_ne _ _ e]at hl;rw[al_gn hdt,List.getElem?_set_ne (λe2=>e e2.symm),hin j t hdj hl]) : p := h
end Go
namespace Go.Proofs
open Go Go.Conc Go.RowKit Go.Car
noncomputable def cmT(n:Nat):Code:=tailN n (Try.f45.body.getD .skip)
section
variable {M2 S2 β:Type} {D:Core M2 S2} {ro:Nat->Option Obj} {i:Nat} {T:NumT}
theorem zqdn(Y:YSys Try.prog aM (zqc (zqg T) D) ro i β)(B:Nat->Option Obj)(sv:Value):SpecAt Y B 46 #[sv] (Proc.ret (5,false)) pairV:=by
 refine SpecAt.of Try.func46 rfl ?_;intro K s w hK hA;simp only[zqe,Try.ntmps46,List.size_toArray,List.length_cons,List.length_nil,Nat.reduceAdd,Nat.reduceSub,Array.replicate_succ,Array.replicate_zero,List.push_toArray,List.append_toArray,List.nil_append,List.cons_append];apply YSys.seq0 hA zyk
 . exact zx3
 intro w hA;apply YSys.seq0 hA zyk
 . exact zx3
 intro w hA;refine zq1c Y.jc ?_;exact⟨rfl,.inl ⟨_,resultsC_tmp2 rfl _,(5,false),rfl,hA⟩⟩
theorem zq84(Z:Alone Try.prog aM (zqc (zqg T) D) ro i β){I:Nums×S2->Prop}{c:Nat}(hc:c<T.N)(hlen:T.len c=3){B:Nat->Option Obj}{b3 b5:Nat}{op:OpX}(h3:B b3=some (.cells #[.pointer (some ⟨T.ob c,0,none⟩)] 35))(h5:B b5=some (.cells op.cells.toArray 34)){K:Int×Bool->Proc (Nums×S2) β}{s:Z.γ}{w:World}{x0 x3 x6 x7 x8 x9 x10 x11 x12 x13 x14 x15 x16 x17 x18 x19 x20 x21 x22:Value}
 (hA:(Z.sys I).AtB B s w ((onN λg=>(g,(IntKind.i64.wrap (op.b+g c 2),true))).bind K)):wpJ Z.J (.seq (headC (cmT 2)) (.seq (headC (cmT 3)) .ret)) (bodyC ((Z.sys I).Bd (Try.f45) (RetY (Z.sys I) K pairV B)) (RetY (Z.sys I) K pairV B)) s ⟨#[x0,.pointer (some ⟨b3,0,none⟩),.pointer (some ⟨b5,0,none⟩),x3,.int .i64 0,.bool false,x6,x7,x8,x9,x10,x11,x12,x13,x14,x15,x16,x17,x18,x19,x20,x21,x22],[]⟩ w:=by
 have HI:=Lib.hid (And.intro h3 h5);clear h3 h5;obtain⟨m,hm,hA⟩:=hA;refine zqh (Z.sys I).jc ?_;refine Z.actS (I':=I) (g:=λs=>(s,(IntKind.i64.wrap (op.b+s.1 c 2),true))) (λt B'=>t=#[x0,.pointer (some ⟨b3,0,none⟩),.pointer (some ⟨b5,0,none⟩),x3,.int .i64 0,.bool false,.int .i64 (m.l.1 c 0),.int .i64 (m.l.1 c 1),.int .i64 (m.l.1 c 2),x9,x10,x11,x12,.tuple #[.int .i64 (m.l.1 c 0),.int .i64 (m.l.1 c 1),.int .i64 (m.l.1 c 2)],.pointer (some ⟨T.ob c,0,none⟩),.tuple #[.int .i64 (m.l.1 c 0),.int .i64 (m.l.1 c 1),.int .i64 (m.l.1 c 2)],.int .i64 (m.l.1 c 0),.int .i64 (m.l.1 c 1),.int .i64 (m.l.1 c 2),x19,x20,x21,x22]/\B'=B) hA zyk (λs h=>h) (λs=>Z.oth s) ?_ ?_
 . intro wc hB hIs X hX;have HX:=Lib.hid hX;clear hX;have k3:=hB.box i b3 _ (by rw[hm];exact HI.out.1);have cp:wc.cell? ⟨b3,0,none⟩=some (.pointer (some ⟨T.ob c,0,none⟩)):=(zq0 k3).trans rfl;have n0:=(zq1n hB wc.tape wc.drawn).cell hc (j:=0) (by rw[hlen];decide);have n1:=(zq1n hB wc.tape wc.drawn).cell hc (j:=1) (by rw[hlen];decide);have n2:=(zq1n hB wc.tape wc.drawn).cell hc (j:=2) (by rw[hlen];decide);have HS:=Lib.hid (zq5q (w:=wc) n0 n1 n2);have HB:=Lib.hid (And.intro hB hm);obtain⟨pb,hpb⟩:∃p,T.ob c=p:=⟨_,rfl⟩;obtain⟨y0,hy0⟩:∃y,m.l.1 c 0=y:=⟨_,rfl⟩;obtain⟨y1,hy1⟩:∃y,m.l.1 c 1=y:=⟨_,rfl⟩;obtain⟨y2,hy2⟩:∃y,m.l.1 c 2=y:=⟨_,rfl⟩;have HY:=Lib.hid (And.intro hpb (And.intro hy0 (And.intro hy1 hy2)));rw[hpb,hy0,hy1,hy2]at HS;rw[hpb]at cp;rw[hpb,hy0,hy1,hy2]at HX;clear hB hm k3 n0 n1 n2 hA hIs hlen hpb hy0 hy1 hy2;obtain⟨u0,hu0⟩:∃c,headC (cmT 2)=c:=⟨_,rfl⟩;have eu0:=hu0;rw[hu0];simp only[cmT,headC,tailN,Try.f45,al_od]at eu0;subst eu0;clear hu0
   go_wp2_with (fail)
   refine Calls.mono HS.out ?_;rintro e w' ⟨rfl,nd,rfl⟩;go_wp2;obtain⟨hB,hm⟩:=HB.out;exact⟨rfl,HX.out _ m.l _ _ (Moved.ext hB ⟨Nat.le_refl _,λ_ _=>rfl⟩) rfl ⟨rfl,hm⟩⟩
 . rintro t' m' w' ⟨rfl,hb⟩ hA';have hA2:(Z.sys I).AtB B s w' (K (IntKind.i64.wrap (op.b+m.l.1 c 2),true)):=⟨m',hb,hA'⟩;clear hA' hA;show wpJ (Z.sys I).J _ _ _ _ _;obtain⟨y2,hy2⟩:∃y,m.l.1 c 2=y:=⟨_,rfl⟩;rw[hy2]at hA2 |-;apply YSys.seq0 hA2 zyk
   . intro wc hB;have c2:wc.cell? ⟨b5,2,none⟩=some (.int .i64 op.b):=(zq0 (hB.own.box b5 _ HI.out.2)).trans rfl;obtain⟨u0,hu0⟩:∃c,headC (cmT 3)=c:=⟨_,rfl⟩;have eu0:=hu0;rw[hu0];simp only[cmT,headC,tailN,Try.f45,al_od]at eu0;subst eu0;clear hu0;go_wp2;exact⟨rfl,Ext1.refl _,rfl⟩
   intro w hA;refine zq1c (Z.sys I).jc ?_;refine⟨rfl,.inl ⟨_,resultsC_tmp2 rfl _,(IntKind.i64.wrap (op.b+y2),true),?_,hA⟩⟩;rw[show IntKind.i64.wrap (op.b+y2)=wrap64 (op.b+y2)by rw[IntKind.wrap_i64];simp only[wrap64];try omega];rfl
theorem zqdl(Z:Alone Try.prog aM (zqc (zqg T) D) ro i β){I:Nums×S2->Prop}{kb:Nat}{ct:Bool}(hs:OStp (Z.sys I) kb ct){c:Nat}(hc:c<T.N)(hlen:T.len c=3){B:Nat->Option Obj}{b3 b5:Nat}{op:OpX}(h3:B b3=some (.cells #[.pointer (some ⟨T.ob c,0,none⟩)] 35))(h5:B b5=some (.cells op.cells.toArray 34)):
 SpecAt (Z.sys I) B 45 #[svOf kb ct,.pointer (some ⟨b3,0,none⟩),.pointer (some ⟨b5,0,none⟩)] (mkP c op) pairV:=by
 refine SpecAt.of Try.func45 rfl ?_;intro K s w hK hA;simp only[zqe,Try.ntmps45,List.size_toArray,List.length_cons,List.length_nil,Nat.reduceAdd,Nat.reduceSub,Array.replicate_succ,Array.replicate_zero,List.push_toArray,List.append_toArray,List.nil_append,List.cons_append];rw[mkP,Proc.bind_bind]at hA;cases ct with
 |true=>
  unfold svOf;apply YSys.seq0 hA zyk
  . exact zx3
  intro w hA;refine zqh (Z.sys I).jc ?_;apply YSys.seq0 hA zyk
  . exact zx3
  intro w hA;refine zqz (Z.sys I).jc rfl ?_;rw[if_pos rfl];refine zqx (Z.sys I).jc ?_;apply YSys.callS 0 1 0 hA (show StepY (Z.sys I) 124 #[.pointer (some ⟨kb,0,none⟩)]from hs) rfl rfl rfl zx2p rfl rfl rfl
  . exact zx2
  . exact zxz
  . exact zxz
  . exact zxe
  intro s w hA;refine zq1e (Z.sys I).jc ?_;show wpJ Z.J _ _ _ _ _;exact zq84 Z hc hlen h3 h5 hA
 |false=>
  unfold svOf;apply YSys.seq0 hA zyk
  . exact zx3
  intro w hA;refine zqh (Z.sys I).jc ?_;apply YSys.seq0 hA zyk
  . exact zx3
  intro w hA;refine zqz (Z.sys I).jc rfl ?_;rw[if_neg zyd];refine zq1s (Z.sys I).jc ?_;show wpJ Z.J _ _ _ _ _;exact zq84 Z hc hlen h3 h5 (hs _ s B w hA)
end
end Go.Proofs
namespace Go.Car
open Go
def skipN(N:Nat)(en:Nat->Bool)(y:Int):Prop:=y<0\/(N:Int)<=y\/en y.toNat=true
inductive PickR(l:List Int)(N:Nat)(en:Nat->Bool):Nat->Nat->Nat->Nat->Nat->Prop
 |list {a r k x:Nat} (hk:a<=k) (hx:l[k]?=some (x:Int)) (hN:x<N) (he:en x=false) (hs:∀j y,a<=j->j<k->l[j]?=some y->skipN N en y):PickR l N en a r x (k+1) r
 |round {a r x v a':Nat} (hs:∀j y,a<=j->l[j]?=some y->skipN N en y) (hr:r<=v) (hx:x=v % N) (hN:0<N) (he:en x=false) (hv:∀j,r<=j->j<v->en (j % N)=true) (ha:l.length<=a'):PickR l N en a r x a' (x+1)
theorem PickR.lt {l:List Int}{N a r x a' r':Nat}{en:Nat->Bool}(h:PickR l N en a r x a' r'):x<N/\en x=false:=by
 cases h with
 |list hk hx hN he hs=>exact⟨hN,he⟩
 |round hs hr hx hN he hv ha=>exact⟨by rw[hx];exact Nat.mod_lt _ hN,he⟩
section
variable {prog:Nat->List Cd} {N most:Nat}
theorem zq8s{ov:Nat->Bool}(h:leftN ov N=0){i:Nat}(hi:i<N):ov i=true:=by
 cases e:ov i with
 |true=>rfl
 |false=>have:=zq5e hi e;omega
theorem zqev{ov:Nat->Bool}{i:Nat}(hi:i<N)(e:ov i=false):0<leftN ov N:=by have:=zq5e hi e;omega
theorem zqmf{q j:Nat}(h:q+j<N):((upto N).drop q)[j]?=some ((q+j:Nat):Int):=by rw[List.getElem?_drop,zq4y h]
theorem zqcl{q j:Nat}{y:Int}(h:((upto N).drop q)[j]?=some y):y=((q+j:Nat):Int)/\q+j<N:=by
 have h2:=h;rw[List.getElem?_drop]at h2;have hlt:q+j<N:=by have:=(List.getElem?_eq_some_iff.1 h2).1;rw[zq62]at this;exact this
 rw[zq4y hlt]at h2;exact⟨(Option.some.inj h2).symm,hlt⟩
end
end Go.Car
namespace Go.Car
open Go
section
variable {S:Type} {N most:Nat}
theorem zqjx{y:Int}{s:TSt S}(h:skipN N s.ov y):zq1x N most y s=s:=by
 unfold zq1x;rw[if_pos];rcases h with h|h|h
 . exact .inl h
 . exact .inr (.inl h)
 . exact .inr (.inr (.inl h))
theorem zq4v{s:TSt S}:∀(L:List Int),(∀y∈L,skipN N s.ov y)->zq1b N most L s=s
 |[],_=>rfl
 |y::L,h=>by
  unfold zq1b;rw[List.foldl_cons,zqjx (h y zx2n)];exact zq4v L λz hz=>h z (by simp[hz])
theorem zq77{s:TSt S}(h:s.ord.length=most):∀(L:List Int),zq1b N most L s=s
 |[]=>rfl
 |y::L=>by
  have e:zq1x N most y s=s:=by unfold zq1x;rw[if_pos (.inr (.inr (.inr h)))]
  unfold zq1b;rw[List.foldl_cons,e];exact zq77 h L
theorem zqk3(L1 L2:List Int)(s:TSt S):zq1b N most (L1++L2) s=zq1b N most L2 (zq1b N most L1 s):=List.foldl_append
theorem zqb6{s:TSt S}(h:leftN s.ov N=0)(L:List Int):zq1b N most L s=s:=by
 refine zq4v L λy _=>?_
 by_cases h1:y<0
 . exact .inl h1
 by_cases h2:(N:Int)<=y
 . exact .inr (.inl h2)
 . exact .inr (.inr (zq8s h zyo))
theorem zq9u{f:Nat}{s:TSt S}(h:¬(0<leftN s.ov N/\s.ord.length<most)):zq24 N most f s=s:=by
 cases f with
 |zero=>rfl
 |succ f=>unfold zq24;rw[if_neg h]
theorem zqjw{x:Nat}{s:TSt S}(hx:x<N)(he:s.ov x=false)(hm:s.ord.length≠most):zq1x N most x s=turnT x (goT (s.t x) s.s) s (s.ord++[x]):=by
 unfold zq1x;rw[if_neg]
 . rw[Int.toNat_natCast]
 . rintro(h|h|h|h)
   . omega
   . omega
   . rw[Int.toNat_natCast,he]at h;cases h
   . exact hm h
theorem zq76{L:List Int}{k:Nat}{x:Nat}{s:TSt S}(hk:L[k]?=some (x:Int))(hs:∀j y,j<k->L[j]?=some y->skipN N s.ov y)(hx:x<N)(he:s.ov x=false)(hm:s.ord.length≠most):
 zq1b N most L s=zq1b N most (L.drop (k+1)) (turnT x (goT (s.t x) s.s) s (s.ord++[x])):=by
 obtain⟨hlt,hg⟩:=List.getElem?_eq_some_iff.1 hk;have e:L=L.take k++(x:Int)::L.drop (k+1):=by
  rw[<-hg,List.getElem_cons_drop,List.take_append_drop]
 have e2:zq1b N most L s=zq1b N most (L.take k++(x:Int)::L.drop (k+1)) s:=by rw[<-e]
 rw[e2,zqk3,zq4v (L.take k) λy hy=>?_]
 . show List.foldl _ _ _=_;rw[List.foldl_cons,zqjw hx he hm];rfl
 . obtain⟨j,hj⟩:=List.mem_iff_getElem?.1 hy;rw[List.getElem?_take]at hj;split at hj
   . rename_i hh;exact hs j y hh hj
   . cases hj
def zq31(l:List Int)(N most:Nat)(P:TSt S)(a r:Nat)(s:TSt S):Prop:=
 r<=N/\∃f q,most<f+s.ord.length/\(q=r\/(r=0/\q=N))/\zq24 N most f (zq1b N most ((upto N).drop q) (zq1b N most (l.drop a) s))=P
theorem zqg8(pr:Nat->Proc S Unit)(l:List Int)(s:S):zq31 l N most (playT pr N most l s) 0 0 (zq15 pr s N):=by
 refine⟨Nat.zero_le _,most+1,N,by omega,.inr ⟨rfl,rfl⟩,?_⟩;have:(upto N).drop N=[]:=List.drop_eq_nil_of_le (by rw[zq62];exact Nat.le_refl _);rw[this];rfl
theorem zq9q{l:List Int}{P s:TSt S}{a r:Nat}(h:zq31 l N most P a r s)(hs:leftN s.ov N=0\/s.ord.length=most):P=s:=by
 obtain⟨_,f,q,_,_,h⟩:=h;rcases hs with hs|hs
 . rw[zqb6 hs,zqb6 hs,zq9u zyo]at h;exact h.symm
 . rw[zq77 hs,zq77 hs,zq9u zyo]at h;exact h.symm
theorem zq9p{l:List Int}{P s:TSt S}{a r x a' r':Nat}(h:zq31 l N most P a r s)(hm:s.ord.length<most)(hp:PickR l N s.ov a r x a' r'):zq31 l N most P a' r' (turnT x (goT (s.t x) s.s) s (s.ord++[x])):=by
 obtain⟨hrN,f,q,hf,hq,h⟩:=h;have hl1:(turnT x (goT (s.t x) s.s) s (s.ord++[x])).ord.length=s.ord.length+1:=by simp[turnT]
 cases hp with
 |list hk hx hN he hs=>
  rename_i k;refine⟨hrN,f,q,by omega,hq,?_⟩;rw[zq76 (k:=k - a) (x:=x) (by rw[List.getElem?_drop,show a+(k - a)=k from by omega];exact hx) (λj y hj hy=>hs (a+j) y zyo zyo (by rw[List.getElem?_drop]at hy;exact hy)) hN he zyo,List.drop_drop,show a+(k - a+1)=k+1 from by omega]at h;exact h
 |round hs hr hx hN he hv ha=>
  rename_i v;have hxN:x<N:=by rw[hx];exact Nat.mod_lt _ hN
  have e1:zq1b N most (l.drop a) s=s:=zq4v _ λy hy=>by
   obtain⟨j,hj⟩:=List.mem_iff_getElem?.1 hy;rw[List.getElem?_drop]at hj;exact hs (a+j) y zyo hj
  have e2:l.drop a'=[]:=List.drop_eq_nil_of_le ha;rw[e1]at h
  by_cases hc:q<=v/\v<N
  . have hxv:x=v:=by rw[hx,Nat.mod_eq_of_lt hc.2]
    subst hxv;refine⟨by omega,f,x+1,by omega,.inl rfl,?_⟩;rw[e2];rw[zq76 (k:=x - q) (x:=x) (by rw[zqmf zyo,show q+(x - q)=x from by omega]) (λj y hj hy=>?_) hxN he zyo,List.drop_drop,show q+(x - q+1)=x+1 from by omega]at h
    . exact h
    . obtain⟨rfl,hlt⟩:=zqcl hy;have:=hv (q+j) zyo zyo;rw[Nat.mod_eq_of_lt hlt]at this;exact .inr (.inr (by rw[Int.toNat_natCast];exact this))
  . have e3:zq1b N most ((upto N).drop q) s=s:=zq4v _ λy hy=>by
     obtain⟨j,hj⟩:=List.mem_iff_getElem?.1 hy;obtain⟨rfl,hlt⟩:=zqcl hj;have:=hv (q+j) zyo zyo;rw[Nat.mod_eq_of_lt hlt]at this;exact .inr (.inr (by rw[Int.toNat_natCast];exact this))
    rw[e3]at h;cases f with
    |zero=>omega
    |succ f=>
     unfold zq24 at h;rw[if_pos ⟨zqev hxN he,hm⟩]at h;refine⟨by omega,f,x+1,by omega,.inl rfl,?_⟩;rw[e2];rw[zq76 (L:=upto N) (k:=x) (x:=x) (zq4y hxN) (λj y hj hy=>?_) hxN he zyo]at h
     . exact h
     . have hjN:j<N:=by omega
       rw[zq4y hjN]at hy;cases hy;have key:∃u,r<=u/\u<v/\u % N=j:=by
        by_cases hvN:v<N
        . have:x=v:=by rw[hx,Nat.mod_eq_of_lt hvN]
          refine⟨j,by omega,by omega,Nat.mod_eq_of_lt hjN⟩
        . have hdiv:v=N*(v / N)+x:=by rw[hx];exact(Nat.div_add_mod v N).symm
          have h1:1<=v / N:=(Nat.le_div_iff_mul_le hN).2 zyo;have h2:N*1<=N*(v / N):=Nat.mul_le_mul_left N h1;refine⟨N*(v / N)+j,by omega,by omega,?_⟩;rw[Nat.mul_add_mod,Nat.mod_eq_of_lt hjN]
       obtain⟨u,h1,h2,h3⟩:=key;have:=hv u h1 h2;rw[h3]at this;exact .inr (.inr (by rw[Int.toNat_natCast];exact this))#print axioms zq9p
end
def zq1v(c:Int):Int:=if c<1 then 1 else if c>1024 then 1024 else c
theorem zqmd(c:Int):1<=zq1v c/\zq1v c<=1024:=by unfold zq1v;split<;>(try split)<;>omega
structure RTh where
 at':Nat
 pc:Nat
 n:Nat->Int
 ans:List Ans
 en:Bool
def RTh.z:RTh:=⟨0,0,λ_=>0,[],false⟩
def RTh.fin (t:RTh)(a:Ans):RTh:={t with ans:=t.ans++[a],at':=t.at'+1,pc:=0}
structure RM(S1:Type)where
 bg:Nat->OpX->S1->RTh->S1×RTh
 stp:Nat->OpX->S1->RTh->S1×RTh
def zq4w{S:Type}(p:Proc S Unit):Tree S Unit:=.step (λs=>(p s).1) (λs=>(p s).2)
section
variable {S1:Type}
def zqq(M:RM S1)(i:Nat)(ops:List OpX):Nat->S1×RTh->S1×RTh
 |0,x=>x
 |f+1,x=>if x.2.pc=0 then(match ops[x.2.at']? with|some op=>zqq M i ops f (M.bg i op x.1 x.2)|none=>x)else x
def sealG(ops:List OpX)(x:S1×RTh):S1×RTh:=(x.1,{x.2 with en:=decide (ops.length<=x.2.at')})
def setlG(M:RM S1)(i:Nat)(ops:List OpX)(x:S1×RTh):S1×RTh:=sealG ops (zqq M i ops (ops.length+1) x)
structure RLaw(M:RM S1)(dop:Nat->OpX->Proc (S1×(Nat->List Ans)) Ans)(Ok:Nat->OpX->RTh->Prop)(cont:Nat->OpX->RTh->Proc (S1×(Nat->List Ans)) Ans):Prop where
 begin:∀(i:Nat)(op:OpX)(C:S1)(A:Nat->List Ans)(t:RTh),t.pc=0->
  (∃a C',M.bg i op C t=(C',t.fin a)/\dop i op (C,A)=((C',A),.ret a))\/
  (∃C' t',M.bg i op C t=(C',t')/\t'.pc≠0/\t'.at'=t.at'/\t'.ans=t.ans/\Ok i op t'/\dop i op (C,A)=((C',A),.step (λs=>(cont i op t' s).1) (λs=>(cont i op t' s).2)))
 step:∀(i:Nat)(op:OpX)(C:S1)(A:Nat->List Ans)(t:RTh),t.pc≠0->Ok i op t->
  (∃t1 a,(M.stp i op C t).2=RTh.fin t1 a/\t1.at'=t.at'/\t1.ans=t.ans/\cont i op t (C,A)=(((M.stp i op C t).1,A),.ret a))\/
  ((M.stp i op C t).2.pc≠0/\(M.stp i op C t).2.at'=t.at'/\(M.stp i op C t).2.ans=t.ans/\Ok i op (M.stp i op C t).2/\
    cont i op t (C,A)=(((M.stp i op C t).1,A),.step (λs=>(cont i op (M.stp i op C t).2 s).1) (λs=>(cont i op (M.stp i op C t).2 s).2)))
def restG(dop:Nat->OpX->Proc (S1×(Nat->List Ans)) Ans)(i:Nat)(ops:List OpX)(at':Nat)(a:Ans):Proc (S1×(Nat->List Ans)) Unit:=(pushP i a).bind λ_=>opsP i (dop i) (ops.drop (at'+1))
def treeG(dop:Nat->OpX->Proc (S1×(Nat->List Ans)) Ans)(cont:Nat->OpX->RTh->Proc (S1×(Nat->List Ans)) Ans)(i:Nat)(ops:List OpX)(t:RTh):Tree (S1×(Nat->List Ans)) Unit:=if t.pc=0 then .ret ()else match ops[t.at']? with
 |some op=>zq4w ((cont i op t).bind (restG dop i ops t.at'))
 |none=>.ret ()
structure OkG(Ok:Nat->OpX->RTh->Prop)(i:Nat)(ops:List OpX)(t:RTh):Prop where
 on:t.pc≠0->∃op,ops[t.at']?=some op/\Ok i op t
 off:t.pc=0->ops.length<=t.at'
 en:t.en=decide (ops.length<=t.at')
theorem OkG.en' {Ok:Nat->OpX->RTh->Prop}{i:Nat}{ops:List OpX}{t:RTh}(h:OkG Ok i ops t):t.en=decide (t.pc=0):=by
 rw[h.en]
 by_cases hp:t.pc=0
 . simp[hp,h.off hp]
 . obtain⟨op,ho,_⟩:=h.on hp;have:=(List.getElem?_eq_some_iff.1 ho).1;simp[hp,this]
theorem zq4x{α:Type}(f:Nat->α)(i:Nat):upd' f i (f i)=f:=funext λj=>by
 by_cases h:j=i
 . subst h;simp
 . rw[zqd _ _ h]
theorem zq7g{α:Type}(f:Nat->α)(i:Nat)(x y:α):upd' (upd' f i x) i y=upd' f i y:=funext λj=>by
 by_cases h:j=i
 . subst h;simp
 . rw[zqd _ _ h,zqd _ _ h,zqd _ _ h]
variable {M:RM S1} {dop:Nat->OpX->Proc (S1×(Nat->List Ans)) Ans} {Ok:Nat->OpX->RTh->Prop} {cont:Nat->OpX->RTh->Proc (S1×(Nat->List Ans)) Ans} {i:Nat} {ops:List OpX}
theorem zqcj{i:Nat}{ops:List OpX}{t:RTh}(b:Bool)(hc:∀i op t b,cont i op {t with en:=b}=cont i op t):treeG dop cont i ops {t with en:=b}=treeG dop cont i ops t:=by
 unfold treeG;simp only[hc]
theorem zq2j{f:Nat}{x:S1×RTh}(h:x.2.pc≠0):zqq M i ops f x=x:=by
 cases f with
 |zero=>rfl
 |succ f=>unfold zqq;rw[if_neg h]
theorem zq2t{f:Nat}{C:S1}{t:RTh}{op:OpX}(hp:t.pc=0)(ho:ops[t.at']?=some op):zqq M i ops (f+1) (C,t)=zqq M i ops f (M.bg i op C t):=by
 show(if t.pc=0 then _ else _)=_;rw[if_pos hp];simp only[ho]
theorem zqac(hl:RLaw M dop Ok cont):∀(f:Nat)(t:RTh)(C:S1)(A:Nat->List Ans),t.pc=0->ops.length<f+t.at'->A i=t.ans->
 (opsP i (dop i) (ops.drop t.at')) (C,A)=(((zqq M i ops f (C,t)).1,upd' A i (zqq M i ops f (C,t)).2.ans),treeG dop cont i ops (zqq M i ops f (C,t)).2):=by
 intro f
 induction f with
 |zero=>
  intro t C A hpc hf hA;rw[List.drop_eq_nil_of_le zyo];show((C,A),Tree.ret ())=((C,upd' A i t.ans),treeG dop cont i ops t);rw[<-hA,zq4x];unfold treeG;rw[if_pos hpc]
 |succ f ih=>
  intro t C A hpc hf hA;have hs:zqq M i ops (f+1) (C,t)=(match ops[t.at']? with|some op=>zqq M i ops f (M.bg i op C t)|none=>(C,t)):=by
   show(if t.pc=0 then _ else _)=_;rw[if_pos hpc]
  rw[hs];cases hop:ops[t.at']? with
  |none=>
   have hge:ops.length<=t.at':=List.getElem?_eq_none_iff.1 hop;rw[List.drop_eq_nil_of_le hge];show((C,A),Tree.ret ())=((C,upd' A i t.ans),treeG dop cont i ops t);rw[<-hA,zq4x];unfold treeG;rw[if_pos hpc]
  |some op=>
   have hlt:=(List.getElem?_eq_some_iff.1 hop).1;have hdrop:ops.drop t.at'=op::ops.drop (t.at'+1):=by rw[List.drop_eq_getElem_cons hlt,(List.getElem?_eq_some_iff.1 hop).2]
   rw[hdrop,opsP];simp only;rcases hl.begin i op C A t hpc with⟨a,C',h1,h2⟩|⟨C',t',h1,h2,h3,h4,h5,h6⟩
   . rw[h1];have e:((dop i op).bind λa=>(pushP i a).bind λ_=>opsP i (dop i) (ops.drop (t.at'+1))) (C,A)=opsP i (dop i) (ops.drop (t.at'+1)) (C',upd' A i (A i++[a])):=by
      unfold Proc.bind;rw[h2];rfl
     have:=ih (t.fin a) C' (upd' A i (A i++[a])) rfl (by show ops.length<f+(t.at'+1);omega) (by rw[upd'_same,hA];rfl);rw[zq7g]at this;exact e.trans this
   . rw[h1,zq2j h2];have e:((dop i op).bind λa=>(pushP i a).bind λ_=>opsP i (dop i) (ops.drop (t.at'+1))) (C,A)=((C',A),zq4w ((cont i op t').bind (restG dop i ops t.at'))):=by
      unfold Proc.bind;rw[h6];rfl
     rw[e];simp only;rw[h4,<-hA,zq4x];unfold treeG;rw[if_neg h2,h3];simp only[hop]
theorem zqh2(hl:RLaw M dop Ok cont):∀(f:Nat)(t:RTh)(C:S1)(A:Nat->List Ans),(t.pc≠0->∃op,ops[t.at']?=some op/\Ok i op t)->ops.length<f+t.at'->
 ((zqq M i ops f (C,t)).2.pc≠0->∃op,ops[(zqq M i ops f (C,t)).2.at']?=some op/\Ok i op (zqq M i ops f (C,t)).2)/\((zqq M i ops f (C,t)).2.pc=0->ops.length<=(zqq M i ops f (C,t)).2.at'):=by
 intro f
 induction f with
 |zero=>exact λt C A h hf=>⟨h,λ_=>by show ops.length<=t.at';omega⟩
 |succ f ih=>
  intro t C A h hf
  by_cases hpc:t.pc=0
  . have hs:zqq M i ops (f+1) (C,t)=(match ops[t.at']? with|some op=>zqq M i ops f (M.bg i op C t)|none=>(C,t)):=by
     show(if t.pc=0 then _ else _)=_;rw[if_pos hpc]
    rw[hs];cases hop:ops[t.at']? with
    |none=>exact⟨h,λ_=>List.getElem?_eq_none_iff.1 hop⟩
    |some op=>
     simp only;rcases hl.begin i op C A t hpc with⟨a,C',h1,h2⟩|⟨C',t',h1,h2,h3,h4,h5,h6⟩
     . rw[h1];exact ih (t.fin a) C' A (λhp=>absurd rfl hp) (by show ops.length<f+(t.at'+1);omega)
     . rw[h1,zq2j h2];exact⟨λ_=>⟨op,by rw[h3];exact hop,h5⟩,λhp=>absurd hp h2⟩
  . rw[zq2j hpc];exact⟨h,λhp=>absurd hp hpc⟩
structure RelG(dop:Nat->OpX->Proc (S1×(Nat->List Ans)) Ans)(cont:Nat->OpX->RTh->Proc (S1×(Nat->List Ans)) Ans)(Ok:Nat->OpX->RTh->Prop)(n:Nat)(ops:Nat->List OpX)(a:TSt (S1×(Nat->List Ans)))(C:S1)(T:Nat->RTh):Prop where
 c:a.s.1=C
 ans:∀i,a.s.2 i=(T i).ans
 thr:∀i,i<n->a.t i=treeG dop cont i (ops i) (T i)/\a.ov i=(T i).en/\OkG Ok i (ops i) (T i)
 un:∀i,n<=i->T i=RTh.z/\a.ov i=false
variable {n N:Nat} {ops':Nat->List OpX} {a:TSt (S1×(Nat->List Ans))} {C C₀:S1} {T:Nat->RTh}
theorem zqmb{t:RTh}(h:OkG Ok i ops t):(treeG dop cont i ops t).isRet=t.en:=by
 rw[h.en'];unfold treeG
 by_cases hp:t.pc=0
 . rw[if_pos hp];simp[hp,Tree.isRet]
 . rw[if_neg hp];obtain⟨o,ho,_⟩:=h.on hp;simp only[ho];simp[zq4w,Tree.isRet,hp]
theorem RelG.turn (h:RelG dop cont Ok n ops' a C T)(hi:i<=n){C':S1}{t':RTh}{ord':List Nat}(hok:OkG Ok i (ops' i) t')(hov:a.ov i=false):
 RelG dop cont Ok (max n (i+1)) ops' (turnT i ((C',upd' a.s.2 i t'.ans),treeG dop cont i (ops' i) t') a ord') C' (upd' T i t'):=by
 refine⟨rfl,λj=>?_,λj hj=>?_,λj hj=>?_⟩
 . show upd' a.s.2 i t'.ans j=(upd' T i t' j).ans
   by_cases e:j=i
   . subst e;simp
   . rw[zqd _ _ e,zqd _ _ e];exact h.ans j
 . show upd' a.t i (treeG dop cont i (ops' i) t') j=treeG dop cont j (ops' j) (upd' T i t' j)/\(if(treeG dop cont i (ops' i) t').isRet then(λj=>if j=i then true else a.ov j)else a.ov) j=(upd' T i t' j).en/\OkG Ok j (ops' j) (upd' T i t' j);rw[zqmb hok]
   by_cases e:j=i
   . subst e;rw[upd'_same,upd'_same];refine⟨rfl,?_,hok⟩;cases hp:t'.en with
     |true=>simp
     |false=>simp[hov]
   . rw[zqd _ _ e,zqd _ _ e];obtain⟨k1,k2,k3⟩:=h.thr j zyo;refine⟨k1,?_,k3⟩;rw[<-k2];split
     . simp[e]
     . rfl
 . show upd' T i t' j=RTh.z/\(if(treeG dop cont i (ops' i) t').isRet then(λj=>if j=i then true else a.ov j)else a.ov) j=false;have e:j≠i:=by omega
   rw[zqd _ _ e];obtain⟨k1,k2⟩:=h.un j zyo;refine⟨k1,?_⟩;split
   . simp[e,k2]
   . exact k2
theorem RelG.zero (dop:Nat->OpX->Proc (S1×(Nat->List Ans)) Ans)(cont:Nat->OpX->RTh->Proc (S1×(Nat->List Ans)) Ans)(Ok:Nat->OpX->RTh->Prop)(ops:Nat->List OpX)(pr:Nat->Proc (S1×(Nat->List Ans)) Unit)(C:S1):RelG dop cont Ok 0 ops (zq15 pr (C,λ_=>[]) 0) C (λ_=>RTh.z):=
 ⟨rfl,λ_=>rfl,λi hi=>absurd hi (Nat.not_lt_zero _),λi _=>⟨rfl,rfl⟩⟩
theorem zqab(hl:RLaw M dop Ok cont)(hOk:∀i op t b,Ok i op t->Ok i op {t with en:=b})(t:RTh)(C:S1)(A:Nat->List Ans)(h:t.pc≠0->∃op,ops[t.at']?=some op/\Ok i op t):OkG Ok i ops (setlG M i ops (C,t)).2:=by
 obtain⟨h1,h2⟩:=zqh2 (ops:=ops) (i:=i) hl (ops.length+1) t C A h zyo;exact⟨λhp=>by obtain⟨op,k1,k2⟩:=h1 hp;exact⟨op,k1,hOk _ _ _ _ k2⟩,h2,rfl⟩
theorem RelG.begin (hl:RLaw M dop Ok cont)(hOk:∀i op t b,Ok i op t->Ok i op {t with en:=b})(hc:∀i op t b,cont i op {t with en:=b}=cont i op t)
 (h:RelG dop cont Ok n ops' (zq15 (λi=>opsP i (dop i) (ops' i)) (C₀,λ_=>[]) n) C T):
 RelG dop cont Ok (n+1) ops' (zq15 (λi=>opsP i (dop i) (ops' i)) (C₀,λ_=>[]) (n+1)) (setlG M n (ops' n) (C,RTh.z)).1 (upd' T n (setlG M n (ops' n) (C,RTh.z)).2):=by
 have hs:=zqac (i:=n) (ops:=ops' n) hl ((ops' n).length+1) RTh.z C (zq15 (λi=>opsP i (dop i) (ops' i)) (C₀,λ_=>[]) n).s.2 rfl (by show _<_+1+0;omega) (by rw[h.ans n,(h.un n (Nat.le_refl _)).1]);have hs':opsP n (dop n) (ops' n) (zq15 (λi=>opsP i (dop i) (ops' i)) (C₀,λ_=>[]) n).s=(((setlG M n (ops' n) (C,RTh.z)).1,upd' (zq15 (λi=>opsP i (dop i) (ops' i)) (C₀,λ_=>[]) n).s.2 n (setlG M n (ops' n) (C,RTh.z)).2.ans),treeG dop cont n (ops' n) (setlG M n (ops' n) (C,RTh.z)).2):=by
  have e:(zq15 (λi=>opsP i (dop i) (ops' i)) (C₀,λ_=>[]) n).s=(C,(zq15 (λi=>opsP i (dop i) (ops' i)) (C₀,λ_=>[]) n).s.2):=Prod.ext h.c rfl;unfold setlG sealG;simp only;rw[zqcj _ hc];refine(congrArg _ e).trans ?_;exact hs
 show RelG dop cont Ok (n+1) ops' (turnT n (opsP n (dop n) (ops' n) (zq15 (λi=>opsP i (dop i) (ops' i)) (C₀,λ_=>[]) n).s) _ _) _ _;rw[hs'];have:=h.turn (i:=n) (Nat.le_refl n) (C':=(setlG M n (ops' n) (C,RTh.z)).1) (t':=(setlG M n (ops' n) (C,RTh.z)).2) (ord':=(zq15 (λi=>opsP i (dop i) (ops' i)) (C₀,λ_=>[]) n).ord) (zqab hl hOk RTh.z C (λ_=>[]) (λhp=>absurd rfl hp)) (h.un n (Nat.le_refl _)).2
 rwa [show max n (n+1)=n+1 by omega]at this
theorem RelG.step (hl:RLaw M dop Ok cont)(hOk:∀i op t b,Ok i op t->Ok i op {t with en:=b})(hc:∀i op t b,cont i op {t with en:=b}=cont i op t)
 (h:RelG dop cont Ok N ops' a C T) {x:Nat} (hx:x<N) (he:(T x).en=false) {ord':List Nat}:
 ∃op,(ops' x)[(T x).at']?=some op/\(T x).pc≠0/\Ok x op (T x)/\
  RelG dop cont Ok N ops' (turnT x (goT (a.t x) a.s) a ord') (setlG M x (ops' x) (M.stp x op C (T x))).1 (upd' T x (setlG M x (ops' x) (M.stp x op C (T x))).2):=by
 obtain⟨k1,k2,k3⟩:=h.thr x hx;have hp:(T x).pc≠0:=λhp=>by rw[k3.en',hp]at he;simp at he
 obtain⟨op,hop,ho⟩:=k3.on hp;refine⟨op,hop,hp,ho,?_⟩;have hgo:goT (a.t x) a.s=(((setlG M x (ops' x) (M.stp x op C (T x))).1,upd' a.s.2 x (setlG M x (ops' x) (M.stp x op C (T x))).2.ans),treeG dop cont x (ops' x) (setlG M x (ops' x) (M.stp x op C (T x))).2):=by
  rw[k1];have e0:treeG dop cont x (ops' x) (T x)=zq4w ((cont x op (T x)).bind (restG dop x (ops' x) (T x).at')):=by
   unfold treeG;rw[if_neg hp];simp only[hop]
  rw[e0];have e:a.s=(C,a.s.2):=Prod.ext h.c rfl;show((cont x op (T x)).bind (restG dop x (ops' x) (T x).at')) a.s=_;rw[e];unfold setlG sealG;simp only;rw[zqcj _ hc];rcases hl.step x op C a.s.2 (T x) hp ho with⟨t1,b,h1,h2,h3,h4⟩|⟨h1,h2,h3,h4,h5⟩
  . have e2:((cont x op (T x)).bind (restG dop x (ops' x) (T x).at')) (C,a.s.2)=opsP x (dop x) ((ops' x).drop ((T x).at'+1)) ((M.stp x op C (T x)).1,upd' a.s.2 x (a.s.2 x++[b])):=by
     unfold Proc.bind;rw[h4];rfl
    rw[e2];have e3:M.stp x op C (T x)=((M.stp x op C (T x)).1,t1.fin b):=Prod.ext rfl h1;have:=zqac (i:=x) (ops:=ops' x) hl ((ops' x).length+1) (t1.fin b) (M.stp x op C (T x)).1 (upd' a.s.2 x (a.s.2 x++[b])) rfl (by show _<_+1+_;omega) (by rw[upd'_same,h.ans x,<-h3];rfl);rw[zq7g]at this;have e4:(t1.fin b).at'=(T x).at'+1:=by show t1.at'+1=_;rw[h2]
    rw[e4,<-e3]at this;exact this
  . rw[zq2j h1];have e2:((cont x op (T x)).bind (restG dop x (ops' x) (T x).at')) (C,a.s.2)=(((M.stp x op C (T x)).1,a.s.2),zq4w ((cont x op (M.stp x op C (T x)).2).bind (restG dop x (ops' x) (T x).at'))):=by
     unfold Proc.bind;rw[h5];rfl
    rw[e2,h3,<-h.ans x,zq4x];unfold treeG;rw[if_neg h1,h2];simp only[hop]
 rw[hgo];have hok:OkG Ok x (ops' x) (setlG M x (ops' x) (M.stp x op C (T x))).2:=by
  have e3:M.stp x op C (T x)=((M.stp x op C (T x)).1,(M.stp x op C (T x)).2):=rfl;rw[e3];refine zqab hl hOk _ _ (λ_=>[]) λhq=>?_;rcases hl.step x op C a.s.2 (T x) hp ho with⟨t1,b,h1,h2,h3,h4⟩|⟨h1,h2,h3,h4,h5⟩
  . rw[h1]at hq;exact absurd rfl hq
  . exact⟨op,by rw[h2];exact hop,h4⟩
 have:=h.turn (i:=x) (Nat.le_of_lt hx) (C':=(setlG M x (ops' x) (M.stp x op C (T x))).1) (t':=(setlG M x (ops' x) (M.stp x op C (T x))).2) (ord':=ord') hok (by rw[k2];exact he)
 rwa [show max N (x+1)=N by omega]at this
theorem RelG.left (h:RelG dop cont Ok N ops' a C T):leftN a.ov N=leftN (λi=>(T i).en) N:=zq6l λi hi=>(h.thr i hi).2.1
end
end Go.Car
namespace Go.Car
open Go Go.Conc Go.RowKit
theorem hao(w:World)(o:Obj)(b:Nat)(h:b<w.heap.size):(w.alloc o).heap[b]?=w.heap[b]?:=by first|exact heap_alloc_old w o b h|exact heap_alloc_old w o h
structure Wr(X:Nat->Prop)(w w':World):Prop where
 size:w.heap.size<=w'.heap.size
 shp:∀(b:Nat)(c:Array Value)(T:TypeId),w.heap[b]?=some (.cells c T)->∃c',w'.heap[b]?=some (.cells c' T)/\c'.size=c.size
 old:∀b,b<w.heap.size->¬X b->w'.heap[b]?=w.heap[b]?
section
variable {X:Nat->Prop} {w w' w'':World}
theorem Wr.refl (X:Nat->Prop)(w:World):Wr X w w:=⟨Nat.le_refl _,λb c T h=>⟨c,h,rfl⟩,λ_ _ _=>rfl⟩
end
section
variable {P:Program}
theorem app_wr(w:World)(t ty e:TypeId)(i:TypeInfo)(z:Value)(size bytes:Nat)(ht:P.underlying t=some (.slice e))(hi:P.info? e=some i)(hz:i.zero=some z)(hsize:i.size=size)(hby:i.bytes=bytes)(hzs:z.cells.size=size)(hsz:0<size)
 {v:Value} {n:Nat} {xs:List Value} {B:Nat} (hown:w.ownsRow B e size v n xs) (hB:B<=w.heap.size) (pa:Option Addr) (m c:Nat) (news:List Value) (hl:news.length=m*size) (hnews:0<m->∃a,pa=some a/\∀j u,news[j]?=some u->w.cell? (a.add j)=some u) (h1:∀u∈news,u.oneCell'=true)
 (h63:n+m<=maxLen) (hbytes:(n+m)*bytes<=140737488355328):
 ∃v' w',(Builtin.append_ #[t,t] ty #[v,.slice pa m c]).run P w=.ok v' w'/\w'.ownsRow B e size v' (n+m) (xs++news)/\Wr (λb=>v.ownBlock=some b) w w'/\(v'.ownBlock=v.ownBlock\/v'.ownBlock=some w.heap.size)/\
  (∀g o,v.ownBlock=some g->o<n*size->w'.cell? ⟨g,o,none⟩=w.cell? ⟨g,o,none⟩)/\(m=0->w'=w/\v'=v):=by
 subst hsize;subst hby
 have hsmall:n+m<=9223372036854775807:=by simp only[maxLen]at h63;omega
 by_cases hm:m=0
 . subst hm;have hn:news=[]:=List.eq_nil_of_length_eq_zero (by simpa using hl);subst hn;refine⟨v,w,?_,by simpa using hown,Wr.refl _ _,.inl rfl,λ_ _ _ _=>rfl,λ_=>⟨rfl,rfl⟩⟩;rcases hown.2 with⟨rfl,rfl⟩|⟨g,cap,cur,rfl,hbg,hg,hnc,hcm,hcs,htake⟩
   . cases pa<;>simp[Builtin.append_,run_underlying ht,sizeOf,typeInfo,hi,Builtin.lenOf,Builtin.firstCells,loadCells,loadCellsFrom,storeCells]
   . cases pa<;>simp[Builtin.append_,run_underlying ht,sizeOf,typeInfo,hi,Builtin.lenOf,Builtin.firstCells,loadCells,loadCellsFrom,storeCells,hnc]
 . obtain⟨a,rfl,hnw⟩:=hnews (Nat.pos_of_ne_zero hm);clear hnews;rcases hown.2 with⟨rfl,rfl⟩|⟨g,cap,cur,rfl,hbg,hg,hnc,hcm,hcs,htake⟩
   . obtain⟨g,cap,w',hr,h2,h3,h4,_⟩:=run_append_lies (P:=P) w t ty B e i z i.size i.bytes ht hi hz rfl rfl hzs hsz _ 0 xs hown a m c news hl hnw h1 (Nat.pos_of_ne_zero hm) h63 hbytes hB _ rfl;have same:∀b,b<w.heap.size->w'.heap[b]?=w.heap[b]?:=λb hb=>h3.block b hb (by simp[Value.ownBlock]);refine⟨_,_,hr,h2,⟨h3.size,λb c T hb=>⟨c,(same b (zqb hb)).trans hb,rfl⟩,λb hb _=>same b hb⟩,?_,λg o h=>(by simp[Value.ownBlock]at h),λh=>absurd h hm⟩;rcases h4 with h|h
     . simp[Value.ownBlock]at h
     . exact .inr (by simp[Value.ownBlock,h])
   . have hlen:(xs++news).length=(n+m)*i.size:=by rw[List.length_append,hown.1,hl,Nat.add_mul]
     by_cases hroom:n+m<=cap
     . have hfit:n*i.size+news.length<=cur.size:=by rw[hl,hcs,<-Nat.add_mul];exact Nat.mul_le_mul_right _ hroom
       have hr:=run_append_room (P:=P) w t ty e i ht hi g n cap cur hg a m c news hl hnw h1 hroom hfit;have hsz2:(cur.toList.take (n*i.size)++news++cur.toList.drop (n*i.size+news.length)).toArray.size=cur.size:=by
        simp only[List.size_toArray,List.length_append,List.length_take,List.length_drop,Array.length_toList];omega
       have hh:=setRow_heap w g cur (cur.toList.take (n*i.size)++news++cur.toList.drop (n*i.size+news.length)).toArray e (0,0) hg;refine⟨_,_,hr,⟨hlen,.inr ⟨g,cap,_,rfl,hbg,hh,hroom,hcm,by rw[hsz2,hcs],?_⟩⟩,⟨by simp,λb c T hb=>?_,λb _ hx=>setRow_other w g b _ (λe=>hx (by simp[Value.ownBlock,e]))⟩,.inl rfl,λg2 o h ho=>?_,λh=>absurd h hm⟩
       . rw[htake,<-hlen];exact List.take_left
       . by_cases e2:b=g
         . subst e2;have:=hg.symm.trans hb;simp only[al_oi,Obj.cells.injEq]at this;obtain⟨rfl,rfl,-⟩:=this;exact⟨_,hh,hsz2⟩
         . exact⟨c,(setRow_other w g b _ e2).trans hb,rfl⟩
       . simp only[Value.ownBlock,al_oi]at h;subst h;rw[zq0 hg];rw[zq0 hh,al_gl,List.append_assoc,List.getElem?_append_left (by rw[List.length_take,Array.length_toList];omega),List.getElem?_take,if_pos ho,Array.getElem?_toList]
     . have holds:∀j u,xs[j]?=some u->w.cell? ((⟨g,0,none⟩:Addr).add j)=some u:=hown.cells (g:=g) rfl;have hr:=run_append_grow (P:=P) w t ty e i z ht hi hz ⟨g,0,none⟩ n cap xs hown.1 holds a m c news hl hnw zyo zyo (growslice_fits zyo hbytes);have hge:=grownCap_ge w (n+m) cap e;have hcm':grownCap w (n+m) cap e<=maxLen:=grownCap_le_maxLen w (n+m) cap e h63;refine⟨_,_,hr,⟨hlen,.inr ⟨w.heap.size,_,_,rfl,hB,heap_alloc_new w.drew _,hge,hcm',?_,?_⟩⟩,⟨by simp,λb c T hb=>⟨c,(hao w.drew _ b (zqb hb)).trans hb,rfl⟩,λb hb _=>hao w.drew _ b hb⟩,.inr rfl,λg2 o h _=>?_,λh=>absurd h hm⟩
       . simp only[Array.size_append,List.size_toArray,size_zeroCells,hzs,hown.1,hl,<-Nat.add_mul];congr 1;omega
       . simp only[Array.toList_append,List.append_assoc];rw[<-List.append_assoc,<-hlen];exact List.take_left
       . simp only[Value.ownBlock,al_oi]at h;subst h;exact zqy (hao w.drew _ g (zqb hg))
theorem zq45{ops:Array Oper}{rest:List Oper}{o:Oper}{a:Act}{Q:Exit->Act->World->Prop}{w w':World}{v:Value}(hgd:o.guard=none)(s x:Operand)(t:TypeId)
 (ho:o.op=.call {callee:=.builtin .append,args:=#[s,x],argTypes:=#[t,t]}) (hr:(Builtin.append_ #[t,t] o.type #[a.eval s,a.eval x]).run P w=.ok v w') (h:wpList P ops Q rest (a.put o.dst v) w'):wpList P ops Q (o::rest) a w:=
 wpList_plain hgd λ_ hK=>by
  unfold Oper.wp execOp;simp only[ho,resolve,invoke,builtin,Sem.run_bind,Sem.run_pure,Result.andThen_ok,List.map_toArray,List.map_cons,List.map_nil,hr];exact hK _ _ h
end
def RecRow(w:World)(B:Nat)(T:TypeId)(k:Nat)(v:Value)(n:Nat)(f:Nat->Nat->Value):Prop:=
 ∃xs,w.ownsRow B T k v n xs/\∀i j,i<n->j<k->xs[i*k+j]?=some (f i j)
section
variable {w w':World} {B k n:Nat} {T:TypeId} {v:Value} {f:Nat->Nat->Value}
theorem rec_idx{i j i' j' k:Nat}(hj:j<k)(hj':j'<k)(h:i*k+j=i'*k+j'):i=i'/\j=j':=by
 have h1:(i*k+j) / k=i:=by rw[Nat.mul_comm,Nat.mul_add_div zyo,Nat.div_eq_of_lt hj];omega
 have h2:(i'*k+j') / k=i':=by rw[Nat.mul_comm,Nat.mul_add_div zyo,Nat.div_eq_of_lt hj'];omega
 have:i=i':=by rw[<-h1,<-h2,h]
 subst this;exact⟨rfl,by omega⟩
theorem rec_lt{i j n k:Nat}(hi:i<n)(hj:j<k):i*k+j<n*k:=by
 have:i*k+k<=n*k:=by rw[<-Nat.succ_mul];exact Nat.mul_le_mul_right k hi
 omega
theorem RecRow.nil (w:World)(B:Nat)(T:TypeId)(k:Nat)(f:Nat->Nat->Value):RecRow w B T k (.slice none 0 0) 0 f:=⟨[],World.ownsRow_nil _ _ _ _,λi j hi=>absurd hi (Nat.not_lt_zero _)⟩
theorem RecRow.of (h:RecRow w B T k v n f)(hs:∀g,v.ownBlock=some g->w'.heap[g]?=w.heap[g]?):RecRow w' B T k v n f:=by
 obtain⟨xs,h1,h2⟩:=h;exact⟨xs,zqs h1 hs,h2⟩
theorem RecRow.lt (h:RecRow w B T k v n f){g:Nat}(hg:v.ownBlock=some g):(∃c,w.heap[g]?=some (.cells c T))/\B<=g/\g<w.heap.size:=by
 obtain⟨xs,h1,_⟩:=h;exact own_lt h1 hg
theorem RecRow.form (h:RecRow w B T k v n f):∃p C,v=.slice p n C/\(0<n->∃g,p=some ⟨g,0,none⟩/\v.ownBlock=some g):=by
 obtain⟨xs,h1,_⟩:=h;rcases h1.2 with⟨hv,h0⟩|⟨g,cap,cur,hv,_⟩
 . subst h0;exact⟨none,0,hv,λh=>absurd h (Nat.lt_irrefl _)⟩
 . exact⟨_,cap,hv,λ_=>⟨g,rfl,by rw[hv];rfl⟩⟩
theorem RecRow.cell {g C:Nat}(h:RecRow w B T k (.slice (some ⟨g,0,none⟩) n C) n f){i j:Nat}(hi:i<n)(hj:j<k):w.cell? ⟨g,i*k+j,none⟩=some (f i j)/\w.frozen? ⟨g,i*k+j,none⟩=false:=by
 obtain⟨xs,h1,h2⟩:=h;rcases h1.2 with⟨hv,_⟩|⟨g2,cap,cur,hv,hb,hh,e1,e2,e3,e4⟩
 . cases hv
 . cases hv;refine⟨?_,zq3 hh⟩;rw[zq0 (off:=i*k+j) hh];have h3:=h2 i j hi hj;rw[<-e4,List.getElem?_take,if_pos (rec_lt hi hj)]at h3;simpa using h3
theorem RecRow.set {g C:Nat}(h:RecRow w B T k (.slice (some ⟨g,0,none⟩) n C) n f){i j:Nat}(hi:i<n)(hj:j<k)(x:Value):RecRow (w.setCell ⟨g,i*k+j,none⟩ x) B T k (.slice (some ⟨g,0,none⟩) n C) n (λa b=>if a=i/\b=j then x else f a b):=by
 obtain⟨xs,h1,h2⟩:=h;have hlen:=h1.1;rcases h1.2 with⟨hv,_⟩|⟨g2,cap2,cur,hv,e1,e2,e3,e4,e5,e6⟩
 . cases hv
 . cases hv;refine⟨xs.set (i*k+j) x,⟨by rw[List.length_set];exact hlen,.inr ⟨g,C,cur.setIfInBounds (i*k+j) x,rfl,e1,zqa _ _ _ _ e2,e3,e4,by simpa using e5,?_⟩⟩,λa b ha hb=>?_⟩
   . rw[<-e6,Array.toList_setIfInBounds,List.take_set]
   . by_cases e:a=i/\b=j
     . obtain⟨rfl,rfl⟩:=e;simp only[and_self,if_true];rw[List.getElem?_set_self (by rw[hlen];exact rec_lt ha hb)]
     . simp only[if_neg e];rw[List.getElem?_set_ne (λe2=>e (by obtain⟨r1,r2⟩:=rec_idx hj hb e2;exact⟨r1.symm,r2.symm⟩)),h2 a b ha hb]
theorem RecRow.push {xs cs:List Value}{v':Value}(h:w.ownsRow B T k v n xs)(h2:∀i j,i<n->j<k->xs[i*k+j]?=some (f i j))(h3:w'.ownsRow B T k v' (n+1) (xs++cs))(hc:cs.length=k)(F:Nat->Nat->Value)(hF:∀i j,i<n->j<k->F i j=f i j)(hn:∀j,j<k->cs[j]?=some (F n j)):RecRow w' B T k v' (n+1) F:=by
 refine⟨xs++cs,h3,λi j hi hj=>?_⟩;have hl:=h.1
 by_cases e:i=n
 . subst e;rw[List.getElem?_append_right zyo,hl];rw[show i*k+j - i*k=j by omega];exact hn j hj
 . have:=rec_lt (show i<n by omega) hj;rw[List.getElem?_append_left zyo,h2 i j zyo hj,hF i j zyo hj]
theorem RecRow.congr (h:RecRow w B T k v n f){F:Nat->Nat->Value}(hF:∀i j,i<n->j<k->F i j=f i j):RecRow w B T k v n F:=by
 obtain⟨xs,h1,h2⟩:=h;exact⟨xs,h1,λi j hi hj=>by rw[h2 i j hi hj,hF i j hi hj]⟩
end
structure TyR where
 th:TypeId
 an:TypeId
 op:TypeId
 h1:th≠an
 h2:op≠th
 h3:op≠an
def ansVs:List Ans->List Value->List Value
 |a::l,v::vs=>.bool a.ok::.int .i64 a.n::v::ansVs l vs
 |_,_=>[]
theorem zq7v:∀{l:List Ans}{vs:List Value},vs.length=l.length->∀(a:Ans)(v:Value),ansVs (l++[a]) (vs++[v])=ansVs l vs++[.bool a.ok,.int .i64 a.n,v]
 |[],[],_,_,_=>rfl
 |b::l,u::vs,h,a,v=>by
  show .bool b.ok::.int .i64 b.n::u::ansVs (l++[a]) (vs++[v])=_;rw[zq7v zx3y];rfl
 |[],v::vs,h,_,_=>by simp at h
 |a::l,[],h,_,_=>by simp at h
theorem zq7u:∀{l:List Ans}{vs:List Value},vs.length=l.length->∀{i:Nat}{a:Ans}{v:Value},l[i]?=some a->vs[i]?=some v->(ansVs l vs)[i*3]?=some (.bool a.ok)/\(ansVs l vs)[i*3+1]?=some (.int .i64 a.n)/\(ansVs l vs)[i*3+2]?=some v
 |[],[],_,i,a,v,h,_=>by simp at h
 |b::l,u::vs,hl,i,a,v,h1,h2=>by
  cases i with
  |zero=>simp at h1 h2;subst h1 h2;exact⟨rfl,rfl,rfl⟩
  |succ i=>
   have:=zq7u (l:=l) (vs:=vs) (by simpa using hl) (i:=i) (a:=a) (v:=v) (by simpa using h1) (by simpa using h2);rw[show(i+1)*3=i*3+1+1+1 by omega];exact this
 |[],v::vs,h,_,_,_,_,_=>by simp at h
 |a::l,[],h,_,_,_,_,_=>by simp at h
def thC(opv:Value)(t:RTh)(av:Value):Array Value:=#[opv,.int .i64 t.at',.int .i64 t.pc,.int .i64 (t.n 0),.int .i64 (t.n 1),.int .i64 (t.n 2),.int .i64 (t.n 3),.int .i64 (t.n 4),.int .i64 (t.n 5),.int .i64 (t.n 6),.int .i64 (t.n 7),.slice none 0 0,av,.bool t.en]
structure OpsR(Y:TyR)(w:World)(B:Nat)(opv:Value)(ops:List OpX):Prop where
 row:w.ownsRow B Y.op 4 opv ops.length (ops.flatMap OpX.cells)
theorem OpsR.cell {Y:TyR}{w:World}{B:Nat}{opv:Value}{ops:List OpX}(h:OpsR Y w B opv ops):∃p C,opv=.slice p ops.length C/\(ops≠[]->∃g,p=some ⟨g,0,none⟩/\∀k op,ops[k]?=some op->w.cell? ⟨g,k*4,none⟩=some (.int .i64 op.k)/\w.cell? ⟨g,k*4+1,none⟩=some (.int .i64 op.a)/\w.cell? ⟨g,k*4+2,none⟩=some (.int .i64 op.b)/\w.cell? ⟨g,k*4+3,none⟩=some (.int .i64 op.c)):=by
 have key:∀(l:List OpX)(k:Nat)(op:OpX),l[k]?=some op->(l.flatMap OpX.cells)[k*4]?=some (.int .i64 op.k)/\(l.flatMap OpX.cells)[k*4+1]?=some (.int .i64 op.a)/\(l.flatMap OpX.cells)[k*4+2]?=some (.int .i64 op.b)/\(l.flatMap OpX.cells)[k*4+3]?=some (.int .i64 op.c):=by
  intro l
  induction l with
  |nil=>intro k op h;simp at h
  |cons o l ih=>
   intro k op h;cases k with
   |zero=>simp at h;subst h;exact⟨rfl,rfl,rfl,rfl⟩
   |succ k=>
    have:=ih k op zx3y;rw[show(k+1)*4=k*4+1+1+1+1 by omega];exact this
 rcases h.row.2 with⟨hv,h0⟩|⟨g,cap,cur,hv,hb,hg,h1,h2,h3,h4⟩
 . have:ops=[]:=List.length_eq_zero_iff.1 h0;subst this;exact⟨none,0,hv,λx=>absurd rfl x⟩
 . refine⟨_,cap,hv,λ_=>⟨g,rfl,λk op hk=>?_⟩⟩;have hlt:=(List.getElem?_eq_some_iff.1 hk).1;have hcell:∀j x,j<ops.length*4->(ops.flatMap OpX.cells)[j]?=some x->w.cell? ⟨g,j,none⟩=some x:=λj x hj hx=>by
    rw[zq0 hg];rw[<-h4,List.getElem?_take,if_pos zyo]at hx;simpa using hx
   obtain⟨k0,k1,k2,k3⟩:=key ops k op hk;exact⟨hcell _ _ zyo k0,hcell _ _ zyo k1,hcell _ _ zyo k2,hcell _ _ zyo k3⟩
structure ThRep(Y:TyR)(B tb:Nat)(opv:Value)(ops:List OpX)(t:RTh)(lvs:List Value)(av:Value)(w:World):Prop where
 blk:w.heap[tb]?=some (.cells (thC opv t av) Y.th)
 row:w.ownsRow B Y.an 3 av t.ans.length (ansVs t.ans lvs)
 llen:lvs.length=t.ans.length
 ops:OpsR Y w B opv ops
 lo:B<=tb
structure KeepT(tb:Nat)(av:Value)(w w':World):Prop where
 size:w.heap.size<=w'.heap.size
 old:∀b,b<w.heap.size->b≠tb->av.ownBlock≠some b->w'.heap[b]?=w.heap[b]?
def SameOr(av av':Value)(w:World):Prop:=∀g,av'.ownBlock=some g->av.ownBlock=some g\/w.heap.size<=g
section
variable {Y:TyR} {B tb:Nat} {opv:Value} {ops:List OpX} {t:RTh} {lvs:List Value} {av:Value} {w w':World}
theorem KeepT.refl (tb:Nat)(av:Value)(w:World):KeepT tb av w w:=⟨Nat.le_refl _,λ_ _ _ _=>rfl⟩
theorem KeepT.drew (tb:Nat)(av:Value)(w:World)(n:Nat):KeepT tb av w (w.drewN n):=⟨Nat.le_refl _,λ_ _ _ _=>rfl⟩
theorem KeepT.trans {av':Value}{w'':World}(h:KeepT tb av w w')(hs:SameOr av av' w)(k:KeepT tb av' w' w''):KeepT tb av w w'':=
 ⟨Nat.le_trans h.size k.size,λb hb h1 h2=>(k.old b (Nat.lt_of_lt_of_le hb h.size) h1 λe=>(hs b e).elim h2 λx=>by omega).trans (h.old b hb h1 h2)⟩
theorem SameOr.refl (av:Value)(w:World):SameOr av av w:=λ_ h=>.inl h
theorem SameOr.trans {a b c:Value}(h:SameOr a b w)(hs:w.heap.size<=w'.heap.size)(k:SameOr b c w'):SameOr a c w:=λg hg=>(k g hg).elim (h g) λx=>.inr zyo
theorem ThRep.oblk (h:ThRep Y B tb opv ops t lvs av w){g:Nat}(hg:opv.ownBlock=some g):g≠tb/\av.ownBlock≠some g:=by
 obtain⟨⟨c,hc⟩,_⟩:=own_lt h.ops.row hg;exact⟨λe=>by rw[e]at hc;exact Y.h2 (zq3e hc h.blk),zqt h.row hc Y.h3.symm⟩
theorem ThRep.ablk (h:ThRep Y B tb opv ops t lvs av w):av.ownBlock≠some tb:=zqt h.row h.blk Y.h1.symm
theorem ThRep.frame (h:ThRep Y B tb opv ops t lvs av w)(hb:w'.heap[tb]?=w.heap[tb]?)(ha:∀g,av.ownBlock=some g->w'.heap[g]?=w.heap[g]?)(ho:∀g,opv.ownBlock=some g->w'.heap[g]?=w.heap[g]?):ThRep Y B tb opv ops t lvs av w':=
 ⟨hb.trans h.blk,zqs h.row ha,h.llen,⟨zqs h.ops.row ho⟩,h.lo⟩
theorem ThRep.more (h:ThRep Y B tb opv ops t lvs av w)(hs:∀b,b<w.heap.size->w'.heap[b]?=w.heap[b]?):ThRep Y B tb opv ops t lvs av w':=
 h.frame (hs _ (zq7 h.blk)) (λg hg=>hs g (own_lt h.row hg).2.2) (λg hg=>hs g (own_lt h.ops.row hg).2.2)
theorem ThRep.set (h:ThRep Y B tb opv ops t lvs av w){t':RTh}(j:Nat)(x:Value)(ha:t'.ans=t.ans)(hc:(thC opv t av).setIfInBounds j x=thC opv t' av):ThRep Y B tb opv ops t' lvs av (w.setCell ⟨tb,j,none⟩ x):=by
 refine⟨?_,?_,by rw[ha];exact h.llen,⟨zqs h.ops.row λg hg=>zq8 _ _ _ _ (h.oblk hg).1⟩,h.lo⟩
 . rw[zqa _ _ _ _ h.blk,hc]
 . rw[ha];exact zqs h.row λg hg=>zq8 _ _ _ _ λe=>h.ablk (by rw[hg,show g=tb from e])
theorem KeepT.set (tb j:Nat)(av x:Value)(w:World):KeepT tb av w (w.setCell ⟨tb,j,none⟩ x):=⟨by rw[zqf];exact Nat.le_refl _,λb _ hb _=>zq8 _ _ _ _ hb⟩
theorem ThRep.push {W w2:World}{g cap:Nat}{a:Ans}{lv:Value}(h:ThRep Y B tb opv ops t lvs av w)(hW:∀b,b<w.heap.size->W.heap[b]?=w.heap[b]?)(hWs:w.heap.size<=W.heap.size)
 (hrow:w2.ownsRow B Y.an 3 (.slice (some ⟨g,0,none⟩) (t.ans.length+1) cap) (t.ans.length+1) (ansVs t.ans lvs++[.bool a.ok,.int .i64 a.n,lv])) (hgr:W.grownBy w2 av.ownBlock) (hat:av.ownBlock=some g\/w.heap.size<=g):
 ThRep Y B tb opv ops {t with ans:=t.ans++[a]} (lvs++[lv]) (.slice (some ⟨g,0,none⟩) (t.ans.length+1) cap) (w2.setCell ⟨tb,12,none⟩ (.slice (some ⟨g,0,none⟩) (t.ans.length+1) cap))/\
  KeepT tb av w (w2.setCell ⟨tb,12,none⟩ (.slice (some ⟨g,0,none⟩) (t.ans.length+1) cap))/\SameOr av (.slice (some ⟨g,0,none⟩) (t.ans.length+1) cap) w:=by
 have keep:∀b,b<w.heap.size->av.ownBlock≠some b->w2.heap[b]?=w.heap[b]?:=λb hb hn=>(hgr.block b zyo λe=>hn e.symm).trans (hW b hb);have hb2:w2.heap[tb]?=some (.cells (thC opv t av) Y.th):=(keep tb (zq7 h.blk) h.ablk).trans h.blk;refine⟨⟨?_,?_,by simp[h.llen],⟨zqs h.ops.row λq hq=>?_⟩,h.lo⟩,⟨?_,λb hb h1 h2=>?_⟩,λq hq=>?_⟩
 . rw[zqa _ _ _ _ hb2];rfl
 . show(w2.setCell _ _).ownsRow B Y.an 3 _ (t.ans++[a]).length (ansVs (t.ans++[a]) (lvs++[lv]));rw[zq7v h.llen,List.length_append];refine zqs hrow λq hq=>zq8 _ _ _ _ λe=>?_;obtain⟨⟨c,hc⟩,_⟩:=own_lt hrow hq;rw[show q=tb from e,hb2]at hc;simp only[al_oi,Obj.cells.injEq]at hc;exact Y.h1 hc.2.1
 . obtain⟨k1,k2⟩:=h.oblk hq;rw[zq8 _ _ _ _ k1];exact keep q (own_lt h.ops.row hq).2.2 k2
 . rw[zqf];have:=hgr.size;omega
 . rw[zq8 _ _ _ _ h1];exact keep b hb h2
 . simp only[Value.ownBlock,al_oi]at hq;subst hq;exact hat
end
end Go.Car
namespace Go.Proofs
open Go Go.Conc Go.RowKit Go.Car
def tyR:TyR:=⟨174,49,34,by decide,by decide,by decide⟩
theorem zq5s(n low high:Int)(w:World):Calls Try.prog 38 #[.int .i64 n,.int .i64 low,.int .i64 high] w λe w'=>e=.returned (.int .i64 (if n<low then low else if n>high then high else n))/\w'=w:=by
 by_cases h1:n<low
 . rw[if_pos h1]
   go_enter Try.func38,Try.ntmps38
   go_wp2;go_ret;exact⟨rfl,rfl⟩
 . rw[if_neg h1]
   by_cases h2:n>high
   . rw[if_pos h2]
     go_enter Try.func38,Try.ntmps38
     go_wp2;go_ret;exact⟨rfl,rfl⟩
   . rw[if_neg h2]
     go_enter Try.func38,Try.ntmps38
     go_wp2;go_ret;exact⟨rfl,rfl⟩
theorem zqgm(c:Int)(w:World):Calls Try.prog 68 #[.int .i64 c] w λe w'=>e=.returned (.int .i64 (zq1v c))/\w'=w:=by
 have H:RowKit.Hid (Calls Try.prog 38 #[.int .i64 c,.int .i64 1,.int .i64 1024] w λe w'=>e=.returned (.int .i64 (zq1v c))/\w'=w):=Lib.hid (zq5s c 1 1024 w);generalize zq1v c=q at H |-
 go_enter Try.func68,Try.ntmps68
 go_wp2_with (fail)
 refine Calls.mono H.out ?_;rintro e w' ⟨rfl,rfl⟩;go_wp2;go_ret;exact⟨rfl,rfl⟩
section
variable {B tb:Nat} {opv:Value} {ops:List OpX} {t:RTh} {lvs:List Value} {av:Value} {w:World}
theorem zq9t(h:ThRep tyR B tb opv ops t lvs av w){op:OpX}(hop:ops[t.at']?=some op)(hl:ops.length<=4611686018427387904):
 Calls Try.prog 66 #[.pointer (some ⟨tb,0,none⟩)] w λe w'=>e=.returned op.val/\Ext w w':=by
 obtain⟨p,C,rfl,hg⟩:=h.ops.cell;have hne:ops≠[]:=λe=>by rw[e]at hop;simp at hop
 obtain⟨g,rfl,hc⟩:=hg hne;obtain⟨o0,o1,o2,o3⟩:=hc _ op hop;have hlt:=(List.getElem?_eq_some_iff.1 hop).1;obtain⟨a,ha⟩:∃a,t.at'=a:=⟨_,rfl⟩;obtain⟨L,hL⟩:∃L,ops.length=L:=⟨_,rfl⟩;have b0:=h.blk;unfold thC at b0;rw[ha]at o0 o1 o2 o3 hlt b0;rw[hL]at hlt b0 hl;have ha0:(0:Int)<=(a:Int):=by omega
 have haL:(a:Int)<(L:Int):=by omega
 have c0:w.cell? ⟨tb,0,none⟩=some (.slice (some ⟨g,0,none⟩) L C):=(zq0 b0).trans rfl;have c1:w.cell? ⟨tb,1,none⟩=some (.int .i64 a):=(zq0 b0).trans rfl;unfold OpX.val;obtain⟨Z,hZ⟩:∃Z,w.heap.size=Z:=⟨_,rfl⟩;obtain⟨wa,hwa⟩:∃wa,w.alloc (.cells #[.int .i64 0,.int .i64 0,.int .i64 0,.int .i64 0] 34)=wa:=⟨_,rfl⟩;have key:∀b o,w.heap[b]?=some o->wa.heap[b]?=some o:=λb o hb=>by rw[<-hwa];exact zq9 hb
 have kc:∀{q:Addr}{v:Value},w.cell? q=some v->wa.cell? q=some v:=λ{q v}hq=>(zqy (by rw[<-hwa,zq6,if_neg (by have:=cell_lt hq;omega)])).trans hq
 have hn:=zqo w (.cells #[.int .i64 0,.int .i64 0,.int .i64 0,.int .i64 0] 34);rw[hwa,hZ]at hn;replace o0:=kc o0;replace o1:=kc o1;replace o2:=kc o2;replace o3:=kc o3;replace c0:=kc c0;replace c1:=kc c1;have z0:=zq3 (off:=0) hn;have z1:=zq3 (off:=1) hn;have z2:=zq3 (off:=2) hn;have z3:=zq3 (off:=3) hn;have y0:wa.cell? ⟨Z,0,none⟩=some (.int .i64 0):=(zq0 hn).trans rfl;have y1:wa.cell? ⟨Z,1,none⟩=some (.int .i64 0):=(zq0 hn).trans rfl;have y2:wa.cell? ⟨Z,2,none⟩=some (.int .i64 0):=(zq0 hn).trans rfl;have y3:wa.cell? ⟨Z,3,none⟩=some (.int .i64 0):=(zq0 hn).trans rfl;have HN:=Lib.hid hn;have HW:=Lib.hid hwa;have HZ:=Lib.hid hZ;clear key kc b0 h hg hc hop hne ha hL hl hn hwa
 go_enter Try.func66,Try.ntmps66
 go_wp2_with (fail)
 rw[HW.out]
 try rw[HZ.out]
 refine zq47 (k:=10) (C:=λw'=>∃n,w'=wa.drewN n) zyk zyk zyk zyk zyk ⟨1,rfl⟩ ?_;simp only[List.take_succ_cons,List.take_zero]
 repeat (quiet_step (fail))
 refine wpQuiet_nil ?_;rintro w' ⟨nq,rfl⟩;refine zq2l (i:=10) zyk ?_;simp only[wpOp,al_gl,al_g0,al_g1];rw[if_pos zx2p];refine .inl ?_;have hcl:∀q,(wa.drewN nq).cell? q=wa.cell? q:=λq=>rfl;have hfl:∀q,(wa.drewN nq).frozen? q=wa.frozen? q:=λq=>rfl;rw[<-hcl]at y0 y1 y2 y3;rw[<-hfl]at z0 z1 z2 z3;clear hcl hfl o0 o1 o2 o3 c0 c1;go_simp;refine zq2k zyk ?_;go_wp2;clear y0 y1 y2 y3 z0 z1 z2 z3;have b1:=zqa (wa.drewN nq) Z 0 (.int .i64 op.k) HN.out;have b2:=zqa _ Z 1 (.int .i64 op.a) b1;have b3:=zqa _ Z 2 (.int .i64 op.b) b2;have b4:=zqa _ Z 3 (.int .i64 op.c) b3;have hx:Ext w (((((wa.drewN nq).setCell ⟨Z,0,none⟩ (.int .i64 op.k)).setCell ⟨Z,1,none⟩ (.int .i64 op.a)).setCell ⟨Z,2,none⟩ (.int .i64 op.b)).setCell ⟨Z,3,none⟩ (.int .i64 op.c)):=by
  have hz:=HZ.out;refine⟨by simp only[zqf];show _<=wa.heap.size;rw[<-HW.out,zq4];omega,λb hb=>?_⟩;have hne:b≠Z:=by omega
  rw[zq8 _ _ _ _ hne,zq8 _ _ _ _ hne,zq8 _ _ _ _ hne,zq8 _ _ _ _ hne];show wa.heap[b]?=_;rw[<-HW.out,zq6,if_neg zyo]
 generalize ((((wa.drewN nq).setCell ⟨Z,0,none⟩ (.int .i64 op.k)).setCell ⟨Z,1,none⟩ (.int .i64 op.a)).setCell ⟨Z,2,none⟩ (.int .i64 op.b)).setCell ⟨Z,3,none⟩ (.int .i64 op.c)=w8 at b4 hx |-;clear b1 b2 b3;have k0:=(zq0 (off:=0) b4).trans rfl;have k1:=(zq0 (off:=1) b4).trans rfl;have k2:=(zq0 (off:=2) b4).trans rfl;have k3:=(zq0 (off:=3) b4).trans rfl;refine bodyPost_ret (v:=.agg #[.int .i64 op.k,.int .i64 op.a,.int .i64 op.b,.int .i64 op.c]) ?_ rfl ⟨rfl,hx⟩;simp only[results,Try.f66];simp[go_sem,k0,k1,k2,k3]
theorem zq9s(h:ThRep tyR B tb opv ops t lvs av w)(hB:B<=w.heap.size)(hl:t.ans.length<=1048576)(hat:t.at'<=1048576)(a:Ans)(lp:Option Addr)(ln lc:Nat):
 Calls Try.prog 67 #[.pointer (some ⟨tb,0,none⟩),.agg #[.bool a.ok,.int .i64 a.n,.slice lp ln lc]] w λe w'=>e=.returned (.tuple #[])/\∃av',ThRep tyR B tb opv ops (t.fin a) (lvs++[.slice lp ln lc]) av' w'/\KeepT tb av w w'/\SameOr av av' w:=by
 obtain⟨pa,Ca,rfl,-,-⟩:=zq2d h.row;obtain⟨La,hLa⟩:∃x,t.ans.length=x:=⟨_,rfl⟩;obtain⟨H,hH⟩:∃H,w.heap.size=H:=⟨_,rfl⟩;have hb:=h.blk;have htb:tb<H:=by rw[<-hH];exact zq7 hb
 unfold thC at hb;have c12:∀o:Obj,(w.alloc o).cell? ⟨tb,12,none⟩=some (.slice pa t.ans.length Ca):=λo=>(zq0 (zq9 (o:=o) hb)).trans rfl;have c12b:∀o o2:Obj,((w.alloc o).alloc o2).cell? ⟨tb,12,none⟩=some (.slice pa t.ans.length Ca):=λo o2=>(zq0 (zq9 (o:=o2) (zq9 (o:=o) hb))).trans rfl;rw[hLa]at c12 c12b;have hrow:∀o o2:Obj,((w.alloc o).alloc o2).ownsRow B 49 3 (.slice pa La Ca) La (ansVs t.ans lvs):=λo o2=>by rw[<-hLa];exact zq1k (zq1k h.row _) _
 have hnw:∀jj u,[Value.bool a.ok,.int .i64 a.n,.slice lp ln lc][jj]?=some u->((w.alloc (.cells #[.bool a.ok,.int .i64 a.n,.slice lp ln lc] 49)).alloc (.cells #[.bool a.ok,.int .i64 a.n,.slice lp ln lc] 49)).drew.cell? ((⟨H+1,0,none⟩:Addr).add jj)=some u:=λjj u hj=>zq4o (w:=w.alloc (.cells #[.bool a.ok,.int .i64 a.n,.slice lp ln lc] 49)) (cs:=#[.bool a.ok,.int .i64 a.n,.slice lp ln lc]) (T:=49) (B:=H+1) (by rw[zq4,hH]) jj u hj;have hvk:∀w2,(((w.alloc (.cells #[.bool a.ok,.int .i64 a.n,.slice lp ln lc] 49)).alloc (.cells #[.bool a.ok,.int .i64 a.n,.slice lp ln lc] 49)).drew).grownBy w2 (Value.slice pa La Ca).ownBlock->w2.heap[tb]?=some (.cells (thC opv t (.slice pa La Ca)) 174):=λw2 hg=>by
  have h1:=zq9 (o:=(.cells #[.bool a.ok,.int .i64 a.n,.slice lp ln lc] 49)) (zq9 (o:=(.cells #[.bool a.ok,.int .i64 a.n,.slice lp ln lc] 49)) h.blk);rw[hLa]at h1;have hr:=h.row;rw[hLa]at hr;exact(hg.block tb (zq7 h1) (λe=>zqt hr h.blk zyd e.symm)).trans h1
 obtain⟨ti,hti,hz,hz1,hz2⟩:∃ti,Try.prog.info? 49=some ti/\ti.zero=some (.agg #[.bool false,.int .i64 0,.slice none 0 0])/\ti.size=3/\ti.bytes=40:=⟨_,rfl,rfl,rfl,rfl⟩;have hund:Try.prog.underlying 47=some (.slice 49):=by kernel_rfl
 have HT:=Lib.hid (And.intro hti (And.intro hz (And.intro hz1 (And.intro hz2 hund))));have HX:=Lib.hid (And.intro hrow (And.intro hnw hvk));have HI:=Lib.hid (And.intro h (And.intro hLa (And.intro hl (And.intro hat (And.intro hB (And.intro hH htb))))));have HH:=Lib.hid hH;clear hti hz hz1 hz2 hund hrow hnw hvk hb h hLa hl hat hB htb
 go_enter Try.func67,Try.ntmps67
 go_wp2_with (fail)
 go_region_law (first
  |(refine step_append_lies _ rfl (.tmp 8) (.tmp 10) 47 rfl B 49 ti _ 3 40 HT.out.2.2.2.2 HT.out.1 HT.out.2.1 HT.out.2.2.1 HT.out.2.2.2.1 rfl zyd (.slice pa La Ca) La (ansVs t.ans lvs) rfl (HX.out.1 _ _) ⟨H+1,0,none⟩ 1 1 [.bool a.ok,.int .i64 a.n,.slice lp ln lc] rfl rfl HX.out.2.1 ?_ Nat.one_pos ?_ ?_ ?_ (H+2) ?_ ?_
    . intro u hu;simp only[List.mem_cons,List.not_mem_nil,or_false]at hu;rcases hu with rfl |rfl |rfl<;>rfl
    . have:=HI.out.2.1;have:=HI.out.2.2.1;simp only[maxLen];omega
    . have:=HI.out.2.1;have:=HI.out.2.2.1;omega
    . have:=HI.out.2.2.2.2.1;have:=HH.out;show _<=((w.alloc _).alloc _).heap.size;rw[zq4,zq4];omega
    . show((w.alloc _).alloc _).heap.size=_;rw[zq4,zq4,HH.out]
    intro g cap w2 k1 k2 k3 k4;have HK:=Lib.hid (And.intro k1 (And.intro k2 k3));have cS:w2.cell? ⟨tb,12,none⟩=some (.slice pa La Ca):=(zq0 (HX.out.2.2 _ k2)).trans rfl;have fS:=zq3 (off:=12) (HX.out.2.2 _ k2);clear k1 k2 k3 k4))
 all_goals(
  obtain⟨h,hLa,hl,hat,hB,_,htb⟩:=HI.out;subst hLa;have hP:=h.push (W:=((w.alloc (.cells #[.bool a.ok,.int .i64 a.n,.slice lp ln lc] 49)).alloc (.cells #[.bool a.ok,.int .i64 a.n,.slice lp ln lc] 49)).drew) (a:=a) (lv:=.slice lp ln lc) (λb hb=>(zq6 _ _ _).trans ((if_neg zx3h).trans ((zq6 _ _ _).trans (if_neg zyo)))) (by show _<=((w.alloc _).alloc _).heap.size;rw[zq4,zq4];omega) HK.out.1 HK.out.2.1 (by rcases HK.out.2.2 with e|e;exact .inl e;right;have:=HH.out;omega);clear h c12 c12b HX HT HI hH cS fS;generalize (w2.setCell ⟨tb,12,none⟩ (.slice (some ⟨g,0,none⟩) (t.ans.length+1) cap))=w3 at hP |-;obtain⟨hT,hK,hS⟩:=hP;have hb:=hT.blk;unfold thC at hb;have c1:w3.cell? ⟨tb,1,none⟩=some (.int .i64 t.at'):=(zq0 hb).trans rfl;have c2:w3.cell? ⟨tb,2,none⟩=some (.int .i64 t.pc):=(zq0 hb).trans rfl;have c11:w3.cell? ⟨tb,11,none⟩=some (.slice none 0 0):=(zq0 hb).trans rfl;have f1:=zq3 (off:=1) hb;have f2:=zq3 (off:=2) hb;have f11:=zq3 (off:=11) hb;have e3:IntKind.i64.wrap ((t.at':Int)+1)=((t.at'+1:Nat):Int):=by rw[IntWalk.i64_in _ zyo];omega
  have HTT:=Lib.hid (And.intro hT (And.intro hK hS));clear hT hK hS hb hl hat hB htb HK;go_wp2
  go_end0
  have h1:=HTT.out.1.set (t':={t with ans:=t.ans++[a],at':=t.at'+1}) 1 (.int .i64 ((t.at'+1:Nat):Int)) rfl rfl;have h2:=h1.set (t':={t with ans:=t.ans++[a],at':=t.at'+1,pc:=0}) 2 (.int .i64 0) rfl rfl;have h3:=h2.set (t':=t.fin a) 11 (.slice none 0 0) rfl rfl;exact⟨rfl,_,h3,((HTT.out.2.1.trans HTT.out.2.2 (KeepT.set tb 1 _ _ w3)).trans HTT.out.2.2 (KeepT.set tb 2 _ _ _)).trans HTT.out.2.2 (KeepT.set tb 11 _ _ _),HTT.out.2.2⟩)
end
set_option maxHeartbeats 8000000
def cqL:Code->Code
 |.seq a _=>a
 |_=>.skip
def cqR:Code->Code
 |.seq _ b=>b
 |_=>.skip
def cqB:Code->Code
 |.block _ c=>c
 |_=>.skip
def cqO:Code->Code
 |.loop c=>c
 |_=>.skip
def cqT:Code->Code
 |.cond _ a _=>a
 |_=>.skip
def cqF:Code->Code
 |.cond _ _ b=>b
 |_=>.skip
theorem zq5o{Fin:Machine->Trace->Prop}(hFin:Back Try.prog Fin){n ob kb c:Nat}{g:Nums}{w:World}(ct:Bool){α:Type}{f:FuncId}{args:Array Value}{p:Proc (Nums×Unit) α}{val:α->Value}{B:Nat->Option Obj}{a:α}(hrep:NumRep (oneT ob) g w)(hk:w.heap[kb]?=some (.cells #[.int .i64 (wrap64 (c:Int))] 46))(hne:kb≠ob)
 (hB:∀b o,B b=some o->w.heap[b]?=some o/\b≠ob/\b≠kb)
 (hspec:∀(Z:Alone Try.prog aM (zqc (zqg (oneT ob)) (zq3j kb)) (λ_=>none) 0 α)(I:Nums×Unit->Prop),zq48 (Z.sys I) (svOf kb ct)->OStp (Z.sys I) kb ct->SpecAt (Z.sys I) B f args p val)
 (hT:(p.run (g,())).2.1=some a):CallsJ Try.prog (λ(_:Unit)=>J0 Try.prog Fin n) f args (λ_ e w'=>e=.returned (val a)/\OAft ob kb (p.run (g,())).1.1 (c+cfOf ct*(p.run (g,())).2.2) w w') () w:=
 λcl cs h1 _=>once_J hFin ct hrep hk hne hB hspec hT λw' h=>h1 () _ w' ⟨rfl,h⟩
structure CM(W:World)(ob kb H:Nat)(op:OpX)(g:Nums)(c:Nat)(ok:Bool)(v:Int)(w:World):Prop where
 rep:NumRep (oneT ob) g w
 cnt:w.heap[kb]?=some (.cells #[.int .i64 (wrap64 (c:Int))] 46)
 b3:w.heap[H]?=some (.cells #[.pointer (some ⟨ob,0,none⟩)] 35)
 b5:w.heap[H+1]?=some (.cells op.cells.toArray 34)
 b6:w.heap[H+2]?=some (.cells #[.bool false,.int .i64 0,.slice none 0 0] 49)
 b7:w.heap[H+3]?=some (.cells #[.bool ok,.int .i64 v,.slice none 0 0] 49)
 ow:W.heap.size=H
 lo:ob<H
 lk:kb<H
 ne:kb≠ob
 size:H+4<=w.heap.size
 old:∀b,b<H->b≠ob->b≠kb->w.heap[b]?=W.heap[b]?
section
variable {W:World} {ob kb H:Nat} {op:OpX} {g:Nums} {c:Nat} {ok:Bool} {v:Int} {w w':World}
theorem CM.more (h:CM W ob kb H op g c ok v w)(hs:w.heap.size<=w'.heap.size)(ho:∀b,b<w.heap.size->w'.heap[b]?=w.heap[b]?):CM W ob kb H op g c ok v w':=
 have hz:=h.size;have lo:=h.lo;have lk:=h.lk
 ⟨(zqg (oneT ob)).frame _ _ _ h.rep λb hb=>ho b ((zqg (oneT ob)).lt _ _ _ h.rep hb),(ho _ (zq7 h.cnt)).trans h.cnt,(ho _ (zq7 h.b3)).trans h.b3,(ho _ (zq7 h.b5)).trans h.b5,(ho _ (zq7 h.b6)).trans h.b6,(ho _ (zq7 h.b7)).trans h.b7,h.ow,h.lo,h.lk,h.ne,Nat.le_trans h.size hs,λb hb h1 h2=>(ho b zyo).trans (h.old b hb h1 h2)⟩
theorem CM.re (h:CM W ob kb H op g c ok v w)(τ:Nat->Question->Nat)(d:Nat):CM W ob kb H op g c ok v (Go.Car.re w τ d):=h.more (Nat.le_refl _) λ_ _=>rfl
theorem CM.aft (h:CM W ob kb H op g c ok v w){g':Nums}{c':Nat}(k:OAft ob kb g' c' w w'):CM W ob kb H op g' c' ok v w':=by
 have hz:=h.size;have lo:=h.lo;have lk:=h.lk;exact⟨k.rep,k.cnt,(k.old _ zyo zyo zyo).trans h.b3,(k.old _ zyo zyo zyo).trans h.b5,(k.old _ zyo zyo zyo).trans h.b6,(k.old _ zyo zyo zyo).trans h.b7,h.ow,h.lo,h.lk,h.ne,Nat.le_trans h.size k.size,λb hb h1 h2=>(k.old b zyo h1 h2).trans (h.old b hb h1 h2)⟩
theorem CM.put7 (h:CM W ob kb H op g c ok v w){i:Nat}{x:Value}{ok':Bool}{v':Int}(e:(#[Value.bool ok,.int .i64 v,.slice none 0 0]:Array Value).setIfInBounds i x=#[.bool ok',.int .i64 v',.slice none 0 0]):CM W ob kb H op g c ok' v' (w.setCell ⟨H+3,i,none⟩ x):=by
 have hz:=h.size;have lo:=h.lo;have lk:=h.lk;have hs:(w.setCell ⟨H+3,i,none⟩ x).heap.size=w.heap.size:=zqf _ _ _;have ho:∀b,b≠H+3->(w.setCell ⟨H+3,i,none⟩ x).heap[b]?=w.heap[b]?:=λb hb=>zq8 _ _ _ _ hb;refine⟨(zqg (oneT ob)).frame _ _ _ h.rep λb hb=>ho b ?_,(ho _ zyo).trans h.cnt,(ho _ zyo).trans h.b3,(ho _ zyo).trans h.b5,(ho _ zyo).trans h.b6,?_,h.ow,h.lo,h.lk,h.ne,by rw[hs];exact h.size,λb hb h1 h2=>(ho b zyo).trans (h.old b hb h1 h2)⟩
 . obtain⟨_,_,e⟩:=hb;have e:b=ob:=e;omega
 . rw[zqa _ _ _ _ h.b7,e]
theorem CM.put6 (h:CM W ob kb H op g c ok v w)(i:Nat)(x:Value):OAft ob kb g c W (w.setCell ⟨H+2,i,none⟩ x):=by
 have hz:=h.size;have lo:=h.lo;have lk:=h.lk;have ow:=h.ow;have hs:(w.setCell ⟨H+2,i,none⟩ x).heap.size=w.heap.size:=zqf _ _ _;have ho:∀b,b≠H+2->(w.setCell ⟨H+2,i,none⟩ x).heap[b]?=w.heap[b]?:=λb hb=>zq8 _ _ _ _ hb;refine⟨(zqg (oneT ob)).frame _ _ _ h.rep λb hb=>ho b ?_,(ho _ zyo).trans h.cnt,by rw[hs];omega,λb hb h1 h2=>(ho b zyo).trans (h.old b zyo h1 h2)⟩;obtain⟨_,_,e⟩:=hb;have e:b=ob:=e;omega
theorem OAft.put6 {W w:World}{ob kb H:Nat}{g:Nums}{c:Nat}(h:OAft ob kb g c W w)(hW:W.heap.size=H)(lo:ob<H)(lk:kb<H)(i:Nat)(x:Value):OAft ob kb g c W (w.setCell ⟨H+2,i,none⟩ x):=by
 have hs:(w.setCell ⟨H+2,i,none⟩ x).heap.size=w.heap.size:=zqf _ _ _;have ho:∀b,b≠H+2->(w.setCell ⟨H+2,i,none⟩ x).heap[b]?=w.heap[b]?:=λb hb=>zq8 _ _ _ _ hb;refine⟨(zqg (oneT ob)).frame _ _ _ h.rep λb hb=>ho b ?_,(ho _ zyo).trans h.cnt,by rw[hs];exact h.size,λb hb h1 h2=>(ho b zyo).trans (h.old b hb h1 h2)⟩;obtain⟨_,_,e⟩:=hb;have e:b=ob:=e;omega
end
noncomputable def ccT(n:Nat):Code:=tailN n (Try.f14.body.getD .skip)
theorem cc0:Try.f14.body.getD .skip=.seq (headC (ccT 0)) (.seq (headC (ccT 1)) (.seq (headC (ccT 2)) (.seq (headC (ccT 3)) (ccT 4)))):=by kernel_rfl
theorem cc3:headC (ccT 3)=.seq (cqL (headC (ccT 3))) (.block 0 (cqB (cqR (headC (ccT 3))))):=by kernel_rfl
def CPost(ob kb:Nat)(g:Nums)(c:Nat)(A:Ans)(W:World)(e:Ending)(w':World):Prop:=e=.returned (ansV A)/\OAft ob kb g c W w'
def CBody(ob kb:Nat)(g:Nums)(c:Nat)(A:Ans)(W:World):Unit->Exit->Act->World->Prop:=bodyJ Try.prog Try.f14 (λ(_:Unit)e w'=>CPost ob kb g c A W e w')
theorem zq4d{W:World}{ob kb H:Nat}{op:OpX}{g:Nums}{c:Nat}{ok ok':Bool}{v v':Int}{w:World}(h:CM W ob kb H op g c ok v w){T:Array Value}(hT:T[6]?=some (.pointer (some ⟨H+2,0,none⟩)))(τ:Nat->Question->Nat)(d:Nat):
 (results Try.f14 T).run Try.prog (re (((w.setCell ⟨H+2,0,none⟩ (.bool ok')).setCell ⟨H+2,1,none⟩ (.int .i64 v')).setCell ⟨H+2,2,none⟩ (.slice none 0 0)) τ d)=.ok (ansV ⟨ok',v',[]⟩) (re (((w.setCell ⟨H+2,0,none⟩ (.bool ok')).setCell ⟨H+2,1,none⟩ (.int .i64 v')).setCell ⟨H+2,2,none⟩ (.slice none 0 0)) τ d):=by
 have r6:=zqa _ (H+2) 0 (.bool ok') h.b6;have r7:=zqa _ (H+2) 1 (.int .i64 v') r6;have r8:=zqa _ (H+2) 2 (.slice none 0 0) r7;generalize (((w.setCell ⟨H+2,0,none⟩ (.bool ok')).setCell ⟨H+2,1,none⟩ (.int .i64 v')).setCell ⟨H+2,2,none⟩ (.slice none 0 0))=w8 at r8 |-;have e:=results_cell_row (P:=Try.prog) (fn:=Try.f14) (p:=6) (ty:=49) rfl T (re w8 τ d) (H+2) 49 _ _ _ (by rw[al_gd,hT];rfl) r8 rfl rfl rfl;exact e
theorem CM.fin {W:World}{ob kb H:Nat}{op:OpX}{g:Nums}{c:Nat}{ok:Bool}{v:Int}{w:World}(h:CM W ob kb H op g c ok v w)(x y z:Value):OAft ob kb g c W (((w.setCell ⟨H+2,0,none⟩ x).setCell ⟨H+2,1,none⟩ y).setCell ⟨H+2,2,none⟩ z):=
 ((h.put6 0 x).put6 h.ow h.lo h.lk 1 y).put6 h.ow h.lo h.lk 2 z
theorem OAft.re {ob kb:Nat}{g:Nums}{c:Nat}{W w:World}(h:OAft ob kb g c W w)(τ:Nat->Question->Nat)(d:Nat):OAft ob kb g c W (Go.Car.re w τ d):=⟨(zqg (oneT ob)).frame _ _ _ h.rep λ_ _=>rfl,h.cnt,h.size,h.old⟩
def CRet(ob kb:Nat)(g:Nums)(c:Nat)(A:Ans)(W:World)(a:Act)(w':World):Prop:=(∀τ d,(results Try.f14 a.tmps).run Try.prog (re w' τ d)=.ok (ansV A) (re w' τ d))/\OAft ob kb g c W w'
theorem CRet.re {ob kb:Nat}{g:Nums}{c:Nat}{A:Ans}{W:World}{a:Act}{w':World}(h:CRet ob kb g c A W a w')(τ:Nat->Question->Nat)(d:Nat):CRet ob kb g c A W a (Go.Car.re w' τ d):=⟨λτ' d'=>by rw[re_re];exact h.1 τ' d',h.2.re τ d⟩
theorem zq81{Fin:Machine->Trace->Prop}(hFin:Back Try.prog Fin){n:Nat}{W:World}{ob kb H:Nat}{op:OpX}{g:Nums}{c:Nat}{ok:Bool}{v:Int}{w:World}{j0 j1 j2 j3 j4 j5 j9 j10 j11 j12 j13 j14 j15 j16 j17 j18 j19 j20 j21 j22 j23 j24 j25 j26 j27 j28 j29 j30 j31 j32 j33 j34 j35 j36 j37 j38 j39 j40 j41 j42 j43 j44 j45 j46 j47 j48 j49 j50 j51 j52 j53 j54 j55 j56 j57 j58 j59 j60 j61 j62 j63 j64 j65 j66 j67 j68 j69 j70 j71 j72 j73 j74:Value}{e:Int}(h:CM W ob kb H op g c ok v w)(hz:e≠0->v=0):
 wpJ (λ(_:Unit)=>J0 Try.prog Fin n) (ccT 4) (CBody ob kb g c (madeA v e) W) () ⟨#[j0,j1,j2,j3,j4,j5,.pointer (some ⟨H+2,0,none⟩),.pointer (some ⟨H+3,0,none⟩),.int .i64 e,j9,j10,j11,j12,j13,j14,j15,j16,j17,j18,j19,j20,j21,j22,j23,j24,j25,j26,j27,j28,j29,j30,j31,j32,j33,j34,j35,j36,j37,j38,j39,j40,j41,j42,j43,j44,j45,j46,j47,j48,j49,j50,j51,j52,j53,j54,j55,j56,j57,j58,j59,j60,j61,j62,j63,j64,j65,j66,j67,j68,j69,j70,j71,j72,j73,j74],[]⟩ w:=by
 refine zq18 (jU0 hFin n) (jC0 hFin n) zqp zyk (λ_ _=>False) (λa w'=>CRet ob kb g c (madeA v e) W a w') (λ_ _ _ _ h=>h) (λ_ _ τ d h=>h.re τ d) (λτ d=>?_) (λ_ _ h=>h.elim) (λt w h=>⟨rfl,_,h.1,rfl,h.2⟩);have hM:=h.re τ d;generalize re w τ d=w0 at hM |-;clear h;have a0:w0.cell? ⟨H+3,0,none⟩=some (.bool ok):=(zq0 hM.b7).trans rfl;have a1:w0.cell? ⟨H+3,1,none⟩=some (.int .i64 v):=(zq0 hM.b7).trans rfl;have a2:w0.cell? ⟨H+3,2,none⟩=some (.slice none 0 0):=(zq0 hM.b7).trans rfl;have z0:w0.frozen? ⟨H+3,0,none⟩=false:=zq3 hM.b7;have z1:w0.frozen? ⟨H+3,1,none⟩=false:=zq3 hM.b7;have y0:w0.cell? ⟨H+2,0,none⟩=some (.bool false):=(zq0 hM.b6).trans rfl;have y1:w0.cell? ⟨H+2,1,none⟩=some (.int .i64 0):=(zq0 hM.b6).trans rfl;have y2:w0.cell? ⟨H+2,2,none⟩=some (.slice none 0 0):=(zq0 hM.b6).trans rfl;have x0:w0.frozen? ⟨H+2,0,none⟩=false:=zq3 hM.b6;have x1:w0.frozen? ⟨H+2,1,none⟩=false:=zq3 hM.b6;have x2:w0.frozen? ⟨H+2,2,none⟩=false:=zq3 hM.b6;obtain⟨u_,hu_⟩:∃c,ccT 4=c:=⟨_,rfl⟩;have eu_:=hu_;rw[hu_];simp only[ccT,headC,tailN,cqL,cqR,cqB,cqO,cqT,cqF,Try.f14,al_od]at eu_;subst eu_;clear hu_
 by_cases he:e=0
 . have hA:madeA v e=⟨true,v,[]⟩:=by unfold madeA;rw[if_pos he]
   rw[hA];have d1:(e==0)=true:=by simp[he]
   have HM:=Lib.hid hM;clear hM he hz hA;go_wp2;have hM2:=HM.out.put7 (i:=0) (x:=.bool true) (ok':=true) (v':=v) rfl;exact⟨rfl,λτ d=>zq4d hM2 rfl τ d,hM2.fin _ _ _⟩
 . have hv:=hz he;subst hv;have hA:madeA 0 e=⟨false,wrap64 (-e),[]⟩:=by unfold madeA;rw[if_neg he]
   rw[hA];have d1:(e==0)=false:=by simp[he]
   have HM:=Lib.hid hM;clear hM he hz hA;go_wp2;have hM2:=(HM.out.put7 (i:=0) (x:=.bool false) (ok':=false) (v':=0) rfl).put7 (i:=1) (x:=.int .i64 (wrap64 (-e))) (ok':=false) (v':=wrap64 (-e)) rfl;exact⟨rfl,λτ d=>zq4d hM2 rfl τ d,hM2.fin _ _ _⟩
noncomputable def ccB:Code:=cqB (cqR (headC (ccT 3)))
theorem cc_k1{Fin:Machine->Trace->Prop}(hFin:Back Try.prog Fin){n:Nat}{W:World}{ob kb H:Nat}{op:OpX}{g:Nums}{c:Nat}{w:World}{ct:Bool}{Q:Unit->Exit->Act->World->Prop}{j4 j9 j10 j11 j12 j13 j14 j15 j16 j17 j18 j19 j20 j21 j22 j23 j24 j25 j26 j27 j28 j29 j30 j31 j32 j33 j34 j35 j36 j37 j38 j39 j40 j41 j42 j43 j44 j45 j46 j47 j48 j49 j50 j51 j52 j53 j54 j55 j56 j57 j58 j59 j60 j61 j62 j63 j64 j65 j66 j67 j68 j69 j70 j71 j72 j73 j74:Value}{x:Int×Bool}(h:CM W ob kb H op g c false 0 w)(hT:((getP 0:Proc (Nums×Unit) (Int×Bool)).run (g,())).2.1=some x)
 (hQ:∀t w',CRet ob kb ((getP 0:Proc (Nums×Unit) (Int×Bool)).run (g,())).1.1 (c+cfOf ct*((getP 0:Proc (Nums×Unit) (Int×Bool)).run (g,())).2.2) ⟨x.2,x.1,[]⟩ W ⟨t,[]⟩ w'->Q () .ret ⟨t,[]⟩ w'):wpJ (λ(_:Unit)=>J0 Try.prog Fin n) (cqT (cqR ccB)) Q () ⟨#[.pointer (some ⟨ob,0,none⟩),svOf kb ct,op.val,.pointer (some ⟨H,0,none⟩),j4,.pointer (some ⟨H+1,0,none⟩),.pointer (some ⟨H+2,0,none⟩),.pointer (some ⟨H+3,0,none⟩),.int .i64 0,j9,j10,j11,j12,j13,j14,j15,j16,j17,j18,j19,j20,j21,j22,j23,j24,j25,j26,j27,j28,j29,j30,j31,j32,j33,j34,j35,j36,j37,j38,j39,j40,j41,j42,j43,j44,j45,j46,j47,j48,j49,j50,j51,j52,j53,j54,j55,j56,j57,j58,j59,j60,j61,j62,j63,j64,j65,j66,j67,j68,j69,j70,j71,j72,j73,j74],[]⟩ w:=by
 obtain⟨u_,hu_⟩:∃c,cqT (cqR ccB)=c:=⟨_,rfl⟩;have eu_:=hu_;rw[hu_];simp only[ccB,ccT,headC,tailN,cqL,cqR,cqB,cqO,cqT,cqF,Try.f14,al_od]at eu_;subst eu_;clear hu_;refine zqw (jU0 hFin n) (zq7j (jU0 hFin n) ?_);refine zq4p (jU0 hFin n) (zqu _) false (.inr rfl) 0 2 8 rfl rfl rfl zx2p ?_;intro τ d;simp only[List.drop_succ_cons,List.drop_zero,List.take_succ_cons,List.take_zero];have hM:=h.re τ d;generalize re w τ d=w0 at hM |-;have c3:w0.cell? ⟨H,0,none⟩=some (.pointer (some ⟨ob,0,none⟩)):=(zq0 hM.b3).trans rfl;have HQ:=Lib.hid (And.intro hT hQ);have HM:=Lib.hid hM;clear h hT hQ hM;go_wp2;simp only[contJ];refine zq6v (jU0 hFin n) (f:=25) (args:=#[.pointer (some ⟨ob,0,none⟩),svOf kb ct]) rfl rfl (λτ d=>?_) (λτ d=>?_) (zq5o hFin ct HM.out.rep HM.out.cnt HM.out.ne (B:=λ_=>none) (p:=getP 0) (val:=pairV) (λb o h=>by cases h) (λZ I hd hs=>((zq5d (Z.sys I) hd.base (c:=0) Nat.zero_lt_one).spec.at' _)) HQ.out.1) ?_
 . simp[go_sem,execOp,Act.eval,resolve,Deferred.ofValue,invoke,callFunc,Try.func25,Try.f25]
 . intro e he;simp[go_sem,execOp,Act.eval,resolve,Deferred.ofValue,invoke,callFunc,Try.func25,Try.f25,Sem.runT_eq]at he
 rintro _ e w1 ⟨rfl,hA⟩;have hM1:=HM.out.aft hA;clear hA;show opsJ _ _ _ _ () _ _;refine zq4p (jU0 hFin n) (zqu _) false (.inr rfl) 3 7 0 rfl rfl rfl zx2p ?_;intro τ d;simp only[List.drop_succ_cons,List.drop_zero,List.take_succ_cons,List.take_zero];have hM:=hM1.re τ d;generalize re w1 τ d=w2 at hM |-;clear hM1;have a0:w2.cell? ⟨H+3,0,none⟩=some (.bool false):=(zq0 hM.b7).trans rfl;have a1:w2.cell? ⟨H+3,1,none⟩=some (.int .i64 0):=(zq0 hM.b7).trans rfl;have a2:w2.cell? ⟨H+3,2,none⟩=some (.slice none 0 0):=(zq0 hM.b7).trans rfl;have z0:w2.frozen? ⟨H+3,0,none⟩=false:=zq3 hM.b7;have z1:w2.frozen? ⟨H+3,1,none⟩=false:=zq3 hM.b7;have y0:w2.cell? ⟨H+2,0,none⟩=some (.bool false):=(zq0 hM.b6).trans rfl;have y1:w2.cell? ⟨H+2,1,none⟩=some (.int .i64 0):=(zq0 hM.b6).trans rfl;have y2:w2.cell? ⟨H+2,2,none⟩=some (.slice none 0 0):=(zq0 hM.b6).trans rfl;have x0:w2.frozen? ⟨H+2,0,none⟩=false:=zq3 hM.b6;have x1:w2.frozen? ⟨H+2,1,none⟩=false:=zq3 hM.b6;have x2:w2.frozen? ⟨H+2,2,none⟩=false:=zq3 hM.b6;have HM2:=Lib.hid hM;clear hM y0 y1 y2 x0 x1 x2 a2;go_wp2;simp only[contJ];refine zq6w (jU0 hFin n) ?_;show wpJ _ _ _ () _ _;have hM3:=(HM2.out.put7 (i:=1) (x:=.int .i64 x.1) (ok':=false) (v':=x.1) rfl).put7 (i:=0) (x:=.bool x.2) (ok':=x.2) (v':=x.1) rfl;generalize ((w2.setCell ⟨H+3,1,none⟩ (.int .i64 x.1)).setCell ⟨H+3,0,none⟩ (.bool x.2))=w3 at hM3 |-;refine zq18 (jU0 hFin n) (jC0 hFin n) zqp zyk (λ_ _=>False) (λa w'=>CRet ob kb ((getP 0:Proc (Nums×Unit) (Int×Bool)).run (g,())).1.1 (c+cfOf ct*((getP 0:Proc (Nums×Unit) (Int×Bool)).run (g,())).2.2) ⟨x.2,x.1,[]⟩ W a w') (λ_ _ _ _ h=>h) (λ_ _ τ d h=>h.re τ d) (λτ d=>?_) (λ_ _ h=>h.elim) (λt w h=>HQ.out.2 t w h);have hM:=hM3.re τ d;generalize re w3 τ d=w4 at hM |-;clear hM3 a0 a1 z0 z1;have a0:w4.cell? ⟨H+3,0,none⟩=some (.bool x.2):=(zq0 hM.b7).trans rfl;have a1:w4.cell? ⟨H+3,1,none⟩=some (.int .i64 x.1):=(zq0 hM.b7).trans rfl;have a2:w4.cell? ⟨H+3,2,none⟩=some (.slice none 0 0):=(zq0 hM.b7).trans rfl;have z0:w4.frozen? ⟨H+3,0,none⟩=false:=zq3 hM.b7;have z1:w4.frozen? ⟨H+3,1,none⟩=false:=zq3 hM.b7;have y0:w4.cell? ⟨H+2,0,none⟩=some (.bool false):=(zq0 hM.b6).trans rfl;have y1:w4.cell? ⟨H+2,1,none⟩=some (.int .i64 0):=(zq0 hM.b6).trans rfl;have y2:w4.cell? ⟨H+2,2,none⟩=some (.slice none 0 0):=(zq0 hM.b6).trans rfl;have x0:w4.frozen? ⟨H+2,0,none⟩=false:=zq3 hM.b6;have x1:w4.frozen? ⟨H+2,1,none⟩=false:=zq3 hM.b6;have x2:w4.frozen? ⟨H+2,2,none⟩=false:=zq3 hM.b6;have HM4:=Lib.hid hM;clear hM z0 z1;go_wp2;exact⟨rfl,λτ d=>zq4d HM4.out rfl τ d,HM4.out.fin _ _ _⟩
theorem cc_k2{Fin:Machine->Trace->Prop}(hFin:Back Try.prog Fin){n:Nat}{W:World}{ob kb H:Nat}{op:OpX}{g:Nums}{c:Nat}{w:World}{ct:Bool}{Q:Unit->Exit->Act->World->Prop}{j4 j9 j10 j11 j12 j13 j14 j15 j16 j17 j18 j19 j20 j21 j22 j23 j24 j25 j26 j27 j28 j29 j30 j31 j32 j33 j34 j35 j36 j37 j38 j39 j40 j41 j42 j43 j44 j45 j46 j47 j48 j49 j50 j51 j52 j53 j54 j55 j56 j57 j58 j59 j60 j61 j62 j63 j64 j65 j66 j67 j68 j69 j70 j71 j72 j73 j74:Value}{x:Int×Bool}(h:CM W ob kb H op g c false 0 w)(hT:((setP 0 op.b:Proc (Nums×Unit) (Int×Bool)).run (g,())).2.1=some x)
 (hQ:∀t w',CRet ob kb ((setP 0 op.b:Proc (Nums×Unit) (Int×Bool)).run (g,())).1.1 (c+cfOf ct*((setP 0 op.b:Proc (Nums×Unit) (Int×Bool)).run (g,())).2.2) ⟨x.2,x.1,[]⟩ W ⟨t,[]⟩ w'->Q () .ret ⟨t,[]⟩ w'):wpJ (λ(_:Unit)=>J0 Try.prog Fin n) (cqT (cqR (cqF (cqR ccB)))) Q () ⟨#[.pointer (some ⟨ob,0,none⟩),svOf kb ct,op.val,.pointer (some ⟨H,0,none⟩),j4,.pointer (some ⟨H+1,0,none⟩),.pointer (some ⟨H+2,0,none⟩),.pointer (some ⟨H+3,0,none⟩),.int .i64 0,j9,j10,j11,j12,j13,j14,j15,j16,j17,j18,j19,j20,j21,j22,j23,j24,j25,j26,j27,j28,j29,j30,j31,j32,j33,j34,j35,j36,j37,j38,j39,j40,j41,j42,j43,j44,j45,j46,j47,j48,j49,j50,j51,j52,j53,j54,j55,j56,j57,j58,j59,j60,j61,j62,j63,j64,j65,j66,j67,j68,j69,j70,j71,j72,j73,j74],[]⟩ w:=by
 obtain⟨u_,hu_⟩:∃c,cqT (cqR (cqF (cqR ccB)))=c:=⟨_,rfl⟩;have eu_:=hu_;rw[hu_];simp only[ccB,ccT,headC,tailN,cqL,cqR,cqB,cqO,cqT,cqF,Try.f14,al_od]at eu_;subst eu_;clear hu_;refine zqw (jU0 hFin n) (zq7j (jU0 hFin n) ?_);refine zq4p (jU0 hFin n) (zqu _) false (.inr rfl) 0 4 8 rfl rfl rfl zx2p ?_;intro τ d;simp only[List.drop_succ_cons,List.drop_zero,List.take_succ_cons,List.take_zero];have hM:=h.re τ d;generalize re w τ d=w0 at hM |-;have c3:w0.cell? ⟨H,0,none⟩=some (.pointer (some ⟨ob,0,none⟩)):=(zq0 hM.b3).trans rfl;have c52:w0.cell? ⟨H+1,2,none⟩=some (.int .i64 op.b):=(zq0 hM.b5).trans rfl;have HQ:=Lib.hid (And.intro hT hQ);have HM:=Lib.hid hM;clear h hT hQ hM;go_wp2;simp only[contJ];refine zq6v (jU0 hFin n) (f:=26) (args:=#[.pointer (some ⟨ob,0,none⟩),svOf kb ct,.int .i64 op.b]) rfl rfl (λτ d=>?_) (λτ d=>?_) (zq5o hFin ct HM.out.rep HM.out.cnt HM.out.ne (B:=λ_=>none) (p:=setP 0 op.b) (val:=pairV) (λb o h=>by cases h) (λZ I hd hs=>((zqa8 (Z.sys I) hd.base (c:=0) Nat.zero_lt_one op.b).spec.at' _)) HQ.out.1) ?_
 . simp[go_sem,execOp,Act.eval,resolve,Deferred.ofValue,invoke,callFunc,Try.func26,Try.f26]
 . intro e he;simp[go_sem,execOp,Act.eval,resolve,Deferred.ofValue,invoke,callFunc,Try.func26,Try.f26,Sem.runT_eq]at he
 rintro _ e w1 ⟨rfl,hA⟩;have hM1:=HM.out.aft hA;clear hA;show opsJ _ _ _ _ () _ _;refine zq4p (jU0 hFin n) (zqu _) false (.inr rfl) 5 7 0 rfl rfl rfl zx2p ?_;intro τ d;simp only[List.drop_succ_cons,List.drop_zero,List.take_succ_cons,List.take_zero];have hM:=hM1.re τ d;generalize re w1 τ d=w2 at hM |-;clear hM1;have a0:w2.cell? ⟨H+3,0,none⟩=some (.bool false):=(zq0 hM.b7).trans rfl;have a1:w2.cell? ⟨H+3,1,none⟩=some (.int .i64 0):=(zq0 hM.b7).trans rfl;have a2:w2.cell? ⟨H+3,2,none⟩=some (.slice none 0 0):=(zq0 hM.b7).trans rfl;have z0:w2.frozen? ⟨H+3,0,none⟩=false:=zq3 hM.b7;have z1:w2.frozen? ⟨H+3,1,none⟩=false:=zq3 hM.b7;have y0:w2.cell? ⟨H+2,0,none⟩=some (.bool false):=(zq0 hM.b6).trans rfl;have y1:w2.cell? ⟨H+2,1,none⟩=some (.int .i64 0):=(zq0 hM.b6).trans rfl;have y2:w2.cell? ⟨H+2,2,none⟩=some (.slice none 0 0):=(zq0 hM.b6).trans rfl;have x0:w2.frozen? ⟨H+2,0,none⟩=false:=zq3 hM.b6;have x1:w2.frozen? ⟨H+2,1,none⟩=false:=zq3 hM.b6;have x2:w2.frozen? ⟨H+2,2,none⟩=false:=zq3 hM.b6;have HM2:=Lib.hid hM;clear hM y0 y1 y2 x0 x1 x2 a2;go_wp2;simp only[contJ];refine zq6w (jU0 hFin n) ?_;show wpJ _ _ _ () _ _;have hM3:=(HM2.out.put7 (i:=1) (x:=.int .i64 x.1) (ok':=false) (v':=x.1) rfl).put7 (i:=0) (x:=.bool x.2) (ok':=x.2) (v':=x.1) rfl;generalize ((w2.setCell ⟨H+3,1,none⟩ (.int .i64 x.1)).setCell ⟨H+3,0,none⟩ (.bool x.2))=w3 at hM3 |-;refine zq18 (jU0 hFin n) (jC0 hFin n) zqp zyk (λ_ _=>False) (λa w'=>CRet ob kb ((setP 0 op.b:Proc (Nums×Unit) (Int×Bool)).run (g,())).1.1 (c+cfOf ct*((setP 0 op.b:Proc (Nums×Unit) (Int×Bool)).run (g,())).2.2) ⟨x.2,x.1,[]⟩ W a w') (λ_ _ _ _ h=>h) (λ_ _ τ d h=>h.re τ d) (λτ d=>?_) (λ_ _ h=>h.elim) (λt w h=>HQ.out.2 t w h);have hM:=hM3.re τ d;generalize re w3 τ d=w4 at hM |-;clear hM3 a0 a1 z0 z1;have a0:w4.cell? ⟨H+3,0,none⟩=some (.bool x.2):=(zq0 hM.b7).trans rfl;have a1:w4.cell? ⟨H+3,1,none⟩=some (.int .i64 x.1):=(zq0 hM.b7).trans rfl;have a2:w4.cell? ⟨H+3,2,none⟩=some (.slice none 0 0):=(zq0 hM.b7).trans rfl;have z0:w4.frozen? ⟨H+3,0,none⟩=false:=zq3 hM.b7;have z1:w4.frozen? ⟨H+3,1,none⟩=false:=zq3 hM.b7;have y0:w4.cell? ⟨H+2,0,none⟩=some (.bool false):=(zq0 hM.b6).trans rfl;have y1:w4.cell? ⟨H+2,1,none⟩=some (.int .i64 0):=(zq0 hM.b6).trans rfl;have y2:w4.cell? ⟨H+2,2,none⟩=some (.slice none 0 0):=(zq0 hM.b6).trans rfl;have x0:w4.frozen? ⟨H+2,0,none⟩=false:=zq3 hM.b6;have x1:w4.frozen? ⟨H+2,1,none⟩=false:=zq3 hM.b6;have x2:w4.frozen? ⟨H+2,2,none⟩=false:=zq3 hM.b6;have HM4:=Lib.hid hM;clear hM z0 z1;go_wp2;exact⟨rfl,λτ d=>zq4d HM4.out rfl τ d,HM4.out.fin _ _ _⟩
end Go.Proofs
namespace Go.Car
open Go Go.Conc Go.RowKit
open Go.ConcN (upd upd_ne upd_same)
section
variable {P:Program} {main:Bool} {γ:Type} {J:γ->Goroutine->World->Prop}
theorem zq7x(hJ:JS P main (λ_=>none) J){b:Frame}{k:List Item}{cs:List Frame}(hb:b.kind≠.early)(hm:P.follows .mixedOrders=true){id:Nat}{ops:Array Oper}{T₀:Array Value}{ds:List Deferred}{s:γ}{w:World}(I:γ->(Nat->Bool)->Array Value->World->Prop)
 (hback:zq2z ops=true) (hre:∀s L T w τ d,I s L T w->I s L T (re w τ d)) (hI:I s (λ_=>false) T₀ w)
 (hstep:∀(s:γ)(L:Nat->Bool)(T:Array Value)(w:World)(i:Nat)(o:Oper),I s L T w->L i=false->ops[i]?=some o->(∀e∈o.after,Region.binds .any e=true->L e.on=true)->
  ∀rest:List Nat,(∀s' T' w',I s' (upd L i true) T' w'->J s' (G (b.at ⟨T',ds⟩ (.inRegion ops rest::k)) cs) w')->J s (G (b.at ⟨T,ds⟩ (.inRegion ops (i::rest)::k)) cs) w)
 (hend:∀s L T w,(∀i,i<ops.size->L i=true)->I s L T w->J s (G (b.at ⟨T,ds⟩ (.inRegion ops []::k)) cs) w):J s (G (b.at ⟨T₀,ds⟩ (.code (.region id ops true)::k)) cs) w:=by
 have hb':∀i o,ops[i]?=some o->∀e∈o.after,Region.binds .any e=true->e.on<i:=by
  intro i o ho;have hlt:=(Array.getElem?_eq_some_iff.1 ho).1;unfold zq2z at hback;rw[List.all_eq_true]at hback;have:=hback i (List.mem_range.2 hlt);rw[ho]at this;simp only[Array.all_eq_true_iff_forall_mem]at this;exact λe he hbe=>by have:=this e he;simpa[hbe]using this
 have key:∀(fuel t:Nat)(listed:Array Bool)(s:γ)(L:Nat->Bool)(T:Array Value)(w:World),listed.size=ops.size->left listed=fuel->(∀i,i<ops.size->listed.getD i false=L i)->I s L T w->
  J s (G (b.at ⟨T,ds⟩ (.inRegion ops (Region.linearise.go .any ops fuel t listed [])::k)) cs) w:=by
  intro fuel
  induction fuel with
  |zero=>
   intro t listed s L T w hsz hl hL hi;refine hend s L T w (λi hlt=>?_) hi;rw[<-hL i hlt];have hlt':i<listed.size:=by omega
   cases hv:listed[i]with
   |true=>simp[hlt',hv]
   |false=>have:=zq4l (listed:=listed) (i:=i) (by simp[hlt',hv]);omega
  |succ fuel ih=>
   intro t listed s L T w hsz hl hL hi;simp only[Region.linearise.go];change J s (G (b.at ⟨T,ds⟩ (.inRegion ops (match (Region.ready .any ops listed)[t % (Region.ready .any ops listed).length]? with
    |some i=>Region.linearise.go .any ops fuel (t / (Region.ready .any ops listed).length) (listed.setIfInBounds i true) [i]
    |none=>[].reverse)::k)) cs) w
   have hun:∃i,listed.getD i true=false:=by
    refine Classical.byContradiction λhn=>?_;have:left listed=0:=by
     unfold left;rw[List.length_eq_zero_iff,List.filter_eq_nil_iff];intro x hx hxx;obtain⟨i,hi,rfl⟩:=List.getElem_of_mem hx;have hi':i<listed.size:=by simpa using hi
     have e:listed.toList[i]=listed[i]:=by simp
     rw[e]at hxx;exact hn ⟨i,by simp[hi'];simpa using hxx⟩
    omega
   have hready:∃i,i∈Region.ready .any ops listed:=by
    have:∀m i,m=i->listed.getD i true=false->∃j,j∈Region.ready .any ops listed:=by
     intro m
     induction m using Nat.strongRecOn with
     |_ m ihm=>
      intro i hi hun;subst hi;have hops:m<ops.size:=by have:=zq1m hun;omega
      by_cases hall:∀e∈(ops[m]'hops).after,Region.binds .any e=true->listed.getD e.on false=true
      . exact zx18
      . obtain⟨e,he⟩:=Classical.not_forall.1 hall;obtain⟨h1,he⟩:=Classical.not_imp.1 he;obtain⟨h2,he⟩:=Classical.not_imp.1 he;have hlt':=hb' m _ (Array.getElem?_eq_getElem hops) e h1 h2;refine ihm e.on hlt' e.on rfl ?_;have:e.on<listed.size:=by omega
        simp[this]at he |-;exact he
    obtain⟨i,hi⟩:=hun;exact this i i rfl hi
   cases hi':(Region.ready .any ops listed)[t % (Region.ready .any ops listed).length]? with
   |none=>
    exfalso;obtain⟨i,hi''⟩:=hready;have hpos:0<(Region.ready .any ops listed).length:=List.length_pos_of_mem hi'';have hlt:=Nat.mod_lt t hpos;rw[List.getElem?_eq_none_iff]at hi';omega
   |some i=>
    have hmem:=List.mem_of_getElem? hi';obtain⟨hun,o,ho,hall⟩:=mem_ready.1 hmem;have hilt:i<ops.size:=by have:=zq1m hun;omega
    simp only[];rw[linearise_go_acc,List.reverse_singleton,List.singleton_append];have hbk:=hb' i o ho;have hLi:L i=false:=by
     rw[<-hL i hilt];have hlt':i<listed.size:=by omega
     simp[hlt']at hun |-;exact hun
    have hld:left (listed.setIfInBounds i true)+1=left listed:=zq3f hun;have hL':∀j,j<ops.size->(listed.setIfInBounds i true).getD j false=upd L i true j:=λj hj=>by
     by_cases e:i=j
     . exact zx2b
     . exact zx29
    have hall':∀e∈o.after,Region.binds .any e=true->L e.on=true:=λe he hbe=>by
     rw[<-hL e.on (by have:=hbk e he hbe;omega)];exact hall e he hbe
    exact hstep s L T w i o hi hLi ho hall' _ λs' T' w' hI'=>ih _ _ s' (upd L i true) _ _ zx3z zyo hL' hI'
 refine hJ.step _ _ _ rfl λτ d=>⟨_,_,#[],stepG_region_draw (a:=⟨T₀,ds⟩),?_,by simp,?_⟩
 . exact OkD.refl _ _ _
 . refine hJ.re' s _ w τ (d+1) ?_;simp only[Region.schedule,hm,Bool.true_or,if_true,Region.linearise];refine key _ _ _ _ (λ_=>false) _ _ zx2n ?_ (λi hi=>by simp[hi]) hI;unfold left;simp
def DrawX(P:Program)(J:γ->Goroutine->World->Prop)(s:γ)(T:Array Value)(o:Oper)(w:World)(K:γ->Value->World->Prop)(K0:World->Prop):Prop:=
 (okOp P (λ_=>false) o.op=true/\((∃d v w',o.dst=some d/\(execOp (Act.mk T []).eval o).run P w=.ok (.value v) w'/\K s v w')\/(o.dst=none/\∃w',(execOp (Act.mk T []).eval o).run P w=.ok .skip w'/\K0 w')))\/
 (∃d f args,o.dst=some d/\(∀w,(execOp (Act.mk T []).eval o).run P w=.ok (.enter f args) w)/\(∀w,(execOp (Act.mk T []).eval o).events P w #[]=#[])/\CallsJ P J f args (λs' e w'=>∃v,e=.returned v/\K s' v w') s w)
theorem zq68(hJ:JS P main (λ_=>none) J){b:Frame}{k:List Item}{cs:List Frame}(hb:b.kind≠.early)(hm:P.follows .mixedOrders=true){id:Nat}{ops:Array Oper}{T₀:Array Value}{ds:List Deferred}{s:γ}{w:World}(hback:zq2z ops=true)(hchk:chkW ops T₀.size=true)
 (W:γ->(Nat->Bool)->List Value->World->Prop) (hWre:∀s L v w τ d,W s L v w->W s L v (re w τ d)) (v₀:List Value) (hv₀:v₀.length=ops.size) (hW:W s (λ_=>false) v₀ w)
 (hstep:∀(s:γ)(L:Nat->Bool)(vals:List Value)(T:Array Value)(w:World)(i:Nat)(o:Oper),vals.length=ops.size->W s L vals w->L i=false->ops[i]?=some o->(∀e∈o.after,Region.binds .any e=true->L e.on=true)->
  (∀j t,dstOf ops j=some t->L j=true->T[t]?=vals[j]?)->(∀t,noD ops t=true->T[t]?=T₀[t]?)->
  DrawX P J s T o w (λs' v w'=>W s' (upd L i true) (vals.set i v) w') (λw'=>W s (upd L i true) vals w'))
 (hend:∀s L vals w,(∀i,i<ops.size->L i=true)->vals.length=ops.size->W s L vals w->J s (G (b.at ⟨putv ops vals 0 T₀,ds⟩ (.inRegion ops []::k)) cs) w):J s (G (b.at ⟨T₀,ds⟩ (.code (.region id ops true)::k)) cs) w:=by
 unfold chkW at hchk;simp only[Bool.and_eq_true,List.all_eq_true,List.mem_range]at hchk;obtain⟨h1,h2⟩:=hchk;have plain:∀(i:Nat)(o:Oper),ops[i]?=some o->o.guard=none/\(∀d,o.dst=some d->d<T₀.size):=λi o ho=>by
  have:=h1 i (Array.getElem?_eq_some_iff.1 ho).1;rw[ho]at this;simp only[Bool.and_eq_true]at this;obtain⟨a1,a2⟩:=this;refine⟨Option.isNone_iff_eq_none.1 a1,λd hd=>?_⟩;rw[hd]at a2;simpa using a2
 have dlt:∀i d,dstOf ops i=some d->i<ops.size/\d<T₀.size:=λi d hd=>by
  unfold dstOf at hd;cases ho:ops[i]? with
  |none=>rw[ho]at hd;cases hd
  |some o=>rw[ho]at hd;exact⟨(Array.getElem?_eq_some_iff.1 ho).1,(plain i o ho).2 d hd⟩
 have apart:∀(i j:Nat)(d:Tmp),dstOf ops i=some d->dstOf ops j=some d->i=j:=λi j d hd hd'=>by
  rcases Nat.lt_trichotomy i j with h|h|h
  . have:=h2 j (dlt j d hd').1 i h;rw[hd,hd']at this;simp at this
  . exact h
  . have:=h2 i (dlt i d hd).1 j h;rw[hd,hd']at this;simp at this
 have final:∀(vals:List Value),vals.length=ops.size->∀i x,dstOf ops i=some x->(putv ops vals 0 T₀)[x]?=vals[i]?:=λvals hlen i x hd=>by
  obtain⟨hi,hlt⟩:=dlt i x hd;rw[List.getElem?_eq_getElem zyo];refine zq23 vals 0 _ i _ x (List.getElem?_eq_getElem zyo) zx3w hlt λm a b e=>?_;have:=apart m i x e hd;omega
 let I:γ->(Nat->Bool)->Array Value->World->Prop:=λs L T w=>∃vals:List Value,vals.length=ops.size/\W s L vals w/\T.size=T₀.size/\(∀t,(∀j,dstOf ops j≠some t)->T[t]?=T₀[t]?)/\∀j t,dstOf ops j=some t->L j=true->T[t]?=vals[j]?
 refine zq7x hJ hb hm I hback (λs L T w τ d⟨vals,a1,a2,a3⟩=>⟨vals,a1,hWre _ _ _ _ _ _ a2,a3⟩) ⟨v₀,hv₀,hW,rfl,λ_ _=>rfl,λ_ _ _ h=>zx3j⟩ ?_ ?_
 . rintro s L T w i o ⟨vals,hlen,hw,hsz,hout,hin⟩ hLi ho hdep rest hnext;obtain⟨hg,hdo⟩:=plain i o ho;have hil:i<ops.size:=(Array.getElem?_eq_some_iff.1 ho).1;have hst0:=λw hw=>hstep s L vals T w i o hlen hw hLi ho hdep hin λt ht=>hout t (zq3g ht);have hwan:Region.wanted o (yielded ops T)=true:=by simp[Region.wanted,hg]
   have value:∀s' d v w',o.dst=some d->W s' (upd L i true) (vals.set i v) w'->I s' (upd L i true) (T.setIfInBounds d v) w':=λs' d v w' hd hW'=>by
    have hdi:dstOf ops i=some d:=by unfold dstOf;rw[ho];exact hd
    refine⟨vals.set i v,by simpa using hlen,hW',by simpa using hsz,λt ht=>?_,λj t hdj hl=>?_⟩
    . have:d≠t:=λe=>ht i (e▸hdi);rw[al_gn this];exact hout t ht
    . exact zxw
   have skip:∀w',o.dst=none->W s (upd L i true) vals w'->I s (upd L i true) T w':=λw' hd hW'=>by
    refine⟨vals,hlen,hW',hsz,hout,λj t hdj hl=>?_⟩;have e:j≠i:=λe=>by
     subst e;unfold dstOf at hdj;rw[ho]at hdj;simp only[al_ob]at hdj;rw[hd]at hdj;cases hdj
    rw[upd_ne _ _ e]at hl;exact hin j t hdj hl
   rcases hst0 w hw with⟨hok,hpl⟩|⟨d,f,args,hd,hrun,hev,hcall⟩
   . exact zxb
   . exact zxj
 . exact zxs
end
end Go.Car
