/- YtmgmbciplfkddaaEPlays2: part 12 of the proof (the texts behind it, in order). -/
import Derived.Test.YtmgmbciplfkddaaE11
set_option maxHeartbeats 4000000
set_option maxRecDepth 100000
set_option linter.all false
namespace Go.Car
open Go
section
variable {S:Type} {N most:Nat}
theorem zqjg{y:Int}{s:TSt S}(h:skipN N s.ov y):zq27 N most y s=s:=by
 unfold zq27;rw[if_pos];rcases h with h|h|h
 . exact .inl h
 . exact .inr (.inl h)
 . exact .inr (.inr (.inl h))
theorem zq4a{s:TSt S}:∀(L:List Int),(∀y∈L,skipN N s.ov y)->zq1e N most L s=s
 |[],_=>rfl
 |y::L,h=>by
  unfold zq1e;rw[List.foldl_cons,zqjg (h y (by simp))];exact zq4a L λz hz=>h z (by simp[hz])
theorem zq6l{s:TSt S}(h:s.ord.length=most):∀(L:List Int),zq1e N most L s=s
 |[]=>rfl
 |y::L=>by
  have e:zq27 N most y s=s:=by unfold zq27;rw[if_pos (.inr (.inr (.inr h)))]
  unfold zq1e;rw[List.foldl_cons,e];exact zq6l h L
theorem zqjm(L1 L2:List Int)(s:TSt S):zq1e N most (L1++L2) s=zq1e N most L2 (zq1e N most L1 s):=List.foldl_append
theorem zqab{s:TSt S}(h:leftN s.ov N=0)(L:List Int):zq1e N most L s=s:=by
 refine zq4a L λy _=>?_
 by_cases h1:y<0
 . exact .inl h1
 by_cases h2:(N:Int)<=y
 . exact .inr (.inl h2)
 . exact .inr (.inr (zq8f h (by omega)))
theorem zq92{f:Nat}{s:TSt S}(h:¬(0<leftN s.ov N/\s.ord.length<most)):zq2d N most f s=s:=by
 cases f with
 |zero=>rfl
 |succ f=>unfold zq2d;rw[if_neg h]
theorem zqjf{x:Nat}{s:TSt S}(hx:x<N)(he:s.ov x=false)(hm:s.ord.length≠most):zq27 N most x s=turnT x (goT (s.t x) s.s) s (s.ord++[x]):=by
 unfold zq27;rw[if_neg]
 . rw[Int.toNat_natCast]
 . rintro(h|h|h|h)
   . omega
   . omega
   . rw[Int.toNat_natCast,he]at h;cases h
   . exact hm h
theorem zq6k{L:List Int}{k:Nat}{x:Nat}{s:TSt S}(hk:L[k]?=some (x:Int))(hs:∀j y,j<k->L[j]?=some y->skipN N s.ov y)(hx:x<N)(he:s.ov x=false)(hm:s.ord.length≠most):
 zq1e N most L s=zq1e N most (L.drop (k+1)) (turnT x (goT (s.t x) s.s) s (s.ord++[x])):=by
 obtain⟨hlt,hg⟩:=List.getElem?_eq_some_iff.1 hk;have e:L=L.take k++(x:Int)::L.drop (k+1):=by
  rw[<-hg,List.getElem_cons_drop,List.take_append_drop]
 have e2:zq1e N most L s=zq1e N most (L.take k++(x:Int)::L.drop (k+1)) s:=by rw[<-e]
 rw[e2,zqjm,zq4a (L.take k) λy hy=>?_]
 . show List.foldl _ _ _=_;rw[List.foldl_cons,zqjf hx he hm];rfl
 . obtain⟨j,hj⟩:=List.mem_iff_getElem?.1 hy;rw[List.getElem?_take]at hj;split at hj
   . rename_i hh;exact hs j y hh hj
   . cases hj
def zq44(l:List Int)(N most:Nat)(P:TSt S)(a r:Nat)(s:TSt S):Prop:=
 r<=N/\∃f q,most<f+s.ord.length/\(q=r\/(r=0/\q=N))/\zq2d N most f (zq1e N most ((upto N).drop q) (zq1e N most (l.drop a) s))=P
theorem zqfb(pr:Nat->Proc S Unit)(l:List Int)(s:S):zq44 l N most (playT pr N most l s) 0 0 (zq16 pr s N):=by
 refine⟨Nat.zero_le _,most+1,N,by omega,.inr ⟨rfl,rfl⟩,?_⟩;have:(upto N).drop N=[]:=List.drop_eq_nil_of_le (by rw[zq5n];exact Nat.le_refl _);rw[this];rfl
theorem zqfc{l:List Int}{P s:TSt S}{a r:Nat}(h:zq44 l N most P a r s)(hs:leftN s.ov N=0\/s.ord.length=most):P=s:=by
 obtain⟨_,f,q,_,_,h⟩:=h;rcases hs with hs|hs
 . rw[zqab hs,zqab hs,zq92 (by omega)]at h;exact h.symm
 . rw[zq6l hs,zq6l hs,zq92 (by omega)]at h;exact h.symm
theorem zq90{l:List Int}{P s:TSt S}{a r x a' r':Nat}(h:zq44 l N most P a r s)(hm:s.ord.length<most)(hp:PickR l N s.ov a r x a' r'):zq44 l N most P a' r' (turnT x (goT (s.t x) s.s) s (s.ord++[x])):=by
 obtain⟨hrN,f,q,hf,hq,h⟩:=h;have hl1:(turnT x (goT (s.t x) s.s) s (s.ord++[x])).ord.length=s.ord.length+1:=by simp[turnT]
 cases hp with
 |list hk hx hN he hs=>
  rename_i k;refine⟨hrN,f,q,by omega,hq,?_⟩;rw[zq6k (k:=k - a) (x:=x) (by rw[List.getElem?_drop,show a+(k - a)=k from by omega];exact hx) (λj y hj hy=>hs (a+j) y (by omega) (by omega) (by rw[List.getElem?_drop]at hy;exact hy)) hN he (by omega),List.drop_drop,show a+(k - a+1)=k+1 from by omega]at h;exact h
 |round hs hr hx hN he hv ha=>
  rename_i v;have hxN:x<N:=by rw[hx];exact Nat.mod_lt _ hN
  have e1:zq1e N most (l.drop a) s=s:=zq4a _ λy hy=>by
   obtain⟨j,hj⟩:=List.mem_iff_getElem?.1 hy;rw[List.getElem?_drop]at hj;exact hs (a+j) y (by omega) hj
  have e2:l.drop a'=[]:=List.drop_eq_nil_of_le ha;rw[e1]at h
  by_cases hc:q<=v/\v<N
  . have hxv:x=v:=by rw[hx,Nat.mod_eq_of_lt hc.2]
    subst hxv;refine⟨by omega,f,x+1,by omega,.inl rfl,?_⟩;rw[e2];rw[zq6k (k:=x - q) (x:=x) (by rw[zqlz (by omega),show q+(x - q)=x from by omega]) (λj y hj hy=>?_) hxN he (by omega),List.drop_drop,show q+(x - q+1)=x+1 from by omega]at h
    . exact h
    . obtain⟨rfl,hlt⟩:=zqbr hy;have:=hv (q+j) (by omega) (by omega);rw[Nat.mod_eq_of_lt hlt]at this;exact .inr (.inr (by rw[Int.toNat_natCast];exact this))
  . have e3:zq1e N most ((upto N).drop q) s=s:=zq4a _ λy hy=>by
     obtain⟨j,hj⟩:=List.mem_iff_getElem?.1 hy;obtain⟨rfl,hlt⟩:=zqbr hj;have:=hv (q+j) (by omega) (by omega);rw[Nat.mod_eq_of_lt hlt]at this;exact .inr (.inr (by rw[Int.toNat_natCast];exact this))
    rw[e3]at h;cases f with
    |zero=>omega
    |succ f=>
     unfold zq2d at h;rw[if_pos ⟨zqec hxN he,hm⟩]at h;refine⟨by omega,f,x+1,by omega,.inl rfl,?_⟩;rw[e2];rw[zq6k (L:=upto N) (k:=x) (x:=x) (zq4d hxN) (λj y hj hy=>?_) hxN he (by omega)]at h
     . exact h
     . have hjN:j<N:=by omega
       rw[zq4d hjN]at hy;cases hy;have key:∃u,r<=u/\u<v/\u % N=j:=by
        by_cases hvN:v<N
        . have:x=v:=by rw[hx,Nat.mod_eq_of_lt hvN]
          refine⟨j,by omega,by omega,Nat.mod_eq_of_lt hjN⟩
        . have hdiv:v=N*(v / N)+x:=by rw[hx];exact(Nat.div_add_mod v N).symm
          have h1:1<=v / N:=(Nat.le_div_iff_mul_le hN).2 (by omega);have h2:N*1<=N*(v / N):=Nat.mul_le_mul_left N h1;refine⟨N*(v / N)+j,by omega,by omega,?_⟩;rw[Nat.mul_add_mod,Nat.mod_eq_of_lt hjN]
       obtain⟨u,h1,h2,h3⟩:=key;have:=hv u h1 h2;rw[h3]at this;exact .inr (.inr (by rw[Int.toNat_natCast];exact this))#print axioms zq90
end
structure RTh where
 at':Nat
 pc:Nat
 n:Nat->Int
 ans:List Ans
 en:Bool
def RTh.z:RTh:=⟨0,0,λ_=>0,[],false⟩
def RTh.fin (t:RTh)(a:Ans):RTh:={t with ans:=t.ans++[a],at':=t.at'+1,pc:=0}
structure RM(S1:Type)where
 bg:Nat->OpX->S1->RTh->S1×RTh
 stp:Nat->OpX->S1->RTh->S1×RTh
def zq4c{S:Type}(p:Proc S Unit):Tree S Unit:=.step (λs=>(p s).1) (λs=>(p s).2)
section
variable {S1:Type}
def zq14(M:RM S1)(i:Nat)(ops:List OpX):Nat->S1×RTh->S1×RTh
 |0,x=>x
 |f+1,x=>if x.2.pc=0 then(match ops[x.2.at']? with|some op=>zq14 M i ops f (M.bg i op x.1 x.2)|none=>x)else x
def sealG(ops:List OpX)(x:S1×RTh):S1×RTh:=(x.1,{x.2 with en:=decide (ops.length<=x.2.at')})
def setlG(M:RM S1)(i:Nat)(ops:List OpX)(x:S1×RTh):S1×RTh:=sealG ops (zq14 M i ops (ops.length+1) x)
def restG(dop:Nat->OpX->Proc (S1×(Nat->List Ans)) Ans)(i:Nat)(ops:List OpX)(at':Nat)(a:Ans):Proc (S1×(Nat->List Ans)) Unit:=(pushP i a).bind λ_=>opsP i (dop i) (ops.drop (at'+1))
def treeG(dop:Nat->OpX->Proc (S1×(Nat->List Ans)) Ans)(cont:Nat->OpX->RTh->Proc (S1×(Nat->List Ans)) Ans)(i:Nat)(ops:List OpX)(t:RTh):Tree (S1×(Nat->List Ans)) Unit:=if t.pc=0 then .ret ()else match ops[t.at']? with
 |some op=>zq4c ((cont i op t).bind (restG dop i ops t.at'))
 |none=>.ret ()
structure OkG(Ok:Nat->OpX->RTh->Prop)(i:Nat)(ops:List OpX)(t:RTh):Prop where
 on:t.pc≠0->∃op,ops[t.at']?=some op/\Ok i op t
 off:t.pc=0->ops.length<=t.at'
 en:t.en=decide (ops.length<=t.at')
theorem OkG.en' {Ok:Nat->OpX->RTh->Prop}{i:Nat}{ops:List OpX}{t:RTh}(h:OkG Ok i ops t):t.en=decide (t.pc=0):=by
 rw[h.en]
 by_cases hp:t.pc=0
 . simp[hp,h.off hp]
 . obtain⟨op,ho,_⟩:=h.on hp;have:=(List.getElem?_eq_some_iff.1 ho).1;simp[hp,this]
theorem zq5m{α:Type}(f:Nat->α)(i:Nat):upd' f i (f i)=f:=funext λj=>by
 by_cases h:j=i
 . subst h;simp
 . rw[zqd _ _ h]
theorem zqbq{α:Type}(f:Nat->α)(i:Nat)(x y:α):upd' (upd' f i x) i y=upd' f i y:=funext λj=>by
 by_cases h:j=i
 . subst h;simp
 . rw[zqd _ _ h,zqd _ _ h,zqd _ _ h]
variable {M:RM S1} {dop:Nat->OpX->Proc (S1×(Nat->List Ans)) Ans} {Ok:Nat->OpX->RTh->Prop} {cont:Nat->OpX->RTh->Proc (S1×(Nat->List Ans)) Ans} {i:Nat} {ops:List OpX}
theorem zqbp{i:Nat}{ops:List OpX}{t:RTh}(b:Bool)(hc:∀i op t b,cont i op {t with en:=b}=cont i op t):treeG dop cont i ops {t with en:=b}=treeG dop cont i ops t:=by
 unfold treeG;simp only[hc]
theorem zq2e{f:Nat}{x:S1×RTh}(h:x.2.pc≠0):zq14 M i ops f x=x:=by
 cases f with
 |zero=>rfl
 |succ f=>unfold zq14;rw[if_neg h]
theorem zq5d{f:Nat}{C:S1}{t:RTh}{op:OpX}(hp:t.pc=0)(ho:ops[t.at']?=some op):zq14 M i ops (f+1) (C,t)=zq14 M i ops f (M.bg i op C t):=by
 show(if t.pc=0 then _ else _)=_;rw[if_pos hp];simp only[ho]
structure RelG(dop:Nat->OpX->Proc (S1×(Nat->List Ans)) Ans)(cont:Nat->OpX->RTh->Proc (S1×(Nat->List Ans)) Ans)(Ok:Nat->OpX->RTh->Prop)(n:Nat)(ops:Nat->List OpX)(a:TSt (S1×(Nat->List Ans)))(C:S1)(T:Nat->RTh):Prop where
 c:a.s.1=C
 ans:∀i,a.s.2 i=(T i).ans
 thr:∀i,i<n->a.t i=treeG dop cont i (ops i) (T i)/\a.ov i=(T i).en/\OkG Ok i (ops i) (T i)
 un:∀i,n<=i->T i=RTh.z/\a.ov i=false
variable {n N:Nat} {ops':Nat->List OpX} {a:TSt (S1×(Nat->List Ans))} {C C₀:S1} {T:Nat->RTh}
theorem zqly{t:RTh}(h:OkG Ok i ops t):(treeG dop cont i ops t).isRet=t.en:=by
 rw[h.en'];unfold treeG
 by_cases hp:t.pc=0
 . rw[if_pos hp];simp[hp,Tree.isRet]
 . rw[if_neg hp];obtain⟨o,ho,_⟩:=h.on hp;simp only[ho];simp[zq4c,Tree.isRet,hp]
theorem RelG.turn (h:RelG dop cont Ok n ops' a C T)(hi:i<=n){C':S1}{t':RTh}{ord':List Nat}(hok:OkG Ok i (ops' i) t')(hov:a.ov i=false):
 RelG dop cont Ok (max n (i+1)) ops' (turnT i ((C',upd' a.s.2 i t'.ans),treeG dop cont i (ops' i) t') a ord') C' (upd' T i t'):=by
 refine⟨rfl,λj=>?_,λj hj=>?_,λj hj=>?_⟩
 . show upd' a.s.2 i t'.ans j=(upd' T i t' j).ans
   by_cases e:j=i
   . subst e;simp
   . rw[zqd _ _ e,zqd _ _ e];exact h.ans j
 . show upd' a.t i (treeG dop cont i (ops' i) t') j=treeG dop cont j (ops' j) (upd' T i t' j)/\(if(treeG dop cont i (ops' i) t').isRet then(λj=>if j=i then true else a.ov j)else a.ov) j=(upd' T i t' j).en/\OkG Ok j (ops' j) (upd' T i t' j);rw[zqly hok]
   by_cases e:j=i
   . subst e;rw[upd'_same,upd'_same];refine⟨rfl,?_,hok⟩;cases hp:t'.en with
     |true=>simp
     |false=>simp[hov]
   . rw[zqd _ _ e,zqd _ _ e];obtain⟨k1,k2,k3⟩:=h.thr j (by omega);refine⟨k1,?_,k3⟩;rw[<-k2];split
     . simp[e]
     . rfl
 . show upd' T i t' j=RTh.z/\(if(treeG dop cont i (ops' i) t').isRet then(λj=>if j=i then true else a.ov j)else a.ov) j=false;have e:j≠i:=by omega
   rw[zqd _ _ e];obtain⟨k1,k2⟩:=h.un j (by omega);refine⟨k1,?_⟩;split
   . simp[e,k2]
   . exact k2
theorem RelG.zero (dop:Nat->OpX->Proc (S1×(Nat->List Ans)) Ans)(cont:Nat->OpX->RTh->Proc (S1×(Nat->List Ans)) Ans)(Ok:Nat->OpX->RTh->Prop)(ops:Nat->List OpX)(pr:Nat->Proc (S1×(Nat->List Ans)) Unit)(C:S1):RelG dop cont Ok 0 ops (zq16 pr (C,λ_=>[]) 0) C (λ_=>RTh.z):=
 ⟨rfl,λ_=>rfl,λi hi=>absurd hi (Nat.not_lt_zero _),λi _=>⟨rfl,rfl⟩⟩
end
section
variable {S1:Type}
structure RLawQ(M:RM S1)(dop:Nat->OpX->Proc (S1×(Nat->List Ans)) Ans)(Ok:Nat->OpX->RTh->Prop)(cont:Nat->OpX->RTh->Proc (S1×(Nat->List Ans)) Ans)(Q:Nat->S1->RTh->Prop)(L:Nat):Prop where
 begin:∀(i:Nat)(op:OpX)(C:S1)(A:Nat->List Ans)(t:RTh),t.pc=0->t.at'<L->Q i C t->
  (∃a C',M.bg i op C t=(C',t.fin a)/\Q i C' (t.fin a)/\dop i op (C,A)=((C',A),.ret a))\/
  (∃C' t',M.bg i op C t=(C',t')/\t'.pc≠0/\t'.at'=t.at'/\t'.ans=t.ans/\Ok i op t'/\Q i C' t'/\dop i op (C,A)=((C',A),.step (λs=>(cont i op t' s).1) (λs=>(cont i op t' s).2)))
 step:∀(i:Nat)(op:OpX)(C:S1)(A:Nat->List Ans)(t:RTh),t.pc≠0->t.at'<L->Ok i op t->Q i C t->
  (∃t1 a,(M.stp i op C t).2=RTh.fin t1 a/\t1.at'=t.at'/\t1.ans=t.ans/\Q i (M.stp i op C t).1 (t1.fin a)/\cont i op t (C,A)=(((M.stp i op C t).1,A),.ret a))\/
  ((M.stp i op C t).2.pc≠0/\(M.stp i op C t).2.at'=t.at'/\(M.stp i op C t).2.ans=t.ans/\Ok i op (M.stp i op C t).2/\Q i (M.stp i op C t).1 (M.stp i op C t).2/\
    cont i op t (C,A)=(((M.stp i op C t).1,A),.step (λs=>(cont i op (M.stp i op C t).2 s).1) (λs=>(cont i op (M.stp i op C t).2 s).2)))
 other:∀(i j:Nat)(op:OpX)(C:S1)(t u:RTh),j≠i->Q j C u->Q j (M.bg i op C t).1 u/\Q j (M.stp i op C t).1 u
 en:∀(i:Nat)(C:S1)(t:RTh)(b:Bool),Q i C t->Q i C {t with en:=b}
 okE:∀(i:Nat)(op:OpX)(t:RTh)(b:Bool),Ok i op t->Ok i op {t with en:=b}
 cE:∀(i:Nat)(op:OpX)(t:RTh)(b:Bool),cont i op {t with en:=b}=cont i op t
variable {M:RM S1} {dop:Nat->OpX->Proc (S1×(Nat->List Ans)) Ans} {Ok:Nat->OpX->RTh->Prop} {cont:Nat->OpX->RTh->Proc (S1×(Nat->List Ans)) Ans} {Q:Nat->S1->RTh->Prop} {L:Nat} {i:Nat} {ops:List OpX}
theorem zq6d{f:Nat}{C:S1}{t:RTh}(hpc:t.pc=0):zq14 M i ops (f+1) (C,t)=(match ops[t.at']? with|some op=>zq14 M i ops f (M.bg i op C t)|none=>(C,t)):=by
 show(if t.pc=0 then _ else _)=_;refine(if_pos hpc).trans ?_;rfl
theorem zq9j(hl:RLawQ M dop Ok cont Q L)(hL:ops.length<=L):∀(f:Nat)(t:RTh)(C:S1)(A:Nat->List Ans),t.pc=0->Q i C t->ops.length<f+t.at'->A i=t.ans->
 (opsP i (dop i) (ops.drop t.at')) (C,A)=(((zq14 M i ops f (C,t)).1,upd' A i (zq14 M i ops f (C,t)).2.ans),treeG dop cont i ops (zq14 M i ops f (C,t)).2):=by
 intro f
 induction f with
 |zero=>
  intro t C A hpc hQ hf hA;rw[List.drop_eq_nil_of_le (by omega)];show((C,A),Tree.ret ())=((C,upd' A i t.ans),treeG dop cont i ops t);rw[<-hA,zq5m];unfold treeG;rw[if_pos hpc]
 |succ f ih=>
  intro t C A hpc hQ hf hA;rw[zq6d hpc];cases hop:ops[t.at']? with
  |none=>
   have hge:ops.length<=t.at':=List.getElem?_eq_none_iff.1 hop;rw[List.drop_eq_nil_of_le hge];show((C,A),Tree.ret ())=((C,upd' A i t.ans),treeG dop cont i ops t);rw[<-hA,zq5m];unfold treeG;rw[if_pos hpc]
  |some op=>
   have hlt:=(List.getElem?_eq_some_iff.1 hop).1;have hdrop:ops.drop t.at'=op::ops.drop (t.at'+1):=by rw[List.drop_eq_getElem_cons hlt,(List.getElem?_eq_some_iff.1 hop).2]
   rw[hdrop,opsP];simp only;rcases hl.begin i op C A t hpc (by omega) hQ with⟨a,C',h1,hq,h2⟩|⟨C',t',h1,h2,h3,h4,h5,hq,h6⟩
   . rw[h1];have e:((dop i op).bind λa=>(pushP i a).bind λ_=>opsP i (dop i) (ops.drop (t.at'+1))) (C,A)=opsP i (dop i) (ops.drop (t.at'+1)) (C',upd' A i (A i++[a])):=by
      unfold Proc.bind;rw[h2];rfl
     have:=ih (t.fin a) C' (upd' A i (A i++[a])) rfl hq (by show ops.length<f+(t.at'+1);omega) (by rw[upd'_same,hA];rfl);rw[zqbq]at this;exact e.trans this
   . rw[h1,zq2e h2];have e:((dop i op).bind λa=>(pushP i a).bind λ_=>opsP i (dop i) (ops.drop (t.at'+1))) (C,A)=((C',A),zq4c ((cont i op t').bind (restG dop i ops t.at'))):=by
      unfold Proc.bind;rw[h6];rfl
     rw[e];simp only;rw[h4,<-hA,zq5m];unfold treeG;rw[if_neg h2,h3];simp only[hop]
theorem zqgm(hl:RLawQ M dop Ok cont Q L)(hL:ops.length<=L):∀(f:Nat)(t:RTh)(C:S1),(t.pc≠0->∃op,ops[t.at']?=some op/\Ok i op t)->Q i C t->ops.length<f+t.at'->
 ((zq14 M i ops f (C,t)).2.pc≠0->∃op,ops[(zq14 M i ops f (C,t)).2.at']?=some op/\Ok i op (zq14 M i ops f (C,t)).2)/\((zq14 M i ops f (C,t)).2.pc=0->ops.length<=(zq14 M i ops f (C,t)).2.at')/\Q i (zq14 M i ops f (C,t)).1 (zq14 M i ops f (C,t)).2:=by
 intro f
 induction f with
 |zero=>exact λt C h hQ hf=>⟨h,λ_=>by show ops.length<=t.at';omega,hQ⟩
 |succ f ih=>
  intro t C h hQ hf
  by_cases hpc:t.pc=0
  . rw[zq6d hpc];cases hop:ops[t.at']? with
    |none=>exact⟨h,λ_=>List.getElem?_eq_none_iff.1 hop,hQ⟩
    |some op=>
     simp only;have hlt:=(List.getElem?_eq_some_iff.1 hop).1;rcases hl.begin i op C (λ_=>[]) t hpc (by omega) hQ with⟨a,C',h1,hq,h2⟩|⟨C',t',h1,h2,h3,h4,h5,hq,h6⟩
     . rw[h1];exact ih (t.fin a) C' (λhp=>absurd rfl hp) hq (by show ops.length<f+(t.at'+1);omega)
     . rw[h1,zq2e h2];exact⟨λ_=>⟨op,by rw[h3];exact hop,h5⟩,λhp=>absurd hp h2,hq⟩
  . rw[zq2e hpc];exact⟨h,λhp=>absurd hp hpc,hQ⟩
theorem zqgn(hl:RLawQ M dop Ok cont Q L){j:Nat}{u:RTh}(hj:j≠i):∀(f:Nat)(x:S1×RTh),Q j x.1 u->Q j (zq14 M i ops f x).1 u:=by
 intro f
 induction f with
 |zero=>exact λx h=>h
 |succ f ih=>
  rintro⟨C,t⟩ h
  by_cases hpc:t.pc=0
  . rw[zq6d hpc];cases hop:ops[t.at']? with
    |none=>exact h
    |some op=>exact ih _ (hl.other i j op C t u hj h).1
  . rw[zq2e hpc];exact h
structure RelQ(dop:Nat->OpX->Proc (S1×(Nat->List Ans)) Ans)(cont:Nat->OpX->RTh->Proc (S1×(Nat->List Ans)) Ans)(Ok:Nat->OpX->RTh->Prop)(Q:Nat->S1->RTh->Prop)(n:Nat)(ops:Nat->List OpX)(a:TSt (S1×(Nat->List Ans)))(C:S1)(T:Nat->RTh):Prop where
 rel:RelG dop cont Ok n ops a C T
 q:∀i,Q i C (T i)
variable {n N:Nat} {ops':Nat->List OpX} {a:TSt (S1×(Nat->List Ans))} {C C₀:S1} {T:Nat->RTh}
theorem RelQ.zero (dop:Nat->OpX->Proc (S1×(Nat->List Ans)) Ans)(cont:Nat->OpX->RTh->Proc (S1×(Nat->List Ans)) Ans)(Ok:Nat->OpX->RTh->Prop){Q:Nat->S1->RTh->Prop}(ops:Nat->List OpX)(pr:Nat->Proc (S1×(Nat->List Ans)) Unit)(C:S1)(hq:∀i,Q i C RTh.z):RelQ dop cont Ok Q 0 ops (zq16 pr (C,λ_=>[]) 0) C (λ_=>RTh.z):=
 ⟨RelG.zero dop cont Ok ops pr C,hq⟩
theorem zq6c(hl:RLawQ M dop Ok cont Q L)(hL:ops.length<=L)(t:RTh)(C:S1)(h:t.pc≠0->∃op,ops[t.at']?=some op/\Ok i op t)(hQ:Q i C t):OkG Ok i ops (setlG M i ops (C,t)).2/\Q i (setlG M i ops (C,t)).1 (setlG M i ops (C,t)).2:=by
 obtain⟨h1,h2,h3⟩:=zqgm (ops:=ops) (i:=i) hl hL (ops.length+1) t C h hQ (by omega);exact⟨⟨λhp=>by obtain⟨op,k1,k2⟩:=h1 hp;exact⟨op,k1,hl.okE _ _ _ _ k2⟩,h2,rfl⟩,hl.en _ _ _ _ h3⟩
theorem zq9i(hl:RLawQ M dop Ok cont Q L){j:Nat}{u:RTh}(hj:j≠i)(x:S1×RTh)(h:Q j x.1 u):Q j (setlG M i ops x).1 u:=zqgn hl hj _ _ h
theorem RelQ.begin (hl:RLawQ M dop Ok cont Q L)(hL:∀i,(ops' i).length<=L)
 (h:RelQ dop cont Ok Q n ops' (zq16 (λi=>opsP i (dop i) (ops' i)) (C₀,λ_=>[]) n) C T):
 RelQ dop cont Ok Q (n+1) ops' (zq16 (λi=>opsP i (dop i) (ops' i)) (C₀,λ_=>[]) (n+1)) (setlG M n (ops' n) (C,RTh.z)).1 (upd' T n (setlG M n (ops' n) (C,RTh.z)).2):=by
 have hqn:Q n C RTh.z:=by have:=h.q n;rwa [(h.rel.un n (Nat.le_refl _)).1]at this
 have hs:=zq9j (i:=n) (ops:=ops' n) hl (hL n) ((ops' n).length+1) RTh.z C (zq16 (λi=>opsP i (dop i) (ops' i)) (C₀,λ_=>[]) n).s.2 rfl hqn (by show _<_+1+0;omega) (by rw[h.rel.ans n,(h.rel.un n (Nat.le_refl _)).1]);have hs':opsP n (dop n) (ops' n) (zq16 (λi=>opsP i (dop i) (ops' i)) (C₀,λ_=>[]) n).s=(((setlG M n (ops' n) (C,RTh.z)).1,upd' (zq16 (λi=>opsP i (dop i) (ops' i)) (C₀,λ_=>[]) n).s.2 n (setlG M n (ops' n) (C,RTh.z)).2.ans),treeG dop cont n (ops' n) (setlG M n (ops' n) (C,RTh.z)).2):=by
  have e:(zq16 (λi=>opsP i (dop i) (ops' i)) (C₀,λ_=>[]) n).s=(C,(zq16 (λi=>opsP i (dop i) (ops' i)) (C₀,λ_=>[]) n).s.2):=Prod.ext h.rel.c rfl;unfold setlG sealG;simp only;rw[zqbp _ hl.cE];refine(congrArg _ e).trans ?_;exact hs
 obtain⟨ho,hq⟩:=zq6c (ops:=ops' n) (i:=n) hl (hL n) RTh.z C (λhp=>absurd rfl hp) hqn;refine⟨?_,λj=>?_⟩
 . show RelG dop cont Ok (n+1) ops' (turnT n (opsP n (dop n) (ops' n) (zq16 (λi=>opsP i (dop i) (ops' i)) (C₀,λ_=>[]) n).s) _ _) _ _;rw[hs'];have:=h.rel.turn (i:=n) (Nat.le_refl n) (C':=(setlG M n (ops' n) (C,RTh.z)).1) (t':=(setlG M n (ops' n) (C,RTh.z)).2) (ord':=(zq16 (λi=>opsP i (dop i) (ops' i)) (C₀,λ_=>[]) n).ord) ho (h.rel.un n (Nat.le_refl _)).2
   rwa [show max n (n+1)=n+1 by omega]at this
 . by_cases e:j=n
   . subst e;rw[upd'_same];exact hq
   . rw[zqd _ _ e];exact zq9i hl e _ (h.q j)
theorem RelQ.step (hl:RLawQ M dop Ok cont Q L)(hL:∀i,(ops' i).length<=L)(h:RelQ dop cont Ok Q N ops' a C T){x:Nat}(hx:x<N)(he:(T x).en=false){ord':List Nat}:
 ∃op,(ops' x)[(T x).at']?=some op/\(T x).pc≠0/\Ok x op (T x)/\
  RelQ dop cont Ok Q N ops' (turnT x (goT (a.t x) a.s) a ord') (setlG M x (ops' x) (M.stp x op C (T x))).1 (upd' T x (setlG M x (ops' x) (M.stp x op C (T x))).2):=by
 obtain⟨k1,k2,k3⟩:=h.rel.thr x hx;have hp:(T x).pc≠0:=λhp=>by rw[k3.en',hp]at he;simp at he
 obtain⟨op,hop,ho⟩:=k3.on hp;refine⟨op,hop,hp,ho,?_⟩;have hQ:=h.q x;have hlt:(T x).at'<L:=Nat.lt_of_lt_of_le (List.getElem?_eq_some_iff.1 hop).1 (hL x);have hgo:goT (a.t x) a.s=(((setlG M x (ops' x) (M.stp x op C (T x))).1,upd' a.s.2 x (setlG M x (ops' x) (M.stp x op C (T x))).2.ans),treeG dop cont x (ops' x) (setlG M x (ops' x) (M.stp x op C (T x))).2):=by
  rw[k1];have e0:treeG dop cont x (ops' x) (T x)=zq4c ((cont x op (T x)).bind (restG dop x (ops' x) (T x).at')):=by
   unfold treeG;rw[if_neg hp];simp only[hop]
  rw[e0];have e:a.s=(C,a.s.2):=Prod.ext h.rel.c rfl;show((cont x op (T x)).bind (restG dop x (ops' x) (T x).at')) a.s=_;rw[e];unfold setlG sealG;simp only;rw[zqbp _ hl.cE];rcases hl.step x op C a.s.2 (T x) hp hlt ho hQ with⟨t1,b,h1,h2,h3,hq,h4⟩|⟨h1,h2,h3,h4,hq,h5⟩
  . have e2:((cont x op (T x)).bind (restG dop x (ops' x) (T x).at')) (C,a.s.2)=opsP x (dop x) ((ops' x).drop ((T x).at'+1)) ((M.stp x op C (T x)).1,upd' a.s.2 x (a.s.2 x++[b])):=by
     unfold Proc.bind;rw[h4];rfl
    rw[e2];have e3:M.stp x op C (T x)=((M.stp x op C (T x)).1,t1.fin b):=Prod.ext rfl h1;have:=zq9j (i:=x) (ops:=ops' x) hl (hL x) ((ops' x).length+1) (t1.fin b) (M.stp x op C (T x)).1 (upd' a.s.2 x (a.s.2 x++[b])) rfl hq (by show _<_+1+_;omega) (by rw[upd'_same,h.rel.ans x,<-h3];rfl);rw[zqbq]at this;have e4:(t1.fin b).at'=(T x).at'+1:=by show t1.at'+1=_;rw[h2]
    rw[e4,<-e3]at this;exact this
  . rw[zq2e h1];have e2:((cont x op (T x)).bind (restG dop x (ops' x) (T x).at')) (C,a.s.2)=(((M.stp x op C (T x)).1,a.s.2),zq4c ((cont x op (M.stp x op C (T x)).2).bind (restG dop x (ops' x) (T x).at'))):=by
     unfold Proc.bind;rw[h5];rfl
    rw[e2,h3,<-h.rel.ans x,zq5m];unfold treeG;rw[if_neg h1,h2];simp only[hop]
 rw[hgo];have e3:M.stp x op C (T x)=((M.stp x op C (T x)).1,(M.stp x op C (T x)).2):=rfl;have hok:OkG Ok x (ops' x) (setlG M x (ops' x) (M.stp x op C (T x))).2/\Q x (setlG M x (ops' x) (M.stp x op C (T x))).1 (setlG M x (ops' x) (M.stp x op C (T x))).2:=by
  rw[e3];rcases hl.step x op C a.s.2 (T x) hp hlt ho hQ with⟨t1,b,h1,h2,h3,hq,h4⟩|⟨h1,h2,h3,h4,hq,h5⟩
  . refine zq6c hl (hL x) _ _ (λhq=>?_) (by rw[h1];exact hq);rw[h1]at hq;exact absurd rfl hq
  . exact zq6c hl (hL x) _ _ (λ_=>⟨op,by rw[h2];exact hop,h4⟩) hq
 refine⟨?_,λj=>?_⟩
 . have:=h.rel.turn (i:=x) (Nat.le_of_lt hx) (C':=(setlG M x (ops' x) (M.stp x op C (T x))).1) (t':=(setlG M x (ops' x) (M.stp x op C (T x))).2) (ord':=ord') hok.1 (by rw[k2];exact he)
   rwa [show max N (x+1)=N by omega]at this
 . by_cases e:j=x
   . subst e;rw[upd'_same];exact hok.2
   . rw[zqd _ _ e];exact zq9i hl e _ (hl.other x j op C (T x) (T j) e (h.q j)).2
end
end Go.Car
namespace Go.Proofs
open Go Go.Conc Go.RowKit Go.Car
def epBg(i:Nat)(op:OpX)(C:EpS)(t:RTh):EpS×RTh:=
 if op.k<1\/5<op.k then(C,t.fin Ans.none)
 else if(op.k=1/\C.ins i=true)\/(op.k=2/\C.ins i=false)then(C,t.fin Ans.none)
 else if op.k=2 then(C.putI i false,{t with pc:=1,n:=λ_=>0})
 else(C,{t with pc:=1,n:=λ_=>0})
def oldsE(i:Nat)(C:EpS):List Int:=((C.th i).filter (oldT C.e)).map Prod.fst
def zq3f(i:Nat)(C:EpS)(t:RTh):EpS×RTh:=
 if t.pc=1 then(C,{t with pc:=2,n:=upd' t.n 0 C.e})
 else((C.putM i (wrap64 (t.n 0+1))).putI i true,t.fin ⟨true,t.n 0,[]⟩)
def epAdv(N:Nat)(C:EpS)(t:RTh):EpS×RTh:=
 if t.pc=1 then(C,{t with pc:=2,n:=upd' t.n 0 C.e})
 else if t.pc=2 then
  let m:=C.mark (t.n 1).toNat
  let t1:RTh:={t with n:=upd' t.n 1 (t.n 1+1)}
  if m≠0/\m≠wrap64 (t.n 0+1)then(C,t1.fin ⟨true,0,[]⟩)
  else if t.n 1+1=(N:Int)then(C,{t1 with pc:=3})else(C,t1)
 else if C.e=t.n 0 then(C.putE (wrap64 (t.n 0+1)),t.fin ⟨true,1,[]⟩)else(C,t.fin ⟨true,0,[]⟩)
def zq3s(i:Nat)(C:EpS)(t:RTh):EpS×RTh:=(C.putT i ((C.th i).filter λt=>!oldT C.e t),t.fin ⟨true,0,oldsE i C⟩)
def epStp(N i:Nat)(op:OpX)(C:EpS)(t:RTh):EpS×RTh:=
 if op.k=1 then zq3f i C t
 else if op.k=2 then(C.putM i 0,t.fin ⟨true,0,[]⟩)
 else if op.k=3 then(C.putT i (C.th i++[(op.a,C.e)]),t.fin ⟨true,C.e,[]⟩)
 else if op.k=4 then epAdv N C t
 else zq3s i C t
def epR(N:Nat):RM EpS:=⟨epBg,epStp N⟩
abbrev SE:=EpS×(Nat->List Ans)
def aE(x:Int×Int):Proc SE Ans:=Proc.ret ⟨x.2==0,x.1,[]⟩
def aB(x:Bool×Int):Proc SE Ans:=Proc.ret ⟨x.2==0,if x.1=true then 1 else 0,[]⟩
def aL'(x:Int):Proc SE Ans:=Proc.ret ⟨x==0,0,[]⟩
def aC(l:List Int):Proc SE Ans:=Proc.ret ⟨true,0,l⟩
def cEnt(i:Nat)(e:Int):Proc SE (Int×Int):=(onE (zq4b i (wrap64 (e+1)))).bind λ_=>(onE (setI i true)).bind λ_=>Proc.ret (e,0)
def cRet(i:Nat)(a e:Int):Proc SE (Int×Int):=(onE (pushT i (a,e))).bind λb=>if b=true then Proc.ret (e,0)else Proc.out
def cAdv(N:Nat)(e:Int)(r:Nat)(m:Int):Proc SE (Bool×Int):=if m≠0/\m≠wrap64 (e+1)then Proc.ret (false,0)else advL N e r
def epC(N i:Nat)(op:OpX)(t:RTh):Proc SE Ans:=
 if op.k=1 then(if t.pc=1 then((onE loadE).bind λe=>Proc.tick.bind λ_=>cEnt i e).bind aE else(cEnt i (t.n 0)).bind aE)
 else if op.k=2 then((onE (zq4b i 0)).bind λ_=>Proc.ret 0).bind aL'
 else if op.k=3 then((onE loadE).bind λe=>cRet i op.a e).bind aE
 else if op.k=4 then(if t.pc=1 then((onE loadE).bind λe=>advL N e N).bind aB
  else if t.pc=2 then((onE (loadM (t.n 1).toNat)).bind λm=>cAdv N (t.n 0) (N - (t.n 1).toNat - 1) m).bind aB
  else((onE (casE (t.n 0) (wrap64 (t.n 0+1)))).bind λb=>Proc.ret (b,0)).bind aB)
 else((onE loadE).bind λe=>(onE (takeT i e)).bind λl=>Proc.ret l).bind aC
structure OkE(N:Nat)(op:OpX)(t:RTh):Prop where
 good:1<=op.k/\op.k<=5
 k1:op.k=1->t.pc=1\/t.pc=2
 ko:op.k=2\/op.k=3\/op.k=5->t.pc=1
 k4:op.k=4->(t.pc=1/\t.n 1=0)\/(t.pc=2/\0<=t.n 1/\t.n 1<N)\/t.pc=3
def QE(i:Nat)(C:EpS)(t:RTh):Prop:=(C.th i).length<=t.at'
section
variable {N:Nat}
theorem epBegin(hN:0<N){i:Nat}{op:OpX}{C:EpS}{A:Nat->List Ans}{t:RTh}(h0:t.pc=0)(hq:QE i C t):
 (∃a C',epBg i op C t=(C',t.fin a)/\QE i C' (t.fin a)/\(opE N i op:Proc SE Ans) (C,A)=((C',A),.ret a))\/
 (∃C' t',epBg i op C t=(C',t')/\t'.pc≠0/\t'.at'=t.at'/\t'.ans=t.ans/\OkE N op t'/\QE i C' t'/\(opE N i op:Proc SE Ans) (C,A)=((C',A),.step (λs=>(epC N i op t' s).1) (λs=>(epC N i op t' s).2))):=by
 have hq1:∀a,QE i C (t.fin a):=λa=>Nat.le_succ_of_le hq;unfold epBg
 by_cases hg:op.k<1\/5<op.k
 . rw[if_pos hg];refine .inl ⟨_,_,rfl,hq1 _,?_⟩;unfold opE;rw[if_neg (by omega),if_neg (by omega),if_neg (by omega),if_neg (by omega),if_neg (by omega)];rfl
 rw[if_neg hg];have hgo:1<=op.k/\op.k<=5:=by omega
 by_cases h1:op.k=1
 . by_cases hi:C.ins i=true
   . rw[if_pos (.inl ⟨h1,hi⟩)];refine .inl ⟨_,_,rfl,hq1 _,?_⟩;unfold opE zq2i;rw[if_pos h1];show((if C.ins i=true then _ else _:Proc SE (Int×Int)).bind _) (C,A)=_;rw[if_pos hi];rfl
   . rw[if_neg (by rintro(⟨_,h⟩|⟨h,_⟩);exact hi h;omega),if_neg (by omega)];refine .inr ⟨_,_,rfl,Nat.succ_ne_zero _,rfl,rfl,⟨hgo,λ_=>.inl rfl,λh=>by omega,λh=>by omega⟩,hq,?_⟩;unfold opE zq2i epC;rw[if_pos h1];show((if C.ins i=true then _ else _:Proc SE (Int×Int)).bind _) (C,A)=_;rw[if_neg hi];simp only[h1,if_true];rfl
 by_cases h2:op.k=2
 . by_cases hi:C.ins i=true
   . rw[if_neg (by rintro(⟨h,_⟩|⟨_,h⟩);exact h1 h;rw[hi]at h;cases h),if_pos h2];refine .inr ⟨_,_,rfl,Nat.succ_ne_zero _,rfl,rfl,⟨hgo,λh=>by omega,λ_=>rfl,λh=>by omega⟩,hq,?_⟩;unfold opE zq2k epC;rw[if_neg h1,if_pos h2];show((if C.ins i=true then _ else _:Proc SE Int).bind _) (C,A)=_;rw[if_pos hi];simp only[h1,h2,if_true,if_false];rfl
   . have hi':C.ins i=false:=by simpa using hi
     rw[if_pos (.inr ⟨h2,hi'⟩)];refine .inl ⟨_,_,rfl,hq1 _,?_⟩;unfold opE zq2k;rw[if_neg h1,if_pos h2];show((if C.ins i=true then _ else _:Proc SE Int).bind _) (C,A)=_;rw[if_neg hi];rfl
 rw[if_neg (by rintro(⟨h,_⟩|⟨h,_⟩);exact h1 h;exact h2 h),if_neg h2];refine .inr ⟨_,_,rfl,Nat.succ_ne_zero _,rfl,rfl,⟨hgo,λh=>absurd h h1,λ_=>rfl,λ_=>.inl ⟨rfl,rfl⟩⟩,hq,?_⟩;unfold opE epC;rw[if_neg h1,if_neg h2]
 by_cases h3:op.k=3
 . rw[if_pos h3];simp only[h1,h2,h3,if_true,if_false];rfl
 rw[if_neg h3]
 by_cases h4:op.k=4
 . rw[if_pos h4];simp only[h1,h2,h3,h4,if_true,if_false];rfl
 rw[if_neg h4,if_pos (by omega)];simp only[h1,h2,h3,h4,if_true,if_false];rfl
theorem filt_le{α:Type}(p:α->Bool)(l:List α):(l.filter p).length<=l.length:=List.length_filter_le p l
theorem epStep(hN:0<N){i:Nat}{op:OpX}{C:EpS}{A:Nat->List Ans}{t:RTh}(hp:t.pc≠0)(hat:t.at'<65536)(hO:OkE N op t)(hq:QE i C t):
 (∃t1 a,(epStp N i op C t).2=RTh.fin t1 a/\t1.at'=t.at'/\t1.ans=t.ans/\QE i (epStp N i op C t).1 (t1.fin a)/\epC N i op t (C,A)=(((epStp N i op C t).1,A),.ret a))\/
 ((epStp N i op C t).2.pc≠0/\(epStp N i op C t).2.at'=t.at'/\(epStp N i op C t).2.ans=t.ans/\OkE N op (epStp N i op C t).2/\QE i (epStp N i op C t).1 (epStp N i op C t).2/\
   epC N i op t (C,A)=(((epStp N i op C t).1,A),.step (λs=>(epC N i op (epStp N i op C t).2 s).1) (λs=>(epC N i op (epStp N i op C t).2 s).2))):=by
 have hg:=hO.good;unfold epStp
 by_cases h1:op.k=1
 . rw[if_pos h1];unfold zq3f;rcases hO.k1 h1 with e|e
   . rw[if_pos e];refine .inr ⟨Nat.succ_ne_zero _,rfl,rfl,⟨hg,λ_=>.inr rfl,λh=>by omega,λh=>by omega⟩,hq,?_⟩;unfold epC;simp only[h1,e,if_true];rfl
   . rw[if_neg (by omega)];refine .inl ⟨t,_,rfl,rfl,rfl,Nat.le_succ_of_le hq,?_⟩;unfold epC;simp only[h1,e,if_true];rfl
 rw[if_neg h1]
 by_cases h2:op.k=2
 . rw[if_pos h2];refine .inl ⟨t,_,rfl,rfl,rfl,Nat.le_succ_of_le hq,?_⟩;unfold epC;simp only[h1,h2,if_true,if_false];rfl
 rw[if_neg h2]
 by_cases h3:op.k=3
 . rw[if_pos h3];have hlen:(C.th i).length<mostT:=by have:(C.th i).length<=t.at':=hq;simp only[mostT];omega
   refine .inl ⟨t,_,rfl,rfl,rfl,?_,?_⟩
   . show(upd' C.th i (C.th i++[(op.a,C.e)]) i).length<=t.at'+1;rw[upd'_same,List.length_append];exact Nat.succ_le_succ hq
   . have e:pushT i (op.a,C.e) C=(C.putT i (C.th i++[(op.a,C.e)]),true):=if_pos hlen;unfold epC;simp only[h1,h2,h3,if_true,if_false];show((cRet i op.a C.e).bind aE) (C,A)=_;unfold cRet;show(((if(pushT i (op.a,C.e) C).2=true then Proc.ret (C.e,0)else Proc.out:Proc SE (Int×Int))).bind aE) ((pushT i (op.a,C.e) C).1,A)=_;rw[e];rfl
 rw[if_neg h3]
 by_cases h4:op.k=4
 . rw[if_pos h4];unfold epAdv;rcases hO.k4 h4 with⟨e,e1⟩|⟨e,e1,e2⟩|e
   . rw[if_pos e];refine .inr ⟨Nat.succ_ne_zero _,rfl,rfl,⟨hg,λh=>by omega,λh=>by omega,λ_=>.inr (.inl ⟨rfl,?_⟩)⟩,hq,?_⟩
     . show 0<=upd' t.n 0 C.e 1/\upd' t.n 0 C.e 1<(N:Int);rw[zqd _ _ (by decide),e1];omega
     . obtain⟨m,rfl⟩:∃m,N=m+1:=⟨N - 1,by omega⟩;have ex:(upd' t.n 0 C.e) 1=0:=by rw[zqd _ _ (by decide),e1]
       have ey:(upd' t.n 0 C.e) 0=C.e:=upd'_same _ _ _;unfold epC;simp only[h1,h2,h3,h4,e,if_true,if_false,ex,ey,Int.toNat_zero,Nat.sub_zero,Nat.add_sub_cancel];show((advL (m+1) C.e (m+1)).bind aB) (C,A)=_;unfold advL;rw[Nat.sub_self];rfl
   . rw[if_neg (by omega),if_pos e];have hlt:(t.n 1).toNat<N:=by omega
     simp only;have eC:epC N i op t (C,A)=((cAdv N (t.n 0) (N - (t.n 1).toNat - 1) (C.mark (t.n 1).toNat)).bind aB) (C,A):=by
      unfold epC;simp only[h1,h2,h3,h4,e,if_true,if_false];rfl
     by_cases hm:C.mark (t.n 1).toNat≠0/\C.mark (t.n 1).toNat≠wrap64 (t.n 0+1)
     . rw[if_pos hm];refine .inl ⟨_,_,rfl,rfl,rfl,Nat.le_succ_of_le hq,?_⟩;rw[eC];unfold cAdv;rw[if_pos hm];rfl
     . rw[if_neg hm];have e0:upd' t.n 1 (t.n 1+1) 0=t.n 0:=zqd _ _ (by decide);have e3:upd' t.n 1 (t.n 1+1) 1=t.n 1+1:=upd'_same _ _ _
       by_cases hl:t.n 1+1=(N:Int)
       . rw[if_pos hl];refine .inr ⟨Nat.succ_ne_zero _,rfl,rfl,⟨hg,λh=>by omega,λh=>by omega,λ_=>.inr (.inr rfl)⟩,hq,?_⟩;rw[eC];unfold cAdv;rw[if_neg hm,show N - (t.n 1).toNat - 1=0 by omega];unfold epC advL;simp only[h1,h2,h3,h4,if_true,if_false,e0];rfl
       . rw[if_neg hl];refine .inr ⟨hp,rfl,rfl,⟨hg,λh=>by omega,λh=>by omega,λ_=>.inr (.inl ⟨e,?_⟩)⟩,hq,?_⟩
         . show 0<=upd' t.n 1 (t.n 1+1) 1/\upd' t.n 1 (t.n 1+1) 1<(N:Int);rw[e3];omega
         . obtain⟨m,hm2⟩:∃m,N - (t.n 1).toNat - 1=m+1:=⟨N - (t.n 1).toNat - 2,by omega⟩;rw[eC];unfold cAdv;rw[if_neg hm,hm2];unfold epC advL;have e4:(t.n 1+1).toNat=N - (m+1):=by omega
           have e5:N - (N - (m+1)) - 1=m:=by omega
           simp only[h1,h2,h3,h4,e,if_true,if_false,e0,e3,e4,e5];rfl
   . rw[if_neg (by omega),if_neg (by omega)];have eC:epC N i op t (C,A)=((λb=>(Proc.ret (b,0):Proc SE (Bool×Int)).bind aB) (casE (t.n 0) (wrap64 (t.n 0+1)) C).2) ((casE (t.n 0) (wrap64 (t.n 0+1)) C).1,A):=by
      unfold epC;simp only[h1,h2,h3,h4,e,if_true,if_false];rfl
     by_cases hc:C.e=t.n 0
     . have ec:casE (t.n 0) (wrap64 (t.n 0+1)) C=(C.putE (wrap64 (t.n 0+1)),true):=if_pos hc;rw[if_pos hc];refine .inl ⟨t,_,rfl,rfl,rfl,Nat.le_succ_of_le hq,?_⟩;rw[eC,ec];rfl
     . have ec:casE (t.n 0) (wrap64 (t.n 0+1)) C=(C,false):=if_neg hc;rw[if_neg hc];refine .inl ⟨t,_,rfl,rfl,rfl,Nat.le_succ_of_le hq,?_⟩;rw[eC,ec];rfl
 rw[if_neg h4];unfold zq3s;refine .inl ⟨t,_,rfl,rfl,rfl,?_,?_⟩
 . show(upd' C.th i _ i).length<=t.at'+1;rw[upd'_same];exact Nat.le_succ_of_le (Nat.le_trans (filt_le _ _) hq)
 . unfold epC;simp only[h1,h2,h3,h4,if_true,if_false];rfl
theorem epBg_th{i j:Nat}(hj:j≠i)(op:OpX)(C:EpS)(t:RTh):(epBg i op C t).1.th j=C.th j:=by
 unfold epBg;split
 . rfl
 split
 . rfl
 split<;>rfl
theorem epStp_th{i j:Nat}(hj:j≠i)(op:OpX)(C:EpS)(t:RTh):(epStp N i op C t).1.th j=C.th j:=by
 unfold epStp;split
 . unfold zq3f;split<;>rfl
 split
 . rfl
 split
 . exact zqd _ _ hj
 split
 . unfold epAdv;simp only
   repeat' split
   all_goals rfl
 . exact zqd _ _ hj
theorem epLaw(hN:0<N):RLawQ (epR N) (λi=>opE N i) (λ_=>OkE N) (epC N) QE 65536 where
 begin i op C A t h0 hl hq:=epBegin hN h0 hq
 step i op C A t hp hl hO hq:=epStep hN hp hl hO hq
 other i j op C t u hj h:=⟨by show((epBg i op C t).1.th j).length<=_;rw[epBg_th hj];exact h,by show((epStp N i op C t).1.th j).length<=_;rw[epStp_th hj];exact h⟩
 en i C t b h:=h
 okE i op t b h:=⟨h.good,h.k1,h.ko,h.k4⟩
 cE i op t b:=rfl
end
theorem zq2m{w:World}{B N:Nat}{T:TypeId}{v:Value}{xs:List Value}(h:w.ownsRow B T 1 v N xs):∃p C,v=.slice p N C/\(v.ownBlock=p.map (·.block))/\(0<N->∃g,p=some ⟨g,0,none⟩/\v.ownBlock=some g/\∀i x,xs[i]?=some x->w.cell? ⟨g,i,none⟩=some x):=by
 rcases h.2 with⟨hv,h0⟩|⟨g,cap,cur,hv,hb,hh,h1,h2,h3,h4⟩
 . subst h0;exact⟨none,0,hv,by rw[hv];rfl,λh=>absurd h (Nat.lt_irrefl _)⟩
 . refine⟨_,cap,hv,by rw[hv];rfl,λ_=>⟨g,rfl,by rw[hv];rfl,λi x hx=>?_⟩⟩;rw[zq0 (off:=i) hh];have hi:i<xs.length:=(List.getElem?_eq_some_iff.1 hx).1;have hl:=h.1;rw[<-h4,List.getElem?_take]at hx;split at hx
   . simpa using hx
   . cases hx
theorem zq8y{w:World}{B k n:Nat}{T:TypeId}{v:Value}{xs:List Value}(h:w.ownsRow B T k v n xs):∃p m c,v=.slice p m c:=by
 rcases h.2 with⟨hv,_⟩|⟨g,cap,cur,hv,_⟩
 . exact⟨_,_,_,hv⟩
 . exact⟨_,_,_,hv⟩
theorem zq95{w:World}{B g n cap:Nat}{T:TypeId}{xs:List Value}(h:w.ownsRow B T 1 (.slice (some ⟨g,0,none⟩) n cap) n xs)(i:Nat)(v:Value):(w.setCell ⟨g,i,none⟩ v).ownsRow B T 1 (.slice (some ⟨g,0,none⟩) n cap) n (xs.set i v):=by
 refine⟨by rw[List.length_set];exact h.1,?_⟩;rcases h.2 with⟨hv,_⟩|⟨g2,cap2,cur,hv,h1,h2,h3,h4,h5,h6⟩
 . cases hv
 . cases hv;refine .inr ⟨g,cap,cur.setIfInBounds i v,rfl,h1,zqn _ _ _ _ h2,h3,h4,by simpa using h5,?_⟩;rw[<-h6,Array.toList_setIfInBounds,List.take_set]
theorem zq69{w:World}{B g n cap:Nat}{T:TypeId}{xs:List Value}(h:w.ownsRow B T 1 (.slice (some ⟨g,0,none⟩) n cap) n xs){i:Nat}{x:Value}(hx:xs[i]?=some x):w.cell? ⟨g,i,none⟩=some x:=by
 have hi:i<xs.length:=(List.getElem?_eq_some_iff.1 hx).1;have hl:=h.1;obtain⟨p,C,e,_,hc⟩:=zq2m h;cases e;obtain⟨g2,e2,_,hc⟩:=hc (by omega);cases e2;exact hc i x hx
theorem zqgb{P:Program}{w:World}{base:Nat}{t ty e:TypeId}{i:TypeInfo}{z:Value}(ht:P.underlying t=some (.slice e))(hi:P.info? e=some i)(hz:i.zero=some z)(hsize:i.size=1)(hby:i.bytes=8)(hzs:z.cells.size=1)
 {sv:Value} {l:List Int} (hs:IntsAt w sv l) (hl:l.length<=1099511627776) (hbase:base<=w.heap.size):
 ∃v w',(Builtin.append_ #[t,t] ty #[.slice none 0 0,sv]).run P w=.ok v w'/\w'.ownsRow base e 1 v l.length (l.map (Value.int .i64))/\Beyond w w'/\∀g,v.ownBlock=some g->g=w.heap.size:=by
 obtain⟨p,C,rfl,hc⟩:=hs
 by_cases hl0:l=[]
 . subst hl0;cases p with
   |none=>
    refine⟨.slice none 0 0,w,?_,World.ownsRow_nil w base e 1,Beyond.refl w,λg hg=>by cases hg⟩;simp[Builtin.append_,run_underlying ht,sizeOf,typeInfo,hi,Builtin.lenOf,Builtin.firstCells,loadCells,loadCellsFrom]
   |some a=>
    obtain⟨v,w',h1,h2,h3,h4,h5⟩:=run_append_own_at (P:=P) w base t ty e i z 1 8 ht hi hz hsize hby hzs (by decide) (.slice none 0 0) 0 [] (World.ownsRow_nil w base e 1) a 0 C [] rfl (λj u h=>by cases h) (λu h=>by cases h) (by decide) (by decide) hbase;refine⟨v,w',h1,h2,⟨h3.size,λb hb=>h3.block b hb (by simp[Value.ownBlock])⟩,λg hg=>?_⟩;rcases h5 with h5|h5
    . rw[hg]at h5;cases h5
    . rw[hg]at h5;exact Option.some.inj h5
 . obtain⟨b,o,rfl,hcc⟩:=hc hl0;obtain⟨v,w',h1,h2,h3,h4,h5⟩:=run_append_own_at (P:=P) w base t ty e i z 1 8 ht hi hz hsize hby hzs (by decide) (.slice none 0 0) 0 [] (World.ownsRow_nil w base e 1) ⟨b,o,none⟩ l.length C (l.map (Value.int .i64)) (by simp) (λj u h=>by
    have hj:j<l.length:=by have:=(List.getElem?_eq_some_iff.1 h).1;simpa using this
    have:=hcc j hj;rw[List.getElem?_map]at h;have e2:l[j]?=some (l.getD j 0):=by simp[hj]
    rw[e2]at h;cases h;rw[show(⟨b,o,none⟩:Addr).add j=⟨b,o+j,none⟩from by unfold Addr.add;split<;>simp[*]];exact this) (λu h=>by obtain⟨x,_,rfl⟩:=List.mem_map.1 h;rfl) (by simp only[maxLen];omega) (by omega) hbase
   refine⟨v,w',h1,by simpa using h2,⟨h3.size,λb hb=>h3.block b hb (by simp[Value.ownBlock])⟩,λg hg=>?_⟩;rcases h5 with h5|h5
   . rw[hg]at h5;cases h5
   . rw[hg]at h5;exact Option.some.inj h5
theorem zq6y{P:Program}{ops:Array Oper}{rest:List Oper}{o:Oper}{a:Act}{Q:Exit->Act->World->Prop}{w w':World}{v:Value}(hgd:o.guard=none)(s x:Operand)(t:TypeId)
 (ho:o.op=.call {callee:=.builtin .append,args:=#[s,x],argTypes:=#[t,t]}) (hr:(Builtin.append_ #[t,t] o.type #[a.eval s,a.eval x]).run P w=.ok v w') (h:wpList P ops Q rest (a.put o.dst v) w'):wpList P ops Q (o::rest) a w:=
 wpList_plain hgd λ_ hK=>by
  unfold Oper.wp execOp;simp only[ho,resolve,invoke,builtin,Sem.run_bind,Sem.run_pure,Result.andThen_ok,List.map_toArray,List.map_cons,List.map_nil,hr];exact hK _ _ h
theorem zqlw(n:Nat)(w:World)(hn:n<=1099511627776):Calls Try.prog 35 #[.int .i64 n] w λe w'=>e=.returned (.int .i64 (min n 64:Nat))/\w'=w:=by
 go_enter Try.func35,Try.ntmps35
 by_cases h:n<=64
 . have h1:(n:Int)<=64:=by omega
   have h2:((min n 64:Nat):Int)=n:=by omega
   rw[h2];go_wp2;go_ret;exact⟨rfl,rfl⟩
 . have h1:¬(n:Int)<=64:=by omega
   have h2:((min n 64:Nat):Int)=64:=by omega
   rw[h2];go_wp2;go_ret;exact⟨rfl,rfl⟩
def BoolsAt(w:World)(v:Value)(en:Nat->Bool)(N:Nat):Prop:=∃p C,v=.slice p N C/\(0<N->∃b o,p=some ⟨b,o,none⟩/\∀i,i<N->w.cell? ⟨b,o+i,none⟩=some (.bool (en i)))
theorem BoolsAt.beyond {w w':World}{v:Value}{en:Nat->Bool}{N:Nat}(h:BoolsAt w v en N)(hb:Beyond w w'):BoolsAt w' v en N:=by
 obtain⟨p,C,e,h⟩:=h;refine⟨p,C,e,λh0=>?_⟩;obtain⟨b,o,e2,h2⟩:=h h0;exact⟨b,o,e2,λi hi=>hb.cell (h2 i hi)⟩
def allB(en:Nat->Bool)(N:Nat):Bool:=(List.range N).all en
theorem allB_iff{en:Nat->Bool}{N:Nat}:allB en N=true↔∀i,i<N->en i=true:=by unfold allB;simp
theorem zq65{w:World}{v:Value}{en:Nat->Bool}{N:Nat}(hN:N<=1099511627776)(h:BoolsAt w v en N):Calls Try.prog 40 #[v] w λe w'=>e=.returned (.bool (allB en N))/\w'=w:=by
 obtain⟨p,C,rfl,hc⟩:=h;have HC:=Lib.hid hc;clear hc
 go_enter Try.func40,Try.ntmps40
 go_wp2
 go_loopg [3] N (λk i wr=>∃(j:Nat),k=N - j/\j<=N/\i=.int .i64 j/\wr=w/\RowKit.Hid (∀i,i<j->en i=true))
 case atStart=>exact⟨0,rfl,Nat.zero_le _,rfl,rfl,Lib.hid λi hi=>absurd hi (Nat.not_lt_zero _)⟩
 case round=>
  obtain⟨j,hk,hj,rfl,rfl,hE⟩:=hrel
  by_cases hlt:j<N
  . have hlt':(j:Int)<(N:Int):=by omega
    have hj0:(0:Int)<=j:=by omega
    obtain⟨b,o,rfl,h2⟩:=HC.out (by omega);have k1:=h2 j hlt;cases he:en j with
    |true=>
     rw[he]at k1;have HE:=Lib.hid he;clear h2 he;go_wp2;go_roundg (N - (j+1))
     case measure=>omega
     case rel=>exact⟨j+1,rfl,by omega,rfl,rfl,Lib.hid λi hi=>by
      by_cases e:i=j
      . rw[e];exact HE.out
      . exact hE.out i (by omega)⟩
    |false=>
     rw[he]at k1;have HE:=Lib.hid he;clear h2 he;go_wp2;go_ret;refine⟨?_,rfl⟩;have:allB en N=false:=by
      cases h:allB en N with
      |false=>rfl
      |true=>have:=allB_iff.1 h j hlt;rw[HE.out]at this;cases this
     rw[this];rfl
  . obtain rfl:N=j:=by omega
    go_wp2;go_ret;exact⟨by rw[allB_iff.2 hE.out];rfl,rfl⟩
structure TrB(ub:Nat)(lv:Value)(most at_ rnd:Nat)(ov:Value)(w:World):Prop where
 hm:w.heap[ub]?=some (.cells #[lv,.int .i64 most,.int .i64 at_,.int .i64 rnd,ov] 110)
theorem TrB.c0 {ub:Nat}{lv:Value}{most at_ rnd:Nat}{ov:Value}{w:World}(h:TrB ub lv most at_ rnd ov w):w.cell? ⟨ub,0,none⟩=some lv:=(zq0 h.hm).trans rfl
theorem TrB.c1 {ub:Nat}{lv:Value}{most at_ rnd:Nat}{ov:Value}{w:World}(h:TrB ub lv most at_ rnd ov w):w.cell? ⟨ub,1,none⟩=some (.int .i64 most):=(zq0 h.hm).trans rfl
theorem TrB.c2 {ub:Nat}{lv:Value}{most at_ rnd:Nat}{ov:Value}{w:World}(h:TrB ub lv most at_ rnd ov w):w.cell? ⟨ub,2,none⟩=some (.int .i64 at_):=(zq0 h.hm).trans rfl
theorem TrB.c3 {ub:Nat}{lv:Value}{most at_ rnd:Nat}{ov:Value}{w:World}(h:TrB ub lv most at_ rnd ov w):w.cell? ⟨ub,3,none⟩=some (.int .i64 rnd):=(zq0 h.hm).trans rfl
theorem TrB.c4 {ub:Nat}{lv:Value}{most at_ rnd:Nat}{ov:Value}{w:World}(h:TrB ub lv most at_ rnd ov w):w.cell? ⟨ub,4,none⟩=some ov:=(zq0 h.hm).trans rfl
theorem TrB.fz {ub:Nat}{lv:Value}{most at_ rnd:Nat}{ov:Value}{w:World}(h:TrB ub lv most at_ rnd ov w)(i:Nat):w.frozen? ⟨ub,i,none⟩=false:=zq6 h.hm
theorem TrB.setA {ub:Nat}{lv:Value}{most at_ rnd:Nat}{ov:Value}{w:World}(h:TrB ub lv most at_ rnd ov w)(n:Nat):TrB ub lv most n rnd ov (w.setCell ⟨ub,2,none⟩ (.int .i64 n)):=⟨(zqn _ _ _ _ h.hm).trans rfl⟩
theorem TrB.setR {ub:Nat}{lv:Value}{most at_ rnd:Nat}{ov:Value}{w:World}(h:TrB ub lv most at_ rnd ov w)(n:Nat):TrB ub lv most at_ n ov (w.setCell ⟨ub,3,none⟩ (.int .i64 n)):=⟨(zqn _ _ _ _ h.hm).trans rfl⟩
theorem TrB.setO {ub:Nat}{lv:Value}{most at_ rnd:Nat}{ov:Value}{w:World}(h:TrB ub lv most at_ rnd ov w)(v:Value):TrB ub lv most at_ rnd v (w.setCell ⟨ub,4,none⟩ v):=⟨(zqn _ _ _ _ h.hm).trans rfl⟩
def zq73(l:List Int)(mo:Int)(w:World)(e:Ending)(w':World):Prop:=∃ub lv,e=.returned (.pointer (some ⟨ub,0,none⟩))/\TrB ub lv (min mo.toNat 1048576) 0 0 (.slice none 0 0) w'/\w'.ownsRow w.heap.size 3 1 lv l.length (l.map (Value.int .i64))/\Beyond w w'/\w.heap.size<=ub
theorem zqep{w:World}{sv:Value}{l:List Int}{mo:Int}(hl:l.length<=1099511627776)(hs:IntsAt w sv l):
 Calls Try.prog 38 #[sv,.int .i64 mo] w λe w'=>zq73 l mo w e w':=by
 obtain⟨v,w1,hrun,hown,hbe,hat⟩:=zqgb (P:=Try.prog) (base:=w.heap.size) (t:=24) (ty:=24) (e:=3) (i:=(Try.prog.info? 3).getD default) (z:=.int .i64 0) (by kernel_rfl) (by kernel_rfl) (by kernel_rfl) (by kernel_rfl) (by kernel_rfl) (by rfl) hs hl (Nat.le_refl _);obtain⟨p,C,rfl,_⟩:=hs;obtain⟨vp,vn,vc,rfl⟩:=zq8y hown;have HR:=Lib.hid (And.intro hown (And.intro hbe hat));clear hown hbe hat
 go_enter Try.func38,Try.ntmps38
 have key:∀k:Nat,(min mo.toNat 1048576=k)->zq73 l mo w (.returned (.pointer (some ⟨w1.heap.size,0,none⟩))) (w1.alloc (.cells #[.slice vp vn vc,.int .i64 k,.int .i64 0,.int .i64 0,.slice none 0 0] 110)):=λk hk=>by
  subst hk;exact⟨_,_,rfl,⟨zqo _ _⟩,zq1d HR.out.1 _,HR.out.2.1.trans (Beyond.alloc _ _),HR.out.2.1.1⟩
 have HK:=Lib.hid key;clear key
 by_cases h0:mo<0
 . have h0':¬0<=mo:=by omega
   have hz:min mo.toNat 1048576=0:=by omega
   have HZ:=Lib.hid hz;clear hz
   go_wp2_with (at_builtin;go_loud (refine zq6y rfl (.tmp 6) (.tmp 7) 24 rfl hrun ?_))
   go_ret;exact HK.out 0 HZ.out
 . by_cases h1:mo<=1048576
   . obtain⟨k,rfl⟩:∃k:Nat,mo=k:=⟨mo.toNat,by omega⟩;have hz:min (k:Int).toNat 1048576=k:=by omega
     have hk0:(0:Int)<=k:=by omega
     have HZ:=Lib.hid hz;clear hz
     go_wp2_with (at_builtin;go_loud (refine zq6y rfl (.tmp 6) (.tmp 7) 24 rfl hrun ?_))
     go_ret;exact HK.out k HZ.out
   . have hz:min mo.toNat 1048576=1048576:=by omega
     have hk0:(0:Int)<=mo:=by omega
     have HZ:=Lib.hid hz;clear hz
     go_wp2_with (at_builtin;go_loud (refine zq6y rfl (.tmp 6) (.tmp 7) 24 rfl hrun ?_))
     go_ret;exact HK.out 1048576 HZ.out
def natL(l:List Nat):List Value:=l.map λ(i:Nat)=>.int .i64 i
def boolL(en:Nat->Bool)(N:Nat):List Value:=(List.range N).map λi=>.bool (en i)
structure PkI(ub:Nat)(lv:Value)(most:Nat)(l:List Int)(a r:Nat)(ov:Value)(ord:List Nat)(ev:Value)(en:Nat->Bool)(N base:Nat)(w:World):Prop where
 t:TrB ub lv most a r ov w
 lrow:w.ownsRow base 3 1 lv l.length (l.map (Value.int .i64))
 orow:w.ownsRow base 3 1 ov ord.length (natL ord)
 erow:w.ownsRow base 4 1 ev N (boolL en N)
 sep:∀g,lv.ownBlock=some g->ov.ownBlock≠some g
section
variable {ub:Nat} {lv:Value} {most:Nat} {l:List Int} {a r:Nat} {ov:Value} {ord:List Nat} {ev:Value} {en:Nat->Bool} {N base:Nat} {w:World}
theorem PkI.beyond (h:PkI ub lv most l a r ov ord ev en N base w){w':World}(hb:Beyond w w'):PkI ub lv most l a r ov ord ev en N base w':=
 ⟨⟨hb.heap h.t.hm⟩,zqj h.lrow λg hg=>hb.2 g (own_lt h.lrow hg).2.2,zqj h.orow λg hg=>hb.2 g (own_lt h.orow hg).2.2,zqj h.erow λg hg=>hb.2 g (own_lt h.erow hg).2.2,h.sep⟩
theorem PkI.far (h:PkI ub lv most l a r ov ord ev en N base w)(i:Nat)(v:Value):(w.setCell ⟨ub,i,none⟩ v).ownsRow base 3 1 lv l.length (l.map (Value.int .i64))/\(w.setCell ⟨ub,i,none⟩ v).ownsRow base 3 1 ov ord.length (natL ord)/\(w.setCell ⟨ub,i,none⟩ v).ownsRow base 4 1 ev N (boolL en N):=
 ⟨zqj h.lrow λg hg=>zq8 _ _ _ _ λe=>zqx h.lrow h.t.hm (by decide) (by rw[hg,show g=ub from e]),
  zqj h.orow λg hg=>zq8 _ _ _ _ λe=>zqx h.orow h.t.hm (by decide) (by rw[hg,show g=ub from e]),
  zqj h.erow λg hg=>zq8 _ _ _ _ λe=>zqx h.erow h.t.hm (by decide) (by rw[hg,show g=ub from e])⟩
theorem PkI.setA (h:PkI ub lv most l a r ov ord ev en N base w)(n:Nat):PkI ub lv most l n r ov ord ev en N base (w.setCell ⟨ub,2,none⟩ (.int .i64 n)):=⟨h.t.setA n,(h.far _ _).1,(h.far _ _).2.1,(h.far _ _).2.2,h.sep⟩
theorem PkI.setR (h:PkI ub lv most l a r ov ord ev en N base w)(n:Nat):PkI ub lv most l a n ov ord ev en N base (w.setCell ⟨ub,3,none⟩ (.int .i64 n)):=⟨h.t.setR n,(h.far _ _).1,(h.far _ _).2.1,(h.far _ _).2.2,h.sep⟩
theorem PkI.eb (h:PkI ub lv most l a r ov ord ev en N base w):BoolsAt w ev en N:=by
 obtain⟨p,C,e,_,hc⟩:=zq2m h.erow;refine⟨p,C,e,λh0=>?_⟩;obtain⟨g,e2,_,hc⟩:=hc h0;refine⟨g,0,e2,λi hi=>?_⟩;rw[Nat.zero_add];exact hc i _ (by simp[boolL,hi])
theorem PkI.lb (h:PkI ub lv most l a r ov ord ev en N base w):∃p C,lv=.slice p l.length C/\∀i,i<l.length->∃g,p=some ⟨g,0,none⟩/\w.cell? ⟨g,i,none⟩=some (.int .i64 (l.getD i 0)):=by
 obtain⟨p,C,e,_,hc⟩:=zq2m h.lrow;refine⟨p,C,e,λi hi=>?_⟩;obtain⟨g,e2,_,hc⟩:=hc (by omega);exact⟨g,e2,hc i _ (by simp[hi])⟩
end
structure RestU(ub:Nat)(row:Option Nat)(w w':World):Prop where
 size:w.heap.size<=w'.heap.size
 old:∀b,b<w.heap.size->b≠ub->row≠some b->w'.heap[b]?=w.heap[b]?
theorem RestU.refl (ub:Nat)(row:Option Nat)(w:World):RestU ub row w w:=⟨Nat.le_refl _,λ_ _ _ _=>rfl⟩
theorem RestU.set {ub:Nat}{row:Option Nat}{w w':World}(h:RestU ub row w w')(i:Nat)(v:Value):RestU ub row w (w'.setCell ⟨ub,i,none⟩ v):=⟨by rw[zqv];exact h.size,λb hb h1 h2=>(zq8 _ _ _ _ h1).trans (h.old b hb h1 h2)⟩
theorem RestU.drew {ub:Nat}{row:Option Nat}{w w':World}(h:RestU ub row w w')(n:Nat):RestU ub row w (w'.drewN n):=⟨h.size,h.old⟩
theorem PkI.push {ub:Nat}{lv:Value}{most:Nat}{l:List Int}{a r:Nat}{ov:Value}{ord:List Nat}{ev:Value}{en:Nat->Bool}{N base:Nat}{w w5:World}{o:Obj}{g cap on x:Nat}(h:PkI ub lv most l a r ov ord ev en N base w)(hno:ord.length=on)
 (hown:w5.ownsRow base 3 1 (.slice (some ⟨g,0,none⟩) (on+1) cap) (on+1) (natL ord++[.int .i64 x])) (hgrow:(w.alloc o).grownBy w5 ov.ownBlock) (hat:ov.ownBlock=some g\/g=(w.alloc o).heap.size):
 PkI ub lv most l a r (.slice (some ⟨g,0,none⟩) (on+1) cap) (ord++[x]) ev en N base (w5.setCell ⟨ub,4,none⟩ (.slice (some ⟨g,0,none⟩) (on+1) cap)):=by
 have k5:∀b,b<w.heap.size->ov.ownBlock≠some b->w5.heap[b]?=w.heap[b]?:=λb hb hne=>by
  rw[hgrow.block b (by rw[zq3];omega) (λe=>hne e.symm),zq5,if_neg (by omega)]
 have hub:=zqh h.t.hm;have hou:ov.ownBlock≠some ub:=zqx h.orow h.t.hm (by decide);have t5:TrB ub lv most a r ov w5:=⟨(k5 ub hub hou).trans h.t.hm⟩;have l5:w5.ownsRow base 3 1 lv l.length (l.map (Value.int .i64)):=zqj h.lrow λq hq=>k5 q (own_lt h.lrow hq).2.2 (h.sep q hq);have e5:w5.ownsRow base 4 1 ev N (boolL en N):=zqj h.erow λq hq=>k5 q (own_lt h.erow hq).2.2 λe=>by
  obtain⟨⟨c1,hc1⟩,_⟩:=own_lt h.erow hq;exact zqx h.orow hc1 (by decide) e
 have o5:w5.ownsRow base 3 1 (.slice (some ⟨g,0,none⟩) (on+1) cap) (ord++[x]).length (natL (ord++[x])):=by
  rw[List.length_append,hno];simpa[natL]using hown
 have hgu:g≠ub:=λe=>zqx hown t5.hm (by decide) (by rw[e];rfl);refine⟨t5.setO _,zqj l5 λq hq=>zq8 _ _ _ _ λe=>zqx l5 t5.hm (by decide) (by rw[hq,show q=ub from e]),zqj o5 λq hq=>zq8 _ _ _ _ λe=>hgu (by simp only[Value.ownBlock,al_oi]at hq;rw[hq];exact e),zqj e5 λq hq=>zq8 _ _ _ _ λe=>zqx e5 t5.hm (by decide) (by rw[hq,show q=ub from e]),λq hq he=>?_⟩;simp only[Value.ownBlock,al_oi]at he;subst he;rcases hat with h1|h1
 . exact h.sep g hq h1
 . have:=(own_lt h.lrow hq).2.2;rw[zq3]at h1;omega
theorem RestU.push {ub:Nat}{ov v:Value}{w w4 w5:World}{o:Obj}(h:RestU ub ov.ownBlock w w4)(hgrow:(w4.alloc o).grownBy w5 ov.ownBlock):RestU ub ov.ownBlock w (w5.setCell ⟨ub,4,none⟩ v):=by
 have hs:=hgrow.size;rw[zq3]at hs;have hs2:=h.size;refine⟨by rw[zqv];omega,λb hb h1 h2=>?_⟩;rw[zq8 _ _ _ _ h1,hgrow.block b (by rw[zq3];omega) (λe=>h2 e.symm),zq5,if_neg (by omega)];exact h.old b hb h1 h2
def PickPost(ub:Nat)(lv:Value)(most:Nat)(l:List Int)(a r:Nat)(ov:Value)(ord:List Nat)(ev:Value)(en:Nat->Bool)(N base:Nat)(w:World)(e:Ending)(w':World):Prop:=
 ((allB en N=true\/ord.length=most)/\e=.returned (.tuple #[.int .i64 0,.bool false])/\∃n,w'=w.drewN n)\/
 (allB en N=false/\ord.length≠most/\∃x a' r' ov',e=.returned (.tuple #[.int .i64 (x:Nat),.bool true])/\PickR l N en a r x a' r'/\a'<=l.length/\PkI ub lv most l a' r' ov' (ord++[x]) ev en N base w'/\RestU ub ov.ownBlock w w'/\∀g,ov'.ownBlock=some g->ov.ownBlock=some g\/w.heap.size<=g)
structure PkL(ub:Nat)(lv:Value)(most:Nat)(l:List Int)(a r:Nat)(ov:Value)(ord:List Nat)(ev:Value)(en:Nat->Bool)(N base:Nat)(w:World)(k:Nat)(wr:World):Prop where
 i:PkI ub lv most l k r ov ord ev en N base wr
 le:a<=k/\k<=l.length
 skip:∀j y,a<=j->j<k->l[j]?=some y->skipN N en y
 rest:RestU ub ov.ownBlock w wr
structure PkM(ub:Nat)(lv:Value)(most:Nat)(l:List Int)(a r:Nat)(ov:Value)(ord:List Nat)(ev:Value)(en:Nat->Bool)(N base:Nat)(w:World)(v:Nat)(wr:World):Prop where
 i:PkI ub lv most l l.length v ov ord ev en N base wr
 le:r<=v
 skip:∀j y,a<=j->l[j]?=some y->skipN N en y
 ovr:∀j,r<=j->j<v->en (j % N)=true
 rest:RestU ub ov.ownBlock w wr
theorem zqf8{ub:Nat}{lv:Value}{most:Nat}{l:List Int}{a r:Nat}{ov:Value}{ord:List Nat}{ev:Value}{en:Nat->Bool}{N base:Nat}{w:World}(hN:N<=64)(hl:l.length<=1099511627776)(ha:a<=l.length)(hr:r<=N)(ho:ord.length<=1048576)(hm:most<=1048576)(hbase:base<=w.heap.size)
 (h:PkI ub lv most l a r ov ord ev en N base w):Calls Try.prog 39 #[.pointer (some ⟨ub,0,none⟩),ev] w λe w'=>PickPost ub lv most l a r ov ord ev en N base w e w':=by
 obtain⟨ep,eC,rfl,hec⟩:=h.eb;obtain⟨lp,lC,rfl,hlc⟩:=h.lb;obtain⟨op,on,oC,rfl⟩:=zq8y h.orow;have hon:on=ord.length:=by
  obtain⟨p,C,e,_⟩:=zq2m h.orow;cases e;rfl
 obtain⟨L,hL⟩:∃L,l.length=L:=⟨_,rfl⟩;obtain⟨no,hno⟩:∃n,ord.length=n:=⟨_,rfl⟩;rw[hno]at hon;subst hon;have HL:=Lib.hid hL;have HN:=Lib.hid hno;have H:=Lib.hid h;have HE:=Lib.hid hec;have c1:=h.t.c1;have c4:=h.t.c4;have hbv:=h.eb;rw[hL]at ha hl;rw[hno]at ho;clear h hec hlc hL hno
 by_cases hall:allB en N=true
 . have HA:=Lib.hid hall;have ov:∀w',Beyond w w'->Calls Try.prog 40 #[.slice ep N eC] w' λe w''=>e=.returned (.bool true)/\w''=w':=λw' hb=>by
    have:=zq65 (N:=N) (by omega) (hbv.beyond hb);rw[HA.out]at this;exact this
   have HO:=Lib.hid ov;clear ov hall hbv
   go_enter Try.func39,Try.ntmps39
   go_wp2_with (fail)
   go_quiet (first|(go_at_call 40;exact Calls.quiet_of_same (HO.out _ (Beyond.drew _ _))))
   go_wp2
   go_ret2
   exact .inl ⟨.inl HA.out,rfl,nq,rfl⟩
 . have hall':allB en N=false:=by simpa using hall
   have HA:=Lib.hid hall';have ov:∀w',Beyond w w'->Calls Try.prog 40 #[.slice ep N eC] w' λe w''=>e=.returned (.bool false)/\w''=w':=λw' hb=>by
    have:=zq65 (N:=N) (by omega) (hbv.beyond hb);rw[HA.out]at this;exact this
   have HO:=Lib.hid ov;clear ov hall hall' hbv
   by_cases hfull:on=most
   . have hF:((on:Nat):Int)=most:=by omega
     go_enter Try.func39,Try.ntmps39
     go_wp2_with (fail)
     go_quiet (first|(go_at_call 40;exact Calls.quiet_of_same (HO.out _ (Beyond.drew _ _))))
     go_wp2
     go_ret2
     exact .inl ⟨.inr (by rw[HN.out];exact hfull),rfl,nq,rfl⟩
   . have hF:¬((on:Nat):Int)=most:=by omega
     go_enter Try.func39,Try.ntmps39
     go_wp2_with (fail)
     go_quiet (first|(go_at_call 40;exact Calls.quiet_of_same (HO.out _ (Beyond.drew _ _))))
     go_wp2_with (fail)
     have hFb:((on:Int)==(most:Int))=false:=by simpa using hF
     simp only[hFb];clear hFb;have hI0:PkL ub (.slice lp l.length lC) most l a r (.slice op on oC) ord (.slice ep N eC) en N base w a (w.drewN nq):=⟨H.out.beyond (Beyond.drew _ _),⟨Nat.le_refl _,by rw[HL.out];exact ha⟩,λj y h1 h2=>by omega,(RestU.refl _ _ _).drew _⟩;have HI0:=Lib.hid hI0;clear hI0 c1 c4
     go_loopg [6] (L - a) (λk x wr=>∃j,k=L - j/\PkL ub (.slice lp l.length lC) most l a r (.slice op on oC) ord (.slice ep N eC) en N base w j wr)
     case atStart=>exact⟨a,rfl,HI0.out⟩
     case round=>
      obtain⟨j,hk,hI⟩:=hrel;have HI:=Lib.hid hI;clear hI;have k2:=HI.out.i.t.c2;have k0:=HI.out.i.t.c0;rw[HL.out]at k0;have hjL:=HI.out.le.2;rw[HL.out]at hjL
      by_cases hlt:j<L
      . have hlt':(j:Int)<(L:Int):=by omega
        have hj0:(0:Int)<=j:=by omega
        go_wp2_with (fail)
        go_quiet (fail)
        have HI2:=Lib.hid (HI.out.i.beyond (Beyond.drew wr nq));have HR2:=Lib.hid (HI.out.rest.drew nq);clear k2 k0;generalize wr.drewN nq=w2 at *;have k2:=HI2.out.t.c2;have k0:=HI2.out.t.c0;rw[HL.out]at k0;obtain⟨p',C',e',hlb⟩:=HI2.out.lb;cases e';obtain⟨lg,rfl,kx⟩:=hlb j (by rw[HL.out];exact hlt);obtain⟨x,hx⟩:∃x,l.getD j 0=x:=⟨_,rfl⟩;rw[hx]at kx;have HX:=Lib.hid hx;clear hlb hx
        go_wp2_with (fail)
        go_quiet (fail)
        have HI3:=Lib.hid (HI2.out.beyond (Beyond.drew w2 nq));have HR3:=Lib.hid (HR2.out.drew nq);clear k2 k0 kx;generalize w2.drewN nq=w3 at *;have k2:=HI3.out.t.c2;have f2:=HI3.out.t.fz 2;have hj1:((j:Int)+1)=((j+1:Nat):Int):=by omega
        have hHI4:=HI3.out.setA (j+1);have hHR4:=HR3.out.set 2 (.int .i64 ((j+1:Nat):Int));rw[<-hj1]at hHI4 hHR4;have HI4:=Lib.hid hHI4;have HR4:=Lib.hid hHR4;clear hHI4 hHR4 hj1;have hnext:skipN N en x->PkL ub (.slice (some ⟨lg,0,none⟩) l.length lC) most l a r (.slice op on oC) ord (.slice ep N eC) en N base w (j+1) (w3.setCell ⟨ub,2,none⟩ (.int .i64 ((j:Int)+1))):=λhsk=>by
         refine⟨HI4.out,⟨by have:=HI.out.le.1;omega,by rw[HL.out];omega⟩,λi y h1 h2 hy=>?_,HR4.out⟩
         by_cases e:i=j
         . subst e;have:l[i]?=some (l.getD i 0):=by simp[show i<l.length from by rw[HL.out];exact hlt]
           rw[this,HX.out]at hy;cases hy;exact hsk
         . exact HI.out.skip i y h1 (by omega) hy
        have HNX:=Lib.hid hnext;clear hnext
        by_cases x0:x<0
        . have x0':¬0<=x:=by omega
          go_wp2;go_roundg (L - (j+1))
          case measure=>have:=HI.out.le.1;omega
          case rel=>exact⟨j+1,rfl,HNX.out (.inl x0)⟩
        . have x0':0<=x:=by omega
          by_cases x1:(N:Int)<=x
          . have x1':¬x<(N:Int):=by omega
            go_wp2;go_roundg (L - (j+1))
            case measure=>have:=HI.out.le.1;omega
            case rel=>exact⟨j+1,rfl,HNX.out (.inr (.inl x1))⟩
          . obtain⟨xn,rfl⟩:∃n:Nat,x=n:=⟨x.toNat,by omega⟩;have x1':(xn:Int)<(N:Int):=by omega
            have hxN:xn<N:=by omega
            obtain⟨eb,eo,hep,hec⟩:=HE.out (by omega);subst hep;have be:∀i,i<N->(w3.setCell ⟨ub,2,none⟩ (.int .i64 ((j:Int)+1))).cell? ⟨eb,eo+i,none⟩=some (.bool (en i)):=λi hi=>by
             obtain⟨p',C',e',hc⟩:=HI4.out.eb;cases e';obtain⟨b',o',e2,hc2⟩:=hc (by omega);cases e2;exact hc2 i hi
            have kx:=be xn hxN;have HBE:=Lib.hid be;clear be hec;cases he:en xn with
            |true=>
             rw[he]at kx;have HEE:=Lib.hid he;clear he;go_wp2;go_roundg (L - (j+1))
             case measure=>have:=HI.out.le.1;omega
             case rel=>exact⟨j+1,rfl,HNX.out (.inr (.inr (by rw[Int.toNat_natCast];exact HEE.out)))⟩
            |false=>
             rw[he]at kx;have HEE:=Lib.hid he;clear he;have c4:=HI4.out.t.c4;have hrow:(w3.setCell ⟨ub,2,none⟩ (.int .i64 ((j:Int)+1))).ownsRow base 3 1 (.slice op on oC) on (natL ord):=by have:=HI4.out.orow;rw[HN.out]at this;exact this
             obtain⟨ti,hti,hz0,hz1,hz2⟩:∃ti,Try.prog.info? 3=some ti/\ti.zero=some (.int .i64 0)/\ti.size=1/\ti.bytes=8:=⟨_,rfl,rfl,rfl,rfl⟩;have TI:=Lib.hid (And.intro hti (And.intro hz0 (And.intro hz1 hz2)));have HRW:=Lib.hid hrow;clear hti hz0 hz1 hz2 hrow
             go_wp2_with (at_builtin;go_loud (refine wpList_append_lies _ rfl (.tmp 68) (.tmp 70) 24 rfl base 3 ti (.int .i64 0) 1 8 (by kernel_rfl) TI.out.1 TI.out.2.1 TI.out.2.2.1 TI.out.2.2.2 rfl (by decide) _ on (natL ord) rfl (zq1d HRW.out _) _ 1 1 [.int .i64 xn] rfl rfl (zq22 (by simp only[zqv])) (by simp[Value.oneCell']) (by decide) (by simp only[maxLen];omega) (by omega) (by have:=HR4.out.size;rw[zq3];omega) _ rfl ?next))
             case next=>
              intro g cap w5 hown hgrow hat hlt5;have hub:w5.heap[ub]?=some (.cells #[.slice (some ⟨lg,0,none⟩) l.length lC,.int .i64 most,.int .i64 ((j+1:Nat):Int),.int .i64 r,.slice op on oC] 110):=by
               rw[hgrow.block ub (by rw[zq3];exact Nat.lt_succ_of_lt (zqh HI4.out.t.hm)) (λe=>zqx HI4.out.orow HI4.out.t.hm (by decide) e.symm),zq5,if_neg (by have:=zqh HI4.out.t.hm;omega)];exact HI4.out.t.hm
              have c54:=(zq0 (off:=4) hub).trans rfl;have f54:=zq6 (off:=4) hub;have hI5:=HI4.out.push HN.out hown hgrow (by simpa only[zq3,zqv]using hat);have hlx:l[j]?=some (xn:Int):=by
               have:l[j]?=some (l.getD j 0):=by simp[show j<l.length from by rw[HL.out];exact hlt]
               rw[this,HX.out]
              have HLX:=Lib.hid hlx;clear hlx;have hR5:=HR4.out.push (v:=.slice (some ⟨g,0,none⟩) (on+1) cap) hgrow;have hat':∀q,(Value.slice (some ⟨g,0,none⟩) (on+1) cap).ownBlock=some q->(Value.slice op on oC).ownBlock=some q\/w.heap.size<=q:=λq hq=>by
               simp only[Value.ownBlock,al_oi]at hq;subst hq;rcases hat with h|h
               . exact .inl h
               . right;have:=HR4.out.size;simp only[zqv]at this;omega
              have H5:=Lib.hid (And.intro hI5 (And.intro hR5 hat'));clear hub hown hgrow hat hlt5 hI5 hR5 hat' c4 kx k2 f2;go_wp2
              go_ret2
              refine .inr ⟨HA.out,by rw[HN.out];exact hfull,xn,j+1,r,_,rfl,PickR.list (k:=j) HI.out.le.1 HLX.out hxN HEE.out HI.out.skip,by rw[HL.out];omega,H5.out.1,H5.out.2.1,H5.out.2.2⟩
      . obtain rfl:L=j:=by omega
        obtain⟨i0,hi0,he0⟩:∃i,i<N/\en i=false:=by
         have hA:=HA.out;unfold allB at hA;rw[List.all_eq_false]at hA;obtain⟨i,hi,he⟩:=hA;exact⟨i,List.mem_range.1 hi,by simpa using he⟩
        have HEI:=Lib.hid he0;clear he0;have hN0:0<N:=by omega
        obtain⟨eb,eo,hep,_⟩:=HE.out hN0;subst hep
        go_wp2_with (fail)
        go_quiet (fail)
        have hM0:PkM ub (.slice lp l.length lC) most l a r (.slice op on oC) ord (.slice (some ⟨eb,eo,none⟩) N eC) en N base w r (wr.drewN nq):=by
         have:=HI.out.i.beyond (Beyond.drew wr nq);have hl:=HL.out;rw[<-hl]at this;exact⟨this,Nat.le_refl _,λi y h1 hy=>HI.out.skip i y h1 (by have:=(List.getElem?_eq_some_iff.1 hy).1;omega) hy,λi h1 h2=>by omega,HI.out.rest.drew nq⟩
        have HM0:=Lib.hid hM0;clear hM0 k2 k0 HI0
        go_wp2_with (fail)
        go_loopg [75] (r+N - r) (λk x w2=>∃v,k=r+N - v/\PkM ub (.slice lp l.length lC) most l a r (.slice op on oC) ord (.slice (some ⟨eb,eo,none⟩) N eC) en N base w v w2)
        case atStart=>exact⟨r,rfl,HM0.out⟩
        case round=>
         obtain⟨v,hk2,hM⟩:=hrel;have HM:=Lib.hid hM;clear hM;have hvN:v<r+N:=by
          rcases Nat.lt_or_ge v (r+N)with h|h
          . exact h
          . exfalso;have hr2:=hr;have key:∃u,r<=u/\u<v/\u % N=i0:=by
             by_cases hc:r<=i0
             . exact⟨i0,hc,by omega,Nat.mod_eq_of_lt hi0⟩
             . exact⟨i0+N,by omega,by omega,by rw[Nat.add_mod_right,Nat.mod_eq_of_lt hi0]⟩
            obtain⟨u,h1,h2,h3⟩:=key;have:=HM.out.ovr u h1 h2;rw[h3,HEI.out]at this;cases this
         have k3:=HM.out.i.t.c3;have f3:=HM.out.i.t.fz 3;have hNI:¬((N:Int)=0):=by omega
         have e1:(v:Int).tmod (N:Int)=((v % N:Nat):Int):=by rw[Int.tmod_eq_emod_of_nonneg (by omega)];rfl
         obtain⟨q,hq⟩:∃q,v % N=q:=⟨_,rfl⟩;have hqN:q<N:=by rw[<-hq];exact Nat.mod_lt _ hN0
         rw[hq]at e1;have q0:(0:Int)<=q:=by omega
         have q1:(q:Int)<(N:Int):=by omega
         have be:wr.cell? ⟨eb,eo+q,none⟩=some (.bool (en q)):=by
          obtain⟨p',C',e',hc⟩:=HM.out.i.eb;cases e';obtain⟨b',o',e2,hc2⟩:=hc hN0;cases e2;exact hc2 q hqN
         have HQ:=Lib.hid hq;clear hq;cases he:en q with
         |true=>
          rw[he]at be;have HEE:=Lib.hid he;clear he;have hv1:((v:Int)+1)=((v+1:Nat):Int):=by omega
          have hn:PkM ub (.slice lp l.length lC) most l a r (.slice op on oC) ord (.slice (some ⟨eb,eo,none⟩) N eC) en N base w (v+1) (wr.setCell ⟨ub,3,none⟩ (.int .i64 ((v:Int)+1))):=by
           rw[hv1];refine⟨HM.out.i.setR (v+1),by have:=HM.out.le;omega,HM.out.skip,λi h1 h2=>?_,HM.out.rest.set _ _⟩
           by_cases e:i=v
           . rw[e,HQ.out];exact HEE.out
           . exact HM.out.ovr i h1 (by omega)
          have HNX:=Lib.hid hn;clear hn hv1;go_wp2;go_roundg (r+N - (v+1))
          case measure=>omega
          case rel=>exact⟨v+1,rfl,HNX.out⟩
         |false=>
          rw[he]at be;have HEE:=Lib.hid he;clear he;have hq1:((q:Int)+1)=((q+1:Nat):Int):=by omega
          have hI4:=HM.out.i.setR (q+1);have hR4:=HM.out.rest.set 3 (.int .i64 ((q+1:Nat):Int));rw[<-hq1]at hI4 hR4;have HI4:=Lib.hid hI4;have HR4:=Lib.hid hR4;clear hI4 hR4 hq1;have c4:=HI4.out.t.c4;have hrow:(wr.setCell ⟨ub,3,none⟩ (.int .i64 ((q:Int)+1))).ownsRow base 3 1 (.slice op on oC) on (natL ord):=by have:=HI4.out.orow;rw[HN.out]at this;exact this
          obtain⟨ti,hti,hz0,hz1,hz2⟩:∃ti,Try.prog.info? 3=some ti/\ti.zero=some (.int .i64 0)/\ti.size=1/\ti.bytes=8:=⟨_,rfl,rfl,rfl,rfl⟩;have TI:=Lib.hid (And.intro hti (And.intro hz0 (And.intro hz1 hz2)));have HRW:=Lib.hid hrow;clear hti hz0 hz1 hz2 hrow
          go_wp2_with (at_builtin;go_loud (refine wpList_append_lies _ rfl (.tmp 108) (.tmp 110) 24 rfl base 3 ti (.int .i64 0) 1 8 (by kernel_rfl) TI.out.1 TI.out.2.1 TI.out.2.2.1 TI.out.2.2.2 rfl (by decide) _ on (natL ord) rfl (zq1d HRW.out _) _ 1 1 [.int .i64 q] rfl rfl (zq22 (by simp only[zqv])) (by simp[Value.oneCell']) (by decide) (by simp only[maxLen];omega) (by omega) (by have:=HR4.out.size;rw[zq3];omega) _ rfl ?next))
          case next=>
           intro g cap w5 hown hgrow hat hlt5;have hub:w5.heap[ub]?=some (.cells #[.slice lp l.length lC,.int .i64 most,.int .i64 l.length,.int .i64 ((q+1:Nat):Int),.slice op on oC] 110):=by
            rw[hgrow.block ub (by rw[zq3];exact Nat.lt_succ_of_lt (zqh HI4.out.t.hm)) (λe=>zqx HI4.out.orow HI4.out.t.hm (by decide) e.symm),zq5,if_neg (by have:=zqh HI4.out.t.hm;omega)];exact HI4.out.t.hm
           have c54:=(zq0 (off:=4) hub).trans rfl;have f54:=zq6 (off:=4) hub;have hI5:=HI4.out.push HN.out hown hgrow (by simpa only[zq3,zqv]using hat);have hR5:=HR4.out.push (v:=.slice (some ⟨g,0,none⟩) (on+1) cap) hgrow;have hat':∀q,(Value.slice (some ⟨g,0,none⟩) (on+1) cap).ownBlock=some q->(Value.slice op on oC).ownBlock=some q\/w.heap.size<=q:=λq hq=>by
            simp only[Value.ownBlock,al_oi]at hq;subst hq;rcases hat with h|h
            . exact .inl h
            . right;have:=HR4.out.size;simp only[zqv]at this;omega
           have H5:=Lib.hid (And.intro hI5 (And.intro hR5 hat'));clear hub hown hgrow hat hlt5 hI5 hR5 hat' c4 be k3 f3;go_wp2
           go_ret2
           exact .inr ⟨HA.out,by rw[HN.out];exact hfull,q,l.length,q+1,_,rfl,PickR.round (v:=v) HM.out.skip HM.out.le HQ.out.symm hN0 HEE.out HM.out.ovr (Nat.le_refl _),Nat.le_refl _,H5.out.1,H5.out.2.1,H5.out.2.2⟩
structure Tch(S:Nat->Prop)(w w':World):Prop where
 size:w.heap.size<=w'.heap.size
 old:∀b,b<w.heap.size->¬S b->w'.heap[b]?=w.heap[b]?
theorem Tch.refl (S:Nat->Prop)(w:World):Tch S w w:=⟨Nat.le_refl _,λ_ _ _=>rfl⟩
theorem Tch.trans {S:Nat->Prop}{a b c:World}(h:Tch S a b)(k:Tch S b c):Tch S a c:=⟨Nat.le_trans h.size k.size,λx hx hs=>(k.old x (Nat.lt_of_lt_of_le hx h.size) hs).trans (h.old x hx hs)⟩
theorem Tch.mono {S S':Nat->Prop}{a b:World}(h:Tch S a b)(hs:∀x,S x->S' x):Tch S' a b:=⟨h.size,λx hx hn=>h.old x hx λy=>hn (hs x y)⟩
theorem Tch.set {S:Nat->Prop}{a w:World}(h:Tch S a w){b:Nat}(hb:S b)(i:Nat)(v:Value):Tch S a (w.setCell ⟨b,i,none⟩ v):=
 ⟨by rw[zqv];exact h.size,λx hx hs=>(zq8 _ _ _ _ λ(e:x=b)=>hs (e▸hb)).trans (h.old x hx hs)⟩
theorem Tch.al {S:Nat->Prop}{a w:World}(h:Tch S a w)(o:Obj):Tch S a (w.alloc o):=⟨by rw[zq3];exact Nat.le_succ_of_le h.size,λx hx hs=>by rw[zq5,if_neg (by have:=h.size;omega)];exact h.old x hx hs⟩
theorem Tch.drew {S:Nat->Prop}{a w:World}(h:Tch S a w)(n:Nat):Tch S a (w.drewN n):=⟨h.size,h.old⟩
theorem Tch.keep {S:Nat->Prop}{a w:World}(h:Tch S a w){b:Nat}{o:Obj}(hb:a.heap[b]?=some o)(hs:¬S b):w.heap[b]?=some o:=(h.old b (zqc hb) hs).trans hb
structure CR where
 k:Int
 a:Int
 ph:Nat
 e:Int
 i:Nat
 done:Bool
 ok:Bool
 n:Int
def CR.fin (K:CR)(ok:Bool)(n:Int):CR:={K with done:=true,ok:=ok,n:=n}
def crC(who:Nat)(K:CR)(lv:Value):Array Value:=#[.int .i64 who,.int .i64 K.k,.int .i64 K.a,.int .i64 K.ph,.int .i64 K.e,.int .i64 K.i,.bool K.done,.bool K.ok,.int .i64 K.n,lv]
abbrev CrAt(cb who:Nat)(K:CR)(lv:Value)(w:World):Prop:=w.heap[cb]?=some (.cells (crC who K lv) 52)
section
variable {cb who:Nat} {K:CR} {lv:Value} {w:World}
theorem CrAt.set (h:CrAt cb who K lv w)(j:Nat)(x:Value){K':CR}{lv':Value}(he:(crC who K lv).setIfInBounds j x=crC who K' lv'):CrAt cb who K' lv' (w.setCell ⟨cb,j,none⟩ x):=by
 show(w.setCell _ _).heap[cb]?=_;rw[zqn _ _ _ _ h,he]
theorem CrAt.c (h:CrAt cb who K lv w):w.cell? ⟨cb,0,none⟩=some (.int .i64 who)/\w.cell? ⟨cb,1,none⟩=some (.int .i64 K.k)/\w.cell? ⟨cb,2,none⟩=some (.int .i64 K.a)/\w.cell? ⟨cb,3,none⟩=some (.int .i64 K.ph)/\w.cell? ⟨cb,4,none⟩=some (.int .i64 K.e)/\w.cell? ⟨cb,5,none⟩=some (.int .i64 K.i)/\w.cell? ⟨cb,6,none⟩=some (.bool K.done)/\w.cell? ⟨cb,7,none⟩=some (.bool K.ok)/\w.cell? ⟨cb,8,none⟩=some (.int .i64 K.n)/\w.cell? ⟨cb,9,none⟩=some lv:=
 ⟨(zq0 h).trans rfl,(zq0 h).trans rfl,(zq0 h).trans rfl,(zq0 h).trans rfl,(zq0 h).trans rfl,(zq0 h).trans rfl,(zq0 h).trans rfl,(zq0 h).trans rfl,(zq0 h).trans rfl,(zq0 h).trans rfl⟩
theorem zq1h(h:CrAt cb who K lv w)(ok:Bool)(n:Int):
 Calls Try.prog 41 #[.pointer (some ⟨cb,0,none⟩),.bool ok,.int .i64 n] w λe w'=>e=.returned (.tuple #[])/\CrAt cb who (K.fin ok n) lv w'/\Tch (λb=>b=cb) w w':=by
 obtain⟨-,-,-,-,-,-,c6,c7,c8,-⟩:=h.c;have f6:=zq6 (off:=6) h;have f7:=zq6 (off:=7) h;have f8:=zq6 (off:=8) h;have H:=Lib.hid h;clear h
 go_enter Try.func41,Try.ntmps41
 go_wp2
 go_end0
 refine⟨rfl,?_,(((Tch.refl (λb=>b=cb) _).set rfl _ _).set rfl _ _).set rfl _ _⟩;exact((H.out.set 6 (.bool true) (K':={K with done:=true}) rfl).set 7 (.bool ok) (K':={K with done:=true,ok:=ok}) rfl).set 8 (.int .i64 n) rfl
structure DmAt(rb gm gM N:Nat)(e:Int)(ms Ms:Array Value)(w:World):Prop where
 dom:w.heap[rb]?=some (.cells #[.int .i64 e,.slice (some ⟨gm,0,none⟩) N N,.slice (some ⟨gM,0,none⟩) N N] 60)
 mar:w.heap[gm]?=some (.cells ms 2)
 mem:w.heap[gM]?=some (.cells Ms 115)
variable {rb gm gM N:Nat} {e:Int} {ms Ms:Array Value}
theorem DmAt.c (h:DmAt rb gm gM N e ms Ms w):w.cell? ⟨rb,0,none⟩=some (.int .i64 e)/\w.cell? ⟨rb,1,none⟩=some (.slice (some ⟨gm,0,none⟩) N N)/\w.cell? ⟨rb,2,none⟩=some (.slice (some ⟨gM,0,none⟩) N N):=⟨(zq0 h.dom).trans rfl,(zq0 h.dom).trans rfl,(zq0 h.dom).trans rfl⟩
theorem DmAt.ne (h:DmAt rb gm gM N e ms Ms w)(hc:CrAt cb who K lv w):rb≠gm/\rb≠gM/\rb≠cb/\gm≠gM/\gm≠cb/\gM≠cb:=
 ⟨zqf h.dom h.mar (by decide),zqf h.dom h.mem (by decide),zqf h.dom hc (by decide),zqf h.mar h.mem (by decide),zqf h.mar hc (by decide),zqf h.mem hc (by decide)⟩
theorem DmAt.of (h:DmAt rb gm gM N e ms Ms w){w':World}(h1:w'.heap[rb]?=w.heap[rb]?)(h2:w'.heap[gm]?=w.heap[gm]?)(h3:w'.heap[gM]?=w.heap[gM]?):DmAt rb gm gM N e ms Ms w':=⟨h1.trans h.dom,h2.trans h.mar,h3.trans h.mem⟩
theorem DmAt.tch (h:DmAt rb gm gM N e ms Ms w){S:Nat->Prop}{w':World}(k:Tch S w w')(h1:¬S rb)(h2:¬S gm)(h3:¬S gM):DmAt rb gm gM N e ms Ms w':=h.of (k.old _ (zqc h.dom) h1) (k.old _ (zqc h.mar) h2) (k.old _ (zqc h.mem) h3)
structure EcAt(rb gm gM N cb who:Nat)(e:Int)(ms Ms:Array Value)(K:CR)(lv:Value)(w:World):Prop where
 d:DmAt rb gm gM N e ms Ms w
 c:CrAt cb who K lv w
theorem EcAt.ne (h:EcAt rb gm gM N cb who e ms Ms K lv w):rb≠gm/\rb≠gM/\rb≠cb/\gm≠gM/\gm≠cb/\gM≠cb:=h.d.ne h.c
theorem EcAt.drew (h:EcAt rb gm gM N cb who e ms Ms K lv w)(n:Nat):EcAt rb gm gM N cb who e ms Ms K lv (w.drewN n):=⟨⟨h.d.dom,h.d.mar,h.d.mem⟩,h.c⟩
theorem EcAt.setE (h:EcAt rb gm gM N cb who e ms Ms K lv w)(v:Int):EcAt rb gm gM N cb who v ms Ms K lv (w.setCell ⟨rb,0,none⟩ (.int .i64 v)):=by
 obtain⟨n1,n2,n3,n4,n5,n6⟩:=h.ne;exact⟨⟨(zqn _ _ _ _ h.d.dom).trans rfl,(zq8 _ _ _ _ n1.symm).trans h.d.mar,(zq8 _ _ _ _ n2.symm).trans h.d.mem⟩,(zq8 _ _ _ _ n3.symm).trans h.c⟩
theorem EcAt.setM (h:EcAt rb gm gM N cb who e ms Ms K lv w)(j:Nat)(v:Value):EcAt rb gm gM N cb who e (ms.setIfInBounds j v) Ms K lv (w.setCell ⟨gm,j,none⟩ v):=by
 obtain⟨n1,n2,n3,n4,n5,n6⟩:=h.ne;exact⟨⟨(zq8 _ _ _ _ n1).trans h.d.dom,zqn _ _ _ _ h.d.mar,(zq8 _ _ _ _ n4.symm).trans h.d.mem⟩,(zq8 _ _ _ _ n5.symm).trans h.c⟩
theorem EcAt.setI (h:EcAt rb gm gM N cb who e ms Ms K lv w)(j:Nat)(v:Value):EcAt rb gm gM N cb who e ms (Ms.setIfInBounds j v) K lv (w.setCell ⟨gM,j,none⟩ v):=by
 obtain⟨n1,n2,n3,n4,n5,n6⟩:=h.ne;exact⟨⟨(zq8 _ _ _ _ n2).trans h.d.dom,(zq8 _ _ _ _ n4).trans h.d.mar,zqn _ _ _ _ h.d.mem⟩,(zq8 _ _ _ _ n6.symm).trans h.c⟩
theorem EcAt.setC (h:EcAt rb gm gM N cb who e ms Ms K lv w)(j:Nat)(x:Value){K':CR}{lv':Value}(he:(crC who K lv).setIfInBounds j x=crC who K' lv'):EcAt rb gm gM N cb who e ms Ms K' lv' (w.setCell ⟨cb,j,none⟩ x):=by
 obtain⟨n1,n2,n3,n4,n5,n6⟩:=h.ne;exact⟨⟨(zq8 _ _ _ _ n3).trans h.d.dom,(zq8 _ _ _ _ n5).trans h.d.mar,(zq8 _ _ _ _ n6).trans h.d.mem⟩,h.c.set j x he⟩
theorem EcAt.fin (h:EcAt rb gm gM N cb who e ms Ms K lv w){w':World}{K':CR}{lv':Value}(k:Tch (λb=>b=cb) w w')(c:CrAt cb who K' lv' w'):EcAt rb gm gM N cb who e ms Ms K' lv' w':=by
 obtain⟨n1,n2,n3,n4,n5,n6⟩:=h.ne;exact⟨h.d.tch k n3 n5 n6,c⟩
abbrev TcE(gm gM cb:Nat)(rb:Nat):Nat->Prop:=λb=>b=gm\/b=gM\/b=cb\/b=rb
theorem zqfw(h:EcAt rb gm gM N cb who e ms Ms K lv w)(hp:K.ph=1):
 Calls Try.prog 42 #[.pointer (some ⟨rb,0,none⟩),.pointer (some ⟨cb,0,none⟩)] w λe' w'=>e'=.returned (.tuple #[])/\EcAt rb gm gM N cb who e ms Ms {K with e:=e,ph:=2} lv w'/\Tch (TcE gm gM cb rb) w w':=by
 obtain⟨d0,-,-⟩:=h.d.c;obtain⟨-,-,-,c3,c4,-,-,-,-,-⟩:=h.c.c;rw[hp]at c3;have f3:=zq6 (off:=3) h.c;have f4:=zq6 (off:=4) h.c;have H:=Lib.hid h;clear h
 go_enter Try.func42,Try.ntmps42
 go_wp2;refine bodyPost_ret (results_none rfl _ _ _) rfl ?_;refine⟨rfl,(H.out.setC 4 (.int .i64 e) (K':={K with e:=e}) rfl).setC 3 (.int .i64 (2:Nat)) rfl,((Tch.refl (TcE gm gM cb rb) _).set (.inr (.inr (.inl rfl))) _ _).set (.inr (.inr (.inl rfl))) _ _⟩
theorem zqfx(h:EcAt rb gm gM N cb who e ms Ms K lv w)(hp:K.ph=2)(hw:who<N)(hN:N<=64){x:Int}{y:Bool}(hm:ms[who]?=some (.int .i64 x))(hM:Ms[who*2]?=some (.bool y)):
 Calls Try.prog 42 #[.pointer (some ⟨rb,0,none⟩),.pointer (some ⟨cb,0,none⟩)] w λe' w'=>e'=.returned (.tuple #[])/\EcAt rb gm gM N cb who e (ms.setIfInBounds who (.int .i64 (IntKind.i64.wrap (K.e+1)))) (Ms.setIfInBounds (who*2) (.bool true)) (K.fin true K.e) lv w'/\Tch (TcE gm gM cb rb) w w':=by
 obtain⟨-,d1,d2⟩:=h.d.c;obtain⟨c0,-,-,c3,c4,-,-,-,-,-⟩:=h.c.c;rw[hp]at c3;have m0:w.cell? ⟨gm,who,none⟩=some (.int .i64 x):=(zq0 h.d.mar).trans hm;have fm:=zq6 (off:=who) h.d.mar;have g1:¬(who:Int)<0:=by omega
 have g2:(who:Int)<(N:Int):=by omega
 have g3:¬(N:Int)<=(who:Int):=by omega
 have g4:(0:Int)<=(who:Int):=by omega
 have H:=Lib.hid h;have HM:=Lib.hid hM;clear h hm hM hw
 go_enter Try.func42,Try.ntmps42
 go_wp2_with (fail)
 refine zq2u (k:=14) (C:=λw'=>∃n,w'=w.drewN n) (by kernel_rfl) (by kernel_rfl) (by kernel_rfl) (by kernel_rfl) (by kernel_rfl) ⟨1,rfl⟩ ?_;simp only[List.take_succ_cons,List.take_zero]
 repeat (quiet_step (fail))
 refine wpQuiet_nil ?_;rintro _ ⟨nq,rfl⟩;refine zq1c (i:=14) (by kernel_rfl) ?_;simp only[wpOp,al_gl,al_g0,al_g1];rw[if_pos (by rfl)];refine .inl ?_;have fm':(w.drewN nq).frozen? ⟨gm,who,none⟩=false:=fm;have m0':(w.drewN nq).cell? ⟨gm,who,none⟩=some (.int .i64 x):=m0;clear fm m0 d1 d2 c0 c3 c4;go_simp;refine zq1o (by kernel_rfl) ?_;have h1:=(H.out.drew nq).setM who (.int .i64 (IntKind.i64.wrap (K.e+1)));have k1:=((Tch.refl (TcE gm gM cb rb) _).drew nq).set (w:=w.drewN nq) (b:=gm) (.inl rfl) who (.int .i64 (IntKind.i64.wrap (K.e+1)));clear fm' m0';generalize (w.drewN nq).setCell ⟨gm,who,none⟩ (.int .i64 (IntKind.i64.wrap (K.e+1)))=w1 at h1 k1 |-;obtain⟨-,-,d2⟩:=h1.d.c;obtain⟨c0,-,-,-,c4,-,-,-,-,-⟩:=h1.c.c;have m1:w1.cell? ⟨gM,who*2,none⟩=some (.bool y):=(zq0 h1.d.mem).trans HM.out;have fM:=zq6 (off:=who*2) h1.d.mem;have H1:=Lib.hid (And.intro h1 k1);clear h1 k1
 go_wp2_with (fail)
 refine zq2u (k:=10) (C:=λw'=>∃n,w'=w1.drewN n) (by kernel_rfl) (by kernel_rfl) (by kernel_rfl) (by kernel_rfl) (by kernel_rfl) ⟨1,rfl⟩ ?_;simp only[List.take_succ_cons,List.take_zero]
 repeat (quiet_step (fail))
 refine wpQuiet_nil ?_;rintro _ ⟨nr,rfl⟩;refine zq1c (i:=10) (by kernel_rfl) ?_;simp only[wpOp,al_gl,al_g0,al_g1];rw[if_pos (by rfl)];refine .inl ?_;have fm':(w1.drewN nr).frozen? ⟨gM,who*2,none⟩=false:=fM;have m0':(w1.drewN nr).cell? ⟨gM,who*2,none⟩=some (.bool y):=m1;clear fM m1 d2 c0 c4;go_simp;refine zq1o (by kernel_rfl) ?_;have h2:=(H1.out.1.drew nr).setI (who*2) (.bool true);have k2:=(H1.out.2.drew nr).set (w:=w1.drewN nr) (b:=gM) (.inr (.inl rfl)) (who*2) (.bool true);clear fm' m0';generalize (w1.drewN nr).setCell ⟨gM,who*2,none⟩ (.bool true)=w2 at h2 k2 |-;obtain⟨-,-,-⟩:=h2.d.c;obtain⟨-,-,-,-,c4,-,-,-,-,-⟩:=h2.c.c;have HE:=Lib.hid (zq1h h2.c true K.e);have H2:=Lib.hid (And.intro h2 k2);clear h2 k2
 go_wp2_with (fail)
 refine Calls.mono HE.out ?_;rintro e' w' ⟨rfl,k3,k4⟩;have H3:=Lib.hid (And.intro k3 k4);clear k3 k4 c4;go_wp2
 go_end0
 exact⟨rfl,H2.out.1.fin H3.out.2 H3.out.1,H2.out.2.trans (H3.out.2.mono λb hb=>.inr (.inr (.inl hb)))⟩
end
section
variable {cb who:Nat} {K:CR} {lv:Value} {w:World} {rb gm gM N:Nat} {e:Int} {ms Ms:Array Value}
theorem zqfg(h:EcAt rb gm gM N cb who e ms Ms K lv w)(hp:K.ph=1):
 Calls Try.prog 43 #[.pointer (some ⟨rb,0,none⟩),.pointer (some ⟨cb,0,none⟩)] w λe' w'=>e'=.returned (.tuple #[])/\EcAt rb gm gM N cb who e ms Ms {K with e:=e,ph:=2} lv w'/\Tch (TcE gm gM cb rb) w w':=by
 obtain⟨d0,-,-⟩:=h.d.c;obtain⟨-,-,-,c3,c4,-,-,-,-,-⟩:=h.c.c;rw[hp]at c3;have f3:=zq6 (off:=3) h.c;have f4:=zq6 (off:=4) h.c;have H:=Lib.hid h;clear h
 go_enter Try.func43,Try.ntmps43
 go_wp2
 go_end0
 refine⟨rfl,(H.out.setC 4 (.int .i64 e) (K':={K with e:=e}) rfl).setC 3 (.int .i64 (2:Nat)) rfl,((Tch.refl (TcE gm gM cb rb) _).set (.inr (.inr (.inl rfl))) _ _).set (.inr (.inr (.inl rfl))) _ _⟩
def advK(N:Nat)(x:Int)(K:CR):CR:=
 if x≠0/\x≠wrap64 (K.e+1)then CR.fin {K with i:=K.i+1} true 0 else if K.i+1=N then{K with i:=K.i+1,ph:=3}else{K with i:=K.i+1}
theorem zqfh(h:EcAt rb gm gM N cb who e ms Ms K lv w)(hp:K.ph=2)(hi:K.i<N)(hN:N<=64){x:Int}(hm:ms[K.i]?=some (.int .i64 x)):
 Calls Try.prog 43 #[.pointer (some ⟨rb,0,none⟩),.pointer (some ⟨cb,0,none⟩)] w λe' w'=>e'=.returned (.tuple #[])/\EcAt rb gm gM N cb who e ms Ms (advK N x K) lv w'/\Tch (TcE gm gM cb rb) w w':=by
 obtain⟨-,d1,-⟩:=h.d.c;obtain⟨-,-,-,c3,c4,c5,-,-,-,-⟩:=h.c.c;rw[hp]at c3;have f5:=zq6 (off:=5) h.c;have f3:=zq6 (off:=3) h.c;have m0:w.cell? ⟨gm,K.i,none⟩=some (.int .i64 x):=(zq0 h.d.mar).trans hm;obtain⟨I,hI⟩:∃I,K.i=I:=⟨_,rfl⟩;rw[hI]at hi m0 c5;have g1:¬(I:Int)<0:=by omega
 have g2:(I:Int)<(N:Int):=by omega
 have g3:¬(N:Int)<=(I:Int):=by omega
 have g4:(0:Int)<=(I:Int):=by omega
 have H:=Lib.hid (And.intro h (And.intro hI hi));clear h hm hI
 go_enter Try.func43,Try.ntmps43
 go_wp2_with (fail)
 go_quiet (fail)
 replace f5:(w.drewN nq).frozen? ⟨cb,5,none⟩=false:=f5;replace c5:(w.drewN nq).cell? ⟨cb,5,none⟩=some (.int .i64 I):=c5;replace f3:(w.drewN nq).frozen? ⟨cb,3,none⟩=false:=f3;replace c4:(w.drewN nq).cell? ⟨cb,4,none⟩=some (.int .i64 K.e):=c4;clear m0 d1 c3 g1 g2 g3 g4
 by_cases h0:x=0
 . have hx:¬(x≠0/\x≠wrap64 (K.e+1)):=λh=>h.1 h0;subst h0
   go_wp2_with (fail)
   have HX:=Lib.hid hx;clear hx;have h1:=(H.out.1.drew nq).setC 5 (.int .i64 ((I:Int)+1)) (K':={K with i:=I+1}) rfl;have k1:=((Tch.refl (TcE gm gM cb rb) _).drew nq).set (w:=w.drewN nq) (b:=cb) (.inr (.inr (.inl rfl))) 5 (.int .i64 ((I:Int)+1));clear c5 f5 c4 f3;generalize (w.drewN nq).setCell ⟨cb,5,none⟩ (.int .i64 ((I:Int)+1))=w1 at h1 k1 |-;obtain⟨-,d1,-⟩:=h1.d.c;obtain⟨-,-,-,c3,-,c5,-,-,-,-⟩:=h1.c.c;have f3:=zq6 (off:=3) h1.c;replace c5:w1.cell? ⟨cb,5,none⟩=some (.int .i64 ((I:Int)+1)):=c5;have H1:=Lib.hid (And.intro h1 k1);clear h1 k1
   go_wp2_with (fail)
   go_quiet (fail)
   replace c3:(w1.drewN nq).cell? ⟨cb,3,none⟩=some (.int .i64 K.ph):=c3
   by_cases hl:I+1=N
   . have hl':(((I:Int)+1)==(N:Int))=true:=by simp;omega
     replace f3:(w1.drewN nq).frozen? ⟨cb,3,none⟩=false:=f3;clear c5 d1;go_wp2
     all_goals(try omega)
     go_end0
     refine⟨rfl,?_,(H1.out.2.drew nq).set (.inr (.inr (.inl rfl))) _ _⟩;have:=(H1.out.1.drew nq).setC 3 (.int .i64 (3:Nat)) (K':={K with i:=I+1,ph:=3}) rfl;rw[show advK N 0 K={K with i:=I+1,ph:=3}by unfold advK;rw[H.out.2.1,if_neg HX.out,if_pos hl]];exact this
   . have hl':(((I:Int)+1)==(N:Int))=false:=by simp;omega
     clear c5 d1 f3;go_wp2
     all_goals(try omega)
     go_end0
     refine⟨rfl,?_,H1.out.2.drew nq⟩;rw[show advK N 0 K={K with i:=I+1}by unfold advK;rw[H.out.2.1,if_neg HX.out,if_neg hl]];exact H1.out.1.drew nq
 by_cases h00:x=wrap64 (K.e+1)
 . have hx:¬(x≠0/\x≠wrap64 (K.e+1)):=λh=>h.2 h00;have b0:(x !=0)=true:=by simpa using h0
   have b1:(x !=wrap64 (K.e+1))=false:=by simpa using h00
   go_wp2_with (fail)
   all_goals(try(exfalso;first|omega |(simp_all;done)))
   try clear b0
   try clear b1
   have HX:=Lib.hid hx;clear hx;have h1:=(H.out.1.drew nq).setC 5 (.int .i64 ((I:Int)+1)) (K':={K with i:=I+1}) rfl;have k1:=((Tch.refl (TcE gm gM cb rb) _).drew nq).set (w:=w.drewN nq) (b:=cb) (.inr (.inr (.inl rfl))) 5 (.int .i64 ((I:Int)+1));clear c5 f5 c4 f3;generalize (w.drewN nq).setCell ⟨cb,5,none⟩ (.int .i64 ((I:Int)+1))=w1 at h1 k1 |-;obtain⟨-,d1,-⟩:=h1.d.c;obtain⟨-,-,-,c3,-,c5,-,-,-,-⟩:=h1.c.c;have f3:=zq6 (off:=3) h1.c;replace c5:w1.cell? ⟨cb,5,none⟩=some (.int .i64 ((I:Int)+1)):=c5;have H1:=Lib.hid (And.intro h1 k1);clear h1 k1
   go_wp2_with (fail)
   go_quiet (fail)
   replace c3:(w1.drewN nq).cell? ⟨cb,3,none⟩=some (.int .i64 K.ph):=c3
   by_cases hl:I+1=N
   . have hl':(((I:Int)+1)==(N:Int))=true:=by simp;omega
     replace f3:(w1.drewN nq).frozen? ⟨cb,3,none⟩=false:=f3;clear c5 d1;go_wp2
     all_goals(try omega)
     go_end0
     refine⟨rfl,?_,(H1.out.2.drew nq).set (.inr (.inr (.inl rfl))) _ _⟩;have:=(H1.out.1.drew nq).setC 3 (.int .i64 (3:Nat)) (K':={K with i:=I+1,ph:=3}) rfl;rw[show advK N x K={K with i:=I+1,ph:=3}by unfold advK;rw[H.out.2.1,if_neg HX.out,if_pos hl]];exact this
   . have hl':(((I:Int)+1)==(N:Int))=false:=by simp;omega
     clear c5 d1 f3;go_wp2
     all_goals(try omega)
     go_end0
     refine⟨rfl,?_,H1.out.2.drew nq⟩;rw[show advK N x K={K with i:=I+1}by unfold advK;rw[H.out.2.1,if_neg HX.out,if_neg hl]];exact H1.out.1.drew nq
 . have hx:x≠0/\x≠wrap64 (K.e+1):=⟨h0,h00⟩;have b0:(x !=0)=true:=by simpa using h0
   have b1:(x !=wrap64 (K.e+1))=true:=by simpa using h00
   go_wp2_with (fail)
   all_goals(try(exfalso;first|omega |(simp_all;done)))
   have HX:=Lib.hid hx;clear hx
   try clear b0
   try clear b1
   have h1:=(H.out.1.drew nq).setC 5 (.int .i64 ((I:Int)+1)) (K':={K with i:=I+1}) rfl;have k1:=((Tch.refl (TcE gm gM cb rb) _).drew nq).set (w:=w.drewN nq) (b:=cb) (.inr (.inr (.inl rfl))) 5 (.int .i64 ((I:Int)+1));clear c5 f5 c4 f3;generalize (w.drewN nq).setCell ⟨cb,5,none⟩ (.int .i64 ((I:Int)+1))=w1 at h1 k1 |-;have HE:=Lib.hid (zq1h h1.c true 0);have H1:=Lib.hid (And.intro h1 k1);clear h1 k1;refine Calls.mono HE.out ?_;rintro e' w' ⟨rfl,k3,k4⟩;have H3:=Lib.hid (And.intro k3 k4);clear k3 k4;go_wp2
   go_end0
   refine⟨rfl,?_,H1.out.2.trans (H3.out.2.mono λb hb=>.inr (.inr (.inl hb)))⟩;rw[show advK N x K=CR.fin {K with i:=I+1} true 0 by unfold advK;rw[H.out.2.1,if_pos HX.out]];exact H1.out.1.fin H3.out.2 H3.out.1
end
end Go.Proofs
