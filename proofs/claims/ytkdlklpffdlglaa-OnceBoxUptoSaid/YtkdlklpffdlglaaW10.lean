/- YtkdlklpffdlglaaBox15: part 10 of the proof (the texts behind it, in order). -/
import Derived.Test.YtkdlklpffdlglaaW09
set_option maxHeartbeats 4000000
set_option maxRecDepth 100000
set_option linter.all false
namespace Go.Car
open Go Go.Conc Go.RowKit
section
variable {P:Program}
end
section
variable {P:Program} {A:FuncId->Bool} {Ml S α:Type} {C:Core Ml S} {ro:Nat->Option Obj} {i:Nat}
structure LoneAt(C:Core Ml S)(ro:Nat->Option Obj)(i cf:Nat)(m₀:BM Ml)(w₀:World)(T:S×Option α×Nat)(m:BM Ml)(w:World)(r:S×Tree S α):Prop where
 rep:BRep C ro m w
 size:w₀.heap.size<=w.heap.size
 old:∀b,b<w₀.heap.size->¬BM.foot C ro m₀ b->w.heap[b]?=w₀.heap[b]?
 grow:∀b,BM.foot C ro m b->BM.foot C ro m₀ b\/w₀.heap.size<=b
 run:∃n,r.2.run r.1=(T.1,T.2.1,n)/\(∃a,T.2.1=some a)/\C.pin m.l+cf*n=C.pin m₀.l+cf*T.2.2
 others:∀j,j≠i->m.box j=m₀.box j
theorem LoneAt.done {cf:Nat}{m₀:BM Ml}{w₀:World}{T:S×Option α×Nat}{m:BM Ml}{w w':World}{r:S×Tree S α}{l':Ml}{B':Nat->Option Obj}(h:LoneAt C ro i cf m₀ w₀ T m w r)(k:Moved C m.l (m.box i) w l' B' w'):LoneAt C ro i cf m₀ w₀ T (m.put i l' B') w' r:=by
 refine⟨k.done h.rep,Nat.le_trans h.size k.size,λb hb hf=>?_,λb hb=>?_,?_,λj hj=>(BM.put_other _ _ _ hj).trans (h.others j hj)⟩
 . rw[Moved.foot_old h.rep k b (Nat.lt_of_lt_of_le hb h.size) λhf'=>(h.grow b hf').elim hf (λx=>absurd hb (Nat.not_lt_of_le x))];exact h.old b hb hf
 . exact(k.foot_grow b hb).elim (h.grow b) (λx=>.inr (Nat.le_trans h.size x))
 . obtain⟨n,h1,h2,h3⟩:=h.run;exact⟨n,h1,h2,by rw[BM.put_l,k.pin];exact h3⟩
def zq8i(hP:Plain P A){main:Bool}{Kc:Addr->Option Value}{J:Goroutine->World->Prop}(hJ:JS P main Kc (λ(_:Unit)=>J))(hC:CalmJ P main (λ(_:Unit)=>J))(C:Core Ml S)(ro:Nat->Option Obj)(i cf:Nat)(m₀:BM Ml)(w₀:World)(T:S×Option α×Nat):Alone P A C ro i α where
 main:=main
 γ:=Unit
 J _:=J
 js _:=⟨Kc,hJ⟩
 AtE _ m w r:=LoneAt C ro i cf m₀ w₀ T m w r
 Dead _ _ _:=False
 Oth _ _:=True
 oth _:=trivial
 rep h:=h.rep
 move h k _:=h.done k
 item {s m w r it t ds} Φ Ψ h hok hw:=by
  intro b k cs hb hk;refine wpI_lone (J:=λ(_:Unit)=>J) (s:=()) (A:=A) (a:=⟨t,ds⟩) (w:=w)
   (Q:=λ_ e a w'=>a.defers=ds/\∃l' B',((e=.normal/\Φ a.tmps l' B')\/(e=.ret/\Ψ a.tmps l' B'))/\LoneAt C ro i cf m₀ w₀ T (m.put i l' B') w' r) hJ hC hP hok
   (λa w'=>∃l' B',Moved C m.l (m.box i) w l' B' w'/\Φ a.tmps l' B') (λa w'=>∃l' B',Moved C m.l (m.box i) w l' B' w'/\Ψ a.tmps l' B')
   (λa w' τ d⟨l',B',h2,h3⟩=>⟨l',B',h2.re τ d,h3⟩) (λa w' τ d⟨l',B',h2,h3⟩=>⟨l',B',h2.re τ d,h3⟩) ?_ ?_ ?_ b k cs hb ?_
  . intro τ d;refine zq2s (hw (Car.re w τ d) (h.rep.re τ d) rfl) ?_;intro e a w' q;cases e with
    |normal=>obtain⟨q1,l',B',⟨q2,_⟩,q3⟩:=q;exact⟨q1,l',B',⟨q2.size,q2.old,q2.rep,q2.box,q2.growl,q2.growb,q2.apart,q2.pin⟩,q3⟩
    |ret=>obtain⟨q1,l',B',⟨q2,_⟩,q3⟩:=q;exact⟨q1,l',B',⟨q2.size,q2.old,q2.rep,q2.box,q2.growl,q2.growb,q2.apart,q2.pin⟩,q3⟩
    |_=>exact q
  . rintro t' w' ⟨l',B',h2,h3⟩;exact⟨rfl,l',B',.inl ⟨rfl,h3⟩,h.done h2⟩
  . rintro t' w' ⟨l',B',h2,h3⟩;exact⟨rfl,l',B',.inr ⟨rfl,h3⟩,h.done h2⟩
  . rintro _ e a w' ⟨h1,l',B',h2,h3⟩;have:=hk s e a w' ⟨rfl,h1,l',B',h2,h3⟩;cases e<;>exact this
 call {s m w r g fn c args} R' h hf hb hok hw:=by
  intro cl cs h1 h2;refine zq6w (J:=λ(_:Unit)=>J) (s:=()) (A:=A) (w:=w) hJ hC hP hf hb hok (R:=λv w'=>∃l' B',Moved C m.l (m.box i) w l' B' w'/\R' v l' B')
   (λv w' τ d⟨l',B',h2,h3⟩=>⟨l',B',h2.re τ d,h3⟩) ?_ cl cs ?_ ?_
  . intro τ d;refine Calls.mono (hw (Car.re w τ d) (h.rep.re τ d) rfl) ?_;intro e w' q;cases e with
    |returned v=>obtain⟨l',B',⟨q2,_⟩,q3⟩:=q;exact⟨l',B',⟨q2.size,q2.old,q2.rep,q2.box,q2.growl,q2.growb,q2.apart,q2.pin⟩,q3⟩
    |_=>exact q
  . rintro s' v w' ⟨_,l',B',k1,k2⟩;exact h1 () v w' ⟨rfl,v,l',B',rfl,k2,h.done k1⟩
  . rintro s' ch w' hf';exact hf'.elim
abbrev seqSys(hP:Plain P A){main:Bool}{Kc:Addr->Option Value}{J:Goroutine->World->Prop}(hJ:JS P main Kc (λ(_:Unit)=>J))(hC:CalmJ P main (λ(_:Unit)=>J))(C:Core Ml S)(ro:Nat->Option Obj)(i cf:Nat)(m₀:BM Ml)(w₀:World)(T:S×Option α×Nat):YSys P A C ro i α:=(zq8i hP hJ hC C ro i cf m₀ w₀ T).sys (λ_=>True)
theorem LoneAt.skip {m₀:BM Ml}{w₀:World}{T:S×Option α×Nat}{m:BM Ml}{w:World}{K:Unit->Proc S α}(h:LoneAt C ro i 0 m₀ w₀ T m w (Proc.tick.bind K (C.st m.l))):LoneAt C ro i 0 m₀ w₀ T m w (K () (C.st m.l)):=by
 refine⟨h.rep,h.size,h.old,h.grow,?_,h.others⟩;obtain⟨n,h1,h2,h3⟩:=h.run;have e:(Proc.tick.bind K (C.st m.l)).2.run (Proc.tick.bind K (C.st m.l)).1=(((K ()).run (C.st m.l)).1,((K ()).run (C.st m.l)).2.1,((K ()).run (C.st m.l)).2.2+1):=rfl;rw[e]at h1;refine⟨((K ()).run (C.st m.l)).2.2,?_,h2,by omega⟩;show(K ()).run (C.st m.l)=_;have a1:=congrArg (λx=>x.1) h1;have a2:=congrArg (λx=>x.2.1) h1;exact Prod.ext a1 (Prod.ext a2 rfl)
end
end Go.Car
namespace Go.Proofs
open Go Go.Conc Go.RowKit Go.Car
theorem zq5n(ad:Addr)(x:Int)(w:World)(h0:w.cell? ad=some (.int .i64 x)):
 Calls Try.prog 47 #[.pointer (some ad)] w λe w'=>e=.returned (.int .i64 x)/\w'=w:=by
 have hl:=run_call_load (P:=Try.prog) Try.func71 (by kernel_rfl) (by kernel_rfl) (by kernel_rfl) .i64 (by kernel_rfl) h0
 go_enter Try.func47,Try.ntmps47
 go_wp2;go_ret;exact⟨rfl,rfl⟩
theorem zqhw(ad:Addr)(x y:Int)(w:World)(h0:w.cell? ad=some (.int .i64 x))(f0:w.frozen? ad=false):
 Calls Try.prog 58 #[.pointer (some ad),.int .i64 y] w λe w'=>e=.returned (.tuple #[])/\w'=w.setCell ad (.int .i64 y):=by
 have hl:=run_call_store (P:=Try.prog) Try.func77 (by kernel_rfl) (by kernel_rfl) (by kernel_rfl) (by kernel_rfl) (k:=.i64) (y:=y) h0 f0
 go_enter Try.func58,Try.ntmps58
 go_wp2
 go_end0
 exact⟨rfl,rfl⟩
theorem add_lone(ad:Addr)(x y:Int)(w:World)(h0:w.cell? ad=some (.int .i64 x))(f0:w.frozen? ad=false):
 Calls Try.prog 57 #[.pointer (some ad),.int .i64 y] w λe w'=>e=.returned (.int .i64 (IntKind.i64.wrap (x+y)))/\w'=w.setCell ad (.int .i64 (IntKind.i64.wrap (x+y))):=by
 have hl:=run_call_add (P:=Try.prog) Try.func76 (by kernel_rfl) (by kernel_rfl) (by kernel_rfl) .i64 (by kernel_rfl) (y:=y) (s:=IntKind.i64.wrap (x+y)) h0 f0 (by rfl)
 go_enter Try.func57,Try.ntmps57
 go_wp2;go_ret;have hw:wrap64 (x+y)=IntKind.i64.wrap (x+y):=by rw[IntKind.wrap_i64];simp only[wrap64]
 rw[hw];exact⟨rfl,rfl⟩
theorem zqbk(ad:Addr)(x y:Int)(w:World)(h0:w.cell? ad=some (.int .i64 x))(f0:w.frozen? ad=false):
 Calls Try.prog 55 #[.pointer (some ad),.int .i64 x,.int .i64 y] w λe w'=>e=.returned (.bool true)/\w'=w.setCell ad (.int .i64 y):=by
 have hl:=run_call_cas_hit (P:=Try.prog) Try.func75 (by kernel_rfl) (by kernel_rfl) (by kernel_rfl) .i64 (by kernel_rfl) (y:=y) h0 f0
 go_enter Try.func55,Try.ntmps55
 go_wp2;go_ret;exact⟨rfl,rfl⟩
theorem zqbl(ad:Addr)(x o y:Int)(w:World)(h0:w.cell? ad=some (.int .i64 x))(f0:w.frozen? ad=false)(hne:¬x=o):
 Calls Try.prog 55 #[.pointer (some ad),.int .i64 o,.int .i64 y] w λe w'=>e=.returned (.bool false)/\w'=w:=by
 have hl:=run_call_cas_miss (P:=Try.prog) Try.func75 (by kernel_rfl) (by kernel_rfl) (by kernel_rfl) .i64 (by kernel_rfl) (y:=y) h0 f0 hne
 go_enter Try.func55,Try.ntmps55
 go_wp2;go_ret;exact⟨rfl,rfl⟩
def getN(c j:Nat)(g:Nums):Nums×Int:=(g,g c j)
def putN(c j:Nat)(x:Int)(g:Nums):Nums×Unit:=(upd2 g c j x,())
def addN(c j:Nat)(x:Int)(g:Nums):Nums×Int:=(upd2 g c j (IntKind.i64.wrap (g c j+x)),IntKind.i64.wrap (g c j+x))
def casN(c j:Nat)(o x:Int)(g:Nums):Nums×Bool:=if g c j=o then(upd2 g c j x,true)else(g,false)
section
variable {M2 S2 β:Type} {D:Core M2 S2} {ro:Nat->Option Obj} {i:Nat} {T:NumT}
structure zq6k(Y:YSys Try.prog aM (zq7 (zqz T) D) ro i β):Prop where
 load:∀c j,c<T.N->j<T.len c->SpecY Y 47 #[.pointer (some ⟨T.ob c,j,none⟩)] (onN (getN c j)) (λx=>.int .i64 x)
 store:∀c j x,c<T.N->j<T.len c->SpecY Y 58 #[.pointer (some ⟨T.ob c,j,none⟩),.int .i64 x] (onN (putN c j x)) (λ_=>.tuple #[])
 add:∀c j x,c<T.N->j<T.len c->SpecY Y 57 #[.pointer (some ⟨T.ob c,j,none⟩),.int .i64 x] (onN (addN c j x)) (λx=>.int .i64 x)
 cas:∀c j o x,c<T.N->j<T.len c->SpecY Y 55 #[.pointer (some ⟨T.ob c,j,none⟩),.int .i64 o,.int .i64 x] (onN (casN c j o x)) (λb=>.bool b)
theorem zq82(Z:Alone Try.prog aM (zq7 (zqz T) D) ro i β){I:Nums×S2->Prop}(hI:∀g g' s,I (g,s)->I (g',s))(hO:∀g g' s,Z.Oth (g,s) (g',s)):zq6k (Z.sys I) where
 load c j hc hj:=by
  refine Z.act Try.func47 rfl (by kernel_rfl) (λs h=>h) (λs=>Z.oth s) λm wc hB=>Calls.mono (zq5n _ _ wc ((zq1w hB wc.tape wc.drawn).cell hc hj)) ?_;rintro e w' ⟨rfl,rfl⟩;exact⟨m.l,Moved.ext hB (Ext.refl _),rfl,rfl⟩
 store c j x hc hj:=by
  refine Z.act Try.func58 rfl (by kernel_rfl) (λs h=>hI _ _ _ h) (λs=>hO _ _ _) λm wc hB=>Calls.mono (zqhw _ _ x wc ((zq1w hB wc.tape wc.drawn).cell hc hj) ((zq1w hB wc.tape wc.drawn).frozen hc)) ?_;rintro e w' ⟨rfl,rfl⟩;exact⟨_,zq5q hB hc x wc.tape wc.drawn _ _,rfl,rfl⟩
 add c j x hc hj:=by
  refine Z.act Try.func57 rfl (by kernel_rfl) (λs h=>hI _ _ _ h) (λs=>hO _ _ _) λm wc hB=>Calls.mono (add_lone _ _ x wc ((zq1w hB wc.tape wc.drawn).cell hc hj) ((zq1w hB wc.tape wc.drawn).frozen hc)) ?_;rintro e w' ⟨rfl,rfl⟩;exact⟨_,zq5q hB hc _ wc.tape wc.drawn _ _,rfl,rfl⟩
 cas c j o x hc hj:=by
  refine Z.act (g:=λs=>(((casN c j o x s.1).1,s.2),(casN c j o x s.1).2)) Try.func55 rfl (by kernel_rfl) (λs h=>hI _ _ _ h) (λs=>hO _ _ _) λm wc hB=>?_;have hst:(zq7 (zqz T) D).st m.l=(m.l.1,D.st m.l.2):=rfl
  by_cases h:m.l.1 c j=o
  . have hcell:=(zq1w hB wc.tape wc.drawn).cell hc hj;rw[h]at hcell;refine Calls.mono (zqbk _ _ x wc hcell ((zq1w hB wc.tape wc.drawn).frozen hc)) ?_;rintro e w' ⟨rfl,rfl⟩;refine⟨_,zq5q hB hc x wc.tape wc.drawn _ _,?_,?_⟩
    . rw[hst];unfold casN;rw[if_pos h];rfl
    . rw[hst];unfold casN;rw[if_pos h]
  . refine Calls.mono (zqbl _ _ o x wc ((zq1w hB wc.tape wc.drawn).cell hc hj) ((zq1w hB wc.tape wc.drawn).frozen hc) h) ?_;rintro e w' ⟨rfl,rfl⟩;refine⟨m.l,Moved.ext hB (Ext.refl _),?_,?_⟩
    . rw[hst];unfold casN;rw[if_neg h]
    . rw[hst];unfold casN;rw[if_neg h]
end
def getP{S2:Type}(c:Nat):Proc (Nums×S2) (Int×Bool):=(Proc.tick.bind λ_=>onN (getN c 0)).bind λx=>if x=2 then(Proc.tick.bind λ_=>onN (getN c 1)).bind λv=>Proc.ret (v,true)else Proc.ret (0,false)
def finP{S2:Type}(c:Nat)(v:Int):Proc (Nums×S2) Unit:=(Proc.tick.bind λ_=>onN (putN c 1 v)).bind λ_=>Proc.tick.bind λ_=>onN (putN c 0 2)
def setP{S2:Type}(c:Nat)(v:Int):Proc (Nums×S2) (Int×Bool):=(Proc.tick.bind λ_=>onN (casN c 0 0 1)).bind λb=>if b=true then(finP c v).bind λ_=>Proc.ret (v,true)else(getP c).bind λx=>Proc.ret (x.1,false)
abbrev pairV(x:Int×Bool):Value:=.tuple #[.int .i64 x.1,.bool x.2]
section
variable {M2 S2 β:Type} {D:Core M2 S2} {ro:Nat->Option Obj} {i:Nat} {T:NumT}
structure OnceAtoms(Y:YSys Try.prog aM (zq7 (zqz T) D) ro i β)(sv:Value):Prop where
 len:∀c,c<T.N->T.len c=3
 num:zq6k Y
 step:StepY Y 48 #[sv]
section
variable {Y:YSys Try.prog aM (zq7 (zqz T) D) ro i β} {sv:Value} (hst:OnceAtoms Y sv) {c:Nat} (hc:c<T.N)
include hst hc
theorem OnceAtoms.load {j:Nat}(hj:j<3):SpecY Y 47 #[.pointer (some ⟨T.ob c,j,none⟩)] (onN (getN c j)) (λx=>.int .i64 x):=hst.num.load c j hc (by rw[hst.len c hc];exact hj)
theorem OnceAtoms.store {j:Nat}(hj:j<3)(x:Int):SpecY Y 58 #[.pointer (some ⟨T.ob c,j,none⟩),.int .i64 x] (onN (putN c j x)) (λ_=>.tuple #[]):=hst.num.store c j x hc (by rw[hst.len c hc];exact hj)
theorem OnceAtoms.add {j:Nat}(hj:j<3)(x:Int):SpecY Y 57 #[.pointer (some ⟨T.ob c,j,none⟩),.int .i64 x] (onN (addN c j x)) (λx=>.int .i64 x):=hst.num.add c j x hc (by rw[hst.len c hc];exact hj)
theorem OnceAtoms.cas {j:Nat}(hj:j<3)(o x:Int):SpecY Y 55 #[.pointer (some ⟨T.ob c,j,none⟩),.int .i64 o,.int .i64 x] (onN (casN c j o x)) (λb=>.bool b):=hst.num.cas c j o x hc (by rw[hst.len c hc];exact hj)
end
theorem zq7g(Y:YSys Try.prog aM (zq7 (zqz T) D) ro i β)(c:Nat)(K:Int×Bool->Proc (Nums×S2) β):Y.sil ((getP c).bind K):=by
 rw[getP,Proc.bind_bind,Proc.bind_bind];exact Y.sil_tick _
theorem zq5d(Y:YSys Try.prog aM (zq7 (zqz T) D) ro i β)(c:Nat)(v:Int)(K:Unit->Proc (Nums×S2) β):Y.sil ((finP c v).bind K):=by
 rw[finP,Proc.bind_bind,Proc.bind_bind];exact Y.sil_tick _
theorem zq5g(Y:YSys Try.prog aM (zq7 (zqz T) D) ro i β){sv:Value}(hst:OnceAtoms Y sv){c:Nat}(hc:c<T.N):
 SpecB Y 25 #[.pointer (some ⟨T.ob c,0,none⟩),sv] (getP c) pairV:=by
 refine SpecB.of Try.func25 rfl ?_;intro K s B w hK hA;simp only[zqk,Try.ntmps25,List.size_toArray,List.length_cons,List.length_nil,Nat.reduceAdd,Nat.reduceSub,Array.replicate_succ,Array.replicate_zero,List.push_toArray,List.append_toArray,List.nil_append,List.cons_append];apply YSys.seq0 hA (by kernel_rfl)
 . intro wc hB;go_wp2;exact⟨rfl,Ext1.refl _,rfl⟩
 intro w hA;refine zqh Y.jc ?_;apply YSys.seq0 hA (by kernel_rfl)
 . intro wc hB;go_wp2;exact⟨rfl,Ext1.refl _,rfl⟩
 intro w hA;refine zqx Y.jc rfl (zq1e Y.jc ?_);show wpJ Y.J _ _ _ _ _;refine zqh Y.jc (zqv Y.jc ?_);rw[getP,Proc.bind_bind,Proc.bind_bind]at hA;apply YSys.callS 0 1 0 hA hst.step rfl rfl rfl (by rfl) rfl rfl rfl
 . intro wc hB X hX;have HX:=Lib.hid hX;clear hX;go_wp2;exact HX.out _ (Ext1.refl _)
 . intro w;simp[go_sem,execOp,Act.eval,resolve,Deferred.ofValue,invoke,callFunc,Try.func48,Try.f48]
 . intro w;simp[go_sem,execOp,Act.eval,resolve,Deferred.ofValue,invoke,callFunc,Try.func48,Try.f48]
 . intro s' ch w' h;exact⟨rfl,h⟩
 intro s w hA;refine zq17 Y.jc ?_;show wpJ Y.J _ _ _ _ _;refine zqh Y.jc ?_;refine zqh Y.jc (zqv Y.jc ?_);apply YSys.callR 0 3 1 hA (hst.load hc (j:=0) (by decide)) (λx=>by split<;>first|exact hK _|(rw[Proc.bind_bind,Proc.bind_bind];exact Y.sil_tick _)) rfl rfl rfl (by rfl) rfl rfl rfl
 . intro wc hB X hX;have HX:=Lib.hid hX;clear hX;go_wp2;exact HX.out _ (Ext1.refl _)
 . intro w;simp[go_sem,execOp,Act.eval,resolve,Deferred.ofValue,invoke,callFunc,Try.func47,Try.f47]
 . intro w;simp[go_sem,execOp,Act.eval,resolve,Deferred.ofValue,invoke,callFunc,Try.func47,Try.f47]
 . intro s' ch w' h;exact⟨rfl,h⟩
 intro s x w hA;apply YSys.ops0 4 1 hA rfl rfl (by kernel_rfl)
 . intro wc hB;go_wp2;exact⟨rfl,Ext1.refl _,rfl⟩
 intro w hA;show wpJ Y.J _ _ _ _ _
 by_cases hx:x=2
 . rw[if_pos hx]at hA;refine zqx Y.jc rfl ?_;rw[if_neg (by simp[hx])];refine zq1e Y.jc ?_;show wpJ Y.J _ _ _ _ _;refine zqh Y.jc (zqv Y.jc ?_);rw[Proc.bind_bind,Proc.bind_bind]at hA;apply YSys.callS 0 1 0 hA hst.step rfl rfl rfl (by rfl) rfl rfl rfl
   . intro wc hB X hX;have HX:=Lib.hid hX;clear hX;go_wp2;exact HX.out _ (Ext1.refl _)
   . intro w;simp[go_sem,execOp,Act.eval,resolve,Deferred.ofValue,invoke,callFunc,Try.func48,Try.f48]
   . intro w;simp[go_sem,execOp,Act.eval,resolve,Deferred.ofValue,invoke,callFunc,Try.func48,Try.f48]
   . intro s' ch w' h;exact⟨rfl,h⟩
   intro s w hA;refine zq17 Y.jc ?_;show wpJ Y.J _ _ _ _ _;refine zqh Y.jc (zqv Y.jc ?_);apply YSys.callR 0 3 2 hA (hst.load hc (j:=1) (by decide)) (λ_=>hK _) rfl rfl rfl (by rfl) rfl rfl rfl
   . intro wc hB X hX;have HX:=Lib.hid hX;clear hX;go_wp2;exact HX.out _ (Ext1.refl _)
   . intro w;simp[go_sem,execOp,Act.eval,resolve,Deferred.ofValue,invoke,callFunc,Try.func47,Try.f47]
   . intro w;simp[go_sem,execOp,Act.eval,resolve,Deferred.ofValue,invoke,callFunc,Try.func47,Try.f47]
   . intro s' ch w' h;exact⟨rfl,h⟩
   intro s x w hA;apply YSys.ops0 4 2 hA rfl rfl (by kernel_rfl)
   . intro wc hB;go_wp2;exact⟨rfl,Ext1.refl _,rfl⟩
   intro w hA;show wpJ Y.J _ _ _ _ _;refine zq1b Y.jc ?_;exact⟨rfl,.inl ⟨_,resultsC_tmp2 rfl _,_,rfl,hA⟩⟩
 . rw[if_neg hx]at hA;refine zqx Y.jc rfl ?_;rw[if_pos (by simpa using hx)];apply YSys.seq0 hA (by kernel_rfl)
   . intro wc hB;go_wp2;exact⟨rfl,Ext1.refl _,rfl⟩
   intro w hA;refine zq1b Y.jc ?_;exact⟨rfl,.inl ⟨_,resultsC_tmp2 rfl _,_,rfl,hA⟩⟩
end
section
variable {M2 S2 β:Type} {D:Core M2 S2} {ro:Nat->Option Obj} {i:Nat} {T:NumT}
theorem zq7b(Y:YSys Try.prog aM (zq7 (zqz T) D) ro i β){sv:Value}(hst:OnceAtoms Y sv){c:Nat}(hc:c<T.N)(v:Int):
 SpecB Y 56 #[.pointer (some ⟨T.ob c,0,none⟩),sv,.int .i64 v] (finP c v) (λ_=>.tuple #[]):=by
 refine SpecB.of Try.func56 rfl ?_;intro K s B w hK hA;simp only[zqk,Try.ntmps56,List.size_toArray,List.length_cons,List.length_nil,Nat.reduceAdd,Nat.reduceSub,Array.replicate_succ,Array.replicate_zero,List.push_toArray,List.append_toArray,List.nil_append,List.cons_append];refine zqh Y.jc (zqv Y.jc ?_);rw[finP,Proc.bind_bind,Proc.bind_bind]at hA;apply YSys.callS 0 1 0 hA hst.step rfl rfl rfl (by rfl) rfl rfl rfl
 . intro wc hB X hX;have HX:=Lib.hid hX;clear hX;go_wp2;exact HX.out _ (Ext1.refl _)
 . intro w;simp[go_sem,execOp,Act.eval,resolve,Deferred.ofValue,invoke,callFunc,Try.func48,Try.f48]
 . intro w;simp[go_sem,execOp,Act.eval,resolve,Deferred.ofValue,invoke,callFunc,Try.func48,Try.f48]
 . intro s' ch w' h;exact⟨rfl,h⟩
 intro s w hA;refine zq17 Y.jc ?_;show wpJ Y.J _ _ _ _ _;refine zqh Y.jc (zqv Y.jc ?_);apply YSys.callR 0 4 0 hA (hst.store hc (j:=1) (by decide) v) (λ_=>by rw[Proc.bind_bind];exact Y.sil_tick _) rfl rfl rfl (by rfl) rfl rfl rfl
 . intro wc hB X hX;have HX:=Lib.hid hX;clear hX;go_wp2;exact HX.out _ (Ext1.refl _)
 . intro w;simp[go_sem,execOp,Act.eval,resolve,Deferred.ofValue,invoke,callFunc,Try.func58,Try.f58]
 . intro w;simp[go_sem,execOp,Act.eval,resolve,Deferred.ofValue,invoke,callFunc,Try.func58,Try.f58]
 . intro s' ch w' h;exact⟨rfl,h⟩
 intro s x w hA;refine zq17 Y.jc ?_;show wpJ Y.J _ _ _ _ _;refine zqh Y.jc (zqv Y.jc ?_);rw[Proc.bind_bind]at hA;apply YSys.callS 0 1 0 hA hst.step rfl rfl rfl (by rfl) rfl rfl rfl
 . intro wc hB X hX;have HX:=Lib.hid hX;clear hX;go_wp2;exact HX.out _ (Ext1.refl _)
 . intro w;simp[go_sem,execOp,Act.eval,resolve,Deferred.ofValue,invoke,callFunc,Try.func48,Try.f48]
 . intro w;simp[go_sem,execOp,Act.eval,resolve,Deferred.ofValue,invoke,callFunc,Try.func48,Try.f48]
 . intro s' ch w' h;exact⟨rfl,h⟩
 intro s w hA;refine zq17 Y.jc ?_;show wpJ Y.J _ _ _ _ _;refine zqv Y.jc ?_;apply YSys.callR 0 3 0 hA (hst.store hc (j:=0) (by decide) 2) (λ_=>hK _) rfl rfl rfl (by rfl) rfl rfl rfl
 . intro wc hB X hX;have HX:=Lib.hid hX;clear hX;go_wp2;exact HX.out _ (Ext1.refl _)
 . intro w;simp[go_sem,execOp,Act.eval,resolve,Deferred.ofValue,invoke,callFunc,Try.func58,Try.f58]
 . intro w;simp[go_sem,execOp,Act.eval,resolve,Deferred.ofValue,invoke,callFunc,Try.func58,Try.f58]
 . intro s' ch w' h;exact⟨rfl,h⟩
 intro s x w hA;refine zq17 Y.jc ?_;exact⟨rfl,.inl ⟨_,resultsC_none rfl _,(),rfl,hA⟩⟩
theorem set_spec(Y:YSys Try.prog aM (zq7 (zqz T) D) ro i β){sv:Value}(hst:OnceAtoms Y sv){c:Nat}(hc:c<T.N)(v:Int):
 SpecB Y 26 #[.pointer (some ⟨T.ob c,0,none⟩),sv,.int .i64 v] (setP c v) pairV:=by
 refine SpecB.of Try.func26 rfl ?_;intro K s B w hK hA;simp only[zqk,Try.ntmps26,List.size_toArray,List.length_cons,List.length_nil,Nat.reduceAdd,Nat.reduceSub,Array.replicate_succ,Array.replicate_zero,List.push_toArray,List.append_toArray,List.nil_append,List.cons_append];apply YSys.seq0 hA (by kernel_rfl)
 . intro wc hB;go_wp2;exact⟨rfl,Ext1.refl _,rfl⟩
 intro w hA;refine zqh Y.jc ?_;apply YSys.seq0 hA (by kernel_rfl)
 . intro wc hB;go_wp2;exact⟨rfl,Ext1.refl _,rfl⟩
 intro w hA;refine zqx Y.jc rfl (zq1e Y.jc ?_);show wpJ Y.J _ _ _ _ _;refine zqh Y.jc (zqv Y.jc ?_);rw[setP,Proc.bind_bind,Proc.bind_bind]at hA;apply YSys.callS 0 1 0 hA hst.step rfl rfl rfl (by rfl) rfl rfl rfl
 . intro wc hB X hX;have HX:=Lib.hid hX;clear hX;go_wp2;exact HX.out _ (Ext1.refl _)
 . intro w;simp[go_sem,execOp,Act.eval,resolve,Deferred.ofValue,invoke,callFunc,Try.func48,Try.f48]
 . intro w;simp[go_sem,execOp,Act.eval,resolve,Deferred.ofValue,invoke,callFunc,Try.func48,Try.f48]
 . intro s' ch w' h;exact⟨rfl,h⟩
 intro s w hA;refine zq17 Y.jc ?_;show wpJ Y.J _ _ _ _ _;refine zqh Y.jc ?_;refine zqh Y.jc (zqv Y.jc ?_);apply YSys.callR 0 3 0 hA (hst.cas hc (j:=0) (by decide) 0 1) (λb=>by split<;>(rw[Proc.bind_bind];first|exact zq5d Y _ _ _|exact zq7g Y _ _)) rfl rfl rfl (by rfl) rfl rfl rfl
 . intro wc hB X hX;have HX:=Lib.hid hX;clear hX;go_wp2;exact HX.out _ (Ext1.refl _)
 . intro w;simp[go_sem,execOp,Act.eval,resolve,Deferred.ofValue,invoke,callFunc,Try.func55,Try.f55]
 . intro w;simp[go_sem,execOp,Act.eval,resolve,Deferred.ofValue,invoke,callFunc,Try.func55,Try.f55]
 . intro s' ch w' h;exact⟨rfl,h⟩
 intro s x w hA;refine zq17 Y.jc ?_;show wpJ Y.J _ _ _ _ _;cases x with
 |true=>
  rw[if_pos rfl,Proc.bind_bind]at hA;refine zqx Y.jc rfl ?_;rw[if_pos rfl];refine zqh Y.jc (zqv Y.jc ?_);apply YSys.callR 0 3 0 hA (zq7b Y hst hc v).spec (λ_=>hK _) rfl rfl rfl (by rfl) rfl rfl rfl
  . intro wc hB X hX;have HX:=Lib.hid hX;clear hX;go_wp2;exact HX.out _ (Ext1.refl _)
  . intro w;simp[go_sem,execOp,Act.eval,resolve,Deferred.ofValue,invoke,callFunc,Try.func56,Try.f56]
  . intro w;simp[go_sem,execOp,Act.eval,resolve,Deferred.ofValue,invoke,callFunc,Try.func56,Try.f56]
  . intro s' ch w' h;exact⟨rfl,h⟩
  intro s x w hA;refine zq17 Y.jc ?_;show wpJ Y.J _ _ _ _ _;apply YSys.seq0 hA (by kernel_rfl)
  . intro wc hB;go_wp2;exact⟨rfl,Ext1.refl _,rfl⟩
  intro w hA;refine zq1b Y.jc ?_;exact⟨rfl,.inl ⟨_,resultsC_tmp2 rfl _,_,rfl,hA⟩⟩
 |false=>
  rw[if_neg (by decide),Proc.bind_bind]at hA;refine zqx Y.jc rfl (zq1e Y.jc ?_);show wpJ Y.J _ _ _ _ _;refine zqh Y.jc (zqv Y.jc ?_);apply YSys.callR 0 2 4 hA (zq5g Y hst hc).spec (λ_=>hK _) rfl rfl rfl (by rfl) rfl rfl rfl
  . intro wc hB X hX;have HX:=Lib.hid hX;clear hX;go_wp2;exact HX.out _ (Ext1.refl _)
  . intro w;simp[go_sem,execOp,Act.eval,resolve,Deferred.ofValue,invoke,callFunc,Try.func25,Try.f25]
  . intro w;simp[go_sem,execOp,Act.eval,resolve,Deferred.ofValue,invoke,callFunc,Try.func25,Try.f25]
  . intro s' ch w' h;exact⟨rfl,h⟩
  intro s x w hA;apply YSys.ops0 3 4 hA rfl rfl (by kernel_rfl)
  . intro wc hB;go_wp2;exact⟨rfl,Ext1.refl _,rfl⟩
  intro w hA;show wpJ Y.J _ _ _ _ _;apply YSys.seq0 hA (by kernel_rfl)
  . intro wc hB;go_wp2;exact⟨rfl,Ext1.refl _,rfl⟩
  intro w hA;refine zq1b Y.jc ?_;exact⟨rfl,.inl ⟨_,resultsC_tmp2 rfl _,_,rfl,hA⟩⟩
end
end Go.Proofs
namespace Go.Car
open Go Go.Conc Go.RowKit
section
variable {P:Program} {A:FuncId->Bool} {Ml S β α:Type} {C:Core Ml S} {ro:Nat->Option Obj} {i:Nat} {Y:YSys P A C ro i β} {B:Nat->Option Obj}
variable {Q:Y.γ->Exit->Act->World->Prop} {s:Y.γ} {w:World} {p:Proc S β} {t:Array Value} {ds:List Deferred}
def SpecAt(Y:YSys P A C ro i β)(B:Nat->Option Obj)(f:FuncId)(args:Array Value)(p:Proc S α)(val:α->Value):Prop:=
 ∀(K:α->Proc S β)(s:Y.γ)(w:World),(∀a,Y.sil (K a))->Y.AtB B s w (p.bind K)->zq19 P Y.J f args (RetY Y K val B) s w
theorem SpecAt.of {f:FuncId}{fn:Func}{c:Code}{args:Array Value}{pp:Proc S α}{val:α->Value}(hf:P.funcs[f]?=some fn)(hb:fn.body=some c)
 (h:∀(K:α->Proc S β)(s:Y.γ)(w:World),(∀a,Y.sil (K a))->Y.AtB B s w (pp.bind K)->wpJ Y.J c (bodyC (Y.Bd fn (RetY Y K val B)) (RetY Y K val B)) s (zqk fn args) w):SpecAt Y B f args pp val:=
 λK s w hK hA=>BodyY.calls ⟨fn,c,hf,hb,h K s w hK hA⟩
theorem YSys.callB {ops:Array Oper}{todo rest:List Nat}(k n q:Nat){t₁:Array Value}{o:Oper}{f:FuncId}{args:Array Value}{pp:Proc S α}{val:α->Value}{K:α->Proc S β}{d₀:Tmp}(hA:Y.AtB B s w (pp.bind K))(hspec:SpecAt Y B f args pp val)(hK:∀a,Y.sil (K a))
 (hsz:k+n+(q+1)=ops.size) (ht:todo=List.range' k (n+(q+1))) (hr:rest=List.range' (k+n+1) q) (hc:chk P (λ_=>false) true ops k n=true) (ho:ops[k+n]?=some o) (hg:o.guard=none) (hd₀:o.dst=some d₀)
 (hpre:∀wc,Y.KnB B wc->∀X:Exit->Act->World->Prop,(∀w',Ext1 wc w'->X .normal ⟨t₁,ds⟩ w')->wpList P ops X ((ops.toList.drop k).take n) ⟨t,ds⟩ wc)
 (hrun:∀w,(execOp (Act.mk t₁ ds).eval o).run P w=.ok (.enter f args) w) (hev:∀w,(execOp (Act.mk t₁ ds).eval o).events P w #[]=#[])
 (hd:∀s' ch w',Y.Dead s' ch w'->Q s' (.panic ch) ⟨t₁,ds⟩ w')
 (hk:∀s' a w',Y.AtB B s' w' (K a)->opsJ Y.J ops rest Q s' ⟨t₁.setIfInBounds d₀ (val a),ds⟩ w'):opsJ Y.J ops todo Q s ⟨t,ds⟩ w:=by
 refine Y.pre0 k n (q+1) (rest:=(k+n)::rest) hA hsz ht (by rw[hr,List.range'_succ]) hc hpre λw' hA'=>?_;refine Y.callO (hspec K s w' hK hA') ho hg hd₀ hrun hev ?_;intro s' e w'' hp;cases e with
 |returned v=>
  obtain⟨a,rfl,hA''⟩:=hp;exact hk s' a w'' hA''
 |panicked ch=>exact hd s' ch w'' hp
 |outgrown=>exact hp
end
end Go.Car
namespace Go.Proofs
open Go Go.Conc Go.RowKit Go.Car
@[go_sem] theorem eql_maker (f : Fn) (a b : Array Value) (w : World) : (binOp .eql 83 (.func f a b) .nilFunc).run Try.prog w = .ok (.bool false) w := by rfl
def makeL{S2:Type}(c:Nat)(mk:Proc (Nums×S2) (Int×Bool)):Nat->Proc (Nums×S2) (Int×Int)
 |0=>Proc.ret (0,4)
 |n+1=>(getP c).bind λx=>if x.2=true then Proc.ret (x.1,0)else
  (Proc.tick.bind λ_=>onN (casN c 0 0 1)).bind λb=>if b=true then
   (Proc.tick.bind λ_=>onN (addN c 2 1)).bind λ_=>mk.bind λv=>if v.2=true then(finP c v.1).bind λ_=>Proc.ret (v.1,0)else(Proc.tick.bind λ_=>onN (putN c 0 0)).bind λ_=>Proc.ret (0,6)
  else makeL c mk n
def triesN(t:Int):Nat:=(min (max t 1) 1024).toNat
theorem zqk9(t:Int):0<triesN t/\triesN t<=1024:=by unfold triesN;omega
abbrev errV(x:Int×Int):Value:=.tuple #[.int .i64 x.1,.int .i64 x.2]
section
variable {M2 S2 β:Type} {D:Core M2 S2} {ro:Nat->Option Obj} {i:Nat} {T:NumT}
theorem zqdb(Y:YSys Try.prog aM (zq7 (zqz T) D) ro i β)(c:Nat)(mk:Proc (Nums×S2) (Int×Bool)){K:Int×Int->Proc (Nums×S2) β}(hK:∀a,Y.sil (K a))(n:Nat):Y.sil ((makeL c mk n).bind K):=by
 cases n with
 |zero=>exact hK _
 |succ n=>rw[makeL,Proc.bind_bind];exact zq7g Y _ _
theorem zq7v(Y:YSys Try.prog aM (zq7 (zqz T) D) ro i β){sv:Value}(hst:OnceAtoms Y sv){c:Nat}(hc:c<T.N){mf:FuncId}{first caps:Array Value}{mk:Proc (Nums×S2) (Int×Bool)}{fn:Func}{cc:Code}(hf:Try.prog.funcs[mf]?=some fn)(hb':fn.body=some cc)(hnm:(fn.name== "runtime.NumGoroutine")=false){B:Nat->Option Obj}(hmk:SpecAt Y B mf (first++#[sv]++caps) mk pairV)(hms:∀K,(∀a,Y.sil (K a))->Y.sil (mk.bind K))(tries:Int):
 SpecAt Y B 27 #[.pointer (some ⟨T.ob c,0,none⟩),sv,.int .i64 tries,.func (.func mf) first caps] (makeL c mk (triesN tries)) errV:=by
 refine SpecAt.of Try.func27 rfl ?_;intro K s w hK hA;simp only[zqk,Try.ntmps27,List.size_toArray,List.length_cons,List.length_nil,Nat.reduceAdd,Nat.reduceSub,Array.replicate_succ,Array.replicate_zero,List.push_toArray,List.append_toArray,List.nil_append,List.cons_append];have HKK:=Lib.hid hK;have HM:=Lib.hid (And.intro hmk hms);have HT:=Lib.hid (zqk9 tries);have HF:=Lib.hid (And.intro hf (And.intro hb' hnm));clear hK hmk hms hf hb' hnm;apply YSys.seq0 hA (by kernel_rfl)
 . intro wc hB;go_wp2;exact⟨rfl,Ext1.refl _,rfl⟩
 intro w hA;refine zqh Y.jc (zq3m Y.jc ?_);apply YSys.seq0 hA (by kernel_rfl)
 . intro wc hB;go_wp2;exact⟨rfl,Ext1.refl _,rfl⟩
 intro w hA;refine zqx Y.jc rfl ?_;rw[if_neg (by decide)];apply YSys.seq0 hA (by kernel_rfl)
 . intro wc hB;go_wp2;exact⟨rfl,Ext1.refl _,rfl⟩
 intro w hA;refine zqx Y.jc rfl ?_;rw[if_neg (by decide)];refine zq1e Y.jc ?_;show wpJ Y.J _ _ _ _ _;refine zqh Y.jc ?_;apply YSys.seq0 (t':=#[.pointer (some ⟨T.ob c,0,none⟩),sv,.int .i64 tries,.func (.func mf) first caps,undef,undef,undef,undef,.int .i64 0,.int .i64 0,undef,undef,undef,undef,.bool false,.pointer (some ⟨T.ob c,0,none⟩),.bool false,.bool false,.func (.func mf) first caps,.bool false,.int .i64 tries,.int .i64 (max tries 1),.int .i64 (triesN tries:Nat),.int .i64 0,undef,undef,undef,undef,undef,undef,undef,undef,undef,undef,undef,undef,undef,undef,undef,undef,undef,undef,undef,undef,undef,undef,undef,undef,undef,undef,undef,undef,undef,undef,undef,undef,undef,undef,undef,undef,undef,undef,undef,undef,undef]) hA (by kernel_rfl)
 . intro wc hB;rcases(by omega:tries<1\/(1<=tries/\tries<=1024)\/1024<tries)with h|⟨h,h'⟩|h
   . have e:((triesN tries:Nat):Int)=1:=by unfold triesN;omega
     have e2:max tries 1=1:=by omega
     have h1:tries<=1:=by omega
     rw[e,e2];clear HT e e2;go_wp2;exact⟨rfl,Ext1.refl _,rfl⟩
   . have e:((triesN tries:Nat):Int)=tries:=by unfold triesN;omega
     have e2:max tries 1=tries:=by omega
     rw[e,e2];clear HT e e2;go_wp2;exact⟨rfl,Ext1.refl _,rfl⟩
   . have e:((triesN tries:Nat):Int)=1024:=by unfold triesN;omega
     have e2:max tries 1=tries:=by omega
     have h1:1<=tries:=by omega
     have h2:¬tries<=1024:=by omega
     rw[e,e2];clear HT e e2;go_wp2;exact⟨rfl,Ext1.refl _,rfl⟩
 intro w hA;refine zq3m Y.jc (zqat Y.jc (λs a w n=>∃(k:Nat)(x4 x5 x6 x7 x10 x11 x12 x13 x14 x15 x16 x17 x18 x19 x20 x21 x24 x25 x26 x27 x28 x29 x30 x31 x32 x33 x34 x35 x36 x37 x38 x39 x40 x41 x42 x43 x44 x45 x46 x47 x48 x49 x50 x51 x52 x53 x54 x55 x56 x57 x58 x59 x60 x61 x62 x63 x64:Value),k+n=triesN tries/\a=⟨#[.pointer (some ⟨T.ob c,0,none⟩),sv,.int .i64 tries,.func (.func mf) first caps,x4,x5,x6,x7,.int .i64 0,.int .i64 0,x10,x11,x12,x13,x14,x15,x16,x17,x18,x19,x20,x21,.int .i64 (triesN tries:Nat),.int .i64 k,x24,x25,x26,x27,x28,x29,x30,x31,x32,x33,x34,x35,x36,x37,x38,x39,x40,x41,x42,x43,x44,x45,x46,x47,x48,x49,x50,x51,x52,x53,x54,x55,x56,x57,x58,x59,x60,x61,x62,x63,x64],[]⟩/\Y.AtB B s w ((makeL c mk n).bind K)) (triesN tries) ?_ ?_)
 . exact⟨0,_,_,_,_,_,_,_,_,_,_,_,_,_,_,_,_,_,_,_,_,_,_,_,_,_,_,_,_,_,_,_,_,_,_,_,_,_,_,_,_,_,_,_,_,_,_,_,_,_,_,_,_,_,_,_,_,_,by omega,rfl,hA⟩
 clear hA;rintro s a w n ⟨k,x4,x5,x6,x7,x10,x11,x12,x13,x14,x15,x16,x17,x18,x19,x20,x21,x24,x25,x26,x27,x28,x29,x30,x31,x32,x33,x34,x35,x36,x37,x38,x39,x40,x41,x42,x43,x44,x45,x46,x47,x48,x49,x50,x51,x52,x53,x54,x55,x56,x57,x58,x59,x60,x61,x62,x63,x64,hkn,rfl,hA⟩;have HN:=Lib.hid (And.intro hkn HT.out);clear hkn;cases n with
 |zero=>
  apply YSys.seq0 hA (by kernel_rfl)
  . intro wc hB;go_wp2;exact⟨rfl,Ext1.refl _,rfl⟩
  intro w hA;refine zqh Y.jc (zqx Y.jc rfl ?_);rw[if_neg (by have:=HN.out;simp only[decide_eq_true_eq];omega)];refine zq6g Y.jc ?_;show wpJ Y.J _ _ _ _ _;apply YSys.seq0 hA (by kernel_rfl)
  . intro wc hB;go_wp2;exact⟨rfl,Ext1.refl _,rfl⟩
  intro w hA;refine zq1b Y.jc ?_;exact⟨rfl,.inl ⟨_,resultsC_tmp2 rfl _,(0,4),rfl,hA⟩⟩
 |succ n=>
  have hk:(k:Int)<(triesN tries:Nat):=by have:=HN.out;omega
  apply YSys.seq0 hA (by kernel_rfl)
  . intro wc hB;go_wp2;exact⟨rfl,Ext1.refl _,rfl⟩
  intro w hA;refine zqh Y.jc (zqx Y.jc rfl ?_);rw[if_pos (by simpa using hk)];refine zq1e Y.jc ?_;show wpJ Y.J _ _ _ _ _;refine zqh Y.jc (zq3m Y.jc ?_);refine zqh Y.jc ?_;refine zqh Y.jc (zqv Y.jc ?_);rw[makeL,Proc.bind_bind]at hA;apply YSys.callR 0 2 5 hA (zq5g Y hst hc).spec (λx=>by split<;>first|exact HKK.out _|(rw[Proc.bind_bind,Proc.bind_bind];exact Y.sil_tick _)) rfl rfl rfl (by rfl) rfl rfl rfl
  . intro wc hB X hX;have HX:=Lib.hid hX;clear hX;go_wp2;exact HX.out _ (Ext1.refl _)
  . intro w;simp[go_sem,execOp,Act.eval,resolve,Deferred.ofValue,invoke,callFunc,Try.func25,Try.f25]
  . intro w;simp[go_sem,execOp,Act.eval,resolve,Deferred.ofValue,invoke,callFunc,Try.func25,Try.f25]
  . intro s' ch w' h;exact⟨rfl,h⟩
  intro s x w hA;apply YSys.ops0 3 5 hA rfl rfl (by kernel_rfl)
  . intro wc hB;go_wp2;exact⟨rfl,Ext1.refl _,rfl⟩
  intro w hA;show wpJ Y.J _ _ _ _ _;apply YSys.seq0 hA (by kernel_rfl)
  . intro wc hB;go_wp2;exact⟨rfl,Ext1.refl _,rfl⟩
  intro w hA
  by_cases hx:x.2=true
  . rw[if_pos hx]at hA;refine zqx Y.jc rfl ?_;rw[if_pos hx];apply YSys.seq0 hA (by kernel_rfl)
    . intro wc hB;go_wp2;exact⟨rfl,Ext1.refl _,rfl⟩
    intro w hA;refine zq1b Y.jc ?_;exact⟨rfl,.inl ⟨_,resultsC_tmp2 rfl _,(x.1,0),rfl,hA⟩⟩
  . rw[if_neg hx,Proc.bind_bind,Proc.bind_bind]at hA;refine zqx Y.jc rfl ?_;rw[if_neg hx];refine zq1e Y.jc ?_;clear hx;show wpJ Y.J _ _ _ _ _;refine zqh Y.jc (zqv Y.jc ?_);apply YSys.callS 0 1 0 hA hst.step rfl rfl rfl (by rfl) rfl rfl rfl
    . intro wc hB X hX;have HX:=Lib.hid hX;clear hX;go_wp2;exact HX.out _ (Ext1.refl _)
    . intro w;simp[go_sem,execOp,Act.eval,resolve,Deferred.ofValue,invoke,callFunc,Try.func48,Try.f48]
    . intro w;simp[go_sem,execOp,Act.eval,resolve,Deferred.ofValue,invoke,callFunc,Try.func48,Try.f48]
    . intro s' ch w' h;exact⟨rfl,h⟩
    intro s w hA;refine zq17 Y.jc ?_;show wpJ Y.J _ _ _ _ _;refine zqh Y.jc ?_;refine zqh Y.jc (zqv Y.jc ?_);apply YSys.callR 0 3 1 hA (hst.cas hc (j:=0) (by decide) 0 1) (λb=>by split<;>first|exact zqdb Y c mk HKK.out n|(rw[Proc.bind_bind,Proc.bind_bind];exact Y.sil_tick _)) rfl rfl rfl (by rfl) rfl rfl rfl
    . intro wc hB X hX;have HX:=Lib.hid hX;clear hX;go_wp2;exact HX.out _ (Ext1.refl _)
    . intro w;simp[go_sem,execOp,Act.eval,resolve,Deferred.ofValue,invoke,callFunc,Try.func55,Try.f55]
    . intro w;simp[go_sem,execOp,Act.eval,resolve,Deferred.ofValue,invoke,callFunc,Try.func55,Try.f55]
    . intro s' ch w' h;exact⟨rfl,h⟩
    intro s b w hA;apply YSys.ops0 4 1 hA rfl rfl (by kernel_rfl)
    . intro wc hB;go_wp2;exact⟨rfl,Ext1.refl _,rfl⟩
    intro w hA;show wpJ Y.J _ _ _ _ _
    by_cases hb:¬b=true
    . rw[if_neg hb]at hA;refine zqx Y.jc rfl ?_;rw[if_pos (by simpa using hb)];clear hb;refine zq6g Y.jc ?_;show wpJ Y.J _ _ _ _ _;have e1:IntKind.i64.wrap ((k:Int)+1)=((k+1:Nat):Int):=by have:=HN.out;rw[IntWalk.i64_in _ (by omega)];omega
      apply YSys.code0 hA (by kernel_rfl)
      . intro wc hB;go_wp2;exact⟨rfl,Ext1.refl _,rfl⟩
      intro w hA;exact⟨n,by omega,k+1,_,_,_,_,_,_,_,_,_,_,_,_,_,_,_,_,_,_,_,_,_,_,_,_,_,_,_,_,_,_,_,_,_,_,_,_,_,_,_,_,_,_,_,_,_,_,_,_,_,_,_,_,_,_,_,_,_,by have:=HN.out;omega,rfl,hA⟩
    . replace hb:=Classical.not_not.1 hb;rw[if_pos hb,Proc.bind_bind,Proc.bind_bind]at hA;refine zqx Y.jc rfl ?_;rw[if_neg (by simp[hb])];clear hb;refine zq1e Y.jc ?_;show wpJ Y.J _ _ _ _ _;refine zqh Y.jc (zqv Y.jc ?_);apply YSys.callS 0 1 0 hA hst.step rfl rfl rfl (by rfl) rfl rfl rfl
      . intro wc hB X hX;have HX:=Lib.hid hX;clear hX;go_wp2;exact HX.out _ (Ext1.refl _)
      . intro w;simp[go_sem,execOp,Act.eval,resolve,Deferred.ofValue,invoke,callFunc,Try.func48,Try.f48]
      . intro w;simp[go_sem,execOp,Act.eval,resolve,Deferred.ofValue,invoke,callFunc,Try.func48,Try.f48]
      . intro s' ch w' h;exact⟨rfl,h⟩
      intro s w hA;refine zq17 Y.jc ?_;show wpJ Y.J _ _ _ _ _;refine zqh Y.jc (zqv Y.jc ?_);apply YSys.callR 0 3 0 hA (hst.add hc (j:=2) (by decide) 1) (λ_=>by rw[Proc.bind_bind];exact HM.out.2 _ (λv=>by split<;>(rw[Proc.bind_bind];first|exact zq5d Y _ _ _|(rw[Proc.bind_bind];exact Y.sil_tick _)))) rfl rfl rfl (by rfl) rfl rfl rfl
      . intro wc hB X hX;have HX:=Lib.hid hX;clear hX;go_wp2;exact HX.out _ (Ext1.refl _)
      . intro w;simp[go_sem,execOp,Act.eval,resolve,Deferred.ofValue,invoke,callFunc,Try.func57,Try.f57]
      . intro w;simp[go_sem,execOp,Act.eval,resolve,Deferred.ofValue,invoke,callFunc,Try.func57,Try.f57]
      . intro s' ch w' h;exact⟨rfl,h⟩
      intro s _ w hA;refine zq17 Y.jc ?_;show wpJ Y.J _ _ _ _ _;rw[Proc.bind_bind]at hA;refine zqh Y.jc (zqv Y.jc ?_);apply YSys.callB 0 2 5 hA HM.out.1 (λv=>by split<;>(rw[Proc.bind_bind];first|exact zq5d Y _ _ _|(rw[Proc.bind_bind];exact Y.sil_tick _))) rfl rfl rfl (by rfl) rfl rfl rfl
      . intro wc hB X hX;have HX:=Lib.hid hX;clear hX;go_wp2;exact HX.out _ (Ext1.refl _)
      . intro w;have hf:=HF.out.1;have hb':=HF.out.2.1;have hnm':¬fn.name= "runtime.NumGoroutine" :=by simpa using HF.out.2.2
        simp[go_sem,execOp,Act.eval,resolve,Deferred.ofValue,invoke,callFunc,hf,hb',hnm']
      . intro w;have hf:=HF.out.1;have hb':=HF.out.2.1;have hnm':¬fn.name= "runtime.NumGoroutine" :=by simpa using HF.out.2.2
        simp[go_sem,execOp,Act.eval,resolve,Deferred.ofValue,invoke,callFunc,hf,hb',hnm']
      . intro s' ch w' h;exact⟨rfl,h⟩
      intro s v w hA;apply YSys.ops0 3 5 hA rfl rfl (by kernel_rfl)
      . intro wc hB;go_wp2;exact⟨rfl,Ext1.refl _,rfl⟩
      intro w hA;show wpJ Y.J _ _ _ _ _;refine zqh Y.jc ?_;apply YSys.seq0 hA (by kernel_rfl)
      . intro wc hB;go_wp2;exact⟨rfl,Ext1.refl _,rfl⟩
      intro w hA
      by_cases hv:v.2=true
      . rw[if_pos hv,Proc.bind_bind]at hA;refine zqx Y.jc rfl ?_;rw[if_pos hv];clear hv;refine zqh Y.jc (zqv Y.jc ?_);apply YSys.callR 0 3 0 hA (zq7b Y hst hc v.1).spec (λ_=>HKK.out _) rfl rfl rfl (by rfl) rfl rfl rfl
        . intro wc hB X hX;have HX:=Lib.hid hX;clear hX;go_wp2;exact HX.out _ (Ext1.refl _)
        . intro w;simp[go_sem,execOp,Act.eval,resolve,Deferred.ofValue,invoke,callFunc,Try.func56,Try.f56]
        . intro w;simp[go_sem,execOp,Act.eval,resolve,Deferred.ofValue,invoke,callFunc,Try.func56,Try.f56]
        . intro s' ch w' h;exact⟨rfl,h⟩
        intro s _ w hA;refine zq17 Y.jc ?_;show wpJ Y.J _ _ _ _ _;apply YSys.seq0 hA (by kernel_rfl)
        . intro wc hB;go_wp2;exact⟨rfl,Ext1.refl _,rfl⟩
        intro w hA;refine zq1b Y.jc ?_;exact⟨rfl,.inl ⟨_,resultsC_tmp2 rfl _,(v.1,0),rfl,hA⟩⟩
      . rw[if_neg hv,Proc.bind_bind,Proc.bind_bind]at hA;refine zqx Y.jc rfl ?_;rw[if_neg hv];clear hv;refine zq1e Y.jc ?_;show wpJ Y.J _ _ _ _ _;refine zqh Y.jc (zqv Y.jc ?_);apply YSys.callS 0 1 0 hA hst.step rfl rfl rfl (by rfl) rfl rfl rfl
        . intro wc hB X hX;have HX:=Lib.hid hX;clear hX;go_wp2;exact HX.out _ (Ext1.refl _)
        . intro w;simp[go_sem,execOp,Act.eval,resolve,Deferred.ofValue,invoke,callFunc,Try.func48,Try.f48]
        . intro w;simp[go_sem,execOp,Act.eval,resolve,Deferred.ofValue,invoke,callFunc,Try.func48,Try.f48]
        . intro s' ch w' h;exact⟨rfl,h⟩
        intro s w hA;refine zq17 Y.jc ?_;show wpJ Y.J _ _ _ _ _;refine zqh Y.jc (zqv Y.jc ?_);apply YSys.callR 0 3 0 hA (hst.store hc (j:=0) (by decide) 0) (λ_=>HKK.out _) rfl rfl rfl (by rfl) rfl rfl rfl
        . intro wc hB X hX;have HX:=Lib.hid hX;clear hX;go_wp2;exact HX.out _ (Ext1.refl _)
        . intro w;simp[go_sem,execOp,Act.eval,resolve,Deferred.ofValue,invoke,callFunc,Try.func58,Try.f58]
        . intro w;simp[go_sem,execOp,Act.eval,resolve,Deferred.ofValue,invoke,callFunc,Try.func58,Try.f58]
        . intro s' ch w' h;exact⟨rfl,h⟩
        intro s _ w hA;refine zq17 Y.jc ?_;show wpJ Y.J _ _ _ _ _;apply YSys.seq0 hA (by kernel_rfl)
        . intro wc hB;go_wp2;exact⟨rfl,Ext1.refl _,rfl⟩
        intro w hA;refine zq1b Y.jc ?_;exact⟨rfl,.inl ⟨_,resultsC_tmp2 rfl _,(0,6),rfl,hA⟩⟩
end
def madeA(v e:Int):Ans:=if e=0 then⟨true,v,[]⟩else⟨false,wrap64 (-e),[]⟩
abbrev ansV(a:Ans):Value:=.agg #[.bool a.ok,.int .i64 a.n,.slice none 0 0]
theorem zqd9(v e:Int)(w:World):Calls Try.prog 81 #[.int .i64 v,.int .i64 e] w (zq2y λx w'=>Ext1 w w'/\x=ansV (madeA v e)):=by
 by_cases h:e=0
 . subst h;have hm:madeA v 0=⟨true,v,[]⟩:=rfl;rw[hm];clear hm
   go_enter Try.func81,Try.ntmps81
   go_wp2;have hn:(w.alloc (.cells #[.bool true,.int .i64 (v),.slice none 0 0] 49)).heap[w.heap.size]?=some (.cells #[.bool true,.int .i64 (v),.slice none 0 0] 49):=by rw[zqa,if_pos rfl]
   have k0:=(zq0 (off:=0) hn).trans rfl;have k1:=(zq0 (off:=1) hn).trans rfl;have k2:=(zq0 (off:=2) hn).trans rfl;refine bodyPost_ret (v:=ansV ⟨true,v,[]⟩) ?_ rfl ⟨Ext1.alloc w _,rfl⟩;simp only[results,Try.f81];simp[go_sem,k0,k1,k2]
 . have hm:madeA v e=⟨false,wrap64 (-e),[]⟩:=by unfold madeA;rw[if_neg h]
   rw[hm];clear hm
   go_enter Try.func81,Try.ntmps81
   go_wp2;have hn:(w.alloc (.cells #[.bool false,.int .i64 (wrap64 (-e)),.slice none 0 0] 49)).heap[w.heap.size]?=some (.cells #[.bool false,.int .i64 (wrap64 (-e)),.slice none 0 0] 49):=by rw[zqa,if_pos rfl]
   have k0:=(zq0 (off:=0) hn).trans rfl;have k1:=(zq0 (off:=1) hn).trans rfl;have k2:=(zq0 (off:=2) hn).trans rfl;refine bodyPost_ret (v:=ansV ⟨false,wrap64 (-e),[]⟩) ?_ rfl ⟨Ext1.alloc w _,rfl⟩;simp only[results,Try.f81];simp[go_sem,k0,k1,k2]
section
variable {M2 S2 β:Type} {D:Core M2 S2} {ro:Nat->Option Obj} {i:Nat} {T:NumT}
theorem zqea(Y:YSys Try.prog aM (zq7 (zqz T) D) ro i β)(B:Nat->Option Obj)(sv:Value):SpecAt Y B 83 #[sv] (Proc.ret (0,false)) pairV:=by
 refine SpecAt.of Try.func83 rfl ?_;intro K s w hK hA;simp only[zqk,Try.ntmps83,List.size_toArray,List.length_cons,List.length_nil,Nat.reduceAdd,Nat.reduceSub,Array.replicate_succ,Array.replicate_zero,List.push_toArray,List.append_toArray,List.nil_append,List.cons_append];apply YSys.seq0 hA (by kernel_rfl)
 . intro wc hB;go_wp2;exact⟨rfl,Ext1.refl _,rfl⟩
 intro w hA;apply YSys.seq0 hA (by kernel_rfl)
 . intro wc hB;go_wp2;exact⟨rfl,Ext1.refl _,rfl⟩
 intro w hA;refine zq1b Y.jc ?_;exact⟨rfl,.inl ⟨_,resultsC_tmp2 rfl _,(0,false),rfl,hA⟩⟩
def mkP{S2:Type}(c:Nat)(op:OpX):Proc (Nums×S2) (Int×Bool):=Proc.tick.bind λ_=>onN λg=>(g,(IntKind.i64.wrap (op.b+g c 2),true))
theorem zqdd(Z:Alone Try.prog aM (zq7 (zqz T) D) ro i β){I:Nums×S2->Prop}{sv:Value}(hst:OnceAtoms (Z.sys I) sv){c:Nat}(hc:c<T.N){B:Nat->Option Obj}{b3 b5:Nat}{op:OpX}(h3:B b3=some (.cells #[.pointer (some ⟨T.ob c,0,none⟩)] 35))(h5:B b5=some (.cells op.cells.toArray 34)):
 SpecAt (Z.sys I) B 82 #[sv,.pointer (some ⟨b5,0,none⟩),.pointer (some ⟨b3,0,none⟩)] (mkP c op) pairV:=by
 have HI:=Lib.hid (And.intro h3 h5);have HS:=Lib.hid hst;have hlen:=hst.len c hc;clear h3 h5;refine SpecAt.of Try.func82 rfl ?_;intro K s w hK hA;simp only[zqk,Try.ntmps82,List.size_toArray,List.length_cons,List.length_nil,Nat.reduceAdd,Nat.reduceSub,Array.replicate_succ,Array.replicate_zero,List.push_toArray,List.append_toArray,List.nil_append,List.cons_append];apply YSys.seq0 hA (by kernel_rfl)
 . intro wc hB;go_wp2;exact⟨rfl,Ext1.refl _,rfl⟩
 intro w hA;refine zqh (Z.sys I).jc (zqv (Z.sys I).jc ?_);rw[mkP,Proc.bind_bind]at hA;apply YSys.callS 0 1 0 hA HS.out.step rfl rfl rfl (by rfl) rfl rfl rfl
 . intro wc hB X hX;have HX:=Lib.hid hX;clear hX;go_wp2;exact HX.out _ (Ext1.refl _)
 . intro w;simp[go_sem,execOp,Act.eval,resolve,Deferred.ofValue,invoke,callFunc,Try.func48,Try.f48]
 . intro w;simp[go_sem,execOp,Act.eval,resolve,Deferred.ofValue,invoke,callFunc,Try.func48,Try.f48]
 . intro s' ch w' h;exact⟨rfl,h⟩
 intro s w hA;refine zq17 (Z.sys I).jc ?_;show wpJ (Z.sys I).J _ _ _ _ _;refine zqh (Z.sys I).jc ?_;obtain⟨m,hm,hA⟩:=hA;refine Z.actS (I':=I) (g:=λs=>(s,(IntKind.i64.wrap (op.b+s.1 c 2),true))) (λt B'=>t=#[sv,.pointer (some ⟨b5,0,none⟩),.pointer (some ⟨b3,0,none⟩),undef,.int .i64 (IntKind.i64.wrap (op.b+m.l.1 c 2)),.bool true,sv,.tuple #[],.pointer (some ⟨b5,2,none⟩),.int .i64 op.b,.pointer (some ⟨T.ob c,0,none⟩),.pointer (some ⟨T.ob c,0,none⟩),.pointer (some ⟨T.ob c,2,none⟩),.int .i64 (m.l.1 c 2),.int .i64 (IntKind.i64.wrap (op.b+m.l.1 c 2))]/\B'=B) hA (by kernel_rfl) (λs h=>h) (λs=>Z.oth s) ?_ ?_
 . intro wc hB hIs X hX;have HX:=Lib.hid hX;clear hX;have k3:=hB.box i b3 _ (by rw[hm];exact HI.out.1);have k5:=hB.box i b5 _ (by rw[hm];exact HI.out.2);have cb:wc.cell? ⟨b5,2,none⟩=some (.int .i64 op.b):=(zq0 k5).trans rfl;have cp:wc.cell? ⟨b3,0,none⟩=some (.pointer (some ⟨T.ob c,0,none⟩)):=(zq0 k3).trans rfl;have cn:=(zq1w hB wc.tape wc.drawn).cell hc (j:=2) (by rw[hlen];decide);obtain⟨x,hx⟩:∃x,m.l.1 c 2=x:=⟨_,rfl⟩;rw[hx]at cn;have HL:RowKit.Hid (∀W:World,(∀a,W.cell? a=wc.cell? a)->Calls Try.prog 47 #[.pointer (some ⟨T.ob c,2,none⟩)] W λe w'=>e=.returned (.int .i64 x)/\∃n,w'=W.drewN n):=Lib.hid λW hW=>Calls.mono (zq5n _ x W ((hW _).trans cn)) (by rintro e w' ⟨rfl,rfl⟩;exact⟨rfl,0,rfl⟩);have HB:=Lib.hid (And.intro hB (And.intro hm hx));obtain⟨pb,hpb⟩:∃p,T.ob c=p:=⟨_,rfl⟩;rw[hpb]at cp HL HX;clear hB hm hx cn k3 k5 hA hK hIs hlen
   go_quiet (first|(go_at_call 47;exact Calls.quiet_of (HL.out _ (λa=>rfl))))
   obtain⟨hB,hm,hx⟩:=HB.out;exact⟨rfl,HX.out _ m.l _ _ (Moved.ext hB ⟨Nat.le_refl _,λ_ _=>rfl⟩) rfl ⟨by rw[hx],hm⟩⟩
 . rintro t' m' w' ⟨rfl,hb⟩ hA';show wpJ (Z.sys I).J _ _ _ _ _;refine zq1b (Z.sys I).jc ?_;exact⟨rfl,.inl ⟨_,resultsC_tmp2 rfl _,(IntKind.i64.wrap (op.b+m.l.1 c 2),true),rfl,m',hb,hA'⟩⟩
end
set_option maxHeartbeats 16000000
def zq1i(c:Int):Int:=min (max c 0) 1024
def onceP{S2:Type}(c:Nat)(op:OpX):Proc (Nums×S2) Ans:=
 if op.k=1 then(getP c).bind λx=>Proc.ret ⟨x.2,x.1,[]⟩
 else if op.k=2 then(setP c op.b).bind λx=>Proc.ret ⟨x.2,x.1,[]⟩
 else if op.k=3 then(makeL c (mkP c op) (triesN (zq1i op.c))).bind λx=>Proc.ret (madeA x.1 x.2)
 else if op.k=4 then(makeL c (Proc.ret (0,false)) (triesN (zq1i op.c))).bind λx=>Proc.ret (madeA x.1 x.2)
 else Proc.ret Ans.none
theorem zq7t(v e:Int){ti:TypeId}:AnsV ti (madeA v e) (.agg #[.bool (madeA v e).ok,.int .i64 (madeA v e).n,.slice none 0 0]) (λ_=>none):=by
 unfold madeA;split<;>exact AnsV.plain _ _ _
section
variable {M2 S2 β:Type} {D:Core M2 S2} {ro:Nat->Option Obj} {i:Nat} {T:NumT}
structure zq55(Y:YSys Try.prog aM (zq7 (zqz T) D) ro i β)(sv:Value):Prop where
 base:OnceAtoms Y sv
 maker:∀{c:Nat}(hc:c<T.N){B:Nat->Option Obj}{b3 b5:Nat}{op:OpX},B b3=some (.cells #[.pointer (some ⟨T.ob c,0,none⟩)] 35)->B b5=some (.cells op.cells.toArray 34)->SpecAt Y B 82 (#[]++#[sv]++#[.pointer (some ⟨b5,0,none⟩),.pointer (some ⟨b3,0,none⟩)]) (mkP c op) pairV
theorem zq7u(Y:YSys Try.prog aM (zq7 (zqz T) D) ro i β)(v e:Int):PureY Y 81 #[.int .i64 v,.int .i64 e] (ansV (madeA v e)):=
 PureY.of Try.func81 rfl (by kernel_rfl) λB wc hB=>zqd9 v e wc
theorem do_spec(Y:YSys Try.prog aM (zq7 (zqz T) D) ro i β){sv:Value}(hst:zq55 Y sv){c:Nat}(hc:c<T.N)(op:OpX):
 SpecR Y 64 #[.pointer (some ⟨T.ob c,0,none⟩),sv,op.val] (onceP c op) (AnsV 2):=by
 refine SpecR.of Try.func64 rfl ?_;intro K s B w hK hA;simp only[zqk,Try.ntmps64,List.size_toArray,List.length_cons,List.length_nil,Nat.reduceAdd,Nat.reduceSub,Array.replicate_succ,Array.replicate_zero,List.push_toArray,List.append_toArray,List.nil_append,List.cons_append];have HKK:=Lib.hid hK;clear hK;refine zqh Y.jc (zqv Y.jc ?_);refine YSys.preX 0 1 2 (λt B'=>∃(b3:Nat)(x4 x5 x6 x7 x8 x9 x10 x11 x12 x13 x14 x15 x16 x17 x18 x19 x20 x21 x22 x23 x24 x25 x26 x27 x28 x29 x30 x31 x32 x33 x34 x35 x36 x37 x38 x39 x40 x41 x42 x43 x44 x45 x46 x47 x48 x49 x50 x51 x52 x53 x54 x55 x56 x57 x58 x59 x60 x61 x62 x63 x64:Value),t=#[.pointer (some ⟨T.ob c,0,none⟩),sv,op.val,.pointer (some ⟨b3,0,none⟩),x4,x5,x6,x7,x8,x9,x10,x11,x12,x13,x14,x15,x16,x17,x18,x19,x20,x21,x22,x23,x24,x25,x26,x27,x28,x29,x30,x31,x32,x33,x34,x35,x36,x37,x38,x39,x40,x41,x42,x43,x44,x45,x46,x47,x48,x49,x50,x51,x52,x53,x54,x55,x56,x57,x58,x59,x60,x61,x62,x63,x64]/\(B) b3=none/\B'=upB (B) b3 (.cells #[.pointer (some ⟨T.ob c,0,none⟩)] 35)) hA rfl rfl rfl rfl ?_ ?_
 . intro wc hB X0 hX0;have HX0:=Lib.hid hX0;clear hX0;have hm:=OMoved.push (o:=.cells #[.pointer (some ⟨T.ob c,0,none⟩)] 35) hB.own (Ext1.alloc wc (.cells #[.pointer (some ⟨T.ob c,0,none⟩)] 35)) (Nat.le_refl _) (by rw[zqa];simp);have hf:=hB.own.fresh (Nat.le_refl _);have HM:=Lib.hid (And.intro hm hf);clear hm hf;go_wp2;exact HX0.out _ _ _ HM.out.1 ⟨_,_,_,_,_,_,_,_,_,_,_,_,_,_,_,_,_,_,_,_,_,_,_,_,_,_,_,_,_,_,_,_,_,_,_,_,_,_,_,_,_,_,_,_,_,_,_,_,_,_,_,_,_,_,_,_,_,_,_,_,_,_,rfl,HM.out.2,rfl⟩
 clear hA;rintro _ _ w ⟨b3,x4,x5,x6,x7,x8,x9,x10,x11,x12,x13,x14,x15,x16,x17,x18,x19,x20,x21,x22,x23,x24,x25,x26,x27,x28,x29,x30,x31,x32,x33,x34,x35,x36,x37,x38,x39,x40,x41,x42,x43,x44,x45,x46,x47,x48,x49,x50,x51,x52,x53,x54,x55,x56,x57,x58,x59,x60,x61,x62,x63,x64,rfl,hb3,rfl⟩ hA;refine YSys.preX 1 1 1 (λt B'=>∃(b5:Nat)(x4 x6 x7 x8 x9 x10 x11 x12 x13 x14 x15 x16 x17 x18 x19 x20 x21 x22 x23 x24 x25 x26 x27 x28 x29 x30 x31 x32 x33 x34 x35 x36 x37 x38 x39 x40 x41 x42 x43 x44 x45 x46 x47 x48 x49 x50 x51 x52 x53 x54 x55 x56 x57 x58 x59 x60 x61 x62 x63 x64:Value),t=#[.pointer (some ⟨T.ob c,0,none⟩),sv,op.val,.pointer (some ⟨b3,0,none⟩),x4,.pointer (some ⟨b5,0,none⟩),x6,x7,x8,x9,x10,x11,x12,x13,x14,x15,x16,x17,x18,x19,x20,x21,x22,x23,x24,x25,x26,x27,x28,x29,x30,x31,x32,x33,x34,x35,x36,x37,x38,x39,x40,x41,x42,x43,x44,x45,x46,x47,x48,x49,x50,x51,x52,x53,x54,x55,x56,x57,x58,x59,x60,x61,x62,x63,x64]/\(upB B b3 (.cells #[.pointer (some ⟨T.ob c,0,none⟩)] 35)) b5=none/\B'=upB (upB B b3 (.cells #[.pointer (some ⟨T.ob c,0,none⟩)] 35)) b5 (.cells op.cells.toArray 34)) hA rfl rfl rfl rfl ?_ ?_
 . intro wc hB X0 hX0;have HX0:=Lib.hid hX0;clear hX0;have hm:=OMoved.push (o:=.cells op.cells.toArray 34) hB.own (Ext1.alloc wc (.cells op.cells.toArray 34)) (Nat.le_refl _) (by rw[zqa];simp);have hf:=hB.own.fresh (Nat.le_refl _);have HM:=Lib.hid (And.intro hm hf);clear hm hf;unfold OpX.val;go_wp2;exact HX0.out _ _ _ HM.out.1 ⟨_,_,_,_,_,_,_,_,_,_,_,_,_,_,_,_,_,_,_,_,_,_,_,_,_,_,_,_,_,_,_,_,_,_,_,_,_,_,_,_,_,_,_,_,_,_,_,_,_,_,_,_,_,_,_,_,_,_,_,_,_,rfl,HM.out.2,rfl⟩
 clear hA;rintro _ _ w ⟨b5,x4,x6,x7,x8,x9,x10,x11,x12,x13,x14,x15,x16,x17,x18,x19,x20,x21,x22,x23,x24,x25,x26,x27,x28,x29,x30,x31,x32,x33,x34,x35,x36,x37,x38,x39,x40,x41,x42,x43,x44,x45,x46,x47,x48,x49,x50,x51,x52,x53,x54,x55,x56,x57,x58,x59,x60,x61,x62,x63,x64,rfl,hb5,rfl⟩ hA;refine YSys.opsX 2 1 (λt B'=>∃(b6:Nat)(x4 x7 x8 x9 x10 x11 x12 x13 x14 x15 x16 x17 x18 x19 x20 x21 x22 x23 x24 x25 x26 x27 x28 x29 x30 x31 x32 x33 x34 x35 x36 x37 x38 x39 x40 x41 x42 x43 x44 x45 x46 x47 x48 x49 x50 x51 x52 x53 x54 x55 x56 x57 x58 x59 x60 x61 x62 x63 x64:Value),t=#[.pointer (some ⟨T.ob c,0,none⟩),sv,op.val,.pointer (some ⟨b3,0,none⟩),x4,.pointer (some ⟨b5,0,none⟩),.pointer (some ⟨b6,0,none⟩),x7,x8,x9,x10,x11,x12,x13,x14,x15,x16,x17,x18,x19,x20,x21,x22,x23,x24,x25,x26,x27,x28,x29,x30,x31,x32,x33,x34,x35,x36,x37,x38,x39,x40,x41,x42,x43,x44,x45,x46,x47,x48,x49,x50,x51,x52,x53,x54,x55,x56,x57,x58,x59,x60,x61,x62,x63,x64]/\(upB (upB B b3 (.cells #[.pointer (some ⟨T.ob c,0,none⟩)] 35)) b5 (.cells op.cells.toArray 34)) b6=none/\B'=upB (upB (upB B b3 (.cells #[.pointer (some ⟨T.ob c,0,none⟩)] 35)) b5 (.cells op.cells.toArray 34)) b6 (.cells #[.bool false,.int .i64 0,.slice none 0 0] 49)) hA rfl rfl (by kernel_rfl) ?_ ?_
 . intro wc hB X0 hX0;have HX0:=Lib.hid hX0;clear hX0;have hm:=OMoved.push (o:=.cells #[.bool false,.int .i64 0,.slice none 0 0] 49) hB.own (Ext1.alloc wc (.cells #[.bool false,.int .i64 0,.slice none 0 0] 49)) (Nat.le_refl _) (by rw[zqa];simp);have hf:=hB.own.fresh (Nat.le_refl _);have HM:=Lib.hid (And.intro hm hf);clear hm hf;go_wp2;exact⟨rfl,HX0.out _ _ _ HM.out.1 ⟨_,_,_,_,_,_,_,_,_,_,_,_,_,_,_,_,_,_,_,_,_,_,_,_,_,_,_,_,_,_,_,_,_,_,_,_,_,_,_,_,_,_,_,_,_,_,_,_,_,_,_,_,_,_,_,_,_,_,_,_,rfl,HM.out.2,rfl⟩⟩
 clear hA;rintro _ _ w ⟨b6,x4,x7,x8,x9,x10,x11,x12,x13,x14,x15,x16,x17,x18,x19,x20,x21,x22,x23,x24,x25,x26,x27,x28,x29,x30,x31,x32,x33,x34,x35,x36,x37,x38,x39,x40,x41,x42,x43,x44,x45,x46,x47,x48,x49,x50,x51,x52,x53,x54,x55,x56,x57,x58,x59,x60,x61,x62,x63,x64,rfl,hb6,rfl⟩ hA;have h3:(upB (upB (upB B b3 (.cells #[.pointer (some ⟨T.ob c,0,none⟩)] 35)) b5 (.cells op.cells.toArray 34)) b6 (.cells #[.bool false,.int .i64 0,.slice none 0 0] 49)) b3=some (.cells #[.pointer (some ⟨T.ob c,0,none⟩)] 35):=zq2e (zq2e (upB_same _ _ _) (zq3g (upB_same _ _ _) hb5)) (zq3g (zq2e (upB_same _ _ _) (zq3g (upB_same _ _ _) hb5)) hb6);have h5:(upB (upB (upB B b3 (.cells #[.pointer (some ⟨T.ob c,0,none⟩)] 35)) b5 (.cells op.cells.toArray 34)) b6 (.cells #[.bool false,.int .i64 0,.slice none 0 0] 49)) b5=some (.cells op.cells.toArray 34):=zq2e (upB_same _ _ _) (zq3g (upB_same _ _ _) hb6);have h6:(upB (upB (upB B b3 (.cells #[.pointer (some ⟨T.ob c,0,none⟩)] 35)) b5 (.cells op.cells.toArray 34)) b6 (.cells #[.bool false,.int .i64 0,.slice none 0 0] 49)) b6=some (.cells #[.bool false,.int .i64 0,.slice none 0 0] 49):=upB_same _ _ _;have hB5:B b5=none:=Classical.byContradiction λh=>by
  cases ho:B b5 with
  |none=>exact h ho
  |some o=>rw[zq35 (o:=.cells #[.pointer (some ⟨T.ob c,0,none⟩)] 35) hb3 b5 o ho]at hb5;cases hb5
 have hB6:B b6=none:=Classical.byContradiction λh=>by
  cases ho:B b6 with
  |none=>exact h ho
  |some o=>rw[zq1s (o:=.cells op.cells.toArray 34) (zq35 (o:=.cells #[.pointer (some ⟨T.ob c,0,none⟩)] 35) hb3) hB5 b6 o ho]at hb6;cases hb6
 have hle:∀x y,B x=some y->(upB (upB (upB B b3 (.cells #[.pointer (some ⟨T.ob c,0,none⟩)] 35)) b5 (.cells op.cells.toArray 34)) b6 (.cells #[.bool false,.int .i64 0,.slice none 0 0] 49)) x=some y:=zq1s (zq1s (zq35 (o:=.cells #[.pointer (some ⟨T.ob c,0,none⟩)] 35) hb3) hB5) hB6;obtain⟨Bq,hBq⟩:∃X,upB (upB (upB B b3 (.cells #[.pointer (some ⟨T.ob c,0,none⟩)] 35)) b5 (.cells op.cells.toArray 34)) b6 (.cells #[.bool false,.int .i64 0,.slice none 0 0] 49)=X:=⟨_,rfl⟩;rw[hBq]at h3 h5 h6 hle hA;have H3:=Lib.hid h3;have H5:=Lib.hid h5;have H6:=Lib.hid h6;have HLE:=Lib.hid hle;have HN:=Lib.hid hB6;clear h3 h5 h6 hle hBq hb3 hb5 hb6 hB5 hB6;show wpJ Y.J _ _ _ _ _;refine YSys.seqX (λt B'=>∃(x4 x8 x9 x10 x11 x12 x13 x14 x15 x16 x17 x18 x19 x20 x21 x22 x23 x24 x25 x26 x27 x28 x29 x30 x31 x32 x33 x34 x35 x36 x37 x38 x39 x40 x41 x42 x43 x44 x45 x46 x47 x48 x49 x50 x51 x52 x53 x54 x55 x56 x57 x58 x59 x60 x61 x62 x63 x64:Value),t=#[.pointer (some ⟨T.ob c,0,none⟩),sv,op.val,.pointer (some ⟨b3,0,none⟩),x4,.pointer (some ⟨b5,0,none⟩),.pointer (some ⟨b6,0,none⟩),.int .i64 (zq1i op.c),x8,x9,x10,x11,x12,x13,x14,x15,x16,x17,x18,x19,x20,x21,x22,x23,x24,x25,x26,x27,x28,x29,x30,x31,x32,x33,x34,x35,x36,x37,x38,x39,x40,x41,x42,x43,x44,x45,x46,x47,x48,x49,x50,x51,x52,x53,x54,x55,x56,x57,x58,x59,x60,x61,x62,x63,x64]/\B'=Bq) hA (by kernel_rfl) ?_ ?_
 . intro wc hB X0 hX0;have HX0:=Lib.hid hX0;clear hX0;have HOM:=Lib.hid (OMoved.ext hB.own (Ext1.refl wc));have c50:wc.cell? ⟨b5,0,none⟩=some (.int .i64 op.k):=(zq0 (hB.own.box b5 _ H5.out)).trans rfl;have c51:wc.cell? ⟨b5,1,none⟩=some (.int .i64 op.a):=(zq0 (hB.own.box b5 _ H5.out)).trans rfl;have c52:wc.cell? ⟨b5,2,none⟩=some (.int .i64 op.b):=(zq0 (hB.own.box b5 _ H5.out)).trans rfl;have c53:wc.cell? ⟨b5,3,none⟩=some (.int .i64 op.c):=(zq0 (hB.own.box b5 _ H5.out)).trans rfl;rcases(by omega:op.c<0\/(0<=op.c/\op.c<=1024)\/1024<op.c)with h|⟨h,h'⟩|h
   . have e:zq1i op.c=0:=by unfold zq1i;omega
     have h1:op.c<=0:=by omega
     have E:=Lib.hid e;clear e;go_wp2;exact⟨rfl,HX0.out _ _ _ HOM.out ⟨_,_,_,_,_,_,_,_,_,_,_,_,_,_,_,_,_,_,_,_,_,_,_,_,_,_,_,_,_,_,_,_,_,_,_,_,_,_,_,_,_,_,_,_,_,_,_,_,_,_,_,_,_,_,_,_,_,_,by rw[E.out],rfl⟩⟩
   . have e:zq1i op.c=op.c:=by unfold zq1i;omega
     have E:=Lib.hid e;clear e;go_wp2;exact⟨rfl,HX0.out _ _ _ HOM.out ⟨_,_,_,_,_,_,_,_,_,_,_,_,_,_,_,_,_,_,_,_,_,_,_,_,_,_,_,_,_,_,_,_,_,_,_,_,_,_,_,_,_,_,_,_,_,_,_,_,_,_,_,_,_,_,_,_,_,_,by rw[E.out],rfl⟩⟩
   . have e:zq1i op.c=1024:=by unfold zq1i;omega
     have h1:0<=op.c:=by omega
     have h2:¬op.c<=1024:=by omega
     have E:=Lib.hid e;clear e;go_wp2;exact⟨rfl,HX0.out _ _ _ HOM.out ⟨_,_,_,_,_,_,_,_,_,_,_,_,_,_,_,_,_,_,_,_,_,_,_,_,_,_,_,_,_,_,_,_,_,_,_,_,_,_,_,_,_,_,_,_,_,_,_,_,_,_,_,_,_,_,_,_,_,_,by rw[E.out],rfl⟩⟩
 rintro _ Bz w ⟨x4,x8,x9,x10,x11,x12,x13,x14,x15,x16,x17,x18,x19,x20,x21,x22,x23,x24,x25,x26,x27,x28,x29,x30,x31,x32,x33,x34,x35,x36,x37,x38,x39,x40,x41,x42,x43,x44,x45,x46,x47,x48,x49,x50,x51,x52,x53,x54,x55,x56,x57,x58,x59,x60,x61,x62,x63,x64,rfl,hBz⟩ hA;rw[hBz]at hA;clear hBz;apply YSys.seq0 hA (by kernel_rfl)
 . intro wc hB;go_wp2;exact⟨rfl,Ext1.refl _,rfl⟩
 intro w hA;refine zqh Y.jc ?_;apply YSys.seq0 hA (by kernel_rfl)
 . intro wc hB;have c50:wc.cell? ⟨b5,0,none⟩=some (.int .i64 op.k):=(zq0 (hB.own.box b5 _ H5.out)).trans rfl;have c51:wc.cell? ⟨b5,1,none⟩=some (.int .i64 op.a):=(zq0 (hB.own.box b5 _ H5.out)).trans rfl;have c52:wc.cell? ⟨b5,2,none⟩=some (.int .i64 op.b):=(zq0 (hB.own.box b5 _ H5.out)).trans rfl;have c53:wc.cell? ⟨b5,3,none⟩=some (.int .i64 op.c):=(zq0 (hB.own.box b5 _ H5.out)).trans rfl;go_wp2;exact⟨rfl,Ext1.refl _,rfl⟩
 intro w hA;refine zq3m Y.jc ?_;unfold onceP at hA;apply YSys.seq0 hA (by kernel_rfl)
 . intro wc hB;go_wp2;exact⟨rfl,Ext1.refl _,rfl⟩
 intro w hA;refine zqx Y.jc rfl ?_
 by_cases hk1:op.k=1
 . rw[if_pos (by simp[hk1])];rw[if_pos hk1,Proc.bind_bind]at hA;clear hk1;refine zqh Y.jc (zqv Y.jc ?_);apply YSys.callR 0 2 5 hA (zq5g Y hst.base hc).spec (λx=>HKK.out _) rfl rfl rfl (by rfl) rfl rfl rfl
   . intro wc hB X hX;have HX:=Lib.hid hX;clear hX;have c30:wc.cell? ⟨b3,0,none⟩=some (.pointer (some ⟨T.ob c,0,none⟩)):=(zq0 (hB.own.box b3 _ H3.out)).trans rfl;go_wp2;exact HX.out _ (Ext1.refl _)
   . intro w;simp[go_sem,execOp,Act.eval,resolve,Deferred.ofValue,invoke,callFunc,Try.func25,Try.f25]
   . intro w;simp[go_sem,execOp,Act.eval,resolve,Deferred.ofValue,invoke,callFunc,Try.func25,Try.f25]
   . intro s' ch w' h;exact⟨rfl,h⟩
   intro s x w hA;apply YSys.ops0 3 5 hA rfl rfl (by kernel_rfl)
   . intro wc hB;go_wp2;exact⟨rfl,Ext1.refl _,rfl⟩
   intro w hA;show wpJ Y.J _ _ _ _ _;refine YSys.seqX (λt B'=>∃(y4 y8 y9 y10 y11 y12 y13 y14 y15 y16 y17 y18 y19 y20 y21 y22 y23 y24 y25 y26 y27 y28 y29 y30 y31 y32 y33 y34 y35 y36 y37 y38 y39 y40 y41 y42 y43 y44 y45 y46 y47 y48 y49 y50 y51 y52 y53 y54 y55 y56 y57 y58 y59 y60 y61 y62 y63 y64:Value),t=#[.pointer (some ⟨T.ob c,0,none⟩),sv,op.val,.pointer (some ⟨b3,0,none⟩),y4,.pointer (some ⟨b5,0,none⟩),.pointer (some ⟨b6,0,none⟩),.int .i64 (zq1i op.c),y8,y9,y10,y11,y12,y13,y14,y15,y16,y17,y18,y19,y20,y21,y22,y23,y24,y25,y26,y27,y28,y29,y30,y31,y32,y33,y34,y35,y36,y37,y38,y39,y40,y41,y42,y43,y44,y45,y46,y47,y48,y49,y50,y51,y52,y53,y54,y55,y56,y57,y58,y59,y60,y61,y62,y63,y64]/\B'=upB Bq b6 (.cells #[.bool x.2,.int .i64 x.1,.slice none 0 0] 49)) hA (by kernel_rfl) ?_ ?_
   . intro wc hB X0 hX0;have HX0:=Lib.hid hX0;clear hX0;have k6:=hB.own.box b6 _ H6.out;have c60:wc.cell? ⟨b6,0,none⟩=some (.bool false):=(zq0 k6).trans rfl;have c61:wc.cell? ⟨b6,1,none⟩=some (.int .i64 0):=(zq0 k6).trans rfl;have c62:wc.cell? ⟨b6,2,none⟩=some (.slice none 0 0):=(zq0 k6).trans rfl;have f60:wc.frozen? ⟨b6,0,none⟩=false:=zqc k6;have f61:wc.frozen? ⟨b6,1,none⟩=false:=zqc k6;have f62:wc.frozen? ⟨b6,2,none⟩=false:=zqc k6;have hm:=OMoved.set3 (o1:=0) (o2:=1) (o3:=2) hB.own H6.out (.bool x.2) (.int .i64 x.1) (.slice none 0 0);have HM:=Lib.hid hm;clear hm k6;go_wp2;exact⟨rfl,HX0.out _ _ _ HM.out ⟨_,_,_,_,_,_,_,_,_,_,_,_,_,_,_,_,_,_,_,_,_,_,_,_,_,_,_,_,_,_,_,_,_,_,_,_,_,_,_,_,_,_,_,_,_,_,_,_,_,_,_,_,_,_,_,_,_,_,rfl,rfl⟩⟩
   rintro _ _ w ⟨y4,y8,y9,y10,y11,y12,y13,y14,y15,y16,y17,y18,y19,y20,y21,y22,y23,y24,y25,y26,y27,y28,y29,y30,y31,y32,y33,y34,y35,y36,y37,y38,y39,y40,y41,y42,y43,y44,y45,y46,y47,y48,y49,y50,y51,y52,y53,y54,y55,y56,y57,y58,y59,y60,y61,y62,y63,y64,rfl,rfl⟩ hA;refine zq1b Y.jc ?_;refine YSys.left hA (v:=.agg #[.bool x.2,.int .i64 x.1,.slice none 0 0]) (λwc hB=>results_cell_row rfl _ wc b6 49 _ _ _ rfl (hB.own.box b6 _ (upB_same _ _ _)) rfl rfl rfl) λw hA=>?_;exact⟨⟨x.2,x.1,[]⟩,λ_=>none,AnsV.plain _ _ _,λb hb=>absurd rfl hb,hA.drop (zq1s HLE.out HN.out)⟩
 rw[if_neg (by simp[hk1])];rw[if_neg hk1]at hA;clear hk1;apply YSys.seq0 hA (by kernel_rfl)
 . intro wc hB;go_wp2;exact⟨rfl,Ext1.refl _,rfl⟩
 intro w hA;refine zqx Y.jc rfl ?_
 by_cases hk2:op.k=2
 . rw[if_pos (by simp[hk2])];rw[if_pos hk2,Proc.bind_bind]at hA;clear hk2;refine zqh Y.jc (zqv Y.jc ?_);apply YSys.callR 0 4 5 hA (set_spec Y hst.base hc op.b).spec (λx=>HKK.out _) rfl rfl rfl (by rfl) rfl rfl rfl
   . intro wc hB X hX;have HX:=Lib.hid hX;clear hX;have c30:wc.cell? ⟨b3,0,none⟩=some (.pointer (some ⟨T.ob c,0,none⟩)):=(zq0 (hB.own.box b3 _ H3.out)).trans rfl;have c50:wc.cell? ⟨b5,0,none⟩=some (.int .i64 op.k):=(zq0 (hB.own.box b5 _ H5.out)).trans rfl;have c51:wc.cell? ⟨b5,1,none⟩=some (.int .i64 op.a):=(zq0 (hB.own.box b5 _ H5.out)).trans rfl;have c52:wc.cell? ⟨b5,2,none⟩=some (.int .i64 op.b):=(zq0 (hB.own.box b5 _ H5.out)).trans rfl;have c53:wc.cell? ⟨b5,3,none⟩=some (.int .i64 op.c):=(zq0 (hB.own.box b5 _ H5.out)).trans rfl;go_wp2;exact HX.out _ (Ext1.refl _)
   . intro w;simp[go_sem,execOp,Act.eval,resolve,Deferred.ofValue,invoke,callFunc,Try.func26,Try.f26]
   . intro w;simp[go_sem,execOp,Act.eval,resolve,Deferred.ofValue,invoke,callFunc,Try.func26,Try.f26]
   . intro s' ch w' h;exact⟨rfl,h⟩
   intro s x w hA;apply YSys.ops0 5 5 hA rfl rfl (by kernel_rfl)
   . intro wc hB;go_wp2;exact⟨rfl,Ext1.refl _,rfl⟩
   intro w hA;show wpJ Y.J _ _ _ _ _;refine YSys.seqX (λt B'=>∃(y4 y8 y9 y10 y11 y12 y13 y14 y15 y16 y17 y18 y19 y20 y21 y22 y23 y24 y25 y26 y27 y28 y29 y30 y31 y32 y33 y34 y35 y36 y37 y38 y39 y40 y41 y42 y43 y44 y45 y46 y47 y48 y49 y50 y51 y52 y53 y54 y55 y56 y57 y58 y59 y60 y61 y62 y63 y64:Value),t=#[.pointer (some ⟨T.ob c,0,none⟩),sv,op.val,.pointer (some ⟨b3,0,none⟩),y4,.pointer (some ⟨b5,0,none⟩),.pointer (some ⟨b6,0,none⟩),.int .i64 (zq1i op.c),y8,y9,y10,y11,y12,y13,y14,y15,y16,y17,y18,y19,y20,y21,y22,y23,y24,y25,y26,y27,y28,y29,y30,y31,y32,y33,y34,y35,y36,y37,y38,y39,y40,y41,y42,y43,y44,y45,y46,y47,y48,y49,y50,y51,y52,y53,y54,y55,y56,y57,y58,y59,y60,y61,y62,y63,y64]/\B'=upB Bq b6 (.cells #[.bool x.2,.int .i64 x.1,.slice none 0 0] 49)) hA (by kernel_rfl) ?_ ?_
   . intro wc hB X0 hX0;have HX0:=Lib.hid hX0;clear hX0;have k6:=hB.own.box b6 _ H6.out;have c60:wc.cell? ⟨b6,0,none⟩=some (.bool false):=(zq0 k6).trans rfl;have c61:wc.cell? ⟨b6,1,none⟩=some (.int .i64 0):=(zq0 k6).trans rfl;have c62:wc.cell? ⟨b6,2,none⟩=some (.slice none 0 0):=(zq0 k6).trans rfl;have f60:wc.frozen? ⟨b6,0,none⟩=false:=zqc k6;have f61:wc.frozen? ⟨b6,1,none⟩=false:=zqc k6;have f62:wc.frozen? ⟨b6,2,none⟩=false:=zqc k6;have hm:=OMoved.set3 (o1:=0) (o2:=1) (o3:=2) hB.own H6.out (.bool x.2) (.int .i64 x.1) (.slice none 0 0);have HM:=Lib.hid hm;clear hm k6;go_wp2;exact⟨rfl,HX0.out _ _ _ HM.out ⟨_,_,_,_,_,_,_,_,_,_,_,_,_,_,_,_,_,_,_,_,_,_,_,_,_,_,_,_,_,_,_,_,_,_,_,_,_,_,_,_,_,_,_,_,_,_,_,_,_,_,_,_,_,_,_,_,_,_,rfl,rfl⟩⟩
   rintro _ _ w ⟨y4,y8,y9,y10,y11,y12,y13,y14,y15,y16,y17,y18,y19,y20,y21,y22,y23,y24,y25,y26,y27,y28,y29,y30,y31,y32,y33,y34,y35,y36,y37,y38,y39,y40,y41,y42,y43,y44,y45,y46,y47,y48,y49,y50,y51,y52,y53,y54,y55,y56,y57,y58,y59,y60,y61,y62,y63,y64,rfl,rfl⟩ hA;refine zq1b Y.jc ?_;refine YSys.left hA (v:=.agg #[.bool x.2,.int .i64 x.1,.slice none 0 0]) (λwc hB=>results_cell_row rfl _ wc b6 49 _ _ _ rfl (hB.own.box b6 _ (upB_same _ _ _)) rfl rfl rfl) λw hA=>?_;exact⟨⟨x.2,x.1,[]⟩,λ_=>none,AnsV.plain _ _ _,λb hb=>absurd rfl hb,hA.drop (zq1s HLE.out HN.out)⟩
 rw[if_neg (by simp[hk2])];rw[if_neg hk2]at hA;clear hk2;apply YSys.seq0 hA (by kernel_rfl)
 . intro wc hB;go_wp2;exact⟨rfl,Ext1.refl _,rfl⟩
 intro w hA;refine zqx Y.jc rfl ?_
 by_cases hk3:op.k=3
 . rw[if_pos (by simp[hk3])];rw[if_pos hk3,Proc.bind_bind]at hA;clear hk3;refine zqh Y.jc (zqv Y.jc ?_);apply YSys.callB 0 5 4 hA (zq7v Y hst.base hc Try.func82 rfl rfl (first:=#[]) (caps:=#[.pointer (some ⟨b5,0,none⟩),.pointer (some ⟨b3,0,none⟩)]) (hst.maker hc H3.out H5.out) (λK hK=>by rw[mkP,Proc.bind_bind];exact Y.sil_tick _) (zq1i op.c)) (λx=>HKK.out _) rfl rfl rfl (by rfl) rfl rfl rfl
   . intro wc hB X hX;have HX:=Lib.hid hX;clear hX;have c30:wc.cell? ⟨b3,0,none⟩=some (.pointer (some ⟨T.ob c,0,none⟩)):=(zq0 (hB.own.box b3 _ H3.out)).trans rfl;go_wp2;exact HX.out _ (Ext1.refl _)
   . intro w;simp[go_sem,execOp,Act.eval,resolve,Deferred.ofValue,invoke,callFunc,Try.func27,Try.f27]
   . intro w;simp[go_sem,execOp,Act.eval,resolve,Deferred.ofValue,invoke,callFunc,Try.func27,Try.f27]
   . intro s' ch w' h;exact⟨rfl,h⟩
   intro s x w hA;apply YSys.callP 6 2 1 hA (zq7u Y x.1 x.2) rfl rfl rfl (by rfl) rfl rfl rfl
   . intro wc hB X hX;have HX:=Lib.hid hX;clear hX;go_wp2;exact HX.out _ (Ext1.refl _)
   . intro w;simp[go_sem,execOp,Act.eval,resolve,Deferred.ofValue,invoke,callFunc,Try.func81,Try.f81]
   . intro w;simp[go_sem,execOp,Act.eval,resolve,Deferred.ofValue,invoke,callFunc,Try.func81,Try.f81]
   intro w hA;refine YSys.opsX 9 1 (λt B'=>∃(y4 y8 y9 y10 y11 y12 y13 y14 y15 y16 y17 y18 y19 y20 y21 y22 y23 y24 y25 y26 y27 y28 y29 y30 y31 y32 y33 y34 y35 y36 y37 y38 y39 y40 y41 y42 y43 y44 y45 y46 y47 y48 y49 y50 y51 y52 y53 y54 y55 y56 y57 y58 y59 y60 y61 y62 y63 y64:Value),t=#[.pointer (some ⟨T.ob c,0,none⟩),sv,op.val,.pointer (some ⟨b3,0,none⟩),y4,.pointer (some ⟨b5,0,none⟩),.pointer (some ⟨b6,0,none⟩),.int .i64 (zq1i op.c),y8,y9,y10,y11,y12,y13,y14,y15,y16,y17,y18,y19,y20,y21,y22,y23,y24,y25,y26,y27,y28,y29,y30,y31,y32,y33,y34,y35,y36,y37,y38,y39,y40,y41,y42,y43,y44,y45,y46,y47,y48,y49,y50,y51,y52,y53,y54,y55,y56,y57,y58,y59,y60,y61,y62,y63,y64]/\B'=upB Bq b6 (.cells #[.bool (madeA x.1 x.2).ok,.int .i64 (madeA x.1 x.2).n,.slice none 0 0] 49)) hA rfl rfl (by kernel_rfl) ?_ ?_
   . intro wc hB X0 hX0;have HX0:=Lib.hid hX0;clear hX0;have k6:=hB.own.box b6 _ H6.out;have c60:wc.cell? ⟨b6,0,none⟩=some (.bool false):=(zq0 k6).trans rfl;have c61:wc.cell? ⟨b6,1,none⟩=some (.int .i64 0):=(zq0 k6).trans rfl;have c62:wc.cell? ⟨b6,2,none⟩=some (.slice none 0 0):=(zq0 k6).trans rfl;have f60:wc.frozen? ⟨b6,0,none⟩=false:=zqc k6;have f61:wc.frozen? ⟨b6,1,none⟩=false:=zqc k6;have f62:wc.frozen? ⟨b6,2,none⟩=false:=zqc k6;have hm:=OMoved.set3 (o1:=0) (o2:=1) (o3:=2) hB.own H6.out (.bool (madeA x.1 x.2).ok) (.int .i64 (madeA x.1 x.2).n) (.slice none 0 0);have HM:=Lib.hid hm;clear hm k6;go_wp2;exact⟨rfl,HX0.out _ _ _ HM.out ⟨_,_,_,_,_,_,_,_,_,_,_,_,_,_,_,_,_,_,_,_,_,_,_,_,_,_,_,_,_,_,_,_,_,_,_,_,_,_,_,_,_,_,_,_,_,_,_,_,_,_,_,_,_,_,_,_,_,_,rfl,rfl⟩⟩
   rintro _ _ w ⟨y4,y8,y9,y10,y11,y12,y13,y14,y15,y16,y17,y18,y19,y20,y21,y22,y23,y24,y25,y26,y27,y28,y29,y30,y31,y32,y33,y34,y35,y36,y37,y38,y39,y40,y41,y42,y43,y44,y45,y46,y47,y48,y49,y50,y51,y52,y53,y54,y55,y56,y57,y58,y59,y60,y61,y62,y63,y64,rfl,rfl⟩ hA;show wpJ Y.J _ _ _ _ _;refine zq1b Y.jc ?_;refine YSys.left hA (v:=.agg #[.bool (madeA x.1 x.2).ok,.int .i64 (madeA x.1 x.2).n,.slice none 0 0]) (λwc hB=>results_cell_row rfl _ wc b6 49 _ _ _ rfl (hB.own.box b6 _ (upB_same _ _ _)) rfl rfl rfl) λw hA=>?_;exact⟨madeA x.1 x.2,λ_=>none,zq7t _ _,λb hb=>absurd rfl hb,hA.drop (zq1s HLE.out HN.out)⟩
 rw[if_neg (by simp[hk3])];rw[if_neg hk3]at hA;clear hk3;apply YSys.seq0 hA (by kernel_rfl)
 . intro wc hB;go_wp2;exact⟨rfl,Ext1.refl _,rfl⟩
 intro w hA;refine zqx Y.jc rfl ?_
 by_cases hk4:op.k=4
 . rw[if_pos (by simp[hk4])];rw[if_pos hk4,Proc.bind_bind]at hA;clear hk4;refine zqh Y.jc (zqv Y.jc ?_);apply YSys.callB 0 4 4 hA (zq7v Y hst.base hc Try.func83 rfl rfl (first:=#[]) (caps:=#[]) (zqea Y Bq sv) (λK hK=>hK _) (zq1i op.c)) (λx=>HKK.out _) rfl rfl rfl (by rfl) rfl rfl rfl
   . intro wc hB X hX;have HX:=Lib.hid hX;clear hX;have c30:wc.cell? ⟨b3,0,none⟩=some (.pointer (some ⟨T.ob c,0,none⟩)):=(zq0 (hB.own.box b3 _ H3.out)).trans rfl;go_wp2;exact HX.out _ (Ext1.refl _)
   . intro w;simp[go_sem,execOp,Act.eval,resolve,Deferred.ofValue,invoke,callFunc,Try.func27,Try.f27]
   . intro w;simp[go_sem,execOp,Act.eval,resolve,Deferred.ofValue,invoke,callFunc,Try.func27,Try.f27]
   . intro s' ch w' h;exact⟨rfl,h⟩
   intro s x w hA;apply YSys.callP 5 2 1 hA (zq7u Y x.1 x.2) rfl rfl rfl (by rfl) rfl rfl rfl
   . intro wc hB X hX;have HX:=Lib.hid hX;clear hX;go_wp2;exact HX.out _ (Ext1.refl _)
   . intro w;simp[go_sem,execOp,Act.eval,resolve,Deferred.ofValue,invoke,callFunc,Try.func81,Try.f81]
   . intro w;simp[go_sem,execOp,Act.eval,resolve,Deferred.ofValue,invoke,callFunc,Try.func81,Try.f81]
   intro w hA;refine YSys.opsX 8 1 (λt B'=>∃(y4 y8 y9 y10 y11 y12 y13 y14 y15 y16 y17 y18 y19 y20 y21 y22 y23 y24 y25 y26 y27 y28 y29 y30 y31 y32 y33 y34 y35 y36 y37 y38 y39 y40 y41 y42 y43 y44 y45 y46 y47 y48 y49 y50 y51 y52 y53 y54 y55 y56 y57 y58 y59 y60 y61 y62 y63 y64:Value),t=#[.pointer (some ⟨T.ob c,0,none⟩),sv,op.val,.pointer (some ⟨b3,0,none⟩),y4,.pointer (some ⟨b5,0,none⟩),.pointer (some ⟨b6,0,none⟩),.int .i64 (zq1i op.c),y8,y9,y10,y11,y12,y13,y14,y15,y16,y17,y18,y19,y20,y21,y22,y23,y24,y25,y26,y27,y28,y29,y30,y31,y32,y33,y34,y35,y36,y37,y38,y39,y40,y41,y42,y43,y44,y45,y46,y47,y48,y49,y50,y51,y52,y53,y54,y55,y56,y57,y58,y59,y60,y61,y62,y63,y64]/\B'=upB Bq b6 (.cells #[.bool (madeA x.1 x.2).ok,.int .i64 (madeA x.1 x.2).n,.slice none 0 0] 49)) hA rfl rfl (by kernel_rfl) ?_ ?_
   . intro wc hB X0 hX0;have HX0:=Lib.hid hX0;clear hX0;have k6:=hB.own.box b6 _ H6.out;have c60:wc.cell? ⟨b6,0,none⟩=some (.bool false):=(zq0 k6).trans rfl;have c61:wc.cell? ⟨b6,1,none⟩=some (.int .i64 0):=(zq0 k6).trans rfl;have c62:wc.cell? ⟨b6,2,none⟩=some (.slice none 0 0):=(zq0 k6).trans rfl;have f60:wc.frozen? ⟨b6,0,none⟩=false:=zqc k6;have f61:wc.frozen? ⟨b6,1,none⟩=false:=zqc k6;have f62:wc.frozen? ⟨b6,2,none⟩=false:=zqc k6;have hm:=OMoved.set3 (o1:=0) (o2:=1) (o3:=2) hB.own H6.out (.bool (madeA x.1 x.2).ok) (.int .i64 (madeA x.1 x.2).n) (.slice none 0 0);have HM:=Lib.hid hm;clear hm k6;go_wp2;exact⟨rfl,HX0.out _ _ _ HM.out ⟨_,_,_,_,_,_,_,_,_,_,_,_,_,_,_,_,_,_,_,_,_,_,_,_,_,_,_,_,_,_,_,_,_,_,_,_,_,_,_,_,_,_,_,_,_,_,_,_,_,_,_,_,_,_,_,_,_,_,rfl,rfl⟩⟩
   rintro _ _ w ⟨y4,y8,y9,y10,y11,y12,y13,y14,y15,y16,y17,y18,y19,y20,y21,y22,y23,y24,y25,y26,y27,y28,y29,y30,y31,y32,y33,y34,y35,y36,y37,y38,y39,y40,y41,y42,y43,y44,y45,y46,y47,y48,y49,y50,y51,y52,y53,y54,y55,y56,y57,y58,y59,y60,y61,y62,y63,y64,rfl,rfl⟩ hA;show wpJ Y.J _ _ _ _ _;refine zq1b Y.jc ?_;refine YSys.left hA (v:=.agg #[.bool (madeA x.1 x.2).ok,.int .i64 (madeA x.1 x.2).n,.slice none 0 0]) (λwc hB=>results_cell_row rfl _ wc b6 49 _ _ _ rfl (hB.own.box b6 _ (upB_same _ _ _)) rfl rfl rfl) λw hA=>?_;exact⟨madeA x.1 x.2,λ_=>none,zq7t _ _,λb hb=>absurd rfl hb,hA.drop (zq1s HLE.out HN.out)⟩
 rw[if_neg (by simp[hk4])];rw[if_neg hk4]at hA;clear hk4;refine zq1e Y.jc ?_;show wpJ Y.J _ _ _ _ _;refine YSys.seqX (λt B'=>∃(y4 y8 y9 y10 y11 y12 y13 y14 y15 y16 y17 y18 y19 y20 y21 y22 y23 y24 y25 y26 y27 y28 y29 y30 y31 y32 y33 y34 y35 y36 y37 y38 y39 y40 y41 y42 y43 y44 y45 y46 y47 y48 y49 y50 y51 y52 y53 y54 y55 y56 y57 y58 y59 y60 y61 y62 y63 y64:Value),t=#[.pointer (some ⟨T.ob c,0,none⟩),sv,op.val,.pointer (some ⟨b3,0,none⟩),y4,.pointer (some ⟨b5,0,none⟩),.pointer (some ⟨b6,0,none⟩),.int .i64 (zq1i op.c),y8,y9,y10,y11,y12,y13,y14,y15,y16,y17,y18,y19,y20,y21,y22,y23,y24,y25,y26,y27,y28,y29,y30,y31,y32,y33,y34,y35,y36,y37,y38,y39,y40,y41,y42,y43,y44,y45,y46,y47,y48,y49,y50,y51,y52,y53,y54,y55,y56,y57,y58,y59,y60,y61,y62,y63,y64]/\B'=upB Bq b6 (.cells #[.bool false,.int .i64 0,.slice none 0 0] 49)) hA (by kernel_rfl) ?_ ?_
 . intro wc hB X0 hX0;have HX0:=Lib.hid hX0;clear hX0;have k6:=hB.own.box b6 _ H6.out;have c60:wc.cell? ⟨b6,0,none⟩=some (.bool false):=(zq0 k6).trans rfl;have c61:wc.cell? ⟨b6,1,none⟩=some (.int .i64 0):=(zq0 k6).trans rfl;have c62:wc.cell? ⟨b6,2,none⟩=some (.slice none 0 0):=(zq0 k6).trans rfl;have f60:wc.frozen? ⟨b6,0,none⟩=false:=zqc k6;have f61:wc.frozen? ⟨b6,1,none⟩=false:=zqc k6;have f62:wc.frozen? ⟨b6,2,none⟩=false:=zqc k6;have hm:=OMoved.set3 (o1:=0) (o2:=1) (o3:=2) hB.own H6.out (.bool false) (.int .i64 0) (.slice none 0 0);have HM:=Lib.hid hm;clear hm k6;go_wp2;exact⟨rfl,HX0.out _ _ _ HM.out ⟨_,_,_,_,_,_,_,_,_,_,_,_,_,_,_,_,_,_,_,_,_,_,_,_,_,_,_,_,_,_,_,_,_,_,_,_,_,_,_,_,_,_,_,_,_,_,_,_,_,_,_,_,_,_,_,_,_,_,rfl,rfl⟩⟩
 rintro _ _ w ⟨y4,y8,y9,y10,y11,y12,y13,y14,y15,y16,y17,y18,y19,y20,y21,y22,y23,y24,y25,y26,y27,y28,y29,y30,y31,y32,y33,y34,y35,y36,y37,y38,y39,y40,y41,y42,y43,y44,y45,y46,y47,y48,y49,y50,y51,y52,y53,y54,y55,y56,y57,y58,y59,y60,y61,y62,y63,y64,rfl,rfl⟩ hA;refine zq1b Y.jc ?_;refine YSys.left hA (v:=.agg #[.bool false,.int .i64 0,.slice none 0 0]) (λwc hB=>results_cell_row rfl _ wc b6 49 _ _ _ rfl (hB.own.box b6 _ (upB_same _ _ _)) rfl rfl rfl) λw hA=>?_;exact⟨Ans.none,λ_=>none,AnsV.plain _ _ _,λb hb=>absurd rfl hb,hA.drop (zq1s HLE.out HN.out)⟩
end
end Go.Proofs
namespace Go.Car
open Go Go.Conc Go.RowKit
open Go.ConcN (upd upd_ne upd_same)
section
variable {P:Program} {main:Bool} {γ:Type} {J:γ->Goroutine->World->Prop}
def zq3a(ops:Array Oper):Bool:=(List.range ops.size).all λi=>match ops[i]? with
 |some o=>o.after.all (λe=>!Region.binds .any e || decide (e.on<i))
 |none=>false
end
section
variable {P:Program} {main:Bool} {γ:Type} {J:γ->Goroutine->World->Prop}
end
section
variable {P:Program} {main:Bool} {γ:Type} {J:γ->Goroutine->World->Prop}
theorem zqb2(hjs:∀s,∃Kc,JS P main Kc (λ(_:Unit)=>J s)){b:Frame}{k:List Item}{cs:List Frame}(hb:b.kind≠.early)(hm:P.follows .mixedOrders=true){id:Nat}{ops:Array Oper}{T₀:Array Value}{ds:List Deferred}{s:γ}{w:World}(I:γ->(Nat->Bool)->Array Value->World->Prop)
 (hback:zq3a ops=true) (hre:∀s L T w τ d,I s L T w->I s L T (re w τ d)) (hI:I s (λ_=>false) T₀ w)
 (hstep:∀(s:γ)(L:Nat->Bool)(T:Array Value)(w:World)(i:Nat)(o:Oper),I s L T w->L i=false->ops[i]?=some o->(∀e∈o.after,Region.binds .any e=true->L e.on=true)->
  ∀rest:List Nat,(∀s' T' w',I s' (upd L i true) T' w'->J s' (G (b.at ⟨T',ds⟩ (.inRegion ops rest::k)) cs) w')->J s (G (b.at ⟨T,ds⟩ (.inRegion ops (i::rest)::k)) cs) w)
 (hend:∀s L T w,(∀i,i<ops.size->L i=true)->I s L T w->J s (G (b.at ⟨T,ds⟩ (.inRegion ops []::k)) cs) w):J s (G (b.at ⟨T₀,ds⟩ (.code (.region id ops true)::k)) cs) w:=by
 have hb':∀i o,ops[i]?=some o->∀e∈o.after,Region.binds .any e=true->e.on<i:=by
  intro i o ho;have hlt:=(Array.getElem?_eq_some_iff.1 ho).1;unfold zq3a at hback;rw[List.all_eq_true]at hback;have:=hback i (List.mem_range.2 hlt);rw[ho]at this;simp only[Array.all_eq_true_iff_forall_mem]at this;exact λe he hbe=>by have:=this e he;simpa[hbe]using this
 have key:∀(fuel t:Nat)(listed:Array Bool)(s:γ)(L:Nat->Bool)(T:Array Value)(w:World),listed.size=ops.size->left listed=fuel->(∀i,i<ops.size->listed.getD i false=L i)->I s L T w->
  J s (G (b.at ⟨T,ds⟩ (.inRegion ops (Region.linearise.go .any ops fuel t listed [])::k)) cs) w:=by
  intro fuel
  induction fuel with
  |zero=>
   intro t listed s L T w hsz hl hL hi;refine hend s L T w (λi hlt=>?_) hi;rw[<-hL i hlt];have hlt':i<listed.size:=by omega
   cases hv:listed[i]with
   |true=>simp[hlt',hv]
   |false=>have:=zq3e (listed:=listed) (i:=i) (by simp[hlt',hv]);omega
  |succ fuel ih=>
   intro t listed s L T w hsz hl hL hi;simp only[Region.linearise.go];change J s (G (b.at ⟨T,ds⟩ (.inRegion ops (match (Region.ready .any ops listed)[t % (Region.ready .any ops listed).length]? with
    |some i=>Region.linearise.go .any ops fuel (t / (Region.ready .any ops listed).length) (listed.setIfInBounds i true) [i]
    |none=>[].reverse)::k)) cs) w
   have hun:∃i,listed.getD i true=false:=by
    refine Classical.byContradiction λhn=>?_;have:left listed=0:=by
     unfold left;rw[List.length_eq_zero_iff,List.filter_eq_nil_iff];intro x hx hxx;obtain⟨i,hi,rfl⟩:=List.getElem_of_mem hx;have hi':i<listed.size:=by simpa using hi
     have e:listed.toList[i]=listed[i]:=by simp
     rw[e]at hxx;exact hn ⟨i,by simp[hi'];simpa using hxx⟩
    omega
   have hready:∃i,i∈Region.ready .any ops listed:=by
    have:∀m i,m=i->listed.getD i true=false->∃j,j∈Region.ready .any ops listed:=by
     intro m
     induction m using Nat.strongRecOn with
     |_ m ihm=>
      intro i hi hun;subst hi;have hops:m<ops.size:=by have:=zq1g hun;omega
      by_cases hall:∀e∈(ops[m]'hops).after,Region.binds .any e=true->listed.getD e.on false=true
      . exact⟨m,mem_ready.2 ⟨hun,_,Array.getElem?_eq_getElem hops,hall⟩⟩
      . obtain⟨e,he⟩:=Classical.not_forall.1 hall;obtain⟨h1,he⟩:=Classical.not_imp.1 he;obtain⟨h2,he⟩:=Classical.not_imp.1 he;have hlt':=hb' m _ (Array.getElem?_eq_getElem hops) e h1 h2;refine ihm e.on hlt' e.on rfl ?_;have:e.on<listed.size:=by omega
        simp[this]at he |-;exact he
    obtain⟨i,hi⟩:=hun;exact this i i rfl hi
   cases hi':(Region.ready .any ops listed)[t % (Region.ready .any ops listed).length]? with
   |none=>
    exfalso;obtain⟨i,hi''⟩:=hready;have hpos:0<(Region.ready .any ops listed).length:=List.length_pos_of_mem hi'';have hlt:=Nat.mod_lt t hpos;rw[List.getElem?_eq_none_iff]at hi';omega
   |some i=>
    have hmem:=List.mem_of_getElem? hi';obtain⟨hun,o,ho,hall⟩:=mem_ready.1 hmem;have hilt:i<ops.size:=by have:=zq1g hun;omega
    simp only[];rw[linearise_go_acc,List.reverse_singleton,List.singleton_append];have hbk:=hb' i o ho;have hLi:L i=false:=by
     rw[<-hL i hilt];have hlt':i<listed.size:=by omega
     simp[hlt']at hun |-;exact hun
    have hld:left (listed.setIfInBounds i true)+1=left listed:=zq2j hun;have hL':∀j,j<ops.size->(listed.setIfInBounds i true).getD j false=upd L i true j:=λj hj=>by
     by_cases e:i=j
     . subst e;have:i<listed.size:=by omega
       rw[upd_same];simp[this]
     . rw[getD_set_ne false e,upd_ne _ _ (λx=>e x.symm)];exact hL j hj
    have hall':∀e∈o.after,Region.binds .any e=true->L e.on=true:=λe he hbe=>by
     rw[<-hL e.on (by have:=hbk e he hbe;omega)];exact hall e he hbe
    exact hstep s L T w i o hi hLi ho hall' _ λs' T' w' hI'=>ih _ _ s' (upd L i true) _ _ (by simpa using hsz) (by omega) hL' hI'
 obtain⟨Kc,hJ⟩:=hjs s;refine hJ.step () _ _ rfl λτ d=>⟨_,_,#[],stepG_region_draw (a:=⟨T₀,ds⟩),?_,by simp,?_⟩
 . exact OkD.refl _ _ _
 . refine hJ.re' () _ w τ (d+1) ?_;simp only[Region.schedule,hm,Bool.true_or,if_true,Region.linearise];refine key _ _ _ _ (λ_=>false) _ _ (by simp) ?_ (λi hi=>by simp[hi]) hI;unfold left;simp
end
def lstK(n k:Nat):Array Bool:=((List.range n).map λi=>decide (i<k)).toArray
theorem zq4r(n k:Nat):(lstK n k).size=n:=by simp[lstK]
theorem zq4q(n k i:Nat)(h:i<n):(lstK n k)[i]?=some (decide (i<k)):=by
 unfold lstK;rw[al_gl,List.getElem?_map,List.getElem?_range h];rfl
theorem lstK_of{listed:Array Bool}{n k:Nat}(hs:listed.size=n)(h1:∀i,i<k->listed.getD i false=true)(h2:∀i,k<=i->listed.getD i false=false):listed=lstK n k:=by
 apply Array.ext_getElem?;intro i
 by_cases hi:i<n
 . rw[zq4q n k i hi];have hi':i<listed.size:=by omega
   have e:listed.getD i false=listed[i]:=by simp[hi']
   rw[Array.getElem?_eq_getElem hi',<-e]
   by_cases hk:i<k
   . rw[h1 i hk];simp[hk]
   . rw[h2 i (by omega)];simp[hk]
 . rw[Array.getElem?_eq_none (by omega),Array.getElem?_eq_none (by rw[zq4r];omega)]
theorem zq7s(n k:Nat)(h:k<n):(lstK n k).setIfInBounds k true=lstK n (k+1):=by
 apply Array.ext_getElem?;intro i;rw[al_gs]
 by_cases hi:i<n
 . rw[zq4q n k i hi,zq4q n (k+1) i hi]
   by_cases e:k=i
   . subst e;rw[if_pos rfl,if_pos (by rw[zq4r];exact h)];simp
   . rw[if_neg e];congr 1;simp;omega
 . rw[Array.getElem?_eq_none (by rw[zq4r];omega),Array.getElem?_eq_none (by rw[zq4r];omega)]
   by_cases e:k=i
   . subst e;omega
   . rw[if_neg e]
def zq4g(ops:Array Oper)(k:Nat):Bool:=(List.range ops.size).all λj=>decide (j<k) || (Region.ready .any ops (lstK ops.size j)==[j])
theorem chain_go{ops:Array Oper}{k:Nat}(h:zq4g ops k=true):∀(q j t:Nat),k<=j->j+q=ops.size->Region.linearise.go .any ops q t (lstK ops.size j) []=List.range' j q:=by
 intro q
 induction q with
 |zero=>intro j t _ _;rfl
 |succ q ih=>
  intro j t hk hj;have hr:Region.ready .any ops (lstK ops.size j)=[j]:=by
   unfold zq4g at h;rw[List.all_eq_true]at h;have:=h j (List.mem_range.2 (by omega));simp only[Bool.or_eq_true,decide_eq_true_eq,beq_iff_eq]at this;exact this.resolve_left (by omega)
  simp only[Region.linearise.go];change (match (Region.ready .any ops (lstK ops.size j))[t % (Region.ready .any ops (lstK ops.size j)).length]? with
   |some i=>Region.linearise.go .any ops q (t / (Region.ready .any ops (lstK ops.size j)).length) ((lstK ops.size j).setIfInBounds i true) [i]
   |none=>[].reverse)=_
  rw[hr];simp only[List.length_singleton,Nat.mod_one,al_g0];rw[linearise_go_acc,List.reverse_singleton,List.singleton_append,zq7s _ _ (by omega),ih (j+1) _ (by omega) (by omega),List.range'_succ]
theorem zqd8(n:Nat):∀(q k:Nat),k+q=n->left (lstK n k)=q:=by
 intro q
 induction q with
 |zero=>
  intro k hk;unfold left;rw[List.length_eq_zero_iff,List.filter_eq_nil_iff];intro x hx;simp only[lstK,List.mem_map,List.mem_range]at hx;obtain⟨i,hi,rfl⟩:=hx;simp;omega
 |succ q ih=>
  intro k hk;have h1:(lstK n k).getD k true=false:=by
   rw[al_gd,zq4q n k k (by omega)];simp
  have:=zq2j h1;rw[zq7s n k (by omega),ih (k+1) (by omega)]at this;omega
section
variable {P:Program} {main:Bool} {γ:Type} {J:γ->Goroutine->World->Prop}
theorem zqb1(hjs:∀s,∃Kc,JS P main Kc (λ(_:Unit)=>J s)){b:Frame}{kk:List Item}{cs:List Frame}(hm:P.follows .mixedOrders=true){id:Nat}{ops:Array Oper}{T₀:Array Value}{ds:List Deferred}{s:γ}{w:World}(k:Nat)(I:(Nat->Bool)->Array Value->World->Prop)
 (hback:zq3a ops=true) (hbackB:backB .any ops k=true) (hwait:zq2f .any ops k=true) (hchain:zq4g ops k=true) (hk:k<=ops.size) (hre:∀L T w τ d,I L T w->I L T (re w τ d)) (hI:I (λ_=>false) T₀ w)
 (hstep:∀(L:Nat->Bool)(T:Array Value)(w:World)(i:Nat)(o:Oper),i<k->I L T w->L i=false->ops[i]?=some o->(∀e∈o.after,Region.binds .any e=true->L e.on=true)->
  ∀rest:List Nat,(∀T' w',I (upd L i true) T' w'->J s (G (b.at ⟨T',ds⟩ (.inRegion ops rest::kk)) cs) w')->J s (G (b.at ⟨T,ds⟩ (.inRegion ops (i::rest)::kk)) cs) w)
 (hgo:∀L T w,(∀i,i<k->L i=true)->I L T w->J s (G (b.at ⟨T,ds⟩ (.inRegion ops (List.range' k (ops.size - k))::kk)) cs) w):J s (G (b.at ⟨T₀,ds⟩ (.code (.region id ops true)::kk)) cs) w:=by
 have hb':∀i o,ops[i]?=some o->∀e∈o.after,Region.binds .any e=true->e.on<i:=by
  intro i o ho;have hlt:=(Array.getElem?_eq_some_iff.1 ho).1;unfold zq3a at hback;rw[List.all_eq_true]at hback;have:=hback i (List.mem_range.2 hlt);rw[ho]at this;simp only[Array.all_eq_true_iff_forall_mem]at this;exact λe he hbe=>by have:=this e he;simpa[hbe]using this
 have hAW:=zq6l hwait;have key:∀(fuel t:Nat)(listed:Array Bool)(L:Nat->Bool)(T:Array Value)(w:World),listed.size=ops.size->left listed=fuel->(∀i,i<ops.size->listed.getD i false=L i)->Closed .any ops listed->(∀i,k<=i->listed.getD i false=false)->I L T w->
  J s (G (b.at ⟨T,ds⟩ (.inRegion ops (Region.linearise.go .any ops fuel t listed [])::kk)) cs) w:=by
  intro fuel
  induction fuel with
  |zero=>
   intro t listed L T w hsz hl hL hcl hhi hi;have all:∀i,i<ops.size->listed.getD i false=true:=λi hlt=>by
    have hlt':i<listed.size:=by omega
    cases hv:listed[i]with
    |true=>simp[hlt',hv]
    |false=>have:=zq3e (listed:=listed) (i:=i) (by simp[hlt',hv]);omega
   have hke:k=ops.size:=by
    refine Classical.byContradiction λhne=>?_;have h1:=all k (by omega);rw[hhi k (Nat.le_refl _)]at h1;cases h1
   have:=hgo L T w (λi hlt=>by rw[<-hL i (by omega)];exact all i (by omega)) hi;rw[hke,Nat.sub_self]at this;exact this
  |succ fuel ih=>
   intro t listed L T w hsz hl hL hcl hhi hi
   by_cases hall:∀i,i<k->listed.getD i false=true
   . have e:listed=lstK ops.size k:=lstK_of hsz hall hhi;have hq:fuel+1=ops.size - k:=by
      rw[<-hl,e];exact zqd8 _ _ _ (by omega)
     rw[e,hq,chain_go hchain _ _ _ (Nat.le_refl _) (by omega)];exact hgo L T w (λi hlt=>by rw[<-hL i (by omega)];exact hall i hlt) hi
   . obtain⟨i0,hi0⟩:=Classical.not_forall.1 hall;obtain⟨hik0,hi0⟩:=Classical.not_imp.1 hi0;have hi0s:i0<listed.size:=by omega
     have hready:∃i,i∈Region.ready .any ops listed:=zq6p hbackB listed ⟨i0,hik0,by simp[hi0s]at hi0 |-;exact hi0⟩;simp only[Region.linearise.go];change J s (G (b.at ⟨T,ds⟩ (.inRegion ops (match (Region.ready .any ops listed)[t % (Region.ready .any ops listed).length]? with
      |some i=>Region.linearise.go .any ops fuel (t / (Region.ready .any ops listed).length) (listed.setIfInBounds i true) [i]
      |none=>[].reverse)::kk)) cs) w
     cases hi':(Region.ready .any ops listed)[t % (Region.ready .any ops listed).length]? with
     |none=>
      exfalso;obtain⟨i,hi''⟩:=hready;have hpos:0<(Region.ready .any ops listed).length:=List.length_pos_of_mem hi'';have hlt:=Nat.mod_lt t hpos;rw[List.getElem?_eq_none_iff]at hi';omega
     |some i=>
      have hmem:=List.mem_of_getElem? hi';obtain⟨hun,o,ho,hall2⟩:=mem_ready.1 hmem;have hik:i<k:=Classical.byContradiction λhge=>hi0 (hAW listed hcl i hmem (by omega) i0 hik0);have hilt:i<ops.size:=by have:=zq1g hun;omega
      simp only[];rw[linearise_go_acc,List.reverse_singleton,List.singleton_append];have hbk:=hb' i o ho;have hLi:L i=false:=by
       rw[<-hL i hilt];have hlt':i<listed.size:=by omega
       simp[hlt']at hun |-;exact hun
      have hld:left (listed.setIfInBounds i true)+1=left listed:=zq2j hun;have hL':∀j,j<ops.size->(listed.setIfInBounds i true).getD j false=upd L i true j:=λj hj=>by
       by_cases e:i=j
       . subst e;have:i<listed.size:=by omega
         rw[upd_same];simp[this]
       . rw[getD_set_ne false e,upd_ne _ _ (λx=>e x.symm)];exact hL j hj
      have hall':∀e∈o.after,Region.binds .any e=true->L e.on=true:=λe he hbe=>by
       rw[<-hL e.on (by have:=hbk e he hbe;omega)];exact hall2 e he hbe
      exact hstep L T w i o hik hi hLi ho hall' _ λT' w' hI'=>ih _ _ (upd L i true) _ _ (by simpa using hsz) (by omega) hL' (hcl.set hmem) (λj hj=>by rw[getD_set_ne false (by omega)];exact hhi j hj) hI'
 obtain⟨Kc,hJ⟩:=hjs s;refine hJ.step () _ _ rfl λτ d=>⟨_,_,#[],stepG_region_draw (a:=⟨T₀,ds⟩),?_,by simp,?_⟩
 . exact OkD.refl _ _ _
 . refine hJ.re' () _ w τ (d+1) ?_;simp only[Region.schedule,hm,Bool.true_or,if_true,Region.linearise];refine key _ _ _ (λ_=>false) _ _ (by simp) ?_ (λi hi=>by simp[hi]) (λi o e _ hl=>?_) (λi _=>?_) hI
   . unfold left;simp
   . exfalso;rw[al_gd,Array.getElem?_replicate]at hl;split at hl<;>simp at hl
   . rw[al_gd,Array.getElem?_replicate];split<;>rfl
end
def chkP(P:Program)(ops:Array Oper)(k n:Nat):Bool:=
 (List.range k).all (λi=>match ops[i]? with
  |some o=>o.guard.isNone&&zq1l P o.op&&(match o.dst with|some d=>decide (d<n)|none=>false)
  |none=>false)&&
 (List.range k).all (λi=>(List.range i).all λj=>dstOf ops i !=dstOf ops j)
section
variable {P:Program} {A:FuncId->Bool} {Ml S β α:Type} {C:Core Ml S} {ro:Nat->Option Obj} {i:Nat}
theorem Alone.re (Z:Alone P A C ro i β){I:S->Prop}{B:Nat->Option Obj}{s:Z.γ}{w:World}{p:Proc S β}(h:(Z.sys I).AtB B s w p)(τ:Nat->Question->Nat)(d:Nat):(Z.sys I).AtB B s (Car.re w τ d) p:=by
 obtain⟨m,rfl,h1,h2⟩:=h;have h3:=Z.move h1 (Moved.ext (Z.rep h1) (Ext.re w τ d)) (Z.oth _);rw[BM.put_same]at h3;exact⟨m,rfl,h3,h2⟩
theorem Alone.region (Z:Alone P A C ro i β)(hm:P.follows .mixedOrders=true){I:S->Prop}{B:Nat->Option Obj}{s:Z.γ}{w:World}{p:Proc S β}{id:Nat}{ops:Array Oper}{t₀:Array Value}{ds:List Deferred}{Q:Z.γ->Exit->Act->World->Prop}(k:Nat)(vals:List Value)(hA:(Z.sys I).AtB B s w p)(hv:vals.length=k)
 (hback:zq3a ops=true) (hbackB:backB .any ops k=true) (hwait:zq2f .any ops k=true) (hchain:zq4g ops k=true) (hk:k<=ops.size) (hchk:chkP P ops k t₀.size=true)
 (hread:∀wc,(Z.sys I).KnB B wc->∀(j:Nat)(o:Oper)(v:Value)(T:Array Value),ops[j]?=some o->vals[j]?=some v->(∀e∈o.after,Region.binds .any e=true->∀d x,dstOf ops e.on=some d->vals[e.on]?=some x->T[d]?=some x)->(∀t,(∀j,j<k->dstOf ops j≠some t)->T[t]?=t₀[t]?)->(execOp (Act.mk T []).eval o).run P wc=.ok (.value v) wc)
 (hgo:∀w',(Z.sys I).AtB B s w' p->opsJ Z.J ops (List.range' k (ops.size - k)) Q s ⟨putv ops vals 0 t₀,ds⟩ w'):wpJ Z.J (.region id ops true) Q s ⟨t₀,ds⟩ w:=by
 intro b kk cs hb hQ;unfold chkP at hchk;simp only[Bool.and_eq_true,List.all_eq_true,List.mem_range]at hchk;obtain⟨h1,h2⟩:=hchk;have plain:∀(j:Nat)(o:Oper),j<k->ops[j]?=some o->o.guard=none/\zq1l P o.op=true/\∃d,o.dst=some d/\d<t₀.size:=λj o hj ho=>by
  have:=h1 j hj;rw[ho]at this;simp only[Bool.and_eq_true]at this;obtain⟨⟨a1,a2⟩,a3⟩:=this;refine⟨Option.isNone_iff_eq_none.1 a1,a2,?_⟩;cases hd:o.dst with
  |none=>rw[hd]at a3;cases a3
  |some d=>rw[hd]at a3;exact⟨d,rfl,by simpa using a3⟩
 have apart:∀(a c:Nat)(d:Tmp),a<k->c<k->dstOf ops a=some d->dstOf ops c=some d->a=c:=λa c d ha hc hd hd'=>by
  rcases Nat.lt_trichotomy a c with h|h|h
  . have:=h2 c hc a h;rw[hd,hd']at this;simp at this
  . exact h
  . have:=h2 a ha c h;rw[hd,hd']at this;simp at this
 obtain⟨T,hT⟩:∃T,putv ops vals 0 t₀=T:=⟨_,rfl⟩;have Tat:∀j d x,j<k->dstOf ops j=some d->vals[j]?=some x->T[d]?=some x:=λj d x hj hd hx=>by
  have hd':=hd;unfold dstOf at hd';obtain⟨o,ho⟩:∃o,ops[j]?=some o:=⟨_,Array.getElem?_eq_getElem (by omega)⟩;obtain⟨_,_,d2,hd2,hlt⟩:=plain j o hj ho;rw[ho]at hd';simp only[al_ob]at hd';rw[hd2]at hd';cases hd';rw[<-hT];refine zq4w vals 0 _ j x d hx (by rw[Nat.zero_add];exact hd) hlt λq a b e=>?_;have:=apart q j d (by omega) hj (by simpa using e) hd;omega
 have Tout:∀t,(∀j,j<k->dstOf ops j≠some t)->T[t]?=t₀[t]?:=λt ht=>by
  rw[<-hT];exact zq2z vals 0 _ t λj a b=>ht j (by omega)
 refine zqb1 (γ:=Z.γ) (J:=Z.J) Z.js hm k (λL T' w=>(Z.sys I).AtB B s w p/\T'.size=t₀.size/\(∀t,(∀j,j<k->dstOf ops j≠some t)->T'[t]?=t₀[t]?)/\∀j d x,j<k->L j=true->dstOf ops j=some d->vals[j]?=some x->T'[d]?=some x) hback hbackB hwait hchain hk (λL T' w τ d h=>⟨Z.re h.1 τ d,h.2⟩) ⟨hA,rfl,λ_ _=>rfl,λj d x _ hl=>(by cases hl)⟩ ?_ ?_
 . rintro L T' w j o hj ⟨hA,hsz,hout,hin⟩ hL ho hdep rest hnext;obtain⟨hg,hrd,d,hd,hlt⟩:=plain j o hj ho;obtain⟨v,hvj⟩:∃v,vals[j]?=some v:=⟨_,List.getElem?_eq_getElem (by omega)⟩;obtain⟨Kc,hJ⟩:=Z.js s;have hdj:dstOf ops j=some d:=by unfold dstOf;rw[ho];exact hd
   have hback':∀e∈o.after,Region.binds .any e=true->e.on<j:=by
    unfold zq3a at hback;rw[List.all_eq_true]at hback;have:=hback j (List.mem_range.2 (by omega));rw[ho]at this;simp only[Array.all_eq_true_iff_forall_mem]at this;exact λe he hbe=>by have:=this e he;simpa[hbe]using this
   refine zq1d (J:=λ(_:Unit)=>Z.J s) (s:=()) hJ hb ho hrd (by simp[Region.wanted,hg]) hd λτ dd=>?_;have hA':=Z.re hA τ dd;have hkn:(Z.sys I).KnB B (Car.re w τ dd):=by
    obtain⟨m,rfl,q1,q2⟩:=hA';exact⟨m,rfl,Z.rep q1⟩
   refine⟨v,Car.re w τ dd,hread _ hkn j o v T' ho hvj (λe he hbe d' x hd' hx=>hin e.on d' x (by have:=hback' e he hbe;omega) (hdep e he hbe) hd' hx) hout,hnext _ _ ⟨hA',by simpa using hsz,λt ht=>?_,λj' d' x hj' hl hd' hx=>?_⟩⟩
   . have:d≠t:=λe=>ht j hj (e▸hdj);rw[al_gn this];exact hout t ht
   . have hltT:d<T'.size:=by rw[hsz];exact hlt
     by_cases e:j'=j
     . subst e;rw[hdj]at hd';cases hd';rw[hvj]at hx;cases hx;rw[al_gs,if_pos rfl,if_pos hltT]
     . have hne:d≠d':=λe2=>by subst e2;exact e (apart j' j d hj' hj hd' hdj)
       rw[upd_ne _ _ e]at hl;rw[al_gn hne];exact hin j' d' x hj' hl hd' hx
 . rintro L T' w hall ⟨hA,hsz,hout,hin⟩;have e:T'=T:=by
    apply Array.ext_getElem?;intro x
    by_cases hx:∃j,j<k/\dstOf ops j=some x
    . obtain⟨j,hj,hdj⟩:=hx;obtain⟨v,hvj⟩:∃v,vals[j]?=some v:=⟨_,List.getElem?_eq_getElem (by omega)⟩;rw[hin j x v hj (hall j hj) hdj hvj,Tat j x v hj hdj hvj]
    . have hno:∀j,j<k->dstOf ops j≠some x:=λj hj hd=>hx ⟨j,hj,hd⟩;rw[hout x hno,Tout x hno]
   rw[e];have:=hgo w hA;rw[hT]at this;exact this b kk cs hb hQ
end
end Go.Car
