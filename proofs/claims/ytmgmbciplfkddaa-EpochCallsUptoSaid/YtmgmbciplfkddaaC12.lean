/- YtmgmbciplfkddaaECal13: part 12 of the proof (the texts behind it, in order). -/
import Derived.Test.YtmgmbciplfkddaaC11
set_option maxHeartbeats 4000000
set_option maxRecDepth 100000
set_option linter.all false
namespace Go.Proofs
open Go Go.Conc Go.RowKit Go.Car
section
variable {main:Bool} {Kc:Addr->Option Value} {J:Goroutine->World->Prop}
def dRo(db:Nat)(o:Obj):Nat->Option Obj:=λb=>if b=db then some o else none
theorem dRo_is{db:Nat}{o:Obj}{w:World}(h:w.heap[db]?=some o):∀b x,dRo db o b=some x->w.heap[b]?=some x:=λb x hb=>by
 unfold dRo at hb;split at hb
 . rename_i e;subst e;cases hb;exact h
 . cases hb
theorem dY_mem{α:Type}(hJ:JS Try.prog main Kc (λ(_:Unit)=>J))(hC:CalmJ Try.prog main (λ(_:Unit)=>J)){w:World}{T:Unit×Option α×Nat}{db mb N:Nat}{e:Int}{ty:TypeId}(hN:N<=64){k:Int}(hk:k<0\/(N:Int)<=k):NoMem (zY α hJ hC (dRo db (.cells #[.int .i64 e,.slice (some ⟨mb,0,none⟩) N N] ty)) w T) (.pointer (some ⟨db,0,none⟩)) k:=
 ⟨N,hk,λB wc hB=>zq49 (zq0 (off:=1) (hB.own.rod db _ (if_pos rfl)) |>.trans rfl) (by omega)⟩
theorem dcall_J(hJ:JS Try.prog main Kc (λ(_:Unit)=>J))(hC:CalmJ Try.prog main (λ(_:Unit)=>J)){w:World}{db mb N:Nat}{e:Int}{ty:TypeId}(hd:w.heap[db]?=some (.cells #[.int .i64 e,.slice (some ⟨mb,0,none⟩) N N] ty))(hN:N<=64){stb:Nat}{who:Int}{op:OpX}(hk:who<0\/(N:Int)<=who){cl:Frame}{cs:List Frame}
 (hq:∀p c w',Beyond w w'->J (G (cl.finish (.agg #[.bool false,.int .i64 0,.slice p 0 c])) cs) w'):
 J (G (Frame.enter Try.prog 16 #[.pointer (some ⟨db,0,none⟩),.pointer (some ⟨stb,0,none⟩),actV who op] .normal) (cl::cs)) w:=by
 have hro:=dRo_is hd;have hrun:∃a,((callE (S:=Unit) zP op).run (zCore.st ())).2.1=some a:=⟨_,by have:=zqc2 op;exact congrArg (λx=>x.2.1) this⟩;refine zq9l (C:=zCore) (i:=0) zqz hJ hC (m₀:=⟨(),λ_ _=>none⟩) (zY_rep hro) hrun 0 (zq7d _ (zcall_f _ (dY_mem hJ hC hN hk))) ?_;rintro a v X m w' ⟨sl,rfl,hrow⟩ _ _ hA;obtain⟨k,h1,h2,h3⟩:=hA.run;have e0:((callE (S:=Unit) zP op).run (zCore.st ()))=((),some Ans.none,0):=zqc2 op;rw[e0]at h1;have e2:some a=some Ans.none:=congrArg (λx=>x.2.1) h1;cases e2;obtain⟨p,c,rfl⟩:∃p c,sl=.slice p 0 c:=by
  rcases hrow.2 with⟨a,b,_⟩|⟨g,cap,cur,a,_⟩
  . exact⟨none,0,a⟩
  . exact⟨_,cap,a⟩
 exact hq p c w' (zY_is hro hA)
theorem zq3u{α:Type}{f:FuncId}{args:Array Value}{r:α}{val:α->Value}(hJ:JS Try.prog main Kc (λ(_:Unit)=>J))(hC:CalmJ Try.prog main (λ(_:Unit)=>J)){w:World}{db mb N:Nat}{e:Int}{ty:TypeId}(hd:w.heap[db]?=some (.cells #[.int .i64 e,.slice (some ⟨mb,0,none⟩) N N] ty))(hN:N<=64){who:Int}(hk:who<0\/(N:Int)<=who)
 (hspec:∀(ro:Nat->Option Obj)(Y:YSys Try.prog aM zCore ro 0 α),NoMem Y (.pointer (some ⟨db,0,none⟩)) who->SpecB Y f args (Proc.ret r) val) {cl:Frame} {cs:List Frame}
 (hq:∀w',Beyond w w'->J (G (cl.finish (val r)) cs) w'):J (G (Frame.enter Try.prog f args .normal) (cl::cs)) w:=by
 have hro:=dRo_is hd;refine zqgg (C:=zCore) (i:=0) zqz hJ hC (m₀:=⟨(),λ_ _=>none⟩) (p:=Proc.ret r) (zY_rep hro) ⟨r,rfl⟩ 0 (hspec _ _ (dY_mem hJ hC hN hk)).spec ?_;intro a m w' _ hA;obtain⟨k,h1,h2,h3⟩:=hA.run;have e2:some a=some r:=congrArg (λx=>x.2.1) h1;cases e2;exact hq w' (zY_is hro hA)
end
def zq20(kb:Nat):Core Nat (Nat->List Ans) where
 foot _ b:=b=kb
 Rep n w:=w.heap[kb]?=some (.cells #[.int .i64 (wrap64 n)] 42)
 st _:=λ_=>[]
 frame n w w' h hs:=(hs kb rfl).trans h
 lt n w b h hb:=by subst hb;exact zqg h
 pin n:=n
theorem zq7r(n:Nat)(st:Nat)(w:World):(Go.method (n+1) 40 (.pointer (some ⟨st,0,none⟩)) "Step").run Try.prog w=.ok (80,.pointer (some ⟨st,0,none⟩)) w:=by kernel_rfl
theorem zq7s(n:Nat)(st:Nat)(w:World)(es:Array Event):(Go.method (n+1) 40 (.pointer (some ⟨st,0,none⟩)) "Step").events Try.prog w es=es:=by kernel_rfl
section
variable {Ml S β:Type} {C:Core Ml S} {ro:Nat->Option Obj} {i:Nat}
theorem zqde(Y:YSys Try.prog aM C ro i β){st:Nat}(h:StepY Y 80 #[.pointer (some ⟨st,0,none⟩)]):StepY Y 49 #[stprV st]:=by
 intro K s m w hA;refine BodyY.calls ⟨_,_,Try.func49,rfl,?_⟩;simp only[zqo,Try.ntmps49,List.size_toArray,List.length_cons,List.length_nil,Nat.reduceAdd,Nat.reduceSub,Array.replicate_succ,Array.replicate_zero,List.push_toArray,List.append_toArray,List.nil_append,List.cons_append];have hA:Y.AtB (m.box i) s w (Proc.tick.bind K):=⟨m,rfl,hA⟩;obtain⟨B,hB0⟩:∃B,m.box i=B:=⟨_,rfl⟩;rw[hB0]at hA |-;clear hB0;apply YSys.seq0 hA (by kernel_rfl)
 . intro wc hB;go_wp2;exact⟨rfl,Ext1.refl _,rfl⟩
 intro w hA;refine zq13 Y.jc rfl ?_;rw[if_pos rfl];refine zqy Y.jc ?_;apply YSys.callS 0 1 0 hA h rfl rfl rfl (by rfl) rfl rfl rfl
 . intro wc hB X hX;have HX:=Lib.hid hX;clear hX;go_wp2;exact HX.out _ (Ext1.refl _)
 . intro w;simp[go_sem,execOp,Act.eval,resolve,Deferred.ofValue,invoke,callFunc,zq7r,zq7s,Try.func80,Try.f80]
 . intro w;simp[go_sem,execOp,Act.eval,resolve,Deferred.ofValue,invoke,callFunc,zq7r,zq7s,Try.func80,Try.f80]
 . intro s' ch w' h;exact⟨rfl,h⟩
 intro s w hA;refine zq2l Y.jc ?_;exact⟨rfl,.inl ⟨_,resultsC_none rfl _,(),hA.choose,rfl,hA.choose_spec⟩⟩
end
theorem zqdj(n:Nat):IntKind.i64.wrap (wrap64 (n:Int)+1)=wrap64 ((n+1:Nat):Int):=by
 rw[IntKind.wrap_i64];simp only[wrap64]<;>omega
theorem zqd8{kb n:Nat}(w:World)(h:w.heap[kb]?=some (.cells #[.int .i64 (wrap64 n)] 42)):
 Calls Try.prog 80 #[.pointer (some ⟨kb,0,none⟩)] w λe w'=>e=.returned (.tuple #[])/\w'.heap[kb]?=some (.cells #[.int .i64 (wrap64 ((n+1:Nat):Int))] 42)/\w'.heap.size=w.heap.size/\∀b,b≠kb->w'.heap[b]?=w.heap[b]?:=by
 have c0:w.cell? ⟨kb,0,none⟩=some (.int .i64 (wrap64 n)):=(zq0 (off:=0) h).trans rfl;have z0:w.frozen? ⟨kb,0,none⟩=false:=zq5 h;obtain⟨q,hq⟩:∃q,wrap64 ((n+1:Nat):Int)=q:=⟨_,rfl⟩;have hw:=(zqdj n).trans hq;obtain⟨p,hp⟩:∃p,wrap64 (n:Int)=p:=⟨_,rfl⟩;rw[hp]at c0 hw h;rw[hq];have HB:=Lib.hid h;clear h hq hp
 go_enter Try.func80,Try.ntmps80
 go_wp2
 go_end0
 refine⟨rfl,?_,zq12 _ _ _,λb hb=>zqh _ _ _ _ hb⟩;rw[zqq _ _ _ _ HB.out];rfl
theorem zqd7{T0:EpT}{kb:Nat}{ro:Nat->Option Obj}{i:Nat}{α:Type}{main:Bool}{Kc:Addr->Option Value}{J:Goroutine->World->Prop}(hJ:JS Try.prog main Kc (λ(_:Unit)=>J))(hC:CalmJ Try.prog main (λ(_:Unit)=>J))(m₀:BM (EpM×Nat))(w₀:World)(T:SE×Option α×Nat):
 StepY (zq4i zqz hJ hC (zqf (zqb T0) (zq20 kb)) ro i 1 m₀ w₀ T) 80 #[.pointer (some ⟨kb,0,none⟩)]:=by
 intro K s m w hA;obtain⟨hL,_⟩:=hA;obtain⟨⟨lc,n⟩,bx⟩:=m;have hrep:=hL.rep;have hk:w.heap[kb]?=some (.cells #[.int .i64 (wrap64 n)] 42):=hrep.core.2.1;intro cl cs h1 _;refine zq5o (J:=λ(_:Unit)=>J) (s:=()) hJ hC zqz Try.func80 rfl (by kernel_rfl) (R:=λv w'=>v=.tuple #[]/\w'.heap[kb]?=some (.cells #[.int .i64 (wrap64 ((n+1:Nat):Int))] 42)/\w'.heap.size=w.heap.size/\∀b,b≠kb->w'.heap[b]?=w.heap[b]?) (λv w' τ d h=>h) (λτ d=>?_) ?_
 . refine Calls.mono (zqd8 (re w τ d) hk) ?_;rintro e w' ⟨rfl,h⟩;exact⟨_,rfl,rfl,h⟩
 . rintro v w' ⟨rfl,g1,g2,g3⟩;refine h1 s _ w' ⟨(),⟨(lc,n+1),bx⟩,rfl,rfl,?_,trivial⟩;refine LoneAt.count hL rfl rfl (λb=>Iff.rfl) ?_ (Nat.le_of_eq g2.symm) λb _ hf=>g3 b λe=>hf (.inr e);have hnk:∀b,(zqb T0).foot lc b->b≠kb:=λb hb e=>hrep.core.2.2 b hb e;refine⟨⟨(zqb T0).frame _ _ _ hrep.core.1 λb hb=>g3 b (hnk b hb),g1,hrep.core.2.2⟩,λj b o hb=>?_,λb o hb=>?_,hrep.apart,hrep.own,hrep.rol,hrep.rob⟩
   . exact(g3 b λe=>hrep.apart j b (by rw[hb];simp) (.inr e)).trans (hrep.box j b o hb)
   . exact(g3 b λe=>hrep.rol b (by rw[hb];simp) (.inr e)).trans (hrep.rod b o hb)
structure ECAft(T:EpT)(kb:Nat)(m m':EpM)(n:Nat)(X:Nat->Option Obj)(w w':World):Prop where
 rep:EpRep T m' w'
 cnt:w'.heap[kb]?=some (.cells #[.int .i64 (wrap64 (n:Int))] 42)
 nk:∀b,(zqb T).foot m' b->b≠kb
 x:∀b o,X b=some o->w'.heap[b]?=some o
 grow:∀b,(zqb T).foot m' b->(zqb T).foot m b\/w.heap.size<=b
 size:w.heap.size<=w'.heap.size
 old:∀b,b<w.heap.size->¬(zqb T).foot m b->b≠kb->w'.heap[b]?=w.heap[b]?
theorem ecall_J{Fin:Machine->Trace->Prop}(hFin:Back Try.prog Fin){n kb c k:Nat}{T:EpT}(hty:EpTy T)(hN:T.N<=64){m:EpM}{w:World}(hrep:EpRep T m w)(hk:w.heap[kb]?=some (.cells #[.int .i64 (wrap64 (c:Int))] 42))(hnk:∀b,(zqb T).foot m b->b≠kb)(hkN:k<T.N){op:OpX}{a:Ans}{C':EpS}{q:Nat}
 (hrun:(opE T.N k op:Proc SE Ans).run (m.s,λ_=>[])=((C',λ_=>[]),some a,q)) {cl:Frame} {cs:List Frame}
 (hq:∀v X m' w',AnsV 2 a v X->m'.s=C'->ECAft T kb m m' (c+q) X w w'->J0 Try.prog Fin n (G (cl.finish v) cs) w'):
 J0 Try.prog Fin n (G (Frame.enter Try.prog 16 #[.pointer (some ⟨T.db,0,none⟩),.pointer (some ⟨kb,0,none⟩),actV k op] .normal) (cl::cs)) w:=by
 have hJ:=jU0 hFin n;have hC:=jC0 hFin n;have e0:(callE (memP T.N k op) op:Proc SE Ans).run ((zqf (zqb T) (zq20 kb)).st (m,c))=((C',λ_=>[]),some a,q):=by rw[callE_op];exact hrun
 have hb:BRep (zqf (zqb T) (zq20 kb)) (λ_=>none) ⟨(m,c),λ_ _=>none⟩ w:=
  ⟨⟨hrep,hk,λb hb he=>hnk b hb he⟩,λi b o h=>(by cases h),λb o h=>(by cases h),λi b h=>absurd rfl h,λi j b _ h=>absurd rfl h,λb h=>absurd rfl h,λi b h=>absurd rfl h⟩
 refine zq9l (J:=J0 Try.prog Fin n) (C:=zqf (zqb T) (zq20 kb)) (ro:=λ_=>none) (i:=0) (p:=callE (memP T.N k op) op) (rel:=AnsV 2) zqz hJ hC (m₀:=⟨(m,c),λ_ _=>none⟩) hb ⟨a,by rw[e0]⟩ 1 ?_ ?_
 . have hs:=zqde _ (zqd7 (T0:=T) (kb:=kb) (ro:=λ_=>none) (i:=0) hJ hC (⟨(m,c),λ_ _=>none⟩:BM (EpM×Nat)) w ((callE (memP T.N k op) op:Proc SE Ans).run ((zqf (zqb T) (zq20 kb)).st (m,c))));have hY:=zq7z (zq6c zqz hJ hC (zqf (zqb T) (zq20 kb)) (λ_=>none) 0 1 ⟨(m,c),λ_ _=>none⟩ w ((callE (memP T.N k op) op:Proc SE Ans).run ((zqf (zqb T) (zq20 kb)).st (m,c)))) (I:=λ_=>True) hty hkN (λ_ _ _ _=>trivial) (λ_ _ _ _=>trivial) (λ{s m w r}h he=>by
    obtain⟨n,h1,⟨a',h2⟩,h3⟩:=h.run;rw[he]at h1;have:=congrArg (λx=>x.2.1) h1;rw[h2]at this;cases this) hs
   have hYc:=zq7y (zq6c zqz hJ hC (zqf (zqb T) (zq20 kb)) (λ_=>none) 0 1 ⟨(m,c),λ_ _=>none⟩ w ((callE (memP T.N k op) op:Proc SE Ans).run ((zqf (zqb T) (zq20 kb)).st (m,c)))) (I:=λ_=>True) hty hkN (λ_ _ _ _=>trivial) (λ_ _ _ _=>trivial) (stprV kb);refine zq7d _ ⟨(zq7v _ hY hkN hN).spec,(zq8k _ hY hkN hN).spec,(zq99 _ hY hkN hN op.a).spec,(zq73 _ hY hkN hN).spec,?_⟩;intro K s B w hK hA cl cs h1 h2;have hA':(zq4i zqz hJ hC (zqf (zqb T) (zq20 kb)) (λ_=>none) 0 1 ⟨(m,c),λ_ _=>none⟩ _ _).AtB B s w ((collP k).bind λl=>K (l,0)):=by
    have e:((memP T.N k op:CallP SE).c).bind K=(collP k).bind λl=>K (l,0):=by
     show((collP k).bind λl=>Proc.ret (l,0)).bind K=_;rw[Proc.bind_bind];rfl
    rw[<-e];exact hA
   refine(zq7j _ hY hkN hN hYc) (λl=>K (l,0)) s B w (λ_=>hK _) hA' cl cs ?_ h2;rintro s' v w' ⟨l,X,⟨dv,rfl,h3,h4⟩,k2,k3⟩;exact h1 s' _ w' ⟨(l,0),X,⟨dv,rfl,h3,h4⟩,k2,k3⟩
 . intro a' v X m' w' hv _ hbx hL;obtain⟨n',g1,_,g3⟩:=hL.run;rw[show(callE (memP T.N k op) op:Proc SE Ans).run ((zqf (zqb T) (zq20 kb)).st ((⟨(m,c),λ_ _=>none⟩:BM (EpM×Nat)).l))=((C',λ_=>[]),some a,q)from e0]at g1 g3;simp only[Tree.run,Prod.mk.injEq]at g1;obtain⟨g1,g2,rfl⟩:=g1;obtain rfl:a'=a:=Option.some.inj g2;have e2:m'.l.1.s=C':=congrArg Prod.fst g1;have e3:m'.l.2=c+q:=by
    have:m'.l.2+1*0=c+1*q:=g3;omega
   refine hq v X m'.l.1 w' hv e2 ⟨hL.rep.core.1,e3▸hL.rep.core.2.1,λb hb he=>hL.rep.core.2.2 b hb he,λb o hX=>?_,λb hb=>?_,hL.size,λb hb h1 h2=>hL.old b hb ?_⟩
   . have hbo:m'.box 0 b=some o:=by rw[hbx];unfold orB;simp[hX]
     exact hL.rep.box 0 b o hbo
   . rcases hL.grow b (.inl (.inl hb))with(hf|hf)|hf
     . rcases hf with hf|hf
       . exact .inl hf
       . exact absurd hf (hL.rep.core.2.2 b hb)
     . rcases hf with⟨_,hf⟩|hf
       . exact absurd rfl hf
       . exact absurd rfl hf
     . exact .inr hf
   . rintro(hf|⟨_,hf⟩|hf)
     . exact hf.elim h1 h2
     . exact absurd rfl hf
     . exact absurd rfl hf
def epT(db mb N:Nat):EpT:=⟨db,mb,N,81,121,125⟩
def ep0(e:Int):EpS:=⟨e,λ_=>0,λ_=>false,λ_=>[]⟩
def epM0(e:Int):EpM:=⟨ep0 e,λ_=>.slice none 0 0,λ_ _=>none⟩
theorem zqem(w:World)(N:Nat)(hN:N<=64):(Instr.makeSlice 79 (.int .i64 N) (.int .i64 N)).run Try.prog w=.ok (.slice (some ⟨w.heap.size,0,none⟩) N N) (w.alloc (.cells (memA N (epM0 0)) 121)):=by
 obtain⟨ti,hti,hz0,hz1,hz2⟩:∃ti,Try.prog.info? 121=some ti/\ti.zero=some (.agg #[.int .i64 0,.bool false,.slice none 0 0])/\ti.size=3/\ti.bytes=40:=⟨_,rfl,rfl,rfl,rfl⟩;have:=run_make (P:=Try.prog) w 79 121 ti (.agg #[.int .i64 0,.bool false,.slice none 0 0]) (by kernel_rfl) hti hz0 .i64 .i64 N N (by omega) (Int.le_refl _) (by rw[hz2];omega) (by omega);simp only[Int.toNat_natCast,hz1]at this;rw[this];congr 3;apply Array.ext_getElem?;intro i
 by_cases hi:i<N*3
 . rw[zq36 hi];have h3:i % 3=0\/i % 3=1\/i % 3=2:=by omega
   rcases h3 with h|h|h<;>simp[madeCells,hi,Value.cells,memC,h,epM0,ep0]
 . rw[zq61 hi];simp[madeCells,hi]
structure NewDom(w:World)(db mb N:Nat)(e:Int)(w':World):Prop where
 be:Beyond w w'
 lo:w.heap.size<=db/\w.heap.size<=mb
 rep:EpRep (epT db mb N) (epM0 e) w'
theorem zq7w{w:World}{db mb N:Nat}{e:Int}(h1:w.heap[db]?=some (.cells #[.int .i64 e,.slice (some ⟨mb,0,none⟩) N N] 81))(h2:w.heap[mb]?=some (.cells (memA N (epM0 e)) 121)):EpRep (epT db mb N) (epM0 e) w:=
 ⟨h1,h2,zql h1 h2 (by decide),(λi _=>RowB.nil _ _),λi b o _ h=>(by cases h),λi _=>rfl,λi _=>rfl,λi j b _ _ _ h=>absurd rfl h,λi _=>Nat.zero_le _⟩
theorem zq7t(N:Nat)(hN:N<=64)(w:World):Calls Try.prog 11 #[.int .i64 N] w λe w'=>∃db mb,e=.returned (.tuple #[.pointer (some ⟨db,0,none⟩),.int .i64 0])/\NewDom w db mb N 0 w':=by
 have h1:¬(N:Int)<0:=by omega
 have h2:¬(64:Int)<(N:Int):=by omega
 have h3:(N:Int)<=64:=by omega
 have hm:=zqem w N hN;have hR:NewDom w (w.heap.size+1) w.heap.size N 0 ((w.alloc (.cells (memA N (epM0 0)) 121)).alloc (.cells #[.int .i64 0,.slice (some ⟨w.heap.size,0,none⟩) N N] 81)):=by
  have hs:=zq3 w (.cells (memA N (epM0 0)) 121);exact⟨(Beyond.alloc _ _).trans (Beyond.alloc _ _),⟨by omega,by omega⟩,zq7w (by rw[<-hs];exact zqn _ _) (zqm (zqn _ _))⟩
 have HR:=Lib.hid hR;clear hR
 go_enter Try.func11,Try.ntmps11
 go_wp2
 go_ret2
 exact⟨_,rfl,_,HR.out⟩
theorem enew_bad(n:Int)(hn:n<0\/64<n)(w:World):Calls Try.prog 11 #[.int .i64 n] w λe w'=>e=.returned (.tuple #[.pointer none,.int .i64 1])/\w'=w:=by
 by_cases h1:n<0
 . clear hn
   go_enter Try.func11,Try.ntmps11
   go_wp2
   go_ret2
   exact⟨rfl,rfl⟩
 . have h2:64<n:=by omega
   have h3:0<=n:=by omega
   clear hn
   go_enter Try.func11,Try.ntmps11
   go_wp2
   go_ret2
   exact⟨rfl,rfl⟩
theorem zq80{T:EpT}{m:EpM}{w:World}(h:EpRep T m w):Calls Try.prog 18 #[.pointer (some ⟨T.db,0,none⟩)] w λe w'=>e=.returned (.int .i64 m.s.e)/\w'=w:=by
 have hl:=zq54 ⟨T.db,0,none⟩ m.s.e w h.cellE;clear h
 go_enter Try.func18,Try.ntmps18
 go_wp2_with (fail)
 refine Calls.mono hl ?_;rintro e w' ⟨rfl,rfl⟩;go_wp2;go_ret;exact⟨rfl,rfl⟩
structure NumsI(w0:World)(l:List Int)(v:Value)(w:World):Prop where
 be:Beyond w0 w
 row:w.ownsRow w0.heap.size 2 1 v l.length (l.map (Value.int .i64))
def markL(s:EpS)(n:Nat):List Int:=(List.range n).map s.mark
theorem zqep(s:EpS)(n:Nat):markL s (n+1)=markL s n++[s.mark n]:=by
 unfold markL;rw[List.range_succ,List.map_append];rfl
theorem zq2t(s:EpS)(n:Nat):(markL s n).length=n:=by simp[markL]
theorem zq8t{T:EpT}{m:EpM}{w:World}(h:EpRep T m w)(hN:T.N<=64):Calls Try.prog 20 #[.pointer (some ⟨T.db,0,none⟩)] w λe w'=>∃v,e=.returned v/\NumsI w (markL m.s T.N) v w':=by
 obtain⟨N,hNN⟩:∃N,T.N=N:=⟨_,rfl⟩;have hm:=zq49 h.hdr (by omega);have hd:=h.hdr;rw[hNN]at hm hd;have HR:=Lib.hid (And.intro h (And.intro hNN hN));rw[hNN];clear h hNN hN;have HM:=Lib.hid hm;have HD:=Lib.hid hd;clear hm hd
 go_enter Try.func20,Try.ntmps20
 go_wp2_with (fail)
 refine Calls.mono HM.out ?_;rintro e w' ⟨rfl,rfl⟩;clear HM
 go_wp2_with (fail)
 go_loopg [3,7] N (λk s3 s7 wr=>∃(j:Nat)(p:Option Addr)(C:Nat),k=N - j/\j<=N/\s7=.int .i64 j/\s3=.slice p j C/\NumsI w' (markL m.s j) (.slice p j C) wr)
 case atStart=>exact⟨0,none,0,rfl,Nat.zero_le _,rfl,rfl,Beyond.refl _,World.ownsRow_nil _ _ _ _⟩
 case round=>
  obtain⟨j,p,C,hk,hj,rfl,rfl,hI⟩:=hrel;have HI:=Lib.hid hI
  by_cases hlt:j<N
  . have hlt':(j:Int)<(N:Int):=by omega
    have hj0:(0:Int)<=j:=by omega
    have hjT:j<T.N:=by have:=HR.out.2.1;omega
    have hd:wr.cell? ⟨T.db,1,none⟩=some (.slice (some ⟨T.mb,0,none⟩) N N):=hI.be.cell HD.out;have HC:=Lib.hid (zq54 ⟨T.mb,j*3,none⟩ (m.s.mark j) wr (hI.be.cell (HR.out.1.cellM hjT)));obtain⟨tj,htj,hy0,hy1,hy2⟩:∃ti,Try.prog.info? 2=some ti/\ti.zero=some (.int .i64 0)/\ti.size=1/\ti.bytes=8:=⟨_,rfl,rfl,rfl,rfl⟩;have TJ:=Lib.hid (And.intro htj (And.intro hy0 (And.intro hy1 hy2)));have HB:=Lib.hid (And.intro hlt (And.intro HR.out.2.2 HR.out.2.1));have HK:=Lib.hid hk;clear htj hy0 hy1 hy2 hI hjT hlt hk
    go_wp2_with (fail)
    refine Calls.mono HC.out ?_;rintro e w2 ⟨rfl,rfl⟩
    go_wp2_with (at_builtin;go_loud (refine wpList_append_lies _ rfl (.tmp 10) (.tmp 19) 22 rfl w'.heap.size 2 tj (.int .i64 0) 1 8 (by kernel_rfl) TJ.out.1 TJ.out.2.1 TJ.out.2.2.1 TJ.out.2.2.2 rfl (by decide) _ j ((markL m.s j).map (Value.int .i64)) rfl (zq1s (by have:=HI.out.row;rw[zq2t]at this;exact this) _) _ 1 1 [.int .i64 (m.s.mark j)] rfl rfl (zq3l rfl) (λu hu=>by simp only[List.mem_cons,List.not_mem_nil,or_false]at hu;subst hu;rfl) (by decide) (by simp only[maxLen];have:=HB.out;omega) (by have:=HB.out;omega) (by rw[zq3];have:=HI.out.be.1;omega) _ rfl ?next))
    case next=>
     intro g7 cap7 w7 hown7 hgrow7 hat7 hlt7;have L7:=Lib.hid (And.intro hown7 hgrow7);clear hown7 hgrow7 hat7 hlt7;go_wp2;go_roundg (N - (j+1))
     case measure=>have:=HK.out;have:=HB.out;omega
     case rel=>
      obtain⟨o7,q7⟩:=L7.out;refine⟨j+1,_,_,rfl,HB.out.1,congrArg (Value.int .i64) (by have:=HB.out;simp only[wrap64];omega),rfl,?_,?_⟩
      . have hb:=HI.out.be;have hz:=q7.size;rw[zq3]at hz;refine⟨by have:=hb.1;omega,λb hb2=>?_⟩;rw[q7.block b (by rw[zq3];have:=hb.1;omega) (λe=>by have:=(own_lt HI.out.row e.symm).2.1;omega),zq6,if_neg (by have:=hb.1;omega)];exact hb.2 b hb2
      . rw[zqep,List.length_append,List.map_append,zq2t];exact o7
  . obtain rfl:j=N:=by omega
    clear hk hj hlt;go_wp2;go_ret;exact⟨_,rfl,HI.out⟩
def epL(s:EpS)(n:Nat):List Int:=s.e::markL s n
theorem zqdd{T:EpT}{m:EpM}{w:World}(h:EpRep T m w)(hN:T.N<=64):Calls Try.prog 34 #[.pointer (some ⟨T.db,0,none⟩)] w λe w'=>∃v,e=.returned v/\NumsI w (epL m.s T.N) v w':=by
 have HE:=Lib.hid (zq80 h);have HR:=Lib.hid (And.intro h hN);obtain⟨ev,hev⟩:∃ev,m.s.e=ev:=⟨_,rfl⟩;rw[hev]at HE;clear h hN
 go_enter Try.func34,Try.ntmps34
 go_wp2_with (fail)
 refine Calls.mono HE.out ?_;rintro e w' ⟨rfl,rfl⟩;clear HE
 go_wp2_with (fail)
 have hB1:Beyond w' (w'.alloc (.cells #[.int .i64 ev] 2)):=Beyond.alloc _ _;have hm2:=zq8t (w:=w'.alloc (.cells #[.int .i64 ev] 2)) ((zqb T).frame _ _ _ HR.out.1 λb hb=>hB1.2 b ((zqb T).lt _ _ _ HR.out.1 hb)) HR.out.2;refine Calls.mono hm2 ?_;rintro e w3 ⟨v,rfl,hI⟩;have hrow1:w3.ownsRow w'.heap.size 2 1 (.slice (some ⟨w'.heap.size,0,none⟩) 1 1) 1 [.int .i64 ev]:=by
  refine⟨rfl,.inr ⟨w'.heap.size,1,#[.int .i64 ev],rfl,Nat.le_refl _,?_,by decide,by decide,rfl,rfl⟩⟩;rw[hI.be.2 _ (by rw[zq3];omega)];exact zqn _ _
 obtain⟨p2,c2,rfl,_,hp0⟩:=zq1q hI.row;have hs:=hI.be.1;rw[zq3]at hs;have hlen:(markL m.s T.N).length=T.N:=zq2t _ _;obtain⟨ti,hti,hz,hz1,hz2⟩:∃ti,Try.prog.info? 2=some ti/\ti.zero=some (.int .i64 0)/\ti.size=1/\ti.bytes=8:=⟨_,rfl,rfl,rfl,rfl⟩;obtain⟨v',w4,hrun,ho,hw,hat,hkeep,_⟩:=app_wr (P:=Try.prog) w3 22 22 2 ti (.int .i64 0) 1 8 (by kernel_rfl) hti hz hz1 hz2 rfl (by decide) hrow1 (by omega) p2 (markL m.s T.N).length c2 ((markL m.s T.N).map (Value.int .i64)) (by simp) (λh0=>by
  rcases hI.row.2 with⟨hv,h1⟩|⟨g,cap,cur,hv,_,hg,h2,_,h4,h5⟩
  . omega
  . cases hv;refine⟨_,rfl,λj u hj=>?_⟩;have hjl:=(List.getElem?_eq_some_iff.1 hj).1;rw[Go.Proofs.add_at rfl,show 0+j=j from by omega];refine(zq0 hg).trans ?_;rw[<-h5,Nat.mul_one,List.getElem?_take]at hj;simp only[List.length_map]at hjl;rw[if_pos hjl,Array.getElem?_toList]at hj;exact hj) (by simp[Value.oneCell']) (by rw[hlen];simp only[maxLen];have:=HR.out.2;omega) (by rw[hlen];have:=HR.out.2;omega)
 obtain⟨p3,c3,rfl,-,-⟩:=zq1q ho;have HRUN:=Lib.hid hrun;have HO:RowKit.Hid (NumsI w' (epL m.s T.N) (.slice p3 (1+(markL m.s T.N).length) c3) w4):=Lib.hid (by
  refine⟨⟨by have:=hw.size;omega,λb hb=>?_⟩,?_⟩
  . rw[hw.old b (by omega) (λe=>by simp[Value.ownBlock]at e;omega),hI.be.2 b (by rw[zq3];omega)];exact hB1.2 b hb
  . unfold epL;rw[hev,List.length_cons,List.map_cons,Nat.add_comm];exact(Nat.add_comm 1 _▸ho))
 clear hrow1 hI hB1 hm2 hrun ho hw hat hkeep hs hlen hp0 hti hz hz1 hz2
 go_wp2_with (at_builtin;go_loud (refine zqbx rfl (.tmp 5) (.tmp 7) 22 rfl HRUN.out ?_))
 go_ret;exact⟨_,rfl,HO.out⟩
theorem zq3i{w:World}{B:Nat}{T:TypeId}{v:Value}{l:List Int}(h:w.ownsRow B T 1 v l.length (l.map (Value.int .i64))):IntsAt w v l:=by
 rcases h.2 with⟨hv,h0⟩|⟨g,cap,cur,hv,hb,hh,h1,h2,h3,h4⟩
 . exact⟨none,0,by rw[hv,h0],λhne=>absurd (List.length_eq_zero_iff.1 h0) hne⟩
 . refine⟨_,cap,hv,λ_=>⟨g,0,rfl,λi hi=>?_⟩⟩;rw[zq0 hh,Nat.zero_add];have e:(l.map (Value.int .i64))[i]?=some (.int .i64 (l.getD i 0)):=by simp[hi]
   rw[<-h4,List.getElem?_take,if_pos (by omega)]at e;simpa using e
theorem zqe8{w:World}{B:Nat}{T:TypeId}{v:Value}{l:List Nat}(h:w.ownsRow B T 1 v l.length (l.map λ(i:Nat)=>.int .i64 i)):IntsAt w v (l.map λ(i:Nat)=>(i:Int)):=by
 refine zq3i (B:=B) (T:=T) ?_;rw[List.length_map,List.map_map];exact h
theorem zq6a{X:Nat->Option Obj}{T:TypeId}{v:Value}{l:List Int}{w:World}(h:RowB X T 1 v l.length (l.map (Value.int .i64)))(hX:∀b o,X b=some o->w.heap[b]?=some o):IntsAt w v l:=zq3i (h.own hX)
theorem ansL_get{tI:TypeId}{X:Nat->Option Obj}{l:List Ans}{cs:List Value}(h:AnsL tI X l cs):∀{i:Nat}{a:Ans},l[i]?=some a->∃Y sl,cs[i*3]?=some (.bool a.ok)/\cs[i*3+1]?=some (.int .i64 a.n)/\cs[i*3+2]?=some sl/\RowB Y tI 1 sl a.l.length (a.l.map (Value.int .i64))/\∀b o,Y b=some o->X b=some o:=by
 induction h with
 |nil=>intro i a hi;simp at hi
 |snoc h ha hd ih=>
  rename_i X Y l cs cs' a';intro i a hi;have hlen:=h.len;rcases Nat.lt_or_ge i l.length with hlt|hge
  . rw[List.getElem?_append_left hlt]at hi;obtain⟨Z,sl,h1,h2,h3,h4,h5⟩:=ih hi;refine⟨Z,sl,?_,?_,?_,h4,λb o hb=>?_⟩
    . rw[List.getElem?_append_left (by omega)];exact h1
    . rw[List.getElem?_append_left (by omega)];exact h2
    . rw[List.getElem?_append_left (by omega)];exact h3
    . have h6:=h5 b o hb;unfold orB;cases hY:Y b with
      |none=>simp[h6]
      |some y=>have:=hd b (by rw[hY];simp);rw[this]at h6;cases h6
  . have e:i=l.length:=by
     have:=(List.getElem?_eq_some_iff.1 hi).1;simp at this;omega
    subst e;simp at hi;subst hi;obtain⟨sl,rfl,hr⟩:=ha;refine⟨Y,sl,?_,?_,?_,hr,λb o hb=>by simp[orB,hb]⟩
    . rw[List.getElem?_append_right (by omega),hlen];simp
    . rw[List.getElem?_append_right (by omega),hlen];simp
    . rw[List.getElem?_append_right (by omega),hlen];simp
theorem ansR_at{tA tI:TypeId}{X:Nat->Option Obj}{hv:Value}{l:List Ans}{w:World}(h:AnsR tA tI X hv l)(hX:∀b o,X b=some o->w.heap[b]?=some o):AnsAt w hv l:=by
 obtain⟨Xr,XL,cs,hr,hL,rfl,hd⟩:=h;rcases hr.2 with⟨hv,h0,_⟩|⟨g,cap,cur,rfl,rfl,h1,h2,h3,h4⟩
 . exact⟨none,0,by rw[hv,h0],λhne=>absurd (List.length_eq_zero_iff.1 h0) hne⟩
 . refine⟨_,cap,rfl,λ_=>⟨g,0,rfl,λi a hi=>?_⟩⟩;have hg:w.heap[g]?=some (.cells cur tA (0,0)):=hX g _ (by simp[orB]);obtain⟨Y,sl,e1,e2,e3,e4,e5⟩:=ansL_get hL hi;have hil:=(List.getElem?_eq_some_iff.1 hi).1;have get:∀{j:Nat}{v:Value},j<l.length*3->cs[j]?=some v->w.cell? ⟨g,0+j,none⟩=some v:=λ{j v}hj e=>by
    rw[zq0 hg,Nat.zero_add];rw[<-h4,List.getElem?_take,if_pos hj]at e;simpa using e
   refine⟨get (by omega) e1,?_,sl,?_,zq6a e4 λb o hb=>hX b o ?_⟩
   . exact get (by omega) e2
   . exact get (by omega) e3
   . have h6:=e5 b o hb
     by_cases hbg:b=g
     . subst hbg;have:=hd b (by simp);rw[this]at h6;cases h6
     . simp[orB,hbg,h6]
theorem zq77{ab N:Nat}{m:AnsM}{w:World}(h:zq3d tT ab N m w){i:Nat}(hi:i<N):w.cell? ⟨ab,i,none⟩=some (m.hv i)/\AnsAt w (m.hv i) (m.st i):=by
 refine⟨(zq0 h.hd).trans ?_,ansR_at (h.row i hi) λb o hb=>h.blk i b o hi hb⟩;simp[hi]
section
variable {ub:Nat} {lv:Value} {most:Nat} {l:List Int} {a r:Nat} {ov:Value} {ord:List Nat} {ev:Value} {en:Nat->Bool} {N base:Nat} {w:World}
end
structure Tch(S:Nat->Prop)(w w':World):Prop where
 size:w.heap.size<=w'.heap.size
 old:∀b,b<w.heap.size->¬S b->w'.heap[b]?=w.heap[b]?
theorem Tch.refl (S:Nat->Prop)(w:World):Tch S w w:=⟨Nat.le_refl _,λ_ _ _=>rfl⟩
theorem Tch.trans {S:Nat->Prop}{a b c:World}(h:Tch S a b)(k:Tch S b c):Tch S a c:=⟨Nat.le_trans h.size k.size,λx hx hs=>(k.old x (Nat.lt_of_lt_of_le hx h.size) hs).trans (h.old x hx hs)⟩
theorem Tch.mono {S S':Nat->Prop}{a b:World}(h:Tch S a b)(hs:∀x,S x->S' x):Tch S' a b:=⟨h.size,λx hx hn=>h.old x hx λy=>hn (hs x y)⟩
theorem Tch.set {S:Nat->Prop}{a w:World}(h:Tch S a w){b:Nat}(hb:S b)(i:Nat)(v:Value):Tch S a (w.setCell ⟨b,i,none⟩ v):=
 ⟨by rw[zq12];exact h.size,λx hx hs=>(zqh _ _ _ _ λ(e:x=b)=>hs (e▸hb)).trans (h.old x hx hs)⟩
theorem Tch.al {S:Nat->Prop}{a w:World}(h:Tch S a w)(o:Obj):Tch S a (w.alloc o):=⟨by rw[zq3];exact Nat.le_succ_of_le h.size,λx hx hs=>by rw[zq6,if_neg (by have:=h.size;omega)];exact h.old x hx hs⟩
theorem Tch.drew {S:Nat->Prop}{a w:World}(h:Tch S a w)(n:Nat):Tch S a (w.drewN n):=⟨h.size,h.old⟩
structure CR where
 k:Int
 a:Int
 ph:Nat
 e:Int
 i:Nat
 done:Bool
 ok:Bool
 n:Int
def CR.fin (K:CR)(ok:Bool)(n:Int):CR:={K with done:=true,ok:=ok,n:=n}
def crC(who:Nat)(K:CR)(lv:Value):Array Value:=#[.int .i64 who,.int .i64 K.k,.int .i64 K.a,.int .i64 K.ph,.int .i64 K.e,.int .i64 K.i,.bool K.done,.bool K.ok,.int .i64 K.n,lv]
abbrev CrAt(cb who:Nat)(K:CR)(lv:Value)(w:World):Prop:=w.heap[cb]?=some (.cells (crC who K lv) 52)
section
variable {cb who:Nat} {K:CR} {lv:Value} {w:World}
theorem CrAt.set (h:CrAt cb who K lv w)(j:Nat)(x:Value){K':CR}{lv':Value}(he:(crC who K lv).setIfInBounds j x=crC who K' lv'):CrAt cb who K' lv' (w.setCell ⟨cb,j,none⟩ x):=by
 show(w.setCell _ _).heap[cb]?=_;rw[zqq _ _ _ _ h,he]
theorem CrAt.c (h:CrAt cb who K lv w):w.cell? ⟨cb,0,none⟩=some (.int .i64 who)/\w.cell? ⟨cb,1,none⟩=some (.int .i64 K.k)/\w.cell? ⟨cb,2,none⟩=some (.int .i64 K.a)/\w.cell? ⟨cb,3,none⟩=some (.int .i64 K.ph)/\w.cell? ⟨cb,4,none⟩=some (.int .i64 K.e)/\w.cell? ⟨cb,5,none⟩=some (.int .i64 K.i)/\w.cell? ⟨cb,6,none⟩=some (.bool K.done)/\w.cell? ⟨cb,7,none⟩=some (.bool K.ok)/\w.cell? ⟨cb,8,none⟩=some (.int .i64 K.n)/\w.cell? ⟨cb,9,none⟩=some lv:=
 ⟨(zq0 h).trans rfl,(zq0 h).trans rfl,(zq0 h).trans rfl,(zq0 h).trans rfl,(zq0 h).trans rfl,(zq0 h).trans rfl,(zq0 h).trans rfl,(zq0 h).trans rfl,(zq0 h).trans rfl,(zq0 h).trans rfl⟩
theorem zq1j(h:CrAt cb who K lv w)(ok:Bool)(n:Int):
 Calls Try.prog 41 #[.pointer (some ⟨cb,0,none⟩),.bool ok,.int .i64 n] w λe w'=>e=.returned (.tuple #[])/\CrAt cb who (K.fin ok n) lv w'/\Tch (λb=>b=cb) w w':=by
 obtain⟨-,-,-,-,-,-,c6,c7,c8,-⟩:=h.c;have f6:=zq5 (off:=6) h;have f7:=zq5 (off:=7) h;have f8:=zq5 (off:=8) h;have H:=Lib.hid h;clear h
 go_enter Try.func41,Try.ntmps41
 go_wp2
 go_end0
 refine⟨rfl,?_,(((Tch.refl (λb=>b=cb) _).set rfl _ _).set rfl _ _).set rfl _ _⟩;exact((H.out.set 6 (.bool true) (K':={K with done:=true}) rfl).set 7 (.bool ok) (K':={K with done:=true,ok:=ok}) rfl).set 8 (.int .i64 n) rfl
structure DmAt(rb gm gM N:Nat)(e:Int)(ms Ms:Array Value)(w:World):Prop where
 dom:w.heap[rb]?=some (.cells #[.int .i64 e,.slice (some ⟨gm,0,none⟩) N N,.slice (some ⟨gM,0,none⟩) N N] 60)
 mar:w.heap[gm]?=some (.cells ms 2)
 mem:w.heap[gM]?=some (.cells Ms 115)
variable {rb gm gM N:Nat} {e:Int} {ms Ms:Array Value}
theorem DmAt.c (h:DmAt rb gm gM N e ms Ms w):w.cell? ⟨rb,0,none⟩=some (.int .i64 e)/\w.cell? ⟨rb,1,none⟩=some (.slice (some ⟨gm,0,none⟩) N N)/\w.cell? ⟨rb,2,none⟩=some (.slice (some ⟨gM,0,none⟩) N N):=⟨(zq0 h.dom).trans rfl,(zq0 h.dom).trans rfl,(zq0 h.dom).trans rfl⟩
theorem DmAt.ne (h:DmAt rb gm gM N e ms Ms w)(hc:CrAt cb who K lv w):rb≠gm/\rb≠gM/\rb≠cb/\gm≠gM/\gm≠cb/\gM≠cb:=
 ⟨zql h.dom h.mar (by decide),zql h.dom h.mem (by decide),zql h.dom hc (by decide),zql h.mar h.mem (by decide),zql h.mar hc (by decide),zql h.mem hc (by decide)⟩
theorem DmAt.of (h:DmAt rb gm gM N e ms Ms w){w':World}(h1:w'.heap[rb]?=w.heap[rb]?)(h2:w'.heap[gm]?=w.heap[gm]?)(h3:w'.heap[gM]?=w.heap[gM]?):DmAt rb gm gM N e ms Ms w':=⟨h1.trans h.dom,h2.trans h.mar,h3.trans h.mem⟩
theorem DmAt.tch (h:DmAt rb gm gM N e ms Ms w){S:Nat->Prop}{w':World}(k:Tch S w w')(h1:¬S rb)(h2:¬S gm)(h3:¬S gM):DmAt rb gm gM N e ms Ms w':=h.of (k.old _ (zqg h.dom) h1) (k.old _ (zqg h.mar) h2) (k.old _ (zqg h.mem) h3)
structure EcAt(rb gm gM N cb who:Nat)(e:Int)(ms Ms:Array Value)(K:CR)(lv:Value)(w:World):Prop where
 d:DmAt rb gm gM N e ms Ms w
 c:CrAt cb who K lv w
theorem EcAt.ne (h:EcAt rb gm gM N cb who e ms Ms K lv w):rb≠gm/\rb≠gM/\rb≠cb/\gm≠gM/\gm≠cb/\gM≠cb:=h.d.ne h.c
theorem EcAt.drew (h:EcAt rb gm gM N cb who e ms Ms K lv w)(n:Nat):EcAt rb gm gM N cb who e ms Ms K lv (w.drewN n):=⟨⟨h.d.dom,h.d.mar,h.d.mem⟩,h.c⟩
theorem EcAt.setE (h:EcAt rb gm gM N cb who e ms Ms K lv w)(v:Int):EcAt rb gm gM N cb who v ms Ms K lv (w.setCell ⟨rb,0,none⟩ (.int .i64 v)):=by
 obtain⟨n1,n2,n3,n4,n5,n6⟩:=h.ne;exact⟨⟨(zqq _ _ _ _ h.d.dom).trans rfl,(zqh _ _ _ _ n1.symm).trans h.d.mar,(zqh _ _ _ _ n2.symm).trans h.d.mem⟩,(zqh _ _ _ _ n3.symm).trans h.c⟩
theorem EcAt.setM (h:EcAt rb gm gM N cb who e ms Ms K lv w)(j:Nat)(v:Value):EcAt rb gm gM N cb who e (ms.setIfInBounds j v) Ms K lv (w.setCell ⟨gm,j,none⟩ v):=by
 obtain⟨n1,n2,n3,n4,n5,n6⟩:=h.ne;exact⟨⟨(zqh _ _ _ _ n1).trans h.d.dom,zqq _ _ _ _ h.d.mar,(zqh _ _ _ _ n4.symm).trans h.d.mem⟩,(zqh _ _ _ _ n5.symm).trans h.c⟩
theorem EcAt.setI (h:EcAt rb gm gM N cb who e ms Ms K lv w)(j:Nat)(v:Value):EcAt rb gm gM N cb who e ms (Ms.setIfInBounds j v) K lv (w.setCell ⟨gM,j,none⟩ v):=by
 obtain⟨n1,n2,n3,n4,n5,n6⟩:=h.ne;exact⟨⟨(zqh _ _ _ _ n2).trans h.d.dom,(zqh _ _ _ _ n4).trans h.d.mar,zqq _ _ _ _ h.d.mem⟩,(zqh _ _ _ _ n6.symm).trans h.c⟩
theorem EcAt.setC (h:EcAt rb gm gM N cb who e ms Ms K lv w)(j:Nat)(x:Value){K':CR}{lv':Value}(he:(crC who K lv).setIfInBounds j x=crC who K' lv'):EcAt rb gm gM N cb who e ms Ms K' lv' (w.setCell ⟨cb,j,none⟩ x):=by
 obtain⟨n1,n2,n3,n4,n5,n6⟩:=h.ne;exact⟨⟨(zqh _ _ _ _ n3).trans h.d.dom,(zqh _ _ _ _ n5).trans h.d.mar,(zqh _ _ _ _ n6).trans h.d.mem⟩,h.c.set j x he⟩
theorem EcAt.fin (h:EcAt rb gm gM N cb who e ms Ms K lv w){w':World}{K':CR}{lv':Value}(k:Tch (λb=>b=cb) w w')(c:CrAt cb who K' lv' w'):EcAt rb gm gM N cb who e ms Ms K' lv' w':=by
 obtain⟨n1,n2,n3,n4,n5,n6⟩:=h.ne;exact⟨h.d.tch k n3 n5 n6,c⟩
abbrev TcE(gm gM cb:Nat)(rb:Nat):Nat->Prop:=λb=>b=gm\/b=gM\/b=cb\/b=rb
theorem zqfw(h:EcAt rb gm gM N cb who e ms Ms K lv w)(hp:K.ph=1):
 Calls Try.prog 42 #[.pointer (some ⟨rb,0,none⟩),.pointer (some ⟨cb,0,none⟩)] w λe' w'=>e'=.returned (.tuple #[])/\EcAt rb gm gM N cb who e ms Ms {K with e:=e,ph:=2} lv w'/\Tch (TcE gm gM cb rb) w w':=by
 obtain⟨d0,-,-⟩:=h.d.c;obtain⟨-,-,-,c3,c4,-,-,-,-,-⟩:=h.c.c;rw[hp]at c3;have f3:=zq5 (off:=3) h.c;have f4:=zq5 (off:=4) h.c;have H:=Lib.hid h;clear h
 go_enter Try.func42,Try.ntmps42
 go_wp2;refine bodyPost_ret (results_none rfl _ _ _) rfl ?_;refine⟨rfl,(H.out.setC 4 (.int .i64 e) (K':={K with e:=e}) rfl).setC 3 (.int .i64 (2:Nat)) rfl,((Tch.refl (TcE gm gM cb rb) _).set (.inr (.inr (.inl rfl))) _ _).set (.inr (.inr (.inl rfl))) _ _⟩
theorem zqfx(h:EcAt rb gm gM N cb who e ms Ms K lv w)(hp:K.ph=2)(hw:who<N)(hN:N<=64){x:Int}{y:Bool}(hm:ms[who]?=some (.int .i64 x))(hM:Ms[who*2]?=some (.bool y)):
 Calls Try.prog 42 #[.pointer (some ⟨rb,0,none⟩),.pointer (some ⟨cb,0,none⟩)] w λe' w'=>e'=.returned (.tuple #[])/\EcAt rb gm gM N cb who e (ms.setIfInBounds who (.int .i64 (IntKind.i64.wrap (K.e+1)))) (Ms.setIfInBounds (who*2) (.bool true)) (K.fin true K.e) lv w'/\Tch (TcE gm gM cb rb) w w':=by
 obtain⟨-,d1,d2⟩:=h.d.c;obtain⟨c0,-,-,c3,c4,-,-,-,-,-⟩:=h.c.c;rw[hp]at c3;have m0:w.cell? ⟨gm,who,none⟩=some (.int .i64 x):=(zq0 h.d.mar).trans hm;have fm:=zq5 (off:=who) h.d.mar;have g1:¬(who:Int)<0:=by omega
 have g2:(who:Int)<(N:Int):=by omega
 have g3:¬(N:Int)<=(who:Int):=by omega
 have g4:(0:Int)<=(who:Int):=by omega
 have H:=Lib.hid h;have HM:=Lib.hid hM;clear h hm hM hw
 go_enter Try.func42,Try.ntmps42
 go_wp2_with (fail)
 refine zq3b (k:=14) (C:=λw'=>∃n,w'=w.drewN n) (by kernel_rfl) (by kernel_rfl) (by kernel_rfl) (by kernel_rfl) (by kernel_rfl) ⟨1,rfl⟩ ?_;simp only[List.take_succ_cons,List.take_zero]
 repeat (quiet_step (fail))
 refine wpQuiet_nil ?_;rintro _ ⟨nq,rfl⟩;refine zq2e (i:=14) (by kernel_rfl) ?_;simp only[wpOp,al_gl,al_g0,al_g1];rw[if_pos (by rfl)];refine .inl ?_;have fm':(w.drewN nq).frozen? ⟨gm,who,none⟩=false:=fm;have m0':(w.drewN nq).cell? ⟨gm,who,none⟩=some (.int .i64 x):=m0;clear fm m0 d1 d2 c0 c3 c4;go_simp;refine zq2d (by kernel_rfl) ?_;have h1:=(H.out.drew nq).setM who (.int .i64 (IntKind.i64.wrap (K.e+1)));have k1:=((Tch.refl (TcE gm gM cb rb) _).drew nq).set (w:=w.drewN nq) (b:=gm) (.inl rfl) who (.int .i64 (IntKind.i64.wrap (K.e+1)));clear fm' m0';generalize (w.drewN nq).setCell ⟨gm,who,none⟩ (.int .i64 (IntKind.i64.wrap (K.e+1)))=w1 at h1 k1 |-;obtain⟨-,-,d2⟩:=h1.d.c;obtain⟨c0,-,-,-,c4,-,-,-,-,-⟩:=h1.c.c;have m1:w1.cell? ⟨gM,who*2,none⟩=some (.bool y):=(zq0 h1.d.mem).trans HM.out;have fM:=zq5 (off:=who*2) h1.d.mem;have H1:=Lib.hid (And.intro h1 k1);clear h1 k1
 go_wp2_with (fail)
 refine zq3b (k:=10) (C:=λw'=>∃n,w'=w1.drewN n) (by kernel_rfl) (by kernel_rfl) (by kernel_rfl) (by kernel_rfl) (by kernel_rfl) ⟨1,rfl⟩ ?_;simp only[List.take_succ_cons,List.take_zero]
 repeat (quiet_step (fail))
 refine wpQuiet_nil ?_;rintro _ ⟨nr,rfl⟩;refine zq2e (i:=10) (by kernel_rfl) ?_;simp only[wpOp,al_gl,al_g0,al_g1];rw[if_pos (by rfl)];refine .inl ?_;have fm':(w1.drewN nr).frozen? ⟨gM,who*2,none⟩=false:=fM;have m0':(w1.drewN nr).cell? ⟨gM,who*2,none⟩=some (.bool y):=m1;clear fM m1 d2 c0 c4;go_simp;refine zq2d (by kernel_rfl) ?_;have h2:=(H1.out.1.drew nr).setI (who*2) (.bool true);have k2:=(H1.out.2.drew nr).set (w:=w1.drewN nr) (b:=gM) (.inr (.inl rfl)) (who*2) (.bool true);clear fm' m0';generalize (w1.drewN nr).setCell ⟨gM,who*2,none⟩ (.bool true)=w2 at h2 k2 |-;obtain⟨-,-,-⟩:=h2.d.c;obtain⟨-,-,-,-,c4,-,-,-,-,-⟩:=h2.c.c;have HE:=Lib.hid (zq1j h2.c true K.e);have H2:=Lib.hid (And.intro h2 k2);clear h2 k2
 go_wp2_with (fail)
 refine Calls.mono HE.out ?_;rintro e' w' ⟨rfl,k3,k4⟩;have H3:=Lib.hid (And.intro k3 k4);clear k3 k4 c4;go_wp2
 go_end0
 exact⟨rfl,H2.out.1.fin H3.out.2 H3.out.1,H2.out.2.trans (H3.out.2.mono λb hb=>.inr (.inr (.inl hb)))⟩
end
section
variable {cb who:Nat} {K:CR} {lv:Value} {w:World} {rb gm gM N:Nat} {e:Int} {ms Ms:Array Value}
theorem zqfg(h:EcAt rb gm gM N cb who e ms Ms K lv w)(hp:K.ph=1):
 Calls Try.prog 43 #[.pointer (some ⟨rb,0,none⟩),.pointer (some ⟨cb,0,none⟩)] w λe' w'=>e'=.returned (.tuple #[])/\EcAt rb gm gM N cb who e ms Ms {K with e:=e,ph:=2} lv w'/\Tch (TcE gm gM cb rb) w w':=by
 obtain⟨d0,-,-⟩:=h.d.c;obtain⟨-,-,-,c3,c4,-,-,-,-,-⟩:=h.c.c;rw[hp]at c3;have f3:=zq5 (off:=3) h.c;have f4:=zq5 (off:=4) h.c;have H:=Lib.hid h;clear h
 go_enter Try.func43,Try.ntmps43
 go_wp2
 go_end0
 refine⟨rfl,(H.out.setC 4 (.int .i64 e) (K':={K with e:=e}) rfl).setC 3 (.int .i64 (2:Nat)) rfl,((Tch.refl (TcE gm gM cb rb) _).set (.inr (.inr (.inl rfl))) _ _).set (.inr (.inr (.inl rfl))) _ _⟩
def advK(N:Nat)(x:Int)(K:CR):CR:=
 if x≠0/\x≠wrap64 (K.e+1)then CR.fin {K with i:=K.i+1} true 0 else if K.i+1=N then{K with i:=K.i+1,ph:=3}else{K with i:=K.i+1}
theorem zqfh(h:EcAt rb gm gM N cb who e ms Ms K lv w)(hp:K.ph=2)(hi:K.i<N)(hN:N<=64){x:Int}(hm:ms[K.i]?=some (.int .i64 x)):
 Calls Try.prog 43 #[.pointer (some ⟨rb,0,none⟩),.pointer (some ⟨cb,0,none⟩)] w λe' w'=>e'=.returned (.tuple #[])/\EcAt rb gm gM N cb who e ms Ms (advK N x K) lv w'/\Tch (TcE gm gM cb rb) w w':=by
 obtain⟨-,d1,-⟩:=h.d.c;obtain⟨-,-,-,c3,c4,c5,-,-,-,-⟩:=h.c.c;rw[hp]at c3;have f5:=zq5 (off:=5) h.c;have f3:=zq5 (off:=3) h.c;have m0:w.cell? ⟨gm,K.i,none⟩=some (.int .i64 x):=(zq0 h.d.mar).trans hm;obtain⟨I,hI⟩:∃I,K.i=I:=⟨_,rfl⟩;rw[hI]at hi m0 c5;have g1:¬(I:Int)<0:=by omega
 have g2:(I:Int)<(N:Int):=by omega
 have g3:¬(N:Int)<=(I:Int):=by omega
 have g4:(0:Int)<=(I:Int):=by omega
 have H:=Lib.hid (And.intro h (And.intro hI hi));clear h hm hI
 go_enter Try.func43,Try.ntmps43
 go_wp2_with (fail)
 go_quiet (fail)
 replace f5:(w.drewN nq).frozen? ⟨cb,5,none⟩=false:=f5;replace c5:(w.drewN nq).cell? ⟨cb,5,none⟩=some (.int .i64 I):=c5;replace f3:(w.drewN nq).frozen? ⟨cb,3,none⟩=false:=f3;replace c4:(w.drewN nq).cell? ⟨cb,4,none⟩=some (.int .i64 K.e):=c4;clear m0 d1 c3 g1 g2 g3 g4
 by_cases h0:x=0
 . have hx:¬(x≠0/\x≠wrap64 (K.e+1)):=λh=>h.1 h0;subst h0
   go_wp2_with (fail)
   have HX:=Lib.hid hx;clear hx;have h1:=(H.out.1.drew nq).setC 5 (.int .i64 ((I:Int)+1)) (K':={K with i:=I+1}) rfl;have k1:=((Tch.refl (TcE gm gM cb rb) _).drew nq).set (w:=w.drewN nq) (b:=cb) (.inr (.inr (.inl rfl))) 5 (.int .i64 ((I:Int)+1));clear c5 f5 c4 f3;generalize (w.drewN nq).setCell ⟨cb,5,none⟩ (.int .i64 ((I:Int)+1))=w1 at h1 k1 |-;obtain⟨-,d1,-⟩:=h1.d.c;obtain⟨-,-,-,c3,-,c5,-,-,-,-⟩:=h1.c.c;have f3:=zq5 (off:=3) h1.c;replace c5:w1.cell? ⟨cb,5,none⟩=some (.int .i64 ((I:Int)+1)):=c5;have H1:=Lib.hid (And.intro h1 k1);clear h1 k1
   go_wp2_with (fail)
   go_quiet (fail)
   replace c3:(w1.drewN nq).cell? ⟨cb,3,none⟩=some (.int .i64 K.ph):=c3
   by_cases hl:I+1=N
   . have hl':(((I:Int)+1)==(N:Int))=true:=by simp;omega
     replace f3:(w1.drewN nq).frozen? ⟨cb,3,none⟩=false:=f3;clear c5 d1;go_wp2
     all_goals(try omega)
     go_end0
     refine⟨rfl,?_,(H1.out.2.drew nq).set (.inr (.inr (.inl rfl))) _ _⟩;have:=(H1.out.1.drew nq).setC 3 (.int .i64 (3:Nat)) (K':={K with i:=I+1,ph:=3}) rfl;rw[show advK N 0 K={K with i:=I+1,ph:=3}by unfold advK;rw[H.out.2.1,if_neg HX.out,if_pos hl]];exact this
   . have hl':(((I:Int)+1)==(N:Int))=false:=by simp;omega
     clear c5 d1 f3;go_wp2
     all_goals(try omega)
     go_end0
     refine⟨rfl,?_,H1.out.2.drew nq⟩;rw[show advK N 0 K={K with i:=I+1}by unfold advK;rw[H.out.2.1,if_neg HX.out,if_neg hl]];exact H1.out.1.drew nq
 by_cases h00:x=wrap64 (K.e+1)
 . have hx:¬(x≠0/\x≠wrap64 (K.e+1)):=λh=>h.2 h00;have b0:(x !=0)=true:=by simpa using h0
   have b1:(x !=wrap64 (K.e+1))=false:=by simpa using h00
   go_wp2_with (fail)
   all_goals(try(exfalso;first|omega |(simp_all;done)))
   try clear b0
   try clear b1
   have HX:=Lib.hid hx;clear hx;have h1:=(H.out.1.drew nq).setC 5 (.int .i64 ((I:Int)+1)) (K':={K with i:=I+1}) rfl;have k1:=((Tch.refl (TcE gm gM cb rb) _).drew nq).set (w:=w.drewN nq) (b:=cb) (.inr (.inr (.inl rfl))) 5 (.int .i64 ((I:Int)+1));clear c5 f5 c4 f3;generalize (w.drewN nq).setCell ⟨cb,5,none⟩ (.int .i64 ((I:Int)+1))=w1 at h1 k1 |-;obtain⟨-,d1,-⟩:=h1.d.c;obtain⟨-,-,-,c3,-,c5,-,-,-,-⟩:=h1.c.c;have f3:=zq5 (off:=3) h1.c;replace c5:w1.cell? ⟨cb,5,none⟩=some (.int .i64 ((I:Int)+1)):=c5;have H1:=Lib.hid (And.intro h1 k1);clear h1 k1
   go_wp2_with (fail)
   go_quiet (fail)
   replace c3:(w1.drewN nq).cell? ⟨cb,3,none⟩=some (.int .i64 K.ph):=c3
   by_cases hl:I+1=N
   . have hl':(((I:Int)+1)==(N:Int))=true:=by simp;omega
     replace f3:(w1.drewN nq).frozen? ⟨cb,3,none⟩=false:=f3;clear c5 d1;go_wp2
     all_goals(try omega)
     go_end0
     refine⟨rfl,?_,(H1.out.2.drew nq).set (.inr (.inr (.inl rfl))) _ _⟩;have:=(H1.out.1.drew nq).setC 3 (.int .i64 (3:Nat)) (K':={K with i:=I+1,ph:=3}) rfl;rw[show advK N x K={K with i:=I+1,ph:=3}by unfold advK;rw[H.out.2.1,if_neg HX.out,if_pos hl]];exact this
   . have hl':(((I:Int)+1)==(N:Int))=false:=by simp;omega
     clear c5 d1 f3;go_wp2
     all_goals(try omega)
     go_end0
     refine⟨rfl,?_,H1.out.2.drew nq⟩;rw[show advK N x K={K with i:=I+1}by unfold advK;rw[H.out.2.1,if_neg HX.out,if_neg hl]];exact H1.out.1.drew nq
 . have hx:x≠0/\x≠wrap64 (K.e+1):=⟨h0,h00⟩;have b0:(x !=0)=true:=by simpa using h0
   have b1:(x !=wrap64 (K.e+1))=true:=by simpa using h00
   go_wp2_with (fail)
   all_goals(try(exfalso;first|omega |(simp_all;done)))
   have HX:=Lib.hid hx;clear hx
   try clear b0
   try clear b1
   have h1:=(H.out.1.drew nq).setC 5 (.int .i64 ((I:Int)+1)) (K':={K with i:=I+1}) rfl;have k1:=((Tch.refl (TcE gm gM cb rb) _).drew nq).set (w:=w.drewN nq) (b:=cb) (.inr (.inr (.inl rfl))) 5 (.int .i64 ((I:Int)+1));clear c5 f5 c4 f3;generalize (w.drewN nq).setCell ⟨cb,5,none⟩ (.int .i64 ((I:Int)+1))=w1 at h1 k1 |-;have HE:=Lib.hid (zq1j h1.c true 0);have H1:=Lib.hid (And.intro h1 k1);clear h1 k1;refine Calls.mono HE.out ?_;rintro e' w' ⟨rfl,k3,k4⟩;have H3:=Lib.hid (And.intro k3 k4);clear k3 k4;go_wp2
   go_end0
   refine⟨rfl,?_,H1.out.2.trans (H3.out.2.mono λb hb=>.inr (.inr (.inl hb)))⟩;rw[show advK N x K=CR.fin {K with i:=I+1} true 0 by unfold advK;rw[H.out.2.1,if_pos HX.out]];exact H1.out.1.fin H3.out.2 H3.out.1
end
section
variable {cb who:Nat} {K:CR} {lv:Value} {w:World} {rb gm gM N:Nat} {e:Int} {ms Ms:Array Value}
theorem zqfi(h:EcAt rb gm gM N cb who e ms Ms K lv w)(hp:K.ph=3)(he:e=K.e):
 Calls Try.prog 43 #[.pointer (some ⟨rb,0,none⟩),.pointer (some ⟨cb,0,none⟩)] w λe' w'=>e'=.returned (.tuple #[])/\EcAt rb gm gM N cb who (wrap64 (K.e+1)) ms Ms (K.fin true 1) lv w'/\Tch (TcE gm gM cb rb) w w':=by
 obtain⟨d0,-,-⟩:=h.d.c;obtain⟨-,-,-,c3,c4,-,-,-,-,-⟩:=h.c.c;rw[hp]at c3;have f0:=zq5 (off:=0) h.d.dom;have H:=Lib.hid h;clear h;have b0:(e==K.e)=true:=by simpa using he
 obtain⟨ke,hke⟩:∃x,K.e=x:=⟨_,rfl⟩;rw[hke]at c4 he b0;subst he
 go_enter Try.func43,Try.ntmps43
 go_wp2_with (fail)
 go_quiet (fail)
 replace d0:(w.drewN nq).cell? ⟨rb,0,none⟩=some (.int .i64 e):=d0;replace c4:(w.drewN nq).cell? ⟨cb,4,none⟩=some (.int .i64 e):=c4;replace f0:(w.drewN nq).frozen? ⟨rb,0,none⟩=false:=f0
 go_wp2_with (fail)
 all_goals(try(exfalso;first|omega |(simp_all;done)))
 have h1:=(H.out.drew nq).setE (wrap64 (e+1));have k1:=((Tch.refl (TcE gm gM cb rb) _).drew nq).set (w:=w.drewN nq) (b:=rb) (.inr (.inr (.inr rfl))) 0 (.int .i64 (wrap64 (e+1)));clear d0 c4 f0 c3
 try rw[<-wrap64_eq]
 generalize (w.drewN nq).setCell ⟨rb,0,none⟩ (.int .i64 (wrap64 (e+1)))=w1 at h1 k1 |-;have HE:=Lib.hid (zq1j h1.c true 1);have H1:=Lib.hid (And.intro h1 k1);clear h1 k1;refine Calls.mono HE.out ?_;rintro e' w' ⟨rfl,k3,k4⟩;have H3:=Lib.hid (And.intro k3 k4);clear k3 k4;go_wp2
 go_end0
 rw[hke];exact⟨rfl,H1.out.1.fin H3.out.2 H3.out.1,H1.out.2.trans (H3.out.2.mono λb hb=>.inr (.inr (.inl hb)))⟩
theorem zqfj(h:EcAt rb gm gM N cb who e ms Ms K lv w)(hp:K.ph=3)(he:¬e=K.e):
 Calls Try.prog 43 #[.pointer (some ⟨rb,0,none⟩),.pointer (some ⟨cb,0,none⟩)] w λe' w'=>e'=.returned (.tuple #[])/\EcAt rb gm gM N cb who e ms Ms (K.fin true 0) lv w'/\Tch (TcE gm gM cb rb) w w':=by
 obtain⟨d0,-,-⟩:=h.d.c;obtain⟨-,-,-,c3,c4,-,-,-,-,-⟩:=h.c.c;rw[hp]at c3;have f0:=zq5 (off:=0) h.d.dom;have H:=Lib.hid h;clear h;have b0:(e==K.e)=false:=by simpa using he
 obtain⟨ke,hke⟩:∃x,K.e=x:=⟨_,rfl⟩;rw[hke]at c4 he b0
 go_enter Try.func43,Try.ntmps43
 go_wp2_with (fail)
 go_quiet (fail)
 replace d0:(w.drewN nq).cell? ⟨rb,0,none⟩=some (.int .i64 e):=d0;replace c4:(w.drewN nq).cell? ⟨cb,4,none⟩=some (.int .i64 ke):=c4;replace f0:(w.drewN nq).frozen? ⟨rb,0,none⟩=false:=f0
 go_wp2_with (fail)
 all_goals(try(exfalso;first|omega |(simp_all;done)))
 have h1:=H.out.drew nq;have k1:Tch (TcE gm gM cb rb) w (w.drewN nq):=⟨Nat.le_refl _,λ_ _ _=>rfl⟩;clear d0 c4 f0 c3;generalize w.drewN nq=w1 at h1 k1 |-;have HE:=Lib.hid (zq1j h1.c true 0);have H1:=Lib.hid (And.intro h1 k1);clear h1 k1;refine Calls.mono HE.out ?_;rintro e' w' ⟨rfl,k3,k4⟩;have H3:=Lib.hid (And.intro k3 k4);clear k3 k4;go_wp2
 go_end0
 exact⟨rfl,H1.out.1.fin H3.out.2 H3.out.1,H1.out.2.trans (H3.out.2.mono λb hb=>.inr (.inr (.inl hb)))⟩
def bgK0(op:OpX):CR:=⟨op.k,op.a,1,0,0,false,false,0⟩
def bgEnd(op:OpX)(b:Bool):Prop:=op.k<1\/5<op.k\/(op.k=1/\b=true)\/(op.k=2/\b=false)
instance (op:OpX) (b:Bool):Decidable (bgEnd op b):=by unfold bgEnd;infer_instance
def bgK(op:OpX)(b:Bool):CR:=if bgEnd op b then(bgK0 op).fin false 0 else bgK0 op
def bgM(who:Nat)(op:OpX)(b:Bool)(Ms:Array Value):Array Value:=if op.k=2/\b=true then Ms.setIfInBounds (who*2) (.bool false)else Ms
def zq24(rb gm gM N who:Nat)(e:Int)(ms Ms:Array Value)(op:OpX)(b:Bool)(w:World)(e':Ending)(w':World):Prop:=
 ∃cb,e'=.returned (.pointer (some ⟨cb,0,none⟩))/\w.heap.size<=cb/\EcAt rb gm gM N cb who e ms (bgM who op b Ms) (bgK op b) (.slice none 0 0) w'/\Tch (λb=>b=gM) w w'
theorem Tch.fresh {S:Nat->Prop}{a b c:World}{x:Nat}(h:Tch S a b)(k:Tch (λy=>y=x) b c)(hx:a.heap.size<=x):Tch S a c:=
 ⟨Nat.le_trans h.size k.size,λy hy hs=>(k.old y (Nat.lt_of_lt_of_le hy h.size) (λe=>by omega)).trans (h.old y hy hs)⟩
theorem DmAt.more (h:DmAt rb gm gM N e ms Ms w){w':World}(k:∀b,b<w.heap.size->w'.heap[b]?=w.heap[b]?):DmAt rb gm gM N e ms Ms w':=h.of (k _ (zqg h.dom)) (k _ (zqg h.mar)) (k _ (zqg h.mem))
noncomputable def beT(n:Nat):Code:=tailN n (Try.f14.body.getD .skip)
theorem zqfk(h:DmAt rb gm gM N e ms Ms w)(hw:who<N)(hN:N<=64){op:OpX}{b:Bool}(hM:Ms[who*2]?=some (.bool b))(hk:op.k<1):
 Calls Try.prog 14 #[.pointer (some ⟨rb,0,none⟩),.int .i64 who,op.val] w λe' w'=>zq24 rb gm gM N who e ms Ms op b w e' w':=by
 obtain⟨Z,hZ⟩:∃Z,w.heap.size=Z:=⟨_,rfl⟩;have hb:b=b:=rfl;have hg:bgEnd op b:=by unfold bgEnd;first|(simp only[hb];omega)|(simp[hb];omega)|simp[hb,hk]|omega
 have hres:bgK op b=(bgK0 op).fin false 0:=if_pos hg;have hresM:bgM who op b Ms=Ms:=if_neg (by first|(simp only[hb];omega)|(simp[hb];omega)|simp[hb]|omega);have g1:¬(who:Int)<0:=by omega
 have g2:(who:Int)<(N:Int):=by omega
 have g3:¬(N:Int)<=(who:Int):=by omega
 have g4:(0:Int)<=(who:Int):=by omega
 have H:=Lib.hid (And.intro h (And.intro hZ (And.intro hres (And.intro hresM hM))));have HKK:=Lib.hid hk;have HBB:=Lib.hid hb;clear h hM hw hres hresM hg hk hb;unfold OpX.val
 go_enter Try.func14,Try.ntmps14
 show Code.wp Try.prog (.seq (headC (beT 0)) (.seq (headC (beT 1)) (beT 2))) _ _ _;obtain⟨R,hR⟩:∃R,beT 2=R:=⟨_,rfl⟩;rw[hR];obtain⟨u_,hu_⟩:∃c,headC (beT 0)=c:=⟨_,rfl⟩;have eu_:=hu_;rw[hu_];simp only[beT,headC,tailN,Try.f14,al_od]at eu_;subst eu_;clear hu_;obtain⟨u_,hu_⟩:∃c,headC (beT 1)=c:=⟨_,rfl⟩;have eu_:=hu_;rw[hu_];simp only[beT,headC,tailN,Try.f14,al_od]at eu_;subst eu_;clear hu_
 go_wp2_with (fail)
 have hs1:(w.alloc (.cells #[.int .i64 op.k,.int .i64 op.a,.int .i64 op.b,.int .i64 op.c] 44)).heap.size=Z+1:=by rw[zq3,hZ]
 try rw[hZ]
 try rw[hs1]
 have hk1:Tch (λb=>b=gM) w ((w.alloc (.cells #[.int .i64 op.k,.int .i64 op.a,.int .i64 op.b,.int .i64 op.c] 44)).alloc (.cells #[.int .i64 who,.int .i64 op.k,.int .i64 op.a,.int .i64 1,.int .i64 0,.int .i64 0,.bool false,.bool false,.int .i64 0,.slice none 0 0] 52)):=((Tch.refl (λb=>b=gM) w).al _).al _;have h2:DmAt rb gm gM N e ms Ms ((w.alloc (.cells #[.int .i64 op.k,.int .i64 op.a,.int .i64 op.b,.int .i64 op.c] 44)).alloc (.cells #[.int .i64 who,.int .i64 op.k,.int .i64 op.a,.int .i64 1,.int .i64 0,.int .i64 0,.bool false,.bool false,.int .i64 0,.slice none 0 0] 52)):=H.out.1.more λb hb=>by rw[zq6,if_neg (by rw[zq3];omega),zq6,if_neg (by omega)]
 have hd2:EcAt rb gm gM N (Z+1) who e ms Ms (bgK0 op) (.slice none 0 0) ((w.alloc (.cells #[.int .i64 op.k,.int .i64 op.a,.int .i64 op.b,.int .i64 op.c] 44)).alloc (.cells #[.int .i64 who,.int .i64 op.k,.int .i64 op.a,.int .i64 1,.int .i64 0,.int .i64 0,.bool false,.bool false,.int .i64 0,.slice none 0 0] 52)):=⟨h2,by rw[<-hs1];exact zqn _ _⟩;have hz:((w.alloc (.cells #[.int .i64 op.k,.int .i64 op.a,.int .i64 op.b,.int .i64 op.c] 44)).alloc (.cells #[.int .i64 who,.int .i64 op.k,.int .i64 op.a,.int .i64 1,.int .i64 0,.int .i64 0,.bool false,.bool false,.int .i64 0,.slice none 0 0] 52)).heap[Z]?=some (.cells #[.int .i64 op.k,.int .i64 op.a,.int .i64 op.b,.int .i64 op.c] 44):=zqm (by rw[<-hZ];exact zqn _ _);clear h2 hs1;generalize (w.alloc (.cells #[.int .i64 op.k,.int .i64 op.a,.int .i64 op.b,.int .i64 op.c] 44)).alloc (.cells #[.int .i64 who,.int .i64 op.k,.int .i64 op.a,.int .i64 1,.int .i64 0,.int .i64 0,.bool false,.bool false,.int .i64 0,.slice none 0 0] 52)=w2 at hk1 hd2 hz |-;have z0:w2.cell? ⟨Z,0,none⟩=some (.int .i64 op.k):=(zq0 hz).trans rfl;have d2:=hd2.d.c.2.2;have m1:w2.cell? ⟨gM,who*2,none⟩=some (.bool b):=(zq0 hd2.d.mem).trans H.out.2.2.2.2;have fM:=zq5 (off:=who*2) hd2.d.mem;have hk:=HKK.out;have hb:=HBB.out;have HK:=Lib.hid (And.intro hd2 hk1);clear hz;rw[<-hR];clear hR R;simp only[beT,headC,tailN,Try.f14,al_od];have HE:=Lib.hid (zq1j hd2.c false 0);clear hd2 hk1
 go_wp2_with (fail)
 refine Calls.mono HE.out ?_;rintro e' w' ⟨rfl,k3,k4⟩;have H3:=Lib.hid (And.intro k3 k4);clear k3 k4 z0 d2 m1 fM;go_wp2;go_ret;refine⟨Z+1,rfl,by rw[hZ];exact Nat.le_succ _,?_,HK.out.2.fresh H3.out.2 (by rw[hZ];exact Nat.le_succ _)⟩;rw[H.out.2.2.1,H.out.2.2.2.1];exact HK.out.1.fin H3.out.2 H3.out.1
theorem zqfl(h:DmAt rb gm gM N e ms Ms w)(hw:who<N)(hN:N<=64){op:OpX}{b:Bool}(hM:Ms[who*2]?=some (.bool b))(hk:5<op.k):
 Calls Try.prog 14 #[.pointer (some ⟨rb,0,none⟩),.int .i64 who,op.val] w λe' w'=>zq24 rb gm gM N who e ms Ms op b w e' w':=by
 obtain⟨Z,hZ⟩:∃Z,w.heap.size=Z:=⟨_,rfl⟩;have hb:b=b:=rfl;have hg:bgEnd op b:=by unfold bgEnd;first|(simp only[hb];omega)|(simp[hb];omega)|simp[hb,hk]|omega
 have hres:bgK op b=(bgK0 op).fin false 0:=if_pos hg;have hresM:bgM who op b Ms=Ms:=if_neg (by first|(simp only[hb];omega)|(simp[hb];omega)|simp[hb]|omega);have g1:¬(who:Int)<0:=by omega
 have g2:(who:Int)<(N:Int):=by omega
 have g3:¬(N:Int)<=(who:Int):=by omega
 have g4:(0:Int)<=(who:Int):=by omega
 have H:=Lib.hid (And.intro h (And.intro hZ (And.intro hres (And.intro hresM hM))));have HKK:=Lib.hid hk;have HBB:=Lib.hid hb;clear h hM hw hres hresM hg hk hb;unfold OpX.val
 go_enter Try.func14,Try.ntmps14
 show Code.wp Try.prog (.seq (headC (beT 0)) (.seq (headC (beT 1)) (beT 2))) _ _ _;obtain⟨R,hR⟩:∃R,beT 2=R:=⟨_,rfl⟩;rw[hR];obtain⟨u_,hu_⟩:∃c,headC (beT 0)=c:=⟨_,rfl⟩;have eu_:=hu_;rw[hu_];simp only[beT,headC,tailN,Try.f14,al_od]at eu_;subst eu_;clear hu_;obtain⟨u_,hu_⟩:∃c,headC (beT 1)=c:=⟨_,rfl⟩;have eu_:=hu_;rw[hu_];simp only[beT,headC,tailN,Try.f14,al_od]at eu_;subst eu_;clear hu_
 go_wp2_with (fail)
 have hs1:(w.alloc (.cells #[.int .i64 op.k,.int .i64 op.a,.int .i64 op.b,.int .i64 op.c] 44)).heap.size=Z+1:=by rw[zq3,hZ]
 try rw[hZ]
 try rw[hs1]
 have hk1:Tch (λb=>b=gM) w ((w.alloc (.cells #[.int .i64 op.k,.int .i64 op.a,.int .i64 op.b,.int .i64 op.c] 44)).alloc (.cells #[.int .i64 who,.int .i64 op.k,.int .i64 op.a,.int .i64 1,.int .i64 0,.int .i64 0,.bool false,.bool false,.int .i64 0,.slice none 0 0] 52)):=((Tch.refl (λb=>b=gM) w).al _).al _;have h2:DmAt rb gm gM N e ms Ms ((w.alloc (.cells #[.int .i64 op.k,.int .i64 op.a,.int .i64 op.b,.int .i64 op.c] 44)).alloc (.cells #[.int .i64 who,.int .i64 op.k,.int .i64 op.a,.int .i64 1,.int .i64 0,.int .i64 0,.bool false,.bool false,.int .i64 0,.slice none 0 0] 52)):=H.out.1.more λb hb=>by rw[zq6,if_neg (by rw[zq3];omega),zq6,if_neg (by omega)]
 have hd2:EcAt rb gm gM N (Z+1) who e ms Ms (bgK0 op) (.slice none 0 0) ((w.alloc (.cells #[.int .i64 op.k,.int .i64 op.a,.int .i64 op.b,.int .i64 op.c] 44)).alloc (.cells #[.int .i64 who,.int .i64 op.k,.int .i64 op.a,.int .i64 1,.int .i64 0,.int .i64 0,.bool false,.bool false,.int .i64 0,.slice none 0 0] 52)):=⟨h2,by rw[<-hs1];exact zqn _ _⟩;have hz:((w.alloc (.cells #[.int .i64 op.k,.int .i64 op.a,.int .i64 op.b,.int .i64 op.c] 44)).alloc (.cells #[.int .i64 who,.int .i64 op.k,.int .i64 op.a,.int .i64 1,.int .i64 0,.int .i64 0,.bool false,.bool false,.int .i64 0,.slice none 0 0] 52)).heap[Z]?=some (.cells #[.int .i64 op.k,.int .i64 op.a,.int .i64 op.b,.int .i64 op.c] 44):=zqm (by rw[<-hZ];exact zqn _ _);clear h2 hs1;generalize (w.alloc (.cells #[.int .i64 op.k,.int .i64 op.a,.int .i64 op.b,.int .i64 op.c] 44)).alloc (.cells #[.int .i64 who,.int .i64 op.k,.int .i64 op.a,.int .i64 1,.int .i64 0,.int .i64 0,.bool false,.bool false,.int .i64 0,.slice none 0 0] 52)=w2 at hk1 hd2 hz |-;have z0:w2.cell? ⟨Z,0,none⟩=some (.int .i64 op.k):=(zq0 hz).trans rfl;have d2:=hd2.d.c.2.2;have m1:w2.cell? ⟨gM,who*2,none⟩=some (.bool b):=(zq0 hd2.d.mem).trans H.out.2.2.2.2;have fM:=zq5 (off:=who*2) hd2.d.mem;have hk:=HKK.out;have hb:=HBB.out;have HK:=Lib.hid (And.intro hd2 hk1);clear hz;rw[<-hR];clear hR R;simp only[beT,headC,tailN,Try.f14,al_od];have HE:=Lib.hid (zq1j hd2.c false 0);clear hd2 hk1
 go_wp2_with (fail)
 refine Calls.mono HE.out ?_;rintro e' w' ⟨rfl,k3,k4⟩;have H3:=Lib.hid (And.intro k3 k4);clear k3 k4 z0 d2 m1 fM;go_wp2;go_ret;refine⟨Z+1,rfl,by rw[hZ];exact Nat.le_succ _,?_,HK.out.2.fresh H3.out.2 (by rw[hZ];exact Nat.le_succ _)⟩;rw[H.out.2.2.1,H.out.2.2.2.1];exact HK.out.1.fin H3.out.2 H3.out.1
theorem zqfm(h:DmAt rb gm gM N e ms Ms w)(hw:who<N)(hN:N<=64){op:OpX}{b:Bool}(hM:Ms[who*2]?=some (.bool b))(hk:op.k=1)(hb:b=true):
 Calls Try.prog 14 #[.pointer (some ⟨rb,0,none⟩),.int .i64 who,op.val] w λe' w'=>zq24 rb gm gM N who e ms Ms op b w e' w':=by
 obtain⟨Z,hZ⟩:∃Z,w.heap.size=Z:=⟨_,rfl⟩;have hg:bgEnd op b:=by unfold bgEnd;first|(simp only[hb];omega)|(simp[hb];omega)|simp[hb,hk]|omega
 have hres:bgK op b=(bgK0 op).fin false 0:=if_pos hg;have hresM:bgM who op b Ms=Ms:=if_neg (by first|(simp only[hb];omega)|(simp[hb];omega)|simp[hb]|omega);have g1:¬(who:Int)<0:=by omega
 have g2:(who:Int)<(N:Int):=by omega
 have g3:¬(N:Int)<=(who:Int):=by omega
 have g4:(0:Int)<=(who:Int):=by omega
 have H:=Lib.hid (And.intro h (And.intro hZ (And.intro hres (And.intro hresM hM))));have HKK:=Lib.hid hk;have HBB:=Lib.hid hb;clear h hM hw hres hresM hg hk hb;unfold OpX.val
 go_enter Try.func14,Try.ntmps14
 show Code.wp Try.prog (.seq (headC (beT 0)) (.seq (headC (beT 1)) (beT 2))) _ _ _;obtain⟨R,hR⟩:∃R,beT 2=R:=⟨_,rfl⟩;rw[hR];obtain⟨u_,hu_⟩:∃c,headC (beT 0)=c:=⟨_,rfl⟩;have eu_:=hu_;rw[hu_];simp only[beT,headC,tailN,Try.f14,al_od]at eu_;subst eu_;clear hu_;obtain⟨u_,hu_⟩:∃c,headC (beT 1)=c:=⟨_,rfl⟩;have eu_:=hu_;rw[hu_];simp only[beT,headC,tailN,Try.f14,al_od]at eu_;subst eu_;clear hu_
 go_wp2_with (fail)
 have hs1:(w.alloc (.cells #[.int .i64 op.k,.int .i64 op.a,.int .i64 op.b,.int .i64 op.c] 44)).heap.size=Z+1:=by rw[zq3,hZ]
 try rw[hZ]
 try rw[hs1]
 have hk1:Tch (λb=>b=gM) w ((w.alloc (.cells #[.int .i64 op.k,.int .i64 op.a,.int .i64 op.b,.int .i64 op.c] 44)).alloc (.cells #[.int .i64 who,.int .i64 op.k,.int .i64 op.a,.int .i64 1,.int .i64 0,.int .i64 0,.bool false,.bool false,.int .i64 0,.slice none 0 0] 52)):=((Tch.refl (λb=>b=gM) w).al _).al _;have h2:DmAt rb gm gM N e ms Ms ((w.alloc (.cells #[.int .i64 op.k,.int .i64 op.a,.int .i64 op.b,.int .i64 op.c] 44)).alloc (.cells #[.int .i64 who,.int .i64 op.k,.int .i64 op.a,.int .i64 1,.int .i64 0,.int .i64 0,.bool false,.bool false,.int .i64 0,.slice none 0 0] 52)):=H.out.1.more λb hb=>by rw[zq6,if_neg (by rw[zq3];omega),zq6,if_neg (by omega)]
 have hd2:EcAt rb gm gM N (Z+1) who e ms Ms (bgK0 op) (.slice none 0 0) ((w.alloc (.cells #[.int .i64 op.k,.int .i64 op.a,.int .i64 op.b,.int .i64 op.c] 44)).alloc (.cells #[.int .i64 who,.int .i64 op.k,.int .i64 op.a,.int .i64 1,.int .i64 0,.int .i64 0,.bool false,.bool false,.int .i64 0,.slice none 0 0] 52)):=⟨h2,by rw[<-hs1];exact zqn _ _⟩;have hz:((w.alloc (.cells #[.int .i64 op.k,.int .i64 op.a,.int .i64 op.b,.int .i64 op.c] 44)).alloc (.cells #[.int .i64 who,.int .i64 op.k,.int .i64 op.a,.int .i64 1,.int .i64 0,.int .i64 0,.bool false,.bool false,.int .i64 0,.slice none 0 0] 52)).heap[Z]?=some (.cells #[.int .i64 op.k,.int .i64 op.a,.int .i64 op.b,.int .i64 op.c] 44):=zqm (by rw[<-hZ];exact zqn _ _);clear h2 hs1;generalize (w.alloc (.cells #[.int .i64 op.k,.int .i64 op.a,.int .i64 op.b,.int .i64 op.c] 44)).alloc (.cells #[.int .i64 who,.int .i64 op.k,.int .i64 op.a,.int .i64 1,.int .i64 0,.int .i64 0,.bool false,.bool false,.int .i64 0,.slice none 0 0] 52)=w2 at hk1 hd2 hz |-;have z0:w2.cell? ⟨Z,0,none⟩=some (.int .i64 op.k):=(zq0 hz).trans rfl;have d2:=hd2.d.c.2.2;have m1:w2.cell? ⟨gM,who*2,none⟩=some (.bool b):=(zq0 hd2.d.mem).trans H.out.2.2.2.2;have fM:=zq5 (off:=who*2) hd2.d.mem;have hk:=HKK.out;have hb:=HBB.out;rw[hk]at z0;rw[hb]at m1;have HK:=Lib.hid (And.intro hd2 hk1);clear hz;rw[<-hR];clear hR R;simp only[beT,headC,tailN,Try.f14,al_od];have HE:=Lib.hid (zq1j hd2.c false 0);clear hd2 hk1
 go_wp2_with (fail)
 refine Calls.mono HE.out ?_;rintro e' w' ⟨rfl,k3,k4⟩;have H3:=Lib.hid (And.intro k3 k4);clear k3 k4 z0 d2 m1 fM;go_wp2;go_ret;refine⟨Z+1,rfl,by rw[hZ];exact Nat.le_succ _,?_,HK.out.2.fresh H3.out.2 (by rw[hZ];exact Nat.le_succ _)⟩;rw[H.out.2.2.1,H.out.2.2.2.1];exact HK.out.1.fin H3.out.2 H3.out.1
theorem zqfn(h:DmAt rb gm gM N e ms Ms w)(hw:who<N)(hN:N<=64){op:OpX}{b:Bool}(hM:Ms[who*2]?=some (.bool b))(hk:op.k=1)(hb:b=false):
 Calls Try.prog 14 #[.pointer (some ⟨rb,0,none⟩),.int .i64 who,op.val] w λe' w'=>zq24 rb gm gM N who e ms Ms op b w e' w':=by
 obtain⟨Z,hZ⟩:∃Z,w.heap.size=Z:=⟨_,rfl⟩;have hg:¬bgEnd op b:=by unfold bgEnd;first|(simp only[hb];omega)|(simp[hb];omega)|simp[hb,hk]|omega
 have hres:bgK op b=bgK0 op:=if_neg hg;have hresM:bgM who op b Ms=Ms:=if_neg (by first|(simp only[hb];omega)|(simp[hb];omega)|simp[hb]|omega);have g1:¬(who:Int)<0:=by omega
 have g2:(who:Int)<(N:Int):=by omega
 have g3:¬(N:Int)<=(who:Int):=by omega
 have g4:(0:Int)<=(who:Int):=by omega
 have H:=Lib.hid (And.intro h (And.intro hZ (And.intro hres (And.intro hresM hM))));have HKK:=Lib.hid hk;have HBB:=Lib.hid hb;clear h hM hw hres hresM hg hk hb;unfold OpX.val
 go_enter Try.func14,Try.ntmps14
 show Code.wp Try.prog (.seq (headC (beT 0)) (.seq (headC (beT 1)) (beT 2))) _ _ _;obtain⟨R,hR⟩:∃R,beT 2=R:=⟨_,rfl⟩;rw[hR];obtain⟨u_,hu_⟩:∃c,headC (beT 0)=c:=⟨_,rfl⟩;have eu_:=hu_;rw[hu_];simp only[beT,headC,tailN,Try.f14,al_od]at eu_;subst eu_;clear hu_;obtain⟨u_,hu_⟩:∃c,headC (beT 1)=c:=⟨_,rfl⟩;have eu_:=hu_;rw[hu_];simp only[beT,headC,tailN,Try.f14,al_od]at eu_;subst eu_;clear hu_
 go_wp2_with (fail)
 have hs1:(w.alloc (.cells #[.int .i64 op.k,.int .i64 op.a,.int .i64 op.b,.int .i64 op.c] 44)).heap.size=Z+1:=by rw[zq3,hZ]
 try rw[hZ]
 try rw[hs1]
 have hk1:Tch (λb=>b=gM) w ((w.alloc (.cells #[.int .i64 op.k,.int .i64 op.a,.int .i64 op.b,.int .i64 op.c] 44)).alloc (.cells #[.int .i64 who,.int .i64 op.k,.int .i64 op.a,.int .i64 1,.int .i64 0,.int .i64 0,.bool false,.bool false,.int .i64 0,.slice none 0 0] 52)):=((Tch.refl (λb=>b=gM) w).al _).al _;have h2:DmAt rb gm gM N e ms Ms ((w.alloc (.cells #[.int .i64 op.k,.int .i64 op.a,.int .i64 op.b,.int .i64 op.c] 44)).alloc (.cells #[.int .i64 who,.int .i64 op.k,.int .i64 op.a,.int .i64 1,.int .i64 0,.int .i64 0,.bool false,.bool false,.int .i64 0,.slice none 0 0] 52)):=H.out.1.more λb hb=>by rw[zq6,if_neg (by rw[zq3];omega),zq6,if_neg (by omega)]
 have hd2:EcAt rb gm gM N (Z+1) who e ms Ms (bgK0 op) (.slice none 0 0) ((w.alloc (.cells #[.int .i64 op.k,.int .i64 op.a,.int .i64 op.b,.int .i64 op.c] 44)).alloc (.cells #[.int .i64 who,.int .i64 op.k,.int .i64 op.a,.int .i64 1,.int .i64 0,.int .i64 0,.bool false,.bool false,.int .i64 0,.slice none 0 0] 52)):=⟨h2,by rw[<-hs1];exact zqn _ _⟩;have hz:((w.alloc (.cells #[.int .i64 op.k,.int .i64 op.a,.int .i64 op.b,.int .i64 op.c] 44)).alloc (.cells #[.int .i64 who,.int .i64 op.k,.int .i64 op.a,.int .i64 1,.int .i64 0,.int .i64 0,.bool false,.bool false,.int .i64 0,.slice none 0 0] 52)).heap[Z]?=some (.cells #[.int .i64 op.k,.int .i64 op.a,.int .i64 op.b,.int .i64 op.c] 44):=zqm (by rw[<-hZ];exact zqn _ _);clear h2 hs1;generalize (w.alloc (.cells #[.int .i64 op.k,.int .i64 op.a,.int .i64 op.b,.int .i64 op.c] 44)).alloc (.cells #[.int .i64 who,.int .i64 op.k,.int .i64 op.a,.int .i64 1,.int .i64 0,.int .i64 0,.bool false,.bool false,.int .i64 0,.slice none 0 0] 52)=w2 at hk1 hd2 hz |-;have z0:w2.cell? ⟨Z,0,none⟩=some (.int .i64 op.k):=(zq0 hz).trans rfl;have d2:=hd2.d.c.2.2;have m1:w2.cell? ⟨gM,who*2,none⟩=some (.bool b):=(zq0 hd2.d.mem).trans H.out.2.2.2.2;have fM:=zq5 (off:=who*2) hd2.d.mem;have hk:=HKK.out;have hb:=HBB.out;rw[hk]at z0;rw[hb]at m1;have HK:=Lib.hid (And.intro hd2 hk1);clear hz;rw[<-hR];clear hR R;simp only[beT,headC,tailN,Try.f14,al_od];have HE:=Lib.hid (zq1j hd2.c false 0);clear hd2 hk1
 go_wp2_with (fail)
 go_ret;refine⟨Z+1,rfl,by rw[hZ];exact Nat.le_succ _,?_,HK.out.2⟩;rw[H.out.2.2.1,H.out.2.2.2.1];exact HK.out.1
theorem zqfo(h:DmAt rb gm gM N e ms Ms w)(hw:who<N)(hN:N<=64){op:OpX}{b:Bool}(hM:Ms[who*2]?=some (.bool b))(hk:op.k=2)(hb:b=true):
 Calls Try.prog 14 #[.pointer (some ⟨rb,0,none⟩),.int .i64 who,op.val] w λe' w'=>zq24 rb gm gM N who e ms Ms op b w e' w':=by
 obtain⟨Z,hZ⟩:∃Z,w.heap.size=Z:=⟨_,rfl⟩;have hg:¬bgEnd op b:=by unfold bgEnd;first|(simp only[hb];omega)|(simp[hb];omega)|simp[hb,hk]|omega
 have hres:bgK op b=bgK0 op:=if_neg hg;have hresM:bgM who op b Ms=Ms.setIfInBounds (who*2) (.bool false):=if_pos ⟨hk,hb⟩;have g1:¬(who:Int)<0:=by omega
 have g2:(who:Int)<(N:Int):=by omega
 have g3:¬(N:Int)<=(who:Int):=by omega
 have g4:(0:Int)<=(who:Int):=by omega
 have H:=Lib.hid (And.intro h (And.intro hZ (And.intro hres (And.intro hresM hM))));have HKK:=Lib.hid hk;have HBB:=Lib.hid hb;clear h hM hw hres hresM hg hk hb;unfold OpX.val
 go_enter Try.func14,Try.ntmps14
 show Code.wp Try.prog (.seq (headC (beT 0)) (.seq (headC (beT 1)) (beT 2))) _ _ _;obtain⟨R,hR⟩:∃R,beT 2=R:=⟨_,rfl⟩;rw[hR];obtain⟨u_,hu_⟩:∃c,headC (beT 0)=c:=⟨_,rfl⟩;have eu_:=hu_;rw[hu_];simp only[beT,headC,tailN,Try.f14,al_od]at eu_;subst eu_;clear hu_;obtain⟨u_,hu_⟩:∃c,headC (beT 1)=c:=⟨_,rfl⟩;have eu_:=hu_;rw[hu_];simp only[beT,headC,tailN,Try.f14,al_od]at eu_;subst eu_;clear hu_
 go_wp2_with (fail)
 have hs1:(w.alloc (.cells #[.int .i64 op.k,.int .i64 op.a,.int .i64 op.b,.int .i64 op.c] 44)).heap.size=Z+1:=by rw[zq3,hZ]
 try rw[hZ]
 try rw[hs1]
 have hk1:Tch (λb=>b=gM) w ((w.alloc (.cells #[.int .i64 op.k,.int .i64 op.a,.int .i64 op.b,.int .i64 op.c] 44)).alloc (.cells #[.int .i64 who,.int .i64 op.k,.int .i64 op.a,.int .i64 1,.int .i64 0,.int .i64 0,.bool false,.bool false,.int .i64 0,.slice none 0 0] 52)):=((Tch.refl (λb=>b=gM) w).al _).al _;have h2:DmAt rb gm gM N e ms Ms ((w.alloc (.cells #[.int .i64 op.k,.int .i64 op.a,.int .i64 op.b,.int .i64 op.c] 44)).alloc (.cells #[.int .i64 who,.int .i64 op.k,.int .i64 op.a,.int .i64 1,.int .i64 0,.int .i64 0,.bool false,.bool false,.int .i64 0,.slice none 0 0] 52)):=H.out.1.more λb hb=>by rw[zq6,if_neg (by rw[zq3];omega),zq6,if_neg (by omega)]
 have hd2:EcAt rb gm gM N (Z+1) who e ms Ms (bgK0 op) (.slice none 0 0) ((w.alloc (.cells #[.int .i64 op.k,.int .i64 op.a,.int .i64 op.b,.int .i64 op.c] 44)).alloc (.cells #[.int .i64 who,.int .i64 op.k,.int .i64 op.a,.int .i64 1,.int .i64 0,.int .i64 0,.bool false,.bool false,.int .i64 0,.slice none 0 0] 52)):=⟨h2,by rw[<-hs1];exact zqn _ _⟩;have hz:((w.alloc (.cells #[.int .i64 op.k,.int .i64 op.a,.int .i64 op.b,.int .i64 op.c] 44)).alloc (.cells #[.int .i64 who,.int .i64 op.k,.int .i64 op.a,.int .i64 1,.int .i64 0,.int .i64 0,.bool false,.bool false,.int .i64 0,.slice none 0 0] 52)).heap[Z]?=some (.cells #[.int .i64 op.k,.int .i64 op.a,.int .i64 op.b,.int .i64 op.c] 44):=zqm (by rw[<-hZ];exact zqn _ _);clear h2 hs1;generalize (w.alloc (.cells #[.int .i64 op.k,.int .i64 op.a,.int .i64 op.b,.int .i64 op.c] 44)).alloc (.cells #[.int .i64 who,.int .i64 op.k,.int .i64 op.a,.int .i64 1,.int .i64 0,.int .i64 0,.bool false,.bool false,.int .i64 0,.slice none 0 0] 52)=w2 at hk1 hd2 hz |-;have z0:w2.cell? ⟨Z,0,none⟩=some (.int .i64 op.k):=(zq0 hz).trans rfl;have d2:=hd2.d.c.2.2;have m1:w2.cell? ⟨gM,who*2,none⟩=some (.bool b):=(zq0 hd2.d.mem).trans H.out.2.2.2.2;have fM:=zq5 (off:=who*2) hd2.d.mem;have hk:=HKK.out;have hb:=HBB.out;rw[hk]at z0;rw[hb]at m1;have HK:=Lib.hid (And.intro hd2 hk1);clear hz;rw[<-hR];clear hR R;simp only[beT,headC,tailN,Try.f14,al_od];have HE:=Lib.hid (zq1j hd2.c false 0);clear hd2 hk1
 go_wp2_with (fail)
 go_ret;refine⟨Z+1,rfl,by rw[hZ];exact Nat.le_succ _,?_,HK.out.2.set rfl _ _⟩;rw[H.out.2.2.1,H.out.2.2.2.1];exact HK.out.1.setI (who*2) (.bool false)
theorem zqfp(h:DmAt rb gm gM N e ms Ms w)(hw:who<N)(hN:N<=64){op:OpX}{b:Bool}(hM:Ms[who*2]?=some (.bool b))(hk:op.k=2)(hb:b=false):
 Calls Try.prog 14 #[.pointer (some ⟨rb,0,none⟩),.int .i64 who,op.val] w λe' w'=>zq24 rb gm gM N who e ms Ms op b w e' w':=by
 obtain⟨Z,hZ⟩:∃Z,w.heap.size=Z:=⟨_,rfl⟩;have hg:bgEnd op b:=by unfold bgEnd;first|(simp only[hb];omega)|(simp[hb];omega)|simp[hb,hk]|omega
 have hres:bgK op b=(bgK0 op).fin false 0:=if_pos hg;have hresM:bgM who op b Ms=Ms:=if_neg (by first|(simp only[hb];omega)|(simp[hb];omega)|simp[hb]|omega);have g1:¬(who:Int)<0:=by omega
 have g2:(who:Int)<(N:Int):=by omega
 have g3:¬(N:Int)<=(who:Int):=by omega
 have g4:(0:Int)<=(who:Int):=by omega
 have H:=Lib.hid (And.intro h (And.intro hZ (And.intro hres (And.intro hresM hM))));have HKK:=Lib.hid hk;have HBB:=Lib.hid hb;clear h hM hw hres hresM hg hk hb;unfold OpX.val
 go_enter Try.func14,Try.ntmps14
 show Code.wp Try.prog (.seq (headC (beT 0)) (.seq (headC (beT 1)) (beT 2))) _ _ _;obtain⟨R,hR⟩:∃R,beT 2=R:=⟨_,rfl⟩;rw[hR];obtain⟨u_,hu_⟩:∃c,headC (beT 0)=c:=⟨_,rfl⟩;have eu_:=hu_;rw[hu_];simp only[beT,headC,tailN,Try.f14,al_od]at eu_;subst eu_;clear hu_;obtain⟨u_,hu_⟩:∃c,headC (beT 1)=c:=⟨_,rfl⟩;have eu_:=hu_;rw[hu_];simp only[beT,headC,tailN,Try.f14,al_od]at eu_;subst eu_;clear hu_
 go_wp2_with (fail)
 have hs1:(w.alloc (.cells #[.int .i64 op.k,.int .i64 op.a,.int .i64 op.b,.int .i64 op.c] 44)).heap.size=Z+1:=by rw[zq3,hZ]
 try rw[hZ]
 try rw[hs1]
 have hk1:Tch (λb=>b=gM) w ((w.alloc (.cells #[.int .i64 op.k,.int .i64 op.a,.int .i64 op.b,.int .i64 op.c] 44)).alloc (.cells #[.int .i64 who,.int .i64 op.k,.int .i64 op.a,.int .i64 1,.int .i64 0,.int .i64 0,.bool false,.bool false,.int .i64 0,.slice none 0 0] 52)):=((Tch.refl (λb=>b=gM) w).al _).al _;have h2:DmAt rb gm gM N e ms Ms ((w.alloc (.cells #[.int .i64 op.k,.int .i64 op.a,.int .i64 op.b,.int .i64 op.c] 44)).alloc (.cells #[.int .i64 who,.int .i64 op.k,.int .i64 op.a,.int .i64 1,.int .i64 0,.int .i64 0,.bool false,.bool false,.int .i64 0,.slice none 0 0] 52)):=H.out.1.more λb hb=>by rw[zq6,if_neg (by rw[zq3];omega),zq6,if_neg (by omega)]
 have hd2:EcAt rb gm gM N (Z+1) who e ms Ms (bgK0 op) (.slice none 0 0) ((w.alloc (.cells #[.int .i64 op.k,.int .i64 op.a,.int .i64 op.b,.int .i64 op.c] 44)).alloc (.cells #[.int .i64 who,.int .i64 op.k,.int .i64 op.a,.int .i64 1,.int .i64 0,.int .i64 0,.bool false,.bool false,.int .i64 0,.slice none 0 0] 52)):=⟨h2,by rw[<-hs1];exact zqn _ _⟩;have hz:((w.alloc (.cells #[.int .i64 op.k,.int .i64 op.a,.int .i64 op.b,.int .i64 op.c] 44)).alloc (.cells #[.int .i64 who,.int .i64 op.k,.int .i64 op.a,.int .i64 1,.int .i64 0,.int .i64 0,.bool false,.bool false,.int .i64 0,.slice none 0 0] 52)).heap[Z]?=some (.cells #[.int .i64 op.k,.int .i64 op.a,.int .i64 op.b,.int .i64 op.c] 44):=zqm (by rw[<-hZ];exact zqn _ _);clear h2 hs1;generalize (w.alloc (.cells #[.int .i64 op.k,.int .i64 op.a,.int .i64 op.b,.int .i64 op.c] 44)).alloc (.cells #[.int .i64 who,.int .i64 op.k,.int .i64 op.a,.int .i64 1,.int .i64 0,.int .i64 0,.bool false,.bool false,.int .i64 0,.slice none 0 0] 52)=w2 at hk1 hd2 hz |-;have z0:w2.cell? ⟨Z,0,none⟩=some (.int .i64 op.k):=(zq0 hz).trans rfl;have d2:=hd2.d.c.2.2;have m1:w2.cell? ⟨gM,who*2,none⟩=some (.bool b):=(zq0 hd2.d.mem).trans H.out.2.2.2.2;have fM:=zq5 (off:=who*2) hd2.d.mem;have hk:=HKK.out;have hb:=HBB.out;rw[hk]at z0;rw[hb]at m1;have HK:=Lib.hid (And.intro hd2 hk1);clear hz;rw[<-hR];clear hR R;simp only[beT,headC,tailN,Try.f14,al_od];have HE:=Lib.hid (zq1j hd2.c false 0);clear hd2 hk1
 go_wp2_with (fail)
 refine Calls.mono HE.out ?_;rintro e' w' ⟨rfl,k3,k4⟩;have H3:=Lib.hid (And.intro k3 k4);clear k3 k4 z0 d2 m1 fM;go_wp2;go_ret;refine⟨Z+1,rfl,by rw[hZ];exact Nat.le_succ _,?_,HK.out.2.fresh H3.out.2 (by rw[hZ];exact Nat.le_succ _)⟩;rw[H.out.2.2.1,H.out.2.2.2.1];exact HK.out.1.fin H3.out.2 H3.out.1
theorem zqfq(h:DmAt rb gm gM N e ms Ms w)(hw:who<N)(hN:N<=64){op:OpX}{b:Bool}(hM:Ms[who*2]?=some (.bool b))(hk:op.k=3):
 Calls Try.prog 14 #[.pointer (some ⟨rb,0,none⟩),.int .i64 who,op.val] w λe' w'=>zq24 rb gm gM N who e ms Ms op b w e' w':=by
 obtain⟨Z,hZ⟩:∃Z,w.heap.size=Z:=⟨_,rfl⟩;have hb:b=b:=rfl;have hg:¬bgEnd op b:=by unfold bgEnd;first|(simp only[hb];omega)|(simp[hb];omega)|simp[hb,hk]|omega
 have hres:bgK op b=bgK0 op:=if_neg hg;have hresM:bgM who op b Ms=Ms:=if_neg (by first|(simp only[hb];omega)|(simp[hb];omega)|simp[hb]|omega);have g1:¬(who:Int)<0:=by omega
 have g2:(who:Int)<(N:Int):=by omega
 have g3:¬(N:Int)<=(who:Int):=by omega
 have g4:(0:Int)<=(who:Int):=by omega
 have H:=Lib.hid (And.intro h (And.intro hZ (And.intro hres (And.intro hresM hM))));have HKK:=Lib.hid hk;have HBB:=Lib.hid hb;clear h hM hw hres hresM hg hk hb;unfold OpX.val
 go_enter Try.func14,Try.ntmps14
 show Code.wp Try.prog (.seq (headC (beT 0)) (.seq (headC (beT 1)) (beT 2))) _ _ _;obtain⟨R,hR⟩:∃R,beT 2=R:=⟨_,rfl⟩;rw[hR];obtain⟨u_,hu_⟩:∃c,headC (beT 0)=c:=⟨_,rfl⟩;have eu_:=hu_;rw[hu_];simp only[beT,headC,tailN,Try.f14,al_od]at eu_;subst eu_;clear hu_;obtain⟨u_,hu_⟩:∃c,headC (beT 1)=c:=⟨_,rfl⟩;have eu_:=hu_;rw[hu_];simp only[beT,headC,tailN,Try.f14,al_od]at eu_;subst eu_;clear hu_
 go_wp2_with (fail)
 have hs1:(w.alloc (.cells #[.int .i64 op.k,.int .i64 op.a,.int .i64 op.b,.int .i64 op.c] 44)).heap.size=Z+1:=by rw[zq3,hZ]
 try rw[hZ]
 try rw[hs1]
 have hk1:Tch (λb=>b=gM) w ((w.alloc (.cells #[.int .i64 op.k,.int .i64 op.a,.int .i64 op.b,.int .i64 op.c] 44)).alloc (.cells #[.int .i64 who,.int .i64 op.k,.int .i64 op.a,.int .i64 1,.int .i64 0,.int .i64 0,.bool false,.bool false,.int .i64 0,.slice none 0 0] 52)):=((Tch.refl (λb=>b=gM) w).al _).al _;have h2:DmAt rb gm gM N e ms Ms ((w.alloc (.cells #[.int .i64 op.k,.int .i64 op.a,.int .i64 op.b,.int .i64 op.c] 44)).alloc (.cells #[.int .i64 who,.int .i64 op.k,.int .i64 op.a,.int .i64 1,.int .i64 0,.int .i64 0,.bool false,.bool false,.int .i64 0,.slice none 0 0] 52)):=H.out.1.more λb hb=>by rw[zq6,if_neg (by rw[zq3];omega),zq6,if_neg (by omega)]
 have hd2:EcAt rb gm gM N (Z+1) who e ms Ms (bgK0 op) (.slice none 0 0) ((w.alloc (.cells #[.int .i64 op.k,.int .i64 op.a,.int .i64 op.b,.int .i64 op.c] 44)).alloc (.cells #[.int .i64 who,.int .i64 op.k,.int .i64 op.a,.int .i64 1,.int .i64 0,.int .i64 0,.bool false,.bool false,.int .i64 0,.slice none 0 0] 52)):=⟨h2,by rw[<-hs1];exact zqn _ _⟩;have hz:((w.alloc (.cells #[.int .i64 op.k,.int .i64 op.a,.int .i64 op.b,.int .i64 op.c] 44)).alloc (.cells #[.int .i64 who,.int .i64 op.k,.int .i64 op.a,.int .i64 1,.int .i64 0,.int .i64 0,.bool false,.bool false,.int .i64 0,.slice none 0 0] 52)).heap[Z]?=some (.cells #[.int .i64 op.k,.int .i64 op.a,.int .i64 op.b,.int .i64 op.c] 44):=zqm (by rw[<-hZ];exact zqn _ _);clear h2 hs1;generalize (w.alloc (.cells #[.int .i64 op.k,.int .i64 op.a,.int .i64 op.b,.int .i64 op.c] 44)).alloc (.cells #[.int .i64 who,.int .i64 op.k,.int .i64 op.a,.int .i64 1,.int .i64 0,.int .i64 0,.bool false,.bool false,.int .i64 0,.slice none 0 0] 52)=w2 at hk1 hd2 hz |-;have z0:w2.cell? ⟨Z,0,none⟩=some (.int .i64 op.k):=(zq0 hz).trans rfl;have d2:=hd2.d.c.2.2;have m1:w2.cell? ⟨gM,who*2,none⟩=some (.bool b):=(zq0 hd2.d.mem).trans H.out.2.2.2.2;have fM:=zq5 (off:=who*2) hd2.d.mem;have hk:=HKK.out;have hb:=HBB.out;rw[hk]at z0;have HK:=Lib.hid (And.intro hd2 hk1);clear hz;rw[<-hR];clear hR R;simp only[beT,headC,tailN,Try.f14,al_od];have HE:=Lib.hid (zq1j hd2.c false 0);clear hd2 hk1
 go_wp2_with (fail)
 go_ret;refine⟨Z+1,rfl,by rw[hZ];exact Nat.le_succ _,?_,HK.out.2⟩;rw[H.out.2.2.1,H.out.2.2.2.1];exact HK.out.1
theorem zqfr(h:DmAt rb gm gM N e ms Ms w)(hw:who<N)(hN:N<=64){op:OpX}{b:Bool}(hM:Ms[who*2]?=some (.bool b))(hk:op.k=4):
 Calls Try.prog 14 #[.pointer (some ⟨rb,0,none⟩),.int .i64 who,op.val] w λe' w'=>zq24 rb gm gM N who e ms Ms op b w e' w':=by
 obtain⟨Z,hZ⟩:∃Z,w.heap.size=Z:=⟨_,rfl⟩;have hb:b=b:=rfl;have hg:¬bgEnd op b:=by unfold bgEnd;first|(simp only[hb];omega)|(simp[hb];omega)|simp[hb,hk]|omega
 have hres:bgK op b=bgK0 op:=if_neg hg;have hresM:bgM who op b Ms=Ms:=if_neg (by first|(simp only[hb];omega)|(simp[hb];omega)|simp[hb]|omega);have g1:¬(who:Int)<0:=by omega
 have g2:(who:Int)<(N:Int):=by omega
 have g3:¬(N:Int)<=(who:Int):=by omega
 have g4:(0:Int)<=(who:Int):=by omega
 have H:=Lib.hid (And.intro h (And.intro hZ (And.intro hres (And.intro hresM hM))));have HKK:=Lib.hid hk;have HBB:=Lib.hid hb;clear h hM hw hres hresM hg hk hb;unfold OpX.val
 go_enter Try.func14,Try.ntmps14
 show Code.wp Try.prog (.seq (headC (beT 0)) (.seq (headC (beT 1)) (beT 2))) _ _ _;obtain⟨R,hR⟩:∃R,beT 2=R:=⟨_,rfl⟩;rw[hR];obtain⟨u_,hu_⟩:∃c,headC (beT 0)=c:=⟨_,rfl⟩;have eu_:=hu_;rw[hu_];simp only[beT,headC,tailN,Try.f14,al_od]at eu_;subst eu_;clear hu_;obtain⟨u_,hu_⟩:∃c,headC (beT 1)=c:=⟨_,rfl⟩;have eu_:=hu_;rw[hu_];simp only[beT,headC,tailN,Try.f14,al_od]at eu_;subst eu_;clear hu_
 go_wp2_with (fail)
 have hs1:(w.alloc (.cells #[.int .i64 op.k,.int .i64 op.a,.int .i64 op.b,.int .i64 op.c] 44)).heap.size=Z+1:=by rw[zq3,hZ]
 try rw[hZ]
 try rw[hs1]
 have hk1:Tch (λb=>b=gM) w ((w.alloc (.cells #[.int .i64 op.k,.int .i64 op.a,.int .i64 op.b,.int .i64 op.c] 44)).alloc (.cells #[.int .i64 who,.int .i64 op.k,.int .i64 op.a,.int .i64 1,.int .i64 0,.int .i64 0,.bool false,.bool false,.int .i64 0,.slice none 0 0] 52)):=((Tch.refl (λb=>b=gM) w).al _).al _;have h2:DmAt rb gm gM N e ms Ms ((w.alloc (.cells #[.int .i64 op.k,.int .i64 op.a,.int .i64 op.b,.int .i64 op.c] 44)).alloc (.cells #[.int .i64 who,.int .i64 op.k,.int .i64 op.a,.int .i64 1,.int .i64 0,.int .i64 0,.bool false,.bool false,.int .i64 0,.slice none 0 0] 52)):=H.out.1.more λb hb=>by rw[zq6,if_neg (by rw[zq3];omega),zq6,if_neg (by omega)]
 have hd2:EcAt rb gm gM N (Z+1) who e ms Ms (bgK0 op) (.slice none 0 0) ((w.alloc (.cells #[.int .i64 op.k,.int .i64 op.a,.int .i64 op.b,.int .i64 op.c] 44)).alloc (.cells #[.int .i64 who,.int .i64 op.k,.int .i64 op.a,.int .i64 1,.int .i64 0,.int .i64 0,.bool false,.bool false,.int .i64 0,.slice none 0 0] 52)):=⟨h2,by rw[<-hs1];exact zqn _ _⟩;have hz:((w.alloc (.cells #[.int .i64 op.k,.int .i64 op.a,.int .i64 op.b,.int .i64 op.c] 44)).alloc (.cells #[.int .i64 who,.int .i64 op.k,.int .i64 op.a,.int .i64 1,.int .i64 0,.int .i64 0,.bool false,.bool false,.int .i64 0,.slice none 0 0] 52)).heap[Z]?=some (.cells #[.int .i64 op.k,.int .i64 op.a,.int .i64 op.b,.int .i64 op.c] 44):=zqm (by rw[<-hZ];exact zqn _ _);clear h2 hs1;generalize (w.alloc (.cells #[.int .i64 op.k,.int .i64 op.a,.int .i64 op.b,.int .i64 op.c] 44)).alloc (.cells #[.int .i64 who,.int .i64 op.k,.int .i64 op.a,.int .i64 1,.int .i64 0,.int .i64 0,.bool false,.bool false,.int .i64 0,.slice none 0 0] 52)=w2 at hk1 hd2 hz |-;have z0:w2.cell? ⟨Z,0,none⟩=some (.int .i64 op.k):=(zq0 hz).trans rfl;have d2:=hd2.d.c.2.2;have m1:w2.cell? ⟨gM,who*2,none⟩=some (.bool b):=(zq0 hd2.d.mem).trans H.out.2.2.2.2;have fM:=zq5 (off:=who*2) hd2.d.mem;have hk:=HKK.out;have hb:=HBB.out;rw[hk]at z0;have HK:=Lib.hid (And.intro hd2 hk1);clear hz;rw[<-hR];clear hR R;simp only[beT,headC,tailN,Try.f14,al_od];have HE:=Lib.hid (zq1j hd2.c false 0);clear hd2 hk1
 go_wp2_with (fail)
 go_ret;refine⟨Z+1,rfl,by rw[hZ];exact Nat.le_succ _,?_,HK.out.2⟩;rw[H.out.2.2.1,H.out.2.2.2.1];exact HK.out.1
theorem zqfs(h:DmAt rb gm gM N e ms Ms w)(hw:who<N)(hN:N<=64){op:OpX}{b:Bool}(hM:Ms[who*2]?=some (.bool b))(hk:op.k=5):
 Calls Try.prog 14 #[.pointer (some ⟨rb,0,none⟩),.int .i64 who,op.val] w λe' w'=>zq24 rb gm gM N who e ms Ms op b w e' w':=by
 obtain⟨Z,hZ⟩:∃Z,w.heap.size=Z:=⟨_,rfl⟩;have hb:b=b:=rfl;have hg:¬bgEnd op b:=by unfold bgEnd;first|(simp only[hb];omega)|(simp[hb];omega)|simp[hb,hk]|omega
 have hres:bgK op b=bgK0 op:=if_neg hg;have hresM:bgM who op b Ms=Ms:=if_neg (by first|(simp only[hb];omega)|(simp[hb];omega)|simp[hb]|omega);have g1:¬(who:Int)<0:=by omega
 have g2:(who:Int)<(N:Int):=by omega
 have g3:¬(N:Int)<=(who:Int):=by omega
 have g4:(0:Int)<=(who:Int):=by omega
 have H:=Lib.hid (And.intro h (And.intro hZ (And.intro hres (And.intro hresM hM))));have HKK:=Lib.hid hk;have HBB:=Lib.hid hb;clear h hM hw hres hresM hg hk hb;unfold OpX.val
 go_enter Try.func14,Try.ntmps14
 show Code.wp Try.prog (.seq (headC (beT 0)) (.seq (headC (beT 1)) (beT 2))) _ _ _;obtain⟨R,hR⟩:∃R,beT 2=R:=⟨_,rfl⟩;rw[hR];obtain⟨u_,hu_⟩:∃c,headC (beT 0)=c:=⟨_,rfl⟩;have eu_:=hu_;rw[hu_];simp only[beT,headC,tailN,Try.f14,al_od]at eu_;subst eu_;clear hu_;obtain⟨u_,hu_⟩:∃c,headC (beT 1)=c:=⟨_,rfl⟩;have eu_:=hu_;rw[hu_];simp only[beT,headC,tailN,Try.f14,al_od]at eu_;subst eu_;clear hu_
 go_wp2_with (fail)
 have hs1:(w.alloc (.cells #[.int .i64 op.k,.int .i64 op.a,.int .i64 op.b,.int .i64 op.c] 44)).heap.size=Z+1:=by rw[zq3,hZ]
 try rw[hZ]
 try rw[hs1]
 have hk1:Tch (λb=>b=gM) w ((w.alloc (.cells #[.int .i64 op.k,.int .i64 op.a,.int .i64 op.b,.int .i64 op.c] 44)).alloc (.cells #[.int .i64 who,.int .i64 op.k,.int .i64 op.a,.int .i64 1,.int .i64 0,.int .i64 0,.bool false,.bool false,.int .i64 0,.slice none 0 0] 52)):=((Tch.refl (λb=>b=gM) w).al _).al _;have h2:DmAt rb gm gM N e ms Ms ((w.alloc (.cells #[.int .i64 op.k,.int .i64 op.a,.int .i64 op.b,.int .i64 op.c] 44)).alloc (.cells #[.int .i64 who,.int .i64 op.k,.int .i64 op.a,.int .i64 1,.int .i64 0,.int .i64 0,.bool false,.bool false,.int .i64 0,.slice none 0 0] 52)):=H.out.1.more λb hb=>by rw[zq6,if_neg (by rw[zq3];omega),zq6,if_neg (by omega)]
 have hd2:EcAt rb gm gM N (Z+1) who e ms Ms (bgK0 op) (.slice none 0 0) ((w.alloc (.cells #[.int .i64 op.k,.int .i64 op.a,.int .i64 op.b,.int .i64 op.c] 44)).alloc (.cells #[.int .i64 who,.int .i64 op.k,.int .i64 op.a,.int .i64 1,.int .i64 0,.int .i64 0,.bool false,.bool false,.int .i64 0,.slice none 0 0] 52)):=⟨h2,by rw[<-hs1];exact zqn _ _⟩;have hz:((w.alloc (.cells #[.int .i64 op.k,.int .i64 op.a,.int .i64 op.b,.int .i64 op.c] 44)).alloc (.cells #[.int .i64 who,.int .i64 op.k,.int .i64 op.a,.int .i64 1,.int .i64 0,.int .i64 0,.bool false,.bool false,.int .i64 0,.slice none 0 0] 52)).heap[Z]?=some (.cells #[.int .i64 op.k,.int .i64 op.a,.int .i64 op.b,.int .i64 op.c] 44):=zqm (by rw[<-hZ];exact zqn _ _);clear h2 hs1;generalize (w.alloc (.cells #[.int .i64 op.k,.int .i64 op.a,.int .i64 op.b,.int .i64 op.c] 44)).alloc (.cells #[.int .i64 who,.int .i64 op.k,.int .i64 op.a,.int .i64 1,.int .i64 0,.int .i64 0,.bool false,.bool false,.int .i64 0,.slice none 0 0] 52)=w2 at hk1 hd2 hz |-;have z0:w2.cell? ⟨Z,0,none⟩=some (.int .i64 op.k):=(zq0 hz).trans rfl;have d2:=hd2.d.c.2.2;have m1:w2.cell? ⟨gM,who*2,none⟩=some (.bool b):=(zq0 hd2.d.mem).trans H.out.2.2.2.2;have fM:=zq5 (off:=who*2) hd2.d.mem;have hk:=HKK.out;have hb:=HBB.out;rw[hk]at z0;have HK:=Lib.hid (And.intro hd2 hk1);clear hz;rw[<-hR];clear hR R;simp only[beT,headC,tailN,Try.f14,al_od];have HE:=Lib.hid (zq1j hd2.c false 0);clear hd2 hk1
 go_wp2_with (fail)
 go_ret;refine⟨Z+1,rfl,by rw[hZ];exact Nat.le_succ _,?_,HK.out.2⟩;rw[H.out.2.2.1,H.out.2.2.2.1];exact HK.out.1
theorem zqft(h:DmAt rb gm gM N e ms Ms w)(hw:who<N)(hN:N<=64){op:OpX}{b:Bool}(hM:Ms[who*2]?=some (.bool b)):
 Calls Try.prog 14 #[.pointer (some ⟨rb,0,none⟩),.int .i64 who,op.val] w λe' w'=>zq24 rb gm gM N who e ms Ms op b w e' w':=by
 by_cases h1:op.k<1
 . exact zqfk h hw hN hM h1
 by_cases h2:5<op.k
 . exact zqfl h hw hN hM h2
 obtain k|k|k|k|k:op.k=1\/op.k=2\/op.k=3\/op.k=4\/op.k=5:=by omega
 . cases hb:b with
   |true=>subst hb;exact zqfm h hw hN hM k rfl
   |false=>subst hb;exact zqfn h hw hN hM k rfl
 . cases hb:b with
   |true=>subst hb;exact zqfo h hw hN hM k rfl
   |false=>subst hb;exact zqfp h hw hN hM k rfl
 . exact zqfq h hw hN hM k
 . exact zqfr h hw hN hM k
 . exact zqfs h hw hN hM k
end
structure CoR(w:World)(cb who:Nat)(K:CR)(e:Int)(l:List (Int×Int))(dv lv:Value)(wr:World):Prop where
 be:Tch (λb=>b=cb) w wr
 c:CrAt cb who K dv wr
 done:wr.ownsRow w.heap.size 2 1 dv (doneL e l).length ((doneL e l).map (Value.int .i64))
 left:wr.ownsRow w.heap.size 117 2 lv (leftL e l).length (thC (leftL e l))
section
variable {w wr:World} {cb who:Nat} {K:CR} {e:Int} {l:List (Int×Int)} {dv lv:Value}
theorem CoR.more (h:CoR w cb who K e l dv lv wr){w':World}(hs:wr.heap.size<=w'.heap.size)(ho:∀b,b<wr.heap.size->w'.heap[b]?=wr.heap[b]?):CoR w cb who K e l dv lv w':=
 ⟨h.be.trans ⟨hs,λb hb _=>ho b hb⟩,(ho _ (zqg h.c)).trans h.c,zq17 h.done λg hg=>ho g (own_lt h.done hg).2.2,zq17 h.left λg hg=>ho g (own_lt h.left hg).2.2⟩
theorem CoR.drew (h:CoR w cb who K e l dv lv wr)(n:Nat):CoR w cb who K e l dv lv (wr.drewN n):=h.more (Nat.le_refl _) λ_ _=>rfl
theorem CoR.hit {l':List (Int×Int)}{x:Int}{W w7:World}{g7 n cap7:Nat}(h:CoR w cb who K e l dv lv wr)(hcb:cb<w.heap.size)(h1:doneL e l'=doneL e l++[x])(h2:leftL e l'=leftL e l)
 (hW:∀b,b<wr.heap.size->W.heap[b]?=wr.heap[b]?) (hWs:wr.heap.size<=W.heap.size)
 (ho:w7.ownsRow w.heap.size 2 1 (.slice (some ⟨g7,0,none⟩) n cap7) (doneL e l').length ((doneL e l').map (Value.int .i64))) (hg:W.grownBy w7 dv.ownBlock):CoR w cb who K e l' (.slice (some ⟨g7,0,none⟩) n cap7) lv (w7.setCell ⟨cb,9,none⟩ (.slice (some ⟨g7,0,none⟩) n cap7)):=by
 have hs7:=hg.size;have hk:∀b,b<wr.heap.size->dv.ownBlock≠some b->w7.heap[b]?=wr.heap[b]?:=λb hb hn=>(hg.block b (by omega) λe=>hn e.symm).trans (hW b hb);have hc7:CrAt cb who K dv w7:=(hk cb (zqg h.c) (λe=>by have:=(own_lt h.done e).2.1;omega)).trans h.c;have hgc:∀b,(Value.slice (some ⟨g7,0,none⟩) n cap7).ownBlock=some b->b≠cb:=λb hb e=>by have:=(own_lt ho hb).2.1;omega
 refine⟨?_,hc7.set 9 _ rfl,zq17 ho λg hg'=>zqh _ _ _ _ (hgc g hg'),?_⟩
 . have h77:Tch (λb=>b=cb) w w7:=⟨by have:=h.be.size;omega,λb hb hs=>(hk b (Nat.lt_of_lt_of_le hb h.be.size) (λe=>by have:=(own_lt h.done e).2.1;omega)).trans (h.be.old b hb hs)⟩;exact h77.set rfl _ _
 . rw[h2];refine zq17 h.left λb hb=>?_;obtain⟨⟨cc,hcc⟩,hlo,hlt⟩:=own_lt h.left hb;rw[zqh _ _ _ _ (by show b≠cb;omega)];exact hk b hlt (zq1p h.done hcc (by decide))
theorem CoR.miss {l':List (Int×Int)}{x:Int×Int}{W w7:World}{g7 n cap7:Nat}(h:CoR w cb who K e l dv lv wr)(hcb:cb<w.heap.size)(h1:doneL e l'=doneL e l)(h2:leftL e l'=leftL e l++[x])
 (hW:∀b,b<wr.heap.size->W.heap[b]?=wr.heap[b]?) (hWs:wr.heap.size<=W.heap.size)
 (ho:w7.ownsRow w.heap.size 117 2 (.slice (some ⟨g7,0,none⟩) n cap7) (leftL e l').length (thC (leftL e l'))) (hg:W.grownBy w7 lv.ownBlock):CoR w cb who K e l' dv (.slice (some ⟨g7,0,none⟩) n cap7) w7:=by
 have hs7:=hg.size;have hk:∀b,b<wr.heap.size->lv.ownBlock≠some b->w7.heap[b]?=wr.heap[b]?:=λb hb hn=>(hg.block b (by omega) λe=>hn e.symm).trans (hW b hb);refine⟨⟨by have:=h.be.size;omega,λb hb hs=>?_⟩,(hk cb (zqg h.c) (λe=>by have:=(own_lt h.left e).2.1;omega)).trans h.c,?_,ho⟩
 . exact(hk b (Nat.lt_of_lt_of_le hb h.be.size) (λe=>by have:=(own_lt h.left e).2.1;omega)).trans (h.be.old b hb hs)
 . rw[h1];refine zq17 h.done λb hb=>?_;obtain⟨⟨cc,hcc⟩,hlo,hlt⟩:=own_lt h.done hb;exact hk b hlt (zq1p h.left hcc (by decide))
end
section
variable {cb who:Nat} {K:CR} {lv:Value} {w:World} {rb gm gM N:Nat} {e:Int} {ms Ms:Array Value}
def CoPost(rb gm gM N cb who:Nat)(e:Int)(ms Ms:Array Value)(K:CR)(l:List (Int×Int))(w:World)(e':Ending)(w':World):Prop:=
 e'=.returned (.tuple #[])/\∃dv hv,EcAt rb gm gM N cb who e ms (Ms.setIfInBounds (who*2+1) hv) (K.fin true 0) dv w'/\w'.ownsRow w.heap.size 2 1 dv (doneL e l).length ((doneL e l).map (Value.int .i64))/\w'.ownsRow w.heap.size 117 2 hv (leftL e l).length (thC (leftL e l))/\Tch (TcE gm gM cb rb) w w'
theorem zqfu(h:EcAt rb gm gM N cb who e ms Ms K (.slice none 0 0) w)(hw:who<N)(hN:N<=64){p:Option Addr}{C:Nat}{l:List (Int×Int)}(hM:Ms[who*2+1]?=some (.slice p l.length C))(hl:l.length<=1048576)
 (hx:∀j x,l[j]?=some x->∃g,p=some ⟨g,0,none⟩/\g≠cb/\w.cell? ⟨g,j*2,none⟩=some (.int .i64 x.1)/\w.cell? ⟨g,j*2+1,none⟩=some (.int .i64 x.2)):
 Calls Try.prog 44 #[.pointer (some ⟨rb,0,none⟩),.pointer (some ⟨cb,0,none⟩)] w λe' w'=>CoPost rb gm gM N cb who e ms Ms K l w e' w':=by
 obtain⟨n1,n2,n3,n4,n5,n6⟩:=h.ne;obtain⟨d0,d1,d2⟩:=h.d.c;obtain⟨c0,-,-,-,-,-,-,-,-,c9⟩:=h.c.c;have m1:w.cell? ⟨gM,who*2+1,none⟩=some (.slice p l.length C):=(zq0 h.d.mem).trans hM;have g1:¬(who:Int)<0:=by omega
 have g2:(who:Int)<(N:Int):=by omega
 have g3:¬(N:Int)<=(who:Int):=by omega
 have g4:(0:Int)<=(who:Int):=by omega
 have hcb:cb<w.heap.size:=zqg h.c;have h0:RowKit.Hid (CoR w cb who K e (l.take 0) (.slice none 0 0) (.slice none 0 0) w):=Lib.hid ⟨Tch.refl _ w,h.c,World.ownsRow_nil _ _ _ _,World.ownsRow_nil _ _ _ _⟩;have H:=Lib.hid (And.intro h (And.intro hM (And.intro hl hcb)));have HT:=Lib.hid hx;have HNE:=Lib.hid (And.intro n1 (And.intro n2 (And.intro n3 (And.intro n4 (And.intro n5 n6)))));clear h hM hx hcb n1 n2 n3 n4 n5 n6;obtain⟨L,hL⟩:∃L,l.length=L:=⟨_,rfl⟩;rw[hL]at m1 hl
 go_enter Try.func44,Try.ntmps44
 go_wp2_with (fail)
 go_quiet (fail)
 have hq0:RowKit.Hid (CoR w cb who K e (l.take 0) (.slice none 0 0) (.slice none 0 0) (w.drewN nq)):=Lib.hid (h0.out.drew nq);clear h0 d0 d1 d2 c0 c9 m1
 go_wp2_with (fail)
 go_loopg [4,6] L (λq s4 s6 wr=>∃(j:Nat)(dv lv:Value),lv=s4/\s6=.int .i64 j/\q=L - j/\j<=L/\CoR w cb who K e (l.take j) dv lv wr)
 case atStart=>exact⟨0,_,_,rfl,rfl,rfl,Nat.zero_le _,hq0.out⟩
 case round=>
  obtain⟨j,dv,lv,rfl,rfl,hq,hj,hR⟩:=hrel;have hrb:wr.heap[rb]?=w.heap[rb]?:=hR.be.old rb (zqg H.out.1.d.dom) HNE.out.2.2.1;have d0:wr.cell? ⟨rb,0,none⟩=some (.int .i64 e):=(zq18 hrb).trans H.out.1.d.c.1;have HR:=Lib.hid (And.intro hR hrb);clear hR hrb
  by_cases hlt:j<L
  . have hlt':(j:Int)<(L:Int):=by omega
    have hj0:(0:Int)<=j:=by omega
    obtain⟨x,hxj⟩:∃x,l[j]?=some x:=⟨_,List.getElem?_eq_getElem (by omega)⟩;obtain⟨g,rfl,gne,t1,t2⟩:=HT.out j x hxj;have t1':wr.cell? ⟨g,j*2,none⟩=some (.int .i64 x.1):=(zq18 (HR.out.1.be.old g (cell_lt t1) gne)).trans t1;have t2':wr.cell? ⟨g,j*2+1,none⟩=some (.int .i64 x.2):=(zq18 (HR.out.1.be.old g (cell_lt t2) gne)).trans t2;have HJ:=Lib.hid (And.intro hxj (And.intro hlt hq));clear t1 t2 hxj hq gne
    by_cases hc:x.2<=wrap64 (e - 2)
    . have ho:oldT e x=true:=decide_eq_true hc;have HO:=Lib.hid (And.intro (zq7o HJ.out.1 ho) ho);clear ho;obtain⟨dp,dc,rfl,_⟩:=zq1q HR.out.1.done;obtain⟨DL,hDL⟩:∃x,doneL e (l.take j)=x:=⟨_,rfl⟩;obtain⟨dl,hdl⟩:∃x,DL.length=x:=⟨_,rfl⟩;have HLN:RowKit.Hid (dl<=1048576/\j<L):=Lib.hid ⟨by rw[<-hdl,<-hDL];exact Nat.le_trans (zq3f e _).1 (Nat.le_trans (by simp;omega) hl),HJ.out.2.1⟩;obtain⟨tj,htj,hy0,hy1,hy2⟩:∃ti,Try.prog.info? 2=some ti/\ti.zero=some (.int .i64 0)/\ti.size=1/\ti.bytes=8:=⟨_,rfl,rfl,rfl,rfl⟩;have hund:Try.prog.underlying 22=some (.slice 2):=by kernel_rfl
      have TJ:=Lib.hid (And.intro htj (And.intro hy0 (And.intro hy1 (And.intro hy2 hund))));clear htj hy0 hy1 hy2 hlt hund
      go_wp2_with (fail)
      go_quiet (fail)
      have hR5:=HR.out.1.drew nq;have d05:(wr.drewN nq).cell? ⟨rb,0,none⟩=some (.int .i64 e):=d0;have t15:(wr.drewN nq).cell? ⟨g,j*2,none⟩=some (.int .i64 x.1):=t1';have t25:(wr.drewN nq).cell? ⟨g,j*2+1,none⟩=some (.int .i64 x.2):=t2';clear d0 t1' t2';generalize wr.drewN nq=w5 at hR5 d05 t15 t25 |-;rw[hDL]at hR5;obtain⟨H5,hH5⟩:∃x,w5.heap.size=x:=⟨_,rfl⟩;have c9:w5.cell? ⟨cb,9,none⟩=some (.slice dp dl dc):=by rw[<-hdl];exact hR5.c.c.2.2.2.2.2.2.2.2.2
      have c9a:∀o:Obj,(w5.alloc o).cell? ⟨cb,9,none⟩=some (.slice dp dl dc):=λo=>by rw[<-hdl];exact(zq0 (zqm (o:=o) hR5.c)).trans rfl
      have t15a:∀o:Obj,(w5.alloc o).cell? ⟨g,j*2,none⟩=some (.int .i64 x.1):=λo=>(zq18 (by rw[zq6,if_neg (Nat.ne_of_lt (cell_lt t15))])).trans t15;have hrow:(w5.alloc (.cells #[.int .i64 x.1] 2)).drew.ownsRow w.heap.size 2 1 (.slice dp dl dc) dl (DL.map (Value.int .i64)):=by
       rw[<-hdl];have:=zq1s hR5.done (.cells #[.int .i64 x.1] 2);rw[hDL]at this;exact this
      have hnw:∀jj u,[Value.int .i64 x.1][jj]?=some u->(w5.alloc (.cells #[.int .i64 x.1] 2)).drew.cell? ((⟨H5,0,none⟩:Addr).add jj)=some u:=λjj u hj=>zq64 (w:=w5) (cs:=#[.int .i64 x.1]) (T:=2) hH5 jj u hj;have hvk:∀w2,((w5.alloc (.cells #[.int .i64 x.1] 2)).drew).grownBy w2 (Value.slice dp dl dc).ownBlock->w2.heap[cb]?=some (.cells (crC who K (.slice dp dl dc)) 52):=λw2 hg=>by
       have h1:(w5.alloc (.cells #[.int .i64 x.1] 2)).drew.heap[cb]?=some (.cells (crC who K (.slice dp dl dc)) 52):=by rw[<-hdl];exact zqm (o:=.cells #[.int .i64 x.1] 2) hR5.c
       refine(hg.block cb (zqg h1) (λe=>?_)).trans h1;have hh:=zq1p hrow h1 (by decide);exact hh e.symm
      have HX:=Lib.hid (And.intro hrow (And.intro hnw (And.intro hvk hH5)));have HR5:=Lib.hid (And.intro hR5 (And.intro hDL hdl));clear hrow hnw hvk hR5 d05 t25
      go_wp2_with (fail)
      go_region_law (first
       |(refine step_append_lies _ rfl (.tmp 40) (.tmp 46) 22 rfl w.heap.size 2 tj _ 1 8 TJ.out.2.2.2.2 TJ.out.1 TJ.out.2.1 TJ.out.2.2.1 TJ.out.2.2.2.1 rfl (by decide) (.slice dp dl dc) dl (DL.map (Value.int .i64)) rfl HX.out.1 ⟨H5,0,none⟩ 1 1 [.int .i64 x.1] rfl rfl HX.out.2.1 ?_ Nat.one_pos ?_ ?_ ?_ (H5+1) ?_ ?_
         . intro u hu;simp only[List.mem_cons,List.not_mem_nil,or_false]at hu;subst hu;rfl
         . have:=HLN.out.1;simp only[maxLen];omega
         . have:=HLN.out.1;omega
         . have h1:=HR5.out.1.be.size;show _<=(w5.alloc _).heap.size;rw[zq3];omega
         . show(w5.alloc _).heap.size=_;rw[zq3,HX.out.2.2.2]
         intro g7 cap7 w7 k1 k2 k3 k4;have HK:=Lib.hid (And.intro k1 k2);have cS:w7.cell? ⟨cb,9,none⟩=some (.slice dp dl dc):=(zq0 (HX.out.2.2.1 _ k2)).trans rfl;have fS:=zq5 (off:=9) (HX.out.2.2.1 _ k2);clear k1 k2 k3 k4))
      all_goals(
       have e1:doneL e (l.take (j+1))=DL++[x.1]:=HO.out.1.1.trans (by rw[HR5.out.2.1]);have ho':w7.ownsRow w.heap.size 2 1 (.slice (some ⟨g7,0,none⟩) (dl+1) cap7) (doneL e (l.take (j+1))).length ((doneL e (l.take (j+1))).map (Value.int .i64)):=by
        rw[e1,List.length_append,List.map_append,HR5.out.2.2];exact HK.out.1
       have hg':((w5.alloc (.cells #[.int .i64 x.1] 2)).drew).grownBy w7 (Value.slice dp DL.length dc).ownBlock:=by rw[HR5.out.2.2];exact HK.out.2
       have HR7:=Lib.hid (HR5.out.1.hit (l':=l.take (j+1)) H.out.2.2.2 HO.out.1.1 HO.out.1.2 (λb hb=>by show(w5.alloc _).heap[b]?=_;rw[zq6,if_neg (by omega)]) (by show _<=(w5.alloc _).heap.size;rw[zq3];omega) ho' hg');clear e1 ho' hg' cS fS HK HX HR5 c9 c9a t15 t15a;generalize w7.setCell ⟨cb,9,none⟩ (.slice (some ⟨g7,0,none⟩) (dl+1) cap7)=w8 at HR7 |-
       go_wp2_with (fail)
       go_roundg (L - (j+1))
       case measure=>have:=HJ.out.2.2;have:=HJ.out.2.1;omega
       case rel=>exact⟨j+1,_,_,rfl,congrArg (Value.int .i64) (by first|omega |(simp only[wrap64];omega)),rfl,HLN.out.2,HR7.out⟩)
    . have ho:oldT e x=false:=decide_eq_false hc;have HO:=Lib.hid (And.intro (zq7p HJ.out.1 ho) ho);clear ho;obtain⟨lp,lc,rfl,_⟩:=zq1q HR.out.1.left;obtain⟨DL,hDL⟩:∃x,leftL e (l.take j)=x:=⟨_,rfl⟩;obtain⟨dl,hdl⟩:∃x,DL.length=x:=⟨_,rfl⟩;have HLN:RowKit.Hid (dl<=1048576/\j<L):=Lib.hid ⟨by rw[<-hdl,<-hDL];exact Nat.le_trans (zq3f e _).2 (Nat.le_trans (by simp;omega) hl),HJ.out.2.1⟩;obtain⟨tj,htj,hy0,hy1,hy2⟩:∃ti,Try.prog.info? 117=some ti/\ti.zero=some (.agg #[.int .i64 0,.int .i64 0])/\ti.size=2/\ti.bytes=16:=⟨_,rfl,rfl,rfl,rfl⟩;have TJ:=Lib.hid (And.intro htj (And.intro hy0 (And.intro hy1 hy2)));clear htj hy0 hy1 hy2 hlt
      go_wp2_with (fail)
      go_quiet (fail)
      have hR5:=HR.out.1.drew nq;have d05:(wr.drewN nq).cell? ⟨rb,0,none⟩=some (.int .i64 e):=d0;have t15:(wr.drewN nq).cell? ⟨g,j*2,none⟩=some (.int .i64 x.1):=t1';have t25:(wr.drewN nq).cell? ⟨g,j*2+1,none⟩=some (.int .i64 x.2):=t2';clear d0 t1' t2';generalize wr.drewN nq=w5 at hR5 d05 t15 t25 |-;rw[hDL]at hR5;have hrow:∀o:Obj,(w5.alloc o).ownsRow w.heap.size 117 2 (.slice lp dl lc) dl (thC DL):=λo=>by
       rw[<-hdl];have:=zq1s hR5.left o;rw[hDL]at this;exact this
      obtain⟨H5,hH5⟩:∃x,w5.heap.size=x:=⟨_,rfl⟩;have hnw:∀jj u,[Value.int .i64 x.1,Value.int .i64 x.2][jj]?=some u->(w5.alloc (.cells #[.int .i64 x.1,.int .i64 x.2] 117)).cell? ((⟨H5,0,none⟩:Addr).add jj)=some u:=λjj u hj=>zq64 (w:=w5) (cs:=#[.int .i64 x.1,.int .i64 x.2]) (T:=117) hH5 jj u hj;have HX:=Lib.hid (And.intro hrow (And.intro hnw hH5));have HR5:=Lib.hid (And.intro hR5 (And.intro hDL hdl));clear hrow hnw hR5 d05
      try rw[hDL,hdl]
      go_wp2_with (at_builtin;go_loud (refine wpList_append_lies _ rfl (.tmp 51) (.tmp 56) 113 rfl w.heap.size 117 tj (.agg #[.int .i64 0,.int .i64 0]) 2 16 (by kernel_rfl) TJ.out.1 TJ.out.2.1 TJ.out.2.2.1 TJ.out.2.2.2 rfl (by decide) (.slice lp dl lc) dl (thC DL) rfl (HX.out.1 _) ⟨H5,0,none⟩ 1 1 [.int .i64 x.1,.int .i64 x.2] rfl rfl HX.out.2.1 (λu hu=>by simp only[List.mem_cons,List.not_mem_nil,or_false]at hu;rcases hu with rfl |rfl<;>rfl) (by decide) (by simp only[maxLen];have:=HLN.out.1;omega) (by have:=HLN.out.1;omega) (by rw[zq3];have:=HR5.out.1.be.size;omega) (H5+1) (by rw[zq3,HX.out.2.2]) ?next))
      case next=>
       intro g7 cap7 w7 k1 k2 k3 k4;have HK:=Lib.hid (And.intro k1 k2);clear k1 k2 k3 k4;have e1:leftL e (l.take (j+1))=DL++[x]:=HO.out.1.2.trans (by rw[HR5.out.2.1]);have ho':w7.ownsRow w.heap.size 117 2 (.slice (some ⟨g7,0,none⟩) (dl+1) cap7) (leftL e (l.take (j+1))).length (thC (leftL e (l.take (j+1)))):=by
        rw[e1,List.length_append,zq5k,HR5.out.2.2];exact HK.out.1
       have hg':(w5.alloc (.cells #[.int .i64 x.1,.int .i64 x.2] 117)).grownBy w7 (Value.slice lp DL.length lc).ownBlock:=by rw[HR5.out.2.2];exact HK.out.2
       have HR7:=Lib.hid (HR5.out.1.miss (l':=l.take (j+1)) H.out.2.2.2 HO.out.1.1 HO.out.1.2 (λb hb=>by rw[zq6,if_neg (by omega)]) (by rw[zq3];omega) ho' hg');clear e1 ho' hg' HK HX HR5 t15 t25
       go_wp2_with (fail)
       go_roundg (L - (j+1))
       case measure=>have:=HJ.out.2.2;have:=HJ.out.2.1;omega
       case rel=>exact⟨j+1,_,_,rfl,congrArg (Value.int .i64) (by first|omega |(simp only[wrap64];omega)),rfl,HLN.out.2,HR7.out⟩
  . have hjL:j=l.length:=by omega
    have hjL2:j=L:=by omega
    have e1:l.take j=l:=by rw[hjL];exact List.take_length
    rw[e1]at HR;have hjj:¬(j:Int)<(L:Int):=by omega
    obtain⟨lp,lc,rfl,_⟩:=zq1q HR.out.1.left;obtain⟨ls,hls⟩:∃x,(leftL e l).length=x:=⟨_,rfl⟩;rw[hls]at HR |-;have HLS:=Lib.hid hls;clear hls;have hd:DmAt rb gm gM N e ms Ms wr:=H.out.1.d.tch HR.out.1.be HNE.out.2.2.1 HNE.out.2.2.2.2.1 HNE.out.2.2.2.2.2;have hE:EcAt rb gm gM N cb who e ms Ms K dv wr:=⟨hd,HR.out.1.c⟩;have d2:=hd.c.2.2;have c0:=hE.c.c.1;have m1:wr.cell? ⟨gM,who*2+1,none⟩=some (.slice p l.length C):=(zq0 hd.mem).trans H.out.2.1;have fM:=zq5 (off:=who*2+1) hd.mem;have HE:=Lib.hid hE;clear hd hE hjL d0 hq0 hlt hj hq e1 hjL2
    go_wp2_with (fail)
    refine zq3b (k:=11) (C:=λw'=>∃n,w'=wr.drewN n) (by kernel_rfl) (by kernel_rfl) (by kernel_rfl) (by kernel_rfl) (by kernel_rfl) ⟨1,rfl⟩ ?_;simp only[List.take_succ_cons,List.take_zero]
    repeat (quiet_step (fail))
    refine wpQuiet_nil ?_;rintro _ ⟨nr,rfl⟩;refine zq2e (i:=11) (by kernel_rfl) ?_;simp only[wpOp,al_gl,al_g0,al_g1];rw[if_pos (by rfl)];refine .inl ?_;have fM':(wr.drewN nr).frozen? ⟨gM,who*2+1,none⟩=false:=fM;have m1':(wr.drewN nr).cell? ⟨gM,who*2+1,none⟩=some (.slice p l.length C):=m1;clear fM m1 d2 c0;go_simp;refine zq2d (by kernel_rfl) ?_;have h2:=(HE.out.drew nr).setI (who*2+1) (.slice lp ls lc);have k2:Tch (TcE gm gM cb rb) w ((wr.drewN nr).setCell ⟨gM,who*2+1,none⟩ (.slice lp ls lc)):=Tch.set (w:=wr.drewN nr) ((HR.out.1.be.mono λb hb=>.inr (.inr (.inl hb))).trans ⟨Nat.le_refl _,λ_ _ _=>rfl⟩) (b:=gM) (.inr (.inl rfl)) _ _;have r1:((wr.drewN nr).setCell ⟨gM,who*2+1,none⟩ (.slice lp ls lc)).ownsRow w.heap.size 2 1 dv (doneL e l).length ((doneL e l).map (Value.int .i64)):=zq17 HR.out.1.done λg hg=>zqh _ _ _ _ (by have:=(own_lt HR.out.1.done hg).2.1;have:=zqg H.out.1.d.mem;show g≠gM;omega);have r2:((wr.drewN nr).setCell ⟨gM,who*2+1,none⟩ (.slice lp ls lc)).ownsRow w.heap.size 117 2 (.slice lp ls lc) (leftL e l).length (thC (leftL e l)):=zq17 HR.out.1.left λg hg=>zqh _ _ _ _ (by have:=(own_lt HR.out.1.left hg).2.1;have:=zqg H.out.1.d.mem;show g≠gM;omega);clear fM' m1';generalize (wr.drewN nr).setCell ⟨gM,who*2+1,none⟩ (.slice lp ls lc)=w2 at h2 k2 r1 r2 |-;have HF:=Lib.hid (zq1j h2.c true 0);have H2:=Lib.hid (And.intro h2 (And.intro k2 (And.intro r1 r2)));clear h2 k2 r1 r2
    go_wp2_with (fail)
    refine Calls.mono HF.out ?_;rintro e' w' ⟨rfl,k3,k4⟩;have H3:=Lib.hid (And.intro k3 k4);clear k3 k4;go_wp2
    go_end0
    have hcb:=H.out.2.2.2;refine⟨rfl,dv,(.slice lp ls lc),H2.out.1.fin H3.out.2 H3.out.1,zq17 H2.out.2.2.1 λg hg=>H3.out.2.old g (own_lt H2.out.2.2.1 hg).2.2 (by have:=(own_lt H2.out.2.2.1 hg).2.1;omega),zq17 H2.out.2.2.2 λg hg=>H3.out.2.old g (own_lt H2.out.2.2.2 hg).2.2 (by have:=(own_lt H2.out.2.2.2 hg).2.1;omega),H2.out.2.1.trans (H3.out.2.mono λb hb=>.inr (.inr (.inl hb)))⟩
end
end Go.Proofs
