/- YtmgmbciplfkddaaESaf16: part 13 of the proof (the texts behind it, in order). -/
import Derived.Test.YtmgmbciplfkddaaS12
set_option maxHeartbeats 4000000
set_option maxRecDepth 100000
set_option linter.all false
namespace Go.Proofs
open Go Go.Conc Go.RowKit Go.Car
section
variable {Fin:Machine->Trace->Prop} {n:Nat} {b:Frame} {cs:List Frame} {kk:List Item} {W0:World} {T0:EpT} {wb vb:Nat} {mm:Int} {ap:Option Addr} {aL aC N db:Nat}
theorem zq3k(hFin:Back Try.prog Fin){id bid sl:Nat}{hR B sR L:Code}(hL:L=.seq (.seq hR (.cond (.tmp sl) .skip (.exit id))) (.seq (.block bid B) sR))(len:Nat)(Inv Mid:Nat->Array Value->World->Prop)
 (hhead:∀j T w kk,j<=len->Inv j T w->(∀(T':Array Value)w',T'[sl]?=some (Value.bool (decide ((j:Int)<(len:Int))))->Inv j T' w'->J0 Try.prog Fin n (G (b.at ⟨T',[]⟩ kk) cs) w')->J0 Try.prog Fin n (G (b.at ⟨T,[]⟩ (.code hR::kk)) cs) w)
 (hbody:∀j T w kk,j<len->Inv j T w->(∀(T':Array Value)w',Mid j T' w'->J0 Try.prog Fin n (G (b.at ⟨T',[]⟩ kk) cs) w')->J0 Try.prog Fin n (G (b.at ⟨T,[]⟩ (.code B::kk)) cs) w)
 (hstep:∀j T w kk,j<len->Mid j T w->(∀(T':Array Value)w',Inv (j+1) T' w'->J0 Try.prog Fin n (G (b.at ⟨T',[]⟩ kk) cs) w')->J0 Try.prog Fin n (G (b.at ⟨T,[]⟩ (.code sR::kk)) cs) w)
 (hexit:∀T w,Inv len T w->J0 Try.prog Fin n (G (b.at ⟨T,[]⟩ kk) cs) w):
 ∀(r j:Nat)(T:Array Value)(w:World),r+j=len->Inv j T w->J0 Try.prog Fin n (G (b.at ⟨T,[]⟩ (.code L::.inLoop L::.inBlock id::kk)) cs) w:=by
 have hJ:=j0_JS hFin;subst hL;intro r
 induction r with
 |zero=>
  intro j T w hj hI;obtain rfl:j=len:=by omega
  refine hJ.ctl (s:=n) (λw=>stepG_seq) ?_;refine hJ.ctl (s:=n) (λw=>stepG_seq) ?_;refine hhead j T w _ (Nat.le_refl _) hI ?_;intro T' w' hs hI';refine hJ.ctl (s:=n) (λw=>stepG_cond (t:=false) (by show T'.getD sl undef=_;rw[zqu hs];simp)) ?_;rw[if_neg (by decide)];refine hJ.ctl (s:=n) (λw=>stepG_exit (k':=kk) (by simp[exitTo])) ?_;exact hexit T' w' hI'
 |succ r ih=>
  intro j T w hj hI;refine hJ.ctl (s:=n) (λw=>stepG_seq) ?_;refine hJ.ctl (s:=n) (λw=>stepG_seq) ?_;refine hhead j T w _ (by omega) hI ?_;intro T' w' hs hI';refine hJ.ctl (s:=n) (λw=>stepG_cond (t:=true) (by show T'.getD sl undef=_;rw[zqu hs];simp;omega)) ?_;rw[if_pos rfl];refine hJ.ctl (s:=n) (λw=>stepG_skip) ?_;refine hJ.ctl (s:=n) (λw=>stepG_seq) ?_;refine hJ.ctl (s:=n) (λw=>stepG_block) ?_;refine hbody j T' w' _ (by omega) hI' ?_;intro T2 w2 hM;refine hJ.ctl (s:=n) (λw=>stepG_inBlock) ?_;refine hstep j T2 w2 _ (by omega) hM ?_;intro T3 w3 hI3;refine hJ.ctl (s:=n) (λw=>stepG_inLoop) ?_;exact ih (j+1) T3 w3 (by omega) hI3
theorem es_b0(hFin:Back Try.prog Fin)(hbk:b.kind=.normal)(hpos:0<T0.N){m:EpM}{tv:Value}{iv:Nat->Value}{W:SW}{T:Array Value}{w:World}{j c E:Nat}{acts:List (Int×OpX)}{x:Int×OpX}(hF:T=esF mm ap aL aC N db wb (λi=>T.getD i undef))(h9:T[9]?=some (.int .i64 (j:Int)))(hS:SAt W0 T0 m wb vb tv iv W w)(hI:SInv T0.N c E m.s W)(hc:c<=4294967295)(hA:zq2z W0 ap acts)(hl:acts.length=aL)(hx:acts[j]?=some x)
 (hq:∀(T1:Array Value)k op w',T1=esF mm ap aL aC N db wb (λi=>T1.getD i undef)->T1[9]?=some (.int .i64 (j:Int))->T1[50]?=some (.bool false)->SRes W0 T0 wb vb c W k op w'->J0 Try.prog Fin n (G (b.at ⟨T1,[]⟩ kk) cs) w'):J0 Try.prog Fin n (G (b.at ⟨T,[]⟩ (.code (headC (esB 0))::kk)) cs) w:=by
 have hJ:=j0_JS hFin;have hC:=zq15 hFin;have hbk':b.kind≠.early:=by rw[hbk];decide
 have hj:=(List.getElem?_eq_some_iff.1 hx).1;obtain⟨ab,ao,rfl,hcc⟩:=hA (λe=>by rw[e]at hx;simp at hx);obtain⟨c0,c1,c2,c3,c4⟩:=hcc j x hx;obtain⟨i,hi⟩:∃i:Int,(j:Int)=i:=⟨_,rfl⟩;have hj0:(0:Int)<=i:=by omega
 have hjl:i<(aL:Int):=by omega
 have hjn:i.toNat=j:=by omega
 have HQ:=Lib.hid hq;rw[hi]at h9 HQ;obtain⟨xw,xo⟩:=x;simp only at c0 c1 c2 c3 c4;clear hA hcc hx hl hj hq hi;obtain⟨v,hv0,hvv⟩:∃v,T=esF mm (some ⟨ab,ao,none⟩) aL aC N db wb v/\v=λi=>T.getD i undef:=⟨_,hF,rfl⟩;have e9:v 9=.int .i64 i:=by rw[hvv];exact zqu h9
 clear hF h9 hvv;subst hv0;unfold esF;rw[e9];clear e9;obtain⟨u_,hu_⟩:∃c,headC (esB 0)=c:=⟨_,rfl⟩;have eu_:=hu_;rw[hu_];simp only[esL,esH,esB,esS,esT,headC,tailN,sndC,zqj,loopC,condT,Try.f6,al_od]at eu_;subst eu_;clear hu_;refine hJ.ctl (s:=n) (λw=>stepG_region) ?_;refine zqg (s:=n) hbk' hJ (zqf _) false (.inr rfl) 0 5 2 rfl rfl rfl (by rfl) ?_;intro τ d;simp only[List.drop_succ_cons,List.drop_zero,List.take_succ_cons,List.take_zero];replace hS:=hS.re τ d;generalize re w τ d=w at hS |-;have d0:=hS.be.cell c0;have d1:=hS.be.cell c1;have d2:=hS.be.cell c2;have d3:=hS.be.cell c3;have d4:=hS.be.cell c4;clear c0 c1 c2 c3 c4;go_wp2;simp only[zq7];clear d0 d1 d2 d3 d4;refine zq14 hbk' hJ (s:=n) rfl rfl (f:=28) (args:=#[.pointer (some ⟨wb,0,none⟩),.agg #[.int .i64 xw,.int .i64 xo.k,.int .i64 xo.a,.int .i64 xo.b,.int .i64 xo.c]]) (λτ d=>?_) (λτ d=>?_) ?_
 . simp[go_sem,execOp,Act.eval,resolve,Deferred.ofValue,invoke,callFunc,Try.func28,Try.f28]
 . intro e he;simp[go_sem,execOp,Act.eval,resolve,Deferred.ofValue,invoke,callFunc,Try.func28,Try.f28,Sem.runT_eq]at he
 refine act_J (who:=xw) (op:=xo) hFin hS hI hpos hc ?_;intro k w1 hk _ hR;clear hS;rw[Frame.finish_at]
 walk_nrm
 have HR:=Lib.hid hR;clear hR;refine zqg (s:=n) hbk' hJ (zqf _) false (.inr rfl) 6 1 0 rfl rfl rfl (by rfl) ?_;intro τ d;simp only[List.drop_succ_cons,List.drop_zero,List.take_succ_cons,List.take_zero];have HR1:RowKit.Hid (SRes W0 T0 wb vb c W k xo (re w1 τ d)):=Lib.hid (by
  obtain⟨m',tv',iv',W',E',r1,r2⟩:=HR.out.ex;exact⟨m',tv',iv',W',E',r1.re τ d,r2⟩)
 generalize re w1 τ d=w2 at HR1 |-;go_wp2;simp only[zq7];refine hJ.ctl (s:=n) (λw=>stepG_region_end) ?_;exact HQ.out _ k xo w2 rfl rfl rfl HR1.out
theorem es_loop0(hFin:Back Try.prog Fin)(hbk:b.kind=.normal)(hpos:0<T0.N){acts:List (Int×OpX)}(hA:zq2z W0 ap acts)(hl:acts.length=aL)(hle:aL<=1048576){T:Array Value}{w:World}(hF:T=esF mm ap aL aC N db wb (λi=>T.getD i undef))(hst:(∃m tv iv W E,SAt W0 T0 m wb vb tv iv W w/\SInv T0.N 0 E m.s W))
 (hq:∀(T':Array Value)(w':World),T'=esF mm ap aL aC N db wb (λi=>T'.getD i undef)->(∃m tv iv W E,SAt W0 T0 m wb vb tv iv W w'/\SInv T0.N aL E m.s W)->J0 Try.prog Fin n (G (b.at ⟨T',[]⟩ kk) cs) w'):J0 Try.prog Fin n (G (b.at ⟨T,[]⟩ (.code (.seq (headC (headC (esT 6))) (.block 0 (.loop (esL 0))))::kk)) cs) w:=by
 have hJ:=j0_JS hFin;have hC:=zq15 hFin;have hbk':b.kind≠.early:=by rw[hbk];decide
 refine hJ.ctl (s:=n) (λw=>stepG_seq) ?_;refine zqv (s:=n) hJ hC zqk (by kernel_rfl) (λ(t:Array Value)(w':World)=>t=esF mm ap aL aC N db wb (λi=>t.getD i undef)/\t[9]?=some (Value.int .i64 0)/\∃τ d,w'=re w τ d) (λt w' τ d h=>by obtain⟨h1,h2,τ',d',rfl⟩:=h;exact⟨h1,h2,τ,d,rfl⟩) hbk' (λτ d=>Code.wp_mono (λe a' w' h=>by
  cases e<;>first
   |(obtain⟨h1,h2,h3,rfl⟩:=h;exact⟨h1,h2,h3,τ,d,rfl⟩)
   |exact h) (es_i0 (w:=re w τ d) hF)) ?_
 rintro T1 w1 ⟨hF1,hs1,τ,d,rfl⟩;refine hJ.re' n _ _ τ d ?_;refine hJ.ctl (s:=n) (λw=>stepG_block) ?_;refine hJ.ctl (s:=n) (λw=>stepG_loop) ?_;refine zq3k hFin esL0 aL (λ(j:Nat)(T:Array Value)(w:World)=>T=esF mm ap aL aC N db wb (λi=>T.getD i undef)/\T[9]?=some (Value.int .i64 (j:Int))/\(∃m tv iv W E,SAt W0 T0 m wb vb tv iv W w/\SInv T0.N j E m.s W)) (λ(j:Nat)(T:Array Value)(w:World)=>T=esF mm ap aL aC N db wb (λi=>T.getD i undef)/\T[9]?=some (Value.int .i64 (j:Int))/\(∃m tv iv W E,SAt W0 T0 m wb vb tv iv W w/\SInv T0.N (j+1) E m.s W)) ?_ ?_ ?_ ?_ aL 0 T1 w (Nat.add_zero _) ⟨hF1,hs1,hst⟩
 . rintro j T w kk _ ⟨hF,hs,hS⟩ hq;refine zqv (s:=n) hJ hC zqk (by kernel_rfl) (λ(t:Array Value)(w':World)=>(t=esF mm ap aL aC N db wb (λi=>t.getD i undef)/\t[9]?=some (Value.int .i64 (j:Int))/\t[41]?=some (Value.bool (decide ((j:Int)<(aL:Int)))))/\∃τ d,w'=re w τ d) (λt w' τ d h=>by obtain⟨h1,τ',d',rfl⟩:=h;exact⟨h1,τ,d,rfl⟩) hbk' (λτ d=>Code.wp_mono (λe a' w' h=>by
    cases e<;>first
     |(obtain⟨h1,h2,h3,h4,rfl⟩:=h;exact⟨h1,⟨h2,h3,h4⟩,τ,d,rfl⟩)
     |exact h) (es_h0 (w:=re w τ d) hF hs)) ?_
   rintro T1 w1 ⟨⟨hF1,hs1,hc1⟩,τ,d,rfl⟩;refine hJ.re' n _ _ τ d ?_;exact hq T1 w hc1 ⟨hF1,hs1,hS⟩
 . rintro j T w kk hj ⟨hF,hs,hS⟩ hq;rw[esB0s];refine hJ.ctl (s:=n) (λw=>stepG_seq) ?_;obtain⟨m,tv,iv,W,E,hS1,hI1⟩:=hS;obtain⟨x,hx⟩:∃x,acts[j]?=some x:=⟨_,List.getElem?_eq_getElem (by omega)⟩;refine es_b0 hFin hbk hpos hF hs hS1 hI1 (by omega) hA hl hx ?_;intro T1 k op w1 hF1 hs1 hc1 hR;obtain⟨m',tv',iv',W',E',r1,r2,_⟩:=hR.ex;refine hJ.ctl (s:=n) (λw=>stepG_cond (t:=false) (by show T1.getD 50 undef=_;exact zqu hc1)) ?_;rw[if_neg (by decide)];refine hJ.ctl (s:=n) (λw=>stepG_skip) ?_;exact hq T1 w1 ⟨hF1,hs1,m',tv',iv',W',E',r1,r2⟩
 . rintro j T w kk hj ⟨hF,hs,hS⟩ hq;refine zqv (s:=n) hJ hC zqk (by kernel_rfl) (λ(t:Array Value)(w':World)=>t=esF mm ap aL aC N db wb (λi=>t.getD i undef)/\t[9]?=some (Value.int .i64 ((j+1:Nat):Int))/\∃τ d,w'=re w τ d) (λt w' τ d h=>by obtain⟨h1,h2,τ',d',rfl⟩:=h;exact⟨h1,h2,τ,d,rfl⟩) hbk' (λτ d=>Code.wp_mono (λe a' w' h=>by
    cases e<;>first
     |(obtain⟨h1,h2,h3,rfl⟩:=h;exact⟨h1,h2,h3,τ,d,rfl⟩)
     |exact h) (es_s0 (w:=re w τ d) hF hs (by omega))) ?_
   rintro T1 w1 ⟨hF1,hs1,τ,d,rfl⟩;refine hJ.re' n _ _ τ d ?_;exact hq T1 w ⟨hF1,hs1,hS⟩
 . rintro T w ⟨hF,hs,hS⟩;exact hq T w hF hS
end
section
variable {Fin:Machine->Trace->Prop} {n:Nat} {b:Frame} {cs:List Frame} {kk:List Item} {W0:World} {T0:EpT} {wb vb:Nat} {mm:Int} {ap:Option Addr} {aL aC N db:Nat}
theorem es_b1(hFin:Back Try.prog Fin)(hbk:b.kind=.normal){m:EpM}{tv:Value}{iv:Nat->Value}{W:SW}{T:Array Value}{w:World}{j c E:Nat}(hF:T=esF mm ap aL aC N db wb (λi=>T.getD i undef))(h10:T[10]?=some (.int .i64 (j:Int)))(hS:SAt W0 T0 m wb vb tv iv W w)(hI:SInv T0.N c E m.s W)(hc:c<=4294967295)(hN:T0.N=N)(hj:j<N)
 (hq:∀(T1:Array Value)m' tv' iv' W' E' w',T1=esF mm ap aL aC N db wb (λi=>T1.getD i undef)->T1[10]?=some (.int .i64 (j:Int))->T1[72]?=some (.bool false)->SAt W0 T0 m' wb vb tv' iv' W' w'->SInv T0.N (c+1) E' m'.s W'->W'.V j % 2=0->(∀i,i≠j->W'.V i=W.V i)->J0 Try.prog Fin n (G (b.at ⟨T1,[]⟩ kk) cs) w'):J0 Try.prog Fin n (G (b.at ⟨T,[]⟩ (.code (headC (esB 1))::kk)) cs) w:=by
 have hJ:=j0_JS hFin;have hC:=zq15 hFin;have hbk':b.kind≠.early:=by rw[hbk];decide
 have HQ:=Lib.hid hq;clear hq;obtain⟨v,hv0,hvv⟩:∃v,T=esF mm ap aL aC N db wb v/\v=λi=>T.getD i undef:=⟨_,hF,rfl⟩;have e10:v 10=.int .i64 (j:Int):=by rw[hvv];exact zqu h10
 clear hF h10 hvv;subst hv0;unfold esF;rw[e10];clear e10;obtain⟨u_,hu_⟩:∃c,headC (esB 1)=c:=⟨_,rfl⟩;have eu_:=hu_;rw[hu_];simp only[esL,esH,esB,esS,esT,headC,tailN,sndC,zqj,loopC,condT,Try.f6,al_od]at eu_;subst eu_;clear hu_;have j0:(0:Int)<=(j:Int):=by omega
 have j1:(j:Int)<(N:Int):=by omega
 by_cases hV:W.V j % 2=1
 . have hd:((W.V j:Int) % 2==1)=true:=by simp;omega
   refine hJ.ctl (s:=n) (λw=>stepG_region) ?_;refine zqg (s:=n) hbk' hJ (zqf _) false (.inr rfl) 0 14 3 rfl rfl rfl (by rfl) ?_;intro τ d;simp only[List.drop_succ_cons,List.drop_zero,List.take_succ_cons,List.take_zero];replace hS:=hS.re τ d;generalize re w τ d=w at hS |-;have c1:=hS.c1;rw[hN]at c1;have v0:w.cell? ⟨vb,j,none⟩=some (.int .i64 (W.V j:Int)):=hS.v (by omega);have HV:=Lib.hid hV;clear hV;go_wp2;simp only[zq7];clear c1 v0 hd;refine zq14 hbk' hJ (s:=n) rfl rfl (f:=28) (args:=#[.pointer (some ⟨wb,0,none⟩),.agg #[.int .i64 (j:Int),.int .i64 2,.int .i64 0,.int .i64 0,.int .i64 0]]) (λτ d=>?_) (λτ d=>?_) ?_
   . simp[go_sem,execOp,Act.eval,resolve,Deferred.ofValue,invoke,callFunc,Try.func28,Try.f28]
   . intro e he;simp[go_sem,execOp,Act.eval,resolve,Deferred.ofValue,invoke,callFunc,Try.func28,Try.f28,Sem.runT_eq]at he
   refine act_J (who:=(j:Int)) (op:=⟨2,0,0,0⟩) hFin hS hI (by omega) hc ?_;intro k w1 hk hkj hR;obtain rfl:k=j:=hkj j (by omega) rfl;obtain⟨m',tv',iv',W',E',r1,r2,r3⟩:=hR.ex;clear hS hR;rw[Frame.finish_at]
   walk_nrm
   have HR:=Lib.hid (And.intro r2 (r3 rfl));clear r2 r3;refine zqg (s:=n) hbk' hJ (zqf _) false (.inr rfl) 15 2 0 rfl rfl rfl (by rfl) ?_;intro τ d;simp only[List.drop_succ_cons,List.drop_zero,List.take_succ_cons,List.take_zero];replace r1:=r1.re τ d;generalize re w1 τ d=w2 at r1 |-;go_wp2;simp only[zq7];refine hJ.ctl (s:=n) (λw=>stepG_region_end) ?_;exact HQ.out _ m' tv' iv' W' E' w2 rfl rfl rfl r1 HR.out.1 HR.out.2.1 HR.out.2.2
 . have hd:((W.V j:Int) % 2==1)=false:=by simp;omega
   refine hJ.ctl (s:=n) (λw=>stepG_region) ?_;refine zqg (s:=n) hbk' hJ (zqf _) false (.inr rfl) 0 14 3 rfl rfl rfl (by rfl) ?_;intro τ d;simp only[List.drop_succ_cons,List.drop_zero,List.take_succ_cons,List.take_zero];replace hS:=hS.re τ d;generalize re w τ d=w at hS |-;have c1:=hS.c1;rw[hN]at c1;have v0:w.cell? ⟨vb,j,none⟩=some (.int .i64 (W.V j:Int)):=hS.v (by omega);have HV:=Lib.hid hV;clear hV;go_wp2;simp only[zq7];clear c1 v0 hd;refine hJ.ctl (s:=n) (λw=>stepG_unwanted rfl rfl) ?_;refine zqg (s:=n) hbk' hJ (zqf _) false (.inr rfl) 15 2 0 rfl rfl rfl (by rfl) ?_;intro τ d;simp only[List.drop_succ_cons,List.drop_zero,List.take_succ_cons,List.take_zero];replace hS:=hS.re τ d;generalize re w τ d=w at hS |-;go_wp2;simp only[zq7];refine hJ.ctl (s:=n) (λw=>stepG_region_end) ?_;exact HQ.out _ m tv iv W E w rfl rfl rfl hS (hI.more (Nat.le_succ _)) (by have:=HV.out;omega) (λ_ _=>rfl)
theorem es_r21(hFin:Back Try.prog Fin)(hbk:b.kind=.normal){m:EpM}{tv:Value}{iv:Nat->Value}{W:SW}{T:Array Value}{w:World}{j:Int}(hF:T=esF mm ap aL aC N db wb (λi=>T.getD i undef))(h11:T[11]?=some (.int .i64 j))(hS:SAt W0 T0 m wb vb tv iv W w)(hdb:T0.db=db)(hpos:0<T0.N)(hf:freeM T0.N m.s)
 (hq:∀(T1:Array Value)m' w',T1=esF mm ap aL aC N db wb (λi=>T1.getD i undef)->T1[11]?=some (.int .i64 j)->T1[12]?=some (.bool true)->T1[13]?=some (.int .i64 0)->m'.s=m.s.putE (wrap64 (m.s.e+1))->SAt W0 T0 m' wb vb tv iv W w'->J0 Try.prog Fin n (G (b.at ⟨T1,[]⟩ kk) cs) w'):J0 Try.prog Fin n (G (b.at ⟨T,[]⟩ (.code (headC (esB 2))::kk)) cs) w:=by
 have hJ:=j0_JS hFin;have hC:=zq15 hFin;have hbk':b.kind≠.early:=by rw[hbk];decide
 have HQ:=Lib.hid hq;clear hq;subst hdb;obtain⟨v,hv0,hvv⟩:∃v,T=esF mm ap aL aC N T0.db wb v/\v=λi=>T.getD i undef:=⟨_,hF,rfl⟩;have e11:v 11=.int .i64 j:=by rw[hvv];exact zqu h11
 clear hF h11 hvv;subst hv0;unfold esF;rw[e11];clear e11;obtain⟨u_,hu_⟩:∃c,headC (esB 2)=c:=⟨_,rfl⟩;have eu_:=hu_;rw[hu_];simp only[esL,esH,esB,esS,esT,headC,tailN,sndC,zqj,loopC,condT,Try.f6,al_od]at eu_;subst eu_;clear hu_;refine hJ.ctl (s:=n) (λw=>stepG_region) ?_;refine zqg (s:=n) hbk' hJ (zqf _) false (.inr rfl) 0 1 6 rfl rfl rfl (by rfl) ?_;intro τ d;simp only[List.drop_succ_cons,List.drop_zero,List.take_succ_cons,List.take_zero];replace hS:=hS.re τ d;generalize re w τ d=w at hS |-;go_wp2;simp only[zq7];refine zq14 hbk' hJ (s:=n) rfl rfl (f:=25) (args:=#[.pointer (some ⟨T0.db,0,none⟩),.nilIface,.int .i64 0]) (λτ d=>?_) (λτ d=>?_) ?_
 . simp[go_sem,execOp,Act.eval,resolve,Deferred.ofValue,invoke,callFunc,Try.func25,Try.f25]
 . intro e he;simp[go_sem,execOp,Act.eval,resolve,Deferred.ofValue,invoke,callFunc,Try.func25,Try.f25,Sem.runT_eq]at he
 obtain⟨q,hrun⟩:=zq6i hf;refine zq3j (k:=0) hFin hS.ty hS.ep hpos hrun (λR hY=>zq5c _ hY hpos hS.ty.N) ?_;intro m' w1 hm hA;have hS1:=hS.aft hA;clear hA hS;rw[Frame.finish_at]
 walk_nrm
 refine zqg (s:=n) hbk' hJ (zqf _) false (.inr rfl) 2 5 0 rfl rfl rfl (by rfl) ?_;intro τ d;simp only[List.drop_succ_cons,List.drop_zero,List.take_succ_cons,List.take_zero];replace hS1:=hS1.re τ d;generalize re w1 τ d=w1 at hS1 |-;go_wp2;simp only[zq7];refine hJ.ctl (s:=n) (λw=>stepG_region_end) ?_;exact HQ.out _ m' w1 rfl rfl rfl rfl hm hS1
theorem es_loop1(hFin:Back Try.prog Fin)(hbk:b.kind=.normal){c0:Nat}(hN:T0.N=N)(hN64:N<=64)(hc0:c0<=4294900000){T:Array Value}{w:World}(hF:T=esF mm ap aL aC N db wb (λi=>T.getD i undef))(hst:(∃m tv iv W E,SAt W0 T0 m wb vb tv iv W w/\SInv T0.N (c0+0) E m.s W/\∀i,i<0->i<T0.N->W.V i % 2=0))
 (hq:∀(T':Array Value)(w':World),T'=esF mm ap aL aC N db wb (λi=>T'.getD i undef)->(∃m tv iv W E,SAt W0 T0 m wb vb tv iv W w'/\SInv T0.N (c0+N) E m.s W/\∀i,i<N->i<T0.N->W.V i % 2=0)->J0 Try.prog Fin n (G (b.at ⟨T',[]⟩ kk) cs) w'):J0 Try.prog Fin n (G (b.at ⟨T,[]⟩ (.code (.seq (headC (headC (esT 7))) (.block 2 (.loop (esL 1))))::kk)) cs) w:=by
 have hJ:=j0_JS hFin;have hC:=zq15 hFin;have hbk':b.kind≠.early:=by rw[hbk];decide
 refine hJ.ctl (s:=n) (λw=>stepG_seq) ?_;refine zqv (s:=n) hJ hC zqk (by kernel_rfl) (λ(t:Array Value)(w':World)=>t=esF mm ap aL aC N db wb (λi=>t.getD i undef)/\t[10]?=some (Value.int .i64 0)/\∃τ d,w'=re w τ d) (λt w' τ d h=>by obtain⟨h1,h2,τ',d',rfl⟩:=h;exact⟨h1,h2,τ,d,rfl⟩) hbk' (λτ d=>Code.wp_mono (λe a' w' h=>by
  cases e<;>first
   |(obtain⟨h1,h2,h3,rfl⟩:=h;exact⟨h1,h2,h3,τ,d,rfl⟩)
   |exact h) (es_i1 (w:=re w τ d) hF)) ?_
 rintro T1 w1 ⟨hF1,hs1,τ,d,rfl⟩;refine hJ.re' n _ _ τ d ?_;refine hJ.ctl (s:=n) (λw=>stepG_block) ?_;refine hJ.ctl (s:=n) (λw=>stepG_loop) ?_;refine zq3k hFin esL1 N (λ(j:Nat)(T:Array Value)(w:World)=>T=esF mm ap aL aC N db wb (λi=>T.getD i undef)/\T[10]?=some (Value.int .i64 (j:Int))/\(∃m tv iv W E,SAt W0 T0 m wb vb tv iv W w/\SInv T0.N (c0+j) E m.s W/\∀i,i<j->i<T0.N->W.V i % 2=0)) (λ(j:Nat)(T:Array Value)(w:World)=>T=esF mm ap aL aC N db wb (λi=>T.getD i undef)/\T[10]?=some (Value.int .i64 (j:Int))/\(∃m tv iv W E,SAt W0 T0 m wb vb tv iv W w/\SInv T0.N (c0+(j+1)) E m.s W/\∀i,i<(j+1)->i<T0.N->W.V i % 2=0)) ?_ ?_ ?_ ?_ N 0 T1 w (Nat.add_zero _) ⟨hF1,hs1,hst⟩
 . rintro j T w kk _ ⟨hF,hs,hS⟩ hq;refine zqv (s:=n) hJ hC zqk (by kernel_rfl) (λ(t:Array Value)(w':World)=>(t=esF mm ap aL aC N db wb (λi=>t.getD i undef)/\t[10]?=some (Value.int .i64 (j:Int))/\t[53]?=some (Value.bool (decide ((j:Int)<(N:Int)))))/\∃τ d,w'=re w τ d) (λt w' τ d h=>by obtain⟨h1,τ',d',rfl⟩:=h;exact⟨h1,τ,d,rfl⟩) hbk' (λτ d=>Code.wp_mono (λe a' w' h=>by
    cases e<;>first
     |(obtain⟨h1,h2,h3,h4,rfl⟩:=h;exact⟨h1,⟨h2,h3,h4⟩,τ,d,rfl⟩)
     |exact h) (es_h1 (w:=re w τ d) hF hs)) ?_
   rintro T1 w1 ⟨⟨hF1,hs1,hc1⟩,τ,d,rfl⟩;refine hJ.re' n _ _ τ d ?_;exact hq T1 w hc1 ⟨hF1,hs1,hS⟩
 . rintro j T w kk hj ⟨hF,hs,hS⟩ hq;rw[esB1s];refine hJ.ctl (s:=n) (λw=>stepG_seq) ?_;obtain⟨m,tv,iv,W,E,hS1,hI1,hev⟩:=hS;refine es_b1 hFin hbk hF hs hS1 hI1 (by omega) hN hj ?_;intro T1 m' tv' iv' W' E' w1 hF1 hs1 hc1 r1 r2 r3 r4;refine hJ.ctl (s:=n) (λw=>stepG_cond (t:=false) (by show T1.getD 72 undef=_;exact zqu hc1)) ?_;rw[if_neg (by decide)];refine hJ.ctl (s:=n) (λw=>stepG_skip) ?_;refine hq T1 w1 ⟨hF1,hs1,m',tv',iv',W',E',r1,r2,λi hi hiN=>?_⟩
   by_cases e:i=j
   . subst e;exact r3
   . rw[r4 i e];exact hev i (by omega) hiN
 . rintro j T w kk hj ⟨hF,hs,hS⟩ hq;refine zqv (s:=n) hJ hC zqk (by kernel_rfl) (λ(t:Array Value)(w':World)=>t=esF mm ap aL aC N db wb (λi=>t.getD i undef)/\t[10]?=some (Value.int .i64 ((j+1:Nat):Int))/\∃τ d,w'=re w τ d) (λt w' τ d h=>by obtain⟨h1,h2,τ',d',rfl⟩:=h;exact⟨h1,h2,τ,d,rfl⟩) hbk' (λτ d=>Code.wp_mono (λe a' w' h=>by
    cases e<;>first
     |(obtain⟨h1,h2,h3,rfl⟩:=h;exact⟨h1,h2,h3,τ,d,rfl⟩)
     |exact h) (es_s1 (w:=re w τ d) hF hs (by omega))) ?_
   rintro T1 w1 ⟨hF1,hs1,τ,d,rfl⟩;refine hJ.re' n _ _ τ d ?_;exact hq T1 w ⟨hF1,hs1,hS⟩
 . rintro T w ⟨hF,hs,hS⟩;exact hq T w hF hS
theorem es_loop2(hFin:Back Try.prog Fin)(hbk:b.kind=.normal){c0:Nat}(hdb:T0.db=db)(hpos:0<T0.N)(hc0:c0<=4294900000){T:Array Value}{w:World}(hF:T=esF mm ap aL aC N db wb (λi=>T.getD i undef))(hst:(∃m tv iv W E,SAt W0 T0 m wb vb tv iv W w/\SInv T0.N (c0+0) E m.s W/\(∀i,i<T0.N->W.V i % 2=0)/\OldAll T0.N ((E:Int) - (0:Nat)) m.s))
 (hq:∀(T':Array Value)(w':World),T'=esF mm ap aL aC N db wb (λi=>T'.getD i undef)->(∃m tv iv W E,SAt W0 T0 m wb vb tv iv W w'/\SInv T0.N (c0+2) E m.s W/\(∀i,i<T0.N->W.V i % 2=0)/\OldAll T0.N ((E:Int) - (2:Nat)) m.s)->J0 Try.prog Fin n (G (b.at ⟨T',[]⟩ kk) cs) w'):J0 Try.prog Fin n (G (b.at ⟨T,[]⟩ (.code (.seq (headC (headC (esT 8))) (.block 4 (.loop (esL 2))))::kk)) cs) w:=by
 have hJ:=j0_JS hFin;have hC:=zq15 hFin;have hbk':b.kind≠.early:=by rw[hbk];decide
 refine hJ.ctl (s:=n) (λw=>stepG_seq) ?_;refine zqv (s:=n) hJ hC zqk (by kernel_rfl) (λ(t:Array Value)(w':World)=>t=esF mm ap aL aC N db wb (λi=>t.getD i undef)/\t[11]?=some (Value.int .i64 0)/\∃τ d,w'=re w τ d) (λt w' τ d h=>by obtain⟨h1,h2,τ',d',rfl⟩:=h;exact⟨h1,h2,τ,d,rfl⟩) hbk' (λτ d=>Code.wp_mono (λe a' w' h=>by
  cases e<;>first
   |(obtain⟨h1,h2,h3,rfl⟩:=h;exact⟨h1,h2,h3,τ,d,rfl⟩)
   |exact h) (es_i2 (w:=re w τ d) hF)) ?_
 rintro T1 w1 ⟨hF1,hs1,τ,d,rfl⟩;refine hJ.re' n _ _ τ d ?_;refine hJ.ctl (s:=n) (λw=>stepG_block) ?_;refine hJ.ctl (s:=n) (λw=>stepG_loop) ?_;refine zq3k hFin esL2 2 (λ(j:Nat)(T:Array Value)(w:World)=>T=esF mm ap aL aC N db wb (λi=>T.getD i undef)/\T[11]?=some (Value.int .i64 (j:Int))/\(∃m tv iv W E,SAt W0 T0 m wb vb tv iv W w/\SInv T0.N (c0+j) E m.s W/\(∀i,i<T0.N->W.V i % 2=0)/\OldAll T0.N ((E:Int) - (j:Nat)) m.s)) (λ(j:Nat)(T:Array Value)(w:World)=>T=esF mm ap aL aC N db wb (λi=>T.getD i undef)/\T[11]?=some (Value.int .i64 (j:Int))/\(∃m tv iv W E,SAt W0 T0 m wb vb tv iv W w/\SInv T0.N (c0+(j+1)) E m.s W/\(∀i,i<T0.N->W.V i % 2=0)/\OldAll T0.N ((E:Int) - ((j+1):Nat)) m.s)) ?_ ?_ ?_ ?_ 2 0 T1 w (Nat.add_zero _) ⟨hF1,hs1,hst⟩
 . rintro j T w kk _ ⟨hF,hs,hS⟩ hq;refine zqv (s:=n) hJ hC zqk (by kernel_rfl) (λ(t:Array Value)(w':World)=>(t=esF mm ap aL aC N db wb (λi=>t.getD i undef)/\t[11]?=some (Value.int .i64 (j:Int))/\t[74]?=some (Value.bool (decide ((j:Int)<2))))/\∃τ d,w'=re w τ d) (λt w' τ d h=>by obtain⟨h1,τ',d',rfl⟩:=h;exact⟨h1,τ,d,rfl⟩) hbk' (λτ d=>Code.wp_mono (λe a' w' h=>by
    cases e<;>first
     |(obtain⟨h1,h2,h3,h4,rfl⟩:=h;exact⟨h1,⟨h2,h3,h4⟩,τ,d,rfl⟩)
     |exact h) (es_h2 (w:=re w τ d) hF hs)) ?_
   rintro T1 w1 ⟨⟨hF1,hs1,hc1⟩,τ,d,rfl⟩;refine hJ.re' n _ _ τ d ?_;exact hq T1 w hc1 ⟨hF1,hs1,hS⟩
 . rintro j T w kk hj ⟨hF,hs,hS⟩ hq;rw[esB2s];refine hJ.ctl (s:=n) (λw=>stepG_seq) ?_;obtain⟨m,tv,iv,W,E,hS1,hI1,hev,hold⟩:=hS;refine es_r21 hFin hbk hF hs hS1 hdb hpos (hI1.free hev) ?_;intro T1 m' w1 hF1 hs1 h12 h13 hm hS2;refine hJ.ctl (s:=n) (λw=>stepG_seq) ?_;refine zqv (s:=n) hJ hC zqk (by kernel_rfl) (λ(t:Array Value)(w':World)=>(t=esF mm ap aL aC N db wb (λi=>t.getD i undef)/\t[11]?=some (Value.int .i64 (j:Int))/\t[87]?=some (Value.bool false))/\∃τ d,w'=re w1 τ d) (λt w' τ d h=>by obtain⟨h1,τ',d',rfl⟩:=h;exact⟨h1,τ,d,rfl⟩) hbk' (λτ d=>Code.wp_mono (λe a' w' h=>by
    cases e<;>first
     |(obtain⟨h1,h2,h3,h4,rfl⟩:=h;exact⟨h1,⟨h2,h3,h4⟩,τ,d,rfl⟩)
     |exact h) (es_r22 (w:=re w1 τ d) hF1 hs1 h12 h13)) ?_
   clear hF1 hs1;rintro T1 w2 ⟨⟨hF1,hs1,hc1⟩,τ,d,rfl⟩;refine hJ.re' n _ _ τ d ?_;refine hJ.ctl (s:=n) (λw=>stepG_cond (t:=false) (by show T1.getD 87 undef=_;exact zqu hc1)) ?_;rw[if_neg (by decide)];refine hJ.ctl (s:=n) (λw=>stepG_skip) ?_;refine hq T1 w1 ⟨hF1,hs1,m',tv,iv,W,E+1,hS2,?_,hev,?_⟩
   . rw[hm];exact hI1.adv (hI1.free hev) (by unfold mostC;omega)
   . rw[hm];intro i x hi hx;have:=hold i x hi hx;omega
 . rintro j T w kk hj ⟨hF,hs,hS⟩ hq;refine zqv (s:=n) hJ hC zqk (by kernel_rfl) (λ(t:Array Value)(w':World)=>t=esF mm ap aL aC N db wb (λi=>t.getD i undef)/\t[11]?=some (Value.int .i64 ((j+1:Nat):Int))/\∃τ d,w'=re w τ d) (λt w' τ d h=>by obtain⟨h1,h2,τ',d',rfl⟩:=h;exact⟨h1,h2,τ,d,rfl⟩) hbk' (λτ d=>Code.wp_mono (λe a' w' h=>by
    cases e<;>first
     |(obtain⟨h1,h2,h3,rfl⟩:=h;exact⟨h1,h2,h3,τ,d,rfl⟩)
     |exact h) (es_s2 (w:=re w τ d) hF hs (by omega))) ?_
   rintro T1 w1 ⟨hF1,hs1,τ,d,rfl⟩;refine hJ.re' n _ _ τ d ?_;exact hq T1 w ⟨hF1,hs1,hS⟩
 . rintro T w ⟨hF,hs,hS⟩;exact hq T w hF hS
end
section
variable {Fin:Machine->Trace->Prop} {n:Nat} {b:Frame} {cs:List Frame} {kk:List Item} {W0:World} {T0:EpT} {wb vb:Nat} {mm:Int} {ap:Option Addr} {aL aC N db:Nat}
theorem es_b3(hFin:Back Try.prog Fin)(hbk:b.kind=.normal){m:EpM}{tv:Value}{iv:Nat->Value}{W:SW}{T:Array Value}{w:World}{j c E:Nat}(hF:T=esF mm ap aL aC N db wb (λi=>T.getD i undef))(h14:T[14]?=some (.int .i64 (j:Int)))(hS:SAt W0 T0 m wb vb tv iv W w)(hI:SInv T0.N c E m.s W)(hc:c<=4294967295)(hdb:T0.db=db)(hj:j<T0.N)(hleft:leftL m.s.e (m.s.th j)=[])
 (hq:∀(T1:Array Value)m' w',T1=esF mm ap aL aC N db wb (λi=>T1.getD i undef)->T1[14]?=some (.int .i64 (j:Int))->T1[103]?=some (.bool false)->m'.s=collS m.s j->SAt W0 T0 m' wb vb tv iv (W.coll m.s j) w'->J0 Try.prog Fin n (G (b.at ⟨T1,[]⟩ kk) cs) w'):J0 Try.prog Fin n (G (b.at ⟨T,[]⟩ (.code (headC (esB 3))::kk)) cs) w:=by
 have hJ:=j0_JS hFin;have hC:=zq15 hFin;have hbk':b.kind≠.early:=by rw[hbk];decide
 have HQ:=Lib.hid hq;clear hq;subst hdb;obtain⟨v,hv0,hvv⟩:∃v,T=esF mm ap aL aC N T0.db wb v/\v=λi=>T.getD i undef:=⟨_,hF,rfl⟩;have e14:v 14=.int .i64 (j:Int):=by rw[hvv];exact zqu h14
 clear hF h14 hvv;subst hv0;unfold esF;rw[e14];clear e14;obtain⟨u_,hu_⟩:∃c,headC (esB 3)=c:=⟨_,rfl⟩;have eu_:=hu_;rw[hu_];simp only[esL,esH,esB,esS,esT,headC,tailN,sndC,zqj,loopC,condT,Try.f6,al_od]at eu_;subst eu_;clear hu_;refine hJ.ctl (s:=n) (λw=>stepG_region) ?_;refine zqg (s:=n) hbk' hJ (zqf _) false (.inr rfl) 0 2 9 rfl rfl rfl (by rfl) ?_;intro τ d;simp only[List.drop_succ_cons,List.drop_zero,List.take_succ_cons,List.take_zero];replace hS:=hS.re τ d;generalize re w τ d=w at hS |-;go_wp2;simp only[zq7];refine zq14 hbk' hJ (s:=n) rfl rfl (f:=29) (args:=#[.pointer (some ⟨wb,0,none⟩),.int .i64 (j:Int)]) (λτ d=>?_) (λτ d=>?_) ?_
 . simp[go_sem,execOp,Act.eval,resolve,Deferred.ofValue,invoke,callFunc,Try.func29,Try.f29]
 . intro e he;simp[go_sem,execOp,Act.eval,resolve,Deferred.ofValue,invoke,callFunc,Try.func29,Try.f29,Sem.runT_eq]at he
 refine zq8g hFin hS hI hj (by omega) ?_;intro m' w1 hm hS1;clear hS;have hth:m'.s.th j=[]:=by rw[hm];exact(upd'_same _ _ _).trans hleft
 rw[Frame.finish_at]
 walk_nrm
 refine zqg (s:=n) hbk' hJ (zqf _) false (.inr rfl) 3 4 4 rfl rfl rfl (by rfl) ?_;intro τ d;simp only[List.drop_succ_cons,List.drop_zero,List.take_succ_cons,List.take_zero];replace hS1:=hS1.re τ d;generalize re w1 τ d=w1 at hS1 |-;go_wp2;simp only[zq7];refine zq14 hbk' hJ (s:=n) rfl rfl (f:=21) (args:=#[.pointer (some ⟨T0.db,0,none⟩),.int .i64 (j:Int)]) (λτ d=>?_) (λτ d=>?_) ?_
 . simp[go_sem,execOp,Act.eval,resolve,Deferred.ofValue,invoke,callFunc,Try.func21,Try.f21]
 . intro e he;simp[go_sem,execOp,Act.eval,resolve,Deferred.ofValue,invoke,callFunc,Try.func21,Try.f21,Sem.runT_eq]at he
 refine zq5d (s:=n) hJ hC zqk Try.func21 rfl (by kernel_rfl) (R:=λv w'=>(∃p C,v=.slice p 0 C)/\SAt W0 T0 m' wb vb tv iv (W.coll m.s j) w') (λv w' τ d h=>⟨h.1,h.2.re τ d⟩) (λτ d=>?_) ?_
 . refine Calls.mono (zqc5 (hS1.re τ d).ep hS1.ty.tT hS1.ty.N hj (by rw[hth];exact Nat.zero_le _)) ?_;rintro e w' ⟨v,rfl,hN⟩;rw[hth]at hN;obtain⟨p,C,hv,_⟩:=zq2d hN.row;exact⟨_,rfl,⟨p,C,hv⟩,(hS1.re τ d).more hN.be⟩
 rintro _ w2 ⟨⟨p,C,rfl⟩,hS2⟩;clear hS1;rw[Frame.finish_at]
 walk_nrm
 refine zqg (s:=n) hbk' hJ (zqf _) false (.inr rfl) 8 3 0 rfl rfl rfl (by rfl) ?_;intro τ d;simp only[List.drop_succ_cons,List.drop_zero,List.take_succ_cons,List.take_zero];replace hS2:=hS2.re τ d;generalize re w2 τ d=w2 at hS2 |-;go_wp2;simp only[zq7];refine hJ.ctl (s:=n) (λw=>stepG_region_end) ?_;exact HQ.out _ m' w2 rfl rfl rfl hm hS2
theorem es_loop3(hFin:Back Try.prog Fin)(hbk:b.kind=.normal){c0:Nat}(hN:T0.N=N)(hN64:N<=64)(hdb:T0.db=db)(hc0:c0<=4294900000){T:Array Value}{w:World}(hF:T=esF mm ap aL aC N db wb (λi=>T.getD i undef))(hst:(∃m tv iv W E,SAt W0 T0 m wb vb tv iv W w/\SInv T0.N (c0+0) E m.s W/\OldAll T0.N ((E:Int) - 2) m.s/\∀i,i<0->i<T0.N->m.s.th i=[]))
 (hq:∀(T':Array Value)(w':World),T'=esF mm ap aL aC N db wb (λi=>T'.getD i undef)->(∃m tv iv W E,SAt W0 T0 m wb vb tv iv W w'/\SInv T0.N (c0+N) E m.s W/\OldAll T0.N ((E:Int) - 2) m.s/\∀i,i<N->i<T0.N->m.s.th i=[])->J0 Try.prog Fin n (G (b.at ⟨T',[]⟩ kk) cs) w'):J0 Try.prog Fin n (G (b.at ⟨T,[]⟩ (.code (.seq (headC (headC (esT 9))) (.block 6 (.loop (esL 3))))::kk)) cs) w:=by
 have hJ:=j0_JS hFin;have hC:=zq15 hFin;have hbk':b.kind≠.early:=by rw[hbk];decide
 refine hJ.ctl (s:=n) (λw=>stepG_seq) ?_;refine zqv (s:=n) hJ hC zqk (by kernel_rfl) (λ(t:Array Value)(w':World)=>t=esF mm ap aL aC N db wb (λi=>t.getD i undef)/\t[14]?=some (Value.int .i64 0)/\∃τ d,w'=re w τ d) (λt w' τ d h=>by obtain⟨h1,h2,τ',d',rfl⟩:=h;exact⟨h1,h2,τ,d,rfl⟩) hbk' (λτ d=>Code.wp_mono (λe a' w' h=>by
  cases e<;>first
   |(obtain⟨h1,h2,h3,rfl⟩:=h;exact⟨h1,h2,h3,τ,d,rfl⟩)
   |exact h) (es_i3 (w:=re w τ d) hF)) ?_
 rintro T1 w1 ⟨hF1,hs1,τ,d,rfl⟩;refine hJ.re' n _ _ τ d ?_;refine hJ.ctl (s:=n) (λw=>stepG_block) ?_;refine hJ.ctl (s:=n) (λw=>stepG_loop) ?_;refine zq3k hFin esL3 N (λ(j:Nat)(T:Array Value)(w:World)=>T=esF mm ap aL aC N db wb (λi=>T.getD i undef)/\T[14]?=some (Value.int .i64 (j:Int))/\(∃m tv iv W E,SAt W0 T0 m wb vb tv iv W w/\SInv T0.N (c0+j) E m.s W/\OldAll T0.N ((E:Int) - 2) m.s/\∀i,i<j->i<T0.N->m.s.th i=[])) (λ(j:Nat)(T:Array Value)(w:World)=>T=esF mm ap aL aC N db wb (λi=>T.getD i undef)/\T[14]?=some (Value.int .i64 (j:Int))/\(∃m tv iv W E,SAt W0 T0 m wb vb tv iv W w/\SInv T0.N (c0+(j+1)) E m.s W/\OldAll T0.N ((E:Int) - 2) m.s/\∀i,i<(j+1)->i<T0.N->m.s.th i=[])) ?_ ?_ ?_ ?_ N 0 T1 w (Nat.add_zero _) ⟨hF1,hs1,hst⟩
 . rintro j T w kk _ ⟨hF,hs,hS⟩ hq;refine zqv (s:=n) hJ hC zqk (by kernel_rfl) (λ(t:Array Value)(w':World)=>(t=esF mm ap aL aC N db wb (λi=>t.getD i undef)/\t[14]?=some (Value.int .i64 (j:Int))/\t[90]?=some (Value.bool (decide ((j:Int)<(N:Int)))))/\∃τ d,w'=re w τ d) (λt w' τ d h=>by obtain⟨h1,τ',d',rfl⟩:=h;exact⟨h1,τ,d,rfl⟩) hbk' (λτ d=>Code.wp_mono (λe a' w' h=>by
    cases e<;>first
     |(obtain⟨h1,h2,h3,h4,rfl⟩:=h;exact⟨h1,⟨h2,h3,h4⟩,τ,d,rfl⟩)
     |exact h) (es_h3 (w:=re w τ d) hF hs)) ?_
   rintro T1 w1 ⟨⟨hF1,hs1,hc1⟩,τ,d,rfl⟩;refine hJ.re' n _ _ τ d ?_;exact hq T1 w hc1 ⟨hF1,hs1,hS⟩
 . rintro j T w kk hj ⟨hF,hs,hS⟩ hq;rw[esB3s];refine hJ.ctl (s:=n) (λw=>stepG_seq) ?_;obtain⟨m,tv,iv,W,E,hS1,hI1,hold,hnil⟩:=hS;have he2:wrap64 (m.s.e - 2)=(E:Int) - 2:=by rw[hI1.e];have:=hI1.le;exact zq2x (by omega)
   refine es_b3 hFin hbk hF hs hS1 hI1 (by omega) hdb (by omega) (hold.left (by omega) he2) ?_;intro T1 m' w1 hF1 hs1 hc1 hm hS2;refine hJ.ctl (s:=n) (λw=>stepG_cond (t:=false) (by show T1.getD 103 undef=_;exact zqu hc1)) ?_;rw[if_neg (by decide)];refine hJ.ctl (s:=n) (λw=>stepG_skip) ?_;refine hq T1 w1 ⟨hF1,hs1,m',tv,iv,W.coll m.s j,E,hS2,?_,?_,λi hi hiN=>?_⟩
   . rw[hm];exact hI1.coll (by omega)
   . rw[hm];exact hold.coll
   . rw[hm]
     by_cases e:i=j
     . subst e;exact(upd'_same _ _ _).trans (hold.left hiN he2)
     . exact(zqx _ _ e).trans (hnil i (by omega) hiN)
 . rintro j T w kk hj ⟨hF,hs,hS⟩ hq;refine zqv (s:=n) hJ hC zqk (by kernel_rfl) (λ(t:Array Value)(w':World)=>t=esF mm ap aL aC N db wb (λi=>t.getD i undef)/\t[14]?=some (Value.int .i64 ((j+1:Nat):Int))/\∃τ d,w'=re w τ d) (λt w' τ d h=>by obtain⟨h1,h2,τ',d',rfl⟩:=h;exact⟨h1,h2,τ,d,rfl⟩) hbk' (λτ d=>Code.wp_mono (λe a' w' h=>by
    cases e<;>first
     |(obtain⟨h1,h2,h3,rfl⟩:=h;exact⟨h1,h2,h3,τ,d,rfl⟩)
     |exact h) (es_s3 (w:=re w τ d) hF hs (by omega))) ?_
   rintro T1 w1 ⟨hF1,hs1,τ,d,rfl⟩;refine hJ.re' n _ _ τ d ?_;exact hq T1 w ⟨hF1,hs1,hS⟩
 . rintro T w ⟨hF,hs,hS⟩;exact hq T w hF hS
theorem es_loop4(hFin:Back Try.prog Fin)(hbk:b.kind=.normal){m:EpM}{tv:Value}{iv:Nat->Value}{W:SW}{L C:Nat}{p:Option Addr}(hL:W.T.length=L)(hle:L<=4294967295)(htv:tv=.slice p L C)(hback:∀(j:Nat)(t:STh),W.T[j]?=some t->t.back=true){T:Array Value}{w:World}(hF:T=esF mm ap aL aC N db wb (λi=>T.getD i undef))(hst:SAt W0 T0 m wb vb tv iv W w)
 (hq:∀(T':Array Value)(w':World),T'=esF mm ap aL aC N db wb (λi=>T'.getD i undef)->SAt W0 T0 m wb vb tv iv W w'->J0 Try.prog Fin n (G (b.at ⟨T',[]⟩ kk) cs) w'):J0 Try.prog Fin n (G (b.at ⟨T,[]⟩ (.code (.seq (headC (headC (esT 10))) (.block 8 (.loop (esL 4))))::kk)) cs) w:=by
 have hJ:=j0_JS hFin;have hC:=zq15 hFin;have hbk':b.kind≠.early:=by rw[hbk];decide
 refine hJ.ctl (s:=n) (λw=>stepG_seq) ?_;refine zqv (s:=n) hJ hC zqk (by kernel_rfl) (λ(t:Array Value)(w':World)=>t=esF mm ap aL aC N db wb (λi=>t.getD i undef)/\t[15]?=some (Value.int .i64 0)/\∃τ d,w'=re w τ d) (λt w' τ d h=>by obtain⟨h1,h2,τ',d',rfl⟩:=h;exact⟨h1,h2,τ,d,rfl⟩) hbk' (λτ d=>Code.wp_mono (λe a' w' h=>by
  cases e<;>first
   |(obtain⟨h1,h2,h3,rfl⟩:=h;exact⟨h1,h2,h3,τ,d,rfl⟩)
   |exact h) (es_i4 (w:=re w τ d) hF)) ?_
 rintro T1 w1 ⟨hF1,hs1,τ,d,rfl⟩;refine hJ.re' n _ _ τ d ?_;refine hJ.ctl (s:=n) (λw=>stepG_block) ?_;refine hJ.ctl (s:=n) (λw=>stepG_loop) ?_;refine zq3k hFin esL4 L (λ(j:Nat)(T:Array Value)(w:World)=>T=esF mm ap aL aC N db wb (λi=>T.getD i undef)/\T[15]?=some (Value.int .i64 (j:Int))/\SAt W0 T0 m wb vb tv iv W w) (λ(j:Nat)(T:Array Value)(w:World)=>T=esF mm ap aL aC N db wb (λi=>T.getD i undef)/\T[15]?=some (Value.int .i64 (j:Int))/\SAt W0 T0 m wb vb tv iv W w) ?_ ?_ ?_ ?_ L 0 T1 w (Nat.add_zero _) ⟨hF1,hs1,hst⟩
 . rintro j T w kk _ ⟨hF,hs,hS⟩ hq;refine zqv (s:=n) hJ hC zqk (by kernel_rfl) (λ(t:Array Value)(w':World)=>(t=esF mm ap aL aC N db wb (λi=>t.getD i undef)/\t[15]?=some (Value.int .i64 (j:Int))/\t[110]?=some (Value.bool (decide ((j:Int)<(L:Int)))))/\∃τ d,w'=re w τ d) (λt w' τ d h=>by obtain⟨h1,τ',d',rfl⟩:=h;exact⟨h1,τ,d,rfl⟩) hbk' (λτ d=>Code.wp_mono (λe a' w' h=>by
    cases e<;>first
     |(obtain⟨h1,h2,h3,h4,rfl⟩:=h;exact⟨h1,⟨h2,h3,h4⟩,τ,d,rfl⟩)
     |exact h) (es_h4 (w:=re w τ d) hF hs (by have:=(hS.re τ d).c2;rw[htv]at this;exact this))) ?_
   rintro T1 w1 ⟨⟨hF1,hs1,hc1⟩,τ,d,rfl⟩;refine hJ.re' n _ _ τ d ?_;exact hq T1 w hc1 ⟨hF1,hs1,hS⟩
 . rintro j T w kk hj ⟨hF,hs,hS⟩ hq;rw[esB4s];refine hJ.ctl (s:=n) (λw=>stepG_seq) ?_;obtain⟨t,ht⟩:∃t,W.T[j]?=some t:=⟨_,List.getElem?_eq_getElem (by omega)⟩;obtain⟨p2,C2,htv2,hth⟩:=hS.row';obtain⟨g,rfl,_,_,_,t3,_⟩:=hth j t ht;rw[hback j t ht]at t3;have c2:=hS.c2;rw[htv2,hL]at c2;refine zqv (s:=n) hJ hC zqk (by kernel_rfl) (λ(t:Array Value)(w':World)=>(t=esF mm ap aL aC N db wb (λi=>t.getD i undef)/\t[15]?=some (Value.int .i64 (j:Int))/\t[121]?=some (Value.bool false))/\∃τ d,w'=re w τ d) (λt w' τ d h=>by obtain⟨h1,τ',d',rfl⟩:=h;exact⟨h1,τ,d,rfl⟩) hbk' (λτ d=>Code.wp_mono (λe a' w' h=>by
    cases e<;>first
     |(obtain⟨h1,h2,h3,h4,rfl⟩:=h;exact⟨h1,⟨h2,h3,h4⟩,τ,d,rfl⟩)
     |exact h) (es_b4 (w:=re w τ d) hF hs hj c2 t3)) ?_
   rintro T1 w1 ⟨⟨hF1,hs1,hc1⟩,τ,d,rfl⟩;refine hJ.re' n _ _ τ d ?_;refine hJ.ctl (s:=n) (λw=>stepG_cond (t:=false) (by show T1.getD 121 undef=_;exact zqu hc1)) ?_;rw[if_neg (by decide)];refine hJ.ctl (s:=n) (λw=>stepG_skip) ?_;exact hq T1 w ⟨hF1,hs1,hS⟩
 . rintro j T w kk hj ⟨hF,hs,hS⟩ hq;refine zqv (s:=n) hJ hC zqk (by kernel_rfl) (λ(t:Array Value)(w':World)=>t=esF mm ap aL aC N db wb (λi=>t.getD i undef)/\t[15]?=some (Value.int .i64 ((j+1:Nat):Int))/\∃τ d,w'=re w τ d) (λt w' τ d h=>by obtain⟨h1,h2,τ',d',rfl⟩:=h;exact⟨h1,h2,τ,d,rfl⟩) hbk' (λτ d=>Code.wp_mono (λe a' w' h=>by
    cases e<;>first
     |(obtain⟨h1,h2,h3,rfl⟩:=h;exact⟨h1,h2,h3,τ,d,rfl⟩)
     |exact h) (es_s4 (w:=re w τ d) hF hs (by omega))) ?_
   rintro T1 w1 ⟨hF1,hs1,τ,d,rfl⟩;refine hJ.re' n _ _ τ d ?_;exact hq T1 w ⟨hF1,hs1,hS⟩
 . rintro T w ⟨hF,hs,hS⟩;exact hq T w hF hS
end
noncomputable def awT(n:Nat):Code:=tailN n (Try.f7.body.getD .skip)
theorem aw0:Try.f7.body.getD .skip=.seq (headC (awT 0)) (.seq (headC (awT 1)) (awT 2)):=by kernel_rfl
def awOps(i:Nat):List OpX:=if i=0 then [⟨1,0,0,0⟩]else [⟨4,0,0,0⟩,⟨4,0,0,0⟩]
theorem aw_ops{w:World}{rb p0 p1:Nat}(hr:w.heap[rb]?=some (.cells #[.slice (some ⟨p0,0,none⟩) 1 1,.slice (some ⟨p1,0,none⟩) 2 2] 92))(h0:w.heap[p0]?=some (.cells #[.int .i64 1,.int .i64 0,.int .i64 0,.int .i64 0] 44))(h1:w.heap[p1]?=some (.cells #[.int .i64 4,.int .i64 0,.int .i64 0,.int .i64 0,.int .i64 4,.int .i64 0,.int .i64 0,.int .i64 0] 44)):
 OpsAt w (λb=>if b=p0\/b=p1 then w.heap[b]? else none) (some ⟨rb,0,none⟩) 2 2 (λi=>if i=0 then some ⟨p0,0,none⟩else some ⟨p1,0,none⟩) (λi=>if i=0 then 1 else 2) (λi=>if i=0 then 1 else 2) awOps:=by
 refine⟨rfl,by decide,λ_=>⟨rb,0,rfl,λi hi=>?_⟩,λi hi=>?_,λi hi=>?_,λi hi k' op hop=>?_⟩
 . rw[zq1 hr];obtain rfl |rfl:i=0\/i=1:=by omega
   . rfl
   . rfl
 . obtain rfl |rfl:i=0\/i=1:=by omega
   . exact⟨by decide,by decide,λh=>(by cases h)⟩
   . exact⟨by decide,by decide,λh=>(by cases h)⟩
 . obtain rfl |rfl:i=0\/i=1:=by omega
   . rfl
   . rfl
 . obtain rfl |rfl:i=0\/i=1:=by omega
   . refine⟨p0,0,_,_,_,rfl,by rw[if_pos (.inl rfl)];exact h0,λj hj=>?_⟩;obtain rfl:k'=0:=by have:=(List.getElem?_eq_some_iff.1 hop).1;simp[awOps]at this;omega
     simp[awOps]at hop;subst hop;obtain rfl |rfl |rfl |rfl:j=0\/j=1\/j=2\/j=3:=by omega
     all_goals rfl
   . refine⟨p1,0,_,_,_,rfl,by rw[if_pos (.inr rfl)];exact h1,λj hj=>?_⟩;obtain rfl |rfl:k'=0\/k'=1:=by have:=(List.getElem?_eq_some_iff.1 hop).1;simp[awOps]at this;omega
     all_goals
      simp[awOps]at hop;subst hop;obtain rfl |rfl |rfl |rfl:j=0\/j=1\/j=2\/j=3:=by omega
      all_goals rfl
theorem aw_a0:(zq1a [] awOps 2 100 [0,1,1,1,1,0,1,1]).s.2 0=[⟨true,0,[]⟩]:=by kernel_rfl
theorem aw_a1:(zq1a [] awOps 2 100 [0,1,1,1,1,0,1,1]).s.2 1=[⟨true,1,[]⟩,⟨true,0,[]⟩]:=by kernel_rfl
theorem aw_st:epL (zq1a [] awOps 2 100 [0,1,1,1,1,0,1,1]).s.1 2=[1,1,0]:=by kernel_rfl
theorem aw_ord:(zq1a [] awOps 2 100 [0,1,1,1,1,0,1,1]).ord.length=8:=by kernel_rfl
theorem aw_stk:decide (0<leftN (zq1a [] awOps 2 100 [0,1,1,1,1,0,1,1]).ov 2)=false:=by kernel_rfl
theorem zqb6{Fin:Machine->Trace->Prop}(hFin:Back Try.prog Fin){n:Nat}(hn:0<n){w:World}{c:Frame}{cs:List Frame}(hmain:∀w',Beyond w w'->J0 Try.prog Fin (n+2) (G (c.finish (.bool true)) cs) w'):
 J0 Try.prog Fin n (G (Frame.enter Try.prog 7 #[] .normal) (c::cs)) w:=by
 have hJ:=j0_JS hFin;have hC:=zq15 hFin;have e:Frame.enter Try.prog 7 #[] .normal=(bN 7).at (zqm Try.f7 #[]) [.code ((Try.f7.body).getD .skip)]:=by kernel_rfl
 have ea:zqm Try.f7 #[]=⟨#[undef,undef,undef,undef,undef,undef,undef,undef,undef,undef,undef,undef,undef,undef,undef,undef,undef,undef,undef,undef,undef,undef,undef,undef,undef,undef,undef,undef,undef,undef,undef,undef,undef,undef,undef,undef,undef,undef,undef,undef,undef,undef,undef,undef,undef,undef,undef,undef,undef,undef,undef,undef,undef,undef,undef,undef,undef,undef,undef,undef,undef,undef,undef,undef,undef,undef,undef,undef,undef,undef,undef,undef,undef,undef,undef,undef,undef,undef,undef,undef,undef,undef,undef,undef,undef,undef,undef,undef,undef,undef,undef,undef,undef,undef],[]⟩:=by kernel_rfl
 rw[e,ea,aw0];clear e ea;have hm:=Lib.hid hmain;clear hmain;refine hJ.ctl (s:=n) (λw=>stepG_seq) ?_;refine zqv hJ hC zqk (by kernel_rfl) (λt w'=>t=#[.bool false,undef,undef,undef,undef,undef,undef,undef,undef,undef,undef,undef,undef,undef,undef,undef,undef,undef,undef,undef,undef,undef,undef,undef,undef,undef,undef,undef,undef,undef,undef,undef,undef,undef,undef,undef,undef,undef,undef,undef,undef,undef,undef,undef,undef,undef,undef,undef,undef,undef,undef,undef,undef,undef,undef,undef,undef,undef,undef,undef,undef,undef,undef,undef,undef,undef,undef,undef,undef,undef,undef,undef,undef,undef,undef,undef,undef,undef,undef,undef,undef,undef,undef,undef,undef,undef,undef,undef,undef,undef,undef,undef,undef,undef]/\∃τ d,w'=re w τ d) (λt w' τ d h=>⟨h.1,by obtain⟨τ',d',rfl⟩:=h.2;exact⟨τ,d,by rw[re_re]⟩⟩) (by decide) (λτ d=>?_) ?_
 . obtain⟨u0,hu0⟩:∃c,headC (awT 0)=c:=⟨_,rfl⟩;have eu0:=hu0;rw[hu0];simp only[awT,headC,tailN,Try.f7,al_od]at eu0;subst eu0;clear hu0;go_wp2;exact⟨rfl,rfl,τ,d,rfl⟩
 rintro t w' ⟨rfl,τ,d,rfl⟩;refine hJ.re' n _ _ τ d ?_;refine hJ.ctl (s:=n) (λw=>stepG_seq) ?_;obtain⟨u0,hu0⟩:∃c,headC (awT 1)=c:=⟨_,rfl⟩;have eu0:=hu0;rw[hu0];simp only[awT,headC,tailN,Try.f7,al_od]at eu0;subst eu0;clear hu0;refine hJ.ctl (s:=n) (λw=>stepG_region) ?_;refine zqg (s:=n) (by decide) hJ (zqf _) false (.inr rfl) 0 7 3 rfl rfl rfl (by rfl) ?_;intro τ d;simp only[List.drop_zero,List.take_succ_cons,List.take_zero];have HB0:=Lib.hid (Beyond.re w τ d);generalize re w τ d=v0 at HB0 |-;obtain⟨H,hH⟩:∃H,v0.heap.size=H:=⟨_,rfl⟩;have HH:=Lib.hid hH;go_wp2;simp only[zq7];have HW:RowKit.Hid (Beyond v0 ((((v0.alloc (.cells #[.int .i64 1,.int .i64 0,.int .i64 0,.int .i64 0] 44)).alloc (.cells #[.int .i64 4,.int .i64 0,.int .i64 0,.int .i64 0,.int .i64 4,.int .i64 0,.int .i64 0,.int .i64 0] 44)).alloc (.cells #[.slice (some ⟨H,0,none⟩) 1 1,.slice (some ⟨H+1,0,none⟩) 2 2] 92)).alloc (.cells #[.int .i64 0,.int .i64 1,.int .i64 1,.int .i64 1,.int .i64 1,.int .i64 0,.int .i64 1,.int .i64 1] 3))/\((((v0.alloc (.cells #[.int .i64 1,.int .i64 0,.int .i64 0,.int .i64 0] 44)).alloc (.cells #[.int .i64 4,.int .i64 0,.int .i64 0,.int .i64 0,.int .i64 4,.int .i64 0,.int .i64 0,.int .i64 0] 44)).alloc (.cells #[.slice (some ⟨H,0,none⟩) 1 1,.slice (some ⟨H+1,0,none⟩) 2 2] 92)).alloc (.cells #[.int .i64 0,.int .i64 1,.int .i64 1,.int .i64 1,.int .i64 1,.int .i64 0,.int .i64 1,.int .i64 1] 3)).heap[H]?=some (.cells #[.int .i64 1,.int .i64 0,.int .i64 0,.int .i64 0] 44)/\((((v0.alloc (.cells #[.int .i64 1,.int .i64 0,.int .i64 0,.int .i64 0] 44)).alloc (.cells #[.int .i64 4,.int .i64 0,.int .i64 0,.int .i64 0,.int .i64 4,.int .i64 0,.int .i64 0,.int .i64 0] 44)).alloc (.cells #[.slice (some ⟨H,0,none⟩) 1 1,.slice (some ⟨H+1,0,none⟩) 2 2] 92)).alloc (.cells #[.int .i64 0,.int .i64 1,.int .i64 1,.int .i64 1,.int .i64 1,.int .i64 0,.int .i64 1,.int .i64 1] 3)).heap[H+1]?=some (.cells #[.int .i64 4,.int .i64 0,.int .i64 0,.int .i64 0,.int .i64 4,.int .i64 0,.int .i64 0,.int .i64 0] 44)/\((((v0.alloc (.cells #[.int .i64 1,.int .i64 0,.int .i64 0,.int .i64 0] 44)).alloc (.cells #[.int .i64 4,.int .i64 0,.int .i64 0,.int .i64 0,.int .i64 4,.int .i64 0,.int .i64 0,.int .i64 0] 44)).alloc (.cells #[.slice (some ⟨H,0,none⟩) 1 1,.slice (some ⟨H+1,0,none⟩) 2 2] 92)).alloc (.cells #[.int .i64 0,.int .i64 1,.int .i64 1,.int .i64 1,.int .i64 1,.int .i64 0,.int .i64 1,.int .i64 1] 3)).heap[H+1+1]?=some (.cells #[.slice (some ⟨H,0,none⟩) 1 1,.slice (some ⟨H+1,0,none⟩) 2 2] 92)/\((((v0.alloc (.cells #[.int .i64 1,.int .i64 0,.int .i64 0,.int .i64 0] 44)).alloc (.cells #[.int .i64 4,.int .i64 0,.int .i64 0,.int .i64 0,.int .i64 4,.int .i64 0,.int .i64 0,.int .i64 0] 44)).alloc (.cells #[.slice (some ⟨H,0,none⟩) 1 1,.slice (some ⟨H+1,0,none⟩) 2 2] 92)).alloc (.cells #[.int .i64 0,.int .i64 1,.int .i64 1,.int .i64 1,.int .i64 1,.int .i64 0,.int .i64 1,.int .i64 1] 3)).heap[H+1+1+1]?=some (.cells #[.int .i64 0,.int .i64 1,.int .i64 1,.int .i64 1,.int .i64 1,.int .i64 0,.int .i64 1,.int .i64 1] 3)):=by
  refine Lib.hid ⟨(((Beyond.alloc _ _).trans (Beyond.alloc _ _)).trans (Beyond.alloc _ _)).trans (Beyond.alloc _ _),?_,?_,?_,?_⟩
  . rw[<-hH];exact zqt (zqt (zqt (zq13 _ _)))
  . refine zqt (zqt ?_);rw[zqc,if_pos (by rw[zq8,hH])]
  . refine zqt ?_;rw[zqc,if_pos (by simp only[zq8,hH])]
  . rw[zqc,if_pos (by simp only[zq8,hH])]
 generalize ((((v0.alloc (.cells #[.int .i64 1,.int .i64 0,.int .i64 0,.int .i64 0] 44)).alloc (.cells #[.int .i64 4,.int .i64 0,.int .i64 0,.int .i64 0,.int .i64 4,.int .i64 0,.int .i64 0,.int .i64 0] 44)).alloc (.cells #[.slice (some ⟨H,0,none⟩) 1 1,.slice (some ⟨H+1,0,none⟩) 2 2] 92)).alloc (.cells #[.int .i64 0,.int .i64 1,.int .i64 1,.int .i64 1,.int .i64 1,.int .i64 0,.int .i64 1,.int .i64 1] 3))=WA at HW |-;clear hH;refine zq14 (by decide) hJ (s:=n) rfl rfl (f:=9) (args:=#[.slice none 0 0,.slice (some ⟨H+1+1,0,none⟩) 2 2,.slice (some ⟨H+1+1+1,0,none⟩) 8 8,.int .i64 100]) (λτ d=>?_) (λτ d=>?_) ?_
 . simp[go_sem,execOp,Act.eval,resolve,Deferred.ofValue,invoke,callFunc,Try.func9,Try.f9]
 . intro e he;simp[go_sem,execOp,Act.eval,resolve,Deferred.ofValue,invoke,callFunc,Try.func9,Try.f9,Sem.runT_eq]at he
 refine zqbz hFin (n:=n) hn (RP:=λb=>if b=H\/b=H+1 then WA.heap[b]? else none) (start:=[]) (stp:=none) (stC:=0) (sched:=[0,1,1,1,1,0,1,1]) (ops:=awOps) (N:=2) (λh=>absurd rfl h) (λb o hb=>?_) (aw_ops HW.out.2.2.2.1 HW.out.2.1 HW.out.2.2.1) (by decide) (λ_=>⟨H+1+1+1,0,rfl,λj x hj=>?_⟩) ?_
 . split at hb
   . exact hb
   . cases hb
 . rw[zq1 HW.out.2.2.2.2,Nat.zero_add];have hlj:=(List.getElem?_eq_some_iff.1 hj).1;simp only[List.length_cons,List.length_nil]at hlj;obtain rfl |rfl |rfl |rfl |rfl |rfl |rfl |rfl:j=0\/j=1\/j=2\/j=3\/j=4\/j=5\/j=6\/j=7:=by omega
   all_goals(simp at hj;subst hj;rfl)
 intro ab ov sv am wp hR;rw[aw_stk];rw[Frame.finish_at]
 walk_nrm
 have hq1:=zqct hR.orow;have hq2:=zq5m hR.srow;rw[aw_st]at hq2;obtain⟨op,oc,rfl,-⟩:=hq1;obtain⟨sp,sc,rfl,hsv⟩:=hq2;obtain⟨sb,so,rfl,hsc⟩:=hsv (by decide);have s0:=hsc 0 (by decide);have s1:=hsc 1 (by decide);have s2:=hsc 2 (by decide);have ha0:=zq6l hR.ans (i:=0) (by decide);have ha1:=zq6l hR.ans (i:=1) (by decide);rw[hR.ast,aw_a0]at ha0;rw[hR.ast,aw_a1]at ha1;obtain⟨a1,pa,ca,a2,a3⟩:=ha0;obtain⟨b1,pb,cb,b2,b3⟩:=ha1;obtain⟨ga,oa,rfl,a4⟩:=a3 (by simp);obtain⟨gb,ob',rfl,b4⟩:=b3 (by simp);obtain⟨b5,b6,_⟩:=b4 0 _ rfl;obtain⟨b7,b8,_⟩:=b4 1 _ rfl;rw[a2]at a1;rw[b2]at b1;simp only[List.length_map,aw_ord,List.length_cons,List.length_nil,Nat.zero_add,Nat.zero_mul,Nat.one_mul,Nat.reduceAdd,Nat.add_assoc,Nat.add_zero,List.getD_cons_zero,List.getD_cons_succ]at a1 b1 b5 b6 b7 b8 s0 s1 s2 |-;have hbw:Beyond w wp:=(HB0.out.trans HW.out.1).trans ⟨hR.size,hR.old⟩;have HF:RowKit.Hid (wp.cell? ⟨ab,0,none⟩=some (.slice (some ⟨ga,oa,none⟩) 1 ca)/\wp.cell? ⟨ab,1,none⟩=some (.slice (some ⟨gb,ob',none⟩) 2 cb)/\wp.cell? ⟨gb,ob',none⟩=some (.bool true)/\wp.cell? ⟨gb,ob'+1,none⟩=some (.int .i64 1)/\wp.cell? ⟨gb,ob'+3,none⟩=some (.bool true)/\wp.cell? ⟨gb,ob'+4,none⟩=some (.int .i64 0)/\wp.cell? ⟨sb,so,none⟩=some (.int .i64 1)/\wp.cell? ⟨sb,so+1,none⟩=some (.int .i64 1)/\wp.cell? ⟨sb,so+2,none⟩=some (.int .i64 0)):=Lib.hid (And.intro a1 (And.intro b1 (And.intro b5 (And.intro b6 (And.intro b7 (And.intro b8 (And.intro s0 (And.intro s1 s2))))))));have HBW:=Lib.hid hbw;clear hR a1 a2 a3 a4 b1 b2 b3 b4 b5 b6 b7 b8 s0 s1 s2 hsc hsv HW HB0 hbw;refine zqg (s:=n+2) (by decide) hJ (zqf _) false (.inr rfl) 8 2 0 rfl rfl rfl (by rfl) ?_;intro τ d;simp only[List.drop_succ_cons,List.drop_zero,List.take_succ_cons,List.take_zero];have HF2:RowKit.Hid ((re wp τ d).cell? ⟨ab,0,none⟩=some (.slice (some ⟨ga,oa,none⟩) 1 ca)/\(re wp τ d).cell? ⟨ab,1,none⟩=some (.slice (some ⟨gb,ob',none⟩) 2 cb)/\(re wp τ d).cell? ⟨gb,ob',none⟩=some (.bool true)/\(re wp τ d).cell? ⟨gb,ob'+1,none⟩=some (.int .i64 1)/\(re wp τ d).cell? ⟨gb,ob'+3,none⟩=some (.bool true)/\(re wp τ d).cell? ⟨gb,ob'+4,none⟩=some (.int .i64 0)/\(re wp τ d).cell? ⟨sb,so,none⟩=some (.int .i64 1)/\(re wp τ d).cell? ⟨sb,so+1,none⟩=some (.int .i64 1)/\(re wp τ d).cell? ⟨sb,so+2,none⟩=some (.int .i64 0)):=Lib.hid HF.out;have HBW2:=Lib.hid (HBW.out.trans (Beyond.re wp τ d));generalize re wp τ d=x0 at HF2 HBW2 |-;clear HF HBW;go_wp2;simp only[zq7];refine hJ.ctl (s:=n+2) (λw=>stepG_region_end) ?_;have hT:=zq13 x0 (.cells #[.slice (some ⟨ab,0,none⟩) 2 2,.slice op 8 oc,.slice (some ⟨sb,so,none⟩) 3 sc,.bool false] 29);have hbx:Beyond x0 (x0.alloc (.cells #[.slice (some ⟨ab,0,none⟩) 2 2,.slice op 8 oc,.slice (some ⟨sb,so,none⟩) 3 sc,.bool false] 29)):=Beyond.alloc _ _;generalize (x0.alloc (.cells #[.slice (some ⟨ab,0,none⟩) 2 2,.slice op 8 oc,.slice (some ⟨sb,so,none⟩) 3 sc,.bool false] 29))=y0 at hT hbx |-;obtain⟨T,hTT⟩:∃T,x0.heap.size=T:=⟨_,rfl⟩;rw[hTT]at hT |-;clear hTT;have HY:=Lib.hid (HBW2.out.trans hbx);obtain⟨a1,b1,b5,b6,b7,b8,s0,s1,s2⟩:=HF2.out;replace a1:=hbx.cell a1;replace b1:=hbx.cell b1;replace b5:=hbx.cell b5;replace b6:=hbx.cell b6;replace b7:=hbx.cell b7;replace b8:=hbx.cell b8;replace s0:=hbx.cell s0;replace s1:=hbx.cell s1;replace s2:=hbx.cell s2;have t0:=(zq1 (off:=0) hT).trans rfl;have t1:=(zq1 (off:=1) hT).trans rfl;have t2:=(zq1 (off:=2) hT).trans rfl;have t3:=(zq1 (off:=3) hT).trans rfl;have FF:=Lib.hid (And.intro a1 (And.intro b1 (And.intro b5 (And.intro b6 (And.intro b7 (And.intro b8 (And.intro s0 (And.intro s1 (And.intro s2 (And.intro t0 (And.intro t1 (And.intro t2 t3))))))))))));clear hT hbx HF2 HBW2 a1 b1 b5 b6 b7 b8 s0 s1 s2 t0 t1 t2 t3;refine zq32 hJ hC zqk (by kernel_rfl) (λv w'=>v=.bool true/\Beyond y0 w') (λv w' τ d h=>⟨h.1,h.2.trans (Beyond.re _ _ _)⟩) rfl Try.func7 (λτ d=>?_) ?_
 . obtain⟨u0,hu0⟩:∃c,awT 2=c:=⟨_,rfl⟩;have eu0:=hu0;rw[hu0];simp only[awT,headC,tailN,Try.f7,al_od]at eu0;subst eu0;clear hu0 hm;obtain⟨a1,b1,b5,b6,b7,b8,s0,s1,s2,t0,t1,t2,t3⟩:=FF.out;clear FF;have hcl:∀a,(re y0 τ d).cell? a=y0.cell? a:=λa=>rfl;rw[<-hcl]at a1 b1 b5 b6 b7 b8 s0 s1 s2 t0 t1 t2 t3;clear hcl;have HR:RowKit.Hid (Beyond y0 (re y0 τ d)):=Lib.hid (Beyond.re _ _ _);generalize re y0 τ d=z0 at HR a1 b1 b5 b6 b7 b8 s0 s1 s2 t0 t1 t2 t3 |-;go_wp2;go_ret;exact⟨_,rfl,rfl,HR.out⟩
 . rintro v w' ⟨rfl,h⟩;exact hm.out _ (HY.out.trans h)
section
variable {Fin:Machine->Trace->Prop} {n:Nat} {b:Frame} {cs:List Frame} {kk:List Item} {W0:World} {T0:EpT} {wb vb:Nat} {mm:Int} {ap:Option Addr} {aL aC N db:Nat}
theorem es_end{Post:Value->World->Prop}(hPost:∀v w τ d,Post v w->Post v (re w τ d)){b:Frame}(hbf:b.fn=6)(hbk:b.kind=.normal){acts:List (Int×OpX)}(hA:zq2z W0 ap acts)(hl:acts.length=aL)(hle:aL<=1048576)(hend:∀w',Beyond W0 w'->Post (.bool true) w')(hN:T0.N=N)(hN64:N<=64)(hpos:0<N)(hdb:T0.db=db){T:Array Value}{w:World}(hF:T=esF mm ap aL aC N db wb (λi=>T.getD i undef))(hst:∃m tv iv W E,SAt W0 T0 m wb vb tv iv W w/\SInv T0.N 0 E m.s W):
 J0 Try.prog (FinOf Try.prog Post) n (G (b.at ⟨T,[]⟩ [.code (esT 6)]) []) w:=by
 have hFin:=zq6n (P:=Try.prog) Post;have hJ:=j0_JS hFin;have hC:=zq15 hFin;have hbk':b.kind≠.early:=by rw[hbk];decide
 rw[esLp0];refine hJ.ctl (s:=n) (λw=>stepG_seq) ?_;refine es_loop0 hFin hbk (by omega) hA hl hle hF hst ?_;clear hF hst;rintro T w hF ⟨m,tv,iv,W,E,hS,hI⟩;rw[esLp1];refine hJ.ctl (s:=n) (λw=>stepG_seq) ?_;refine es_loop1 (c0:=aL) hFin hbk hN hN64 (by omega) hF ⟨m,tv,iv,W,E,hS,hI,λi hi=>absurd hi (Nat.not_lt_zero _)⟩ ?_;clear hF hS hI;rintro T w hF ⟨m,tv,iv,W,E,hS,hI,hev⟩;rw[esLp2];refine hJ.ctl (s:=n) (λw=>stepG_seq) ?_;refine es_loop2 (c0:=aL+N) hFin hbk hdb (by omega) (by omega) hF ⟨m,tv,iv,W,E,hS,hI,λi hi=>hev i (by omega) hi,by have:=hI.oldAll;rw[hI.e]at this;simpa using this⟩ ?_;clear hF hS hI hev;rintro T w hF ⟨m,tv,iv,W,E,hS,hI,_,hold⟩;rw[esLp3];refine hJ.ctl (s:=n) (λw=>stepG_seq) ?_;refine es_loop3 (c0:=aL+N+2) hFin hbk hN hN64 hdb (by omega) hF ⟨m,tv,iv,W,E,hS,hI,by simpa using hold,λi hi=>absurd hi (Nat.not_lt_zero _)⟩ ?_;clear hF hS hI hold;rintro T w hF ⟨m,tv,iv,W,E,hS,hI,_,hnil⟩;rw[esLp4];refine hJ.ctl (s:=n) (λw=>stepG_seq) ?_;obtain⟨p,C,htv,_⟩:=hS.row';refine es_loop4 hFin hbk rfl (by have:=hI.len;omega) htv (hI.allBack λi hi=>hnil i (by omega) hi) hF hS ?_;clear hF hS;rintro T w hF hS;have e11:esT 11=.seq (headC (esT 11)) .ret:=by kernel_rfl
 rw[e11];refine hJ.ctl (s:=n) (λw=>stepG_seq) ?_;refine zqv (s:=n) hJ hC zqk (by kernel_rfl) (λ(t:Array Value)(w':World)=>t[4]?=some (Value.bool true)/\Beyond w w') (λt w' τ d h=>h) hbk' (λτ d=>?_) ?_
 . generalize hw1:re w τ d=w3;have hb3:Beyond w w3:=hw1▸Beyond.re w τ d;have HB3:=Lib.hid hb3;clear hw1 hb3 hend hA hS htv hnil;obtain⟨v,hv0,hvv⟩:∃v,T=esF mm ap aL aC N db wb v/\v=λi=>T.getD i undef:=⟨_,hF,rfl⟩;clear hF hvv;subst hv0;unfold esF;obtain⟨u_,hu_⟩:∃c,headC (esT 11)=c:=⟨_,rfl⟩;have eu_:=hu_;rw[hu_];simp only[esL,esH,esB,esS,esT,headC,tailN,sndC,zqj,loopC,condT,Try.f6,al_od]at eu_;subst eu_;clear hu_;go_wp2;exact⟨rfl,rfl,HB3.out⟩
 rintro T3 w3 ⟨h4,hb3⟩;refine hJ.ctl (s:=n) (λw=>stepG_ret') ?_;refine j0_end hPost hbk (by show Try.prog.inits.idxOf? b.fn=none;rw[hbf];kernel_rfl) (fn:=Try.f6) (by show Try.prog.funcs[b.fn]?=_;rw[hbf];exact Try.func6) (v:=.bool true) ?_ (hend _ (hS.be.trans hb3));simp only[results,Try.f6];simp[go_sem,h4]
end
theorem SInv.zero (N:Nat):SInv N 0 0 (ep0 0) ⟨λ_=>0,[]⟩:=
 ⟨rfl,Nat.le_refl _,λk _ h=>absurd (show 0 % 2=1 from h) (by decide),λi x _ h=>absurd (show x∈([]:List (Int×Int))from h) List.not_mem_nil,λk _ _=>rfl,λk _=>rfl,λk _=>Nat.le_refl _,Nat.le_refl _,λn t h=>absurd (show([]:List STh)[n]?=some t from h) (by simp),λi _=>List.nodup_nil,λn t h=>absurd (show([]:List STh)[n]?=some t from h) (by simp)⟩
theorem zqc0{Post:Value->World->Prop}(hPost:∀v w τ d,Post v w->Post v (re w τ d)){W:World}{mm:Int}{ap:Option Addr}{aL aC:Nat}{acts:List (Int×OpX)}(hmm:0<=mm/\mm<256)(hA:zq2z W ap acts)(hl:acts.length=aL)(hle:aL<=1048576)(hend:∀w',Beyond W w'->Post (.bool true) w'):
 FinOf Try.prog Post (solo (G (Frame.enter Try.prog 6 #[.int .u8 mm,.slice ap aL aC] .normal) []) W) #[]:=by
 refine j0_run Try.func6 rfl ?_;have hFin:=zq6n (P:=Try.prog) Post;have hJ:=j0_JS hFin;have hC:=zq15 hFin;have e:Frame.enter Try.prog 6 #[.int .u8 mm,.slice ap aL aC] .normal=(bN 6).at (zqm Try.f6 #[.int .u8 mm,.slice ap aL aC]) [.code ((Try.f6.body).getD .skip)]:=by kernel_rfl
 have ea:zqm Try.f6 #[.int .u8 mm,.slice ap aL aC]=⟨#[.int .u8 mm,.slice ap aL aC,undef,undef,undef,undef,undef,undef,undef,undef,undef,undef,undef,undef,undef,undef,undef,undef,undef,undef,undef,undef,undef,undef,undef,undef,undef,undef,undef,undef,undef,undef,undef,undef,undef,undef,undef,undef,undef,undef,undef,undef,undef,undef,undef,undef,undef,undef,undef,undef,undef,undef,undef,undef,undef,undef,undef,undef,undef,undef,undef,undef,undef,undef,undef,undef,undef,undef,undef,undef,undef,undef,undef,undef,undef,undef,undef,undef,undef,undef,undef,undef,undef,undef,undef,undef,undef,undef,undef,undef,undef,undef,undef,undef,undef,undef,undef,undef,undef,undef,undef,undef,undef,undef,undef,undef,undef,undef,undef,undef,undef,undef,undef,undef,undef,undef,undef,undef,undef,undef,undef,undef],[]⟩:=by kernel_rfl
 obtain⟨N,hNe⟩:∃N:Nat,(1+mm % 6:Int)=N:=⟨(1+mm % 6).toNat,by omega⟩;have hN64:N<=64:=by omega
 have hpos:0<N:=by omega
 have f1:mm.tmod 6=mm % 6:=Int.tmod_eq_emod_of_nonneg hmm.1;have f2:wrap64 (mm % 6)=mm % 6:=by unfold wrap64;omega
 have f3:wrap64 (1+mm % 6)=(N:Int):=by unfold wrap64;omega
 have HN:=Lib.hid hNe;clear hNe hmm;rw[e,ea,es0s];clear e ea;refine hJ.ctl (s:=1) (λw=>stepG_seq) ?_;refine zqv hJ hC zqk (by kernel_rfl) (λt w'=>t=#[.int .u8 mm,.slice ap aL aC,undef,undef,.bool false,undef,undef,undef,undef,undef,undef,undef,undef,undef,undef,undef,undef,undef,undef,undef,undef,undef,undef,undef,undef,undef,undef,undef,undef,undef,undef,undef,undef,undef,undef,undef,undef,undef,undef,undef,undef,undef,undef,undef,undef,undef,undef,undef,undef,undef,undef,undef,undef,undef,undef,undef,undef,undef,undef,undef,undef,undef,undef,undef,undef,undef,undef,undef,undef,undef,undef,undef,undef,undef,undef,undef,undef,undef,undef,undef,undef,undef,undef,undef,undef,undef,undef,undef,undef,undef,undef,undef,undef,undef,undef,undef,undef,undef,undef,undef,undef,undef,undef,undef,undef,undef,undef,undef,undef,undef,undef,undef,undef,undef,undef,undef,undef,undef,undef,undef,undef,undef]/\∃τ d,w'=re W τ d) (λt w' τ d h=>by obtain⟨h1,τ',d',rfl⟩:=h;exact⟨h1,τ,d,rfl⟩) (by decide) (λτ d=>?_) ?_
 . clear hend hA f1 f2 f3;obtain⟨u_,hu_⟩:∃c,headC (esT 0)=c:=⟨_,rfl⟩;have eu_:=hu_;rw[hu_];simp only[esL,esH,esB,esS,esT,headC,tailN,sndC,zqj,loopC,condT,Try.f6,al_od]at eu_;subst eu_;clear hu_;go_wp2;exact⟨rfl,rfl,τ,d,rfl⟩
 rintro t w' ⟨rfl,τ,d,rfl⟩;refine hJ.re' 1 _ _ τ d ?_;refine hJ.ctl (s:=1) (λw=>stepG_seq) ?_;refine hJ.ctl (s:=1) (λw=>stepG_seq) ?_;obtain⟨u_,hu_⟩:∃c,headC (headC (esT 1))=c:=⟨_,rfl⟩;have eu_:=hu_;rw[hu_];simp only[esL,esH,esB,esS,esT,headC,tailN,sndC,zqj,loopC,condT,Try.f6,al_od]at eu_;subst eu_;clear hu_;refine hJ.ctl (s:=1) (λw=>stepG_region) ?_;refine zq14 (by decide) hJ (s:=1) rfl rfl (f:=7) (args:=#[]) (λτ d=>?_) (λτ d=>?_) ?_
 . simp[go_sem,execOp,Act.eval,resolve,Deferred.ofValue,invoke,callFunc,Try.func7,Try.f7]
 . intro e he;simp[go_sem,execOp,Act.eval,resolve,Deferred.ofValue,invoke,callFunc,Try.func7,Try.f7,Sem.runT_eq]at he
 refine zqb6 hFin (n:=1) (by decide) ?_;intro w hb1;rw[Frame.finish_at]
 walk_nrm
 refine zqg (s:=1+2) (by first|decide |omega) hJ (zqf _) false (.inr rfl) 1 1 0 rfl rfl rfl (by rfl) ?_;intro τ d;simp only[List.drop_succ_cons,List.drop_zero,List.take_succ_cons,List.take_zero];have HB:RowKit.Hid (Beyond W (re w τ d)):=Lib.hid (hb1.trans (Beyond.re w τ d));generalize re w τ d=w at HB |-;have HH:=Lib.hid (And.intro hA (And.intro hl (And.intro hle hend)));clear hA hl hle hend hb1;go_wp2;simp only[zq7];refine hJ.ctl (s:=1+2) (λw=>stepG_region_end) ?_;refine hJ.ctl (s:=1+2) (λw=>stepG_cond (t:=false) rfl) ?_;rw[if_neg (by decide)];refine hJ.ctl (s:=1+2) (λw=>stepG_skip) ?_;rw[es2s];refine hJ.ctl (s:=1+2) (λw=>stepG_seq) ?_;obtain⟨u_,hu_⟩:∃c,headC (esT 2)=c:=⟨_,rfl⟩;have eu_:=hu_;rw[hu_];simp only[esL,esH,esB,esS,esT,headC,tailN,sndC,zqj,loopC,condT,Try.f6,al_od]at eu_;subst eu_;clear hu_;refine hJ.ctl (s:=1+2) (λw=>stepG_region) ?_;refine zqg (s:=1+2) (by first|decide |omega) hJ (zqf _) false (.inr rfl) 0 5 0 rfl rfl rfl (by rfl) ?_;intro τ d;simp only[List.drop_succ_cons,List.drop_zero,List.take_succ_cons,List.take_zero];replace HB:=Lib.hid (HB.out.trans (Beyond.re w τ d));generalize re w τ d=w at HB |-;go_wp2;simp only[zq7]
 try rw[HN.out]
 refine hJ.ctl (s:=1+2) (λw=>stepG_region_end) ?_;clear f1 f2 f3;refine hJ.ctl (s:=1+2) (λw=>stepG_seq) ?_;obtain⟨u_,hu_⟩:∃c,headC (esT 3)=c:=⟨_,rfl⟩;have eu_:=hu_;rw[hu_];simp only[esL,esH,esB,esS,esT,headC,tailN,sndC,zqj,loopC,condT,Try.f6,al_od]at eu_;subst eu_;clear hu_;refine hJ.ctl (s:=1+2) (λw=>stepG_region) ?_;refine zqg (s:=1+2) (by first|decide |omega) hJ (zqf _) false (.inr rfl) 0 1 6 rfl rfl rfl (by rfl) ?_;intro τ d;simp only[List.drop_succ_cons,List.drop_zero,List.take_succ_cons,List.take_zero];replace HB:=Lib.hid (HB.out.trans (Beyond.re w τ d));generalize re w τ d=w at HB |-;go_wp2;simp only[zq7];refine zq14 (by decide) hJ (s:=1+2) rfl rfl (f:=11) (args:=#[.int .i64 (N:Int)]) (λτ d=>?_) (λτ d=>?_) ?_
 . simp[go_sem,execOp,Act.eval,resolve,Deferred.ofValue,invoke,callFunc,Try.func11,Try.f11]
 . intro e he;simp[go_sem,execOp,Act.eval,resolve,Deferred.ofValue,invoke,callFunc,Try.func11,Try.f11,Sem.runT_eq]at he
 refine zq5d (s:=1+2) hJ hC zqk Try.func11 rfl (by kernel_rfl) (R:=λv w'=>∃db mb,v=.tuple #[.pointer (some ⟨db,0,none⟩),.int .i64 0]/\NewDom w db mb N 0 w') (λv w' τ d h=>by
  obtain⟨db,mb,h1,h2⟩:=h;exact⟨db,mb,h1,⟨h2.be.trans (Beyond.re _ _ _),h2.lo,h2.rep.re τ d⟩⟩) (λτ d=>?_) ?_
 . refine Calls.mono (zq6y N hN64 (re w τ d)) ?_;rintro e w' ⟨db,mb,rfl,h⟩;exact⟨_,rfl,db,mb,rfl,⟨(Beyond.re w τ d).trans h.be,h.lo,h.rep⟩⟩
 rintro _ w1 ⟨db,mb,rfl,hD⟩;have HS0:RowKit.Hid (W.heap.size<=db/\W.heap.size<=mb):=Lib.hid ⟨Nat.le_trans HB.out.1 hD.lo.1,Nat.le_trans HB.out.1 hD.lo.2⟩;have HR:RowKit.Hid (EpRep (epT db mb N) (epM0 0) w1):=Lib.hid hD.rep;replace HB:=Lib.hid (HB.out.trans hD.be);clear hD;rw[Frame.finish_at]
 walk_nrm
 refine zqg (s:=1+2) (by first|decide |omega) hJ (zqf _) false (.inr rfl) 2 5 0 rfl rfl rfl (by rfl) ?_;intro τ d;simp only[List.drop_succ_cons,List.drop_zero,List.take_succ_cons,List.take_zero];replace HB:=Lib.hid (HB.out.trans (Beyond.re w1 τ d));replace HR:=Lib.hid (HR.out.re τ d);generalize re w1 τ d=w at HB HR |-;go_wp2;simp only[zq7];refine hJ.ctl (s:=1+2) (λw=>stepG_region_end) ?_;refine hJ.ctl (s:=1+2) (λw=>stepG_seq) ?_;refine hJ.ctl (s:=1+2) (λw=>stepG_seq) ?_;obtain⟨u_,hu_⟩:∃c,headC (headC (esT 4))=c:=⟨_,rfl⟩;have eu_:=hu_;rw[hu_];simp only[esL,esH,esB,esS,esT,headC,tailN,sndC,zqj,loopC,condT,Try.f6,al_od]at eu_;subst eu_;clear hu_;refine hJ.ctl (s:=1+2) (λw=>stepG_region) ?_;refine zqg (s:=1+2) (by first|decide |omega) hJ (zqf _) false (.inr rfl) 0 6 0 rfl rfl rfl (by rfl) ?_;intro τ d;simp only[List.drop_succ_cons,List.drop_zero,List.take_succ_cons,List.take_zero];replace HB:=Lib.hid (HB.out.trans (Beyond.re w τ d));replace HR:=Lib.hid (HR.out.re τ d);generalize re w τ d=w at HB HR |-;go_wp2;simp only[zq7];refine hJ.ctl (s:=1+2) (λw=>stepG_region_end) ?_;refine hJ.ctl (s:=1+2) (λw=>stepG_cond (t:=false) rfl) ?_;rw[if_neg (by decide)];refine hJ.ctl (s:=1+2) (λw=>stepG_skip) ?_;refine hJ.ctl (s:=1+2) (λw=>stepG_seq) ?_;obtain⟨u_,hu_⟩:∃c,headC (esT 5)=c:=⟨_,rfl⟩;have eu_:=hu_;rw[hu_];simp only[esL,esH,esB,esS,esT,headC,tailN,sndC,zqj,loopC,condT,Try.f6,al_od]at eu_;subst eu_;clear hu_;refine hJ.ctl (s:=1+2) (λw=>stepG_region) ?_;refine zqg (s:=1+2) (by first|decide |omega) hJ (zqf _) false (.inr rfl) 0 6 0 rfl rfl rfl (by rfl) ?_;intro τ d;simp only[List.drop_succ_cons,List.drop_zero,List.take_succ_cons,List.take_zero];replace HB:=Lib.hid (HB.out.trans (Beyond.re w τ d));replace HR:=Lib.hid (HR.out.re τ d);generalize re w τ d=w at HB HR |-;have hm:=zqd7 w N hN64;have hS:RowKit.Hid (SAt W (epT db mb N) (epM0 0) (w.heap.size+1) w.heap.size (.slice none 0 0) (λ_=>undef) ⟨λ_=>0,[]⟩ ((w.alloc (.cells (visA N λ_=>0) 3)).alloc (.cells #[.pointer (some ⟨db,0,none⟩),.slice (some ⟨w.heap.size,0,none⟩) N N,.slice none 0 0] 87))):=Lib.hid (by
  have hs:=zq8 w (.cells (visA N λ_=>0) 3);have hb2:Beyond w ((w.alloc (.cells (visA N λ_=>0) 3)).alloc (.cells #[.pointer (some ⟨db,0,none⟩),.slice (some ⟨w.heap.size,0,none⟩) N N,.slice none 0 0] 87)):=(Beyond.alloc _ _).trans (Beyond.alloc _ _);refine⟨⟨rfl,rfl,rfl,hN64⟩,(zqb (epT db mb N)).frame _ _ _ HR.out λb' hf=>hb2.2 b' ((zqb (epT db mb N)).lt _ _ _ HR.out hf),by rw[<-hs];exact zq13 _ _,zqt (zq13 _ _),HB.out.trans hb2,⟨by have:=HB.out.1;omega,HB.out.1,λb' hf=>?_⟩,World.ownsRow_nil _ _ _ _,λn t h=>absurd (show([]:List STh)[n]?=some t from h) (by simp)⟩;rcases hf with h|h|⟨i,_,h⟩
  . rw[h];exact HS0.out.1
  . rw[h];exact HS0.out.2
  . exact absurd rfl h)
 go_wp2;simp only[zq7];clear hm;refine hJ.ctl (s:=1+2) (λw=>stepG_region_end) ?_;exact es_end (T0:=epT db mb N) (N:=N) (db:=db) hPost rfl rfl HH.out.1 HH.out.2.1 HH.out.2.2.1 HH.out.2.2.2 rfl hN64 hpos rfl rfl ⟨_,_,_,_,0,hS.out,SInv.zero N⟩
section
variable {Fin:Machine->Trace->Prop} {n:Nat} {b:Frame} {kk:List Item} {cs:List Frame}
end
section
variable {N:Int} {aL aC db rb kb:Nat} {ap:Option Addr} {T:Array Value} {w:World}
end
section
variable {Fin:Machine->Trace->Prop} {n:Nat} {b:Frame} {kk:List Item} {cs:List Frame}
end
def ec0(mm:Int)(aL aC:Nat)(ap:Option Addr)(v:Nat->Value):Array Value:=#[.int .i64 mm,.slice ap aL aC,v 2,v 3,.bool false,v 5,v 6,v 7,v 8,v 9,v 10,v 11,v 12,v 13,v 14,v 15,v 16,v 17,v 18,v 19,v 20,v 21,v 22,v 23,v 24,v 25,v 26,v 27,v 28,v 29,v 30,v 31,v 32,v 33,v 34,v 35,v 36,v 37,v 38,v 39,v 40,v 41,v 42,v 43,v 44,v 45,v 46,v 47,v 48,v 49,v 50,v 51,v 52,v 53,v 54,v 55,v 56,v 57,v 58,v 59,v 60,v 61,v 62,v 63,v 64,v 65,v 66,v 67,v 68,v 69,v 70,v 71,v 72,v 73,v 74,v 75,v 76,v 77,v 78,v 79,v 80,v 81,v 82,v 83,v 84,v 85,v 86,v 87,v 88,v 89,v 90,v 91,v 92,v 93,v 94,v 95,v 96,v 97,v 98,v 99,v 100,v 101,v 102,v 103,v 104,v 105,v 106,v 107,v 108,v 109,v 110,v 111,v 112,v 113,v 114,v 115,v 116,v 117,v 118,v 119,v 120,v 121,v 122,v 123,v 124,v 125,v 126,v 127,v 128,v 129,v 130,v 131,v 132,v 133,v 134,v 135,v 136,v 137,v 138,v 139,v 140,v 141,v 142,v 143,v 144,v 145,v 146,v 147,v 148,v 149,v 150,v 151,v 152,v 153,v 154,v 155,v 156,v 157,v 158,v 159,v 160,v 161,v 162,v 163,v 164,v 165,v 166,v 167,v 168,v 169,v 170,v 171,v 172,v 173,v 174,v 175,v 176,v 177,v 178,v 179,v 180,v 181,v 182,v 183,v 184,v 185,v 186,v 187,v 188,v 189,v 190,v 191,v 192,v 193,v 194,v 195,v 196,v 197,v 198,v 199,v 200,v 201,v 202,v 203,v 204,v 205,v 206]
def ec1(mm:Int)(aL aC:Nat)(ap:Option Addr)(db:Nat)(v:Nat->Value):Array Value:=#[.int .i64 mm,.slice ap aL aC,v 2,v 3,.bool false,.pointer (some ⟨db,0,none⟩),.int .i64 0,v 7,v 8,v 9,v 10,v 11,v 12,v 13,v 14,v 15,v 16,v 17,v 18,v 19,v 20,v 21,v 22,v 23,v 24,v 25,v 26,v 27,v 28,v 29,v 30,v 31,v 32,v 33,v 34,v 35,v 36,v 37,v 38,v 39,v 40,v 41,v 42,v 43,v 44,v 45,v 46,v 47,v 48,v 49,v 50,v 51,v 52,v 53,v 54,v 55,v 56,v 57,v 58,v 59,v 60,v 61,v 62,v 63,v 64,v 65,v 66,v 67,v 68,v 69,v 70,v 71,v 72,v 73,v 74,v 75,v 76,v 77,v 78,v 79,v 80,v 81,v 82,v 83,v 84,v 85,v 86,v 87,v 88,v 89,v 90,v 91,v 92,v 93,v 94,v 95,v 96,v 97,v 98,v 99,v 100,v 101,v 102,v 103,v 104,v 105,v 106,v 107,v 108,v 109,v 110,v 111,v 112,v 113,v 114,v 115,v 116,v 117,v 118,v 119,v 120,v 121,v 122,v 123,v 124,v 125,v 126,v 127,v 128,v 129,v 130,v 131,v 132,v 133,v 134,v 135,v 136,v 137,v 138,v 139,v 140,v 141,v 142,v 143,v 144,v 145,v 146,v 147,v 148,v 149,v 150,v 151,v 152,v 153,v 154,v 155,v 156,v 157,v 158,v 159,v 160,v 161,v 162,v 163,v 164,v 165,v 166,v 167,v 168,v 169,v 170,v 171,v 172,v 173,v 174,v 175,v 176,v 177,v 178,v 179,v 180,v 181,v 182,v 183,v 184,v 185,v 186,v 187,v 188,v 189,v 190,v 191,v 192,v 193,v 194,v 195,v 196,v 197,v 198,v 199,v 200,v 201,v 202,v 203,v 204,v 205,v 206]
def ec2(mm:Int)(aL aC:Nat)(ap:Option Addr)(db rb:Nat)(v:Nat->Value):Array Value:=#[.int .i64 mm,.slice ap aL aC,v 2,v 3,.bool false,.pointer (some ⟨db,0,none⟩),.int .i64 0,.pointer (some ⟨rb,0,none⟩),v 8,v 9,v 10,v 11,v 12,v 13,v 14,v 15,v 16,v 17,v 18,v 19,v 20,v 21,v 22,v 23,v 24,v 25,v 26,v 27,v 28,v 29,v 30,v 31,v 32,v 33,v 34,v 35,v 36,v 37,v 38,v 39,v 40,v 41,v 42,v 43,v 44,v 45,v 46,v 47,v 48,v 49,v 50,v 51,v 52,v 53,v 54,v 55,v 56,v 57,v 58,v 59,v 60,v 61,v 62,v 63,v 64,v 65,v 66,v 67,v 68,v 69,v 70,v 71,v 72,v 73,v 74,v 75,v 76,v 77,v 78,v 79,v 80,v 81,v 82,v 83,v 84,v 85,v 86,v 87,v 88,v 89,v 90,v 91,v 92,v 93,v 94,v 95,v 96,v 97,v 98,v 99,v 100,v 101,v 102,v 103,v 104,v 105,v 106,v 107,v 108,v 109,v 110,v 111,v 112,v 113,v 114,v 115,v 116,v 117,v 118,v 119,v 120,v 121,v 122,v 123,v 124,v 125,v 126,v 127,v 128,v 129,v 130,v 131,v 132,v 133,v 134,v 135,v 136,v 137,v 138,v 139,v 140,v 141,v 142,v 143,v 144,v 145,v 146,v 147,v 148,v 149,v 150,v 151,v 152,v 153,v 154,v 155,v 156,v 157,v 158,v 159,v 160,v 161,v 162,v 163,v 164,v 165,v 166,v 167,v 168,v 169,v 170,v 171,v 172,v 173,v 174,v 175,v 176,v 177,v 178,v 179,v 180,v 181,v 182,v 183,v 184,v 185,v 186,v 187,v 188,v 189,v 190,v 191,v 192,v 193,v 194,v 195,v 196,v 197,v 198,v 199,v 200,v 201,v 202,v 203,v 204,v 205,v 206]
section
variable {Fin:Machine->Trace->Prop} {n:Nat} {b:Frame} {kk:List Item} {cs:List Frame}
end
end Go.Proofs
namespace Go.Proofs.Ytmgmbciplfkddaa
open Go Go.Conc Go.RowKit Go.Car Go.ChangeShapes Go.WideShapes Go.ChangeAt Go.Deep
theorem zqay{H:Type}{enc:TypeId×Value->H}{w:World}{held:Bool}{sp:Nat->Bool}{cs:List Value}{d:DataW H}{ps:List MemPlace}{fuel:Nat}(h:DataW.trod enc Try.prog w 0 sp held fuel 32 cs=some (d,ps)):
 ∃(q:Option Addr)(l:List (Int×OpX))(C:Nat),cs=[.slice q l.length C]/\lenD d=l.length/\zq2z w q l:=by
 rcases open_slice (e:=46) (by kernel_rfl) h with⟨hcs,hx⟩|⟨a,len,cap,m,n,D,Pl,hcs,_,hl,_,hm,hx,hcell⟩
 . cases hx;exact⟨none,[],0,hcs,rfl,λh=>absurd rfl h⟩
 . have hlm:len<=m:=by rw[hm];split<;>omega
   have hc:Try.prog.cellsOf 46=5:=by kernel_rfl
   have each:∀i,i<len->∃x:Int×OpX,∀j,j<5->w.cell? ((a.add (i*5)).add j)=(actC x.1 x.2)[j]?:=λi hi=>by
    obtain⟨cs',h1,h2⟩:=hcell i (by omega);rw[hc]at h1;have hcl:cs'.length=5:=by
     obtain⟨y0,y1,n,_,hlen,_⟩:=trod_struct2 Try.underlying46 h2;rw[hlen,hc]
    match cs',hcl,h1,h2 with
    |[c0,c1,c2,c3,c4],_,h1,h2=>
     obtain⟨y0,y1,n,hx,_,h0,h5⟩:=trod_struct2 Try.underlying46 h2;replace h0:DataW.trod enc Try.prog w 0 sp held n 3 [c0]=some y0:=h0;replace h5:DataW.trod enc Try.prog w 0 sp held n 44 [c1,c2,c3,c4]=some y1:=h5;obtain⟨z0,z1,z2,z3,m',hz,_,k0,k1,k2,k3⟩:=Go.Joins.trod_struct4 Try.underlying44 h5;replace k0:DataW.trod enc Try.prog w 0 sp held m' 3 [c1]=some z0:=k0;replace k1:DataW.trod enc Try.prog w 0 sp held m' 2 [c2]=some z1:=k1;replace k2:DataW.trod enc Try.prog w 0 sp held m' 2 [c3]=some z2:=k2;replace k3:DataW.trod enc Try.prog w 0 sp held m' 2 [c4]=some z3:=k3;obtain⟨i0,e0,_⟩:=DataW.trod_int (k:=.i64) (by kernel_rfl) h0;obtain⟨i1,e1,_⟩:=DataW.trod_int (k:=.i64) (by kernel_rfl) k0;obtain⟨i2,e2,_⟩:=DataW.trod_int (k:=.i64) (by kernel_rfl) k1;obtain⟨i3,e3,_⟩:=DataW.trod_int (k:=.i64) (by kernel_rfl) k2;obtain⟨i4,e4,_⟩:=DataW.trod_int (k:=.i64) (by kernel_rfl) k3;simp only[List.cons.injEq,and_true]at e0 e1 e2 e3 e4;subst e0 e1 e2 e3 e4;refine⟨(i0,⟨i1,i2,i3,i4⟩),λj hj=>((World.cells?_some h1).2.2 j hj).trans ?_⟩;unfold actC;simp
   obtain⟨c,hcc⟩:∃c:Nat->Int×OpX,∀i,i<len->∀j,j<5->w.cell? ((a.add (i*5)).add j)=(actC (c i).1 (c i).2)[j]?:=by
    classical
    refine⟨λi=>if h:i<len then(each i h).choose else(0,⟨0,0,0,0⟩),λi hi=>?_⟩;simp only[hi,dif_pos];exact(each i hi).choose_spec
   cases hx;refine⟨some a,(List.range len).map c,cap,by simpa using hcs,by simp[lenD],λhne=>?_⟩;have h0:0<len:=by have:=List.length_pos_iff.2 hne;simpa using this
   have hs:a.spot=none:=by
    have:=hcc 0 h0 0 (by omega);rw[Nat.zero_mul]at this;exact spot_add (a:=a) (v:=.int .i64 (c 0).1) (by simpa[Addr.add,actC]using this)
   refine⟨a.block,a.off,by obtain⟨b,o,s⟩:=a;simp only at hs;rw[hs],λk x hk=>?_⟩;have hkl:k<len:=by have:=(List.getElem?_eq_some_iff.1 hk).1;simpa using this
   rw[List.getElem?_map,List.getElem?_range hkl]at hk;cases hk;have key:∀j,j<5->w.cell? ⟨a.block,a.off+k*5+j,none⟩=(actC (c k).1 (c k).2)[j]?:=λj hj=>by
    have:=hcc k hkl j hj;rw[add_at hs,add_at rfl]at this;exact this
   exact⟨key 0 (by omega),key 1 (by omega),key 2 (by omega),key 3 (by omega),key 4 (by omega)⟩
theorem zqby(os:Os)(started:os.Started)(H:Type)(enc:TypeId×Value->H)(F:Stop.Interp):
 ReturnsInLeavingWide {} Try.checked os 6 .any ((Rows.OpenSpec.upto Rows.epochSafeSpec).pre6 enc Try.prog Try.f6 Rows.epochSafeUptoRow.domain false) (((Rows.OpenSpec.upto Rows.epochSafeSpec).at F).post enc Try.prog Try.f6 false true false false):=by
 refine zqd5 (C:=Try.checked) (s:=Rows.OpenSpec.upto Rows.epochSafeSpec) (k:=Rows.uptoSmall) rfl own_knob started Try.func6
  (OpenSpec.witness (enc:=enc) (C:=Try.checked) (s:=Rows.OpenSpec.upto Rows.epochSafeSpec) (k:=Rows.uptoSmall) rfl false ⟨#[],#[.int .u8 0,.slice none 0 0],[]⟩ 8 (by kernel_rfl) (by kernel_rfl) (by kernel_rfl)
   (x:=([.lit (.int .u8 0),.nil],[],[])) (by kernel_rfl) rfl (by kernel_rfl)) ?_
 intro W base args ds gs before hval0 hW hk;have hval:∀(j:Nat)t v,Try.f6.params[j]?=some t->args[j]?=some v->Value.okWide Try.prog W .any base t v:=hval0;have hW':=hW;obtain⟨p,q,hA0,hV,rfl,_,_⟩:=hW;have hA:DataW.TrodAll enc Try.prog W 0 (λ_=>true) true Try.f6.params.toList args.toList ds p:=hA0;rw[Try.params6]at hA hval;obtain⟨v0,v1,d0,d1,p0,p1,rfl,rfl,rfl,h0,h1⟩:=trodAll_two hA;obtain⟨rfl,rfl⟩:=trodVars_none hV;clear hA0 hval0;simp only[List.append_nil]at hW' hk;have hlt:∀x∈p0++p1,x.block<W.heap.size:=λx hx=>by simpa using hW'.lt x hx
 obtain⟨mm,rfl⟩:=okWide_int (k:=.u8) (by kernel_rfl) (hval 0 _ v0 rfl rfl);obtain⟨a,len,cap,rfl⟩:=okWide_slice (e:=46) (by kernel_rfl) (hval 1 _ v1 rfl rfl);have hbulk:=zqbc hk (d:=d1) (by simp);obtain⟨ap,acts,C,e1,e2,hActs⟩:∃(q:Option Addr)(l:List (Int×OpX))(C:Nat),[Value.slice a len cap]=[.slice q l.length C]/\lenD d1=l.length/\zq2z W q l:=by
  obtain⟨fuel,hf⟩:=h1;exact zqay (by simpa[Value.cells]using hf)
 simp only[List.cons.injEq,Value.slice.injEq,and_true]at e1;obtain⟨rfl,rfl,rfl⟩:=e1;have hlen:=zqba d1;have hmm:0<=mm/\mm<256:=by
  obtain⟨_,k0⟩:=h0;obtain⟨x,e0,-,hwf⟩:=DataW.trod_int (k:=.u8) (by kernel_rfl) k0;simp[Value.cells]at e0;subst e0;unfold Lit.wf at hwf;rw[Bool.and_eq_true,decide_eq_true_eq,decide_eq_true_eq]at hwf;obtain⟨q1,q2⟩:=hwf;have e1:IntKind.u8.min=0:=by decide
  have e2:IntKind.u8.max=255:=by decide
  omega
 obtain⟨M,last,o,w',t',r1,r2,r3,r4⟩:=zqc0 (Post:=λv w'=>v=.bool true/\Beyond W w') (λv w τ d h=>⟨h.1,h.2.1,h.2.2⟩) (mm:=mm) (aC:=cap) hmm hActs rfl (by omega) (λw' h=>⟨rfl,h⟩);refine⟨M,last,o,w',t',r1,r2,r3,r4.mono λv hF=>?_⟩;obtain⟨⟨rfl,hb⟩,ho,hu⟩:=hF;have same:∀{t:TypeId}(hr:Try.prog.readableRec t=true)(hrow:t<Try.prog.types.size){v:Value}{d:DataW H}{ps:List MemPlace}(h:DataW.Trod enc Try.prog W 0 (λ_=>true) true t v d ps)(hlt:∀x∈ps,x.block<W.heap.size),DataW.Trod enc Try.prog w' 0 (λb=>decide (b<W.heap.size)) true t v d ps:=λhr hrow _ _ _ h hlt=>zqe1 hr hrow h hb hlt;refine⟨_,_,_,[],p0++p1,[],hW',trodAll_mk1 (shut_bool Try.underlying4 true),?_,rfl,zqcx hb ho hu _,λh=>by cases h⟩;exact trodAll_mk2 (same (by kernel_rfl) (of_decide_eq_true (by kernel_rfl)) h0 λx hx=>hlt x (by simp[hx])) (same (by kernel_rfl) (of_decide_eq_true (by kernel_rfl)) h1 λx hx=>hlt x (by simp[hx]))
theorem epochSafe_upto:Rows.EpochSafeUptoSaid:=
 zqcn 6 Try.f6 rfl rfl rfl rfl rfl rfl rfl ⟨rfl,rfl,rfl,rfl,rfl⟩ rfl rfl rfl rfl rfl (by kernel_rfl) Try.func6 (by kernel_rfl)
  (of_decide_eq_true (by kernel_rfl)) (by unfold Func.isWrapper;first|(rw[if_pos (by decide +kernel)];kernel_rfl)|(rw[if_neg (by decide +kernel)];exact⟨rfl,rfl⟩))
  (λos started H enc _ F=>zqby os started H enc F)
end Go.Proofs.Ytmgmbciplfkddaa
