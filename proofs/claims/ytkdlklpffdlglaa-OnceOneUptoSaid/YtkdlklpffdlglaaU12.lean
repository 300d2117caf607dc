/- YtkdlklpffdlglaaOOne5: part 12 of the proof (the texts behind it, in order). -/
import Derived.Test.YtkdlklpffdlglaaU11
set_option maxHeartbeats 4000000
set_option maxRecDepth 100000
set_option linter.all false
namespace Go.Proofs
open Go Go.Conc Go.RowKit Go.Car
theorem sumB_le{L:Nat->List OpX}(h:∀i,(L i).length<=6):∀n,sumB (g0O L) n<=6*n:=by
 intro n
 induction n with
 |zero=>exact Nat.le_refl _
 |succ n ih=>rw[sumB];have:=h n;show _+(L n).length<=_;omega
theorem zq7u{Fin:Machine->Trace->Prop}(hFin:Back Try.prog Fin){n:Nat}(hn:0<n){w:World}{p scp:Option Addr}{N C Cs NC:Nat}{L:Nat->List OpX}{sched:List Int}{mo:Int}(hT:ThrIn w p N L)(hN:N<=4)(hL:∀i,(L i).length<=6)(hg:∀i,∀op∈L i,0<=op.a/\op.a<NC/\1<=op.k/\op.k<=4)(hNC:1<=NC/\NC<=3)
 (hsc:IntsAt w (.slice scp sched.length Cs) sched) (hsl:sched.length<=1048576) (hmo:0<=mo) {c:Frame} {cs:List Frame}
 (hmain:∀v w'(s:SO)(ord:List Int)stk,TraceAt w' v N s.2 ord (numL s.1 NC) stk->OneO L s->((ord.length:Int)<=mo/\ord.length<=1048576)->Beyond w w'->J0 Try.prog Fin (n+N) (G (c.finish v) cs) w'):
 J0 Try.prog Fin n (G (Frame.enter Try.prog 11 #[.int .i64 NC,.slice p N C,.slice scp sched.length Cs,.int .i64 mo] .normal) (c::cs)) w:=by
 obtain⟨sp,Cp,hO⟩:=opsat_in hT (by omega) (λi _=>by have:=hL i;omega);have hLe:(λi=>(L i).take 65536)=L:=funext λi=>List.take_of_length_le (by have:=hL i;omega);rw[hLe,show min N 64=N by omega]at hO;have hcN:onceN (NC:Int)=NC:=by unfold onceN;omega
 refine zq7s hFin hn (RP:=λb=>w.heap[b]?) (sched:=sched) (ops:=L) (N:=N) (λb o hb=>hb) hO (by omega) (λhne=>?_) ?_
 . obtain⟨p',C',e,hc⟩:=hsc;cases e;obtain⟨b,o,e2,h2⟩:=hc hne;refine⟨b,o,e2,λj x hj=>?_⟩;have hjl:=(List.getElem?_eq_some_iff.1 hj).1;have h3:=h2 j hjl;rw[List.getD_eq_getElem?_getD,hj]at h3;exact h3
 . intro ab ov sv am w' hR;have ht:=trace_of (stk:=decide (0<leftN (onceT (onceN NC) L N mo sched).ov N)) hR.ans hR.orow hR.srow;rw[hR.ast,hcN]at ht;have h1:=once_one (ops:=L) (N:=N) (NC:=NC) (most:=min mo.toNat 1048576) (l:=sched) (by have:=sumB_le hL N;omega) (λi _=>hg i);have e:onceT (onceN NC) L N mo sched=playT (λi=>opsP i (doerP NC) (L i)) N (min mo.toNat 1048576) sched (λ_ _=>0,λ_=>[]):=by unfold onceT;rw[hcN]
   rw[hcN];rw[hcN]at e;exact hmain _ w' (onceT NC L N mo sched).s _ _ ht (by rw[e];exact h1.1) (by rw[List.length_map,e];have:=h1.2;omega) ⟨hR.size,hR.old⟩
noncomputable def ooT(n:Nat):Code:=tailN n (Try.f5.body.getD .skip)
theorem oo0:Try.f5.body.getD .skip=.seq (headC (ooT 0)) (.seq (headC (ooT 1)) (.seq (headC (ooT 2)) (.seq (headC (ooT 3)) (.seq (headC (ooT 4)) (.seq (headC (ooT 5)) (.seq (headC (ooT 6)) (ooT 7))))))):=by kernel_rfl
structure OOneIn(W:World)(pp scp:Option Addr)(np Cn sl Cs:Nat)(tops:Nat->List OpX)(sched:List Int):Prop where
 thr:ThrIn W pp np tops
 npl:np<=1048576
 cap:np<=Cn/\(pp=none->Cn=0)
 tl:∀i,i<np->(tops i).length<=1048576
 sc:IntsAt W (.slice scp sched.length Cs) sched
 scl:sched.length=sl
 sle:sl<=1048576
theorem zqd4{Post:Value->World->Prop}(hPost:∀v w τ d,Post v w->Post v (re w τ d)){W:World}{pp scp:Option Addr}{np Cn sl Cs:Nat}{tops:Nat->List OpX}{sched:List Int}{cl mo:Int}(hcl:0<=cl/\cl<256)(hmo:0<=mo/\mo<65536)(hI:OOneIn W pp scp np Cn sl Cs tops sched)(hend:∀w',Beyond W w'->Post (.bool true) w'):
 FinOf Try.prog Post (solo (G (Frame.enter Try.prog 5 #[.int .u8 cl,.slice pp np Cn,.slice scp sl Cs,.int .u16 mo] .normal) []) W) #[]:=by
 refine j0_run Try.func5 rfl ?_;have hFin:=zq6d (P:=Try.prog) Post;have hJ:=j0_JS hFin;have hC:=zq3i hFin;have e:Frame.enter Try.prog 5 #[.int .u8 cl,.slice pp np Cn,.slice scp sl Cs,.int .u16 mo] .normal=(bN 5).at (zql Try.f5 #[.int .u8 cl,.slice pp np Cn,.slice scp sl Cs,.int .u16 mo]) [.code ((Try.f5.body).getD .skip)]:=by kernel_rfl
 have ea:zql Try.f5 #[.int .u8 cl,.slice pp np Cn,.slice scp sl Cs,.int .u16 mo]=⟨#[.int .u8 cl,.slice pp np Cn,.slice scp sl Cs,.int .u16 mo,undef,undef,undef,undef,undef,undef,undef,undef,undef,undef,undef,undef,undef,undef,undef,undef,undef,undef,undef,undef,undef,undef,undef,undef,undef,undef,undef,undef,undef,undef,undef,undef,undef,undef,undef,undef,undef,undef,undef,undef,undef,undef,undef,undef,undef],[]⟩:=by kernel_rfl
 obtain⟨NC,hNC⟩:∃NC:Nat,(1+cl % 3:Int)=NC:=⟨(1+cl % 3).toNat,by omega⟩;have hNC3:1<=NC/\NC<=3:=by omega
 obtain⟨mm,hmm⟩:∃m:Int,mo % 200=m:=⟨_,rfl⟩;have hmm2:0<=mm/\mm<200:=by omega
 have f1:cl.tmod 3=cl % 3:=Int.tmod_eq_emod_of_nonneg hcl.1;have f2:wrap64 (cl % 3)=cl % 3:=by unfold wrap64;omega
 have f3:wrap64 (1+cl % 3)=(NC:Int):=by unfold wrap64;omega
 have f4:mo.tmod 200=mm:=by rw[Int.tmod_eq_emod_of_nonneg hmo.1];exact hmm
 have f5:wrap64 mm=mm:=by unfold wrap64;omega
 have HN:=Lib.hid hNC;clear hNC hmm hcl hmo;rw[e,ea,oo0];clear e ea;refine hJ.ctl (s:=1) (λw=>stepG_seq) ?_;refine zq2j hJ hC zq1f (by kernel_rfl) (λt w'=>t=#[.int .u8 cl,.slice pp np Cn,.slice scp sl Cs,.int .u16 mo,undef,undef,undef,undef,.bool false,undef,undef,undef,undef,undef,undef,undef,undef,undef,undef,undef,undef,undef,undef,undef,undef,undef,undef,undef,undef,undef,undef,undef,undef,undef,undef,undef,undef,undef,undef,undef,undef,undef,undef,undef,undef,undef,undef,undef,undef]/\∃τ d,w'=re W τ d) (λt w' τ d h=>⟨h.1,by obtain⟨τ',d',rfl⟩:=h.2;exact⟨τ,d,by rw[re_re]⟩⟩) (by decide) (λτ d=>?_) ?_
 . obtain⟨u_,hu_⟩:∃c,headC (ooT 0)=c:=⟨_,rfl⟩;have eu_:=hu_;rw[hu_];simp only[ooT,headC,tailN,Try.f5,al_od]at eu_;subst eu_;clear hu_;clear hI;go_wp2;exact⟨rfl,rfl,τ,d,rfl⟩
 rintro t w' ⟨rfl,τ,d,rfl⟩;refine hJ.re' 1 _ _ τ d ?_;refine hJ.ctl (s:=1) (λw=>stepG_seq) ?_;obtain⟨u_,hu_⟩:∃c,headC (ooT 1)=c:=⟨_,rfl⟩;have eu_:=hu_;rw[hu_];simp only[ooT,headC,tailN,Try.f5,al_od]at eu_;subst eu_;clear hu_;refine hJ.ctl (s:=1) (λw=>stepG_seq) ?_;refine hJ.ctl (s:=1) (λw=>stepG_region) ?_;refine zq1b (by decide) hJ (s:=1) rfl rfl (f:=9) (args:=#[]) (λτ d=>?_) (λτ d=>?_) ?_
 . simp[go_sem,execOp,Act.eval,resolve,Deferred.ofValue,invoke,callFunc,Try.func9,Try.f9]
 . intro e he;simp[go_sem,execOp,Act.eval,resolve,Deferred.ofValue,invoke,callFunc,Try.func9,Try.f9,Sem.runT_eq]at he
 refine zqe6 hFin (n:=1) (by decide) ?_;intro w1 hb1;rw[Frame.finish_at]
 walk_nrm
 refine zqr (s:=1+2) (by decide) hJ (zqp _) false (.inr rfl) 1 1 0 rfl rfl rfl (by rfl) ?_;intro τ d;simp only[List.drop_succ_cons,List.drop_zero,List.take_succ_cons,List.take_zero];go_wp2;simp only[zqe];refine hJ.re' (1+2) _ _ τ d ?_;refine hJ.ctl (s:=1+2) (λw=>stepG_region_end) ?_;refine hJ.ctl (s:=1+2) (λw=>stepG_cond (t:=false) rfl) ?_;rw[if_neg (by decide)];refine hJ.ctl (s:=1+2) (λw=>stepG_skip) ?_;refine hJ.ctl (s:=1+2) (λw=>stepG_seq) ?_;have HI:=Lib.hid (And.intro hI hb1);have HE:=Lib.hid hend;clear hI hb1 hend;refine zq2j hJ hC zq1f (by kernel_rfl) (λt w'=>t=#[.int .u8 cl,.slice pp np Cn,.slice scp sl Cs,.int .u16 mo,undef,undef,undef,undef,.bool false,.int .i64 NC,undef,undef,.bool true,.bool false,.int .u8 cl,.int .u8 (cl % 3),.int .i64 (cl % 3),.int .i64 NC,undef,undef,undef,undef,undef,undef,undef,undef,undef,undef,undef,undef,undef,undef,undef,undef,undef,undef,undef,undef,undef,undef,undef,undef,undef,undef,undef,undef,undef,undef,undef]/\∃τ d,w'=re w1 τ d) (λt w' τ d h=>⟨h.1,by obtain⟨τ',d',rfl⟩:=h.2;exact⟨τ,d,by rw[re_re]⟩⟩) (by decide) (λτ d=>?_) ?_
 . obtain⟨u_,hu_⟩:∃c,headC (ooT 2)=c:=⟨_,rfl⟩;have eu_:=hu_;rw[hu_];simp only[ooT,headC,tailN,Try.f5,al_od]at eu_;subst eu_;clear hu_;go_wp2;exact⟨rfl,by rw[HN.out],τ,d,rfl⟩
 rintro t w2' ⟨rfl,τ,d,rfl⟩;refine hJ.re' (1+2) _ _ τ d ?_;refine hJ.ctl (s:=1+2) (λw=>stepG_seq) ?_;obtain⟨u_,hu_⟩:∃c,headC (ooT 3)=c:=⟨_,rfl⟩;have eu_:=hu_;rw[hu_];simp only[ooT,headC,tailN,Try.f5,al_od]at eu_;subst eu_;clear hu_;refine hJ.ctl (s:=1+2) (λw=>stepG_region) ?_;refine zqr (s:=1+2) (by first|decide |omega) hJ (zqp _) false (.inr rfl) 0 2 2 rfl rfl rfl (by rfl) ?_;intro τ d;simp only[List.drop_succ_cons,List.drop_zero,List.take_succ_cons,List.take_zero];have hb2:=HI.out.2.trans (Beyond.re w1 τ d);generalize re w1 τ d=w2 at hb2 |-;go_wp2;simp only[zqe];refine zq1b (by decide) hJ (s:=1+2) rfl rfl (f:=17) (args:=#[.int .i64 NC,.slice pp np Cn]) (λτ d=>?_) (λτ d=>?_) ?_
 . simp[go_sem,execOp,Act.eval,resolve,Deferred.ofValue,invoke,callFunc,Try.func17,Try.f17]
 . intro e he;simp[go_sem,execOp,Act.eval,resolve,Deferred.ofValue,invoke,callFunc,Try.func17,Try.f17,Sem.runT_eq]at he
 obtain⟨N,hN⟩:∃N,min np 4=N:=⟨_,rfl⟩;have hN4:N<=4:=by omega
 obtain⟨L,hL⟩:∃L:Nat->List OpX,(λi=>((tops i).take 6).map (fewO NC))=L:=⟨_,rfl⟩;have hL6:∀i,(L i).length<=6:=λi=>by rw[<-hL];simp only[List.length_map,List.length_take];omega
 have hLg:∀i,∀op∈L i,0<=op.a/\op.a<NC/\1<=op.k/\op.k<=4:=λi op ho=>by
  rw[<-hL]at ho;obtain⟨o,-,rfl⟩:=List.mem_map.1 ho;exact few_good o hNC3
 refine zq4w hJ hC zq1f Try.func17 rfl (by kernel_rfl) (R:=λv w'=>∃p C,v=.slice p N C/\ThrIn w' p N L/\Beyond w2 w') (λv w' τ d h=>by obtain⟨p,C,h1,h2,h3⟩:=h;exact⟨p,C,h1,h2.on (Beyond.re _ _ _),h3.trans (Beyond.re _ _ _)⟩) (λτ d=>?_) ?_
 . have hI:=HI.out.1;have hbr:=Beyond.re w2 τ d;refine Calls.mono (few_lone (NC:=NC) (hI.thr.on (hb2.trans hbr)) hI.cap hNC3 ⟨hI.npl,hI.tl⟩) ?_;rintro e w' ⟨p,C,rfl,h⟩;rw[hL,hN]at h;rw[hN];obtain⟨vs,q1,q2,q3⟩:=h;exact⟨_,rfl,p,C,rfl,FewI.thr (w:=re w2 τ d) ⟨vs,q1,q2,q3⟩,hbr.trans q3⟩
 rintro v w3 ⟨p,C,rfl,hT,hb3⟩;rw[Frame.finish_at]
 walk_nrm
 refine zqr (s:=1+2) (by first|decide |omega) hJ (zqp _) false (.inr rfl) 3 1 0 rfl rfl rfl (by rfl) ?_;intro τ d;simp only[List.drop_succ_cons,List.drop_zero,List.take_succ_cons,List.take_zero];replace hT:=hT.on (Beyond.re w3 τ d);have hb4:=hb2.trans (hb3.trans (Beyond.re w3 τ d));generalize re w3 τ d=w4 at hT hb4 |-;clear hb2 hb3 hN hL;go_wp2;simp only[zqe];refine hJ.ctl (s:=1+2) (λw=>stepG_region_end) ?_;refine hJ.ctl (s:=1+2) (λw=>stepG_seq) ?_;obtain⟨u_,hu_⟩:∃c,headC (ooT 4)=c:=⟨_,rfl⟩;have eu_:=hu_;rw[hu_];simp only[ooT,headC,tailN,Try.f5,al_od]at eu_;subst eu_;clear hu_;refine hJ.ctl (s:=1+2) (λw=>stepG_region) ?_;refine zqr (s:=1+2) (by first|decide |omega) hJ (zqp _) false (.inr rfl) 0 6 3 rfl rfl rfl (by rfl) ?_;intro τ d;simp only[List.drop_succ_cons,List.drop_zero,List.take_succ_cons,List.take_zero];replace hT:=hT.on (Beyond.re w4 τ d);have hb5:=hb4.trans (Beyond.re w4 τ d);generalize re w4 τ d=w5 at hT hb5 |-;have HT:=Lib.hid (And.intro hT (And.intro hb5 (And.intro hL6 hLg)));clear hT hb4 hb5 hL6 hLg;go_wp2;simp only[zqe];refine zq1b (by decide) hJ (s:=1+2) rfl rfl (f:=11) (args:=#[.int .i64 NC,.slice p N C,.slice scp sl Cs,.int .i64 mm]) (λτ d=>?_) (λτ d=>?_) ?_
 . simp[go_sem,execOp,Act.eval,resolve,Deferred.ofValue,invoke,callFunc,Try.func11,Try.f11]
 . intro e he;simp[go_sem,execOp,Act.eval,resolve,Deferred.ofValue,invoke,callFunc,Try.func11,Try.f11,Sem.runT_eq]at he
 have hscl:=HI.out.1.scl;have hsle:=HI.out.1.sle;have hsc:=λw(h:Beyond W w)=>HI.out.1.sc.beyond h;obtain rfl:sched.length=sl:=hscl;refine zq7u hFin (n:=1+2) (by decide) HT.out.1 hN4 HT.out.2.2.1 HT.out.2.2.2 hNC3 (hsc _ HT.out.2.1) hsle hmm2.1 ?_;intro va w6 s1 ord1 stk1 ht1 hO1 hord1 hb6;obtain⟨ap,aC,ov,sv,rfl,hov,hsv,hta⟩:=ht1;obtain⟨op',oC,rfl,hov2⟩:=hov;obtain⟨sp',sC,rfl,hsv2⟩:=hsv;have hT1:TraceAt w6 (.agg #[.slice ap N aC,.slice op' ord1.length oC,.slice sp' (numL s1.1 NC).length sC,.bool stk1]) N s1.2 ord1 (numL s1.1 NC) stk1:=⟨ap,aC,_,_,rfl,⟨op',oC,rfl,hov2⟩,⟨sp',sC,rfl,hsv2⟩,hta⟩;obtain⟨o1,ho1⟩:∃x,ord1.length=x:=⟨_,rfl⟩;obtain⟨n1,hn1⟩:∃x,(numL s1.1 NC).length=x:=⟨_,rfl⟩;rw[ho1,hn1]at hT1 |-;rw[ho1]at hord1;clear hov2 hsv2 hta;rw[Frame.finish_at]
 walk_nrm
 refine zqr (s:=1+2+N) (by first|decide |omega) hJ (zqp _) false (.inr rfl) 7 2 0 rfl rfl rfl (by rfl) ?_;intro τ d;simp only[List.drop_succ_cons,List.drop_zero,List.take_succ_cons,List.take_zero];replace hT1:=hT1.beyond (Beyond.re w6 τ d);have hb7:=HT.out.2.1.trans (hb6.trans (Beyond.re w6 τ d));have hT7:=HT.out.1.on (hb6.trans (Beyond.re w6 τ d));generalize re w6 τ d=w7 at hT1 hb7 hT7 |-;obtain⟨Z,hZ⟩:∃Z,w7.heap.size=Z:=⟨_,rfl⟩;have hb8:=Beyond.alloc w7 (.cells #[.slice ap N aC,.slice op' o1 oC,.slice sp' n1 sC,.bool stk1] 29);have hk8:(w7.alloc (.cells #[.slice ap N aC,.slice op' o1 oC,.slice sp' n1 sC,.bool stk1] 29)).heap[Z]?=some (.cells #[.slice ap N aC,.slice op' o1 oC,.slice sp' n1 sC,.bool stk1] 29):=by rw[<-hZ];exact zq12 _ _
 have H8:=Lib.hid (And.intro hb8 (And.intro hk8 (And.intro hT1 (And.intro hb7 (And.intro hT7 hO1)))));clear hb8 hk8 hT1 hb7 hT7 hO1 hb6;go_wp2;simp only[zqe];obtain⟨w8,hw8⟩:∃w8,w7.alloc (.cells #[.slice ap N aC,.slice op' o1 oC,.slice sp' n1 sC,.bool stk1] 29)=w8:=⟨_,rfl⟩
 try rw[hw8]
 rw[hw8]at H8;clear hw8 hZ;refine hJ.ctl (s:=1+2+N) (λw=>stepG_region_end) ?_;refine hJ.ctl (s:=1+2+N) (λw=>stepG_seq) ?_;obtain⟨u_,hu_⟩:∃c,headC (ooT 5)=c:=⟨_,rfl⟩;have eu_:=hu_;rw[hu_];simp only[ooT,headC,tailN,Try.f5,al_od]at eu_;subst eu_;clear hu_;refine hJ.ctl (s:=1+2+N) (λw=>stepG_seq) ?_;refine hJ.ctl (s:=1+2+N) (λw=>stepG_region) ?_;refine zqr (s:=1+2+N) (by first|decide |omega) hJ (zqp _) false (.inr rfl) 0 3 11 rfl rfl rfl (by rfl) ?_;intro τ d;simp only[List.drop_succ_cons,List.drop_zero,List.take_succ_cons,List.take_zero];have c80:(re w8 τ d).cell? ⟨Z,0,none⟩=some (.slice ap N aC):=(zq0 H8.out.2.1).trans rfl;have c81:(re w8 τ d).cell? ⟨Z,1,none⟩=some (.slice op' o1 oC):=(zq0 H8.out.2.1).trans rfl;have c82:(re w8 τ d).cell? ⟨Z,2,none⟩=some (.slice sp' n1 sC):=(zq0 H8.out.2.1).trans rfl;have c83:(re w8 τ d).cell? ⟨Z,3,none⟩=some (.bool stk1):=(zq0 H8.out.2.1).trans rfl;have hb9:=Beyond.re w8 τ d;generalize re w8 τ d=w9 at c80 c81 c82 c83 hb9 |-;go_wp2;simp only[zqe];refine zq1b (by decide) hJ (s:=1+2+N) rfl rfl (f:=18) (args:=#[.int .i64 NC,.slice p N C,.agg #[.slice ap N aC,.slice op' o1 oC,.slice sp' n1 sC,.bool stk1]]) (λτ d=>?_) (λτ d=>?_) ?_
 . simp[go_sem,execOp,Act.eval,resolve,Deferred.ofValue,invoke,callFunc,Try.func18,Try.f18]
 . intro e he;simp[go_sem,execOp,Act.eval,resolve,Deferred.ofValue,invoke,callFunc,Try.func18,Try.f18,Sem.runT_eq]at he
 refine zq4w hJ hC zq1f Try.func18 rfl (by kernel_rfl) (R:=λv w'=>v=.bool true/\Beyond w9 w') (λv w' τ d h=>⟨h.1,h.2.trans (Beyond.re _ _ _)⟩) (λτ d=>?_) ?_
 . have hbr:=hb9.trans (Beyond.re w9 τ d);refine Calls.mono (zq7t (ops:=L) (s:=s1) (ord:=ord1) (stk:=stk1) (H8.out.2.2.2.2.1.on (H8.out.1.trans hbr)) (H8.out.2.2.1.beyond (H8.out.1.trans hbr)) H8.out.2.2.2.2.2 hNC3 hN4 (λi _=>HT.out.2.2.1 i) (λi _=>HT.out.2.2.2 i) (by rw[ho1];exact hord1.2)) ?_;rintro e w' ⟨rfl,h⟩;exact⟨_,rfl,rfl,(Beyond.re w9 τ d).trans h⟩
 rintro v w10 ⟨rfl,hb10⟩;rw[Frame.finish_at]
 walk_nrm
 refine zqr (s:=1+2+N) (by first|decide |omega) hJ (zqp _) false (.inr rfl) 4 10 0 rfl rfl rfl (by rfl) ?_;intro τ d;simp only[List.drop_succ_cons,List.drop_zero,List.take_succ_cons,List.take_zero];have hb11:=hb10.trans (Beyond.re w10 τ d);replace c81:=hb11.cell c81;generalize re w10 τ d=w11 at c81 hb11 |-;have hog:¬mm<(o1:Int):=by have:=hord1.1;omega
 have H11:=Lib.hid ((H8.out.1.trans hb9).trans hb11);clear hb9 hb11 hb10 c80 c82 c83;go_wp2;simp only[zqe];refine hJ.ctl (s:=1+2+N) (λw=>stepG_region_end) ?_;refine hJ.ctl (s:=1+2+N) (λw=>stepG_cond (t:=false) rfl) ?_;rw[if_neg (by decide)];refine hJ.ctl (s:=1+2+N) (λw=>stepG_skip) ?_;refine hJ.ctl (s:=1+2+N) (λw=>stepG_seq) ?_;obtain⟨u_,hu_⟩:∃c,headC (ooT 6)=c:=⟨_,rfl⟩;have eu_:=hu_;rw[hu_];simp only[ooT,headC,tailN,Try.f5,al_od]at eu_;subst eu_;clear hu_;refine hJ.ctl (s:=1+2+N) (λw=>stepG_region) ?_;refine zqr (s:=1+2+N) (by first|decide |omega) hJ (zqp _) false (.inr rfl) 0 5 3 rfl rfl rfl (by rfl) ?_;intro τ d;simp only[List.drop_succ_cons,List.drop_zero,List.take_succ_cons,List.take_zero];have hb12:=H11.out.trans (Beyond.re w11 τ d);generalize re w11 τ d=w12 at hb12 |-;clear c81 H11;have H12:=Lib.hid (And.intro (H8.out.2.2.2.1.trans hb12) (H8.out.2.2.2.2.1.on hb12));clear hb12 hog;go_wp2;simp only[zqe];refine zq1b (by decide) hJ (s:=1+2+N) rfl rfl (f:=11) (args:=#[.int .i64 NC,.slice p N C,.slice scp sched.length Cs,.int .i64 1048576]) (λτ d=>?_) (λτ d=>?_) ?_
 . simp[go_sem,execOp,Act.eval,resolve,Deferred.ofValue,invoke,callFunc,Try.func11,Try.f11]
 . intro e he;simp[go_sem,execOp,Act.eval,resolve,Deferred.ofValue,invoke,callFunc,Try.func11,Try.f11,Sem.runT_eq]at he
 refine zq7u hFin (n:=1+2+N) (by omega) H12.out.2 hN4 HT.out.2.2.1 HT.out.2.2.2 hNC3 (HI.out.1.sc.beyond H12.out.1) hsle (by decide) ?_;intro vb w13 s2 ord2 stk2 ht2 hO2 hord2 hb13;rw[Frame.finish_at]
 walk_nrm
 refine zq1b (by decide) hJ (s:=1+2+N+N) rfl rfl (f:=18) (args:=#[.int .i64 NC,.slice p N C,vb]) (λτ d=>?_) (λτ d=>?_) ?_
 . simp[go_sem,execOp,Act.eval,resolve,Deferred.ofValue,invoke,callFunc,Try.func18,Try.f18]
 . intro e he;simp[go_sem,execOp,Act.eval,resolve,Deferred.ofValue,invoke,callFunc,Try.func18,Try.f18,Sem.runT_eq]at he
 refine zq4w hJ hC zq1f Try.func18 rfl (by kernel_rfl) (R:=λv w'=>v=.bool true/\Beyond w13 w') (λv w' τ d h=>⟨h.1,h.2.trans (Beyond.re _ _ _)⟩) (λτ d=>?_) ?_
 . have hbr:=Beyond.re w13 τ d;refine Calls.mono (zq7t (ops:=L) (s:=s2) (ord:=ord2) (stk:=stk2) (H12.out.2.on (hb13.trans hbr)) (ht2.beyond hbr) hO2 hNC3 hN4 (λi _=>HT.out.2.2.1 i) (λi _=>HT.out.2.2.2 i) hord2.2) ?_;rintro e w' ⟨rfl,h⟩;exact⟨_,rfl,rfl,hbr.trans h⟩
 rintro v w14 ⟨rfl,hb14⟩;rw[Frame.finish_at]
 walk_nrm
 have H14:=Lib.hid ((H12.out.1.trans hb13).trans hb14);clear hb13 hb14 ht2 hO2 hord2 H8 hord1;refine zqr (s:=1+2+N+N) (by first|decide |omega) hJ (zqp _) false (.inr rfl) 7 1 0 rfl rfl rfl (by rfl) ?_;intro τ d;simp only[List.drop_succ_cons,List.drop_zero,List.take_succ_cons,List.take_zero];have H15:=Lib.hid (H14.out.trans (Beyond.re w14 τ d));generalize re w14 τ d=w15 at H15 |-;go_wp2;simp only[zqe];refine hJ.ctl (s:=1+2+N+N) (λw=>stepG_region_end) ?_;refine zqas (P:=Try.prog) hPost zq1f (by kernel_rfl) rfl (by kernel_rfl) Try.func5 (λτ d=>?_);obtain⟨u5,hu5⟩:∃c,ooT 7=c:=⟨_,rfl⟩;have eu5:=hu5;rw[hu5];simp only[ooT,headC,tailN,Try.f5,al_od]at eu5;subst eu5;clear hu5;have HEE:=Lib.hid (HE.out _ (H15.out.trans (Beyond.re w15 τ d)));clear HE;go_wp2;refine bodyPost_ret (v:=.bool true) ?_ rfl ⟨_,rfl,HEE.out⟩;simp only[results,Try.f5];simp[go_sem]
end Go.Proofs
namespace Go.Proofs.Ytkdlklpffdlglaa
open Go Go.Conc Go.RowKit Go.Car Go.ChangeShapes Go.WideShapes Go.ChangeAt Go.Deep
theorem thr_in2{H:Type}{enc:TypeId×Value->H}{W:World}{base:Nat}{v:Value}{d:DataW H}{p:List MemPlace}(hok:Value.okWide Try.prog W .any base 22 v)
 (h:DataW.Trod enc Try.prog W 0 (λ_=>true) true 22 v d p) (hb:Rows.uptoBulk d<=1048576):∃pp n C,∃tops:Nat->List OpX,v=.slice pp n C/\ThrIn W pp n tops/\(n<=C/\(pp=none->C=0))/\n<=1048576/\∀i,i<n->(tops i).length<=1048576:=by
 obtain⟨a,len,cap,rfl⟩:=okWide_slice (e:=32) (by kernel_rfl) hok;obtain⟨fuel,hf⟩:=h;obtain⟨fs,k1,k2,k3⟩:=zqd5;have hc:len<=cap/\(a=none->cap=0):=by
  have h0:DataW.trod enc Try.prog W 0 (λ_=>true) true fuel 22 [.slice a len cap]=some (d,p):=by simpa[Value.cells]using hf
  rcases open_slice1 (e:=32) (by kernel_rfl) (by kernel_rfl) h0 with⟨e,_⟩|⟨a',len',cap',m,n,V,D,Pl,e,_,hl,_⟩
  . cases e;exact⟨Nat.le_refl _,λ_=>rfl⟩
  . cases e;exact⟨hl,λe=>by cases e⟩
 obtain⟨tops,t1,t2,t3⟩:=thr_open (e:=32) (e2:=34) (by kernel_rfl) (by kernel_rfl) (by kernel_rfl) k1 (by kernel_rfl) k3 k2 (by simpa[Value.cells]using hf);have:=zq4z d;refine⟨a,len,cap,tops,rfl,t1,hc,by omega,λi hi=>?_⟩;obtain⟨x,es,sp',e,he,hx⟩:=t3 i hi;have:=zqaw (sp:=sp') he;rw[<-e]at this;have:=zq4z x;omega
theorem zqcy(os:Os)(started:os.Started)(H:Type)(enc:TypeId×Value->H)(F:Stop.Interp):
 ReturnsInLeavingWide {} Try.checked os 5 .any ((Rows.OpenSpec.upto Rows.onceOneSpec).pre6 enc Try.prog Try.f5 Rows.onceOneUptoRow.domain false) (((Rows.OpenSpec.upto Rows.onceOneSpec).at F).post enc Try.prog Try.f5 false true false false):=by
 refine zqck (C:=Try.checked) (s:=Rows.OpenSpec.upto Rows.onceOneSpec) (k:=Rows.uptoSmall) rfl own_knob started Try.func5
  (OpenSpec.witness (enc:=enc) (C:=Try.checked) (s:=Rows.OpenSpec.upto Rows.onceOneSpec) (k:=Rows.uptoSmall) rfl false ⟨#[],#[.int .u8 0,.slice none 0 0,.slice none 0 0,.int .u16 0],[]⟩ 8 (by kernel_rfl) (by kernel_rfl) (by kernel_rfl)
   (x:=([.lit (.int .u8 0),.nil,.nil,.lit (.int .u16 0)],[],[])) (by kernel_rfl) rfl (by kernel_rfl)) ?_
 intro W base args ds gs before hval0 hW hk;have hval:∀(j:Nat)t v,Try.f5.params[j]?=some t->args[j]?=some v->Value.okWide Try.prog W .any base t v:=hval0;have hW':=hW;obtain⟨p,q,hA0,hV,rfl,_,_⟩:=hW;have hA:DataW.TrodAll enc Try.prog W 0 (λ_=>true) true Try.f5.params.toList args.toList ds p:=hA0;rw[Try.params5]at hA hval;obtain⟨v0,v1,v2,v3,d0,d1,d2,d3,p0,p1,p2,p3,rfl,rfl,rfl,h0,h1,h2,h3⟩:=trodAll_four hA;obtain⟨rfl,rfl⟩:=trodVars_none hV;clear hA0 hval0;simp only[List.append_nil]at hW' hk;have hlt:∀x∈p0++p1++p2++p3,x.block<W.heap.size:=λx hx=>by simpa using hW'.lt x hx
 obtain⟨cl,rfl⟩:=okWide_int (k:=.u8) (by kernel_rfl) (hval 0 _ v0 rfl rfl);obtain⟨pp,np,Cn,tops,rfl,i1,i1c,b1,b1'⟩:=thr_in2 (hval 1 _ v1 rfl rfl) h1 (zq6g hk (by simp));obtain⟨scp,Cs,sched,rfl,i2,b2⟩:=ints_arg (e:=3) (by kernel_rfl) (by kernel_rfl) (by kernel_rfl) (hval 2 _ v2 rfl rfl) h2 (zq6g hk (by simp));obtain⟨mo,rfl⟩:=okWide_int (k:=.u16) (by kernel_rfl) (hval 3 _ v3 rfl rfl);have hcl:0<=cl/\cl<256:=by
  obtain⟨_,k0⟩:=h0;obtain⟨x,e0,-,hwf⟩:=DataW.trod_int (k:=.u8) (by kernel_rfl) k0;simp[Value.cells]at e0;subst e0;unfold Lit.wf at hwf;rw[Bool.and_eq_true,decide_eq_true_eq,decide_eq_true_eq]at hwf;obtain⟨q1,q2⟩:=hwf;have e1:IntKind.u8.min=0:=by decide
  have e2:IntKind.u8.max=255:=by decide
  omega
 have hmo:0<=mo/\mo<65536:=by
  obtain⟨_,k0⟩:=h3;obtain⟨x,e0,-,hwf⟩:=DataW.trod_int (k:=.u16) (by kernel_rfl) k0;simp[Value.cells]at e0;subst e0;unfold Lit.wf at hwf;rw[Bool.and_eq_true,decide_eq_true_eq,decide_eq_true_eq]at hwf;obtain⟨q1,q2⟩:=hwf;have e1:IntKind.u16.min=0:=by decide
  have e2:IntKind.u16.max=65535:=by decide
  omega
 obtain⟨M,last,o,w',t',r1,r2,r3,r4⟩:=zqd4 (Post:=λv w'=>v=.bool true/\Beyond W w') (λv w τ d h=>⟨h.1,h.2.1,h.2.2⟩) hcl hmo (Cn:=Cn) ⟨i1,b1,i1c,b1',i2,rfl,b2⟩ (λw' h=>⟨rfl,h⟩);refine⟨M,last,o,w',t',r1,r2,r3,r4.mono λv hF=>?_⟩;obtain⟨⟨rfl,hb⟩,ho,hu⟩:=hF;have same:∀{t:TypeId}(hr:Try.prog.readableRec t=true)(hrow:t<Try.prog.types.size){v:Value}{d:DataW H}{ps:List MemPlace}(h:DataW.Trod enc Try.prog W 0 (λ_=>true) true t v d ps)(hlt:∀x∈ps,x.block<W.heap.size),DataW.Trod enc Try.prog w' 0 (λb=>decide (b<W.heap.size)) true t v d ps:=λhr hrow _ _ _ h hlt=>zqdq hr hrow h hb hlt;refine⟨_,_,_,[],p0++(p1++(p2++p3)),[],hW',trodAll_mk1 (shut_bool Try.underlying4 true),?_,rfl,zqce hb ho hu _,λh=>by cases h⟩;exact trodAll_mk4 (same (by kernel_rfl) (of_decide_eq_true (by kernel_rfl)) h0 λx hx=>hlt x (by simp[hx])) (same (by kernel_rfl) (of_decide_eq_true (by kernel_rfl)) h1 λx hx=>hlt x (by simp[hx])) (same (by kernel_rfl) (of_decide_eq_true (by kernel_rfl)) h2 λx hx=>hlt x (by simp[hx])) (same (by kernel_rfl) (of_decide_eq_true (by kernel_rfl)) h3 λx hx=>hlt x (by simp[hx]))
theorem onceOne_upto:Rows.OnceOneUptoSaid:=
 zqc4 5 Try.f5 rfl rfl rfl rfl rfl rfl rfl ⟨rfl,rfl,rfl,rfl,rfl⟩ rfl rfl rfl rfl rfl (by kernel_rfl) Try.func5 (by kernel_rfl)
  (of_decide_eq_true (by kernel_rfl)) (by unfold Func.isWrapper;first|(rw[if_pos (by decide +kernel)];kernel_rfl)|(rw[if_neg (by decide +kernel)];exact⟨rfl,rfl⟩))
  (λos started H enc _ F=>zqcy os started H enc F)
end Go.Proofs.Ytkdlklpffdlglaa
