/- YtkdlklpffdlglaaBox5: part 11 of the proof (the texts behind it, in order). -/
import Derived.Test.YtkdlklpffdlglaaV10
set_option maxHeartbeats 4000000
set_option maxRecDepth 100000
set_option linter.all false
namespace Go.Proofs
open Go Go.Conc Go.RowKit Go.Car
noncomputable def oplT(n:Nat):Code:=tailN n (Try.f11.body.getD .skip)
theorem opl0:Try.f11.body.getD .skip=.seq (headC (oplT 0)) (.seq (headC (oplT 1)) (.seq (headC (oplT 2)) (oplT 3))):=by kernel_rfl
def onceT(NC:Nat)(ops:Nat->List OpX)(N:Nat)(mo:Int)(sched:List Int):TSt (Nums×(Nat->List Ans)):=playT (λi=>opsP i (doerP NC) (ops i)) N (min mo.toNat 1048576) sched (λ_ _=>0,λ_=>[])
theorem zqcz{Fin:Machine->Trace->Prop}(hFin:Back Try.prog Fin){n:Nat}(hn:0<n){RP:Nat->Option Obj}{w:World}{np Cn N Cs:Nat}{pp scp:Option Addr}{sp:Nat->Option Addr}{L Cp:Nat->Nat}{ops:Nat->List OpX}{sched:List Int}{mo cells:Int}
 (hRP:∀b o,RP b=some o->w.heap[b]?=some o) (ho:OpsAt w RP pp np N sp L Cp ops) (hsl:sched.length<=4611686018427387904)
 (hs:sched≠[]->∃sb off,scp=some ⟨sb,off,none⟩/\∀j x,sched[j]?=some x->w.cell? ⟨sb,off+j,none⟩=some (.int .i64 x))
 {c:Frame} {cs:List Frame}
 (hmain:∀ab ov sv am w',PlayedR N w (onceT (onceN cells) ops N mo sched) (numL (onceT (onceN cells) ops N mo sched).s.1 (onceN cells)) ab ov sv am w'->
  J0 Try.prog Fin (n+N) (G (c.finish (.agg #[.slice (some ⟨ab,0,none⟩) N N,ov,sv,.bool (decide (0<leftN (onceT (onceN cells) ops N mo sched).ov N))])) cs) w'):
 J0 Try.prog Fin n (G (Frame.enter Try.prog 11 #[.int .i64 cells,.slice pp np Cn,.slice scp sched.length Cs,.int .i64 mo] .normal) (c::cs)) w:=by
 have hJ:=j0_JS hFin;have hC:=zq2y hFin;have e:Frame.enter Try.prog 11 #[.int .i64 cells,.slice pp np Cn,.slice scp sched.length Cs,.int .i64 mo] .normal=(bN 11).at (zql Try.f11 #[.int .i64 cells,.slice pp np Cn,.slice scp sched.length Cs,.int .i64 mo]) [.code ((Try.f11.body).getD .skip)]:=by kernel_rfl
 have ea:zql Try.f11 #[.int .i64 cells,.slice pp np Cn,.slice scp sched.length Cs,.int .i64 mo]=⟨#[.int .i64 cells,.slice pp np Cn,.slice scp sched.length Cs,.int .i64 mo,undef,undef,undef,undef,undef,undef,undef,undef,undef,undef,undef,undef,undef,undef,undef,undef,undef,undef,undef,undef,undef,undef],[]⟩:=by kernel_rfl
 rw[e,ea,opl0];clear e ea;have hm:=Lib.hid hmain;clear hmain;obtain⟨H,hH⟩:∃H,w.heap.size=H:=⟨_,rfl⟩;refine hJ.ctl (s:=n) (λw=>stepG_seq) ?_;refine zq38 hJ hC zq2b (by kernel_rfl) (λt w'=>t=#[.int .i64 cells,.slice pp np Cn,.slice scp sched.length Cs,.int .i64 mo,undef,undef,undef,undef,.pointer (some ⟨H,0,none⟩),undef,undef,undef,undef,undef,undef,undef,undef,undef,undef,undef,undef,undef,undef,undef,undef,undef]/\∃τ d,w'=re (w.alloc (.cells #[.slice none 0 0,.slice none 0 0,.slice none 0 0,.bool false] 29)) τ d) (λt w' τ d h=>⟨h.1,by obtain⟨τ',d',rfl⟩:=h.2;exact⟨τ,d,by rw[re_re]⟩⟩) (by decide) (λτ d=>?_) ?_
 . obtain⟨u0,hu0⟩:∃c,headC (oplT 0)=c:=⟨_,rfl⟩;have eu0:=hu0;rw[hu0];simp only[oplT,headC,tailN,Try.f11,al_od]at eu0;subst eu0;clear hu0;clear hs ho hRP;go_wp2;exact⟨rfl,rfl,τ,d,rfl⟩
 rintro t w' ⟨rfl,τ,d,rfl⟩;refine hJ.re' n _ _ τ d ?_;have hwa:(w.alloc (.cells #[.slice none 0 0,.slice none 0 0,.slice none 0 0,.bool false] 29)).heap.size=H+1:=by rw[zqg,hH]
 have hob:∀b,b<H->(w.alloc (.cells #[.slice none 0 0,.slice none 0 0,.slice none 0 0,.bool false] 29)).heap[b]?=w.heap[b]?:=λb hb=>by rw[zqc,if_neg (by omega)]
 have hzb:(w.alloc (.cells #[.slice none 0 0,.slice none 0 0,.slice none 0 0,.bool false] 29)).heap[H]?=some (.cells #[.slice none 0 0,.slice none 0 0,.slice none 0 0,.bool false] 29):=hH▸zq13 w _;obtain⟨wa,hwae⟩:∃wa,w.alloc (.cells #[.slice none 0 0,.slice none 0 0,.slice none 0 0,.bool false] 29)=wa:=⟨_,rfl⟩;rw[hwae]at hwa hob hzb |-;clear hwae;refine hJ.ctl (s:=n) (λw=>stepG_seq) ?_;refine zq38 hJ hC zq2b (by kernel_rfl) (λt w'=>∃TN vb pb Cp ps,t=#[.int .i64 cells,.slice pp np Cn,.slice scp sched.length Cs,.int .i64 mo,undef,undef,undef,undef,.pointer (some ⟨H,0,none⟩),.slice (some ⟨pb,0,none⟩) (onceN cells) Cp,.func (.func 63) #[] #[.pointer (some ⟨vb,0,none⟩)],undef,.tuple #[.slice (some ⟨pb,0,none⟩) (onceN cells) Cp,.func (.func 63) #[] #[.pointer (some ⟨vb,0,none⟩)]],.int .i64 cells,.tuple #[.slice (some ⟨pb,0,none⟩) (onceN cells) Cp,.func (.func 63) #[] #[.pointer (some ⟨vb,0,none⟩)]],.slice (some ⟨pb,0,none⟩) (onceN cells) Cp,.func (.func 63) #[] #[.pointer (some ⟨vb,0,none⟩)],undef,undef,undef,undef,undef,undef,undef,undef,undef]/\TN.N=onceN cells/\NewOnces wa TN vb pb Cp ps w') (λt w' τ d h=>by obtain⟨TN,vb,pb,Cp,ps,h1,h2,h3⟩:=h;exact⟨TN,vb,pb,Cp,ps,h1,h2,h3.re τ d⟩) (by decide) (λτ d=>?_) ?_
 . obtain⟨u0,hu0⟩:∃c,headC (oplT 1)=c:=⟨_,rfl⟩;have eu0:=hu0;rw[hu0];simp only[oplT,headC,tailN,Try.f11,al_od]at eu0;subst eu0;clear hu0;have HM:=Lib.hid (zqbb cells (re wa τ d));clear hs ho hRP hob hzb hH hwa hsl
   go_wp2_with (fail)
   refine Calls.mono HM.out ?_;rintro e w' ⟨TN,vb,pb,Cp,ps,hN,hR,rfl⟩;rw[hN];have HR:RowKit.Hid (TN.N=onceN cells/\NewOnces wa TN vb pb Cp ps w'):=Lib.hid ⟨hN,hR.of_re⟩;clear hR hN;go_wp2;exact⟨rfl,_,_,_,_,_,rfl,HR.out⟩
 rintro t wb ⟨TN,vb,pb,Cq,ps,rfl,hTN,hR⟩;have hNN:=zq7r cells;have hwb:H+1<=wb.heap.size:=by have:=hR.be.1;omega
 have hobb:∀b,b<H->wb.heap[b]?=w.heap[b]?:=λb hb=>(hR.be.2 b (by omega)).trans (hob b hb);have hzb2:wb.heap[H]?=some (.cells #[.slice none 0 0,.slice none 0 0,.slice none 0 0,.bool false] 29):=(hR.be.2 H (by omega)).trans hzb;have hlo:=hR.lo;have hvl:=hR.vlo;have hpl:=hR.plo;rw[hwa]at hlo hvl hpl;clear hzb hob hwa;have hlt:∀b o,RP b=some o->b<H:=λb o h=>by rw[<-hH];exact zqr (hRP b o h)
 have hnf:∀b,(zqw TN).foot (λ_ _=>0) b->H+1<=b:=λb⟨x,hx,hb⟩=>by have:=hlo x hx;omega
 obtain⟨RQ,hRQ⟩:∃RQ:Nat->Option Obj,RQ=λb=>if b=vb then some (.cells #[.slice (some ⟨pb,0,none⟩) TN.N Cq] 108)else if b=pb then some (.cells ps 35)else RP b:=⟨_,rfl⟩
 have hpv:pb≠vb:=zq3b hR.pbk hR.vbk (by decide);have hqv:RQ vb=some (.cells #[.slice (some ⟨pb,0,none⟩) TN.N Cq] 108):=by rw[hRQ];simp
 have hqp:RQ pb=some (.cells ps 35):=by rw[hRQ];simp[hpv]
 have hqr:∀b o,RP b=some o->RQ b=some o:=λb o h=>by
  have:=hlt b o h;rw[hRQ];simp only;rw[if_neg (by omega),if_neg (by omega)];exact h
 have hqw:∀b o,RQ b=some o->(b=vb\/b=pb\/b<H)/\wb.heap[b]?=some o:=λb o h=>by
  rw[hRQ]at h;simp only at h;split at h
  . rename_i e;cases h;subst e;exact⟨.inl rfl,hR.vbk⟩
  . split at h
    . rename_i e;cases h;subst e;exact⟨.inr (.inl rfl),hR.pbk⟩
    . exact⟨.inr (.inr (hlt b o h)),(hobb b (hlt b o h)).trans (hRP b o h)⟩
 have hB:BRep (zqw TN) RQ ⟨λ_ _=>0,λ_ _=>none⟩ wb:=by
  refine⟨hR.rep,λi b o h=>(by cases h),λb o h=>(hqw b o h).2,λi b h=>absurd rfl h,λi j b _ h=>absurd rfl h,λb h hf=>?_,λi b _=>rfl⟩;cases ho:RQ b with
  |none=>exact h ho
  |some o=>
   obtain⟨x,hx,hb⟩:=hf;have h1:=hR.sep x hx;have h2:=hlo x hx;rcases(hqw b o ho).1 with e|e|e
   . exact h1.1 (by rw[<-e];exact hb)
   . exact h1.2 (by rw[<-e];exact hb)
   . omega
 have hOp:OpsAt wb RQ pp np N sp L Cp ops:=by
  refine⟨ho.eq,ho.le,λh0=>?_,ho.row,ho.len,λi hi k op hk=>?_⟩
  . obtain⟨tb,to',e,h1⟩:=ho.at' h0;exact⟨tb,to',e,λi hi=>(zq17 (hobb tb (by rw[<-hH];exact cell_lt (h1 i hi)))).trans (h1 i hi)⟩
  . obtain⟨g,off,cur,e,fr,h1,h2,h3⟩:=ho.op i hi k op hk;exact⟨g,off,cur,e,fr,h1,hqr _ _ h2,h3⟩
 have hsc:sched≠[]->∃sb off,scp=some ⟨sb,off,none⟩/\¬(zqw TN).foot (λ_ _=>0) sb/\∀j x,sched[j]?=some x->wb.cell? ⟨sb,off+j,none⟩=some (.int .i64 x):=λh0=>by
  obtain⟨sb,off,e,h2⟩:=hs h0;obtain⟨x,l,hsl⟩:=List.exists_cons_of_ne_nil h0;have hlt:sb<H:=by rw[<-hH];exact cell_lt (h2 0 x (by rw[hsl];rfl))
  exact⟨sb,off,e,λhf=>by have:=hnf sb hf;omega,λj x hj=>(zq17 (hobb sb hlt)).trans (h2 j x hj)⟩
 have hpn:¬(zqw TN).foot (λ_ _=>0) pb:=λ⟨x,hx,hb⟩=>(hR.sep x hx).2 hb
 have hpw:=hR.pbk;have hps:=hR.ps';have hln:=hR.len;clear ho hs hRP hlt hR;refine hJ.ctl (s:=n) (λw=>stepG_seq) ?_;obtain⟨u0,hu0⟩:∃c,headC (oplT 2)=c:=⟨_,rfl⟩;have eu0:=hu0;rw[hu0];simp only[oplT,headC,tailN,Try.f11,al_od]at eu0;subst eu0;clear hu0;refine hJ.ctl (s:=n) (λw=>stepG_region) ?_;have HX:=Lib.hid (And.intro hB (And.intro hOp (And.intro hsc (And.intro hnf (And.intro hobb (And.intro hzb2 hwb))))));have HE:=Lib.hid (And.intro hTN (And.intro hH (And.intro hpw (And.intro hps (And.intro hln (And.intro hpn (And.intro hqv (And.intro hqp hNN))))))));clear hB hOp hsc hnf hobb hzb2 hwb hH hpw hps hln hpn hqv hqp hRQ hqr hqw hlo hvl hpl hTN hpv hNN;refine zqi (s:=n) (by decide) hJ (zqh _) true (.inl rfl) 0 4 3 rfl rfl rfl (by rfl) ?_;intro τ d;simp only[List.drop_zero,List.take_succ_cons,List.take_zero];go_wp2;simp only[zqb];refine hJ.re' n _ _ τ d ?_;refine zq1f (by decide) hJ (s:=n) rfl rfl (f:=35) (args:=#[.slice pp np Cn,.func (.func 63) #[] #[.pointer (some ⟨vb,0,none⟩)],.slice scp sched.length Cs,.int .i64 mo]) (λτ d=>?_) (λτ d=>?_) ?_
 . simp[go_sem,execOp,Act.eval,resolve,Deferred.ofValue,invoke,callFunc,Try.func35,Try.f35]
 . intro e he;simp[go_sem,execOp,Act.eval,resolve,Deferred.ofValue,invoke,callFunc,Try.func35,Try.f35,Sem.runT_eq]at he
 obtain⟨hB,hOp,hsc,hnf,hobb,hzb2,hwb⟩:=HX.out;obtain⟨hTN,hH,hpw,hps,hln,hpn,hqv,hqp,hNN⟩:=HE.out;refine zqd3 hFin hn zq2b rowsM (fn:=Try.f63) (cc:=(Try.f63.body).getD .skip) Try.func63 rfl rfl hB hOp hsl hsc (dop:=λ_=>doerP TN.N) (λi op k=>zqba _ _ _) (λro ab pr st cr rest EN i o op hro _=>zqbd (by omega) hln ro (hro _ _ hqv) (hro _ _ hqp) hps pr st cr rest EN i o op) ?_;intro ab v l' am w2 hO;rw[Frame.finish_at]
 walk_nrm
 have hTe:playT (λi=>opsP i (doerP TN.N) (ops i)) N (min mo.toNat 1048576) sched ((zqw TN).st (λ_ _=>0),λ_=>[])=onceT (onceN cells) ops N mo sched:=by
  unfold onceT;rw[hTN];rfl
 rw[hTe]at hO |-;obtain⟨pv',cv',rfl,_⟩:=zq4g hO.row;have hl':(onceT (onceN cells) ops N mo sched).s.1=l':=hO.st.symm;have hze:w2.heap[H]?=some (.cells #[.slice none 0 0,.slice none 0 0,.slice none 0 0,.bool false] 29):=(hO.old H (by omega) (λh=>by have:=hnf H h;omega)).trans hzb2;have hpe:w2.heap[pb]?=some (.cells ps 35):=(hO.old pb (zqr hpw) hpn).trans hpw;generalize (onceT (onceN cells) ops N mo sched).ord.length=nv' at hO |-;have HO:=Lib.hid hO;have HZ:=Lib.hid (And.intro hze (And.intro hl' hpe));obtain⟨stuck,hstuck⟩:∃x,decide (0<leftN (onceT (onceN cells) ops N mo sched).ov N)=x:=⟨_,rfl⟩;rw[hstuck];have HST:=Lib.hid hstuck;clear hstuck hO hze hl' hpe hTe hB hOp hsc hnf hobb hzb2 hwb hTN hH hpw hps hln hpn hqv hqp hNN;refine zqi (s:=n+N) (by decide) hJ (zqh _) false (.inr rfl) 5 2 0 rfl rfl rfl (by rfl) ?_;intro τ d;simp only[List.drop_succ_cons,List.drop_zero,List.take_succ_cons,List.take_zero];have HO2:=Lib.hid (HO.out.re τ d);have HZ2:RowKit.Hid ((re w2 τ d).heap[H]?=some (.cells #[.slice none 0 0,.slice none 0 0,.slice none 0 0,.bool false] 29)/\(onceT (onceN cells) ops N mo sched).s.1=l'/\(re w2 τ d).heap[pb]?=some (.cells ps 35)):=Lib.hid HZ.out;clear HO HZ;generalize re w2 τ d=w3 at HO2 HZ2 |-;go_wp2;simp only[zqb];refine hJ.ctl (s:=n+N) (λw=>stepG_region_end) ?_;have hT:=zq13 w3 (.cells #[.slice (some ⟨ab,0,none⟩) N N,.slice pv' nv' cv',.slice none 0 0,.bool stuck] 29);have hoT:∀b,b<w3.heap.size->(w3.alloc (.cells #[.slice (some ⟨ab,0,none⟩) N N,.slice pv' nv' cv',.slice none 0 0,.bool stuck] 29)).heap[b]?=w3.heap[b]?:=λb hb=>by rw[zqc,if_neg (by omega)]
 have hsT:(w3.alloc (.cells #[.slice (some ⟨ab,0,none⟩) N N,.slice pv' nv' cv',.slice none 0 0,.bool stuck] 29)).heap.size=w3.heap.size+1:=zqg _ _;generalize (w3.alloc (.cells #[.slice (some ⟨ab,0,none⟩) N N,.slice pv' nv' cv',.slice none 0 0,.bool stuck] 29))=w4 at hT hoT hsT |-;obtain⟨T,hTT⟩:∃T,w3.heap.size=T:=⟨_,rfl⟩;rw[hTT]at hT hoT hsT |-;have HT:=Lib.hid (And.intro hT (And.intro hoT (And.intro hsT hTT)));clear hT hoT hsT hTT;refine zq4u hJ hC zq2b (by kernel_rfl) (λv w'=>∃sv am,v=.agg #[.slice (some ⟨ab,0,none⟩) N N,.slice pv' nv' cv',sv,.bool stuck]/\PlayedR N w (onceT (onceN cells) ops N mo sched) (numL (onceT (onceN cells) ops N mo sched).s.1 (onceN cells)) ab (.slice pv' nv' cv') sv am w') (λv w' τ d⟨sv,am,h1,h2⟩=>⟨sv,am,h1,h2.re τ d⟩) rfl Try.func11 (λτ d=>?_) ?_
 . obtain⟨u0,hu0⟩:∃c,oplT 3=c:=⟨_,rfl⟩;have eu0:=hu0;rw[hu0];simp only[oplT,headC,tailN,Try.f11,al_od]at eu0;subst eu0;clear hu0;obtain⟨hT,hoT,hsT,hTT⟩:=HT.out;have hT':(re w4 τ d).heap[T]?=some (.cells #[.slice (some ⟨ab,0,none⟩) N N,.slice pv' nv' cv',.slice none 0 0,.bool stuck] 29):=hT;have hoT':∀b,b<T->(re w4 τ d).heap[b]?=w3.heap[b]?:=hoT;have hsT':(re w4 τ d).heap.size=T+1:=hsT;have hHl:H<T:=by rw[<-hTT];exact zqr HZ2.out.1
   have hpT:(re w4 τ d).heap[pb]?=some (.cells ps 35):=(hoT' pb (by rw[<-hTT];exact zqr HZ2.out.2.2)).trans HZ2.out.2.2;have hall:=zqe5 (T:=TN) ((zqw TN).frame _ _ _ HO2.out.rep λb hb=>hoT' b (by rw[<-hTT];exact(zqw TN).lt _ _ _ HO2.out.rep hb)) HE.out.2.2.2.2.1 (by have:=HE.out.1;have:=HE.out.2.2.2.2.2.2.2.2;omega) (Cp:=Cq) hpT HE.out.2.2.2.1;rw[HE.out.1]at hall;generalize re w4 τ d=w5 at hT' hoT' hsT' hall |-;have HA:=Lib.hid hall;have HW:=Lib.hid (And.intro hT' (And.intro hoT' (And.intro hsT' (And.intro hTT hHl))));clear hT hoT hsT hTT hT' hoT' hsT' hpT hall HT hHl hm
   go_wp2_with (fail)
   refine Calls.mono HA.out ?_;rintro e w6 ⟨sv,rfl,hI⟩;obtain⟨sp',sc',rfl,-,-⟩:=zq4g hI.row;obtain⟨sl,hsl'⟩:∃x,(numL l' (onceN cells)).length=x:=⟨_,rfl⟩;rw[hsl']at hI |-;have hI2:=Lib.hid (And.intro hI hsl');clear hsl';have b1:w6.heap[T]?=some (.cells #[.slice (some ⟨ab,0,none⟩) N N,.slice pv' nv' cv',.slice none 0 0,.bool stuck] 29):=(hI.be.2 T (by have:=HW.out.2.2.1;omega)).trans HW.out.1;have b0:w6.heap[H]?=some (.cells #[.slice none 0 0,.slice none 0 0,.slice none 0 0,.bool false] 29):=(hI.be.2 H (by have:=HW.out.2.2.1;have:=HW.out.2.2.2.2;omega)).trans ((HW.out.2.1 H HW.out.2.2.2.2).trans HZ2.out.1);have hne:¬(T=H):=by have:=HW.out.2.2.2.2;omega
   have hne2:¬(H=T):=by omega
   clear hI;have c0:=(zq1 (off:=0) b1).trans rfl;have c1:=(zq1 (off:=1) b1).trans rfl;have c2:=(zq1 (off:=2) b1).trans rfl;have c3:=(zq1 (off:=3) b1).trans rfl;have y2:=zqd (off:=2) b1;have r0:=(zq1 (off:=0) b0).trans rfl;have r1:=(zq1 (off:=1) b0).trans rfl;have r2:=(zq1 (off:=2) b0).trans rfl;have r3:=(zq1 (off:=3) b0).trans rfl;have z0:=zqd (off:=0) b0;have z1:=zqd (off:=1) b0;have z2:=zqd (off:=2) b0;have z3:=zqd (off:=3) b0;have B0:=Lib.hid b0;have B1:=Lib.hid b1;clear b0 b1;go_wp2;clear c0 c1 c2 c3 y2 r0 r1 r2 r3 z0 z1 z2 z3;have b0:(w6.setCell ⟨T,2,none⟩ (.slice sp' sl sc')).heap[H]?=some (.cells #[.slice none 0 0,.slice none 0 0,.slice none 0 0,.bool false] 29):=by rw[zqn _ _ _ _ hne2];exact B0.out
   have b1':=zqv _ H 0 (.slice (some ⟨ab,0,none⟩) N N) b0;have b2':=zqv _ H 1 (.slice pv' nv' cv') b1';have b3':=zqv _ H 2 (.slice sp' sl sc') b2';have b4':=zqv _ H 3 (.bool stuck) b3';have hext:∀x,x≠T->x≠H->(((((w6.setCell ⟨T,2,none⟩ (.slice sp' sl sc')).setCell ⟨H,0,none⟩ (.slice (some ⟨ab,0,none⟩) N N)).setCell ⟨H,1,none⟩ (.slice pv' nv' cv')).setCell ⟨H,2,none⟩ (.slice sp' sl sc')).setCell ⟨H,3,none⟩ (.bool stuck)).heap[x]?=w6.heap[x]?:=λx hx1 hx=>by
    rw[zqn _ _ _ _ hx,zqn _ _ _ _ hx,zqn _ _ _ _ hx,zqn _ _ _ _ hx,zqn _ _ _ _ hx1]
   have hsz8:(((((w6.setCell ⟨T,2,none⟩ (.slice sp' sl sc')).setCell ⟨H,0,none⟩ (.slice (some ⟨ab,0,none⟩) N N)).setCell ⟨H,1,none⟩ (.slice pv' nv' cv')).setCell ⟨H,2,none⟩ (.slice sp' sl sc')).setCell ⟨H,3,none⟩ (.bool stuck)).heap.size=w6.heap.size:=by simp only[zq11]
   generalize (((((w6.setCell ⟨T,2,none⟩ (.slice sp' sl sc')).setCell ⟨H,0,none⟩ (.slice (some ⟨ab,0,none⟩) N N)).setCell ⟨H,1,none⟩ (.slice pv' nv' cv')).setCell ⟨H,2,none⟩ (.slice sp' sl sc')).setCell ⟨H,3,none⟩ (.bool stuck))=w8 at b4' hext hsz8 |-;clear b1' b2' b3' b0;have k0:=(zq1 (off:=0) b4').trans rfl;have k1:=(zq1 (off:=1) b4').trans rfl;have k2:=(zq1 (off:=2) b4').trans rfl;have k3:=(zq1 (off:=3) b4').trans rfl;obtain⟨_,hoT,hsT,hTT,hHl⟩:=HW.out;obtain⟨hI,hsl2⟩:=hI2.out;have hwl:=HE.out.1;obtain⟨hB,hOp,hsc,hnf,hobb,hzb2,hwb⟩:=HX.out;have hrow:w8.ownsRow w3.heap.size 2 1 (.slice sp' sl sc') (numL (onceT (onceN cells) ops N mo sched).s.1 (onceN cells)).length ((numL (onceT (onceN cells) ops N mo sched).s.1 (onceN cells)).map (Value.int .i64)):=by
    rw[HZ2.out.2.1,hsl2];have hrI:=hI.row;rw[hsl2]at hrI;have q:w8.ownsRow w5.heap.size 2 1 (.slice sp' sl sc') sl ((numL l' (onceN cells)).map (Value.int .i64)):=zq24 hrI λg hg=>by
     have h1:=(own_lt hrI hg).2.1;exact hext g (by omega) (by omega)
    exact zq3h q (by omega)
   have hfin:PlayedR N w (onceT (onceN cells) ops N mo sched) (numL (onceT (onceN cells) ops N mo sched).s.1 (onceN cells)) ab (.slice pv' nv' cv') (.slice sp' sl sc') am w8:=by
    refine zqdh HO2.out HE.out.2.1 (by omega) hobb hnf (by have:=hI.be.1;omega) (λx hx hxH=>?_) hrow;rw[hext x (by omega) hxH,hI.be.2 x (by omega)];exact hoT x (by omega)
   refine⟨rfl,.agg #[.slice (some ⟨ab,0,none⟩) N N,.slice pv' nv' cv',.slice sp' sl sc',.bool stuck],?_,_,rfl,_,_,rfl,hfin⟩;simp only[results,Try.f11];simp[go_sem,k0,k1,k2,k3]
 . rintro v w' ⟨sv,am,rfl,h⟩;have h2:=hm.out _ _ sv am w' h;rw[HST.out]at h2;exact h2
theorem zq55{w:World}{B:Nat}{T:TypeId}{v:Value}{l:List Int}(h:w.ownsRow B T 1 v l.length (l.map (Value.int .i64))):zq3u w v l:=by
 rcases h.2 with⟨hv,h0⟩|⟨g,cap,cur,hv,hb,hh,h1,h2,h3,h4⟩
 . exact⟨none,0,by rw[hv,h0],λhne=>absurd (List.length_eq_zero_iff.1 h0) hne⟩
 . refine⟨_,cap,hv,λ_=>⟨g,0,rfl,λi hi=>?_⟩⟩;rw[zq1 hh,Nat.zero_add];have e:(l.map (Value.int .i64))[i]?=some (.int .i64 (l.getD i 0)):=by simp[hi]
   rw[<-h4,List.getElem?_take,if_pos (by omega)]at e;simpa using e
theorem zqc7{w:World}{B:Nat}{T:TypeId}{v:Value}{l:List Nat}(h:w.ownsRow B T 1 v l.length (l.map λ(i:Nat)=>.int .i64 i)):zq3u w v (l.map λ(i:Nat)=>(i:Int)):=by
 refine zq55 (B:=B) (T:=T) ?_;rw[List.length_map,List.map_map];exact h
theorem zqdo{X:Nat->Option Obj}{T:TypeId}{v:Value}{l:List Int}{w:World}(h:RowB X T 1 v l.length (l.map (Value.int .i64)))(hX:∀b o,X b=some o->w.heap[b]?=some o):zq3u w v l:=zq55 (h.own hX)
theorem ansL_get{tI:TypeId}{X:Nat->Option Obj}{l:List Ans}{cs:List Value}(h:AnsL tI X l cs):∀{i:Nat}{a:Ans},l[i]?=some a->∃Y sl,cs[i*3]?=some (.bool a.ok)/\cs[i*3+1]?=some (.int .i64 a.n)/\cs[i*3+2]?=some sl/\RowB Y tI 1 sl a.l.length (a.l.map (Value.int .i64))/\∀b o,Y b=some o->X b=some o:=by
 induction h with
 |nil=>intro i a hi;simp at hi
 |snoc h ha hd ih=>
  rename_i X Y l cs cs' a';intro i a hi;have hlen:=h.len;rcases Nat.lt_or_ge i l.length with hlt|hge
  . rw[List.getElem?_append_left hlt]at hi;obtain⟨Z,sl,h1,h2,h3,h4,h5⟩:=ih hi;refine⟨Z,sl,?_,?_,?_,h4,λb o hb=>?_⟩
    . rw[List.getElem?_append_left (by omega)];exact h1
    . rw[List.getElem?_append_left (by omega)];exact h2
    . rw[List.getElem?_append_left (by omega)];exact h3
    . have h6:=h5 b o hb;unfold orB;cases hY:Y b with
      |none=>simp[h6]
      |some y=>have:=hd b (by rw[hY];simp);rw[this]at h6;cases h6
  . have e:i=l.length:=by
     have:=(List.getElem?_eq_some_iff.1 hi).1;simp at this;omega
    subst e;simp at hi;subst hi;obtain⟨sl,rfl,hr⟩:=ha;refine⟨Y,sl,?_,?_,?_,hr,λb o hb=>by simp[orB,hb]⟩
    . rw[List.getElem?_append_right (by omega),hlen];simp
    . rw[List.getElem?_append_right (by omega),hlen];simp
    . rw[List.getElem?_append_right (by omega),hlen];simp
theorem ansR_at{tA tI:TypeId}{X:Nat->Option Obj}{hv:Value}{l:List Ans}{w:World}(h:AnsR tA tI X hv l)(hX:∀b o,X b=some o->w.heap[b]?=some o):AnsAt w hv l:=by
 obtain⟨Xr,XL,cs,hr,hL,rfl,hd⟩:=h;rcases hr.2 with⟨hv,h0,_⟩|⟨g,cap,cur,rfl,rfl,h1,h2,h3,h4⟩
 . exact⟨none,0,by rw[hv,h0],λhne=>absurd (List.length_eq_zero_iff.1 h0) hne⟩
 . refine⟨_,cap,rfl,λ_=>⟨g,0,rfl,λi a hi=>?_⟩⟩;have hg:w.heap[g]?=some (.cells cur tA (0,0)):=hX g _ (by simp[orB]);obtain⟨Y,sl,e1,e2,e3,e4,e5⟩:=ansL_get hL hi;have hil:=(List.getElem?_eq_some_iff.1 hi).1;have get:∀{j:Nat}{v:Value},j<l.length*3->cs[j]?=some v->w.cell? ⟨g,0+j,none⟩=some v:=λ{j v}hj e=>by
    rw[zq1 hg,Nat.zero_add];rw[<-h4,List.getElem?_take,if_pos hj]at e;simpa using e
   refine⟨get (by omega) e1,?_,sl,?_,zqdo e4 λb o hb=>hX b o ?_⟩
   . exact get (by omega) e2
   . exact get (by omega) e3
   . have h6:=e5 b o hb
     by_cases hbg:b=g
     . subst hbg;have:=hd b (by simp);rw[this]at h6;cases h6
     . simp[orB,hbg,h6]
theorem zq67{ab N:Nat}{m:AnsM}{w:World}(h:zq2u tT ab N m w){i:Nat}(hi:i<N):w.cell? ⟨ab,i,none⟩=some (m.hv i)/\AnsAt w (m.hv i) (m.st i):=by
 refine⟨(zq1 h.hd).trans ?_,ansR_at (h.row i hi) λb o hb=>h.blk i b o hi hb⟩;simp[hi]
noncomputable def seT(n:Nat):Code:=tailN n (Try.f9.body.getD .skip)
theorem se0:Try.f9.body.getD .skip=.seq (headC (seT 0)) (.seq (headC (seT 1)) (seT 2)):=by kernel_rfl
theorem zqco(w:World):Calls Try.prog 31 #[] w λe w'=>e=.returned (.pointer (some ⟨w.heap.size,0,none⟩))/\∃o,w'=w.alloc o:=by
 go_enter Try.func31,Try.ntmps31
 go_wp2;go_ret;exact⟨rfl,_,rfl⟩
theorem zqcp(w:World):Calls Try.prog 32 #[.nilFunc] w λe w'=>e=.returned (.pointer (some ⟨w.heap.size,0,none⟩))/\∃o,w'=w.alloc o:=by
 go_enter Try.func32,Try.ntmps32
 go_wp2;go_ret;exact⟨rfl,_,rfl⟩
def seOps(i:Nat):List OpX:=if i=0 then [⟨2,0,7,0⟩]else [⟨2,0,9,0⟩]
theorem se_ops{w:World}{rb p0 p1:Nat}(hr:w.heap[rb]?=some (.cells #[.slice (some ⟨p0,0,none⟩) 1 1,.slice (some ⟨p1,0,none⟩) 1 1] 32))(h0:w.heap[p0]?=some (.cells #[.int .i64 2,.int .i64 0,.int .i64 7,.int .i64 0] 34))(h1:w.heap[p1]?=some (.cells #[.int .i64 2,.int .i64 0,.int .i64 9,.int .i64 0] 34)):
 OpsAt w (λb=>if b=p0\/b=p1 then w.heap[b]? else none) (some ⟨rb,0,none⟩) 2 2 (λi=>if i=0 then some ⟨p0,0,none⟩else some ⟨p1,0,none⟩) (λ_=>1) (λ_=>1) seOps:=by
 refine⟨rfl,by decide,λ_=>⟨rb,0,rfl,λi hi=>?_⟩,λi hi=>?_,λi hi=>?_,λi hi k' op hop=>?_⟩
 . rw[zq1 hr];obtain rfl |rfl:i=0\/i=1:=by omega
   . rfl
   . rfl
 . obtain rfl |rfl:i=0\/i=1:=by omega
   . exact⟨by decide,by decide,λh=>(by cases h)⟩
   . exact⟨by decide,by decide,λh=>(by cases h)⟩
 . obtain rfl |rfl:i=0\/i=1:=by omega
   . rfl
   . rfl
 . obtain rfl |rfl:i=0\/i=1:=by omega
   . refine⟨p0,0,_,_,_,rfl,by rw[if_pos (.inl rfl)];exact h0,λj hj=>?_⟩;obtain rfl:k'=0:=by have:=(List.getElem?_eq_some_iff.1 hop).1;simp[seOps]at this;omega
     simp[seOps]at hop;subst hop;obtain rfl |rfl |rfl |rfl:j=0\/j=1\/j=2\/j=3:=by omega
     all_goals rfl
   . refine⟨p1,0,_,_,_,rfl,by rw[if_pos (.inr rfl)];exact h1,λj hj=>?_⟩;obtain rfl:k'=0:=by have:=(List.getElem?_eq_some_iff.1 hop).1;simp[seOps]at this;omega
     simp[seOps]at hop;subst hop;obtain rfl |rfl |rfl |rfl:j=0\/j=1\/j=2\/j=3:=by omega
     all_goals rfl
theorem se_a0:(onceT 1 seOps 2 100 [0,1,1,0,0]).s.2 0=[⟨true,7,[]⟩]:=by kernel_rfl
theorem se_a1:(onceT 1 seOps 2 100 [0,1,1,0,0]).s.2 1=[⟨false,0,[]⟩]:=by kernel_rfl
theorem se_st:numL (onceT 1 seOps 2 100 [0,1,1,0,0]).s.1 1=[2,7,0]:=by kernel_rfl
theorem se_ord:(onceT 1 seOps 2 100 [0,1,1,0,0]).ord.length=5:=by kernel_rfl
theorem se_stk:decide (0<leftN (onceT 1 seOps 2 100 [0,1,1,0,0]).ov 2)=false:=by kernel_rfl
theorem zqe3{Fin:Machine->Trace->Prop}(hFin:Back Try.prog Fin){n:Nat}(hn:0<n){w:World}{c:Frame}{cs:List Frame}(hmain:∀w',Beyond w w'->J0 Try.prog Fin (n+2) (G (c.finish (.bool true)) cs) w'):
 J0 Try.prog Fin n (G (Frame.enter Try.prog 9 #[] .normal) (c::cs)) w:=by
 have hJ:=j0_JS hFin;have hC:=zq2y hFin;have e:Frame.enter Try.prog 9 #[] .normal=(bN 9).at (zql Try.f9 #[]) [.code ((Try.f9.body).getD .skip)]:=by kernel_rfl
 have ea:zql Try.f9 #[]=⟨#[undef,undef,undef,undef,undef,undef,undef,undef,undef,undef,undef,undef,undef,undef,undef,undef,undef,undef,undef,undef,undef,undef,undef,undef,undef,undef,undef,undef,undef,undef,undef,undef,undef,undef,undef,undef,undef,undef,undef,undef,undef,undef,undef,undef,undef,undef,undef,undef,undef,undef,undef,undef,undef,undef,undef,undef,undef,undef,undef,undef,undef,undef,undef,undef,undef,undef,undef,undef,undef,undef,undef,undef,undef,undef,undef,undef,undef,undef,undef,undef,undef,undef,undef,undef,undef,undef,undef,undef,undef,undef,undef,undef,undef,undef,undef,undef,undef,undef,undef,undef,undef,undef,undef,undef,undef,undef,undef,undef,undef],[]⟩:=by kernel_rfl
 rw[e,ea,se0];clear e ea;have hm:=Lib.hid hmain;clear hmain;refine hJ.ctl (s:=n) (λw=>stepG_seq) ?_;refine zq38 hJ hC zq2b (by kernel_rfl) (λt w'=>t=#[.bool false,undef,undef,undef,undef,undef,undef,undef,undef,undef,undef,undef,undef,undef,undef,undef,undef,undef,undef,undef,undef,undef,undef,undef,undef,undef,undef,undef,undef,undef,undef,undef,undef,undef,undef,undef,undef,undef,undef,undef,undef,undef,undef,undef,undef,undef,undef,undef,undef,undef,undef,undef,undef,undef,undef,undef,undef,undef,undef,undef,undef,undef,undef,undef,undef,undef,undef,undef,undef,undef,undef,undef,undef,undef,undef,undef,undef,undef,undef,undef,undef,undef,undef,undef,undef,undef,undef,undef,undef,undef,undef,undef,undef,undef,undef,undef,undef,undef,undef,undef,undef,undef,undef,undef,undef,undef,undef,undef,undef]/\∃τ d,w'=re w τ d) (λt w' τ d h=>⟨h.1,by obtain⟨τ',d',rfl⟩:=h.2;exact⟨τ,d,by rw[re_re]⟩⟩) (by decide) (λτ d=>?_) ?_
 . obtain⟨u0,hu0⟩:∃c,headC (seT 0)=c:=⟨_,rfl⟩;have eu0:=hu0;rw[hu0];simp only[seT,headC,tailN,Try.f9,al_od]at eu0;subst eu0;clear hu0;go_wp2;exact⟨rfl,rfl,τ,d,rfl⟩
 rintro t w' ⟨rfl,τ,d,rfl⟩;refine hJ.re' n _ _ τ d ?_;refine hJ.ctl (s:=n) (λw=>stepG_seq) ?_;obtain⟨u0,hu0⟩:∃c,headC (seT 1)=c:=⟨_,rfl⟩;have eu0:=hu0;rw[hu0];simp only[seT,headC,tailN,Try.f9,al_od]at eu0;subst eu0;clear hu0;refine hJ.ctl (s:=n) (λw=>stepG_region) ?_;refine zqi (s:=n) (by decide) hJ (zqh _) false (.inr rfl) 0 6 3 rfl rfl rfl (by rfl) ?_;intro τ d;simp only[List.drop_zero,List.take_succ_cons,List.take_zero];have HB0:=Lib.hid (Beyond.re w τ d);generalize re w τ d=v0 at HB0 |-;obtain⟨H,hH⟩:∃H,v0.heap.size=H:=⟨_,rfl⟩;have HH:=Lib.hid hH;go_wp2;simp only[zqb];have HW:RowKit.Hid (Beyond v0 (((((v0.alloc (.cells #[.int .i64 2,.int .i64 0,.int .i64 7,.int .i64 0] 34)).alloc (.cells #[.int .i64 2,.int .i64 0,.int .i64 9,.int .i64 0] 34)).alloc (.cells #[.slice (some ⟨H,0,none⟩) 1 1,.slice (some ⟨H+1,0,none⟩) 1 1] 32)).alloc (.cells #[.int .i64 0,.int .i64 1,.int .i64 1,.int .i64 0,.int .i64 0] 3)))/\(((((v0.alloc (.cells #[.int .i64 2,.int .i64 0,.int .i64 7,.int .i64 0] 34)).alloc (.cells #[.int .i64 2,.int .i64 0,.int .i64 9,.int .i64 0] 34)).alloc (.cells #[.slice (some ⟨H,0,none⟩) 1 1,.slice (some ⟨H+1,0,none⟩) 1 1] 32)).alloc (.cells #[.int .i64 0,.int .i64 1,.int .i64 1,.int .i64 0,.int .i64 0] 3))).heap[H]?=some (.cells #[.int .i64 2,.int .i64 0,.int .i64 7,.int .i64 0] 34)/\(((((v0.alloc (.cells #[.int .i64 2,.int .i64 0,.int .i64 7,.int .i64 0] 34)).alloc (.cells #[.int .i64 2,.int .i64 0,.int .i64 9,.int .i64 0] 34)).alloc (.cells #[.slice (some ⟨H,0,none⟩) 1 1,.slice (some ⟨H+1,0,none⟩) 1 1] 32)).alloc (.cells #[.int .i64 0,.int .i64 1,.int .i64 1,.int .i64 0,.int .i64 0] 3))).heap[H+1]?=some (.cells #[.int .i64 2,.int .i64 0,.int .i64 9,.int .i64 0] 34)/\(((((v0.alloc (.cells #[.int .i64 2,.int .i64 0,.int .i64 7,.int .i64 0] 34)).alloc (.cells #[.int .i64 2,.int .i64 0,.int .i64 9,.int .i64 0] 34)).alloc (.cells #[.slice (some ⟨H,0,none⟩) 1 1,.slice (some ⟨H+1,0,none⟩) 1 1] 32)).alloc (.cells #[.int .i64 0,.int .i64 1,.int .i64 1,.int .i64 0,.int .i64 0] 3))).heap[H+1+1]?=some (.cells #[.slice (some ⟨H,0,none⟩) 1 1,.slice (some ⟨H+1,0,none⟩) 1 1] 32)/\(((((v0.alloc (.cells #[.int .i64 2,.int .i64 0,.int .i64 7,.int .i64 0] 34)).alloc (.cells #[.int .i64 2,.int .i64 0,.int .i64 9,.int .i64 0] 34)).alloc (.cells #[.slice (some ⟨H,0,none⟩) 1 1,.slice (some ⟨H+1,0,none⟩) 1 1] 32)).alloc (.cells #[.int .i64 0,.int .i64 1,.int .i64 1,.int .i64 0,.int .i64 0] 3))).heap[H+1+1+1]?=some (.cells #[.int .i64 0,.int .i64 1,.int .i64 1,.int .i64 0,.int .i64 0] 3)):=by
  refine Lib.hid ⟨(((Beyond.alloc _ _).trans (Beyond.alloc _ _)).trans (Beyond.alloc _ _)).trans (Beyond.alloc _ _),?_,?_,?_,?_⟩
  . rw[<-hH];exact zqk (zqk (zqk (zq13 _ _)))
  . refine zqk (zqk ?_);rw[zqc,if_pos (by rw[zqg,hH])]
  . refine zqk ?_;rw[zqc,if_pos (by simp only[zqg,hH])]
  . rw[zqc,if_pos (by simp only[zqg,hH])]
 generalize (((((v0.alloc (.cells #[.int .i64 2,.int .i64 0,.int .i64 7,.int .i64 0] 34)).alloc (.cells #[.int .i64 2,.int .i64 0,.int .i64 9,.int .i64 0] 34)).alloc (.cells #[.slice (some ⟨H,0,none⟩) 1 1,.slice (some ⟨H+1,0,none⟩) 1 1] 32)).alloc (.cells #[.int .i64 0,.int .i64 1,.int .i64 1,.int .i64 0,.int .i64 0] 3)))=WA at HW |-;clear hH;refine zq1f (by decide) hJ (s:=n) rfl rfl (f:=11) (args:=#[.int .i64 1,.slice (some ⟨H+1+1,0,none⟩) 2 2,.slice (some ⟨H+1+1+1,0,none⟩) 5 5,.int .i64 100]) (λτ d=>?_) (λτ d=>?_) ?_
 . simp[go_sem,execOp,Act.eval,resolve,Deferred.ofValue,invoke,callFunc,Try.func11,Try.f11]
 . intro e he;simp[go_sem,execOp,Act.eval,resolve,Deferred.ofValue,invoke,callFunc,Try.func11,Try.f11,Sem.runT_eq]at he
 refine zqcz hFin (n:=n) hn (RP:=λb=>if b=H\/b=H+1 then WA.heap[b]? else none) (sched:=[0,1,1,0,0]) (ops:=seOps) (N:=2) (λb o hb=>?_) (se_ops HW.out.2.2.2.1 HW.out.2.1 HW.out.2.2.1) (by decide) (λ_=>⟨H+1+1+1,0,rfl,λj x hj=>?_⟩) ?_
 . split at hb
   . exact hb
   . cases hb
 . rw[zq1 HW.out.2.2.2.2,Nat.zero_add];have hlj:=(List.getElem?_eq_some_iff.1 hj).1;simp only[List.length_cons,List.length_nil]at hlj;obtain rfl |rfl |rfl |rfl |rfl:j=0\/j=1\/j=2\/j=3\/j=4:=by omega
   all_goals(simp at hj;subst hj;rfl)
 rw[show onceN 1=1 by rfl];intro ab ov sv am wp hR;rw[se_stk];rw[Frame.finish_at]
 walk_nrm
 have hq1:=zqc7 hR.orow;have hq2:=zq55 hR.srow;rw[se_st]at hq2;obtain⟨op,oc,rfl,-⟩:=hq1;obtain⟨sp,sc,rfl,hsv⟩:=hq2;obtain⟨sb,so,rfl,hsc⟩:=hsv (by decide);have s0:=hsc 0 (by decide);have s1:=hsc 1 (by decide);have ha0:=zq67 hR.ans (i:=0) (by decide);have ha1:=zq67 hR.ans (i:=1) (by decide);rw[hR.ast,se_a0]at ha0;rw[hR.ast,se_a1]at ha1;obtain⟨a1,pa,ca,a2,a3⟩:=ha0;obtain⟨b1,pb,cb,b2,b3⟩:=ha1;obtain⟨ga,oa,rfl,a4⟩:=a3 (by simp);obtain⟨gb,ob',rfl,b4⟩:=b3 (by simp);obtain⟨a5,a6,_⟩:=a4 0 _ rfl;obtain⟨b5,b6,_⟩:=b4 0 _ rfl;rw[a2]at a1;rw[b2]at b1;simp only[List.length_map,se_ord,List.length_cons,List.length_nil,Nat.zero_add,Nat.zero_mul,Nat.add_zero,List.getD_cons_zero,List.getD_cons_succ]at a1 b1 a5 a6 b5 b6 s0 s1 |-;have hbw:Beyond w wp:=(HB0.out.trans HW.out.1).trans ⟨hR.size,hR.old⟩;have HF:=Lib.hid (And.intro a1 (And.intro a5 (And.intro a6 (And.intro b1 (And.intro b5 (And.intro b6 (And.intro s0 s1)))))));have HBW:=Lib.hid hbw;clear hR a1 a2 a3 a4 a5 a6 b1 b2 b3 b4 b5 b6 s0 s1 hsc hsv HW HB0 hbw;refine zqi (s:=n+2) (by decide) hJ (zqh _) false (.inr rfl) 7 2 0 rfl rfl rfl (by rfl) ?_;intro τ d;simp only[List.drop_succ_cons,List.drop_zero,List.take_succ_cons,List.take_zero];have HF2:RowKit.Hid ((re wp τ d).cell? ⟨ab,0,none⟩=some (.slice (some ⟨ga,oa,none⟩) 1 ca)/\(re wp τ d).cell? ⟨ga,oa,none⟩=some (.bool true)/\(re wp τ d).cell? ⟨ga,oa+1,none⟩=some (.int .i64 7)/\(re wp τ d).cell? ⟨ab,1,none⟩=some (.slice (some ⟨gb,ob',none⟩) 1 cb)/\(re wp τ d).cell? ⟨gb,ob',none⟩=some (.bool false)/\(re wp τ d).cell? ⟨gb,ob'+1,none⟩=some (.int .i64 0)/\(re wp τ d).cell? ⟨sb,so,none⟩=some (.int .i64 2)/\(re wp τ d).cell? ⟨sb,so+1,none⟩=some (.int .i64 7)):=Lib.hid HF.out;have HBW2:=Lib.hid (HBW.out.trans (Beyond.re wp τ d));generalize re wp τ d=x0 at HF2 HBW2 |-;clear HF HBW;go_wp2;simp only[zqb];refine hJ.ctl (s:=n+2) (λw=>stepG_region_end) ?_;have hT:=zq13 x0 (.cells #[.slice (some ⟨ab,0,none⟩) 2 2,.slice op 5 oc,.slice (some ⟨sb,so,none⟩) 3 sc,.bool false] 29);have hbx:Beyond x0 (x0.alloc (.cells #[.slice (some ⟨ab,0,none⟩) 2 2,.slice op 5 oc,.slice (some ⟨sb,so,none⟩) 3 sc,.bool false] 29)):=Beyond.alloc _ _;generalize (x0.alloc (.cells #[.slice (some ⟨ab,0,none⟩) 2 2,.slice op 5 oc,.slice (some ⟨sb,so,none⟩) 3 sc,.bool false] 29))=y0 at hT hbx |-;obtain⟨T,hTT⟩:∃T,x0.heap.size=T:=⟨_,rfl⟩;rw[hTT]at hT |-;clear hTT;have HY:=Lib.hid (HBW2.out.trans hbx);obtain⟨a1,a5,a6,b1,b5,b6,s0,s1⟩:=HF2.out;replace a1:=hbx.cell a1;replace a5:=hbx.cell a5;replace a6:=hbx.cell a6;replace b1:=hbx.cell b1;replace b5:=hbx.cell b5;replace b6:=hbx.cell b6;replace s0:=hbx.cell s0;replace s1:=hbx.cell s1;have t0:=(zq1 (off:=0) hT).trans rfl;have t1:=(zq1 (off:=1) hT).trans rfl;have t2:=(zq1 (off:=2) hT).trans rfl;have t3:=(zq1 (off:=3) hT).trans rfl;have FF:=Lib.hid (And.intro a1 (And.intro a5 (And.intro a6 (And.intro b1 (And.intro b5 (And.intro b6 (And.intro s0 (And.intro s1 (And.intro t0 (And.intro t1 (And.intro t2 t3)))))))))));clear hT hbx HF2 HBW2 a1 a5 a6 b1 b5 b6 s0 s1 t0 t1 t2 t3;refine zq4u hJ hC zq2b (by kernel_rfl) (λv w'=>v=.bool true/\Beyond y0 w') (λv w' τ d h=>⟨h.1,h.2.trans (Beyond.re _ _ _)⟩) rfl Try.func9 (λτ d=>?_) ?_
 . obtain⟨u0,hu0⟩:∃c,seT 2=c:=⟨_,rfl⟩;have eu0:=hu0;rw[hu0];simp only[seT,headC,tailN,Try.f9,al_od]at eu0;subst eu0;clear hu0 hm;obtain⟨a1,a5,a6,b1,b5,b6,s0,s1,t0,t1,t2,t3⟩:=FF.out;clear FF;have hcl:∀a,(re y0 τ d).cell? a=y0.cell? a:=λa=>rfl;rw[<-hcl]at a1 a5 a6 b1 b5 b6 s0 s1 t0 t1 t2 t3;clear hcl;have HR:RowKit.Hid (Beyond y0 (re y0 τ d)):=Lib.hid (Beyond.re _ _ _);generalize re y0 τ d=z0 at HR a1 a5 a6 b1 b5 b6 s0 s1 t0 t1 t2 t3 |-;have a1x:∀p q r:Obj,(((z0.alloc p).alloc q).alloc r).cell? ⟨ab,0,none⟩=some (.slice (some ⟨ga,oa,none⟩) 1 ca):=λp q r=>(((Beyond.alloc z0 p).trans (Beyond.alloc _ q)).trans (Beyond.alloc _ r)).cell a1;have a5x:∀p q r:Obj,(((z0.alloc p).alloc q).alloc r).cell? ⟨ga,oa,none⟩=some (.bool true):=λp q r=>(((Beyond.alloc z0 p).trans (Beyond.alloc _ q)).trans (Beyond.alloc _ r)).cell a5;have a6x:∀p q r:Obj,(((z0.alloc p).alloc q).alloc r).cell? ⟨ga,oa+1,none⟩=some (.int .i64 7):=λp q r=>(((Beyond.alloc z0 p).trans (Beyond.alloc _ q)).trans (Beyond.alloc _ r)).cell a6;have b1x:∀p q r:Obj,(((z0.alloc p).alloc q).alloc r).cell? ⟨ab,1,none⟩=some (.slice (some ⟨gb,ob',none⟩) 1 cb):=λp q r=>(((Beyond.alloc z0 p).trans (Beyond.alloc _ q)).trans (Beyond.alloc _ r)).cell b1;have b5x:∀p q r:Obj,(((z0.alloc p).alloc q).alloc r).cell? ⟨gb,ob',none⟩=some (.bool false):=λp q r=>(((Beyond.alloc z0 p).trans (Beyond.alloc _ q)).trans (Beyond.alloc _ r)).cell b5;have b6x:∀p q r:Obj,(((z0.alloc p).alloc q).alloc r).cell? ⟨gb,ob'+1,none⟩=some (.int .i64 0):=λp q r=>(((Beyond.alloc z0 p).trans (Beyond.alloc _ q)).trans (Beyond.alloc _ r)).cell b6;have s0x:∀p q r:Obj,(((z0.alloc p).alloc q).alloc r).cell? ⟨sb,so,none⟩=some (.int .i64 2):=λp q r=>(((Beyond.alloc z0 p).trans (Beyond.alloc _ q)).trans (Beyond.alloc _ r)).cell s0;have s1x:∀p q r:Obj,(((z0.alloc p).alloc q).alloc r).cell? ⟨sb,so+1,none⟩=some (.int .i64 7):=λp q r=>(((Beyond.alloc z0 p).trans (Beyond.alloc _ q)).trans (Beyond.alloc _ r)).cell s1;have t0x:∀p q r:Obj,(((z0.alloc p).alloc q).alloc r).cell? ⟨T,0,none⟩=some (.slice (some ⟨ab,0,none⟩) 2 2):=λp q r=>(((Beyond.alloc z0 p).trans (Beyond.alloc _ q)).trans (Beyond.alloc _ r)).cell t0;have t1x:∀p q r:Obj,(((z0.alloc p).alloc q).alloc r).cell? ⟨T,1,none⟩=some (.slice op 5 oc):=λp q r=>(((Beyond.alloc z0 p).trans (Beyond.alloc _ q)).trans (Beyond.alloc _ r)).cell t1;have t2x:∀p q r:Obj,(((z0.alloc p).alloc q).alloc r).cell? ⟨T,2,none⟩=some (.slice (some ⟨sb,so,none⟩) 3 sc):=λp q r=>(((Beyond.alloc z0 p).trans (Beyond.alloc _ q)).trans (Beyond.alloc _ r)).cell t2;have t3x:∀p q r:Obj,(((z0.alloc p).alloc q).alloc r).cell? ⟨T,3,none⟩=some (.bool false):=λp q r=>(((Beyond.alloc z0 p).trans (Beyond.alloc _ q)).trans (Beyond.alloc _ r)).cell t3
   go_wp2_with (fail)
   refine Calls.mono (zq7s _) ?_;rintro e w' ⟨rfl,rfl⟩
   go_wp2_with (fail)
   refine Calls.mono (zqco _) ?_;rintro e w' ⟨rfl,o2,rfl⟩
   go_wp2_with (fail)
   refine Calls.mono (zqcp _) ?_;rintro e w' ⟨rfl,o3,rfl⟩;go_wp2;go_ret;exact⟨_,rfl,rfl,HR.out.trans (((Beyond.alloc _ _).trans (Beyond.alloc _ _)).trans (Beyond.alloc _ _))⟩
 . rintro v w' ⟨rfl,h⟩;exact hm.out _ (HY.out.trans h)
def aLB:List FuncId:=[19]
def aRB:List FuncId:=[73,72]
def aMB(f:FuncId):Bool:=aLB.contains f || aRB.contains f
theorem plain_rowsB:Plain Try.prog aMB/\RowsS Try.prog aMB:=by
 refine zq5c (by kernel_rfl) (λf hf=>?_) (by kernel_rfl) (by kernel_rfl);simp only[aRB,List.mem_cons,List.not_mem_nil,or_false]at hf;rcases hf with rfl |rfl
 . exact⟨_,Extern.Atomic.loadT .ptr,Try.func73,rfl,by kernel_rfl,by kernel_rfl,by kernel_rfl,λ_=>zq9q _ _,λ_=>zq8h _ _⟩
 . exact⟨_,Extern.Atomic.casT .ptr,Try.func72,rfl,by kernel_rfl,by kernel_rfl,by kernel_rfl,λ_=>zq96 _ _,λ_=>zq87 _ _⟩
theorem zq3i:Plain Try.prog aMB:=plain_rowsB.1
end Go.Proofs
namespace Go.Car
open Go Go.Conc Go.RowKit
section
variable {P:Program} {st:Bool}
theorem zqis(a:Addr):tame P st (Conv.seenAt a):=by
 unfold Conv.seenAt
 repeat' (first|with_reducible (first|exact Tm.out|refine zq4 ?_|refine zq0 ?_ (λ_=>?_))|split|simp only[])
theorem zqhi(b:Nat):tame P st (cellsIn b):=by
 unfold cellsIn
 repeat' (first|with_reducible (first|exact Tm.out|refine zq4 ?_|refine zq0 ?_ (λ_=>?_))|split|simp only[])
theorem zqj9(a:Addr)(u:TypeId)(n:Nat):tame P st (variablesAt a u n):=by
 unfold variablesAt
 repeat' (first|with_reducible (first|exact Tm.out|refine zq4 ?_|refine zq0 ?_ (λ_=>?_))|split|simp only[])
theorem zqj6{s d:TypeId}(x:Value):tame P st (Conv.unsafePointer s d x):=by
 unfold Conv.unsafePointer
 repeat' (first|with_reducible exact Tm.out|exact zqis _|exact zqhi _|exact zqj9 _ _ _|with_reducible (first|refine zq4 ?_|refine zq0 ?_ (λ_=>?_))|split|simp only[])
theorem zqhl{s d:TypeId}(h:(∃e,P.underlying s=some (.pointer e)/\P.underlying d=some .unsafePointer)\/(∃e,P.underlying s=some .unsafePointer/\P.underlying d=some (.pointer e)))(x:Value):tame P st (convert s d x):=by
 refine zq3q λa ha=>?_;refine zq3q λb hb=>?_;rcases h with⟨e,h1,h2⟩|⟨e,h1,h2⟩
 all_goals(
  rw[h1]at ha;rw[h2]at hb;cases ha;cases hb;split<;>first|exact zqj6 _|exact True.intro|contradiction)
end
section
variable {P:Program} {main:Bool} {Kc:Addr->Option Value} {γ:Type} {J:γ->Goroutine->World->Prop}
theorem zq4s(hJ:JS P main Kc J){b:Frame}{k:List Item}{cs:List Frame}(hb:b.kind≠.early){ops:Array Oper}{i:Nat}{rest:List Nat}{o:Oper}{s:γ}{T:Array Value}{ds:List Deferred}{w:World}{d:Tmp}{src dst:TypeId}{x:Operand}{v:Value}
 (ho:ops[i]?=some o) (hop:o.op=.convert src dst x) (ht:(∃e,P.underlying src=some (.pointer e)/\P.underlying dst=some .unsafePointer)\/(∃e,P.underlying src=some .unsafePointer/\P.underlying dst=some (.pointer e))) (hg:o.guard=none) (hd:o.dst=some d)
 (hr:∀τ dd,(convert src dst ((Act.mk T ds).eval x)).run P (re w τ dd)=.ok v (re w τ dd))
 (hn:J s (G (b.at ⟨T.setIfInBounds d v,ds⟩ (.inRegion ops rest::k)) cs) w):J s (G (b.at ⟨T,ds⟩ (.inRegion ops (i::rest)::k)) cs) w:=by
 refine zq1k hb hJ ho (by simp[Region.wanted,hg]) λτ dd=>?_;have e:execOp (Act.mk T ds).eval o=(do pure (.value (<-convert src dst ((Act.mk T ds).eval x))):Sem Next):=by
  obtain⟨od,op,oty,opos,oaf,og⟩:=o;simp only at hop;subst hop;rfl
 have htame:tame P false (execOp (Act.mk T ds).eval o):=by rw[e];exact zqj (zqhl ht _)
 obtain⟨h1,h2⟩:=zq29 (Kc:=Kc) htame (re w τ dd);refine⟨h1,h2,?_⟩;have hrun:(execOp (Act.mk T ds).eval o).run P (re w τ dd)=.ok (.value v) (re w τ dd):=by
  rw[e,Sem.run_bind,hr τ dd];rfl
 rw[hrun];show J s (G (b.at ((Act.mk T ds).put o.dst v) _) _) _;rw[hd];exact hJ.re' s _ w τ dd hn
theorem at_val(hJ:JS P main Kc J){b:Frame}{k:List Item}{cs:List Frame}(hb:b.kind≠.early){ops:Array Oper}{i:Nat}{rest:List Nat}{o:Oper}{s:γ}{T:Array Value}{ds:List Deferred}{w:World}{d:Tmp}{v:Value}
 (ho:ops[i]?=some o) (hg:o.guard=none) (hd:o.dst=some d) (htame:tame P false (execOp (Act.mk T ds).eval o)) (hr:∀τ dd,(execOp (Act.mk T ds).eval o).run P (re w τ dd)=.ok (.value v) (re w τ dd))
 (hn:J s (G (b.at ⟨T.setIfInBounds d v,ds⟩ (.inRegion ops rest::k)) cs) w):J s (G (b.at ⟨T,ds⟩ (.inRegion ops (i::rest)::k)) cs) w:=by
 refine zq1k hb hJ ho (by simp[Region.wanted,hg]) λτ dd=>?_;obtain⟨h1,h2⟩:=zq29 (Kc:=Kc) htame (re w τ dd);refine⟨h1,h2,?_⟩;rw[hr τ dd];show J s (G (b.at ((Act.mk T ds).put o.dst v) _) _) _;rw[hd];exact hJ.re' s _ w τ dd hn
theorem zqi7(t:Extern.Atomic.T)(x:Array Value):tame P false (Extern.Atomic.loadT t x):=by
 unfold Extern.Atomic.loadT;rcases x with⟨_|⟨a,_|⟨b,l⟩⟩⟩
 . exact zq14 _
 rotate_left
 . exact zq14 _
 change tame P false (do Extern.Atomic.read t (<-asAddr a))
 repeat' (first|with_reducible (first|exact Tm.out|exact zqa _ (λ_=>zq0 (zq9 _) λ_=>zq7 _) _|refine zq4 ?_|refine zq0 ?_ (λ_=>?_))|split|simp only[])
theorem zqip{f:FuncId}{fn:Func}{e:Array Value->Sem Value}{args:Array Value}(hf:P.funcs[f]?=some fn)(hb:fn.body=none)(hn:(fn.name== "runtime.NumGoroutine")=false)(hx:Extern.findNext fn=none)(he:Extern.find fn=some e)(ht:tame P false (e args)):tame P false (callFunc f args):=by
 unfold callFunc;refine zq5q ?_;simp only[hf,hn,hb,hx,he,Option.isNone_none,Bool.false_eq_true,if_false,if_true];exact zq0 (zq5o trivial) λ_=>zqj ht
end
end Go.Car
namespace Go.Proofs
open Go Go.Conc Go.RowKit Go.Car
section
variable {P:Program} {f:FuncId} {fn:Func}
theorem zqdt(hf:P.funcs[f]?=some fn)(hname:(fn.name== "runtime.NumGoroutine")=false)(hb:fn.body.isNone=true)(hn:Extern.findNext fn=none)
 (he:Extern.find fn=some (Extern.Atomic.loadT .ptr)) {a:Addr} {x:Option Addr} {w:World} (hc:w.cell? a=some (.pointer x)):
 (callFunc f #[.pointer (some a)]).run P w=.ok (.value (.pointer x)) w:=by
 rw[run_callFunc_extern hf hname hb hn he];change (Sem.run P (do Extern.Atomic.read .ptr (<-asAddr (.pointer (some a)))) w).andThen _=_;simp[Extern.Atomic.read,asAddr,hc,Result.andThen]
theorem zqdr(hf:P.funcs[f]?=some fn)(hname:(fn.name== "runtime.NumGoroutine")=false)(hb:fn.body.isNone=true)(hn:Extern.findNext fn=none)
 (he:Extern.find fn=some (Extern.Atomic.casT .ptr)) {a y:Addr} {w:World} (hc:w.cell? a=some (.pointer none)) (hz:w.frozen? a=false):
 (callFunc f #[.pointer (some a),.pointer none,.pointer (some y)]).run P w=.ok (.value (.bool true)) (w.setCell a (.pointer (some y))):=by
 rw[run_callFunc_extern hf hname hb hn he];change (Sem.run P (do
  let a'<-asAddr (.pointer (some a))
  if<-Extern.Atomic.touchesFrozen a' then unsupported (.unsafePointer "a write to bytes that a string shares")
  let eq<-match Extern.Atomic.T.ptr,<-Extern.Atomic.read .ptr a',Value.pointer none with
   |_,.int _ x,.int _ y=>pure (x==y)
   |.ptr,.pointer x,.pointer y=>samePointer x y
   |.int _,.pointer (some _),.int _ 0|.int _,.int _ 0,.pointer (some _)=>pure false
   |.int _,.pointer (some _),_|.int _,_,.pointer (some _)=>unsupported .addressObserved
   |_,_,_=>stuck "atomic.CompareAndSwap: old is no T"
  if eq then store a' (.pointer (some y)) .atomic
  pure (Value.bool eq)) w).andThen _=_
 simp[Extern.Atomic.touchesFrozen,Extern.Atomic.read,asAddr,viewAt,World.shape?_isSome_of_cell? hc,hc,hz,samePointer,run_store P w a (.pointer (some y)) .atomic rfl,Result.andThen]
theorem zqds(hf:P.funcs[f]?=some fn)(hname:(fn.name== "runtime.NumGoroutine")=false)(hb:fn.body.isNone=true)(hn:Extern.findNext fn=none)
 (he:Extern.find fn=some (Extern.Atomic.casT .ptr)) {a x y:Addr} {w:World} (hc:w.cell? a=some (.pointer (some x))) (hz:w.frozen? a=false):
 (callFunc f #[.pointer (some a),.pointer none,.pointer (some y)]).run P w=.ok (.value (.bool false)) w:=by
 rw[run_callFunc_extern hf hname hb hn he];change (Sem.run P (do
  let a'<-asAddr (.pointer (some a))
  if<-Extern.Atomic.touchesFrozen a' then unsupported (.unsafePointer "a write to bytes that a string shares")
  let eq<-match Extern.Atomic.T.ptr,<-Extern.Atomic.read .ptr a',Value.pointer none with
   |_,.int _ x,.int _ y=>pure (x==y)
   |.ptr,.pointer x,.pointer y=>samePointer x y
   |.int _,.pointer (some _),.int _ 0|.int _,.int _ 0,.pointer (some _)=>pure false
   |.int _,.pointer (some _),_|.int _,_,.pointer (some _)=>unsupported .addressObserved
   |_,_,_=>stuck "atomic.CompareAndSwap: old is no T"
  if eq then store a' (.pointer (some y)) .atomic
  pure (Value.bool eq)) w).andThen _=_
 simp[Extern.Atomic.touchesFrozen,Extern.Atomic.read,asAddr,viewAt,World.shape?_isSome_of_cell? hc,hc,hz,samePointer,Result.andThen]
end
theorem conv_to{w:World}{b:Nat}{x:ByteArray}(h:w.heap[b]?=some (.cells #[.string x] 9)):(convert 73 75 (.pointer (some ⟨b,0,none⟩))).run Try.prog w=.ok (.pointer (some ⟨b,0,none⟩)) w:=by
 have h1:Try.prog.underlying 73=some (.pointer 9):=by kernel_rfl
 have h2:Try.prog.underlying 75=some .unsafePointer:=by kernel_rfl
 have h3:w.shape? b=some (9,1):=by simp[World.shape?,h]
 obtain⟨ti,h6,h7⟩:∃ti,Try.prog.info? 9=some ti/\ti.size=1:=⟨_,rfl,rfl⟩;simp[convert,underlying,Conv.unsafePointer,Conv.seenAt,viewAt,cellsIn,sizeOf,typeInfo,h1,h2,h3,h,h6,h7]
theorem zqb5{w:World}{b:Nat}{x:ByteArray}(h:w.heap[b]?=some (.cells #[.string x] 9)):(convert 75 73 (.pointer (some ⟨b,0,none⟩))).run Try.prog w=.ok (.pointer (some ⟨b,0,none⟩)) w:=by
 have h1:Try.prog.underlying 73=some (.pointer 9):=by kernel_rfl
 have h2:Try.prog.underlying 75=some .unsafePointer:=by kernel_rfl
 have h3:w.shape? b=some (9,1):=by simp[World.shape?,h]
 obtain⟨ti,h6,h7⟩:∃ti,Try.prog.info? 9=some ti/\ti.size=1:=⟨_,rfl,rfl⟩;have h8:liesAt Try.prog Try.prog.depth 9 (1 / Try.prog.cellsOf 9) 0 9 1=true:=by kernel_rfl
 simp[convert,underlying,Conv.unsafePointer,Conv.seenAt,viewAt,variablesAt,sizeOf,typeInfo,h1,h2,h3,h,h6,h7,h8]
theorem zqb7(w:World):(convert 73 75 (.pointer none)).run Try.prog w=.ok (.pointer none) w:=by
 have h1:Try.prog.underlying 73=some (.pointer 9):=by kernel_rfl
 have h2:Try.prog.underlying 75=some .unsafePointer:=by kernel_rfl
 simp[convert,underlying,Conv.unsafePointer,h1,h2]
theorem zqb6(w:World):(convert 75 73 (.pointer none)).run Try.prog w=.ok (.pointer none) w:=by
 have h1:Try.prog.underlying 73=some (.pointer 9):=by kernel_rfl
 have h2:Try.prog.underlying 75=some .unsafePointer:=by kernel_rfl
 simp[convert,underlying,Conv.unsafePointer,h1,h2]
theorem zq6n:(∃e,Try.prog.underlying 73=some (.pointer e)/\Try.prog.underlying 75=some .unsafePointer):=⟨9,by kernel_rfl,by kernel_rfl⟩
theorem zqb8:(∃e,Try.prog.underlying 75=some .unsafePointer/\Try.prog.underlying 73=some (.pointer e)):=⟨9,by kernel_rfl,by kernel_rfl⟩
section
variable {main:Bool} {Kc:Addr->Option Value} {J:Goroutine->World->Prop}
def ptrOf(p:Option Nat):Value:=.pointer (p.map λb=>⟨b,0,none⟩)
theorem zq7e(hJ:JS Try.prog main Kc (λ(_:Unit)=>J)){w:World}{bb:Nat}{p:Option Nat}(h0:w.heap[bb]?=some (.cells #[ptrOf p] 79))(hp:∀b,p=some b->∃x,w.heap[b]?=some (.cells #[.string x] 9)){cl:Frame}{cs:List Frame}(hn:J (G (cl.finish (ptrOf p)) cs) w):
 J (G (Frame.enter Try.prog 50 #[.pointer (some ⟨bb,0,none⟩)] .normal) (cl::cs)) w:=by
 have e:Frame.enter Try.prog 50 #[.pointer (some ⟨bb,0,none⟩)] .normal=(bN 50).at ⟨#[.pointer (some ⟨bb,0,none⟩),undef,undef,undef,undef,undef,undef,undef],[]⟩ [.code ((Try.f50.body).getD .skip)]:=by kernel_rfl
 rw[e];clear e;obtain⟨u,hu⟩:∃c,(Try.f50.body).getD .skip=c:=⟨_,rfl⟩;have eu:=hu;rw[hu];simp only[Try.f50,al_od]at eu;subst eu;clear hu;have HN:=Lib.hid hn;clear hn;refine hJ.ctl (s:=()) (λw=>stepG_seq) ?_;refine hJ.ctl (s:=()) (λw=>stepG_region) ?_;refine zqi (s:=()) (by decide) hJ (zqh _) true (.inl rfl) 0 1 0 rfl rfl rfl (by rfl) ?_;intro τ d;simp only[List.drop_succ_cons,List.drop_zero,List.take_succ_cons,List.take_zero];go_wp2;simp only[zqb];refine hJ.re' () _ _ τ d ?_;refine hJ.ctl (s:=()) (λw=>stepG_region_end) ?_;refine hJ.ctl (s:=()) (λw=>stepG_seq) ?_;refine hJ.ctl (s:=()) (λw=>stepG_region) ?_;refine zqi (s:=()) (by decide) hJ (zqh _) true (.inl rfl) 0 3 3 rfl rfl rfl (by rfl) ?_;intro τ d;simp only[List.drop_succ_cons,List.drop_zero,List.take_succ_cons,List.take_zero];go_wp2;simp only[zqb];refine hJ.re' () _ _ τ d ?_;have hl:=λτ d=>zqdt (P:=Try.prog) (w:=re w τ d) Try.func73 (by kernel_rfl) (by kernel_rfl) (by kernel_rfl) (by kernel_rfl) (a:=⟨bb,0,none⟩) (x:=p.map λb=>⟨b,0,none⟩) ((zq1 h0).trans rfl);rw[show List.range' (0+3) 3=[3,4,5]from rfl];refine at_val (s:=()) hJ (by decide) rfl rfl rfl (v:=ptrOf p) ?_ (λτ d=>?_) ?_
 . exact zqip (e:=Extern.Atomic.loadT .ptr) Try.func73 (by kernel_rfl) (by kernel_rfl) (by kernel_rfl) (by kernel_rfl) (zqi7 _ _)
 . have h:=hl τ d;simp[go_sem,execOp,Act.eval,resolve,Deferred.ofValue,invoke,h,ptrOf]
 refine zq4s (s:=()) hJ (by decide) rfl rfl (.inr zqb8) rfl rfl (v:=ptrOf p) (λτ d=>?_) ?_
 . cases p with
   |none=>exact zqb6 _
   |some b=>obtain⟨x,hx⟩:=hp b rfl;exact zqb5 (w:=re w τ d) hx
 refine zqi (s:=()) (by decide) hJ (zqh _) true (.inl rfl) 5 1 0 rfl rfl rfl (by rfl) ?_;intro τ d;simp only[List.drop_succ_cons,List.drop_zero,List.take_succ_cons,List.take_zero];go_wp2;simp only[zqb];refine hJ.re' () _ _ τ d ?_;refine hJ.ctl (s:=()) (λw=>stepG_region_end) ?_;refine hJ.ctl (s:=()) (λw=>stepG_ret') ?_;exact zq1q (s:=()) hJ rfl rfl Try.func50 (λτ d=>by simp only[results,Try.f50];simp[go_sem]) HN.out
end
abbrev BoxM:=Option (Nat×ByteArray)×(Nat->Bool)
abbrev BoxS:=Option ByteArray×(Nat->Bool)
def boxP(l:BoxM):Option Nat:=l.1.map (·.1)
structure BoxRep(bb:Nat)(l:BoxM)(w:World):Prop where
 box:w.heap[bb]?=some (.cells #[ptrOf (boxP l)] 79)
 val:∀b x,l.1=some (b,x)->b≠bb/\w.heap[b]?=some (.cells #[.string x] 9)
 seen:∀i,l.2 i=true->l.1≠none
def zqu(bb:Nat):Core BoxM BoxS where
 foot l b:=b=bb\/∃x,l.1=some (b,x)
 Rep:=BoxRep bb
 st l:=(l.1.map (·.2),l.2)
 frame l w w' h hs:=⟨(hs bb (.inl rfl)).trans h.box,λb x hb=>⟨(h.val b x hb).1,(hs b (.inr ⟨x,hb⟩)).trans (h.val b x hb).2⟩,h.seen⟩
 lt l w b h hb:=by
  rcases hb with rfl |⟨x,hx⟩
  . exact zqr h.box
  . exact zqr (h.val b x hx).2
 pin _:=0
section
variable {M2 S2 β:Type} {D:Core M2 S2} {ro:Nat->Option Obj} {i:Nat} {bb:Nat}
theorem zqao{m:BM (BoxM×M2)}{wc:World}(hB:BRep (zq8 (zqu bb) D) ro m wc)(h0:m.l.1.1=none){bv:Nat}{v:ByteArray}(hb:m.box i bv=some (.cells #[.string v] 9)):
 Moved (zq8 (zqu bb) D) m.l (m.box i) wc ((some (bv,v),m.l.1.2),m.l.2) (λb=>if b=bv then none else m.box i b) (wc.setCell ⟨bb,0,none⟩ (.pointer (some ⟨bv,0,none⟩))):=by
 have hn:m.box i bv≠none:=by rw[hb];simp
 have hne:bv≠bb:=λe=>hB.apart i bv hn (.inl (.inl e));have hold:∀b,b≠bb->(wc.setCell ⟨bb,0,none⟩ (.pointer (some ⟨bv,0,none⟩))).heap[b]?=wc.heap[b]?:=λb e=>zqn _ _ _ _ e;refine Moved.left hB ⟨by rw[zq11];exact Nat.le_refl _,λb hb' h1 h2=>hold b λe=>h1 (.inl e),⟨?_,λb x hx=>?_,λj hj=>(by simp)⟩,λb o hb'=>?_,λb hf=>?_,λb hb'=>?_,λb hf=>?_,rfl⟩
 . rw[zqv _ _ _ _ hB.core.1.box];rfl
 . cases hx;exact⟨hne,(hold bv hne).trans (hB.box i bv _ hb)⟩
 . by_cases e:b=bv
   . simp[e]at hb'
   . simp only[e,if_false]at hb';rw[hold b λe2=>by subst e2;exact hB.apart i b (by rw[hb'];simp) (.inl (.inl rfl))];exact hB.box i b o hb'
 . rcases hf with rfl |⟨x,hx⟩
   . exact .inl (.inl rfl)
   . cases hx;exact .inr (.inl hn)
 . left
   intro e;apply hb'
   by_cases e2:b=bv
   . simp[e2]
   . simp[e2,e]
 . rcases hf with rfl |⟨x,hx⟩
   . rw[if_neg (Ne.symm hne)];exact Classical.byContradiction λx=>hB.apart i b x (.inl (.inl rfl))
   . cases hx;simp
theorem box_seen{m:BM (BoxM×M2)}{wc:World}(hB:BRep (zq8 (zqu bb) D) ro m wc)(h0:m.l.1.1≠none):Moved (zq8 (zqu bb) D) m.l (m.box i) wc ((m.l.1.1,upd' m.l.1.2 i true),m.l.2) (m.box i) wc:=by
 refine Moved.left hB ⟨Nat.le_refl _,λ_ _ _ _=>rfl,⟨hB.core.1.box,hB.core.1.val,λj hj=>h0⟩,λb o hb=>hB.box i b o hb,λb hf=>.inl hf,λb hb=>.inl hb,λb hf=>Classical.byContradiction λx=>hB.apart i b x (.inl hf),rfl⟩
theorem casP_Z(Z:Alone Try.prog aMB (zq8 (zqu bb) D) ro i β){s:Z.γ}{m:BM (BoxM×M2)}{w:World}{r:(BoxS×S2)×Tree (BoxS×S2) β}(h:Z.AtE s m w r){bv:Nat}{v:ByteArray}(hb:m.box i bv=some (.cells #[.string v] 9))
 (hO1:Z.Oth ((m.l.1.1.map (·.2),m.l.1.2),D.st m.l.2) ((some v,m.l.1.2),D.st m.l.2)) (hO2:Z.Oth ((m.l.1.1.map (·.2),m.l.1.2),D.st m.l.2) ((m.l.1.1.map (·.2),upd' m.l.1.2 i true),D.st m.l.2)):
 zq15 Try.prog Z.J 49 #[.pointer (some ⟨bb,0,none⟩),.pointer none,.pointer (some ⟨bv,0,none⟩)]
  (λs' e w'=>s'=s/\((m.l.1.1=none/\e=.returned (.bool true)/\Z.AtE s (m.put i ((some (bv,v),m.l.1.2),m.l.2) (λb=>if b=bv then none else m.box i b)) w' r)\/(m.l.1.1≠none/\e=.returned (.bool false)/\Z.AtE s (m.put i ((m.l.1.1,upd' m.l.1.2 i true),m.l.2) (m.box i)) w' r))) s w:=by
 intro cl cs h1 _;have e:Frame.enter Try.prog 49 #[.pointer (some ⟨bb,0,none⟩),.pointer none,.pointer (some ⟨bv,0,none⟩)] .normal=(bN 49).at ⟨#[.pointer (some ⟨bb,0,none⟩),.pointer none,.pointer (some ⟨bv,0,none⟩),undef,undef,undef,undef,undef,undef,undef,undef,undef,undef,undef,undef],[]⟩ [.code ((Try.f49.body).getD .skip)]:=by kernel_rfl
 rw[e];clear e;obtain⟨u,hu⟩:∃c,(Try.f49.body).getD .skip=c:=⟨_,rfl⟩;have eu:=hu;rw[hu];simp only[Try.f49,al_od]at eu;subst eu;clear hu;obtain⟨Kc,hJ⟩:=Z.js s;have hrep:=Z.rep h;have hbv:=hrep.box i bv _ hb;have HN:=Lib.hid (And.intro h1 (And.intro h (And.intro hO1 (And.intro hO2 (And.intro hb hrep)))));clear h1 h hO1 hO2 hb hrep;show(λ(_:Unit)=>Z.J s) () _ _;refine hJ.ctl (s:=()) (λw=>stepG_seq) ?_;refine hJ.ctl (s:=()) (λw=>stepG_region) ?_;refine zqi (s:=()) (by decide) hJ (zqh _) true (.inl rfl) 0 1 0 rfl rfl rfl (by rfl) ?_;intro τ d;simp only[List.drop_succ_cons,List.drop_zero,List.take_succ_cons,List.take_zero];go_wp2;simp only[zqb];refine hJ.re' () _ _ τ d ?_;refine hJ.ctl (s:=()) (λw=>stepG_region_end) ?_;refine hJ.ctl (s:=()) (λw=>stepG_seq) ?_;refine hJ.ctl (s:=()) (λw=>stepG_region) ?_;refine zqi (s:=()) (by decide) hJ (zqh _) true (.inl rfl) 0 4 5 rfl rfl rfl (by rfl) ?_;intro τ d;simp only[List.drop_succ_cons,List.drop_zero,List.take_succ_cons,List.take_zero];go_wp2;simp only[zqb];refine hJ.re' () _ _ τ d ?_;rw[show List.range' (0+4) 5=[4,5,6,7,8]from rfl];refine zq4s (s:=()) hJ (by decide) rfl rfl (.inl zq6n) rfl rfl (v:=.pointer none) (λτ d=>zqb7 _) ?_;refine zqi (s:=()) (by decide) hJ (zqh _) true (.inl rfl) 5 1 3 rfl rfl rfl (by rfl) ?_;intro τ d;simp only[List.drop_succ_cons,List.drop_zero,List.take_succ_cons,List.take_zero];go_wp2;simp only[zqb];refine hJ.re' () _ _ τ d ?_;rw[show List.range' (5+1) 3=[6,7,8]from rfl];refine zq4s (s:=()) hJ (by decide) rfl rfl (.inl zq6n) rfl rfl (v:=.pointer (some ⟨bv,0,none⟩)) (λτ d=>conv_to (w:=re w τ d) hbv) ?_;show Z.J s _ _
 by_cases h0:m.l.1.1=none
 . refine Z.item (ds:=[]) (λt l' B'=>t[6]?=some (.bool true)/\l'=((some (bv,v),m.l.1.2),m.l.2)/\B'=λb=>if b=bv then none else m.box i b) (λ_ _ _=>False) HN.out.2.1 (by kernel_rfl) (λwc hB hsz=>?_) _ _ _ (by decide) ?_
   . have hbx:=hB.core.1.box;have hl:=zqdr (P:=Try.prog) (w:=wc) Try.func72 (by kernel_rfl) (by kernel_rfl) (by kernel_rfl) (by kernel_rfl) (a:=⟨bb,0,none⟩) (y:=⟨bv,0,none⟩) (by rw[zq1 hbx];simp[boxP,h0,ptrOf]) (zqd hbx);have hmv:=zqao hB h0 HN.out.2.2.2.2.1;have HM:=Lib.hid (And.intro hmv hB);clear hmv hB hbx;refine zq34 7 2 rfl rfl ?_;simp only[List.drop_succ_cons,List.drop_zero];go_wp2;exact⟨rfl,_,_,⟨HM.out.1,HN.out.2.2.1⟩,rfl,rfl,rfl⟩
   . rintro s' e a w' ⟨rfl,hd,l',B',(⟨rfl,h6,rfl,rfl⟩|⟨_,hh⟩),hA⟩
     . refine hJ.ctl (s:=()) (λw=>stepG_ret') ?_;exact zq1q (s:=()) hJ rfl hd Try.func49 (v:=.bool true) (λτ d=>by simp only[results,Try.f49];simp[go_sem,h6]) (HN.out.1 _ _ _ ⟨rfl,.inl ⟨h0,rfl,hA⟩⟩)
     . exact hh.elim
 . refine Z.item (ds:=[]) (λt l' B'=>t[6]?=some (.bool false)/\l'=((m.l.1.1,upd' m.l.1.2 i true),m.l.2)/\B'=m.box i) (λ_ _ _=>False) HN.out.2.1 (by kernel_rfl) (λwc hB hsz=>?_) _ _ _ (by decide) ?_
   . have hbx:=hB.core.1.box;obtain⟨p,hp⟩:∃p,m.l.1.1=some p:=by
      cases e:m.l.1.1 with
      |none=>exact absurd e h0
      |some p=>exact⟨p,rfl⟩
     have hl:=zqds (P:=Try.prog) (w:=wc) Try.func72 (by kernel_rfl) (by kernel_rfl) (by kernel_rfl) (by kernel_rfl) (a:=⟨bb,0,none⟩) (x:=⟨p.1,0,none⟩) (y:=⟨bv,0,none⟩) (by rw[zq1 hbx];simp[boxP,hp,ptrOf]) (zqd hbx);have hmv:=box_seen (i:=i) hB h0;have HM:=Lib.hid (And.intro hmv hB);clear hmv hB hbx;refine zq34 7 2 rfl rfl ?_;simp only[List.drop_succ_cons,List.drop_zero];go_wp2;exact⟨rfl,_,_,⟨HM.out.1,HN.out.2.2.2.1⟩,rfl,rfl,rfl⟩
   . rintro s' e a w' ⟨rfl,hd,l',B',(⟨rfl,h6,rfl,rfl⟩|⟨_,hh⟩),hA⟩
     . refine hJ.ctl (s:=()) (λw=>stepG_ret') ?_;exact zq1q (s:=()) hJ rfl hd Try.func49 (v:=.bool false) (λτ d=>by simp only[results,Try.f49];simp[go_sem,h6]) (HN.out.1 _ _ _ ⟨rfl,.inr ⟨h0,rfl,hA⟩⟩)
     . exact hh.elim
end
section
variable {P:Program} {A:FuncId->Bool} {Ml S β:Type} {C:Core Ml S} {ro:Nat->Option Obj} {i:Nat} (Z:Alone P A C ro i β) {s:Z.γ} {m:BM Ml} {w:World} {r:S×Tree S β} {t t':Array Value} {ds:List Deferred} {Q:Z.γ->Exit->Act->World->Prop}
theorem Alone.keepI {it:Item}{e0:Bool}(h:Z.AtE s m w r)(hok:zqx P A it=true)(hx:∀wc,BRep C ro m wc->zq1y P it (ends (λa w'=>Ext wc w'/\a.tmps=t'/\e0=true) (λa w'=>Ext wc w'/\a.tmps=t'/\e0=false)) ⟨t,[]⟩ wc)(hy:∀w',Z.AtE s m w' r->Q s (if e0 then .normal else .ret) ⟨t',ds⟩ w'):wpI Z.J it Q s ⟨t,ds⟩ w:=by
 intro b k cs hb hk;refine Z.item (ds:=ds) (λt l' B'=>t=t'/\l'=m.l/\B'=m.box i/\e0=true) (λt l' B'=>t=t'/\l'=m.l/\B'=m.box i/\e0=false) h hok (λwc hB _=>zq2h (hx wc hB) λe a w' q=>?_) b k cs hb ?_
 . cases e with
   |normal=>exact⟨q.1,_,_,⟨Moved.ext hB q.2.1,Z.oth _⟩,q.2.2.1,rfl,rfl,q.2.2.2⟩
   |ret=>exact⟨q.1,_,_,⟨Moved.ext hB q.2.1,Z.oth _⟩,q.2.2.1,rfl,rfl,q.2.2.2⟩
   |_=>exact q
 . rintro s2 e a w2 ⟨rfl,hd,l',B',(⟨rfl,h6,rfl,rfl,rfl⟩|⟨rfl,h6,rfl,rfl,rfl⟩),hA2⟩
   all_goals(
    obtain⟨tt,dd⟩:=a;simp only at hd h6;subst hd h6;rw[BM.put_same]at hA2;exact hk _ _ _ _ (hy _ hA2))
end
def setB{S2:Type}(i:Nat)(v:ByteArray):Proc (BoxS×S2) (ByteArray×Bool):=
 (Proc.tick.bind λ_=>Proc.act λs=>if s.1.1=none then(((some v,s.1.2),s.2),true)else(((s.1.1,upd' s.1.2 i true),s.2),false)).bind λb=>
  if b=true then Proc.ret (v,true)else(Proc.tick.bind λ_=>Proc.act λs=>(s,s.1.1.getD v)).bind λx=>Proc.ret (x,false)
def noStr:ByteArray:={data:=#[]}
def getB{S2:Type}:Proc (BoxS×S2) (ByteArray×Bool):=(Proc.tick.bind λ_=>Proc.act λs=>(s,s.1.1)).bind λo=>Proc.ret (o.getD noStr,o.isSome)
abbrev strV(x:ByteArray×Bool):Value:=.tuple #[.string x.1,.bool x.2]
section
variable {M2 S2 β:Type} {D:Core M2 S2} {ro:Nat->Option Obj} {i:Nat} {bb:Nat}
structure BoxEnv(Z:Alone Try.prog aMB (zq8 (zqu bb) D) ro i β)(Iq:Bool->BoxS×S2->Prop)(sv:Value):Prop where
 step:∀q,StepY (Z.sys (Iq q)) 48 #[sv]
 seen:∀q s,Iq q s->s.1.2 i=q
 keep:∀q s x,Iq q s->Iq q ((x,s.1.2),s.2)
 look:∀q s,Iq q s->Iq true ((s.1.1,upd' s.1.2 i true),s.2)
 oth1:∀s x,Z.Oth s ((x,s.1.2),s.2)
 oth2:∀s,Z.Oth s ((s.1.1,upd' s.1.2 i true),s.2)
def SetPost(Z:Alone Try.prog aMB (zq8 (zqu bb) D) ro i β)(Iq:Bool->BoxS×S2->Prop)(B:Nat->Option Obj)(K:ByteArray×Bool->Proc (BoxS×S2) β)(s:Z.γ):Ending->World->Prop
 |.returned val,w=>∃a q m,val=strV a/\m.box i=B/\(Z.sys (Iq q)).At s m w (K a)
 |.panicked ch,w=>Z.Dead s ch w
 |.outgrown,_=>False
theorem zqaq(Z:Alone Try.prog aMB (zq8 (zqu bb) D) ro i β){Iq:Bool->BoxS×S2->Prop}{sv:Value}(hE:BoxEnv Z Iq sv)(q:Bool)(v:ByteArray){K:ByteArray×Bool->Proc (BoxS×S2) β}{s:Z.γ}{B:Nat->Option Obj}{w:World}(hA:(Z.sys (Iq q)).AtB B s w ((setB i v).bind K)):
 zq15 Try.prog Z.J 21 #[.pointer (some ⟨bb,0,none⟩),sv,.string v] (SetPost Z Iq B K) s w:=by
 obtain⟨Y,hY⟩:∃Y,Z.sys (Iq q)=Y:=⟨_,rfl⟩;have hJC:JC Try.prog Z.main Z.J:=.of_js Z.js;refine BodyY.calls (Y:=Z.sys (Iq q)) ⟨_,_,Try.func21,rfl,?_⟩;simp only[zql,Try.ntmps21,List.size_toArray,List.length_cons,List.length_nil,Nat.reduceAdd,Nat.reduceSub,Array.replicate_succ,Array.replicate_zero,List.push_toArray,List.append_toArray,List.nil_append,List.cons_append];show wpJ Z.J _ _ _ _ _;refine YSys.seqX (Y:=Z.sys (Iq q)) (λt B'=>∃bv,t=#[.pointer (some ⟨bb,0,none⟩),sv,.string v,undef,undef,.pointer (some ⟨bv,0,none⟩),.string {data:=#[]},.bool false,undef,undef,undef,undef,undef,undef,undef,undef,undef,undef,undef,undef,undef,undef,undef,undef,undef,undef,undef]/\B bv=none/\B'=upB B bv (.cells #[.string v] 9)) hA (by kernel_rfl) ?_ ?_
 . intro wc hB X0 hX0;have HX0:=Lib.hid hX0;clear hX0;have hm:=OMoved.push (o:=.cells #[.string v] 9) hB.own (Ext1.alloc wc (.cells #[.string v] 9)) (Nat.le_refl _) (by rw[zqc];simp);have hf:=hB.own.fresh (Nat.le_refl _);have HM:=Lib.hid (And.intro hm hf);clear hm hf;go_wp2;exact⟨rfl,HX0.out _ _ _ HM.out.1 ⟨_,rfl,HM.out.2,rfl⟩⟩
 clear hA;rintro _ _ w ⟨bv,rfl,hbv,rfl⟩ hA;show wpJ Z.J _ _ _ _ _;refine zqf hJC ?_;apply YSys.seq0 (Y:=Z.sys (Iq q)) hA (by kernel_rfl)
 . intro wc hB;go_wp2;exact⟨rfl,Ext1.refl _,rfl⟩
 intro w hA;refine zqt hJC rfl (zq1b hJC ?_);show wpJ Z.J _ _ _ _ _;refine zqf hJC (zqs hJC ?_);rw[setB,Proc.bind_bind,Proc.bind_bind]at hA;apply YSys.callS (Y:=Z.sys (Iq q)) 0 1 0 hA (hE.step q) rfl rfl rfl (by rfl) rfl rfl rfl
 . intro wc hB X hX;have HX:=Lib.hid hX;clear hX;go_wp2;exact HX.out _ (Ext1.refl _)
 . intro w;simp[go_sem,execOp,Act.eval,resolve,Deferred.ofValue,invoke,callFunc,Try.func48,Try.f48]
 . intro w;simp[go_sem,execOp,Act.eval,resolve,Deferred.ofValue,invoke,callFunc,Try.func48,Try.f48]
 . intro s' ch w' h;exact⟨rfl,h⟩
 intro s w hA;refine zq12 hJC ?_;show wpJ Z.J _ _ _ _ _;refine zqf hJC ?_;refine zqf hJC (zqs hJC ?_);refine YSys.pre0 (Y:=Z.sys (Iq q)) (t₁:=#[.pointer (some ⟨bb,0,none⟩),sv,.string v,undef,undef,.pointer (some ⟨bv,0,none⟩),.string {data:=#[]},.bool false,undef,.pointer (some ⟨bb,0,none⟩),.bool false,undef,sv,.tuple #[],.pointer (some ⟨bb,0,none⟩),.pointer (some ⟨bb,0,none⟩),.pointer (some ⟨bb,0,none⟩),undef,undef,undef,undef,undef,undef,undef,undef,undef,undef]) 0 3 1 (rest:=[3]) hA rfl rfl rfl (by rfl) ?_ λw hA=>?_
 . intro wc hB X hX;have HX:=Lib.hid hX;clear hX;go_wp2;exact HX.out _ (Ext1.refl _)
 obtain⟨m,hmB,hAt⟩:=hA;have hbm:m.box i bv=some (.cells #[.string v] 9):=by rw[hmB,upB_same]
 have hcas:=casP_Z Z hAt.1 hbm (hE.oth1 ((m.l.1.1.map (·.2),m.l.1.2),D.st m.l.2) (some v)) (hE.oth2 ((m.l.1.1.map (·.2),m.l.1.2),D.st m.l.2));refine YSys.callO (Y:=Z.sys (Iq q)) hcas rfl rfl rfl (λw=>?_) (λw=>?_) ?_
 . simp[go_sem,execOp,Act.eval,resolve,Deferred.ofValue,invoke,callFunc,Try.func49,Try.f49]
 . simp[go_sem,execOp,Act.eval,resolve,Deferred.ofValue,invoke,callFunc,Try.func49,Try.f49]
 have hst:(zq8 (zqu bb) D).st m.l=((m.l.1.1.map (·.2),m.l.1.2),D.st m.l.2):=rfl;have hpr:=hAt.2;have hdrop:∀x o,B x=some o->x≠bv:=λx o hx e=>by rw[e,hbv]at hx;cases hx
 clear hcas;rintro s' e w' ⟨rfl,(⟨h0,rfl,hA'⟩|⟨h0,rfl,hA'⟩)⟩
 . refine zq12 hJC ?_;show wpJ Z.J _ _ _ _ _;refine zqt hJC rfl ?_;rw[if_pos rfl];rw[hst,Proc.bind_act]at hA';have hAc:Z.AtE s' (m.put i ((some (bv,v),m.l.1.2),m.l.2) (λb=>if b=bv then none else m.box i b)) w' (K (v,true) ((some v,m.l.1.2),D.st m.l.2)):=by
    have e0:m.l.1.1.map (·.2)=none:=by rw[h0];rfl
    simp only[e0,if_true]at hA';exact hA'
   clear hA';intro b k cs hb hk;have HK:=Lib.hid hk;clear hk;refine Z.item (ds:=[]) (λ_ _ _=>False) (λt l' B'=>t=#[.pointer (some ⟨bb,0,none⟩),sv,.string v,undef,undef,.pointer (some ⟨bv,0,none⟩),.string v,.bool true,undef,.pointer (some ⟨bb,0,none⟩),.bool false,undef,sv,.tuple #[],.pointer (some ⟨bb,0,none⟩),.pointer (some ⟨bb,0,none⟩),.pointer (some ⟨bb,0,none⟩),.bool true,.string v,undef,undef,undef,undef,undef,undef,undef,undef]/\l'=((some (bv,v),m.l.1.2),m.l.2)/\B'=(λb=>if b=bv then none else m.box i b)) hAc (by kernel_rfl) (λwc hB _=>?_) b k cs hb ?_
   . have hv:=(hB.core.1.val bv v rfl).2;have c0:wc.cell? ⟨bv,0,none⟩=some (.string v):=(zq1 hv).trans rfl;have HB:=Lib.hid hB;clear hv hB;refine zq3r ?_;go_wp2;exact⟨rfl,_,_,⟨Moved.ext HB.out (Ext.refl _),Z.oth _⟩,rfl,BM.put_l _ _ _ _,BM.put_box _ _ _ _⟩
   . rintro s2 e a w2 ⟨rfl,hd,l',B',(⟨_,hh⟩|⟨rfl,h6,rfl,rfl⟩),hA2⟩
     . exact hh.elim
     . obtain⟨tt,dd⟩:=a;simp only at hd h6;subst hd h6;refine HK.out _ .ret _ _ ⟨rfl,.inl ⟨_,resultsC_tmp2 rfl _,(v,true),q,_,rfl,?_,hA2,hE.keep q _ (some v) hpr⟩⟩;rw[BM.put_box]
       funext x
       by_cases e:x=bv
       . rw[if_pos e,e,hbv]
       . rw[if_neg e,hmB,zq1x _ _ e]
 . refine zq12 hJC ?_;show wpJ Z.J _ _ _ _ _;refine zqt hJC rfl (zq1b hJC ?_);show wpJ Z.J _ _ _ _ _;rw[hst,Proc.bind_act]at hA';have hA:(Z.sys (Iq true)).AtB (upB B bv (.cells #[.string v] 9)) s' w' (Proc.tick.bind λ_=>(Proc.act λ(s:BoxS×S2)=>(s,s.1.1.getD v)).bind λx=>(Proc.ret (x,false)).bind K):=by
    refine⟨m.put i ((m.l.1.1,upd' m.l.1.2 i true),m.l.2) (m.box i),by rw[BM.put_box];exact hmB,?_,hE.look q _ hpr⟩;have e0:¬m.l.1.1.map (·.2)=none:=λe=>h0 (by cases h1:m.l.1.1 with
     |none=>rfl
     |some p=>rw[h1]at e;cases e)
    simp only[e0,if_false,Bool.false_eq_true]at hA';rw[Proc.bind_bind,Proc.bind_bind]at hA';exact hA'
   clear hA' hAt hpr hst hbm hmB;refine zqf hJC (zqs hJC ?_);apply YSys.callS (Y:=Z.sys (Iq true)) 0 1 0 hA (hE.step true) rfl rfl rfl (by rfl) rfl rfl rfl
   . intro wc hB X hX;have HX:=Lib.hid hX;clear hX;go_wp2;exact HX.out _ (Ext1.refl _)
   . intro w;simp[go_sem,execOp,Act.eval,resolve,Deferred.ofValue,invoke,callFunc,Try.func48,Try.f48]
   . intro w;simp[go_sem,execOp,Act.eval,resolve,Deferred.ofValue,invoke,callFunc,Try.func48,Try.f48]
   . intro s' ch w' h;exact⟨rfl,h⟩
   intro s w hA;refine zq12 hJC ?_;show wpJ Z.J _ _ _ _ _;refine zqf hJC (zqs hJC ?_);refine YSys.pre0 (Y:=Z.sys (Iq true)) (t₁:=#[.pointer (some ⟨bb,0,none⟩),sv,.string v,undef,undef,.pointer (some ⟨bv,0,none⟩),.string {data:=#[]},.bool false,undef,.pointer (some ⟨bb,0,none⟩),.bool false,undef,sv,.tuple #[],.pointer (some ⟨bb,0,none⟩),.pointer (some ⟨bb,0,none⟩),.pointer (some ⟨bb,0,none⟩),.bool false,undef,sv,.tuple #[],.pointer (some ⟨bb,0,none⟩),.pointer (some ⟨bb,0,none⟩),.pointer (some ⟨bb,0,none⟩),undef,undef,undef]) 0 3 5 (rest:=[3,4,5,6,7]) hA rfl rfl rfl (by rfl) ?_ λw hA=>?_
   . intro wc hB X hX;have HX:=Lib.hid hX;clear hX;go_wp2;exact HX.out _ (Ext1.refl _)
   obtain⟨m2,hmB,hAt⟩:=hA;have hrep:=Z.rep hAt.1;have hsn:m2.l.1.2 i=true:=hE.seen true _ hAt.2;obtain⟨⟨b2,x2⟩,hp2⟩:∃p,m2.l.1.1=some p:=by
    cases e:m2.l.1.1 with
    |none=>exact absurd e (hrep.core.1.seen i hsn)
    |some p=>exact⟨p,rfl⟩
   have hld:zq15 Try.prog Z.J 50 #[.pointer (some ⟨bb,0,none⟩)] (λs' e w'=>s'=s/\w'=w/\e=.returned (.pointer (some ⟨b2,0,none⟩))) s w:=λcl cs h1 _=>by
    obtain⟨Kc,hJ⟩:=Z.js s;refine zq7e hJ hrep.core.1.box (λb hb=>?_) (h1 s _ w ⟨rfl,rfl,?_⟩)
    . unfold boxP at hb;rw[hp2]at hb;cases hb;exact⟨x2,(hrep.core.1.val b2 x2 hp2).2⟩
    . unfold boxP ptrOf;rw[hp2];rfl
   refine YSys.callO (Y:=Z.sys (Iq true)) hld rfl rfl rfl (λw=>?_) (λw=>?_) ?_
   . simp[go_sem,execOp,Act.eval,resolve,Deferred.ofValue,invoke,callFunc,Try.func50,Try.f50]
   . simp[go_sem,execOp,Act.eval,resolve,Deferred.ofValue,invoke,callFunc,Try.func50,Try.f50]
   clear hld;rintro s' e w' ⟨rfl,rfl,rfl⟩;have hAc:Z.AtE s' m2 w' (K (x2,false) ((zq8 (zqu bb) D).st m2.l)):=by
    have h1:=hAt.1;rw[Proc.bind_act]at h1;have e0:((zq8 (zqu bb) D).st m2.l).1.1=some x2:=by show m2.l.1.1.map (·.2)=some x2;rw[hp2];rfl
    simp only[e0,al_od]at h1;exact h1
   intro b k cs hb hk;have HK:=Lib.hid hk;have HP:=Lib.hid (And.intro hp2 hAt);clear hk hrep hAt hsn hp2;refine Z.item (ds:=[]) (λt l' B'=>t=#[.pointer (some ⟨bb,0,none⟩),sv,.string v,undef,undef,.pointer (some ⟨bv,0,none⟩),.string x2,.bool false,undef,.pointer (some ⟨bb,0,none⟩),.bool false,undef,sv,.tuple #[],.pointer (some ⟨bb,0,none⟩),.pointer (some ⟨bb,0,none⟩),.pointer (some ⟨bb,0,none⟩),.bool false,undef,sv,.tuple #[],.pointer (some ⟨bb,0,none⟩),.pointer (some ⟨bb,0,none⟩),.pointer (some ⟨bb,0,none⟩),.pointer (some ⟨b2,0,none⟩),.pointer (some ⟨b2,0,none⟩),.string x2]/\l'=m2.l/\B'=m2.box i) (λ_ _ _=>False) hAc (by kernel_rfl) (λwc hB _=>?_) b k cs hb ?_
   . have hv:=(hB.core.1.val b2 x2 HP.out.1).2;have c0:wc.cell? ⟨b2,0,none⟩=some (.string x2):=(zq1 hv).trans rfl;have HB:=Lib.hid hB;clear hv hB;refine zq34 4 4 rfl rfl ?_;simp only[List.drop_succ_cons,List.drop_zero];go_wp2;exact⟨rfl,_,_,⟨Moved.ext HB.out (Ext.refl _),Z.oth _⟩,rfl,rfl,rfl⟩
   . rintro s2 e a w2 ⟨rfl,hd,l',B',(⟨rfl,h6,rfl,rfl⟩|⟨_,hh⟩),hA2⟩
     . obtain⟨tt,dd⟩:=a;simp only at hd h6;subst hd h6;refine HK.out _ .normal _ _ ?_;show wpJ Z.J _ _ _ _ _;refine zq16 hJC ?_;rw[BM.put_same]at hA2;have hAt:=HP.out.2;refine⟨rfl,.inl ⟨_,resultsC_tmp2 rfl _,(x2,false),true,m2.put i m2.l B,rfl,BM.put_box _ _ _ _,?_⟩⟩;refine(Z.sys (Iq true)).drop (p:=K (x2,false)) ⟨hA2,hAt.2⟩ λx o hx=>?_;rw[hmB];exact zq26 hx (hdrop x o hx)
     . exact hh.elim
theorem zqap(Z:Alone Try.prog aMB (zq8 (zqu bb) D) ro i β){I:BoxS×S2->Prop}{sv:Value}(hstep:StepY (Z.sys I) 48 #[sv]){K:ByteArray×Bool->Proc (BoxS×S2) β}{s:Z.γ}{B:Nat->Option Obj}{w:World}(hA:(Z.sys I).AtB B s w (getB.bind K)):
 zq15 Try.prog Z.J 23 #[.pointer (some ⟨bb,0,none⟩),sv] (λs e w=>match e with
  |.returned val=>∃a m,val=strV a/\m.box i=B/\(Z.sys I).At s m w (K a)
  |.panicked ch=>Z.Dead s ch w
  |.outgrown=>False) s w:=by
 have hJC:JC Try.prog Z.main Z.J:=.of_js Z.js;refine BodyY.calls (Y:=Z.sys I) ⟨_,_,Try.func23,rfl,?_⟩;simp only[zql,Try.ntmps23,List.size_toArray,List.length_cons,List.length_nil,Nat.reduceAdd,Nat.reduceSub,Array.replicate_succ,Array.replicate_zero,List.push_toArray,List.append_toArray,List.nil_append,List.cons_append];show wpJ Z.J _ _ _ _ _;apply YSys.seq0 (Y:=Z.sys I) hA (by kernel_rfl)
 . intro wc hB;go_wp2;exact⟨rfl,Ext1.refl _,rfl⟩
 intro w hA;apply YSys.seq0 (Y:=Z.sys I) hA (by kernel_rfl)
 . intro wc hB;go_wp2;exact⟨rfl,Ext1.refl _,rfl⟩
 intro w hA;refine zqf hJC ?_;apply YSys.seq0 (Y:=Z.sys I) hA (by kernel_rfl)
 . intro wc hB;go_wp2;exact⟨rfl,Ext1.refl _,rfl⟩
 intro w hA;refine zqt hJC rfl (zq1b hJC ?_);show wpJ Z.J _ _ _ _ _;refine zqf hJC (zqs hJC ?_);rw[getB,Proc.bind_bind,Proc.bind_bind]at hA;apply YSys.callS (Y:=Z.sys I) 0 1 0 hA hstep rfl rfl rfl (by rfl) rfl rfl rfl
 . intro wc hB X hX;have HX:=Lib.hid hX;clear hX;go_wp2;exact HX.out _ (Ext1.refl _)
 . intro w;simp[go_sem,execOp,Act.eval,resolve,Deferred.ofValue,invoke,callFunc,Try.func48,Try.f48]
 . intro w;simp[go_sem,execOp,Act.eval,resolve,Deferred.ofValue,invoke,callFunc,Try.func48,Try.f48]
 . intro s' ch w' h;exact⟨rfl,h⟩
 intro s w hA;refine zq12 hJC ?_;show wpJ Z.J _ _ _ _ _;refine zqf hJC ?_;refine zqf hJC (zqs hJC ?_);refine YSys.pre0 (Y:=Z.sys I) (t₁:=#[.pointer (some ⟨bb,0,none⟩),sv,undef,undef,.string {data:=#[]},.bool false,.string {data:=#[]},undef,.pointer (some ⟨bb,0,none⟩),.bool false,undef,sv,.tuple #[],.pointer (some ⟨bb,0,none⟩),.pointer (some ⟨bb,0,none⟩),.pointer (some ⟨bb,0,none⟩),undef,undef,undef,undef,undef,undef,undef]) 0 3 2 (rest:=[3,4]) hA rfl rfl rfl (by rfl) ?_ λw hA=>?_
 . intro wc hB X hX;have HX:=Lib.hid hX;clear hX;go_wp2;exact HX.out _ (Ext1.refl _)
 obtain⟨m2,hmB,hAt⟩:=hA;have hrep:=Z.rep hAt.1;have hld:zq15 Try.prog Z.J 50 #[.pointer (some ⟨bb,0,none⟩)] (λs' e w'=>s'=s/\w'=w/\e=.returned (ptrOf (boxP m2.l.1))) s w:=λcl cs h1 _=>by
  obtain⟨Kc,hJ⟩:=Z.js s;refine zq7e hJ hrep.core.1.box (λb hb=>?_) (h1 s _ w ⟨rfl,rfl,rfl⟩);unfold boxP at hb;cases e:m2.l.1.1 with
  |none=>rw[e]at hb;cases hb
  |some p=>rw[e]at hb;cases hb;exact⟨p.2,(hrep.core.1.val p.1 p.2 e).2⟩
 refine YSys.callO (Y:=Z.sys I) hld rfl rfl rfl (λw=>?_) (λw=>?_) ?_
 . simp[go_sem,execOp,Act.eval,resolve,Deferred.ofValue,invoke,callFunc,Try.func50,Try.f50]
 . simp[go_sem,execOp,Act.eval,resolve,Deferred.ofValue,invoke,callFunc,Try.func50,Try.f50]
 clear hld;rintro s' e w' ⟨rfl,rfl,rfl⟩;have hA:(Z.sys I).AtB B s' w' ((Proc.act λ(s:BoxS×S2)=>(s,s.1.1)).bind λo=>(Proc.ret (o.getD noStr,o.isSome)).bind K):=⟨m2,hmB,hAt⟩;cases hbx:m2.l.1.1 with
 |none=>
  have hp:ptrOf (boxP m2.l.1)=.pointer none:=by unfold boxP ptrOf;rw[hbx];rfl
  rw[hp];have hAc:(Z.sys I).AtB B s' w' (K (noStr,false)):=by
   refine⟨m2,hmB,?_,hAt.2⟩;have h1:=hAt.1;rw[Proc.bind_act]at h1;have e0:((zq8 (zqu bb) D).st m2.l).1.1=none:=by show m2.l.1.1.map (·.2)=none;rw[hbx];rfl
   simp only[e0]at h1;exact h1
  clear hA hAt hrep hbx hp hmB;apply YSys.ops0 (Y:=Z.sys I) 4 1 hAc rfl rfl (by kernel_rfl)
  . intro wc hB;go_wp2;exact⟨rfl,Ext1.refl _,rfl⟩
  intro w hA;show wpJ Z.J _ _ _ _ _;refine zqf hJC ?_;apply YSys.code0 (Y:=Z.sys I) hA (by kernel_rfl)
  . intro wc hB;go_wp2;exact⟨rfl,Ext1.refl _,rfl⟩
  intro w hA;show wpJ Z.J _ _ _ _ _;refine zqt hJC rfl ?_;rw[if_neg (by decide)];refine zq1b hJC ?_;show wpJ Z.J _ _ _ _ _;apply YSys.seq0 (Y:=Z.sys I) hA (by kernel_rfl)
  . intro wc hB;go_wp2;exact⟨rfl,Ext1.refl _,rfl⟩
  intro w hA;refine zq16 hJC ?_;exact⟨rfl,.inl ⟨_,resultsC_tmp2 rfl _,(noStr,false),hA.choose,rfl,hA.choose_spec⟩⟩
 |some p=>
  obtain⟨b2,x2⟩:=p;have hp:ptrOf (boxP m2.l.1)=.pointer (some ⟨b2,0,none⟩):=by unfold boxP ptrOf;rw[hbx];rfl
  rw[hp];have hAc:Z.AtE s' m2 w' (K (x2,true) ((zq8 (zqu bb) D).st m2.l)):=by
   have h1:=hAt.1;rw[Proc.bind_act]at h1;have e0:((zq8 (zqu bb) D).st m2.l).1.1=some x2:=by show m2.l.1.1.map (·.2)=some x2;rw[hbx];rfl
   simp only[e0]at h1;exact h1
  have HI:=Lib.hid (And.intro hAt.2 (And.intro hbx hmB));clear hA hAt hrep hbx hp hmB;refine Alone.keepI Z (t':=#[.pointer (some ⟨bb,0,none⟩),sv,undef,undef,.string {data:=#[]},.bool false,.string {data:=#[]},.pointer (some ⟨b2,0,none⟩),.pointer (some ⟨bb,0,none⟩),.bool false,undef,sv,.tuple #[],.pointer (some ⟨bb,0,none⟩),.pointer (some ⟨bb,0,none⟩),.pointer (some ⟨bb,0,none⟩),.pointer (some ⟨b2,0,none⟩),undef,undef,undef,undef,undef,undef]) (e0:=true) hAc (by kernel_rfl) (λwc hB=>?_) λw hAc=>?_
  . refine zq34 4 1 rfl rfl ?_;simp only[List.drop_succ_cons,List.drop_zero];go_wp2
    first|exact⟨rfl,Ext.refl _,rfl,trivial⟩|exact⟨rfl,Ext.refl _,rfl⟩
  show wpJ Z.J _ _ _ _ _;refine zqf hJC ?_;refine Alone.keepI Z (it:=.code _) (t':=#[.pointer (some ⟨bb,0,none⟩),sv,undef,undef,.string {data:=#[]},.bool false,.string {data:=#[]},.pointer (some ⟨b2,0,none⟩),.pointer (some ⟨bb,0,none⟩),.bool false,undef,sv,.tuple #[],.pointer (some ⟨bb,0,none⟩),.pointer (some ⟨bb,0,none⟩),.pointer (some ⟨bb,0,none⟩),.pointer (some ⟨b2,0,none⟩),.pointer (some ⟨b2,0,none⟩),.bool true,undef,undef,undef,undef]) (e0:=true) hAc (by kernel_rfl) (λwc hB=>?_) λw hAc=>?_
  . refine zq3r ?_;go_wp2
    first|exact⟨rfl,Ext.refl _,rfl,trivial⟩|exact⟨rfl,Ext.refl _,rfl⟩
  show wpJ Z.J _ _ _ _ _;refine zqt hJC rfl ?_;rw[if_pos rfl];refine Alone.keepI Z (it:=.code _) (t':=#[.pointer (some ⟨bb,0,none⟩),sv,undef,undef,.string x2,.bool true,.string {data:=#[]},.pointer (some ⟨b2,0,none⟩),.pointer (some ⟨bb,0,none⟩),.bool false,undef,sv,.tuple #[],.pointer (some ⟨bb,0,none⟩),.pointer (some ⟨bb,0,none⟩),.pointer (some ⟨bb,0,none⟩),.pointer (some ⟨b2,0,none⟩),.pointer (some ⟨b2,0,none⟩),.bool true,.pointer (some ⟨b2,0,none⟩),.pointer (some ⟨b2,0,none⟩),.string x2,undef]) (e0:=false) hAc (by kernel_rfl) (λwc hB=>?_) λw hAc=>?_
  . have hv:=(hB.core.1.val b2 x2 HI.out.2.1).2;have c0:wc.cell? ⟨b2,0,none⟩=some (.string x2):=(zq1 hv).trans rfl;clear hv;refine zq3r ?_;go_wp2
    first|exact⟨rfl,Ext.refl _,rfl,trivial⟩|exact⟨rfl,Ext.refl _,rfl⟩
  exact⟨rfl,.inl ⟨_,resultsC_tmp2 rfl _,(x2,true),m2,rfl,HI.out.2.2,hAc,HI.out.1⟩⟩
end
end Go.Proofs
namespace Go.Car
open Go Go.Conc Go.RowKit
section
variable {P:Program} {A:FuncId->Bool} {Ml S α:Type} {C:Core Ml S} {ro:Nat->Option Obj} {i:Nat}
end
theorem jU0{P:Program}{Fin:Machine->Trace->Prop}(hFin:Back P Fin)(n:Nat):JS P true (λ_=>none) (λ(_:Unit)=>J0 P Fin n):=⟨λ_ g w τ d h=>(j0_JS hFin).re' n g w τ d h,λ_ g w h1 h2=>(j0_JS hFin).step n g w h1 h2⟩
theorem jC0{P:Program}{Fin:Machine->Trace->Prop}(hFin:Back P Fin)(n:Nat):CalmJ P true (λ(_:Unit)=>J0 P Fin n):=λ_ fr cs w h=>zq2y hFin n fr cs w h
end Go.Car
namespace Go.Proofs
open Go Go.Conc Go.RowKit Go.Car
def zq1c(kb:Nat):Core Nat Unit where
 foot _ b:=b=kb
 Rep n w:=w.heap[kb]?=some (.cells #[.int .i64 (wrap64 n)] 46)
 st _:=()
 frame n w w' h hs:=(hs kb rfl).trans h
 lt n w b h hb:=by subst hb;exact zqr h
 pin n:=n
theorem zq6c(n:Nat)(st:Nat)(w:World):(Go.method (n+1) 44 (.pointer (some ⟨st,0,none⟩)) "Step").run Try.prog w=.ok (124,.pointer (some ⟨st,0,none⟩)) w:=by kernel_rfl
theorem zq6d(n:Nat)(st:Nat)(w:World)(es:Array Event):(Go.method (n+1) 44 (.pointer (some ⟨st,0,none⟩)) "Step").events Try.prog w es=es:=by kernel_rfl
section
variable {Ml S β:Type} {C:Core Ml S} {ro:Nat->Option Obj} {i:Nat} {A:FuncId->Bool}
theorem zq6h(Y:YSys Try.prog A C ro i β){st:Nat}(h:StepY Y 124 #[.pointer (some ⟨st,0,none⟩)]):StepY Y 48 #[.iface 44 (.pointer (some ⟨st,0,none⟩))]:=by
 intro K s m w hA;refine BodyY.calls ⟨_,_,Try.func48,rfl,?_⟩;simp only[zql,Try.ntmps48,List.size_toArray,List.length_cons,List.length_nil,Nat.reduceAdd,Nat.reduceSub,Array.replicate_succ,Array.replicate_zero,List.push_toArray,List.append_toArray,List.nil_append,List.cons_append];have hA:Y.AtB (m.box i) s w (Proc.tick.bind K):=⟨m,rfl,hA⟩;obtain⟨B,hB0⟩:∃B,m.box i=B:=⟨_,rfl⟩;rw[hB0]at hA |-;clear hB0;apply YSys.seq0 hA (by kernel_rfl)
 . intro wc hB;go_wp2;exact⟨rfl,Ext1.refl _,rfl⟩
 intro w hA;refine zqt Y.jc rfl ?_;rw[if_pos rfl];refine zqs Y.jc ?_;apply YSys.callS 0 1 0 hA h rfl rfl rfl (by rfl) rfl rfl rfl
 . intro wc hB X hX;have HX:=Lib.hid hX;clear hX;go_wp2;exact HX.out _ (Ext1.refl _)
 . intro w;simp[go_sem,execOp,Act.eval,resolve,Deferred.ofValue,invoke,callFunc,zq6c,zq6d,Try.func124,Try.f124]
 . intro w;simp[go_sem,execOp,Act.eval,resolve,Deferred.ofValue,invoke,callFunc,zq6c,zq6d,Try.func124,Try.f124]
 . intro s' ch w' h;exact⟨rfl,h⟩
 intro s w hA;refine zq12 Y.jc ?_;exact⟨rfl,.inl ⟨_,resultsC_none rfl _,(),hA.choose,rfl,hA.choose_spec⟩⟩
end
theorem zqas(n:Nat):IntKind.i64.wrap (wrap64 (n:Int)+1)=wrap64 ((n+1:Nat):Int):=by
 rw[IntKind.wrap_i64];simp only[wrap64]<;>omega
theorem zqan{kb n:Nat}(w:World)(h:w.heap[kb]?=some (.cells #[.int .i64 (wrap64 n)] 46)):
 Calls Try.prog 124 #[.pointer (some ⟨kb,0,none⟩)] w λe w'=>e=.returned (.tuple #[])/\w'.heap[kb]?=some (.cells #[.int .i64 (wrap64 ((n+1:Nat):Int))] 46)/\w'.heap.size=w.heap.size/\∀b,b≠kb->w'.heap[b]?=w.heap[b]?:=by
 have c0:w.cell? ⟨kb,0,none⟩=some (.int .i64 (wrap64 n)):=(zq1 (off:=0) h).trans rfl;have z0:w.frozen? ⟨kb,0,none⟩=false:=zqd h;obtain⟨q,hq⟩:∃q,wrap64 ((n+1:Nat):Int)=q:=⟨_,rfl⟩;have hw:=(zqas n).trans hq;obtain⟨p,hp⟩:∃p,wrap64 (n:Int)=p:=⟨_,rfl⟩;rw[hp]at c0 hw h;rw[hq];have HB:=Lib.hid h;clear h hq hp
 go_enter Try.func124,Try.ntmps124
 go_wp2
 go_end0
 refine⟨rfl,?_,zq11 _ _ _,λb hb=>zqn _ _ _ _ hb⟩;rw[zqv _ _ _ _ HB.out];rfl
theorem zq6b{bb kb:Nat}{ro:Nat->Option Obj}{i:Nat}{α:Type}{main:Bool}{Kc:Addr->Option Value}{J:Goroutine->World->Prop}(hJ:JS Try.prog main Kc (λ(_:Unit)=>J))(hC:CalmJ Try.prog main (λ(_:Unit)=>J))(m₀:BM (BoxM×Nat))(w₀:World)(T:(BoxS×Unit)×Option α×Nat)(I:BoxS×Unit->Prop):
 StepY ((zq5g zq3i hJ hC (zq8 (zqu bb) (zq1c kb)) ro i 1 m₀ w₀ T).sys I) 124 #[.pointer (some ⟨kb,0,none⟩)]:=by
 intro K s m w hA;obtain⟨hL,hI⟩:=hA;obtain⟨⟨lc,n⟩,bx⟩:=m;have hrep:=hL.rep;have hk:w.heap[kb]?=some (.cells #[.int .i64 (wrap64 n)] 46):=hrep.core.2.1;intro cl cs h1 _;refine zqag (J:=λ(_:Unit)=>J) (s:=()) hJ hC zq3i Try.func124 rfl (by kernel_rfl) (R:=λv w'=>v=.tuple #[]/\w'.heap[kb]?=some (.cells #[.int .i64 (wrap64 ((n+1:Nat):Int))] 46)/\w'.heap.size=w.heap.size/\∀b,b≠kb->w'.heap[b]?=w.heap[b]?) (λv w' τ d h=>h) (λτ d=>?_) ?_
 . refine Calls.mono (zqan (re w τ d) hk) ?_;rintro e w' ⟨rfl,h⟩;exact⟨_,rfl,rfl,h⟩
 . rintro v w' ⟨rfl,g1,g2,g3⟩;refine h1 s _ w' ⟨(),⟨(lc,n+1),bx⟩,rfl,rfl,?_,hI⟩;refine LoneAt.count hL rfl rfl (λb=>Iff.rfl) ?_ (Nat.le_of_eq g2.symm) λb _ hf=>g3 b λe=>hf (.inr e);have hnk:∀b,(zqu bb).foot lc b->b≠kb:=λb hb e=>hrep.core.2.2 b hb e;refine⟨⟨(zqu bb).frame _ _ _ hrep.core.1 λb hb=>g3 b (hnk b hb),g1,hrep.core.2.2⟩,λj b o hb=>?_,λb o hb=>?_,hrep.apart,hrep.own,hrep.rol,hrep.rob⟩
   . exact(g3 b λe=>hrep.apart j b (by rw[hb];simp) (.inr e)).trans (hrep.box j b o hb)
   . exact(g3 b λe=>hrep.rol b (by rw[hb];simp) (.inr e)).trans (hrep.rod b o hb)
structure BoxAt(W:World)(bb kb:Nat)(o:Option ByteArray)(c:Nat)(w:World):Prop where
 be:Beyond W w
 lo:W.heap.size<=bb/\W.heap.size<=kb/\bb≠kb
 cnt:w.heap[kb]?=some (.cells #[.int .i64 (wrap64 (c:Int))] 46)
 box:∃p:Option (Nat×ByteArray),p.map (·.2)=o/\BoxRep bb (p,λ_=>false) w/\∀b x,p=some (b,x)->W.heap.size<=b/\b≠kb
theorem BoxAt.more {W:World}{bb kb:Nat}{o:Option ByteArray}{c:Nat}{w w':World}(h:BoxAt W bb kb o c w)(hb:Beyond w w'):BoxAt W bb kb o c w':=by
 obtain⟨h1,h2,h3,p,h4,h5,h6⟩:=h;exact⟨h1.trans hb,h2,hb.heap h3,p,h4,⟨hb.heap h5.box,λb x hx=>⟨(h5.val b x hx).1,hb.heap (h5.val b x hx).2⟩,h5.seen⟩,h6⟩
abbrev cntV(kb:Nat):Value:=.iface 44 (.pointer (some ⟨kb,0,none⟩))
theorem zq6e{bb kb c:Nat}{W w:World}{α:Type}{p0:Option (Nat×ByteArray)}(hW:Beyond W w)(hlo:W.heap.size<=bb/\W.heap.size<=kb/\bb≠kb)(h6:∀b x,p0=some (b,x)->W.heap.size<=b/\b≠kb){T:(BoxS×Unit)×Option α×Nat}{m:BM (BoxM×Nat)}{w':World}{a:α}
 (h:LoneAt (zq8 (zqu bb) (zq1c kb)) (λ_=>none) 0 1 ⟨((p0,λ_=>false),c),λ_ _=>none⟩ w T m w' ((zq8 (zqu bb) (zq1c kb)).st m.l,.ret a)):BoxAt W bb kb T.1.1.1 (c+T.2.2) w'/\T.2.1=some a:=by
 obtain⟨k,h1,h2,h3⟩:=h.run;have e1:T.1=(zq8 (zqu bb) (zq1c kb)).st m.l:=(congrArg (λx=>x.1) h1).symm;have e2:T.2.1=some a:=(congrArg (λx=>x.2.1) h1).symm;have e3:k=0:=(congrArg (λx=>x.2.2) h1).symm;subst e3;have e4:m.l.2=c+T.2.2:=by
  have:m.l.2+1*0=c+1*T.2.2:=h3;omega
 have hfoot:∀b,BM.foot (zq8 (zqu bb) (zq1c kb)) (λ_=>none) ⟨((p0,λ_=>false),c),λ_ _=>none⟩ b->W.heap.size<=b:=λb hb=>by
  rcases hb with((rfl |⟨x,hx⟩)|rfl)|⟨_,hb⟩|hb
  . exact hlo.1
  . exact(h6 b x hx).1
  . exact hlo.2.1
  . exact absurd rfl hb
  . exact absurd rfl hb
 have hs:=h.size;have hWs:=hW.1;refine⟨⟨⟨by omega,λb hb=>?_⟩,hlo,?_,m.l.1.1,?_,⟨h.rep.core.1.box,h.rep.core.1.val,λi hi=>by cases hi⟩,λb x hx=>⟨?_,λe=>?_⟩⟩,e2⟩
 . rw[h.old b (by omega) λhf=>by have:=hfoot b hf;omega];exact hW.2 b hb
 . rw[<-e4];exact h.rep.core.2.1
 . rw[e1];rfl
 . rcases h.grow b (.inl (.inl (.inr ⟨x,hx⟩)))with hf|hf
   . exact hfoot b hf
   . omega
 . exact h.rep.core.2.2 b (.inr ⟨x,hx⟩) e
section
variable {Fin:Machine->Trace->Prop} (hFin:Back Try.prog Fin) {n bb kb c:Nat} {W w:World} {o:Option ByteArray} {cl:Frame} {cs:List Frame}
include hFin
theorem zq6g(v:ByteArray)(h:BoxAt W bb kb o c w)(hq:∀w',BoxAt W bb kb (some (o.getD v)) (c+if o=none then 1 else 2) w'->J0 Try.prog Fin n (G (cl.finish (strV (o.getD v,o.isNone))) cs) w'):
 J0 Try.prog Fin n (G (Frame.enter Try.prog 21 #[.pointer (some ⟨bb,0,none⟩),cntV kb,.string v] .normal) (cl::cs)) w:=by
 have hJ:=jU0 hFin n;have hC:=jC0 hFin n;obtain⟨h1,h2,h3,p,h4,h5,h6⟩:=h;have hrep:BRep (zq8 (zqu bb) (zq1c kb)) (λ_=>none) ⟨((p,λ_=>false),c),λ_ _=>none⟩ w:=⟨⟨h5,h3,λb hb e=>by
  rcases hb with rfl |⟨x,hx⟩
  . exact h2.2.2 e
  . exact(h6 b x hx).2 e⟩,λi b o h=>(by cases h),λb o h=>(by cases h),λi b h=>absurd rfl h,λi j b _ h=>absurd rfl h,λb h=>absurd rfl h,λi b h=>absurd rfl h⟩
 obtain⟨T,hT⟩:∃T,(setB (S2:=Unit) 0 v).run ((o,λ_=>false),())=T:=⟨_,rfl⟩;have hTv:T.2.1=some (o.getD v,o.isNone)/\T.1.1.1=some (o.getD v)/\T.2.2=if o=none then 1 else 2:=by
  rw[<-hT];cases o<;>exact⟨rfl,rfl,rfl⟩
 have hst:(zq8 (zqu bb) (zq1c kb)).st ((p,λ_=>false),c)=((o,λ_=>false),()):=by show((p.map (·.2),_),_)=_;rw[h4]
 have h0:LoneAt (zq8 (zqu bb) (zq1c kb)) (λ_=>none) 0 1 ⟨((p,λ_=>false),c),λ_ _=>none⟩ w T ⟨((p,λ_=>false),c),λ_ _=>none⟩ w ((setB (S2:=Unit) 0 v).bind Proc.ret ((zq8 (zqu bb) (zq1c kb)).st ((p,λ_=>false),c))):=by
  rw[Proc.bind_pure,hst];exact⟨hrep,Nat.le_refl _,λ_ _ _=>rfl,λ_ h=>.inl h,⟨T.2.2,by show(setB (S2:=Unit) 0 v).run _=_;rw[hT],⟨_,hTv.1⟩,rfl⟩,λ_ _=>rfl⟩
 refine zqaq (zq5g zq3i (J:=J0 Try.prog Fin n) hJ hC (zq8 (zqu bb) (zq1c kb)) (λ_=>none) 0 1 ⟨((p,λ_=>false),c),λ_ _=>none⟩ w T) (Iq:=λq s=>s.1.2 0=q) (sv:=cntV kb) ⟨λq=>zq6h _ (zq6b hJ hC _ _ _ _),λ_ _ h=>h,λ_ _ _ h=>h,λ_ s _=>upd'_same s.1.2 0 true,λ_ _=>trivial,λ_=>trivial⟩ false v (K:=Proc.ret) (s:=()) (B:=λ_=>none) ⟨_,rfl,h0,by rw[hst]⟩ cl cs ?_ ?_
 . rintro s' val w' ⟨a,q,m,rfl,_,hA,_⟩;obtain⟨k1,k2⟩:=zq6e h1 h2 h6 hA;rw[hTv.1]at k2;cases k2;rw[hTv.2.1,hTv.2.2]at k1;exact hq w' k1
 . intro s' ch w' hf;exact hf.elim
theorem zq6f(h:BoxAt W bb kb o c w)(hq:∀w',BoxAt W bb kb o (c+1) w'->J0 Try.prog Fin n (G (cl.finish (strV (o.getD noStr,o.isSome))) cs) w'):
 J0 Try.prog Fin n (G (Frame.enter Try.prog 23 #[.pointer (some ⟨bb,0,none⟩),cntV kb] .normal) (cl::cs)) w:=by
 have hJ:=jU0 hFin n;have hC:=jC0 hFin n;obtain⟨h1,h2,h3,p,h4,h5,h6⟩:=h;have hrep:BRep (zq8 (zqu bb) (zq1c kb)) (λ_=>none) ⟨((p,λ_=>false),c),λ_ _=>none⟩ w:=⟨⟨h5,h3,λb hb e=>by
  rcases hb with rfl |⟨x,hx⟩
  . exact h2.2.2 e
  . exact(h6 b x hx).2 e⟩,λi b o h=>(by cases h),λb o h=>(by cases h),λi b h=>absurd rfl h,λi j b _ h=>absurd rfl h,λb h=>absurd rfl h,λi b h=>absurd rfl h⟩
 obtain⟨T,hT⟩:∃T,(getB (S2:=Unit)).run ((o,λ_=>false),())=T:=⟨_,rfl⟩;have hTv:T.2.1=some (o.getD noStr,o.isSome)/\T.1.1.1=o/\T.2.2=1:=by
  rw[<-hT];exact⟨rfl,rfl,rfl⟩
 have hst:(zq8 (zqu bb) (zq1c kb)).st ((p,λ_=>false),c)=((o,λ_=>false),()):=by show((p.map (·.2),_),_)=_;rw[h4]
 have h0:LoneAt (zq8 (zqu bb) (zq1c kb)) (λ_=>none) 0 1 ⟨((p,λ_=>false),c),λ_ _=>none⟩ w T ⟨((p,λ_=>false),c),λ_ _=>none⟩ w ((getB (S2:=Unit)).bind Proc.ret ((zq8 (zqu bb) (zq1c kb)).st ((p,λ_=>false),c))):=by
  rw[Proc.bind_pure,hst];exact⟨hrep,Nat.le_refl _,λ_ _ _=>rfl,λ_ h=>.inl h,⟨T.2.2,by show(getB (S2:=Unit)).run _=_;rw[hT],⟨_,hTv.1⟩,rfl⟩,λ_ _=>rfl⟩
 refine zqap (zq5g zq3i (J:=J0 Try.prog Fin n) hJ hC (zq8 (zqu bb) (zq1c kb)) (λ_=>none) 0 1 ⟨((p,λ_=>false),c),λ_ _=>none⟩ w T) (I:=λ_=>True) (sv:=cntV kb) (zq6h _ (zq6b hJ hC _ _ _ _)) (K:=Proc.ret) (s:=()) (B:=λ_=>none) ⟨_,rfl,h0,trivial⟩ cl cs ?_ ?_
 . rintro s' val w' ⟨a,m,rfl,_,hA,_⟩;obtain⟨k1,k2⟩:=zq6e h1 h2 h6 hA;rw[hTv.1]at k2;cases k2;rw[hTv.2.1,hTv.2.2]at k1;exact hq w' k1
 . intro s' ch w' hf;exact hf.elim
end
end Go.Proofs
