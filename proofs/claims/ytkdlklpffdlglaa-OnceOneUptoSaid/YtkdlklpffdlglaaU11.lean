/- YtkdlklpffdlglaaOOne5: part 11 of the proof (the texts behind it, in order). -/
import Derived.Test.YtkdlklpffdlglaaU10
set_option maxHeartbeats 4000000
set_option maxRecDepth 100000
set_option linter.all false
namespace Go.Proofs
open Go Go.Conc Go.RowKit Go.Car
noncomputable def oplT(n:Nat):Code:=tailN n (Try.f11.body.getD .skip)
theorem opl0:Try.f11.body.getD .skip=.seq (headC (oplT 0)) (.seq (headC (oplT 1)) (.seq (headC (oplT 2)) (oplT 3))):=by kernel_rfl
def onceT(NC:Nat)(ops:Nat->List OpX)(N:Nat)(mo:Int)(sched:List Int):TSt (Nums×(Nat->List Ans)):=playT (λi=>opsP i (doerP NC) (ops i)) N (min mo.toNat 1048576) sched (λ_ _=>0,λ_=>[])
theorem zq7s{Fin:Machine->Trace->Prop}(hFin:Back Try.prog Fin){n:Nat}(hn:0<n){RP:Nat->Option Obj}{w:World}{np Cn N Cs:Nat}{pp scp:Option Addr}{sp:Nat->Option Addr}{L Cp:Nat->Nat}{ops:Nat->List OpX}{sched:List Int}{mo cells:Int}
 (hRP:∀b o,RP b=some o->w.heap[b]?=some o) (ho:OpsAt w RP pp np N sp L Cp ops) (hsl:sched.length<=4611686018427387904)
 (hs:sched≠[]->∃sb off,scp=some ⟨sb,off,none⟩/\∀j x,sched[j]?=some x->w.cell? ⟨sb,off+j,none⟩=some (.int .i64 x))
 {c:Frame} {cs:List Frame}
 (hmain:∀ab ov sv am w',PlayedR N w (onceT (onceN cells) ops N mo sched) (numL (onceT (onceN cells) ops N mo sched).s.1 (onceN cells)) ab ov sv am w'->
  J0 Try.prog Fin (n+N) (G (c.finish (.agg #[.slice (some ⟨ab,0,none⟩) N N,ov,sv,.bool (decide (0<leftN (onceT (onceN cells) ops N mo sched).ov N))])) cs) w'):
 J0 Try.prog Fin n (G (Frame.enter Try.prog 11 #[.int .i64 cells,.slice pp np Cn,.slice scp sched.length Cs,.int .i64 mo] .normal) (c::cs)) w:=by
 have hJ:=j0_JS hFin;have hC:=zq3i hFin;have e:Frame.enter Try.prog 11 #[.int .i64 cells,.slice pp np Cn,.slice scp sched.length Cs,.int .i64 mo] .normal=(bN 11).at (zql Try.f11 #[.int .i64 cells,.slice pp np Cn,.slice scp sched.length Cs,.int .i64 mo]) [.code ((Try.f11.body).getD .skip)]:=by kernel_rfl
 have ea:zql Try.f11 #[.int .i64 cells,.slice pp np Cn,.slice scp sched.length Cs,.int .i64 mo]=⟨#[.int .i64 cells,.slice pp np Cn,.slice scp sched.length Cs,.int .i64 mo,undef,undef,undef,undef,undef,undef,undef,undef,undef,undef,undef,undef,undef,undef,undef,undef,undef,undef,undef,undef,undef,undef],[]⟩:=by kernel_rfl
 rw[e,ea,opl0];clear e ea;have hm:=Lib.hid hmain;clear hmain;obtain⟨H,hH⟩:∃H,w.heap.size=H:=⟨_,rfl⟩;refine hJ.ctl (s:=n) (λw=>stepG_seq) ?_;refine zq2j hJ hC zq1f (by kernel_rfl) (λt w'=>t=#[.int .i64 cells,.slice pp np Cn,.slice scp sched.length Cs,.int .i64 mo,undef,undef,undef,undef,.pointer (some ⟨H,0,none⟩),undef,undef,undef,undef,undef,undef,undef,undef,undef,undef,undef,undef,undef,undef,undef,undef,undef]/\∃τ d,w'=re (w.alloc (.cells #[.slice none 0 0,.slice none 0 0,.slice none 0 0,.bool false] 29)) τ d) (λt w' τ d h=>⟨h.1,by obtain⟨τ',d',rfl⟩:=h.2;exact⟨τ,d,by rw[re_re]⟩⟩) (by decide) (λτ d=>?_) ?_
 . obtain⟨u0,hu0⟩:∃c,headC (oplT 0)=c:=⟨_,rfl⟩;have eu0:=hu0;rw[hu0];simp only[oplT,headC,tailN,Try.f11,al_od]at eu0;subst eu0;clear hu0;clear hs ho hRP;go_wp2;exact⟨rfl,rfl,τ,d,rfl⟩
 rintro t w' ⟨rfl,τ,d,rfl⟩;refine hJ.re' n _ _ τ d ?_;have hwa:(w.alloc (.cells #[.slice none 0 0,.slice none 0 0,.slice none 0 0,.bool false] 29)).heap.size=H+1:=by rw[zqc,hH]
 have hob:∀b,b<H->(w.alloc (.cells #[.slice none 0 0,.slice none 0 0,.slice none 0 0,.bool false] 29)).heap[b]?=w.heap[b]?:=λb hb=>by rw[zqa,if_neg (by omega)]
 have hzb:(w.alloc (.cells #[.slice none 0 0,.slice none 0 0,.slice none 0 0,.bool false] 29)).heap[H]?=some (.cells #[.slice none 0 0,.slice none 0 0,.slice none 0 0,.bool false] 29):=hH▸zq12 w _;obtain⟨wa,hwae⟩:∃wa,w.alloc (.cells #[.slice none 0 0,.slice none 0 0,.slice none 0 0,.bool false] 29)=wa:=⟨_,rfl⟩;rw[hwae]at hwa hob hzb |-;clear hwae;refine hJ.ctl (s:=n) (λw=>stepG_seq) ?_;refine zq2j hJ hC zq1f (by kernel_rfl) (λt w'=>∃TN vb pb Cp ps,t=#[.int .i64 cells,.slice pp np Cn,.slice scp sched.length Cs,.int .i64 mo,undef,undef,undef,undef,.pointer (some ⟨H,0,none⟩),.slice (some ⟨pb,0,none⟩) (onceN cells) Cp,.func (.func 63) #[] #[.pointer (some ⟨vb,0,none⟩)],undef,.tuple #[.slice (some ⟨pb,0,none⟩) (onceN cells) Cp,.func (.func 63) #[] #[.pointer (some ⟨vb,0,none⟩)]],.int .i64 cells,.tuple #[.slice (some ⟨pb,0,none⟩) (onceN cells) Cp,.func (.func 63) #[] #[.pointer (some ⟨vb,0,none⟩)]],.slice (some ⟨pb,0,none⟩) (onceN cells) Cp,.func (.func 63) #[] #[.pointer (some ⟨vb,0,none⟩)],undef,undef,undef,undef,undef,undef,undef,undef,undef]/\TN.N=onceN cells/\NewOnces wa TN vb pb Cp ps w') (λt w' τ d h=>by obtain⟨TN,vb,pb,Cp,ps,h1,h2,h3⟩:=h;exact⟨TN,vb,pb,Cp,ps,h1,h2,h3.re τ d⟩) (by decide) (λτ d=>?_) ?_
 . obtain⟨u0,hu0⟩:∃c,headC (oplT 1)=c:=⟨_,rfl⟩;have eu0:=hu0;rw[hu0];simp only[oplT,headC,tailN,Try.f11,al_od]at eu0;subst eu0;clear hu0;have HM:=Lib.hid (zqbc cells (re wa τ d));clear hs ho hRP hob hzb hH hwa hsl
   go_wp2_with (fail)
   refine Calls.mono HM.out ?_;rintro e w' ⟨TN,vb,pb,Cp,ps,hN,hR,rfl⟩;rw[hN];have HR:RowKit.Hid (TN.N=onceN cells/\NewOnces wa TN vb pb Cp ps w'):=Lib.hid ⟨hN,hR.of_re⟩;clear hR hN;go_wp2;exact⟨rfl,_,_,_,_,_,rfl,HR.out⟩
 rintro t wb ⟨TN,vb,pb,Cq,ps,rfl,hTN,hR⟩;have hNN:=zq7r cells;have hwb:H+1<=wb.heap.size:=by have:=hR.be.1;omega
 have hobb:∀b,b<H->wb.heap[b]?=w.heap[b]?:=λb hb=>(hR.be.2 b (by omega)).trans (hob b hb);have hzb2:wb.heap[H]?=some (.cells #[.slice none 0 0,.slice none 0 0,.slice none 0 0,.bool false] 29):=(hR.be.2 H (by omega)).trans hzb;have hlo:=hR.lo;have hvl:=hR.vlo;have hpl:=hR.plo;rw[hwa]at hlo hvl hpl;clear hzb hob hwa;have hlt:∀b o,RP b=some o->b<H:=λb o h=>by rw[<-hH];exact zqs (hRP b o h)
 have hnf:∀b,(zqt TN).foot (λ_ _=>0) b->H+1<=b:=λb⟨x,hx,hb⟩=>by have:=hlo x hx;omega
 obtain⟨RQ,hRQ⟩:∃RQ:Nat->Option Obj,RQ=λb=>if b=vb then some (.cells #[.slice (some ⟨pb,0,none⟩) TN.N Cq] 108)else if b=pb then some (.cells ps 35)else RP b:=⟨_,rfl⟩
 have hpv:pb≠vb:=zq3g hR.pbk hR.vbk (by decide);have hqv:RQ vb=some (.cells #[.slice (some ⟨pb,0,none⟩) TN.N Cq] 108):=by rw[hRQ];simp
 have hqp:RQ pb=some (.cells ps 35):=by rw[hRQ];simp[hpv]
 have hqr:∀b o,RP b=some o->RQ b=some o:=λb o h=>by
  have:=hlt b o h;rw[hRQ];simp only;rw[if_neg (by omega),if_neg (by omega)];exact h
 have hqw:∀b o,RQ b=some o->(b=vb\/b=pb\/b<H)/\wb.heap[b]?=some o:=λb o h=>by
  rw[hRQ]at h;simp only at h;split at h
  . rename_i e;cases h;subst e;exact⟨.inl rfl,hR.vbk⟩
  . split at h
    . rename_i e;cases h;subst e;exact⟨.inr (.inl rfl),hR.pbk⟩
    . exact⟨.inr (.inr (hlt b o h)),(hobb b (hlt b o h)).trans (hRP b o h)⟩
 have hB:BRep (zqt TN) RQ ⟨λ_ _=>0,λ_ _=>none⟩ wb:=by
  refine⟨hR.rep,λi b o h=>(by cases h),λb o h=>(hqw b o h).2,λi b h=>absurd rfl h,λi j b _ h=>absurd rfl h,λb h hf=>?_,λi b _=>rfl⟩;cases ho:RQ b with
  |none=>exact h ho
  |some o=>
   obtain⟨x,hx,hb⟩:=hf;have h1:=hR.sep x hx;have h2:=hlo x hx;rcases(hqw b o ho).1 with e|e|e
   . exact h1.1 (by rw[<-e];exact hb)
   . exact h1.2 (by rw[<-e];exact hb)
   . omega
 have hOp:OpsAt wb RQ pp np N sp L Cp ops:=by
  refine⟨ho.eq,ho.le,λh0=>?_,ho.row,ho.len,λi hi k op hk=>?_⟩
  . obtain⟨tb,to',e,h1⟩:=ho.at' h0;exact⟨tb,to',e,λi hi=>(zq14 (hobb tb (by rw[<-hH];exact cell_lt (h1 i hi)))).trans (h1 i hi)⟩
  . obtain⟨g,off,cur,e,fr,h1,h2,h3⟩:=ho.op i hi k op hk;exact⟨g,off,cur,e,fr,h1,hqr _ _ h2,h3⟩
 have hsc:sched≠[]->∃sb off,scp=some ⟨sb,off,none⟩/\¬(zqt TN).foot (λ_ _=>0) sb/\∀j x,sched[j]?=some x->wb.cell? ⟨sb,off+j,none⟩=some (.int .i64 x):=λh0=>by
  obtain⟨sb,off,e,h2⟩:=hs h0;obtain⟨x,l,hsl⟩:=List.exists_cons_of_ne_nil h0;have hlt:sb<H:=by rw[<-hH];exact cell_lt (h2 0 x (by rw[hsl];rfl))
  exact⟨sb,off,e,λhf=>by have:=hnf sb hf;omega,λj x hj=>(zq14 (hobb sb hlt)).trans (h2 j x hj)⟩
 have hpn:¬(zqt TN).foot (λ_ _=>0) pb:=λ⟨x,hx,hb⟩=>(hR.sep x hx).2 hb
 have hpw:=hR.pbk;have hps:=hR.ps';have hln:=hR.len;clear ho hs hRP hlt hR;refine hJ.ctl (s:=n) (λw=>stepG_seq) ?_;obtain⟨u0,hu0⟩:∃c,headC (oplT 2)=c:=⟨_,rfl⟩;have eu0:=hu0;rw[hu0];simp only[oplT,headC,tailN,Try.f11,al_od]at eu0;subst eu0;clear hu0;refine hJ.ctl (s:=n) (λw=>stepG_region) ?_;have HX:=Lib.hid (And.intro hB (And.intro hOp (And.intro hsc (And.intro hnf (And.intro hobb (And.intro hzb2 hwb))))));have HE:=Lib.hid (And.intro hTN (And.intro hH (And.intro hpw (And.intro hps (And.intro hln (And.intro hpn (And.intro hqv (And.intro hqp hNN))))))));clear hB hOp hsc hnf hobb hzb2 hwb hH hpw hps hln hpn hqv hqp hRQ hqr hqw hlo hvl hpl hTN hpv hNN;refine zqr (s:=n) (by decide) hJ (zqp _) true (.inl rfl) 0 4 3 rfl rfl rfl (by rfl) ?_;intro τ d;simp only[List.drop_zero,List.take_succ_cons,List.take_zero];go_wp2;simp only[zqe];refine hJ.re' n _ _ τ d ?_;refine zq1b (by decide) hJ (s:=n) rfl rfl (f:=35) (args:=#[.slice pp np Cn,.func (.func 63) #[] #[.pointer (some ⟨vb,0,none⟩)],.slice scp sched.length Cs,.int .i64 mo]) (λτ d=>?_) (λτ d=>?_) ?_
 . simp[go_sem,execOp,Act.eval,resolve,Deferred.ofValue,invoke,callFunc,Try.func35,Try.f35]
 . intro e he;simp[go_sem,execOp,Act.eval,resolve,Deferred.ofValue,invoke,callFunc,Try.func35,Try.f35,Sem.runT_eq]at he
 obtain⟨hB,hOp,hsc,hnf,hobb,hzb2,hwb⟩:=HX.out;obtain⟨hTN,hH,hpw,hps,hln,hpn,hqv,hqp,hNN⟩:=HE.out;refine zqd8 hFin hn zq1f rowsM (fn:=Try.f63) (cc:=(Try.f63.body).getD .skip) Try.func63 rfl rfl hB hOp hsl hsc (dop:=λ_=>doerP TN.N) (λi op k=>zqbb _ _ _) (λro ab pr st cr rest EN i o op hro _=>zqbe (by omega) hln ro (hro _ _ hqv) (hro _ _ hqp) hps pr st cr rest EN i o op) ?_;intro ab v l' am w2 hO;rw[Frame.finish_at]
 walk_nrm
 have hTe:playT (λi=>opsP i (doerP TN.N) (ops i)) N (min mo.toNat 1048576) sched ((zqt TN).st (λ_ _=>0),λ_=>[])=onceT (onceN cells) ops N mo sched:=by
  unfold onceT;rw[hTN];rfl
 rw[hTe]at hO |-;obtain⟨pv',cv',rfl,_⟩:=zq4k hO.row;have hl':(onceT (onceN cells) ops N mo sched).s.1=l':=hO.st.symm;have hze:w2.heap[H]?=some (.cells #[.slice none 0 0,.slice none 0 0,.slice none 0 0,.bool false] 29):=(hO.old H (by omega) (λh=>by have:=hnf H h;omega)).trans hzb2;have hpe:w2.heap[pb]?=some (.cells ps 35):=(hO.old pb (zqs hpw) hpn).trans hpw;generalize (onceT (onceN cells) ops N mo sched).ord.length=nv' at hO |-;have HO:=Lib.hid hO;have HZ:=Lib.hid (And.intro hze (And.intro hl' hpe));obtain⟨stuck,hstuck⟩:∃x,decide (0<leftN (onceT (onceN cells) ops N mo sched).ov N)=x:=⟨_,rfl⟩;rw[hstuck];have HST:=Lib.hid hstuck;clear hstuck hO hze hl' hpe hTe hB hOp hsc hnf hobb hzb2 hwb hTN hH hpw hps hln hpn hqv hqp hNN;refine zqr (s:=n+N) (by decide) hJ (zqp _) false (.inr rfl) 5 2 0 rfl rfl rfl (by rfl) ?_;intro τ d;simp only[List.drop_succ_cons,List.drop_zero,List.take_succ_cons,List.take_zero];have HO2:=Lib.hid (HO.out.re τ d);have HZ2:RowKit.Hid ((re w2 τ d).heap[H]?=some (.cells #[.slice none 0 0,.slice none 0 0,.slice none 0 0,.bool false] 29)/\(onceT (onceN cells) ops N mo sched).s.1=l'/\(re w2 τ d).heap[pb]?=some (.cells ps 35)):=Lib.hid HZ.out;clear HO HZ;generalize re w2 τ d=w3 at HO2 HZ2 |-;go_wp2;simp only[zqe];refine hJ.ctl (s:=n+N) (λw=>stepG_region_end) ?_;have hT:=zq12 w3 (.cells #[.slice (some ⟨ab,0,none⟩) N N,.slice pv' nv' cv',.slice none 0 0,.bool stuck] 29);have hoT:∀b,b<w3.heap.size->(w3.alloc (.cells #[.slice (some ⟨ab,0,none⟩) N N,.slice pv' nv' cv',.slice none 0 0,.bool stuck] 29)).heap[b]?=w3.heap[b]?:=λb hb=>by rw[zqa,if_neg (by omega)]
 have hsT:(w3.alloc (.cells #[.slice (some ⟨ab,0,none⟩) N N,.slice pv' nv' cv',.slice none 0 0,.bool stuck] 29)).heap.size=w3.heap.size+1:=zqc _ _;generalize (w3.alloc (.cells #[.slice (some ⟨ab,0,none⟩) N N,.slice pv' nv' cv',.slice none 0 0,.bool stuck] 29))=w4 at hT hoT hsT |-;obtain⟨T,hTT⟩:∃T,w3.heap.size=T:=⟨_,rfl⟩;rw[hTT]at hT hoT hsT |-;have HT:=Lib.hid (And.intro hT (And.intro hoT (And.intro hsT hTT)));clear hT hoT hsT hTT;refine zq4y hJ hC zq1f (by kernel_rfl) (λv w'=>∃sv am,v=.agg #[.slice (some ⟨ab,0,none⟩) N N,.slice pv' nv' cv',sv,.bool stuck]/\PlayedR N w (onceT (onceN cells) ops N mo sched) (numL (onceT (onceN cells) ops N mo sched).s.1 (onceN cells)) ab (.slice pv' nv' cv') sv am w') (λv w' τ d⟨sv,am,h1,h2⟩=>⟨sv,am,h1,h2.re τ d⟩) rfl Try.func11 (λτ d=>?_) ?_
 . obtain⟨u0,hu0⟩:∃c,oplT 3=c:=⟨_,rfl⟩;have eu0:=hu0;rw[hu0];simp only[oplT,headC,tailN,Try.f11,al_od]at eu0;subst eu0;clear hu0;obtain⟨hT,hoT,hsT,hTT⟩:=HT.out;have hT':(re w4 τ d).heap[T]?=some (.cells #[.slice (some ⟨ab,0,none⟩) N N,.slice pv' nv' cv',.slice none 0 0,.bool stuck] 29):=hT;have hoT':∀b,b<T->(re w4 τ d).heap[b]?=w3.heap[b]?:=hoT;have hsT':(re w4 τ d).heap.size=T+1:=hsT;have hHl:H<T:=by rw[<-hTT];exact zqs HZ2.out.1
   have hpT:(re w4 τ d).heap[pb]?=some (.cells ps 35):=(hoT' pb (by rw[<-hTT];exact zqs HZ2.out.2.2)).trans HZ2.out.2.2;have hall:=zqe9 (T:=TN) ((zqt TN).frame _ _ _ HO2.out.rep λb hb=>hoT' b (by rw[<-hTT];exact(zqt TN).lt _ _ _ HO2.out.rep hb)) HE.out.2.2.2.2.1 (by have:=HE.out.1;have:=HE.out.2.2.2.2.2.2.2.2;omega) (Cp:=Cq) hpT HE.out.2.2.2.1;rw[HE.out.1]at hall;generalize re w4 τ d=w5 at hT' hoT' hsT' hall |-;have HA:=Lib.hid hall;have HW:=Lib.hid (And.intro hT' (And.intro hoT' (And.intro hsT' (And.intro hTT hHl))));clear hT hoT hsT hTT hT' hoT' hsT' hpT hall HT hHl hm
   go_wp2_with (fail)
   refine Calls.mono HA.out ?_;rintro e w6 ⟨sv,rfl,hI⟩;obtain⟨sp',sc',rfl,-,-⟩:=zq4k hI.row;obtain⟨sl,hsl'⟩:∃x,(numL l' (onceN cells)).length=x:=⟨_,rfl⟩;rw[hsl']at hI |-;have hI2:=Lib.hid (And.intro hI hsl');clear hsl';have b1:w6.heap[T]?=some (.cells #[.slice (some ⟨ab,0,none⟩) N N,.slice pv' nv' cv',.slice none 0 0,.bool stuck] 29):=(hI.be.2 T (by have:=HW.out.2.2.1;omega)).trans HW.out.1;have b0:w6.heap[H]?=some (.cells #[.slice none 0 0,.slice none 0 0,.slice none 0 0,.bool false] 29):=(hI.be.2 H (by have:=HW.out.2.2.1;have:=HW.out.2.2.2.2;omega)).trans ((HW.out.2.1 H HW.out.2.2.2.2).trans HZ2.out.1);have hne:¬(T=H):=by have:=HW.out.2.2.2.2;omega
   have hne2:¬(H=T):=by omega
   clear hI;have c0:=(zq0 (off:=0) b1).trans rfl;have c1:=(zq0 (off:=1) b1).trans rfl;have c2:=(zq0 (off:=2) b1).trans rfl;have c3:=(zq0 (off:=3) b1).trans rfl;have y2:=zqb (off:=2) b1;have r0:=(zq0 (off:=0) b0).trans rfl;have r1:=(zq0 (off:=1) b0).trans rfl;have r2:=(zq0 (off:=2) b0).trans rfl;have r3:=(zq0 (off:=3) b0).trans rfl;have z0:=zqb (off:=0) b0;have z1:=zqb (off:=1) b0;have z2:=zqb (off:=2) b0;have z3:=zqb (off:=3) b0;have B0:=Lib.hid b0;have B1:=Lib.hid b1;clear b0 b1;go_wp2;clear c0 c1 c2 c3 y2 r0 r1 r2 r3 z0 z1 z2 z3;have b0:(w6.setCell ⟨T,2,none⟩ (.slice sp' sl sc')).heap[H]?=some (.cells #[.slice none 0 0,.slice none 0 0,.slice none 0 0,.bool false] 29):=by rw[zqo _ _ _ _ hne2];exact B0.out
   have b1':=zqw _ H 0 (.slice (some ⟨ab,0,none⟩) N N) b0;have b2':=zqw _ H 1 (.slice pv' nv' cv') b1';have b3':=zqw _ H 2 (.slice sp' sl sc') b2';have b4':=zqw _ H 3 (.bool stuck) b3';have hext:∀x,x≠T->x≠H->(((((w6.setCell ⟨T,2,none⟩ (.slice sp' sl sc')).setCell ⟨H,0,none⟩ (.slice (some ⟨ab,0,none⟩) N N)).setCell ⟨H,1,none⟩ (.slice pv' nv' cv')).setCell ⟨H,2,none⟩ (.slice sp' sl sc')).setCell ⟨H,3,none⟩ (.bool stuck)).heap[x]?=w6.heap[x]?:=λx hx1 hx=>by
    rw[zqo _ _ _ _ hx,zqo _ _ _ _ hx,zqo _ _ _ _ hx,zqo _ _ _ _ hx,zqo _ _ _ _ hx1]
   have hsz8:(((((w6.setCell ⟨T,2,none⟩ (.slice sp' sl sc')).setCell ⟨H,0,none⟩ (.slice (some ⟨ab,0,none⟩) N N)).setCell ⟨H,1,none⟩ (.slice pv' nv' cv')).setCell ⟨H,2,none⟩ (.slice sp' sl sc')).setCell ⟨H,3,none⟩ (.bool stuck)).heap.size=w6.heap.size:=by simp only[zq13]
   generalize (((((w6.setCell ⟨T,2,none⟩ (.slice sp' sl sc')).setCell ⟨H,0,none⟩ (.slice (some ⟨ab,0,none⟩) N N)).setCell ⟨H,1,none⟩ (.slice pv' nv' cv')).setCell ⟨H,2,none⟩ (.slice sp' sl sc')).setCell ⟨H,3,none⟩ (.bool stuck))=w8 at b4' hext hsz8 |-;clear b1' b2' b3' b0;have k0:=(zq0 (off:=0) b4').trans rfl;have k1:=(zq0 (off:=1) b4').trans rfl;have k2:=(zq0 (off:=2) b4').trans rfl;have k3:=(zq0 (off:=3) b4').trans rfl;obtain⟨_,hoT,hsT,hTT,hHl⟩:=HW.out;obtain⟨hI,hsl2⟩:=hI2.out;have hwl:=HE.out.1;obtain⟨hB,hOp,hsc,hnf,hobb,hzb2,hwb⟩:=HX.out;have hrow:w8.ownsRow w3.heap.size 2 1 (.slice sp' sl sc') (numL (onceT (onceN cells) ops N mo sched).s.1 (onceN cells)).length ((numL (onceT (onceN cells) ops N mo sched).s.1 (onceN cells)).map (Value.int .i64)):=by
    rw[HZ2.out.2.1,hsl2];have hrI:=hI.row;rw[hsl2]at hrI;have q:w8.ownsRow w5.heap.size 2 1 (.slice sp' sl sc') sl ((numL l' (onceN cells)).map (Value.int .i64)):=zq1e hrI λg hg=>by
     have h1:=(own_lt hrI hg).2.1;exact hext g (by omega) (by omega)
    exact zq3m q (by omega)
   have hfin:PlayedR N w (onceT (onceN cells) ops N mo sched) (numL (onceT (onceN cells) ops N mo sched).s.1 (onceN cells)) ab (.slice pv' nv' cv') (.slice sp' sl sc') am w8:=by
    refine zqdm HO2.out HE.out.2.1 (by omega) hobb hnf (by have:=hI.be.1;omega) (λx hx hxH=>?_) hrow;rw[hext x (by omega) hxH,hI.be.2 x (by omega)];exact hoT x (by omega)
   refine⟨rfl,.agg #[.slice (some ⟨ab,0,none⟩) N N,.slice pv' nv' cv',.slice sp' sl sc',.bool stuck],?_,_,rfl,_,_,rfl,hfin⟩;simp only[results,Try.f11];simp[go_sem,k0,k1,k2,k3]
 . rintro v w' ⟨sv,am,rfl,h⟩;have h2:=hm.out _ _ sv am w' h;rw[HST.out]at h2;exact h2
noncomputable def seT(n:Nat):Code:=tailN n (Try.f9.body.getD .skip)
theorem se0:Try.f9.body.getD .skip=.seq (headC (seT 0)) (.seq (headC (seT 1)) (seT 2)):=by kernel_rfl
theorem zqcr(w:World):Calls Try.prog 31 #[] w λe w'=>e=.returned (.pointer (some ⟨w.heap.size,0,none⟩))/\∃o,w'=w.alloc o:=by
 go_enter Try.func31,Try.ntmps31
 go_wp2;go_ret;exact⟨rfl,_,rfl⟩
theorem zqcs(w:World):Calls Try.prog 32 #[.nilFunc] w λe w'=>e=.returned (.pointer (some ⟨w.heap.size,0,none⟩))/\∃o,w'=w.alloc o:=by
 go_enter Try.func32,Try.ntmps32
 go_wp2;go_ret;exact⟨rfl,_,rfl⟩
def seOps(i:Nat):List OpX:=if i=0 then [⟨2,0,7,0⟩]else [⟨2,0,9,0⟩]
theorem se_ops{w:World}{rb p0 p1:Nat}(hr:w.heap[rb]?=some (.cells #[.slice (some ⟨p0,0,none⟩) 1 1,.slice (some ⟨p1,0,none⟩) 1 1] 32))(h0:w.heap[p0]?=some (.cells #[.int .i64 2,.int .i64 0,.int .i64 7,.int .i64 0] 34))(h1:w.heap[p1]?=some (.cells #[.int .i64 2,.int .i64 0,.int .i64 9,.int .i64 0] 34)):
 OpsAt w (λb=>if b=p0\/b=p1 then w.heap[b]? else none) (some ⟨rb,0,none⟩) 2 2 (λi=>if i=0 then some ⟨p0,0,none⟩else some ⟨p1,0,none⟩) (λ_=>1) (λ_=>1) seOps:=by
 refine⟨rfl,by decide,λ_=>⟨rb,0,rfl,λi hi=>?_⟩,λi hi=>?_,λi hi=>?_,λi hi k' op hop=>?_⟩
 . rw[zq0 hr];obtain rfl |rfl:i=0\/i=1:=by omega
   . rfl
   . rfl
 . obtain rfl |rfl:i=0\/i=1:=by omega
   . exact⟨by decide,by decide,λh=>(by cases h)⟩
   . exact⟨by decide,by decide,λh=>(by cases h)⟩
 . obtain rfl |rfl:i=0\/i=1:=by omega
   . rfl
   . rfl
 . obtain rfl |rfl:i=0\/i=1:=by omega
   . refine⟨p0,0,_,_,_,rfl,by rw[if_pos (.inl rfl)];exact h0,λj hj=>?_⟩;obtain rfl:k'=0:=by have:=(List.getElem?_eq_some_iff.1 hop).1;simp[seOps]at this;omega
     simp[seOps]at hop;subst hop;obtain rfl |rfl |rfl |rfl:j=0\/j=1\/j=2\/j=3:=by omega
     all_goals rfl
   . refine⟨p1,0,_,_,_,rfl,by rw[if_pos (.inr rfl)];exact h1,λj hj=>?_⟩;obtain rfl:k'=0:=by have:=(List.getElem?_eq_some_iff.1 hop).1;simp[seOps]at this;omega
     simp[seOps]at hop;subst hop;obtain rfl |rfl |rfl |rfl:j=0\/j=1\/j=2\/j=3:=by omega
     all_goals rfl
theorem se_a0:(onceT 1 seOps 2 100 [0,1,1,0,0]).s.2 0=[⟨true,7,[]⟩]:=by kernel_rfl
theorem se_a1:(onceT 1 seOps 2 100 [0,1,1,0,0]).s.2 1=[⟨false,0,[]⟩]:=by kernel_rfl
theorem se_st:numL (onceT 1 seOps 2 100 [0,1,1,0,0]).s.1 1=[2,7,0]:=by kernel_rfl
theorem se_ord:(onceT 1 seOps 2 100 [0,1,1,0,0]).ord.length=5:=by kernel_rfl
theorem se_stk:decide (0<leftN (onceT 1 seOps 2 100 [0,1,1,0,0]).ov 2)=false:=by kernel_rfl
theorem zqe6{Fin:Machine->Trace->Prop}(hFin:Back Try.prog Fin){n:Nat}(hn:0<n){w:World}{c:Frame}{cs:List Frame}(hmain:∀w',Beyond w w'->J0 Try.prog Fin (n+2) (G (c.finish (.bool true)) cs) w'):
 J0 Try.prog Fin n (G (Frame.enter Try.prog 9 #[] .normal) (c::cs)) w:=by
 have hJ:=j0_JS hFin;have hC:=zq3i hFin;have e:Frame.enter Try.prog 9 #[] .normal=(bN 9).at (zql Try.f9 #[]) [.code ((Try.f9.body).getD .skip)]:=by kernel_rfl
 have ea:zql Try.f9 #[]=⟨#[undef,undef,undef,undef,undef,undef,undef,undef,undef,undef,undef,undef,undef,undef,undef,undef,undef,undef,undef,undef,undef,undef,undef,undef,undef,undef,undef,undef,undef,undef,undef,undef,undef,undef,undef,undef,undef,undef,undef,undef,undef,undef,undef,undef,undef,undef,undef,undef,undef,undef,undef,undef,undef,undef,undef,undef,undef,undef,undef,undef,undef,undef,undef,undef,undef,undef,undef,undef,undef,undef,undef,undef,undef,undef,undef,undef,undef,undef,undef,undef,undef,undef,undef,undef,undef,undef,undef,undef,undef,undef,undef,undef,undef,undef,undef,undef,undef,undef,undef,undef,undef,undef,undef,undef,undef,undef,undef,undef,undef],[]⟩:=by kernel_rfl
 rw[e,ea,se0];clear e ea;have hm:=Lib.hid hmain;clear hmain;refine hJ.ctl (s:=n) (λw=>stepG_seq) ?_;refine zq2j hJ hC zq1f (by kernel_rfl) (λt w'=>t=#[.bool false,undef,undef,undef,undef,undef,undef,undef,undef,undef,undef,undef,undef,undef,undef,undef,undef,undef,undef,undef,undef,undef,undef,undef,undef,undef,undef,undef,undef,undef,undef,undef,undef,undef,undef,undef,undef,undef,undef,undef,undef,undef,undef,undef,undef,undef,undef,undef,undef,undef,undef,undef,undef,undef,undef,undef,undef,undef,undef,undef,undef,undef,undef,undef,undef,undef,undef,undef,undef,undef,undef,undef,undef,undef,undef,undef,undef,undef,undef,undef,undef,undef,undef,undef,undef,undef,undef,undef,undef,undef,undef,undef,undef,undef,undef,undef,undef,undef,undef,undef,undef,undef,undef,undef,undef,undef,undef,undef,undef]/\∃τ d,w'=re w τ d) (λt w' τ d h=>⟨h.1,by obtain⟨τ',d',rfl⟩:=h.2;exact⟨τ,d,by rw[re_re]⟩⟩) (by decide) (λτ d=>?_) ?_
 . obtain⟨u0,hu0⟩:∃c,headC (seT 0)=c:=⟨_,rfl⟩;have eu0:=hu0;rw[hu0];simp only[seT,headC,tailN,Try.f9,al_od]at eu0;subst eu0;clear hu0;go_wp2;exact⟨rfl,rfl,τ,d,rfl⟩
 rintro t w' ⟨rfl,τ,d,rfl⟩;refine hJ.re' n _ _ τ d ?_;refine hJ.ctl (s:=n) (λw=>stepG_seq) ?_;obtain⟨u0,hu0⟩:∃c,headC (seT 1)=c:=⟨_,rfl⟩;have eu0:=hu0;rw[hu0];simp only[seT,headC,tailN,Try.f9,al_od]at eu0;subst eu0;clear hu0;refine hJ.ctl (s:=n) (λw=>stepG_region) ?_;refine zqr (s:=n) (by decide) hJ (zqp _) false (.inr rfl) 0 6 3 rfl rfl rfl (by rfl) ?_;intro τ d;simp only[List.drop_zero,List.take_succ_cons,List.take_zero];have HB0:=Lib.hid (Beyond.re w τ d);generalize re w τ d=v0 at HB0 |-;obtain⟨H,hH⟩:∃H,v0.heap.size=H:=⟨_,rfl⟩;have HH:=Lib.hid hH;go_wp2;simp only[zqe];have HW:RowKit.Hid (Beyond v0 (((((v0.alloc (.cells #[.int .i64 2,.int .i64 0,.int .i64 7,.int .i64 0] 34)).alloc (.cells #[.int .i64 2,.int .i64 0,.int .i64 9,.int .i64 0] 34)).alloc (.cells #[.slice (some ⟨H,0,none⟩) 1 1,.slice (some ⟨H+1,0,none⟩) 1 1] 32)).alloc (.cells #[.int .i64 0,.int .i64 1,.int .i64 1,.int .i64 0,.int .i64 0] 3)))/\(((((v0.alloc (.cells #[.int .i64 2,.int .i64 0,.int .i64 7,.int .i64 0] 34)).alloc (.cells #[.int .i64 2,.int .i64 0,.int .i64 9,.int .i64 0] 34)).alloc (.cells #[.slice (some ⟨H,0,none⟩) 1 1,.slice (some ⟨H+1,0,none⟩) 1 1] 32)).alloc (.cells #[.int .i64 0,.int .i64 1,.int .i64 1,.int .i64 0,.int .i64 0] 3))).heap[H]?=some (.cells #[.int .i64 2,.int .i64 0,.int .i64 7,.int .i64 0] 34)/\(((((v0.alloc (.cells #[.int .i64 2,.int .i64 0,.int .i64 7,.int .i64 0] 34)).alloc (.cells #[.int .i64 2,.int .i64 0,.int .i64 9,.int .i64 0] 34)).alloc (.cells #[.slice (some ⟨H,0,none⟩) 1 1,.slice (some ⟨H+1,0,none⟩) 1 1] 32)).alloc (.cells #[.int .i64 0,.int .i64 1,.int .i64 1,.int .i64 0,.int .i64 0] 3))).heap[H+1]?=some (.cells #[.int .i64 2,.int .i64 0,.int .i64 9,.int .i64 0] 34)/\(((((v0.alloc (.cells #[.int .i64 2,.int .i64 0,.int .i64 7,.int .i64 0] 34)).alloc (.cells #[.int .i64 2,.int .i64 0,.int .i64 9,.int .i64 0] 34)).alloc (.cells #[.slice (some ⟨H,0,none⟩) 1 1,.slice (some ⟨H+1,0,none⟩) 1 1] 32)).alloc (.cells #[.int .i64 0,.int .i64 1,.int .i64 1,.int .i64 0,.int .i64 0] 3))).heap[H+1+1]?=some (.cells #[.slice (some ⟨H,0,none⟩) 1 1,.slice (some ⟨H+1,0,none⟩) 1 1] 32)/\(((((v0.alloc (.cells #[.int .i64 2,.int .i64 0,.int .i64 7,.int .i64 0] 34)).alloc (.cells #[.int .i64 2,.int .i64 0,.int .i64 9,.int .i64 0] 34)).alloc (.cells #[.slice (some ⟨H,0,none⟩) 1 1,.slice (some ⟨H+1,0,none⟩) 1 1] 32)).alloc (.cells #[.int .i64 0,.int .i64 1,.int .i64 1,.int .i64 0,.int .i64 0] 3))).heap[H+1+1+1]?=some (.cells #[.int .i64 0,.int .i64 1,.int .i64 1,.int .i64 0,.int .i64 0] 3)):=by
  refine Lib.hid ⟨(((Beyond.alloc _ _).trans (Beyond.alloc _ _)).trans (Beyond.alloc _ _)).trans (Beyond.alloc _ _),?_,?_,?_,?_⟩
  . rw[<-hH];exact zqi (zqi (zqi (zq12 _ _)))
  . refine zqi (zqi ?_);rw[zqa,if_pos (by rw[zqc,hH])]
  . refine zqi ?_;rw[zqa,if_pos (by simp only[zqc,hH])]
  . rw[zqa,if_pos (by simp only[zqc,hH])]
 generalize (((((v0.alloc (.cells #[.int .i64 2,.int .i64 0,.int .i64 7,.int .i64 0] 34)).alloc (.cells #[.int .i64 2,.int .i64 0,.int .i64 9,.int .i64 0] 34)).alloc (.cells #[.slice (some ⟨H,0,none⟩) 1 1,.slice (some ⟨H+1,0,none⟩) 1 1] 32)).alloc (.cells #[.int .i64 0,.int .i64 1,.int .i64 1,.int .i64 0,.int .i64 0] 3)))=WA at HW |-;clear hH;refine zq1b (by decide) hJ (s:=n) rfl rfl (f:=11) (args:=#[.int .i64 1,.slice (some ⟨H+1+1,0,none⟩) 2 2,.slice (some ⟨H+1+1+1,0,none⟩) 5 5,.int .i64 100]) (λτ d=>?_) (λτ d=>?_) ?_
 . simp[go_sem,execOp,Act.eval,resolve,Deferred.ofValue,invoke,callFunc,Try.func11,Try.f11]
 . intro e he;simp[go_sem,execOp,Act.eval,resolve,Deferred.ofValue,invoke,callFunc,Try.func11,Try.f11,Sem.runT_eq]at he
 refine zq7s hFin (n:=n) hn (RP:=λb=>if b=H\/b=H+1 then WA.heap[b]? else none) (sched:=[0,1,1,0,0]) (ops:=seOps) (N:=2) (λb o hb=>?_) (se_ops HW.out.2.2.2.1 HW.out.2.1 HW.out.2.2.1) (by decide) (λ_=>⟨H+1+1+1,0,rfl,λj x hj=>?_⟩) ?_
 . split at hb
   . exact hb
   . cases hb
 . rw[zq0 HW.out.2.2.2.2,Nat.zero_add];have hlj:=(List.getElem?_eq_some_iff.1 hj).1;simp only[List.length_cons,List.length_nil]at hlj;obtain rfl |rfl |rfl |rfl |rfl:j=0\/j=1\/j=2\/j=3\/j=4:=by omega
   all_goals(simp at hj;subst hj;rfl)
 rw[show onceN 1=1 by rfl];intro ab ov sv am wp hR;rw[se_stk];rw[Frame.finish_at]
 walk_nrm
 have hq1:=zq73 hR.orow;have hq2:=zq4b hR.srow;rw[se_st]at hq2;obtain⟨op,oc,rfl,-⟩:=hq1;obtain⟨sp,sc,rfl,hsv⟩:=hq2;obtain⟨sb,so,rfl,hsc⟩:=hsv (by decide);have s0:=hsc 0 (by decide);have s1:=hsc 1 (by decide);have ha0:=zq3y hR.ans (i:=0) (by decide);have ha1:=zq3y hR.ans (i:=1) (by decide);rw[hR.ast,se_a0]at ha0;rw[hR.ast,se_a1]at ha1;obtain⟨a1,pa,ca,a2,a3⟩:=ha0;obtain⟨b1,pb,cb,b2,b3⟩:=ha1;obtain⟨ga,oa,rfl,a4⟩:=a3 (by simp);obtain⟨gb,ob',rfl,b4⟩:=b3 (by simp);obtain⟨a5,a6,_⟩:=a4 0 _ rfl;obtain⟨b5,b6,_⟩:=b4 0 _ rfl;rw[a2]at a1;rw[b2]at b1;simp only[List.length_map,se_ord,List.length_cons,List.length_nil,Nat.zero_add,Nat.zero_mul,Nat.add_zero,List.getD_cons_zero,List.getD_cons_succ]at a1 b1 a5 a6 b5 b6 s0 s1 |-;have hbw:Beyond w wp:=(HB0.out.trans HW.out.1).trans ⟨hR.size,hR.old⟩;have HF:=Lib.hid (And.intro a1 (And.intro a5 (And.intro a6 (And.intro b1 (And.intro b5 (And.intro b6 (And.intro s0 s1)))))));have HBW:=Lib.hid hbw;clear hR a1 a2 a3 a4 a5 a6 b1 b2 b3 b4 b5 b6 s0 s1 hsc hsv HW HB0 hbw;refine zqr (s:=n+2) (by decide) hJ (zqp _) false (.inr rfl) 7 2 0 rfl rfl rfl (by rfl) ?_;intro τ d;simp only[List.drop_succ_cons,List.drop_zero,List.take_succ_cons,List.take_zero];have HF2:RowKit.Hid ((re wp τ d).cell? ⟨ab,0,none⟩=some (.slice (some ⟨ga,oa,none⟩) 1 ca)/\(re wp τ d).cell? ⟨ga,oa,none⟩=some (.bool true)/\(re wp τ d).cell? ⟨ga,oa+1,none⟩=some (.int .i64 7)/\(re wp τ d).cell? ⟨ab,1,none⟩=some (.slice (some ⟨gb,ob',none⟩) 1 cb)/\(re wp τ d).cell? ⟨gb,ob',none⟩=some (.bool false)/\(re wp τ d).cell? ⟨gb,ob'+1,none⟩=some (.int .i64 0)/\(re wp τ d).cell? ⟨sb,so,none⟩=some (.int .i64 2)/\(re wp τ d).cell? ⟨sb,so+1,none⟩=some (.int .i64 7)):=Lib.hid HF.out;have HBW2:=Lib.hid (HBW.out.trans (Beyond.re wp τ d));generalize re wp τ d=x0 at HF2 HBW2 |-;clear HF HBW;go_wp2;simp only[zqe];refine hJ.ctl (s:=n+2) (λw=>stepG_region_end) ?_;have hT:=zq12 x0 (.cells #[.slice (some ⟨ab,0,none⟩) 2 2,.slice op 5 oc,.slice (some ⟨sb,so,none⟩) 3 sc,.bool false] 29);have hbx:Beyond x0 (x0.alloc (.cells #[.slice (some ⟨ab,0,none⟩) 2 2,.slice op 5 oc,.slice (some ⟨sb,so,none⟩) 3 sc,.bool false] 29)):=Beyond.alloc _ _;generalize (x0.alloc (.cells #[.slice (some ⟨ab,0,none⟩) 2 2,.slice op 5 oc,.slice (some ⟨sb,so,none⟩) 3 sc,.bool false] 29))=y0 at hT hbx |-;obtain⟨T,hTT⟩:∃T,x0.heap.size=T:=⟨_,rfl⟩;rw[hTT]at hT |-;clear hTT;have HY:=Lib.hid (HBW2.out.trans hbx);obtain⟨a1,a5,a6,b1,b5,b6,s0,s1⟩:=HF2.out;replace a1:=hbx.cell a1;replace a5:=hbx.cell a5;replace a6:=hbx.cell a6;replace b1:=hbx.cell b1;replace b5:=hbx.cell b5;replace b6:=hbx.cell b6;replace s0:=hbx.cell s0;replace s1:=hbx.cell s1;have t0:=(zq0 (off:=0) hT).trans rfl;have t1:=(zq0 (off:=1) hT).trans rfl;have t2:=(zq0 (off:=2) hT).trans rfl;have t3:=(zq0 (off:=3) hT).trans rfl;have FF:=Lib.hid (And.intro a1 (And.intro a5 (And.intro a6 (And.intro b1 (And.intro b5 (And.intro b6 (And.intro s0 (And.intro s1 (And.intro t0 (And.intro t1 (And.intro t2 t3)))))))))));clear hT hbx HF2 HBW2 a1 a5 a6 b1 b5 b6 s0 s1 t0 t1 t2 t3;refine zq4y hJ hC zq1f (by kernel_rfl) (λv w'=>v=.bool true/\Beyond y0 w') (λv w' τ d h=>⟨h.1,h.2.trans (Beyond.re _ _ _)⟩) rfl Try.func9 (λτ d=>?_) ?_
 . obtain⟨u0,hu0⟩:∃c,seT 2=c:=⟨_,rfl⟩;have eu0:=hu0;rw[hu0];simp only[seT,headC,tailN,Try.f9,al_od]at eu0;subst eu0;clear hu0 hm;obtain⟨a1,a5,a6,b1,b5,b6,s0,s1,t0,t1,t2,t3⟩:=FF.out;clear FF;have hcl:∀a,(re y0 τ d).cell? a=y0.cell? a:=λa=>rfl;rw[<-hcl]at a1 a5 a6 b1 b5 b6 s0 s1 t0 t1 t2 t3;clear hcl;have HR:RowKit.Hid (Beyond y0 (re y0 τ d)):=Lib.hid (Beyond.re _ _ _);generalize re y0 τ d=z0 at HR a1 a5 a6 b1 b5 b6 s0 s1 t0 t1 t2 t3 |-;have a1x:∀p q r:Obj,(((z0.alloc p).alloc q).alloc r).cell? ⟨ab,0,none⟩=some (.slice (some ⟨ga,oa,none⟩) 1 ca):=λp q r=>(((Beyond.alloc z0 p).trans (Beyond.alloc _ q)).trans (Beyond.alloc _ r)).cell a1;have a5x:∀p q r:Obj,(((z0.alloc p).alloc q).alloc r).cell? ⟨ga,oa,none⟩=some (.bool true):=λp q r=>(((Beyond.alloc z0 p).trans (Beyond.alloc _ q)).trans (Beyond.alloc _ r)).cell a5;have a6x:∀p q r:Obj,(((z0.alloc p).alloc q).alloc r).cell? ⟨ga,oa+1,none⟩=some (.int .i64 7):=λp q r=>(((Beyond.alloc z0 p).trans (Beyond.alloc _ q)).trans (Beyond.alloc _ r)).cell a6;have b1x:∀p q r:Obj,(((z0.alloc p).alloc q).alloc r).cell? ⟨ab,1,none⟩=some (.slice (some ⟨gb,ob',none⟩) 1 cb):=λp q r=>(((Beyond.alloc z0 p).trans (Beyond.alloc _ q)).trans (Beyond.alloc _ r)).cell b1;have b5x:∀p q r:Obj,(((z0.alloc p).alloc q).alloc r).cell? ⟨gb,ob',none⟩=some (.bool false):=λp q r=>(((Beyond.alloc z0 p).trans (Beyond.alloc _ q)).trans (Beyond.alloc _ r)).cell b5;have b6x:∀p q r:Obj,(((z0.alloc p).alloc q).alloc r).cell? ⟨gb,ob'+1,none⟩=some (.int .i64 0):=λp q r=>(((Beyond.alloc z0 p).trans (Beyond.alloc _ q)).trans (Beyond.alloc _ r)).cell b6;have s0x:∀p q r:Obj,(((z0.alloc p).alloc q).alloc r).cell? ⟨sb,so,none⟩=some (.int .i64 2):=λp q r=>(((Beyond.alloc z0 p).trans (Beyond.alloc _ q)).trans (Beyond.alloc _ r)).cell s0;have s1x:∀p q r:Obj,(((z0.alloc p).alloc q).alloc r).cell? ⟨sb,so+1,none⟩=some (.int .i64 7):=λp q r=>(((Beyond.alloc z0 p).trans (Beyond.alloc _ q)).trans (Beyond.alloc _ r)).cell s1;have t0x:∀p q r:Obj,(((z0.alloc p).alloc q).alloc r).cell? ⟨T,0,none⟩=some (.slice (some ⟨ab,0,none⟩) 2 2):=λp q r=>(((Beyond.alloc z0 p).trans (Beyond.alloc _ q)).trans (Beyond.alloc _ r)).cell t0;have t1x:∀p q r:Obj,(((z0.alloc p).alloc q).alloc r).cell? ⟨T,1,none⟩=some (.slice op 5 oc):=λp q r=>(((Beyond.alloc z0 p).trans (Beyond.alloc _ q)).trans (Beyond.alloc _ r)).cell t1;have t2x:∀p q r:Obj,(((z0.alloc p).alloc q).alloc r).cell? ⟨T,2,none⟩=some (.slice (some ⟨sb,so,none⟩) 3 sc):=λp q r=>(((Beyond.alloc z0 p).trans (Beyond.alloc _ q)).trans (Beyond.alloc _ r)).cell t2;have t3x:∀p q r:Obj,(((z0.alloc p).alloc q).alloc r).cell? ⟨T,3,none⟩=some (.bool false):=λp q r=>(((Beyond.alloc z0 p).trans (Beyond.alloc _ q)).trans (Beyond.alloc _ r)).cell t3
   go_wp2_with (fail)
   refine Calls.mono (zq7v _) ?_;rintro e w' ⟨rfl,rfl⟩
   go_wp2_with (fail)
   refine Calls.mono (zqcr _) ?_;rintro e w' ⟨rfl,o2,rfl⟩
   go_wp2_with (fail)
   refine Calls.mono (zqcs _) ?_;rintro e w' ⟨rfl,o3,rfl⟩;go_wp2;go_ret;exact⟨_,rfl,rfl,HR.out.trans (((Beyond.alloc _ _).trans (Beyond.alloc _ _)).trans (Beyond.alloc _ _))⟩
 . rintro v w' ⟨rfl,h⟩;exact hm.out _ (HY.out.trans h)
end Go.Proofs
namespace Go.Car
open Go
section
variable {S γ α β:Type}
def Tree.Ok (I:S->(Nat->γ)->Prop)(i:Nat)(Q:α->γ->Prop):Tree S α->γ->Prop
 |.ret a,x=>Q a x
 |.out,_=>True
 |.step u k,x=>∀s g,I s g->g i=x->∃x',I (u s) (upd' g i x')/\(k s).Ok I i Q x'
def Proc.Ok (I:S->(Nat->γ)->Prop)(i:Nat)(Q:α->γ->Prop)(p:Proc S α)(x:γ):Prop:=∀s g,I s g->g i=x->∃x',I (p s).1 (upd' g i x')/\(p s).2.Ok I i Q x'
variable {I:S->(Nat->γ)->Prop} {i:Nat} {Q:α->γ->Prop} {R:β->γ->Prop}
theorem zq5w(g:Nat->γ)(i:Nat):upd' g i (g i)=g:=funext λj=>by
 by_cases h:j=i
 . subst h;simp
 . rw[zqg _ _ h]
theorem zq5x(g:Nat->γ)(i:Nat)(x y:γ):upd' (upd' g i x) i y=upd' g i y:=funext λj=>by
 by_cases h:j=i
 . subst h;simp
 . rw[zqg _ _ h,zqg _ _ h,zqg _ _ h]
theorem zq2z{g:Nat->γ}{x:γ}(h:g i=x):upd' g i x=g:=by rw[<-h];exact zq5w g i
theorem Tree.Ok.mono {Q':α->γ->Prop}(hQ:∀a x,Q a x->Q' a x):∀{t:Tree S α}{x:γ},t.Ok I i Q x->t.Ok I i Q' x:=by
 intro t
 induction t with
 |ret a=>exact λh=>hQ _ _ h
 |out=>exact λ_=>trivial
 |step u k ih=>exact λh s g hs hg=>by obtain⟨x',h1,h2⟩:=h s g hs hg;exact⟨x',h1,ih s h2⟩
theorem Proc.Ok.mono {Q':α->γ->Prop}{p:Proc S α}{x:γ}(h:p.Ok I i Q x)(hQ:∀a x,Q a x->Q' a x):p.Ok I i Q' x:=λs g hs hg=>by
 obtain⟨x',h1,h2⟩:=h s g hs hg;exact⟨x',h1,h2.mono hQ⟩
theorem Proc.Ok.ret {a:α}{x:γ}(h:Q a x):(Proc.ret a).Ok I i Q x:=λs g hs hg=>⟨x,by rw[zq2z hg];exact hs,h⟩
theorem Proc.Ok.act {f:S->S×α}{x:γ}(h:∀s g,I s g->g i=x->∃x',I (f s).1 (upd' g i x')/\Q (f s).2 x'):(Proc.act f).Ok I i Q x:=h
theorem Proc.Ok.then {p:Proc S α}{x:γ}(h:p.Ok I i Q x):p.then.Ok I i Q x:=λs g hs hg=>⟨x,by rw[zq2z hg];exact hs,h⟩
theorem Tree.Ok.bind {K:α->Proc S β}(hK:∀a x,Q a x->(K a).Ok I i R x):∀{t:Tree S α}{x:γ},t.Ok I i Q x->∀s g,I s g->g i=x->∃x',I (t.bind K s).1 (upd' g i x')/\(t.bind K s).2.Ok I i R x':=by
 intro t
 induction t with
 |ret a=>exact λh s g hs hg=>hK _ _ h s g hs hg
 |out=>exact λ_ s g hs hg=>⟨g i,by rw[zq5w];exact hs,trivial⟩
 |step u k ih=>
  intro x h s g hs hg;refine⟨x,by rw[zq2z hg];exact hs,λs' g' hs' hg'=>?_⟩;obtain⟨x1,h1,h2⟩:=h s' g' hs' hg';obtain⟨x2,h3,h4⟩:=ih s' h2 (u s') (upd' g' i x1) h1 (upd'_same _ _ _);rw[zq5x]at h3;exact⟨x2,h3,h4⟩
theorem Proc.Ok.bind {p:Proc S α}{K:α->Proc S β}{x:γ}(h:p.Ok I i Q x)(hK:∀a x,Q a x->(K a).Ok I i R x):(p.bind K).Ok I i R x:=λs g hs hg=>by
 obtain⟨x1,h1,h2⟩:=h s g hs hg;obtain⟨x2,h3,h4⟩:=h2.bind hK (p s).1 (upd' g i x1) h1 (upd'_same _ _ _);rw[zq5x]at h3;exact⟨x2,h3,h4⟩
end
section
variable {S γ:Type} {I:S->(Nat->γ)->Prop} {Q:Nat->γ->Prop} {N most:Nat} {pr:Nat->Proc S Unit} {g0:Nat->γ}
structure GOk(I:S->(Nat->γ)->Prop)(Q:Nat->γ->Prop)(g0:Nat->γ)(n:Nat)(a:TSt S)(g:Nat->γ):Prop where
 inv:I a.s g
 ok:∀i,i<n->(a.t i).Ok I i (λ_=>Q i) (g i)/\a.ov i=(a.t i).isRet
 un:∀i,n<=i->g i=g0 i/\a.ov i=false
theorem GOk.turn {n i:Nat}{a:TSt S}{g:Nat->γ}(h:GOk I Q g0 n a g)(hi:i<=n){r:S×Tree S Unit}{x:γ}{ord:List Nat}(hI:I r.1 (upd' g i x))(ht:r.2.Ok I i (λ_=>Q i) x)(ho:a.ov i=false):GOk I Q g0 (max n (i+1)) (turnT i r a ord) (upd' g i x):=by
 have hov:∀j,(turnT i r a ord).ov j=if j=i then r.2.isRet else a.ov j:=λj=>by
  unfold turnT;cases e:r.2.isRet with
  |true=>simp
  |false=>
   by_cases hj:j=i
   . simp[hj,ho]
   . simp[hj]
 have htt:∀j,(turnT i r a ord).t j=upd' a.t i r.2 j:=λj=>rfl;refine⟨hI,λj hj=>?_,λj hj=>?_⟩
 . rw[hov,htt]
   by_cases e:j=i
   . subst e;rw[upd'_same,upd'_same,if_pos rfl];exact⟨ht,rfl⟩
   . rw[zqg _ _ e,zqg _ _ e,if_neg e];exact h.ok j (by omega)
 . have e:j≠i:=by omega
   rw[hov,zqg _ _ e,if_neg e];exact h.un j (by omega)
theorem begin_ok{s0:S}(h0:I s0 g0)(hp:∀i,i<N->(pr i).Ok I i (λ_=>Q i) (g0 i)):∀n,n<=N->∃g,GOk I Q g0 n (zq1k pr s0 n) g:=by
 intro n
 induction n with
 |zero=>exact λ_=>⟨g0,h0,λi hi=>absurd hi (Nat.not_lt_zero _),λi _=>⟨rfl,rfl⟩⟩
 |succ n ih=>
  intro hn;obtain⟨g,hg⟩:=ih (by omega);obtain⟨u1,u2⟩:=hg.un n (Nat.le_refl _);obtain⟨x,h1,h2⟩:=hp n (by omega) _ g hg.inv u1;have:=hg.turn (i:=n) (Nat.le_refl _) (ord:=(zq1k pr s0 n).ord) h1 h2 u2;rw[show max n (n+1)=n+1 by omega]at this;exact⟨_,this⟩
theorem step1_ok{x:Int}{a:TSt S}{g:Nat->γ}(h:GOk I Q g0 N a g)(hm:a.ord.length<=most):(∃g,GOk I Q g0 N (zq2w N most x a) g)/\(zq2w N most x a).ord.length<=most:=by
 unfold zq2w;split
 . exact⟨⟨g,h⟩,hm⟩
 . rename_i hn;have hx:x.toNat<N:=by omega
   have ho:a.ov x.toNat=false:=by cases e:a.ov x.toNat with|true=>exact absurd (.inr (.inr (.inl e))) hn|false=>rfl
   refine⟨?_,by show(a.ord++[x.toNat]).length<=most;rw[List.length_append];simp only[List.length_singleton];omega⟩;obtain⟨h1,h2⟩:=h.ok _ hx;have hgo:∃y,I (goT (a.t x.toNat) a.s).1 (upd' g x.toNat y)/\(goT (a.t x.toNat) a.s).2.Ok I x.toNat (λ_=>Q x.toNat) y:=by
    cases e:a.t x.toNat with
    |ret b=>rw[e,ho]at h2;cases h2
    |out=>exact⟨g x.toNat,by rw[zq5w];exact h.inv,trivial⟩
    |step u k=>rw[e]at h1;exact h1 a.s g h.inv rfl
   obtain⟨y,k1,k2⟩:=hgo;have:=h.turn (i:=x.toNat) (by omega) (ord:=a.ord++[x.toNat]) k1 k2 ho;rw[show max N (x.toNat+1)=N by omega]at this;exact⟨_,this⟩
theorem zq91:∀{l:List Int}{a:TSt S}{g:Nat->γ},GOk I Q g0 N a g->a.ord.length<=most->(∃g,GOk I Q g0 N (zq3s N most l a) g)/\(zq3s N most l a).ord.length<=most:=by
 intro l
 induction l with
 |nil=>exact λh hm=>⟨⟨_,h⟩,hm⟩
 |cons x l ih=>
  intro a g h hm;obtain⟨⟨g',h'⟩,hm'⟩:=step1_ok (x:=x) h hm;exact ih h' hm'
theorem zqdt:∀(f:Nat){a:TSt S}{g:Nat->γ},GOk I Q g0 N a g->a.ord.length<=most->(∃g,GOk I Q g0 N (zq29 N most f a) g)/\(zq29 N most f a).ord.length<=most:=by
 intro f
 induction f with
 |zero=>exact λh hm=>⟨⟨_,h⟩,hm⟩
 |succ f ih=>
  intro a g h hm;unfold zq29;split
  . obtain⟨⟨g',h'⟩,hm'⟩:=zq91 (l:=upto N) h hm;exact ih h' hm'
  . exact⟨⟨g,h⟩,hm⟩
theorem zqau{s0:S}:∀n,(zq1k pr s0 n).ord=[]:=λn=>by
 induction n with
 |zero=>rfl
 |succ n ih=>exact ih
theorem play_ok{s0:S}{l:List Int}(h0:I s0 g0)(hp:∀i,i<N->(pr i).Ok I i (λ_=>Q i) (g0 i)):(∃g,GOk I Q g0 N (playT pr N most l s0) g)/\(playT pr N most l s0).ord.length<=most:=by
 obtain⟨g,h⟩:=begin_ok (Q:=Q) h0 hp N (Nat.le_refl _);obtain⟨⟨g',h'⟩,hm'⟩:=zq91 (most:=most) (l:=l) h (by rw[zqau];exact Nat.zero_le _);exact zqdt _ h' hm'
end
end Go.Car
namespace Go.Proofs
open Go Go.Car
structure GO where
 n:Nat
 p:Option Ans
 b:Nat
 k:Option (Nat×Int×Option Int)
abbrev SO:=Nums×(Nat->List Ans)
def answ(s:SO)(g:Nat->GO)(i:Nat):List Ans:=s.2 i++(g i).p.toList
def winO(op:OpX)(a:Ans)(c:Nat):Prop:=op.a.toNat=c/\op.k=2/\a.ok=true
structure AnsO(C:Nums)(op:OpX)(a:Ans):Prop where
 told:(a.ok=true\/(op.k=2/\a.n≠0))->C op.a.toNat 0=2/\a.n=C op.a.toNat 1
 four:op.k=4->a.ok=false->a.n= -6\/a.n= -4
 three:op.k=3->a.ok=false->a.n= -4
def sumB(g:Nat->GO):Nat->Nat
 |0=>0
 |n+1=>sumB g n+(g n).b
theorem zq94{g:Nat->GO}{i:Nat}{x:GO}:∀{n:Nat},n<=i->sumB (upd' g i x) n=sumB g n:=by
 intro n
 induction n with
 |zero=>exact λ_=>rfl
 |succ n ih=>intro h;rw[sumB,sumB,ih (by omega),zqg _ _ (by omega)]
theorem zq93{g:Nat->GO}{i:Nat}{x:GO}:∀{n:Nat},i<n->sumB (upd' g i x) n+(g i).b=sumB g n+x.b:=by
 intro n
 induction n with
 |zero=>exact λh=>absurd h (Nat.not_lt_zero _)
 |succ n ih=>
  intro h;rw[sumB,sumB]
  by_cases e:i=n
  . subst e;rw[zq94 (Nat.le_refl _),upd'_same];omega
  . have:=ih (by omega);rw[zqg _ _ (λh=>e h.symm)];omega
theorem zq5n{g:Nat->GO}{i:Nat}{x:GO}(h:x.b=(g i).b)(n:Nat):sumB (upd' g i x) n=sumB g n:=by
 by_cases hi:i<n
 . have:=zq93 (g:=g) (x:=x) hi;omega
 . exact zq94 (by omega)
structure InvO(ops:Nat->List OpX)(N B:Nat)(s:SO)(g:Nat->GO):Prop where
 st:∀c,s.1 c 0=0\/s.1 c 0=1\/s.1 c 0=2
 ct:∀c,0<=s.1 c 2/\s.1 c 2+(sumB g N:Nat)<=B
 kq:∀i c q o,(g i).k=some (c,q,o)->q=1\/q=2
 kn:∀i c q o,(g i).k=some (c,q,o)->s.1 c 0=q/\∀v,o=some v->s.1 c 1=v
 ex:∀i j c o o',(g i).k=some (c,1,o)->(g j).k=some (c,1,o')->i=j
 len:∀i,(answ s g i).length=(g i).n/\(g i).n<=(ops i).length
 an:∀(i m:Nat)a op,(answ s g i)[m]?=some a->(ops i)[m]?=some op->AnsO s.1 op a
 un:∀(c i m:Nat)a op(j l:Nat)b op',(answ s g i)[m]?=some a->(ops i)[m]?=some op->winO op a c->(answ s g j)[l]?=some b->(ops j)[l]?=some op'->winO op' b c->i=j/\m=l
section
variable {ops:Nat->List OpX} {N B i:Nat} {s:SO} {g:Nat->GO} {x:GO}
theorem zq6b{x':GO}(A:Nat->List Ans)(C C':Nums)(hp:x'.p=(g i).p)(j:Nat):answ (C',A) (upd' g i x') j=answ (C,A) g j:=by
 unfold answ
 by_cases e:j=i
 . subst e;rw[upd'_same,hp]
 . rw[zqg _ _ e]
theorem InvO.turn (h:InvO ops N B s g){C':Nums}{x':GO}(hp:x'.p=(g i).p)(hn:x'.n=(g i).n)(hst:∀c,C' c 0=0\/C' c 0=1\/C' c 0=2)(hct:∀c,0<=C' c 2/\C' c 2+(sumB (upd' g i x') N:Nat)<=B)
 (hm:∀c,s.1 c 0=2->C' c 0=2/\C' c 1=s.1 c 1) (ho:∀j c o,j≠i->(g j).k=some (c,1,o)->C' c 0=1/\C' c 1=s.1 c 1)
 (hk:∀c q o,x'.k=some (c,q,o)->(q=1\/q=2)/\C' c 0=q/\∀v,o=some v->C' c 1=v) (he:∀j c o o',j≠i->x'.k=some (c,1,o)->(g j).k≠some (c,1,o')):InvO ops N B (C',s.2) (upd' g i x'):=by
 have hA:=zq6b (i:=i) (g:=g) (x':=x') s.2 s.1 C' hp;have hst2:∀op a,AnsO s.1 op a->AnsO C' op a:=λop a ha=>⟨λht=>by
  obtain⟨h1,h2⟩:=ha.told ht;obtain⟨h3,h4⟩:=hm _ h1;exact⟨h3,by rw[h4];exact h2⟩,ha.four,ha.three⟩
 refine⟨hst,hct,λj c q o hj=>?_,λj c q o hj=>?_,λj l c o o' hj hl=>?_,λj=>?_,λj m a op h1 h2=>?_,λc j m a op l m' b op' h1 h2 h3 h4 h5 h6=>?_⟩
 . by_cases e:j=i
   . subst e;rw[upd'_same]at hj;exact(hk _ _ _ hj).1
   . rw[zqg _ _ e]at hj;exact h.kq _ _ _ _ hj
 . by_cases e:j=i
   . subst e;rw[upd'_same]at hj;exact(hk _ _ _ hj).2
   . rw[zqg _ _ e]at hj;obtain⟨h1,h2⟩:=h.kn _ _ _ _ hj;rcases h.kq _ _ _ _ hj with rfl |rfl
     . obtain⟨h3,h4⟩:=ho _ _ _ e hj;exact⟨h3,λv hv=>by show C' c 1=v;rw[h4];exact h2 v hv⟩
     . obtain⟨h3,h4⟩:=hm _ h1;exact⟨h3,λv hv=>by show C' c 1=v;rw[h4];exact h2 v hv⟩
 . by_cases e:j=i
   . by_cases e2:l=i
     . omega
     . subst e;rw[upd'_same]at hj;rw[zqg _ _ e2]at hl;exact absurd hl (he _ _ _ _ e2 hj)
   . by_cases e2:l=i
     . subst e2;rw[upd'_same]at hl;rw[zqg _ _ e]at hj;exact absurd hj (he _ _ _ _ e hl)
     . rw[zqg _ _ e]at hj;rw[zqg _ _ e2]at hl;exact h.ex _ _ _ _ _ hj hl
 . rw[hA];have:=h.len j
   by_cases e:j=i
   . subst e;rw[upd'_same,hn];exact this
   . rw[zqg _ _ e];exact this
 . rw[hA]at h1;exact hst2 _ _ (h.an _ _ _ _ h1 h2)
 . rw[hA]at h1 h4;exact h.un c _ _ _ _ _ _ _ _ h1 h2 h3 h4 h5 h6
theorem InvO.answer (h:InvO ops N B s g)(hx:g i=x)(hp:x.p=none){op:OpX}{a:Ans}(ho:(ops i)[x.n]?=some op)(ha:AnsO s.1 op a)(hw:∀c,winO op a c->∀(j m:Nat)b op',(answ s g j)[m]?=some b->(ops j)[m]?=some op'->¬winO op' b c):
 InvO ops N B s (upd' g i ⟨x.n+1,some a,x.b,none⟩):=by
 have hs:∀n,sumB (upd' g i ⟨x.n+1,some a,x.b,none⟩) n=sumB g n:=zq5n (by rw[hx]);have hA:∀j,j≠i->answ s (upd' g i ⟨x.n+1,some a,x.b,none⟩) j=answ s g j:=λj e=>by unfold answ;rw[zqg _ _ e]
 have hAi:answ s (upd' g i ⟨x.n+1,some a,x.b,none⟩) i=answ s g i++[a]:=by unfold answ;rw[upd'_same,hx,hp];simp
 have hl:=h.len i;rw[hx]at hl;have hxl:=(List.getElem?_eq_some_iff.1 ho).1;have cases':∀(j m:Nat)b,(answ s (upd' g i ⟨x.n+1,some a,x.b,none⟩) j)[m]?=some b->(answ s g j)[m]?=some b\/(j=i/\m=x.n/\b=a):=λj m b hj=>by
  by_cases e:j=i
  . subst e;rw[hAi]at hj
    by_cases hm:m<(answ s g j).length
    . rw[List.getElem?_append_left hm]at hj;exact .inl hj
    . rw[List.getElem?_append_right (by omega)]at hj;have h0:m - (answ s g j).length=0:=by
       have:=(List.getElem?_eq_some_iff.1 hj).1;simp only[List.length_singleton]at this;omega
      rw[h0]at hj;cases hj;exact .inr ⟨rfl,by omega,rfl⟩
  . rw[hA j e]at hj;exact .inl hj
 refine⟨h.st,λc=>by rw[hs];exact h.ct c,λj c q o hj=>?_,λj c q o hj=>?_,λj l c o o' hj hl=>?_,λj=>?_,λj m b op' h1 h2=>?_,λc j m b op1 l m' b' op2 h1 h2 h3 h4 h5 h6=>?_⟩
 . by_cases e:j=i
   . subst e;rw[upd'_same]at hj;cases hj
   . rw[zqg _ _ e]at hj;exact h.kq _ _ _ _ hj
 . by_cases e:j=i
   . subst e;rw[upd'_same]at hj;cases hj
   . rw[zqg _ _ e]at hj;exact h.kn _ _ _ _ hj
 . by_cases e:j=i
   . subst e;rw[upd'_same]at hj;cases hj
   . by_cases e2:l=i
     . subst e2;rw[upd'_same]at hl;cases hl
     . rw[zqg _ _ e]at hj;rw[zqg _ _ e2]at hl;exact h.ex _ _ _ _ _ hj hl
 . by_cases e:j=i
   . subst e;rw[hAi,upd'_same,List.length_append];simp only[List.length_singleton];omega
   . rw[hA j e,zqg _ _ e];exact h.len j
 . rcases cases' _ _ _ h1 with h1|⟨rfl,rfl,rfl⟩
   . exact h.an _ _ _ _ h1 h2
   . rw[ho]at h2;cases h2;exact ha
 . rcases cases' _ _ _ h1 with k1|⟨a1,a2,a3⟩<;>rcases cases' _ _ _ h4 with k4|⟨b1,b2,b3⟩
   . exact h.un c _ _ _ _ _ _ _ _ k1 h2 h3 k4 h5 h6
   . rw[b1,b2,ho]at h5;cases h5;rw[b3]at h6;exact absurd h3 (hw c h6 _ _ _ _ k1 h2)
   . rw[a1,a2,ho]at h2;cases h2;rw[a3]at h3;exact absurd h6 (hw c h3 _ _ _ _ k4 h5)
   . exact⟨by omega,by omega⟩
theorem InvO.push (h:InvO ops N B s g)(hx:g i=x){a:Ans}(hp:x.p=some a):InvO ops N B (s.1,upd' s.2 i (s.2 i++[a])) (upd' g i ⟨x.n,none,x.b,x.k⟩):=by
 have hs:∀n,sumB (upd' g i ⟨x.n,none,x.b,x.k⟩) n=sumB g n:=zq5n (by rw[hx]);have hA:∀j,answ (s.1,upd' s.2 i (s.2 i++[a])) (upd' g i ⟨x.n,none,x.b,x.k⟩) j=answ s g j:=λj=>by
  show upd' s.2 i (s.2 i++[a]) j++(upd' g i ⟨x.n,none,x.b,x.k⟩ j).p.toList=s.2 j++(g j).p.toList
  by_cases e:j=i
  . subst e;rw[upd'_same,upd'_same,hx,hp];simp
  . rw[zqg _ _ e,zqg _ _ e]
 have hk:∀j,(upd' g i ⟨x.n,none,x.b,x.k⟩ j).k=(g j).k:=λj=>by
  by_cases e:j=i
  . subst e;rw[upd'_same,hx]
  . rw[zqg _ _ e]
 have hn:∀j,(upd' g i ⟨x.n,none,x.b,x.k⟩ j).n=(g j).n:=λj=>by
  by_cases e:j=i
  . subst e;rw[upd'_same,hx]
  . rw[zqg _ _ e]
 refine⟨h.st,λc=>by rw[hs];exact h.ct c,λj c q o=>?_,λj c q o=>?_,λj l c o o'=>?_,λj=>?_,λj m b op'=>?_,λc j m b op1 l m' b' op2=>?_⟩
 . rw[hk];exact h.kq j c q o
 . rw[hk];exact h.kn j c q o
 . rw[hk,hk];exact h.ex j l c o o'
 . rw[hA,hn];exact h.len j
 . rw[hA];exact h.an j m b op'
 . rw[hA,hA];exact h.un c j m b op1 l m' b' op2
end
section
variable {ops:Nat->List OpX} {N B i:Nat} {x:GO}
theorem zq23{α:Type}{I:SO->(Nat->GO)->Prop}{f:Nums->Nums×α}{Q:α->GO->Prop}(h:∀s g,I s g->g i=x->∃x',I ((f s.1).1,s.2) (upd' g i x')/\Q (f s.1).2 x'):(Proc.tick.bind λ_=>onN f).Ok I i Q x:=by
 rw[Proc.tick_bind];exact Proc.Ok.then (Proc.Ok.act h)
abbrev GO.know (x:GO)(c:Nat)(q:Int)(o:Option Int):GO:=⟨x.n,x.p,x.b,some (c,q,o)⟩
abbrev GO.free (x:GO):GO:=⟨x.n,x.p,x.b,none⟩
theorem sum_k{g:Nat->GO}{s:SO}(h:InvO ops N B s g)(hx:g i=x){x':GO}(hb:x'.b=x.b)(c:Nat):0<=s.1 c 2/\s.1 c 2+(sumB (upd' g i x') N:Nat)<=B:=by
 rw[zq5n (by rw[hx];exact hb)];exact h.ct c
theorem InvO.sole {g:Nat->GO}{s:SO}(h:InvO ops N B s g){c:Nat}{o:Option Int}(hk:(g i).k=some (c,1,o)){j c':Nat}{o':Option Int}(hj:j≠i)(h2:(g j).k=some (c',1,o')):c'≠c:=λe=>by subst e;exact hj (h.ex _ _ _ _ _ h2 hk)
theorem getS_ok(c:Nat)(hk:x.k=none):(Proc.tick.bind λ_=>onN (getN c 0)).Ok (InvO ops N B) i (λv x'=>if v=2 then x'=x.know c 2 none else x'=x) x:=zq23 λs g h hx=>by
 by_cases e:s.1 c 0=2
 . refine⟨x.know c 2 none,h.turn (i:=i) (by rw[hx]) (by rw[hx]) h.st (sum_k h hx rfl) (λc hc=>⟨hc,rfl⟩) (λj c o hj hk=>⟨(h.kn _ _ _ _ hk).1,rfl⟩) (λc' q o hq=>?_) (λj c' o o' hj hq=>?_),?_⟩
   . simp only[al_oi,Prod.mk.injEq]at hq;obtain⟨rfl,rfl,rfl⟩:=hq;exact⟨.inr rfl,e,λv hv=>by cases hv⟩
   . simp only[al_oi,Prod.mk.injEq]at hq;omega
   . show if s.1 c 0=2 then _ else _
     rw[if_pos e]
 . refine⟨x,by rw[zq2z hx];exact h,?_⟩;show if s.1 c 0=2 then _ else _
   rw[if_neg e]
theorem getV_ok(c:Nat)(hk:x.k=some (c,2,none)):(Proc.tick.bind λ_=>onN (getN c 1)).Ok (InvO ops N B) i (λv x'=>x'=x.know c 2 (some v)) x:=zq23 λs g h hx=>by
 have h1:=(h.kn i c 2 none (by rw[hx];exact hk)).1;refine⟨x.know c 2 (some (s.1 c 1)),h.turn (i:=i) (by rw[hx]) (by rw[hx]) h.st (sum_k h hx rfl) (λc hc=>⟨hc,rfl⟩) (λj c o hj hk=>⟨(h.kn _ _ _ _ hk).1,rfl⟩) (λc' q o hq=>?_) (λj c' o o' hj hq=>?_),rfl⟩
 . simp only[al_oi,Prod.mk.injEq]at hq;obtain⟨rfl,rfl,rfl⟩:=hq;exact⟨.inr rfl,h1,λv hv=>by cases hv;rfl⟩
 . simp only[al_oi,Prod.mk.injEq]at hq;omega
theorem get_ok(c:Nat)(hk:x.k=none):(getP c).Ok (InvO ops N B) i (λv x'=>if v.2=true then x'=x.know c 2 (some v.1)else v=(0,false)/\x'=x) x:=by
 unfold getP;refine(getS_ok c hk).bind λv x' hv=>?_;split
 . rename_i e;rw[if_pos e]at hv;subst hv;exact(getV_ok c rfl).bind λw x' hw=>Proc.Ok.ret (by subst hw;rw[if_pos rfl])
 . rename_i e;rw[if_neg e]at hv;exact Proc.Ok.ret (by rw[if_neg (by decide)];exact⟨rfl,hv⟩)
theorem cas_ok(c:Nat)(hk:x.k=none):(Proc.tick.bind λ_=>onN (casN c 0 0 1)).Ok (InvO ops N B) i (λv x'=>if v=true then x'=x.know c 1 none else x'=x) x:=zq23 λs g h hx=>by
 unfold casN
 by_cases e:s.1 c 0=0
 . rw[if_pos e];have hne:∀j c' q o,(g j).k=some (c',q,o)->c'≠c:=λj c' q o hj e2=>by
    subst e2;have h1:=(h.kn _ _ _ _ hj).1;have h2:=h.kq _ _ _ _ hj;omega
   refine⟨x.know c 1 none,h.turn (i:=i) (C':=upd2 s.1 c 0 1) (by rw[hx]) (by rw[hx]) (λc'=>?_) (λc'=>?_) (λc' hc=>?_) (λj c' o hj hk=>?_) (λc' q o hq=>?_) (λj c' o o' hj hq hq2=>?_),by simp⟩
   . rw[zqy];split
     . exact .inr (.inl rfl)
     . exact h.st c'
   . rw[zqy,if_neg (by omega)];exact sum_k (x':=x.know c 1 none) h hx rfl c'
   . have:c'≠c:=λe2=>by subst e2;omega
     rw[zqy,zqy,if_neg (λe2=>this e2.1),if_neg (λe2=>this e2.1)];exact⟨hc,rfl⟩
   . have:=hne _ _ _ _ hk;rw[zqy,zqy,if_neg (λe2=>this e2.1),if_neg (λe2=>this e2.1)];exact⟨(h.kn _ _ _ _ hk).1,rfl⟩
   . simp only[al_oi,Prod.mk.injEq]at hq;obtain⟨rfl,rfl,rfl⟩:=hq;exact⟨.inl rfl,zq4u _ _ _ _,λv hv=>by cases hv⟩
   . simp only[al_oi,Prod.mk.injEq]at hq;exact hne _ _ _ _ hq2 hq.1.symm
 . rw[if_neg e];exact⟨x,by rw[zq2z hx];exact h,by simp⟩
theorem zq7x{c:Nat}{o:Option Int}(v:Int)(hk:x.k=some (c,1,o)):(Proc.tick.bind λ_=>onN (putN c 1 v)).Ok (InvO ops N B) i (λ_ x'=>x'=x.know c 1 (some v)) x:=zq23 λs g h hx=>by
 have hk':(g i).k=some (c,1,o):=by rw[hx];exact hk
 have h1:=(h.kn _ _ _ _ hk').1;refine⟨x.know c 1 (some v),h.turn (i:=i) (C':=upd2 s.1 c 1 v) (by rw[hx]) (by rw[hx]) (λc'=>?_) (λc'=>?_) (λc' hc=>?_) (λj c' o hj hk=>?_) (λc' q o hq=>?_) (λj c' o o' hj hq hq2=>?_),rfl⟩
 . rw[zqy,if_neg (by omega)];exact h.st c'
 . rw[zqy,if_neg (by omega)];exact sum_k (x':=x.know c 1 (some v)) h hx rfl c'
 . have:c'≠c:=λe2=>by subst e2;omega
   rw[zqy,zqy,if_neg (λe2=>this e2.1),if_neg (λe2=>this e2.1)];exact⟨hc,rfl⟩
 . have:=h.sole hk' hj hk;rw[zqy,zqy,if_neg (λe2=>this e2.1),if_neg (λe2=>this e2.1)];exact⟨(h.kn _ _ _ _ hk).1,rfl⟩
 . simp only[al_oi,Prod.mk.injEq]at hq;obtain⟨rfl,rfl,rfl⟩:=hq;refine⟨.inl rfl,?_,λv hv=>?_⟩
   . rw[zqy,if_neg (by omega)];exact h1
   . cases hv;exact zq4u _ _ _ _
 . simp only[al_oi,Prod.mk.injEq]at hq;exact h.sole hk' hj hq2 hq.1.symm
theorem InvO.lay {s:SO}{g:Nat->GO}(h:InvO ops N B s g)(hx:g i=x){c:Nat}{o:Option Int}(hk:x.k=some (c,1,o))(q:Int)(hq:q=0\/q=2){x':GO}(hx':x'=if q=2 then x.know c 2 o else x.free):InvO ops N B (upd2 s.1 c 0 q,s.2) (upd' g i x'):=by
 have hk':(g i).k=some (c,1,o):=by rw[hx];exact hk
 obtain⟨h1,h2⟩:=h.kn _ _ _ _ hk';have e1:x'.p=x.p/\x'.n=x.n/\x'.b=x.b:=by rw[hx'];split<;>exact⟨rfl,rfl,rfl⟩
 have e2:∀c' q' o',x'.k=some (c',q',o')->c'=c/\q'=2/\q=2/\o'=o:=λc' q' o' hh=>by
  rw[hx']at hh;split at hh
  . simp only[al_oi,Prod.mk.injEq]at hh;exact⟨hh.1.symm,hh.2.1.symm,by assumption,hh.2.2.symm⟩
  . cases hh
 refine h.turn (i:=i) (C':=upd2 s.1 c 0 q) (by rw[hx];exact e1.1) (by rw[hx];exact e1.2.1) (λc'=>?_) (λc'=>?_) (λc' hc=>?_) (λj c' o hj hk=>?_) (λc' q' o' hq'=>?_) (λj c' o1 o2 hj hq1 hq2=>?_)
 . rw[zqy];split
   . omega
   . exact h.st c'
 . rw[zqy,if_neg (by omega)];exact sum_k h hx e1.2.2 c'
 . have:c'≠c:=λe2=>by subst e2;omega
   rw[zqy,zqy,if_neg (λe2=>this e2.1),if_neg (λe2=>this e2.1)];exact⟨hc,rfl⟩
 . have:=h.sole hk' hj hk;rw[zqy,zqy,if_neg (λe2=>this e2.1),if_neg (λe2=>this e2.1)];exact⟨(h.kn _ _ _ _ hk).1,rfl⟩
 . obtain⟨rfl,rfl,rfl,rfl⟩:=e2 _ _ _ hq';refine⟨.inr rfl,zq4u _ _ _ _,λv hv=>?_⟩;rw[zqy,if_neg (by omega)];exact h2 v hv
 . have:=(e2 _ _ _ hq1).2.1;omega
theorem fin_ok{c:Nat}(v:Int)(hk:x.k=some (c,1,none)):(finP c v).Ok (InvO ops N B) i (λ_ x'=>x'=x.know c 2 (some v)) x:=by
 unfold finP;refine(zq7x v hk).bind λ_ x' hx'=>zq23 λs g h hx=>?_;subst hx';exact⟨_,h.lay hx rfl 2 (.inr rfl) rfl,rfl⟩
theorem InvO.noWin {s:SO}{g:Nat->GO}(h:InvO ops N B s g){c:Nat}(hc:s.1 c 0≠2){j m:Nat}{b:Ans}{op:OpX}(h1:(answ s g j)[m]?=some b)(h2:(ops j)[m]?=some op):¬winO op b c:=λ⟨e1,e2,e3⟩=>by
 have:=((h.an _ _ _ _ h1 h2).told (.inl e3)).1;rw[e1]at this;exact hc this
abbrev GO.done (x:GO)(a:Ans)(b:Nat):GO:=⟨x.n+1,some a,b,none⟩
theorem zqbr{op:OpX}(v:Int)(hp:x.p=none)(ho:(ops i)[x.n]?=some op)(h2:op.k=2)(hk:x.k=some (op.a.toNat,1,none)):(finP op.a.toNat v).Ok (InvO ops N B) i (λ_ x'=>x'=x.done ⟨true,v,[]⟩ x.b) x:=by
 unfold finP;refine(zq7x v hk).bind λ_ x' hx'=>zq23 λs g h hx=>?_;subst hx';have h1:=h.lay hx rfl 2 (.inr rfl) rfl;have hk':(g i).k=some (op.a.toNat,1,some v):=by rw[hx]
 obtain⟨e1,e2⟩:=h.kn _ _ _ _ hk';refine⟨x.done ⟨true,v,[]⟩ x.b,?_,rfl⟩;have hA:=zq6b (i:=i) (g:=g) (x':=x.know op.a.toNat 2 (some v)) s.2 s.1 (upd2 s.1 op.a.toNat 0 2) (by rw[hx]);have:=h1.answer (x:=x.know op.a.toNat 2 (some v)) (i:=i) (upd'_same _ _ _) hp ho (a:=⟨true,v,[]⟩) ⟨λ_=>⟨zq4u _ _ _ _,by show v=upd2 s.1 op.a.toNat 0 2 op.a.toNat 1;rw[zqy,if_neg (by omega)];exact(e2 v rfl).symm⟩,λh4=>by omega,λh3=>by omega⟩ (λc hc j m b op' k1 k2=>?_)
 . rw[show(if(2:Int)=2 then GO.know (x.know op.a.toNat 1 (some v)) op.a.toNat 2 (some v)else GO.free (x.know op.a.toNat 1 (some v)))=x.know op.a.toNat 2 (some v)from rfl,zq5x]at this;exact this
 . have k1':(answ s g j)[m]?=some b:=(congrArg (λl:List Ans=>l[m]?) (hA j)).symm.trans k1;exact h.noWin (by rw[<-hc.1,e1];decide) k1' k2
theorem add_ok{c:Nat}{o:Option Int}{b:Nat}(hi:i<N)(hB:B<9223372036854775807)(hk:x.k=some (c,1,o))(hb:x.b=b+1):(Proc.tick.bind λ_=>onN (addN c 2 1)).Ok (InvO ops N B) i (λ_ x'=>x'=⟨x.n,x.p,b,x.k⟩) x:=zq23 λs g h hx=>by
 have hk':(g i).k=some (c,1,o):=by rw[hx];exact hk
 have h1:=h.kn _ _ _ _ hk';have hs:=zq93 (g:=g) (x:=⟨x.n,x.p,b,x.k⟩) hi;rw[hx,hb]at hs;simp only at hs;have hc:=h.ct c;have hw:IntKind.i64.wrap (s.1 c 2+1)=s.1 c 2+1:=by
  rw[IntKind.wrap_i64];have:=hc.1;have:=hc.2;omega
 refine⟨⟨x.n,x.p,b,x.k⟩,h.turn (i:=i) (C':=upd2 s.1 c 2 (IntKind.i64.wrap (s.1 c 2+1))) (by rw[hx]) (by rw[hx]) (λc'=>?_) (λc'=>?_) (λc' hc=>?_) (λj c' o hj hk=>?_) (λc' q o hq=>?_) (λj c' o1 o2 hj hq1 hq2=>?_),rfl⟩
 . rw[zqy,if_neg (by omega)];exact h.st c'
 . rw[zqy,hw];have:=h.ct c';split
   . omega
   . omega
 . rw[zqy,zqy,if_neg (by omega),if_neg (by omega)];exact⟨hc,rfl⟩
 . rw[zqy,zqy,if_neg (by omega),if_neg (by omega)];exact⟨(h.kn _ _ _ _ hk).1,rfl⟩
 . rw[zqy,zqy,if_neg (by omega),if_neg (by omega)];have hq':(g i).k=some (c',q,o):=by rw[hx];exact hq
   exact⟨h.kq _ _ _ _ hq',h.kn _ _ _ _ hq'⟩
 . have hq':(g i).k=some (c',1,o1):=by rw[hx];exact hq1
   exact hj (h.ex _ _ _ _ _ hq2 hq')
theorem zq2m{op:OpX}{a:Ans}(hp:x.p=none)(ho:(ops i)[x.n]?=some op)(hw:¬(op.k=2/\a.ok=true))(ht:(a.ok=true\/(op.k=2/\a.n≠0))->x.k=some (op.a.toNat,2,some a.n))(h4:op.k=4->a.ok=false->a.n= -6\/a.n= -4)(h3:op.k=3->a.ok=false->a.n= -4):
 (Proc.ret a).Ok (InvO ops N B) i (λr x'=>r=a/\x'=x.done a x.b) x:=λs g h hx=>by
 refine⟨x.done a x.b,h.answer hx hp ho ⟨λh1=>?_,h4,h3⟩ (λc hc=>absurd ⟨hc.2.1,hc.2.2⟩ hw),rfl,rfl⟩;obtain⟨k1,k2⟩:=h.kn i _ _ _ (by rw[hx];exact ht h1);exact⟨k1,(k2 _ rfl).symm⟩
def DoneQ(x:GO)(a:Ans)(x':GO):Prop:=∃b,x.b<=b+1/\x'=x.done a b
theorem zq7g{op:OpX}{mk:Proc SO (Int×Bool)}(hi:i<N)(hB:B<9223372036854775807)(hmk:∀x,mk.Ok (InvO ops N B) i (λv x'=>x'=x/\(op.k=3->v.2=true)/\(v.2=true->True)) x)(hp:x.p=none)(hk:x.k=none)(ho:(ops i)[x.n]?=some op)(hkk:op.k=3\/op.k=4)(hb:0<x.b):
 ∀n,((makeL op.a.toNat mk n).bind λr=>Proc.ret (madeA r.1 r.2)).Ok (InvO ops N B) i (DoneQ x) x:=by
 have hn2:op.k≠2:=by omega
 have told:∀(x':GO)(v:Int),x'.p=none->(ops i)[x'.n]?=some op->x'.k=some (op.a.toNat,2,some v)->(Proc.ret (madeA v 0)).Ok (InvO ops N B) i (λr y=>r=madeA v 0/\y=x'.done (madeA v 0) x'.b) x':=λx' v h1 h2 h3=>
  zq2m h1 h2 (λe=>hn2 e.1) (λ_=>h3) (λ_ h=>by cases h) (λ_ h=>by cases h)
 have er4:madeA 0 4=⟨false,-4,[]⟩:=by kernel_rfl
 have er6:madeA 0 6=⟨false,-6,[]⟩:=by kernel_rfl
 intro n
 induction n with
 |zero=>
  unfold makeL;rw[Proc.bind_ret];refine Proc.Ok.mono (zq2m (a:=madeA 0 4) hp ho (λe=>hn2 e.1) (λe=>?_) (λ_ _=>?_) (λ_ _=>?_)) λr y hy=>⟨x.b,by omega,by rw[hy.1];exact hy.2⟩
  . rw[er4]at e;rcases e with e|e
    . cases e
    . exact absurd e.1 hn2
  . rw[er4];exact .inr rfl
  . rw[er4]
 |succ n ih=>
  unfold makeL;rw[Proc.bind_bind];refine(get_ok _ hk).bind λv x1 hv=>?_;split
  . rename_i e;rw[if_pos e]at hv;subst hv;rw[Proc.bind_ret];exact Proc.Ok.mono (told _ _ hp ho rfl) λr y hy=>⟨x.b,by omega,by rw[hy.1];exact hy.2⟩
  . rename_i e;rw[if_neg e]at hv;obtain⟨-,rfl⟩:=hv;rw[Proc.bind_bind];refine(cas_ok _ hk).bind λw x2 hw=>?_;split
    . rename_i e2;rw[if_pos e2]at hw;subst hw;obtain⟨b,hbb⟩:∃b,x1.b=b+1:=⟨x1.b - 1,by omega⟩;rw[Proc.bind_bind];refine(add_ok (x:=x1.know op.a.toNat 1 none) (b:=b) hi hB rfl hbb).bind λ_ x3 hx3=>?_;rw[Proc.bind_bind];refine(hmk x3).bind λu x4 hx4=>?_;obtain⟨rfl,h3',-⟩:=hx4;subst hx3;split
      . rw[Proc.bind_bind];refine(fin_ok _ rfl).bind λ_ x5 hx5=>?_;subst hx5;rw[Proc.bind_ret];exact Proc.Ok.mono (told _ _ hp ho rfl) λr y hy=>⟨b,by omega,by rw[hy.1];exact hy.2⟩
      . rename_i e3;have h4:op.k=4:=by rcases hkk with h|h;exact absurd (h3' h) e3;exact h
        rw[Proc.bind_bind];refine(zq23 (Q:=λ(_:Unit)y=>y=⟨x1.n,x1.p,b,none⟩) λs g h hx=>⟨_,h.lay hx rfl 0 (.inl rfl) rfl,rfl⟩).bind λ_ x5 hx5=>?_;subst hx5;rw[Proc.bind_ret];refine Proc.Ok.mono (zq2m (a:=madeA 0 6) hp ho (λe=>hn2 e.1) (λe=>?_) (λ_ _=>?_) (λh3 _=>by omega)) λr y hy=>⟨b,by omega,by rw[hy.1];exact hy.2⟩
        . rw[er6]at e;rcases e with e|e
          . cases e
          . exact absurd e.1 hn2
        . rw[er6];exact .inl rfl
    . rename_i e2;rw[if_neg e2]at hw;subst hw;exact ih
theorem once_ok{op:OpX}{NC:Nat}(hi:i<N)(hB:B<9223372036854775807)(hp:x.p=none)(hk:x.k=none)(ho:(ops i)[x.n]?=some op)(hb:0<x.b)(ha:0<=op.a/\op.a<NC)(hkk:1<=op.k/\op.k<=4):(doerP NC op).Ok (InvO ops N B) i (DoneQ x) x:=by
 unfold doerP;rw[if_neg (by omega)];unfold onceP
 by_cases h1:op.k=1
 . rw[if_pos h1];refine(get_ok _ hk).bind λv x1 hv=>?_
   by_cases e:v.2=true
   . rw[if_pos e]at hv;subst hv;exact Proc.Ok.mono (zq2m hp ho (λh=>by omega) (λ_=>rfl) (λh=>by omega) (λh=>by omega)) λr y hy=>⟨x.b,by omega,by rw[hy.1];exact hy.2⟩
   . rw[if_neg e]at hv;obtain⟨rfl,rfl⟩:=hv;exact Proc.Ok.mono (zq2m hp ho (λh=>by omega) (λh=>by rcases h with h|h;cases h;omega) (λh=>by omega) (λh=>by omega)) λr y hy=>⟨x1.b,by omega,by rw[hy.1];exact hy.2⟩
 rw[if_neg h1]
 by_cases h2:op.k=2
 . rw[if_pos h2];unfold setP;rw[Proc.bind_bind];refine(cas_ok _ hk).bind λw x2 hw=>?_;split
   . rename_i e;rw[if_pos e]at hw;subst hw;rw[Proc.bind_bind];refine(zqbr (x:=x.know op.a.toNat 1 none) (op:=op) _ hp ho h2 rfl).bind λ_ x3 hx3=>?_;rw[Proc.bind_ret];exact Proc.Ok.ret ⟨x.b,by omega,hx3⟩
   . rename_i e;rw[if_neg e]at hw;subst hw;rw[Proc.bind_bind];refine(get_ok _ hk).bind λv x1 hv=>?_;rw[Proc.bind_ret]
     by_cases e:v.2=true
     . rw[if_pos e]at hv;subst hv;exact Proc.Ok.mono (zq2m hp ho (λh=>by cases h.2) (λ_=>rfl) (λh=>by omega) (λh=>by omega)) λr y hy=>⟨x2.b,by omega,by rw[hy.1];exact hy.2⟩
     . rw[if_neg e]at hv;obtain⟨rfl,rfl⟩:=hv;exact Proc.Ok.mono (zq2m hp ho (λh=>by cases h.2) (λh=>by rcases h with h|h;cases h;exact absurd rfl h.2) (λh=>by omega) (λh=>by omega)) λr y hy=>⟨x1.b,by omega,by rw[hy.1];exact hy.2⟩
 rw[if_neg h2]
 by_cases h3:op.k=3
 . rw[if_pos h3];refine zq7g hi hB (λx=>?_) hp hk ho (.inl h3) hb _;unfold mkP;exact zq23 λs g h hx=>⟨x,by rw[zq2z hx];exact h,rfl,λ_=>rfl,λ_=>trivial⟩
 rw[if_neg h3,if_pos (by omega)];exact zq7g hi hB (λx=>Proc.Ok.ret ⟨rfl,λh=>absurd h h3,λ_=>trivial⟩) hp hk ho (.inr (by omega)) hb _
theorem ops_ok{NC:Nat}(hi:i<N)(hB:B<9223372036854775807)(hg:∀op∈ops i,0<=op.a/\op.a<NC/\1<=op.k/\op.k<=4):∀(l:List OpX)(x:GO),(ops i).drop x.n=l->x.p=none->x.k=none->l.length<=x.b->
 (opsP i (doerP NC) l).Ok (InvO ops N B) i (λ_ x'=>x'.n=(ops i).length/\x'.p=none) x:=by
 intro l
 induction l with
 |nil=>
  intro x hl hp hk hb s g h hx;have h1:=(h.len i).2;rw[hx]at h1;have h2:=List.drop_eq_nil_iff.1 hl;exact⟨x,by rw[zq2z hx];exact h,by omega,hp⟩
 |cons op l ih=>
  intro x hl hp hk hb;have hop:(ops i)[x.n]?=some op:=by
   have:=congrArg (λl:List OpX=>l[0]?) hl;simpa using this
  have hm:=hg op (List.mem_of_getElem? hop);rw[List.length_cons]at hb;rw[opsP];refine(once_ok hi hB hp hk hop (by omega) ⟨hm.1,hm.2.1⟩ hm.2.2).bind λa x1 hx1=>?_;obtain⟨b,hbb,rfl⟩:=hx1;refine Proc.Ok.bind (Q:=λ_ x2=>x2=⟨x.n+1,none,b,none⟩) (Proc.Ok.act λs g h hx=>⟨_,h.push hx rfl,rfl⟩) λ_ x2 hx2=>?_;subst hx2;refine ih _ ?_ rfl rfl (by simp only;omega);show(ops i).drop (x.n+1)=l;rw[<-List.drop_drop,hl];rfl
end
structure OneO(ops:Nat->List OpX)(s:SO):Prop where
 st:∀c,0<=s.1 c 0/\s.1 c 0<=2
 ct:∀c,0<=s.1 c 2
 len:∀i,(s.2 i).length<=(ops i).length
 an:∀(i m:Nat)a op,(s.2 i)[m]?=some a->(ops i)[m]?=some op->AnsO s.1 op a
 un:∀(c i m:Nat)a op(j l:Nat)b op',(s.2 i)[m]?=some a->(ops i)[m]?=some op->winO op a c->(s.2 j)[l]?=some b->(ops j)[l]?=some op'->winO op' b c->i=j/\m=l
theorem InvO.one {ops:Nat->List OpX}{N B:Nat}{s:SO}{g:Nat->GO}(h:InvO ops N B s g):OneO ops s:=by
 have hA:∀(i m:Nat)a,(s.2 i)[m]?=some a->(answ s g i)[m]?=some a:=λi m a hm=>by
  unfold answ;rw[List.getElem?_append_left (List.getElem?_eq_some_iff.1 hm).1];exact hm
 refine⟨λc=>by have:=h.st c;omega,λc=>(h.ct c).1,λi=>?_,λi m a op h1 h2=>h.an i m a op (hA _ _ _ h1) h2,λc i m a op j l b op' h1 h2 h3 h4 h5 h6=>h.un c i m a op j l b op' (hA _ _ _ h1) h2 h3 (hA _ _ _ h4) h5 h6⟩;obtain⟨h1,h2⟩:=h.len i;unfold answ at h1;rw[List.length_append]at h1;omega
def g0O(ops:Nat->List OpX)(i:Nat):GO:=⟨0,none,(ops i).length,none⟩
theorem zqd0(ops:Nat->List OpX)(N:Nat):InvO ops N (sumB (g0O ops) N) (λ_ _=>0,λ_=>[]) (g0O ops):=
 ⟨λc=>.inl rfl,λc=>⟨Int.le_refl _,by simp⟩,(λi c q o h=>by cases h),(λi c q o h=>by cases h),(λi j c o o' h=>by cases h),λi=>⟨rfl,Nat.zero_le _⟩,(λi m a op h=>by cases h),(λc i m a op j l b op' h=>by cases h)⟩
theorem once_thr{ops:Nat->List OpX}{N NC i:Nat}(hi:i<N)(hB:sumB (g0O ops) N<9223372036854775807)(hg:∀op∈ops i,0<=op.a/\op.a<NC/\1<=op.k/\op.k<=4):
 (opsP i (doerP NC) (ops i)).Ok (InvO ops N (sumB (g0O ops) N)) i (λ_ x'=>x'.n=(ops i).length/\x'.p=none) (g0O ops i):=
 ops_ok hi hB hg _ _ rfl rfl rfl (Nat.le_refl _)
theorem once_one{ops:Nat->List OpX}{N NC most:Nat}{l:List Int}(hB:sumB (g0O ops) N<9223372036854775807)(hg:∀i,i<N->∀op∈ops i,0<=op.a/\op.a<NC/\1<=op.k/\op.k<=4):
 OneO ops (playT (λi=>opsP i (doerP NC) (ops i)) N most l (λ_ _=>0,λ_=>[])).s/\(playT (λi=>opsP i (doerP NC) (ops i)) N most l (λ_ _=>0,λ_=>[])).ord.length<=most:=by
 obtain⟨⟨g,h⟩,hm⟩:=play_ok (most:=most) (l:=l) (zqd0 ops N) (Q:=λi x'=>x'.n=(ops i).length/\x'.p=none) λi hi=>once_thr hi hB (hg i hi);exact⟨h.inv.one,hm⟩
end Go.Proofs
namespace Go.Proofs
open Go Go.Conc Go.RowKit Go.Car
def fewO(n:Int)(op:OpX):OpX:=⟨wrap64 (1+wrap64 ((IntKind.u64.wrap op.k).tmod 4)),wrap64 ((IntKind.u64.wrap op.a).tmod (IntKind.u64.wrap n)),op.b,wrap64 ((IntKind.u64.wrap op.c).tmod 5)⟩
theorem few_good(op:OpX){n:Nat}(hn:1<=n/\n<=3):0<=(fewO n op).a/\(fewO n op).a<n/\1<=(fewO n op).k/\(fewO n op).k<=4:=by
 have w:∀x:Int,0<=IntKind.u64.wrap x/\IntKind.u64.wrap x<18446744073709551616:=λx=>by simp only[IntKind.wrap,IntKind.bits,IntKind.signed,Bool.false_and,Bool.false_eq_true,if_false];omega
 have hw:IntKind.u64.wrap n=n:=by simp only[IntKind.wrap,IntKind.bits,IntKind.signed,Bool.false_and,Bool.false_eq_true,if_false];omega
 have h1:=w op.k;have h2:=w op.a;unfold fewO;rw[hw];generalize IntKind.u64.wrap op.k=x at h1;generalize IntKind.u64.wrap op.a=y at h2;simp only;rw[Int.tmod_eq_emod_of_nonneg h1.1,Int.tmod_eq_emod_of_nonneg h2.1];have h3:=Int.emod_nonneg y (show(n:Int)≠0 by omega);have h4:=Int.emod_lt_of_pos y (show(0:Int)<n by omega);generalize y % (n:Int)=z at h3 h4;unfold wrap64;omega
def FewI(w:World)(L:Nat->List OpX)(j:Nat)(tv:Value)(w':World):Prop:=∃vs:Nat->Value,w'.ownsRow w.heap.size 32 1 tv j ((List.range j).map vs)/\(∀i,i<j->w'.ownsRow w.heap.size 34 4 (vs i) (L i).length ((L i).flatMap OpX.cells))/\Beyond w w'
structure FewL(W:World)(l:List OpX)(j:Nat)(v:Value)(w:World):Prop where
 be:Beyond W w
 row:w.ownsRow W.heap.size 34 4 v j ((l.take j).flatMap OpX.cells)
theorem zqbq{W w w1 W2 w2:World}{l:List OpX}{j g cap:Nat}{v:Value}{op:OpX}(h:FewL W l j v w)(hop:l[j]?=some op)(hw1:∀b,b<w.heap.size->w1.heap[b]?=w.heap[b]?)(hs1:w.heap.size<=w1.heap.size)(hW2:∀b,b<w1.heap.size->W2.heap[b]?=w1.heap[b]?)(hs2:w1.heap.size<=W2.heap.size)
 (hrow:w2.ownsRow W.heap.size 34 4 (.slice (some ⟨g,0,none⟩) (j+1) cap) (j+1) ((l.take j).flatMap OpX.cells++[.int .i64 op.k,.int .i64 op.a,.int .i64 op.b,.int .i64 op.c])) (hgr:W2.grownBy w2 v.ownBlock):FewL W l (j+1) (.slice (some ⟨g,0,none⟩) (j+1) cap) w2:=by
 have hz:=hgr.size;refine⟨⟨by have:=h.be.1;omega,λb hb=>?_⟩,?_⟩
 . have hb1:=h.be.1;rw[hgr.block b (by omega) λe=>by have:=(own_lt h.row e.symm).2.1;omega,hW2 b (by omega),hw1 b (by omega)];exact h.be.2 b hb
 . have e:(l.take (j+1)).flatMap OpX.cells=(l.take j).flatMap OpX.cells++[.int .i64 op.k,.int .i64 op.a,.int .i64 op.b,.int .i64 op.c]:=by
    rw[List.take_add_one,hop,List.flatMap_append];rfl
   rw[e];exact hrow
theorem few_push{w wi W2 w2:World}{L:Nat->List OpX}{j g cap:Nat}{tv ov:Value}{wo:World}(h:FewI w L j tv wo)(hl:FewL wo (L j) (L j).length ov wi)(hW2:∀b,b<wi.heap.size->W2.heap[b]?=wi.heap[b]?)(hs2:wi.heap.size<=W2.heap.size)
 (hrow:∀vs:Nat->Value,wi.ownsRow w.heap.size 32 1 tv j ((List.range j).map vs)->w2.ownsRow w.heap.size 32 1 (.slice (some ⟨g,0,none⟩) (j+1) cap) (j+1) ((List.range j).map vs++[ov])) (hgr:W2.grownBy w2 tv.ownBlock):FewI w L (j+1) (.slice (some ⟨g,0,none⟩) (j+1) cap) w2:=by
 obtain⟨vs,h1,h2,h3⟩:=h;have hz:=hgr.size;have hb1:=hl.be.1;have hb0:=h3.1;have k1:wi.ownsRow w.heap.size 32 1 tv j ((List.range j).map vs):=zq1e h1 λx hx=>hl.be.2 x (own_lt h1 hx).2.2;have keep:∀b,b<wi.heap.size->tv.ownBlock≠some b->w2.heap[b]?=wi.heap[b]?:=λb hb hn=>(hgr.block b (by omega) λe=>hn e.symm).trans (hW2 b hb);have hrl:=hl.row;rw[List.take_length]at hrl;refine⟨upd' vs j ov,?_,λi hi=>?_,⟨by omega,λb hb=>?_⟩⟩
 . have e:(List.range (j+1)).map (upd' vs j ov)=(List.range j).map vs++[ov]:=by
    rw[List.range_succ,List.map_append];congr 1
    . refine List.map_congr_left λc hc=>?_;rw[zqg _ _ (by have:=List.mem_range.1 hc;omega)]
    . simp
   rw[e];exact hrow _ k1
 . by_cases e:i=j
   . subst e;rw[upd'_same];have hrl':wi.ownsRow w.heap.size 34 4 ov (L i).length ((L i).flatMap OpX.cells):=⟨hrl.1,hrl.2.imp id λ⟨g,c,u,q1,q2,q3⟩=>⟨g,c,u,q1,by omega,q3⟩⟩;refine zq1e hrl' λx hx=>keep x (own_lt hrl' hx).2.2 ?_;obtain⟨⟨c,hc⟩,_⟩:=own_lt hrl' hx;exact zq2r k1 hc (by decide)
   . rw[zqg _ _ e];have hr:=h2 i (by omega);have hr':=zq1e hr λx hx=>hl.be.2 x (own_lt hr hx).2.2;refine zq1e hr' λx hx=>keep x (own_lt hr' hx).2.2 ?_;obtain⟨⟨c,hc⟩,_⟩:=own_lt hr' hx;exact zq2r k1 hc (by decide)
 . rw[keep b (by omega) λe=>by have:=(own_lt h1 e).2.1;omega,hl.be.2 b (by omega)];exact h3.2 b hb
theorem few_lone{w:World}{pp:Option Addr}{np Cn NC:Nat}{tops:Nat->List OpX}(h:ThrIn w pp np tops)(hc:np<=Cn/\(pp=none->Cn=0))(hn:1<=NC/\NC<=3)(hl:np<=1048576/\∀i,i<np->(tops i).length<=1048576):
 Calls Try.prog 17 #[.int .i64 NC,.slice pp np Cn] w λe w'=>∃p C,e=.returned (.slice p (min np 4) C)/\FewI w (λi=>((tops i).take 6).map (fewO NC)) (min np 4) (.slice p (min np 4) C) w':=by
 obtain⟨N,hN⟩:∃N,min np 4=N:=⟨_,rfl⟩;rw[hN];have HI:=Lib.hid (And.intro h (And.intro hc (And.intro hn (And.intro hl hN))));have g0:(0:Int)<=np:=by omega
 have g2:(np:Int)<=(Cn:Int):=by omega
 clear h hc hn hl hN
 go_enter Try.func17,Try.ntmps17
 go_upto_region 2 with(fail)
 go_cut [15,16,17]from 11 (λs15 s16 s17 wx=>s15=.slice pp N Cn/\s16=.int .i64 (N:Nat)/\s17=.int .i64 0/\w=wx)
 case first=>
  by_cases h4:(np:Int)<=4
  . have hNn:N=np:=by have:=HI.out.2.2.2.2;omega
    subst hNn
    go_wp2_with (fail)
    go_meet
    exact⟨rfl,rfl,rfl,rfl⟩
  . obtain rfl:N=4:=by have:=HI.out.2.2.2.2;omega
    go_wp2_with (fail)
    go_meet
    exact⟨rfl,rfl,rfl,rfl⟩
 case rest=>
  obtain⟨rfl,rfl,rfl,rfl⟩:=hcut;clear g0 g2
  go_wp2_with (fail)
  go_loopg [5,17] N (λk s5 s17 wr=>∃(j:Nat)(p:Option Addr)(C:Nat),k=N - j/\j<=N/\s17=.int .i64 j/\s5=.slice p j C/\FewI w (λi=>((tops i).take 6).map (fewO NC)) j (.slice p j C) wr)
  case atStart=>exact⟨0,none,0,rfl,Nat.zero_le _,rfl,rfl,λ_=>.slice none 0 0,World.ownsRow_nil _ _ _ _,λi hi=>absurd hi (Nat.not_lt_zero _),Beyond.refl _⟩
  case round=>
   obtain⟨j,p,C,hk,hj,rfl,rfl,hI⟩:=hrel
   by_cases hlt:j<N
   . have hj0:(0:Int)<=j:=by omega
     have hjn:(j:Int)<(N:Int):=by omega
     have hjp:j<np:=by have:=HI.out.2.2.2.2;omega
     obtain⟨pb,po,hpp,hc⟩:=HI.out.1 (by omega);obtain⟨sq,sC,hc1,hc2,hc3⟩:=hc j (by omega);obtain⟨M,hM⟩:∃M,(tops j).length=M:=⟨_,rfl⟩;rw[hM]at hc1 hc2;have hbw:=hI.choose_spec.2.2;have cp:=hbw.cell hc1;obtain⟨K,hK⟩:∃K,min M 6=K:=⟨_,rfl⟩;have HR:=Lib.hid (And.intro hI (And.intro hk (And.intro hj hlt)));have HC:=Lib.hid (And.intro hc2 (And.intro hc3 (And.intro hM hK)));have g0:(0:Int)<=M:=by omega
     have g2:(M:Int)<=(sC:Int):=by have:=hc2.1;omega
     subst hpp;clear hI hk hj hlt hc hc1 hc2 hc3 hM hK hbw hjp
     go_upto_region 6 with(fail)
     go_cut [17,25,26,27]from 17 to 61 (λs17 s25 s26 s27 wx=>s17=.int .i64 (j:Nat)/\s25=.slice sq K sC/\s26=.int .i64 (K:Nat)/\s27=.int .i64 0/\wr=wx)
     case first=>
      by_cases h4:(M:Int)<=6
      . have hNn:K=M:=by have:=HC.out.2.2.2;omega
        subst hNn
        go_wp2_with (fail)
        go_meet
        exact⟨rfl,rfl,rfl,rfl,rfl⟩
      . obtain rfl:K=6:=by have:=HC.out.2.2.2;omega
        go_wp2_with (fail)
        go_meet
        exact⟨rfl,rfl,rfl,rfl,rfl⟩
     case rest=>
      obtain⟨rfl,rfl,rfl,rfl,rfl⟩:=hcut;clear g0 g2;obtain⟨l,hl⟩:∃l,((tops j).take 6).map (fewO NC)=l:=⟨_,rfl⟩;have HLL:=Lib.hid hl;clear hl
      go_wp2_with (fail)
      generalize wr=wo at *
      go_loopg [8,27] K (λk s8 s27 wi=>∃(a:Nat)(oq:Option Addr)(oC:Nat),k=K - a/\a<=K/\s27=.int .i64 a/\s8=.slice oq a oC/\FewL wo l a (.slice oq a oC) wi)
      case atStart=>exact⟨0,none,0,rfl,Nat.zero_le _,rfl,rfl,Beyond.refl _,by simpa using World.ownsRow_nil _ _ _ _⟩
      case round=>
       obtain⟨a,oq,oC,hk,ha,rfl,rfl,hL⟩:=hrel
       by_cases hlt:a<K
       . have ha0:(0:Int)<=a:=by omega
         have haK:(a:Int)<(K:Int):=by omega
         have hMa:a<(tops j).length:=by have:=HC.out.2.2;omega
         obtain⟨op,hop⟩:∃op,(tops j)[a]?=some op:=⟨_,List.getElem?_eq_getElem hMa⟩;obtain⟨gb,go,rfl,hco⟩:=HC.out.2.1 (by intro e;rw[e]at hMa;simp at hMa);have hbw:Beyond w wr:=HR.out.1.choose_spec.2.2.trans hL.be;have o0:wr.cell? ⟨gb,go+a*4,none⟩=some (.int .i64 op.k):=hbw.cell ((hco a op hop 0 (by decide)).trans rfl);have o1:wr.cell? ⟨gb,go+a*4+1,none⟩=some (.int .i64 op.a):=hbw.cell ((hco a op hop 1 (by decide)).trans rfl);have o2:wr.cell? ⟨gb,go+a*4+2,none⟩=some (.int .i64 op.b):=hbw.cell ((hco a op hop 2 (by decide)).trans rfl);have o3:wr.cell? ⟨gb,go+a*4+3,none⟩=some (.int .i64 op.c):=hbw.cell ((hco a op hop 3 (by decide)).trans rfl);obtain⟨Z,hZ⟩:∃Z,wr.heap.size=Z:=⟨_,rfl⟩;have hmod:(IntKind.u64.wrap (NC:Int))≠0:=by
          have:=HI.out.2.2.1;simp only[IntKind.wrap,IntKind.bits,IntKind.signed,Bool.false_and,Bool.false_eq_true,if_false];omega
         obtain⟨v1,hv1⟩:∃v,fewO NC op=v:=⟨_,rfl⟩;have e1:wrap64 (1+wrap64 ((IntKind.u64.wrap op.k).tmod 4))=v1.k:=by rw[<-hv1];rfl
         have e2:wrap64 ((IntKind.u64.wrap op.a).tmod (IntKind.u64.wrap (NC:Int)))=v1.a:=by rw[<-hv1];rfl
         have e3:op.b=v1.b:=by rw[<-hv1];rfl
         have e4:wrap64 ((IntKind.u64.wrap op.c).tmod 5)=v1.c:=by rw[<-hv1];rfl
         have hlen:(l.take a).length=a:=by rw[<-HLL.out,List.length_take,List.length_map,List.length_take,HC.out.2.2.1];have:=HC.out.2.2.2;omega
         have hop2:l[a]?=some v1:=by rw[<-HLL.out,List.getElem?_map,List.getElem?_take,if_pos (by have:=HC.out.2.2.2;omega),hop,<-hv1];rfl
         have hs1:(wr.alloc (.cells #[.int .i64 v1.k,.int .i64 v1.a,.int .i64 op.b,.int .i64 v1.c] 34)).heap.size=Z+1:=by rw[zqc,hZ]
         have ho1:∀b,b<wr.heap.size->(wr.alloc (.cells #[.int .i64 v1.k,.int .i64 v1.a,.int .i64 op.b,.int .i64 v1.c] 34)).heap[b]?=wr.heap[b]?:=λb hb=>by rw[zqa,if_neg (by omega)]
         obtain⟨ti,hti,hz,hz1,hz2⟩:∃ti,Try.prog.info? 34=some ti/\ti.zero=some (.agg #[.int .i64 0,.int .i64 0,.int .i64 0,.int .i64 0])/\ti.size=4/\ti.bytes=32:=⟨_,rfl,rfl,rfl,rfl⟩;obtain⟨g,cap,w5,hrun,hown,hgrow,hat,hlt5⟩:=run_append_lies (P:=Try.prog) ((wr.alloc (.cells #[.int .i64 v1.k,.int .i64 v1.a,.int .i64 op.b,.int .i64 v1.c] 34)).alloc (.cells #[.int .i64 v1.k,.int .i64 v1.a,.int .i64 op.b,.int .i64 v1.c] 34)) 32 32 wo.heap.size 34 ti _ 4 32 (by kernel_rfl) hti hz hz1 hz2 rfl (by decide) (.slice oq a oC) a ((l.take a).flatMap OpX.cells) (zq2a (zq2a hL.row _) _) ⟨Z+1,0,none⟩ 1 1 [.int .i64 v1.k,.int .i64 v1.a,.int .i64 op.b,.int .i64 v1.c] rfl (λjj u hj=>zq7m hs1 jj u hj) (by intro u hu;simp only[List.mem_cons,List.not_mem_nil,or_false]at hu;rcases hu with rfl |rfl |rfl |rfl<;>rfl) (by decide) (by simp only[maxLen];have:=HC.out.2.2.2;omega) (by have:=HC.out.2.2.2;omega) (by rw[zqc,hs1];have:=hL.be.1;omega) _ rfl;have hown':=hown;rw[e3]at hown';have hnext:=zqbq hL hop2 ho1 (by rw[hs1,hZ];omega) (W2:=((wr.alloc (.cells #[.int .i64 v1.k,.int .i64 v1.a,.int .i64 op.b,.int .i64 v1.c] 34)).alloc (.cells #[.int .i64 v1.k,.int .i64 v1.a,.int .i64 op.b,.int .i64 v1.c] 34))) (λb hb=>(zqa _ _ b).trans (if_neg (Nat.ne_of_lt hb))) (by rw[zqc (wr.alloc _)];omega) hown' hgrow;have HX:=Lib.hid (And.intro hnext (And.intro hk hlt));have HE:=Lib.hid e3;clear hL hk hlt hop hMa hco hti hz hz1 hz2 hown hown' hgrow hat hlt5 hnext hlen hs1 ho1 hv1 e3 hop2
         go_wp2_with (at_builtin;go_loud (refine zq62 rfl (.tmp 52) (.tmp 54) 32 rfl hrun ?_))
         go_roundg (K - (a+1))
         case measure=>have:=HX.out;omega
         case rel=>exact⟨a+1,_,_,rfl,HX.out.2.2,(by have:=HC.out.2.2.2;have:=HX.out.2.2;first|rfl |(congr 1;unfold wrap64;omega)),rfl,HX.out.1⟩
       . obtain rfl:K=a:=by omega
         have hnl:¬((K:Int)<(K:Int)):=by omega
         have hlK:l.length=K:=by rw[<-HLL.out,List.length_map,List.length_take,HC.out.2.2.1];exact(by have:=HC.out.2.2.2;omega)
         obtain⟨Z,hZ⟩:∃Z,wr.heap.size=Z:=⟨_,rfl⟩;obtain⟨vs,hv1,hv2,hv3⟩:=HR.out.1;have hro:=zq1e hv1 λx hx=>hL.be.2 x (own_lt hv1 hx).2.2;have hwZ:w.heap.size<=Z:=by have:=hv3.1;have:=hL.be.1;omega
         obtain⟨ti,hti,hz,hz1,hz2⟩:∃ti,Try.prog.info? 32=some ti/\ti.zero=some (.slice none 0 0)/\ti.size=1/\ti.bytes=24:=⟨_,rfl,rfl,rfl,rfl⟩;obtain⟨g,cap,w2,hrun,hown,hgrow,hat,hlt2⟩:=run_append_lies (P:=Try.prog) (wr.alloc (.cells #[.slice oq K oC] 32)) 22 22 w.heap.size 32 ti (.slice none 0 0) 1 24 (by kernel_rfl) hti hz hz1 hz2 rfl (by decide) (.slice p j C) j _ (zq2a hro _) ⟨Z,0,none⟩ 1 1 [.slice oq K oC] rfl (λjj u hj=>zq4i hZ jj u hj) (by intro u hu;rw[List.mem_singleton.1 hu];rfl) (by decide) (by simp only[maxLen];have:=HR.out.2.2.2;have:=HI.out.2.2.2;omega) (by have:=HR.out.2.2.2;have:=HI.out.2.2.2;omega) (by rw[zqc];omega) _ rfl;have hfin:=few_push (L:=λi=>((tops i).take 6).map (fewO NC)) HR.out.1 (ov:=.slice oq K oC) (wi:=wr) (by rw[HLL.out,hlK];exact hL) (λb hb=>(zqa _ _ b).trans (if_neg (Nat.ne_of_lt hb))) (by rw[zqc];omega) (λvs' hvs'=>by
          have e:(List.range j).map vs'=(List.range j).map vs:=by
           rcases hvs'.2 with⟨hv,h0⟩|⟨g1,cap1,cur1,hv,_,hh,_,_,_,ht1⟩
           . rw[h0];rfl
           . rcases hro.2 with⟨hv2,h0⟩|⟨g2,cap2,cur2,hv2,_,hh2,_,_,_,ht2⟩
             . rw[h0];rfl
             . rw[hv2]at hv;simp only[Value.slice.injEq,al_oi,Addr.mk.injEq]at hv;obtain⟨⟨e1,_⟩,_,_⟩:=hv;rw[e1,hh]at hh2;cases hh2;rw[<-ht1,ht2]
          rw[e];exact hown) hgrow
         have HF:=Lib.hid (And.intro hfin (And.intro HR.out.2.1 HR.out.2.2.2));clear hfin hown hgrow hat hlt2 hti hz hz1 hz2 hro hwZ hv1 hv2 hv3 hL hk ha hlt HR
         go_wp2_with (at_builtin;go_loud (refine zq62 rfl (.tmp 57) (.tmp 59) 22 rfl hrun ?_))
         go_roundg (N - (j+1))
         case measure=>have:=HF.out;omega
         case rel=>exact⟨j+1,_,_,rfl,by have:=HF.out;omega,(by have:=HF.out;have:=HI.out.2.2.2.2;first|rfl |(congr 1;unfold wrap64;omega)),rfl,HF.out.1⟩
   . obtain rfl:N=j:=by omega
     have HF:=Lib.hid hI;clear hI hk hj hlt;go_wp2;go_ret;exact⟨_,_,rfl,HF.out⟩
theorem flat4:∀(l:List OpX)(k:Nat)(op:OpX),l[k]?=some op->∀j,j<4->(l.flatMap OpX.cells)[k*4+j]?=op.cells[j]?:=by
 intro l
 induction l with
 |nil=>intro k op h;simp at h
 |cons a l ih=>
  intro k op h j hj;rw[List.flatMap_cons];have ha:a.cells.length=4:=rfl;cases k with
  |zero=>
   cases h;rw[Nat.zero_mul,Nat.zero_add,List.getElem?_append_left (by rw[ha];exact hj)]
  |succ k=>
   rw[List.getElem?_append_right (by rw[ha];omega),ha,show(k+1)*4+j - 4=k*4+j by omega];exact ih k op (by simpa using h) j hj
theorem FewI.thr {w w':World}{L:Nat->List OpX}{n C:Nat}{p:Option Addr}(h:FewI w L n (.slice p n C) w'):ThrIn w' p n L:=by
 intro h0;obtain⟨vs,h1,h2,_⟩:=h;rcases h1.2 with⟨hv,e⟩|⟨g,cap,cur,hv,hb,hg,k1,k2,k3,k4⟩
 . omega
 . cases hv;refine⟨g,0,rfl,λi hi=>?_⟩;have hci:w'.cell? ⟨g,0+i,none⟩=some (vs i):=by
    rw[zq0 hg];have:(cur.toList.take (n*1))[i]?=some (vs i):=by rw[k4];simp[hi]
    rw[List.getElem?_take,if_pos (by omega)]at this;simpa using this
   have hr:=h2 i hi;rcases hr.2 with⟨hv2,e2⟩|⟨g2,cap2,cur2,hv2,hb2,hg2,q1,q2,q3,q4⟩
   . rw[hv2]at hci;refine⟨none,0,by rw[e2];exact hci,⟨by omega,λ_=>rfl⟩,λhne=>absurd (List.eq_nil_of_length_eq_zero e2) hne⟩
   . rw[hv2]at hci;refine⟨_,_,hci,⟨q1,λe=>by cases e⟩,λhne=>⟨g2,0,rfl,λk c hk j hj=>?_⟩⟩;rw[zq0 hg2];have hkl:=(List.getElem?_eq_some_iff.1 hk).1;have hcl:∀o∈L i,(OpX.cells o).length=4:=λo _=>rfl;have e3:((L i).flatMap OpX.cells)[k*4+j]?=c.cells[j]?:=flat4 (L i) k c hk j hj;rw[<-q4,List.getElem?_take,if_pos (by omega)]at e3;rw[show 0+k*4+j=k*4+j by omega,<-e3];simp
set_option maxHeartbeats 8000000
theorem numL_get(g:Nums):∀n c r,c<n->r<3->(numL g n).getD (3*c+r) 0=g c r:=by
 intro n
 induction n with
 |zero=>intro c r h;exact absurd h (Nat.not_lt_zero _)
 |succ n ih=>
  intro c r hc hr;rw[zq5b,List.getD_eq_getElem?_getD]
  by_cases e:c=n
  . subst e;rw[List.getElem?_append_right (by rw[zq2p];omega),zq2p,show 3*c+r - 3*c=r by omega];obtain rfl |rfl |rfl:r=0\/r=1\/r=2:=by omega
    all_goals rfl
  . rw[List.getElem?_append_left (by rw[zq2p];omega),<-List.getD_eq_getElem?_getD];exact ih c r (by omega) hr
def WinI(A:Nat->List Ans)(ops:Nat->List OpX)(c k m:Nat)(n:Int):Prop:=n=0\/(n=1/\∃i l a op,(A i)[l]?=some a/\(ops i)[l]?=some op/\winO op a c/\(i<k\/i=k/\l<m))
theorem WinI.more {A:Nat->List Ans}{ops:Nat->List OpX}{c k m k' m':Nat}{n:Int}(h:WinI A ops c k m n)(hh:∀i l,(i<k\/i=k/\l<m)->(i<k'\/i=k'/\l<m')):WinI A ops c k' m' n:=by
 rcases h with h|⟨h,i,l,a,op,h1,h2,h3,h4⟩
 . exact .inl h
 . exact .inr ⟨h,i,l,a,op,h1,h2,h3,hh _ _ h4⟩
theorem zq7t{w:World}{pp:Option Addr}{M Cn NC:Nat}{ops:Nat->List OpX}{s:SO}{tv:Value}{ord:List Int}{stk:Bool}(h:ThrIn w pp M ops)(ht:TraceAt w tv M s.2 ord (numL s.1 NC) stk)(hO:OneO ops s)(hn:1<=NC/\NC<=3)(hM:M<=4)(hl:∀i,i<M->(ops i).length<=6)(hg:∀i,i<M->∀op∈ops i,0<=op.a/\op.a<NC/\1<=op.k/\op.k<=4)(hord:ord.length<=1048576):
 Calls Try.prog 18 #[.int .i64 NC,.slice pp M Cn,tv] w λe w'=>e=.returned (.bool true)/\Beyond w w':=by
 obtain⟨tp,tC,ov,sv,rfl,hov,hsv,hta⟩:=ht;obtain⟨op',oC,rfl,-⟩:=hov;obtain⟨sp,sC,rfl,hsc⟩:=hsv;obtain⟨S,hS⟩:∃S,(numL s.1 NC).length=S:=⟨_,rfl⟩;obtain⟨oL,hoL⟩:∃L,ord.length=L:=⟨_,rfl⟩;rw[hS]at hsc |-;rw[hoL];have hS3:S=3*NC:=by rw[<-hS,zq2p]
 have hst:∀c r,c<NC->r<3->∃b o,sp=some ⟨b,o,none⟩/\w.cell? ⟨b,o+(3*c+r),none⟩=some (.int .i64 (s.1 c r)):=λc r hc hr=>by
  obtain⟨b,o,e,hh⟩:=hsc (λe=>by rw[e]at hS;simp at hS;omega);refine⟨b,o,e,?_⟩;rw[hh _ (by omega),numL_get _ _ _ _ hc hr]
 have HI:=Lib.hid (And.intro h (And.intro hta (And.intro hO (And.intro hn (And.intro hM (And.intro hl (And.intro hg (And.intro hst hS3))))))));have m1:wrap64 (3*(NC:Int))=(S:Int):=by unfold wrap64;omega
 obtain⟨Z,hZ⟩:∃Z,w.heap.size=Z:=⟨_,rfl⟩;clear h hta hO hn hM hl hg hst hsc hS3 hS hoL hord
 go_enter Try.func18,Try.ntmps18
 go_wp2_with (fail)
 go_loopg [33] NC (λk s33 wr=>∃(j:Nat),k=NC - j/\j<=NC/\s33=.int .i64 j/\Beyond w wr/\wr.heap[Z]?=some (.cells #[.slice tp M tC,.slice op' oL oC,.slice sp S sC,.bool stk] 29))
 case atStart=>exact⟨0,rfl,Nat.zero_le _,rfl,Beyond.alloc _ _,by rw[<-hZ];exact zq12 _ _⟩
 case round=>
  obtain⟨c,hk,hc,rfl,hbe,hblk⟩:=hrel
  by_cases hlt:c<NC
  . have hj0:(0:Int)<=c:=by omega
    have hcN:(c:Int)<(NC:Int):=by omega
    obtain⟨b,o,rfl,q0⟩:=HI.out.2.2.2.2.2.2.2.1 c 0 hlt (by decide);have q1:=HI.out.2.2.2.2.2.2.2.1 c 1 hlt (by decide);have q2:=HI.out.2.2.2.2.2.2.2.1 c 2 hlt (by decide);obtain⟨b1,o1,e,q1⟩:=q1;obtain⟨b2,o2,e',q2⟩:=q2;cases e;cases e';have hO:=HI.out.2.2.1;have hS3:=HI.out.2.2.2.2.2.2.2.2;have hNC:=HI.out.2.2.2.1;have t0:¬s.1 c 0<0:=by have:=(hO.st c).1;omega
    have t1:¬2<s.1 c 0:=by have:=(hO.st c).2;omega
    have t2:¬s.1 c 2<0:=by have:=hO.ct c;omega
    obtain⟨X0,hX0⟩:∃X,3*c+0=X:=⟨_,rfl⟩;obtain⟨X1,hX1⟩:∃X,3*c+1=X:=⟨_,rfl⟩;obtain⟨X2,hX2⟩:∃X,3*c+2=X:=⟨_,rfl⟩;rw[hX0]at q0;rw[hX1]at q1;rw[hX2]at q2;have q0:=hbe.cell q0;have q1:=hbe.cell q1;have q2:=hbe.cell q2;have a0:wrap64 (3*(c:Int))=(X0:Int):=by unfold wrap64;omega
    have a1:wrap64 ((X0:Int)+1)=(X1:Int):=by unfold wrap64;omega
    have a2:wrap64 ((X0:Int)+2)=(X2:Int):=by unfold wrap64;omega
    have a3:(X0:Int)<(S:Int):=by omega
    have a4:(X1:Int)<(S:Int):=by omega
    have a5:(X2:Int)<(S:Int):=by omega
    have a6:(0:Int)<=X0:=by omega
    have a7:(0:Int)<=X1:=by omega
    have a8:(0:Int)<=X2:=by omega
    have c50:wr.cell? ⟨Z,0,none⟩=some (.slice tp M tC):=(zq0 hblk).trans rfl;have c52:wr.cell? ⟨Z,2,none⟩=some (.slice (some ⟨b,o,none⟩) S sC):=(zq0 hblk).trans rfl;obtain⟨st,hst⟩:∃x,s.1 c 0=x:=⟨_,rfl⟩;obtain⟨va,hva⟩:∃x,s.1 c 1=x:=⟨_,rfl⟩;obtain⟨ct,hct⟩:∃x,s.1 c 2=x:=⟨_,rfl⟩;rw[hst]at q0 t0 t1;rw[hva]at q1;rw[hct]at q2 t2;have HR:=Lib.hid (And.intro hk (And.intro hlt (And.intro hbe (And.intro hblk (And.intro hst hva)))));clear hk hc hlt hbe hblk hst hva hct hO hS3 hNC hX0 hX1 hX2 m1
    go_wp2_with (fail)
    go_quiet (fail)
    go_wp2_with (fail)
    have HQ:=Lib.hid (And.intro q0 (And.intro q1 (And.intro q2 (And.intro t0 (And.intro t1 t2)))));clear q0 q1 q2 t0 t1 t2 a0 a1 a2 a3 a4 a5 a6 a7 a8 c52;generalize wr=w1 at *
    go_loopg [11,69] M (λk s11 s69 wy=>∃(i:Nat)(n:Int),k=M - i/\i<=M/\s69=.int .i64 i/\s11=.int .i64 n/\WinI s.2 ops c i 0 n/\Beyond w1 wy)
    case atStart=>exact⟨0,0,rfl,Nat.zero_le _,rfl,rfl,.inl rfl,by first|exact Beyond.refl _|exact Beyond.drew _ _⟩
    case round=>
     obtain⟨i,n,hk,hi,rfl,rfl,hW,hbe⟩:=hrel;have HB:=Lib.hid (And.intro hbe (And.intro hk (And.intro hi hW)))
     by_cases hlt:i<M
     . have hi0:(0:Int)<=i:=by omega
       have hiM:(i:Int)<(M:Int):=by omega
       obtain⟨tb,tz,rfl,hta⟩:=HI.out.2.1 (by omega);obtain⟨vi,k1,hans⟩:=hta i hlt;obtain⟨ap,aC,rfl,hac⟩:=hans;obtain⟨pb,po,rfl,hth⟩:=HI.out.1 (by omega);obtain⟨sq,qC,k2,-,hoc⟩:=hth i hlt;have hbw:Beyond w wr:=HR.out.2.2.1.trans hbe;have k1:=hbw.cell k1;have k2:=hbw.cell k2;have hla:(s.2 i).length<=(ops i).length:=HI.out.2.2.1.len i;have hlo:(ops i).length<=6:=HI.out.2.2.2.2.2.1 i hlt;obtain⟨la,hlaa⟩:∃x,(s.2 i).length=x:=⟨_,rfl⟩;obtain⟨lo,hloo⟩:∃x,(ops i).length=x:=⟨_,rfl⟩;rw[hlaa]at k1 hla;rw[hloo]at k2 hla hlo;have g1:¬(lo:Int)<(la:Int):=by omega
       have HL:=Lib.hid (And.intro hlaa (And.intro hloo (And.intro hla (And.intro hlo (And.intro hlt (And.intro hac hoc))))));clear hlaa hloo hla hlo hlt hac hoc hta hth hbe hk hi hW hbw
       go_wp2_with (fail)
       generalize wr=w2 at *
       go_loopg [11,84] la (λk s11 s84 wz=>∃(l:Nat)(m:Int),k=la - l/\l<=la/\s84=.int .i64 l/\s11=.int .i64 m/\WinI s.2 ops c i l m/\Beyond w2 wz)
       case atStart=>exact⟨0,n,rfl,Nat.zero_le _,rfl,rfl,HB.out.2.2.2,by first|exact Beyond.refl _|exact Beyond.drew _ _⟩
       case round=>
        obtain⟨l,m,hk,hl,rfl,rfl,hW,hbe⟩:=hrel;have HY:=Lib.hid (And.intro hbe (And.intro hk (And.intro hl hW)))
        by_cases hlt:l<la
        . have hl0:(0:Int)<=l:=by omega
          have hlM:(l:Int)<(la:Int):=by omega
          have hll:(l:Int)<(lo:Int):=by have:=HL.out.2.2.1;omega
          obtain⟨a,ha⟩:∃a,(s.2 i)[l]?=some a:=⟨_,List.getElem?_eq_getElem (by rw[HL.out.1];exact hlt)⟩;obtain⟨op,hop⟩:∃a,(ops i)[l]?=some a:=⟨_,List.getElem?_eq_getElem (by rw[HL.out.2.1];omega)⟩;obtain⟨ab,ao,rfl,hac⟩:=HL.out.2.2.2.2.2.1 (by intro e;rw[e]at ha;simp at ha);obtain⟨qb,qo,rfl,hoc⟩:=HL.out.2.2.2.2.2.2 (by intro e;rw[e]at hop;simp at hop);have hbw:Beyond w wr:=(HR.out.2.2.1.trans HB.out.1).trans hbe;obtain⟨x1,x2,lv,x3,lp,lC,rfl,-⟩:=hac l a ha;have x1:=hbw.cell x1;have x2:=hbw.cell x2;have x3:=hbw.cell x3;have o0:wr.cell? ⟨qb,qo+l*4,none⟩=some (.int .i64 op.k):=hbw.cell ((hoc l op hop 0 (by decide)).trans rfl);have o1:wr.cell? ⟨qb,qo+l*4+1,none⟩=some (.int .i64 op.a):=hbw.cell ((hoc l op hop 1 (by decide)).trans rfl);have o2:wr.cell? ⟨qb,qo+l*4+2,none⟩=some (.int .i64 op.b):=hbw.cell ((hoc l op hop 2 (by decide)).trans rfl);have o3:wr.cell? ⟨qb,qo+l*4+3,none⟩=some (.int .i64 op.c):=hbw.cell ((hoc l op hop 3 (by decide)).trans rfl);have k2':=(hbe.cell k2);have hA:=HI.out.2.2.1.an i l a op ha hop;obtain⟨g1,g2,g3,g4⟩:=HI.out.2.2.2.2.2.2.1 i HL.out.2.2.2.2.1 op (List.mem_of_getElem? hop);have HX:=Lib.hid (And.intro hlt (And.intro ha (And.intro hop (And.intro hA (And.intro g1 (And.intro g2 (And.intro g3 g4)))))));obtain⟨Z2,hZ2⟩:∃Z,wr.heap.size=Z:=⟨_,rfl⟩;obtain⟨aok,an,al⟩:=a;obtain⟨ok,oa,ob,oc⟩:=op;simp only at x1 x2 x3 o0 o1 o2 o3;clear hac hoc hlt ha hop hA g1 g2 g3 g4 hbw hbe hk hl hW;have al1:∀(O:Obj)(x:Addr)(v:Value),wr.cell? x=some v->(wr.alloc O).cell? x=some v:=λO x v h=>(Beyond.alloc wr O).cell h;have k2a:=λO=>al1 O _ _ k2';have p0:=λO=>al1 O _ _ o0;have p1:=λO=>al1 O _ _ o1;have p2:=λO=>al1 O _ _ o2;have p3:=λO=>al1 O _ _ o3;have hs1:(wr.alloc (.cells #[.bool aok,.int .i64 an,.slice lp al.length lC] 49)).heap.size=Z2+1:=by rw[zqc,hZ2]
          have hb1:(wr.alloc (.cells #[.bool aok,.int .i64 an,.slice lp al.length lC] 49)).heap[Z2]?=some (.cells #[.bool aok,.int .i64 an,.slice lp al.length lC] 49):=by rw[<-hZ2];exact zq12 _ _
          have e0:∀O:Obj,((wr.alloc (.cells #[.bool aok,.int .i64 an,.slice lp al.length lC] 49)).alloc O).cell? ⟨Z2,0,none⟩=some (.bool aok):=λO=>(zq0 (zqi hb1)).trans rfl;have e1:∀O:Obj,((wr.alloc (.cells #[.bool aok,.int .i64 an,.slice lp al.length lC] 49)).alloc O).cell? ⟨Z2,1,none⟩=some (.int .i64 an):=λO=>(zq0 (zqi hb1)).trans rfl;clear al1 hb1 k2';have hT:∀O O2:Obj,Beyond w2 ((wr.alloc O).alloc O2):=λO O2=>HY.out.1.trans ((Beyond.alloc _ _).trans (Beyond.alloc _ _));have HT:=Lib.hid hT;clear hT
          by_cases hoa:oa=(c:Int)
          . subst hoa;have FA:=HX.out.2.2.2.1.told;have F4:=HX.out.2.2.2.1.four;have F3:=HX.out.2.2.2.1.three;have g3:=HX.out.2.2.2.2.2.2.1;have g4:=HX.out.2.2.2.2.2.2.2;simp only[Int.toNat_natCast,HR.out.2.2.2.2.1,HR.out.2.2.2.2.2]at FA F4 F3 g3 g4;have HG:=Lib.hid (And.intro g3 g4);clear g3 g4;cases aok with
            |true=>
             obtain⟨rfl,rfl⟩:=FA (.inl rfl);clear FA F4 F3
             by_cases h2:ok=2
             . subst h2;have hm0:m=0:=by
                rcases HY.out.2.2.2 with h|⟨h,i',l',a',op',w1,w2,w3,w4⟩
                . exact h
                . have:=HI.out.2.2.1.un c i' l' a' op' i l _ _ w1 w2 w3 HX.out.2.1 HX.out.2.2.1 ⟨Int.toNat_natCast _,rfl,rfl⟩;omega
               subst hm0
               go_wp2_with (fail)
               go_roundg (la - (l+1))
               case measure=>have:=HY.out;have:=HX.out.1;omega
               case rel=>exact⟨l+1,1,rfl,HX.out.1,(by have:=HL.out;have:=HX.out.1;first|rfl |(congr 1;unfold wrap64;omega)),rfl,.inr ⟨rfl,i,l,_,_,HX.out.2.1,HX.out.2.2.1,⟨Int.toNat_natCast _,rfl,rfl⟩,.inr ⟨rfl,Nat.lt_succ_self _⟩⟩,HT.out _ _⟩
             . go_wp2_with (fail)
               all_goals(
                go_roundg (la - (l+1))
                case measure=>have:=HY.out;have:=HX.out.1;omega
                case rel=>exact⟨l+1,m,rfl,HX.out.1,(by have:=HL.out;have:=HX.out.1;first|rfl |(congr 1;unfold wrap64;omega)),rfl,HY.out.2.2.2.more (λ_ _ h=>by omega),HT.out _ _⟩)
            |false=>
             have key:(ok=2/\an=0)\/(ok=2/\an≠0/\st=2/\an=va)\/(ok=4/\an= -6)\/(ok=4/\an= -4)\/(ok=3/\an= -4)\/ok=1:=by
              have:=HG.out
              by_cases h2:ok=2
              . by_cases h0:an=0
                . exact .inl ⟨h2,h0⟩
                . exact .inr (.inl ⟨h2,h0,FA (.inr ⟨h2,h0⟩)⟩)
              . by_cases h4:ok=4
                . rcases F4 h4 rfl with h|h
                  . exact .inr (.inr (.inl ⟨h4,h⟩))
                  . exact .inr (.inr (.inr (.inl ⟨h4,h⟩)))
                . by_cases h3:ok=3
                  . exact .inr (.inr (.inr (.inr (.inl ⟨h3,F3 h3 rfl⟩))))
                  . exact .inr (.inr (.inr (.inr (.inr (by omega)))))
             clear FA F4 F3;rcases key with⟨rfl,rfl⟩|⟨rfl,hne,rfl,rfl⟩|⟨rfl,rfl⟩|⟨rfl,rfl⟩|⟨rfl,rfl⟩|rfl
             all_goals(
              go_wp2_with (fail)
              go_roundg (la - (l+1))
              case measure=>have:=HY.out;have:=HX.out.1;omega
              case rel=>exact⟨l+1,m,rfl,HX.out.1,(by have:=HL.out;have:=HX.out.1;first|rfl |(congr 1;unfold wrap64;omega)),rfl,HY.out.2.2.2.more (λ_ _ h=>by omega),HT.out _ _⟩)
          . go_wp2_with (fail)
            go_roundg (la - (l+1))
            case measure=>have:=HY.out;have:=HX.out.1;omega
            case rel=>exact⟨l+1,m,rfl,HX.out.1,(by have:=HL.out;have:=HX.out.1;first|rfl |(congr 1;unfold wrap64;omega)),rfl,HY.out.2.2.2.more (λ_ _ h=>by omega),HT.out _ _⟩
        . obtain rfl:la=l:=by have:=HY.out;omega
          have hnl:¬((la:Int)<(la:Int)):=by omega
          clear hk hl hlt hW hbe
          go_wp2_with (fail)
          go_roundg (M - (i+1))
          case measure=>have:=HB.out;have:=HL.out;omega
          case rel=>exact⟨i+1,m,rfl,by have:=HL.out;omega,(by have:=HL.out;have:=HI.out.2.2.2.2.1;first|rfl |(congr 1;unfold wrap64;omega)),rfl,HY.out.2.2.2.more (λi' l' h=>by omega),HB.out.1.trans HY.out.1⟩
     . obtain rfl:M=i:=by omega
       have hnl:¬((M:Int)<(M:Int)):=by omega
       have hn2:n=0\/(n=1/\st=2):=by
        rcases hW with h|⟨h,i',l',a',op',w1,w2,w3,w4⟩
        . exact .inl h
        . have:=((HI.out.2.2.1.an i' l' a' op' w1 w2).told (.inl w3.2.2)).1;rw[w3.1,HR.out.2.2.2.2.1]at this;exact .inr ⟨h,this⟩
       clear hk hi hlt hW hbe;rcases hn2 with rfl |⟨rfl,rfl⟩
       all_goals(
        go_wp2_with (fail)
        go_roundg (NC - (c+1))
        case measure=>have:=HR.out;omega
        case rel=>exact⟨c+1,rfl,by have:=HR.out.2.1;omega,(by have:=HR.out.2.1;have:=HI.out.2.2.2.1;first|rfl |(congr 1;unfold wrap64;omega)),HR.out.2.2.1.trans HB.out.1,HB.out.1.heap HR.out.2.2.2.1⟩)
  . obtain rfl:NC=c:=by omega
    have HF:=Lib.hid hbe;clear hk hc hlt hbe hblk;go_wp2;go_ret;exact⟨rfl,HF.out⟩
end Go.Proofs
