/- YtnjpcibdaanpeaaSCalls11: part 11 of the proof (the texts behind it, in order). -/
import Derived.Test.YtnjpcibdaanpeaaR10
set_option linter.unusedSimpArgs false
set_option linter.unusedVariables false
set_option linter.unusedSectionVars false
set_option linter.unnecessarySimpa false
set_option maxHeartbeats 4000000
set_option maxRecDepth 100000
namespace Go.Proofs
open Go Go.Conc Go.RowKit Go.Car
theorem strplay_calls{Fin:Machine->Trace->Prop}(hFin:Back Try.prog Fin){n:Nat}(hn:0<n){RP:Nat->Option Obj}{w:World}{wl Cw np Cn N Cs:Nat}{wp pp scp:Option Addr}{sp:Nat->Option Addr}{L Cp:Nat->Nat}{ops:Nat->List OpX}{ws sched:List Int}{mo:Int}
 (hwl:ws.length=wl) (hwn:wl<=4611686018427387904) (hws:0<wl->∃wb wo,wp=some ⟨wb,wo,none⟩/\∀i,i<wl->w.cell? ⟨wb,wo+i,none⟩=some (.int .i64 (ws.getD i 0)))
 (hRP:∀b o,RP b=some o->w.heap[b]?=some o) (ho:OpsAt w RP pp np N sp L Cp ops) (hsl:sched.length<=4611686018427387904)
 (hs:sched≠[]->∃sb off,scp=some ⟨sb,off,none⟩/\∀j x,sched[j]?=some x->w.cell? ⟨sb,off+j,none⟩=some (.int .i64 x))
 {c:Frame} {cs:List Frame}
 (hmain:∀ab ov sv am w',PlayedR N w (strT ws ops N mo sched) (strT ws ops N mo sched).s.1 ab ov sv am w'->
  J0 Try.prog Fin (n+N) (G (c.finish (.agg #[.slice (some ⟨ab,0,none⟩) N N,ov,sv,.bool (decide (0<leftN (strT ws ops N mo sched).ov N))])) cs) w'):
 J0 Try.prog Fin n (G (Frame.enter Try.prog 10 #[.slice wp wl Cw,.slice pp np Cn,.slice scp sched.length Cs,.int .i64 mo] .normal) (c::cs)) w:=by
 have hJ:=j0_JS hFin;have hC:=zq1n hFin;have e:Frame.enter Try.prog 10 #[.slice wp wl Cw,.slice pp np Cn,.slice scp sched.length Cs,.int .i64 mo] .normal=(bN 10).at (zqi Try.f10 #[.slice wp wl Cw,.slice pp np Cn,.slice scp sched.length Cs,.int .i64 mo]) [.code ((Try.f10.body).getD .skip)]:=by kernel_rfl
 have ea:zqi Try.f10 #[.slice wp wl Cw,.slice pp np Cn,.slice scp sched.length Cs,.int .i64 mo]=⟨#[.slice wp wl Cw,.slice pp np Cn,.slice scp sched.length Cs,.int .i64 mo,undef,undef,undef,undef,undef,undef,undef,undef,undef,undef,undef,undef,undef,undef,undef,undef,undef,undef,undef],[]⟩:=by kernel_rfl
 rw[e,ea,spl0];clear e ea;have hm:=Lib.hid hmain;clear hmain;obtain⟨H,hH⟩:∃H,w.heap.size=H:=⟨_,rfl⟩;refine hJ.ctl (s:=n) (λw=>stepG_seq) ?_;refine zq1l hJ hC zql (by kernel_rfl) (λt w'=>t=#[.slice wp wl Cw,.slice pp np Cn,.slice scp sched.length Cs,.int .i64 mo,undef,undef,undef,undef,.pointer (some ⟨H,0,none⟩),undef,undef,undef,undef,undef,undef,undef,undef,undef,undef,undef,undef,undef,undef]/\∃τ d,w'=re (w.alloc (.cells #[.slice none 0 0,.slice none 0 0,.slice none 0 0,.bool false] 31)) τ d) (λt w' τ d h=>⟨h.1,by obtain⟨τ',d',rfl⟩:=h.2;exact⟨τ,d,by rw[re_re]⟩⟩) (by decide) (λτ d=>?_) ?_
 · obtain⟨u0,hu0⟩:∃c,headC (splT 0)=c:=⟨_,rfl⟩;have eu0:=hu0;rw[hu0];simp only[splT,headC,tailN,Try.f10,al_od]at eu0;subst eu0;clear hu0 hs ho hRP hws;go_wp2;exact⟨rfl,rfl,τ,d,rfl⟩
 rintro t w' ⟨rfl,τ,d,rfl⟩;refine hJ.re' n _ _ τ d ?_;have hwa:(w.alloc (.cells #[.slice none 0 0,.slice none 0 0,.slice none 0 0,.bool false] 31)).heap.size=H+1:=by rw[zq5,hH]
 have hob:∀b,b<H->(w.alloc (.cells #[.slice none 0 0,.slice none 0 0,.slice none 0 0,.bool false] 31)).heap[b]?=w.heap[b]?:=λb hb=>by rw[zq2,if_neg (by omega)]
 have hzb:(w.alloc (.cells #[.slice none 0 0,.slice none 0 0,.slice none 0 0,.bool false] 31)).heap[H]?=some (.cells #[.slice none 0 0,.slice none 0 0,.slice none 0 0,.bool false] 31):=hH▸zqr w _;obtain⟨wa,hwae⟩:∃wa,w.alloc (.cells #[.slice none 0 0,.slice none 0 0,.slice none 0 0,.bool false] 31)=wa:=⟨_,rfl⟩;rw[hwae]at hwa hob hzb ⊢;clear hwae;refine hJ.ctl (s:=n) (λw=>stepG_seq) ?_;refine zq1l hJ hC zql (by kernel_rfl) (λt w'=>t=#[.slice wp wl Cw,.slice pp np Cn,.slice scp sched.length Cs,.int .i64 mo,undef,undef,undef,undef,.pointer (some ⟨H,0,none⟩),.pointer (some ⟨H+1+1,0,none⟩),undef,.slice wp wl Cw,.pointer (some ⟨H+1+1,0,none⟩),undef,undef,undef,undef,undef,undef,undef,undef,undef,undef]/\NewStr wa (stripesN wl) (zq13 ws) w') (λt w' τ d h=>⟨h.1,h.2.re τ d⟩) (by decide) (λτ d=>?_) ?_
 · obtain⟨u0,hu0⟩:∃c,headC (splT 1)=c:=⟨_,rfl⟩;have eu0:=hu0;rw[hu0];simp only[splT,headC,tailN,Try.f10,al_od]at eu0;subst eu0;clear hu0;have HM:=Lib.hid (begun_lone (p:=wp) (n:=wl) (C:=Cw) (ws:=ws) (re wa τ d) hwl hwn (λh0=>by
    obtain⟨wb,wo,e,h1⟩:=hws h0;exact⟨wb,wo,e,λi hi=>(zqd (hob wb (by rw[←hH];exact cell_lt (h1 i hi)))).trans (h1 i hi)⟩))
   have HH:=Lib.hid (And.intro hH hwa);clear hs ho hRP hws hob hzb hH hwa hwl hwn hsl
   go_wp2_with (fail)
   refine Calls.mono HM.out ?_;rintro e w' ⟨rfl,hR⟩;have hR2:RowKit.Hid (NewStr wa (stripesN wl) (zq13 ws) w'):=Lib.hid ⟨hR.rep,hR.size,hR.old⟩;clear hR;rw[show(re wa τ d).heap.size=H+1 from HH.out.2];go_wp2;exact⟨rfl,rfl,hR2.out⟩
 rintro t wb ⟨rfl,hR⟩;have hrep:=hR.rep;have hwb:=hR.size;have hobb:∀b,b<H->wb.heap[b]?=w.heap[b]?:=λb hb=>(hR.old b (by omega)).trans (hob b hb);have hzb2:wb.heap[H]?=some (.cells #[.slice none 0 0,.slice none 0 0,.slice none 0 0,.bool false] 31):=(hR.old H (by omega)).trans hzb;rw[hwa]at hrep hwb;clear hR hzb hob hwa;have hlt:∀b o,RP b=some o->b<H:=λb o h=>by rw[←hH];exact zq7 (hRP b o h)
 have hnf:∀b,(zq6 (H+1+1) (some (H+1)) (stripesN wl)).foot (zq13 ws) b->H+1<=b:=λb hb=>by
  rcases hb with e|e
  · omega
  · injection e with e;omega
 have hB:BRep (zq6 (H+1+1) (some (H+1)) (stripesN wl)) RP ⟨zq13 ws,λ_ _=>none⟩ wb:=by
  refine⟨hrep,λi b o h=>(by cases h),λb o h=>(hobb b (hlt b o h)).trans (hRP b o h),λi b h=>absurd rfl h,λi j b _ h=>absurd rfl h,λb h hf=>?_,λi b _=>rfl⟩;cases ho:RP b with
  |none=>exact h ho
  |some o=>have:=hlt b o ho;have:=hnf b hf;omega
 have hOp:OpsAt wb RP pp np N sp L Cp ops:=by
  refine⟨ho.eq,ho.le,λh0=>?_,ho.row,ho.len,ho.op⟩;obtain⟨tb,to',e,h1⟩:=ho.at' h0;exact⟨tb,to',e,λi hi=>(zqd (hobb tb (by rw[←hH];exact cell_lt (h1 i hi)))).trans (h1 i hi)⟩
 have hsc:sched≠[]->∃sb off,scp=some ⟨sb,off,none⟩/\¬(zq6 (H+1+1) (some (H+1)) (stripesN wl)).foot (zq13 ws) sb/\∀j x,sched[j]?=some x->wb.cell? ⟨sb,off+j,none⟩=some (.int .i64 x):=λh0=>by
  obtain⟨sb,off,e,h2⟩:=hs h0;obtain⟨x,l,hsl⟩:=List.exists_cons_of_ne_nil h0;have hlt:sb<H:=by rw[←hH];exact cell_lt (h2 0 x (by rw[hsl];rfl))
  exact⟨sb,off,e,λhf=>by have:=hnf sb hf;omega,λj x hj=>(zqd (hobb sb hlt)).trans (h2 j x hj)⟩
 have hst:=zq3h wl;clear ho hs hRP hlt hws;refine hJ.ctl (s:=n) (λw=>stepG_seq) ?_;obtain⟨u0,hu0⟩:∃c,headC (splT 2)=c:=⟨_,rfl⟩;have eu0:=hu0;rw[hu0];simp only[splT,headC,tailN,Try.f10,al_od]at eu0;subst eu0;clear hu0;refine hJ.ctl (s:=n) (λw=>stepG_region) ?_;have HX:=Lib.hid (And.intro hB (And.intro hOp (And.intro hsc (And.intro hnf (And.intro hobb (And.intro hzb2 hwb))))));have HE:=Lib.hid (And.intro hwl (And.intro hH (And.intro hst hrep.len)));clear hB hOp hsc hnf hobb hzb2 hwb hwl hH hst hrep;refine zqp (s:=n) (by decide) hJ (zqm _) true (.inl rfl) 0 5 3 rfl rfl rfl (by rfl) ?_;intro τ d;simp only[List.drop_zero,List.take_succ_cons,List.take_zero];go_wp2;simp only[zq8];refine hJ.re' n _ _ τ d ?_;refine zq1f (by decide) hJ (s:=n) rfl rfl (f:=26) (args:=#[.slice pp np Cn,.func (.func 27) #[.pointer (some ⟨H+1+1,0,none⟩)] #[],.slice scp sched.length Cs,.int .i64 mo]) (λτ d=>?_) (λτ d=>?_) ?_
 · simp[go_sem,execOp,Act.eval,resolve,Deferred.ofValue,invoke,callFunc,Try.func26,Try.f26]
 · intro e he;simp[go_sem,execOp,Act.eval,resolve,Deferred.ofValue,invoke,callFunc,Try.func26,Try.f26,Sem.runT_eq]at he
 obtain⟨hB,hOp,hsc,hnf,hobb,hzb2,hwb⟩:=HX.out;obtain⟨hwl,hH,hst,hlen⟩:=HE.out;refine ops_calls hFin hn zql rowsM (fn:=Try.f27) (cc:=(Try.f27.body).getD .skip) Try.func27 rfl rfl hB hOp hsl hsc (dop:=λ_=>doP (stripesN wl)) (λi op k=>doP_deep _ _ _) (λro ab pr st cr rest EN i o op _ _=>do_turn hst.1 hst.2 ro pr st cr rest EN i o op) ?_;intro ab v l' am w2 hO;rw[Frame.finish_at]
 walk_nrm
 have hTe:playT (λi=>opsP i (doP (stripesN wl)) (ops i)) N (min mo.toNat 1048576) sched ((zq6 (H+1+1) (some (H+1)) (stripesN wl)).st (zq13 ws),λ_=>[])=strT ws ops N mo sched:=by
  unfold strT strPr;rw[hwl];rfl
 rw[hTe]at hO ⊢;obtain⟨pv',cv',rfl,_⟩:=zq12 hO.row;have hl':(strT ws ops N mo sched).s.1=l':=hO.st.symm;have hze:w2.heap[H]?=some (.cells #[.slice none 0 0,.slice none 0 0,.slice none 0 0,.bool false] 31):=(hO.old H (by omega) (λh=>by have:=hnf H h;omega)).trans hzb2;generalize (strT ws ops N mo sched).ord.length=nv' at hO ⊢;have HO:=Lib.hid hO;have HZ:=Lib.hid (And.intro hze hl');obtain⟨stuck,hstuck⟩:∃x,decide (0<leftN (strT ws ops N mo sched).ov N)=x:=⟨_,rfl⟩;rw[hstuck];have HST:=Lib.hid hstuck;clear hstuck hO hze hl' hTe hB hOp hsc hnf hobb hzb2 hwb hwl hH hst hlen;have hwl:=HE.out.1;refine zqp (s:=n+N) (by decide) hJ (zqm _) false (.inr rfl) 6 2 0 rfl rfl rfl (by rfl) ?_;intro τ d;simp only[List.drop_succ_cons,List.drop_zero,List.take_succ_cons,List.take_zero];have HO2:=Lib.hid (HO.out.re τ d);have HZ2:RowKit.Hid ((re w2 τ d).heap[H]?=some (.cells #[.slice none 0 0,.slice none 0 0,.slice none 0 0,.bool false] 31)/\(strT ws ops N mo sched).s.1=l'):=Lib.hid HZ.out;clear HO HZ;generalize re w2 τ d=w3 at HO2 HZ2 ⊢;go_wp2;simp only[zq8];refine hJ.ctl (s:=n+N) (λw=>stepG_region_end) ?_;have hT:=zqr w3 (.cells #[.slice (some ⟨ab,0,none⟩) N N,.slice pv' nv' cv',.slice none 0 0,.bool stuck] 31);have hoT:∀b,b<w3.heap.size->(w3.alloc (.cells #[.slice (some ⟨ab,0,none⟩) N N,.slice pv' nv' cv',.slice none 0 0,.bool stuck] 31)).heap[b]?=w3.heap[b]?:=λb hb=>by rw[zq2,if_neg (by omega)]
 have hsT:(w3.alloc (.cells #[.slice (some ⟨ab,0,none⟩) N N,.slice pv' nv' cv',.slice none 0 0,.bool stuck] 31)).heap.size=w3.heap.size+1:=zq5 _ _;generalize (w3.alloc (.cells #[.slice (some ⟨ab,0,none⟩) N N,.slice pv' nv' cv',.slice none 0 0,.bool stuck] 31))=w4 at hT hoT hsT ⊢;obtain⟨T,hTT⟩:∃T,w3.heap.size=T:=⟨_,rfl⟩;rw[hTT]at hT hoT hsT ⊢;have HT:=Lib.hid (And.intro hT (And.intro hoT (And.intro hsT hTT)));clear hT hoT hsT hTT;refine zq3k hJ hC zql (by kernel_rfl) (λv w'=>∃sv am,v=.agg #[.slice (some ⟨ab,0,none⟩) N N,.slice pv' nv' cv',sv,.bool stuck]/\PlayedR N w (strT ws ops N mo sched) (strT ws ops N mo sched).s.1 ab (.slice pv' nv' cv') sv am w') (λv w' τ d⟨sv,am,h1,h2⟩=>⟨sv,am,h1,h2.re τ d⟩) rfl Try.func10 (λτ d=>?_) ?_
 · obtain⟨u0,hu0⟩:∃c,splT 3=c:=⟨_,rfl⟩;have eu0:=hu0;rw[hu0];simp only[splT,headC,tailN,Try.f10,al_od]at eu0;subst eu0;clear hu0;obtain⟨hT,hoT,hsT,hTT⟩:=HT.out;have hT':(re w4 τ d).heap[T]?=some (.cells #[.slice (some ⟨ab,0,none⟩) N N,.slice pv' nv' cv',.slice none 0 0,.bool stuck] 31):=hT;have hoT':∀b,b<T->(re w4 τ d).heap[b]?=w3.heap[b]?:=hoT;have hsT':(re w4 τ d).heap.size=T+1:=hsT;have hHl:H<T:=by rw[←hTT];exact zq7 HZ2.out.1
   have hall:=all_lone ((zq6 (H+1+1) (some (H+1)) (stripesN wl)).frame _ _ _ HO2.out.rep λb hb=>hoT' b (by rw[←hTT];exact(zq6 (H+1+1) (some (H+1)) (stripesN wl)).lt _ _ _ HO2.out.rep hb));generalize re w4 τ d=w5 at hT' hoT' hsT' hall ⊢;have HA:=Lib.hid hall;have HW:=Lib.hid (And.intro hT' (And.intro hoT' (And.intro hsT' (And.intro hTT hHl))));clear hT hoT hsT hTT hT' hoT' hsT' hall HT hHl hwl hm
   go_wp2_with (fail)
   refine Calls.mono HA.out ?_;rintro e w6 ⟨sv,rfl,hI⟩;obtain⟨sp',sc',rfl,-,-⟩:=zq12 hI.row;obtain⟨sl,hsl'⟩:∃x,l'.length=x:=⟨_,rfl⟩;rw[hsl']at hI ⊢;have hI2:=Lib.hid (And.intro hI hsl');clear hsl';have b1:w6.heap[T]?=some (.cells #[.slice (some ⟨ab,0,none⟩) N N,.slice pv' nv' cv',.slice none 0 0,.bool stuck] 31):=(hI.old T (by have:=HW.out.2.2.1;omega)).trans HW.out.1;have b0:w6.heap[H]?=some (.cells #[.slice none 0 0,.slice none 0 0,.slice none 0 0,.bool false] 31):=(hI.old H (by have:=HW.out.2.2.1;have:=HW.out.2.2.2.2;omega)).trans ((HW.out.2.1 H HW.out.2.2.2.2).trans HZ2.out.1);have hne:¬(T=H):=by have:=HW.out.2.2.2.2;omega
   have hne2:¬(H=T):=by omega
   clear hI;have c0:=(zq0 (off:=0) b1).trans rfl;have c1:=(zq0 (off:=1) b1).trans rfl;have c2:=(zq0 (off:=2) b1).trans rfl;have c3:=(zq0 (off:=3) b1).trans rfl;have y2:=zq3 (off:=2) b1;have r0:=(zq0 (off:=0) b0).trans rfl;have r1:=(zq0 (off:=1) b0).trans rfl;have r2:=(zq0 (off:=2) b0).trans rfl;have r3:=(zq0 (off:=3) b0).trans rfl;have z0:=zq3 (off:=0) b0;have z1:=zq3 (off:=1) b0;have z2:=zq3 (off:=2) b0;have z3:=zq3 (off:=3) b0;have B0:=Lib.hid b0;have B1:=Lib.hid b1;clear b0 b1;go_wp2;clear c0 c1 c2 c3 y2 r0 r1 r2 r3 z0 z1 z2 z3;have b0:(w6.setCell ⟨T,2,none⟩ (.slice sp' sl sc')).heap[H]?=some (.cells #[.slice none 0 0,.slice none 0 0,.slice none 0 0,.bool false] 31):=by rw[zq4 _ _ _ _ hne2];exact B0.out
   have b1':=zqb _ H 0 (.slice (some ⟨ab,0,none⟩) N N) b0;have b2':=zqb _ H 1 (.slice pv' nv' cv') b1';have b3':=zqb _ H 2 (.slice sp' sl sc') b2';have b4':=zqb _ H 3 (.bool stuck) b3';have hext:∀x,x≠T->x≠H->(((((w6.setCell ⟨T,2,none⟩ (.slice sp' sl sc')).setCell ⟨H,0,none⟩ (.slice (some ⟨ab,0,none⟩) N N)).setCell ⟨H,1,none⟩ (.slice pv' nv' cv')).setCell ⟨H,2,none⟩ (.slice sp' sl sc')).setCell ⟨H,3,none⟩ (.bool stuck)).heap[x]?=w6.heap[x]?:=λx hx1 hx=>by
    rw[zq4 _ _ _ _ hx,zq4 _ _ _ _ hx,zq4 _ _ _ _ hx,zq4 _ _ _ _ hx,zq4 _ _ _ _ hx1]
   have hsz8:(((((w6.setCell ⟨T,2,none⟩ (.slice sp' sl sc')).setCell ⟨H,0,none⟩ (.slice (some ⟨ab,0,none⟩) N N)).setCell ⟨H,1,none⟩ (.slice pv' nv' cv')).setCell ⟨H,2,none⟩ (.slice sp' sl sc')).setCell ⟨H,3,none⟩ (.bool stuck)).heap.size=w6.heap.size:=by simp only[zqq]
   generalize (((((w6.setCell ⟨T,2,none⟩ (.slice sp' sl sc')).setCell ⟨H,0,none⟩ (.slice (some ⟨ab,0,none⟩) N N)).setCell ⟨H,1,none⟩ (.slice pv' nv' cv')).setCell ⟨H,2,none⟩ (.slice sp' sl sc')).setCell ⟨H,3,none⟩ (.bool stuck))=w8 at b4' hext hsz8 ⊢;clear b1' b2' b3' b0;have k0:=(zq0 (off:=0) b4').trans rfl;have k1:=(zq0 (off:=1) b4').trans rfl;have k2:=(zq0 (off:=2) b4').trans rfl;have k3:=(zq0 (off:=3) b4').trans rfl;obtain⟨_,hoT,hsT,hTT,hHl⟩:=HW.out;obtain⟨hI,hsl2⟩:=hI2.out;have hwl:=HE.out.1;obtain⟨hB,hOp,hsc,hnf,hobb,hzb2,hwb⟩:=HX.out;have hrow:w8.ownsRow w3.heap.size 2 1 (.slice sp' sl sc') (strT ws ops N mo sched).s.1.length ((strT ws ops N mo sched).s.1.map (Value.int .i64)):=by
    rw[HZ2.out.2,hsl2];have hrI:=hI.row;rw[hsl2]at hrI;have q:w8.ownsRow w5.heap.size 2 1 (.slice sp' sl sc') sl (l'.map (Value.int .i64)):=zqs hrI λg hg=>by
     have h1:=(own_lt hrI hg).2.1;exact hext g (by omega) (by omega)
    exact zq2k q (by omega)
   have hfin:PlayedR N w (strT ws ops N mo sched) (strT ws ops N mo sched).s.1 ab (.slice pv' nv' cv') (.slice sp' sl sc') am w8:=by
    refine played_of HO2.out HE.out.2.1 (by omega) hobb hnf (by have:=hI.size;omega) (λx hx hxH=>?_) hrow;rw[hext x (by omega) hxH,hI.old x (by omega)];exact hoT x (by omega)
   refine⟨rfl,.agg #[.slice (some ⟨ab,0,none⟩) N N,.slice pv' nv' cv',.slice sp' sl sc',.bool stuck],?_,_,rfl,_,_,rfl,hfin⟩;simp only[results,Try.f10];simp[go_sem,k0,k1,k2,k3]
 · rintro v w' ⟨sv,am,rfl,h⟩;have h2:=hm.out _ _ sv am w' h;rw[HST.out]at h2;exact h2
section
variable {Ml S α:Type} {C:Core Ml S} {ro:Nat->Option Obj} {i:Nat}
theorem step_nil{main:Bool}{Kc:Addr->Option Value}{J:Goroutine->World->Prop}(hJ:JS Try.prog main Kc (λ(_:Unit)=>J))(hC:CalmJ Try.prog main (λ(_:Unit)=>J))(m₀:BM Ml)(w₀:World)(T:S×Option α×Nat):
 StepY (seqSys zql hJ hC C ro i 0 m₀ w₀ T) 33 #[.nilIface]:=by
 obtain⟨Y,hY⟩:∃Y,seqSys zql hJ hC C ro i 0 m₀ w₀ T=Y:=⟨_,rfl⟩;have hskip:∀(K:Unit->Proc S α)(s:Y.γ)(B:Nat->Option Obj)(w:World),Y.AtB B s w (Proc.tick.bind K)->Y.AtB B s w (K ()):=by
  subst hY;rintro K s B w ⟨m,h1,h2,h3⟩;exact⟨m,h1,LoneAt.skip h2,h3⟩
 rw[hY];clear hY;intro K s m w hA;refine BodyY.calls ⟨_,_,Try.func33,rfl,?_⟩;simp only[zqi,Try.ntmps33,List.size_toArray,List.length_cons,List.length_nil,Nat.reduceAdd,Nat.reduceSub,Array.replicate_succ,Array.replicate_zero,List.push_toArray,List.append_toArray,List.nil_append,List.cons_append];have hA:Y.AtB (m.box i) s w (Proc.tick.bind K):=⟨m,rfl,hA⟩;obtain⟨B,hB0⟩:∃B,m.box i=B:=⟨_,rfl⟩;rw[hB0]at hA ⊢;clear hB0;apply YSys.seq0 hA (by kernel_rfl)
 · intro wc hB;go_wp2;exact⟨rfl,Ext1.refl _,rfl⟩
 intro w hA;refine zq10 Y.jc rfl ?_;rw[if_neg (by decide)];refine zq2q Y.jc ?_;have h:=hskip K s B w hA;exact⟨rfl,.inl ⟨_,resultsC_none rfl _,(),h.choose,rfl,h.choose_spec⟩⟩
end
def unitCore:Core Unit Unit where
 foot _ _:=False
 Rep _ _:=True
 st l:=l
 frame _ _ _ h _:=h
 lt _ _ _ _ hb:=hb.elim
 pin _:=0
section
variable {M2 S2 α:Type} {D:Core M2 S2} {cb:Nat} {z:Option Nat} {N:Nat}
end
section
variable {α:Type} {cb:Nat} {z:Option Nat} {N:Nat} {l:List Int}
structure StrAft(cb:Nat)(z:Option Nat)(N:Nat)(l':List Int)(w w':World):Prop where
 rep:StrRep cb z N l' w'
 size:w.heap.size<=w'.heap.size
 old:∀b,b<w.heap.size->b≠cb->z≠some b->w'.heap[b]?=w.heap[b]?
end
def zq32(kb:Nat):Core Nat Unit where
 foot _ b:=b=kb
 Rep n w:=w.heap[kb]?=some (.cells #[.int .i64 (wrap64 n)] 39)
 st _:=()
 frame n w w' h hs:=(hs kb rfl).trans h
 lt n w b h hb:=by subst hb;exact zq7 h
 pin n:=n
theorem str_nilJ{Fin:Machine->Trace->Prop}(hFin:Back Try.prog Fin){n:Nat}{α:Type}{cb:Nat}{z:Option Nat}{N:Nat}{l:List Int}{f:FuncId}{args:Array Value}{p:Proc (List Int×Unit) α}{val:α->Value}{w:World}{a:α}{l':List Int}(hspec:∀Y:YSys Try.prog aM (zqa (zq6 cb z N) unitCore) (λ_=>none) 0 α,StrAtoms Y .nilIface->SpecY Y f args p val)(hT:(p.run (l,())).2.1=some a)(hl':(p.run (l,())).1.1=l')(h:StrRep cb z N l w){cl:Frame}{cs:List Frame}
 (hq:∀w',StrAft cb z N l' w w'->J0 Try.prog Fin n (G (cl.finish (val a)) cs) w'):J0 Try.prog Fin n (G (Frame.enter Try.prog f args .normal) (cl::cs)) w:=by
 have hJ:JS Try.prog true (λ_=>none) (λ(_:Unit)=>J0 Try.prog Fin n):=⟨λ_ g w τ d h=>(j0_JS hFin).re' n g w τ d h,λ_ g w h1 h2=>(j0_JS hFin).step n g w h1 h2⟩;have hC:CalmJ Try.prog true (λ(_:Unit)=>J0 Try.prog Fin n):=λ_ fr cs w h=>zq1n hFin n fr cs w h;have hpos:=h.pos;have hle:=h.le;refine seq_calls (C:=zqa (zq6 cb z N) unitCore) (ro:=λ_=>none) (i:=0) (p:=p) (val:=val) (m₀:=⟨(l,()),λ_ _=>none⟩) zql hJ hC ⟨⟨h,trivial,λb _ hb=>hb⟩,λi b o h=>(by cases h),λb o h=>(by cases h),λi b h=>absurd rfl h,λi j b _ h=>absurd rfl h,λb h=>absurd rfl h,λi b h=>rfl⟩ ⟨a,hT⟩ 0 (hspec _ (zq3b _ (λ_ _ _ _=>trivial) (λ_ _ _=>trivial) hpos hle (step_nil _ _ _ _ _))) ?_;intro a' m' w' _ hL;obtain⟨n',h1,_,_⟩:=hL.run;simp only[Tree.run,Prod.mk.injEq]at h1;obtain⟨h1,h2,rfl⟩:=h1;have e1:a'=a:=Option.some.inj (h2.trans hT);subst e1;have e2:m'.l.1=l':=(congrArg Prod.fst h1).trans hl';refine hq w' ⟨e2▸hL.rep.core.1,hL.size,λb hb h6 h7=>hL.old b hb ?_⟩;rintro(((h8|h8)|h8)|h9|h9)
 · exact h6 h8
 · exact h7 h8
 · exact h8.elim
 · exact h9.elim λi h=>absurd rfl h
 · exact absurd rfl h9
set_option maxHeartbeats 1000000
set_option maxRecDepth 100000
theorem zq38{w:World}{B:Nat}{T:TypeId}{v:Value}{l:List Int}(h:w.ownsRow B T 1 v l.length (l.map (Value.int .i64))):IntsAt w v l:=by
 rcases h.2 with⟨hv,h0⟩|⟨g,cap,cur,hv,hb,hh,h1,h2,h3,h4⟩
 · exact⟨none,0,by rw[hv,h0],λhne=>absurd (List.length_eq_zero_iff.1 h0) hne⟩
 · refine⟨_,cap,hv,λ_=>⟨g,0,rfl,λi hi=>?_⟩⟩;rw[zq0 hh,Nat.zero_add];have e:(l.map (Value.int .i64))[i]?=some (.int .i64 (l.getD i 0)):=by simp[hi]
   rw[←h4,List.getElem?_take,if_pos (by omega)]at e;simpa using e
theorem ints_of_nats{w:World}{B:Nat}{T:TypeId}{v:Value}{l:List Nat}(h:w.ownsRow B T 1 v l.length (l.map λ(i:Nat)=>.int .i64 i)):IntsAt w v (l.map λ(i:Nat)=>(i:Int)):=by
 refine zq38 (B:=B) (T:=T) ?_;rw[List.length_map,List.map_map];exact h
theorem rowB_ints{X:Nat->Option Obj}{T:TypeId}{v:Value}{l:List Int}{w:World}(h:RowB X T 1 v l.length (l.map (Value.int .i64)))(hX:∀b o,X b=some o->w.heap[b]?=some o):IntsAt w v l:=zq38 (h.own hX)
theorem ansL_get{tI:TypeId}{X:Nat->Option Obj}{l:List Ans}{cs:List Value}(h:AnsL tI X l cs):∀{i:Nat}{a:Ans},l[i]?=some a->∃Y sl,cs[i*3]?=some (.bool a.ok)/\cs[i*3+1]?=some (.int .i64 a.n)/\cs[i*3+2]?=some sl/\RowB Y tI 1 sl a.l.length (a.l.map (Value.int .i64))/\∀b o,Y b=some o->X b=some o:=by
 induction h with
 |nil=>intro i a hi;simp at hi
 |snoc h ha hd ih=>
  rename_i X Y l cs cs' a';intro i a hi;have hlen:=h.len;rcases Nat.lt_or_ge i l.length with hlt|hge
  · rw[List.getElem?_append_left hlt]at hi;obtain⟨Z,sl,h1,h2,h3,h4,h5⟩:=ih hi;refine⟨Z,sl,?_,?_,?_,h4,λb o hb=>?_⟩
    · rw[List.getElem?_append_left (by omega)];exact h1
    · rw[List.getElem?_append_left (by omega)];exact h2
    · rw[List.getElem?_append_left (by omega)];exact h3
    · have h6:=h5 b o hb;unfold orB;cases hY:Y b with
      |none=>simp[h6]
      |some y=>have:=hd b (by rw[hY];simp);rw[this]at h6;cases h6
  · have e:i=l.length:=by
     have:=(List.getElem?_eq_some_iff.1 hi).1;simp at this;omega
    subst e;simp at hi;subst hi;obtain⟨sl,rfl,hr⟩:=ha;refine⟨Y,sl,?_,?_,?_,hr,λb o hb=>by simp[orB,hb]⟩
    · rw[List.getElem?_append_right (by omega),hlen];simp
    · rw[List.getElem?_append_right (by omega),hlen];simp
    · rw[List.getElem?_append_right (by omega),hlen];simp
theorem ansR_at{tA tI:TypeId}{X:Nat->Option Obj}{hv:Value}{l:List Ans}{w:World}(h:AnsR tA tI X hv l)(hX:∀b o,X b=some o->w.heap[b]?=some o):AnsAt w hv l:=by
 obtain⟨Xr,XL,cs,hr,hL,rfl,hd⟩:=h;rcases hr.2 with⟨hv,h0,_⟩|⟨g,cap,cur,rfl,rfl,h1,h2,h3,h4⟩
 · exact⟨none,0,by rw[hv,h0],λhne=>absurd (List.length_eq_zero_iff.1 h0) hne⟩
 · refine⟨_,cap,rfl,λ_=>⟨g,0,rfl,λi a hi=>?_⟩⟩;have hg:w.heap[g]?=some (.cells cur tA (0,0)):=hX g _ (by simp[orB]);obtain⟨Y,sl,e1,e2,e3,e4,e5⟩:=ansL_get hL hi;have hil:=(List.getElem?_eq_some_iff.1 hi).1;have get:∀{j:Nat}{v:Value},j<l.length*3->cs[j]?=some v->w.cell? ⟨g,0+j,none⟩=some v:=λ{j v}hj e=>by
    rw[zq0 hg,Nat.zero_add];rw[←h4,List.getElem?_take,if_pos hj]at e;simpa using e
   refine⟨get (by omega) e1,?_,sl,?_,rowB_ints e4 λb o hb=>hX b o ?_⟩
   · exact get (by omega) e2
   · exact get (by omega) e3
   · have h6:=e5 b o hb
     by_cases hbg:b=g
     · subst hbg;have:=hd b (by simp);rw[this]at h6;cases h6
     · simp[orB,hbg,h6]
theorem ansRep_at{ab N:Nat}{m:AnsM}{w:World}(h:AnsRep tT ab N m w){i:Nat}(hi:i<N):w.cell? ⟨ab,i,none⟩=some (m.hv i)/\AnsAt w (m.hv i) (m.st i):=by
 refine⟨(zq0 h.hd).trans ?_,ansR_at (h.row i hi) λb o hb=>h.blk i b o hi hb⟩;simp[hi]
set_option maxHeartbeats 4000000
set_option maxRecDepth 100000
noncomputable def fxT(n:Nat):Code:=tailN n (Try.f8.body.getD .skip)
theorem fx0:Try.f8.body.getD .skip=.seq (headC (fxT 0)) (.seq (headC (fxT 1)) (.seq (headC (fxT 2)) (.seq (headC (fxT 3)) (.seq (headC (fxT 4)) (fxT 5))))):=by kernel_rfl
theorem two_ops{w:World}{rb p0 p1:Nat}{k:Int}(hr:w.heap[rb]?=some (.cells #[.slice (some ⟨p0,0,none⟩) 1 1,.slice (some ⟨p1,0,none⟩) 2 2] 34))(h0:w.heap[p0]?=some (.cells #[.int .i64 k,.int .i64 0,.int .i64 0,.int .i64 0] 46))(h1:w.heap[p1]?=some (.cells #[.int .i64 1,.int .i64 0,.int .i64 1,.int .i64 0,.int .i64 1,.int .i64 1,.int .i64 1,.int .i64 0] 46)):
 OpsAt w (λb=>if b=p0\/b=p1 then w.heap[b]? else none) (some ⟨rb,0,none⟩) 2 2 (λi=>if i=0 then some ⟨p0,0,none⟩else some ⟨p1,0,none⟩) (λi=>if i=0 then 1 else 2) (λi=>if i=0 then 1 else 2) (λi=>if i=0 then [⟨k,0,0,0⟩]else [⟨1,0,1,0⟩,⟨1,1,1,0⟩]):=by
 refine⟨rfl,by decide,λ_=>⟨rb,0,rfl,λi hi=>?_⟩,λi hi=>?_,λi hi=>?_,λi hi k' op hop=>?_⟩
 · rw[zq0 hr];obtain rfl |rfl:i=0\/i=1:=by omega
   · rfl
   · rfl
 · obtain rfl |rfl:i=0\/i=1:=by omega
   · exact⟨by decide,by decide,λh=>(by cases h)⟩
   · exact⟨by decide,by decide,λh=>(by cases h)⟩
 · obtain rfl |rfl:i=0\/i=1:=by omega
   · rfl
   · rfl
 · obtain rfl |rfl:i=0\/i=1:=by omega
   · refine⟨p0,0,_,_,_,rfl,by rw[if_pos (.inl rfl)];exact h0,λj hj=>?_⟩;obtain rfl:k'=0:=by have:=(List.getElem?_eq_some_iff.1 hop).1;simp at this;omega
     simp at hop;subst hop;obtain rfl |rfl |rfl |rfl:j=0\/j=1\/j=2\/j=3:=by omega
     all_goals rfl
   · refine⟨p1,0,_,_,_,rfl,by rw[if_pos (.inr rfl)];exact h1,λj hj=>?_⟩;obtain rfl |rfl:k'=0\/k'=1:=by have:=(List.getElem?_eq_some_iff.1 hop).1;simp at this;omega
     all_goals
      simp at hop;subst hop;obtain rfl |rfl |rfl |rfl:j=0\/j=1\/j=2\/j=3:=by omega
      all_goals rfl
def fxOps(k:Int)(i:Nat):List OpX:=if i=0 then [⟨k,0,0,0⟩]else [⟨1,0,1,0⟩,⟨1,1,1,0⟩]
theorem fx_sum:(strT [0,0] (fxOps 2) 2 99 [0,1,1,0]).s.2 0=[⟨true,1,[]⟩]:=by kernel_rfl
theorem fx_even:(strT [0,0] (fxOps 5) 2 99 [0,1,1,0,0]).s.2 0=[⟨false,0,[]⟩]:=by kernel_rfl
theorem fixed_calls{Fin:Machine->Trace->Prop}(hFin:Back Try.prog Fin){n:Nat}(hn:0<n){w:World}{c:Frame}{cs:List Frame}(hmain:∀w',Beyond w w'->J0 Try.prog Fin (n+4) (G (c.finish (.bool true)) cs) w'):
 J0 Try.prog Fin n (G (Frame.enter Try.prog 8 #[] .normal) (c::cs)) w:=by
 have hJ:=j0_JS hFin;have hC:=zq1n hFin;have e:Frame.enter Try.prog 8 #[] .normal=(bN 8).at (zqi Try.f8 #[]) [.code ((Try.f8.body).getD .skip)]:=by kernel_rfl
 have ea:zqi Try.f8 #[]=⟨#[undef,undef,undef,undef,undef,undef,undef,undef,undef,undef,undef,undef,undef,undef,undef,undef,undef,undef,undef,undef,undef,undef,undef,undef,undef,undef,undef,undef,undef,undef,undef,undef,undef,undef,undef,undef,undef,undef,undef,undef,undef,undef,undef,undef,undef,undef,undef,undef,undef,undef,undef,undef,undef,undef,undef,undef,undef,undef,undef,undef,undef,undef,undef,undef,undef,undef,undef,undef,undef,undef,undef,undef,undef,undef,undef,undef,undef,undef,undef,undef,undef,undef,undef,undef,undef,undef,undef,undef,undef,undef,undef,undef,undef,undef,undef,undef,undef,undef,undef,undef,undef,undef,undef,undef,undef,undef,undef],[]⟩:=by kernel_rfl
 rw[e,ea,fx0];clear e ea;have hm:=Lib.hid hmain;clear hmain;obtain⟨H,hH⟩:∃H,w.heap.size=H:=⟨_,rfl⟩;refine hJ.ctl (s:=n) (λw=>stepG_seq) ?_;refine zq1l hJ hC zql (by kernel_rfl) (λt w'=>t=#[.bool false,undef,undef,undef,undef,undef,undef,undef,undef,undef,undef,undef,undef,undef,undef,undef,undef,undef,undef,undef,undef,undef,undef,undef,undef,undef,undef,undef,undef,undef,undef,undef,undef,undef,undef,undef,undef,undef,undef,undef,undef,undef,undef,undef,undef,undef,undef,undef,undef,undef,undef,undef,undef,undef,undef,undef,undef,undef,undef,undef,undef,undef,undef,undef,undef,undef,undef,undef,undef,undef,undef,undef,undef,undef,undef,undef,undef,undef,undef,undef,undef,undef,undef,undef,undef,undef,undef,undef,undef,undef,undef,undef,undef,undef,undef,undef,undef,undef,undef,undef,undef,undef,undef,undef,undef,undef,undef]/\∃τ d,w'=re (w) τ d) (λt w' τ d h=>⟨h.1,by obtain⟨τ',d',rfl⟩:=h.2;exact⟨τ,d,by rw[re_re]⟩⟩) (by decide) (λτ d=>?_) ?_
 · obtain⟨u0,hu0⟩:∃c,headC (fxT 0)=c:=⟨_,rfl⟩;have eu0:=hu0;rw[hu0];simp only[fxT,headC,tailN,Try.f8,al_od]at eu0;subst eu0;clear hu0;go_wp2;exact⟨rfl,rfl,τ,d,rfl⟩
 rintro t w' ⟨rfl,τ,d,rfl⟩;refine hJ.re' n _ _ τ d ?_;refine hJ.ctl (s:=n) (λw=>stepG_seq) ?_;refine zq1l hJ hC zql (by kernel_rfl) (λt w'=>t=#[.bool false,.slice (some ⟨H,0,none⟩) 2 2,undef,undef,undef,undef,.slice (some ⟨H,0,none⟩) 2 2,undef,undef,undef,undef,undef,undef,undef,undef,undef,undef,undef,undef,undef,undef,undef,undef,undef,undef,undef,undef,undef,undef,undef,undef,undef,undef,undef,undef,undef,undef,undef,undef,undef,undef,undef,undef,undef,undef,undef,undef,undef,undef,undef,undef,undef,undef,undef,undef,undef,undef,undef,undef,undef,undef,undef,undef,undef,undef,undef,undef,undef,undef,undef,undef,undef,undef,undef,undef,undef,undef,undef,undef,undef,undef,undef,undef,undef,undef,undef,undef,undef,undef,undef,undef,undef,undef,undef,undef,undef,undef,undef,undef,undef,undef,undef,undef,undef,undef,undef,undef]/\∃τ d,w'=re (w.alloc (.cells #[.int .i64 0,.int .i64 0] 2)) τ d) (λt w' τ d h=>⟨h.1,by obtain⟨τ',d',rfl⟩:=h.2;exact⟨τ,d,by rw[re_re]⟩⟩) (by decide) (λτ d=>?_) ?_
 · obtain⟨u0,hu0⟩:∃c,headC (fxT 1)=c:=⟨_,rfl⟩;have eu0:=hu0;rw[hu0];simp only[fxT,headC,tailN,Try.f8,al_od]at eu0;subst eu0;clear hu0;go_wp2;exact⟨rfl,rfl,τ,d,rfl⟩
 rintro t w' ⟨rfl,τ,d,rfl⟩;refine hJ.re' n _ _ τ d ?_;refine hJ.ctl (s:=n) (λw=>stepG_seq) ?_;refine zq1l hJ hC zql (by kernel_rfl) (λt w'=>t=#[.bool false,.slice (some ⟨H,0,none⟩) 2 2,.slice (some ⟨H+1,0,none⟩) 2 2,undef,undef,undef,.slice (some ⟨H,0,none⟩) 2 2,.agg #[.int .i64 1,.int .i64 0,.int .i64 1,.int .i64 0],.agg #[.int .i64 1,.int .i64 1,.int .i64 1,.int .i64 0],.slice (some ⟨H+1,0,none⟩) 2 2,undef,undef,undef,undef,undef,undef,undef,undef,undef,undef,undef,undef,undef,undef,undef,undef,undef,undef,undef,undef,undef,undef,undef,undef,undef,undef,undef,undef,undef,undef,undef,undef,undef,undef,undef,undef,undef,undef,undef,undef,undef,undef,undef,undef,undef,undef,undef,undef,undef,undef,undef,undef,undef,undef,undef,undef,undef,undef,undef,undef,undef,undef,undef,undef,undef,undef,undef,undef,undef,undef,undef,undef,undef,undef,undef,undef,undef,undef,undef,undef,undef,undef,undef,undef,undef,undef,undef,undef,undef,undef,undef,undef,undef,undef,undef,undef,undef]/\∃τ d,w'=re ((w.alloc (.cells #[.int .i64 0,.int .i64 0] 2)).alloc (.cells #[.int .i64 1,.int .i64 0,.int .i64 1,.int .i64 0,.int .i64 1,.int .i64 1,.int .i64 1,.int .i64 0] 46)) τ d) (λt w' τ d h=>⟨h.1,by obtain⟨τ',d',rfl⟩:=h.2;exact⟨τ,d,by rw[re_re]⟩⟩) (by decide) (λτ d=>?_) ?_
 · obtain⟨u0,hu0⟩:∃c,headC (fxT 2)=c:=⟨_,rfl⟩;have eu0:=hu0;rw[hu0];simp only[fxT,headC,tailN,Try.f8,al_od]at eu0;subst eu0;clear hu0;go_wp2;exact⟨rfl,rfl,τ,d,rfl⟩
 rintro t w' ⟨rfl,τ,d,rfl⟩;refine hJ.re' n _ _ τ d ?_;have HIA:RowKit.Hid (((w.alloc (.cells #[.int .i64 0,.int .i64 0] 2)).alloc (.cells #[.int .i64 1,.int .i64 0,.int .i64 1,.int .i64 0,.int .i64 1,.int .i64 1,.int .i64 1,.int .i64 0] 46)).heap.size=H+2/\((w.alloc (.cells #[.int .i64 0,.int .i64 0] 2)).alloc (.cells #[.int .i64 1,.int .i64 0,.int .i64 1,.int .i64 0,.int .i64 1,.int .i64 1,.int .i64 1,.int .i64 0] 46)).heap[H]?=some (.cells #[.int .i64 0,.int .i64 0] 2)/\((w.alloc (.cells #[.int .i64 0,.int .i64 0] 2)).alloc (.cells #[.int .i64 1,.int .i64 0,.int .i64 1,.int .i64 0,.int .i64 1,.int .i64 1,.int .i64 1,.int .i64 0] 46)).heap[H+1]?=some (.cells #[.int .i64 1,.int .i64 0,.int .i64 1,.int .i64 0,.int .i64 1,.int .i64 1,.int .i64 1,.int .i64 0] 46)/\H+1<H+2):=by
  refine Lib.hid ⟨by simp only[zq5];omega,?_,?_,by omega⟩
  · rw[←hH];exact zqe (zqr _ _)
  · rw[←hH,zq2,if_pos (by rw[zq5])]
 have HB0:RowKit.Hid (Beyond w ((w.alloc (.cells #[.int .i64 0,.int .i64 0] 2)).alloc (.cells #[.int .i64 1,.int .i64 0,.int .i64 1,.int .i64 0,.int .i64 1,.int .i64 1,.int .i64 1,.int .i64 0] 46))):=Lib.hid ((Beyond.alloc _ _).trans (Beyond.alloc _ _));generalize (w.alloc (.cells #[.int .i64 0,.int .i64 0] 2)).alloc (.cells #[.int .i64 1,.int .i64 0,.int .i64 1,.int .i64 0,.int .i64 1,.int .i64 1,.int .i64 1,.int .i64 0] 46)=w2 at HIA HB0 ⊢;refine hJ.ctl (s:=n) (λw=>stepG_seq) ?_;obtain⟨u3,hu3⟩:∃c,headC (fxT 3)=c:=⟨_,rfl⟩;have eu3:=hu3;rw[hu3];simp only[fxT,headC,tailN,Try.f8,al_od]at eu3;subst eu3;clear hu3;refine hJ.ctl (s:=n) (λw=>stepG_region) ?_;refine zqp (s:=n) (by decide) hJ (zqm _) false (.inr rfl) 0 6 3 rfl rfl rfl (by rfl) ?_;intro τ d;simp only[List.drop_zero,List.take_succ_cons,List.take_zero];have HFA:RowKit.Hid ((re w2 τ d).heap.size=(H+2)/\(re w2 τ d).heap[H]?=some (.cells #[.int .i64 0,.int .i64 0] 2)/\(re w2 τ d).heap[H+1]?=some (.cells #[.int .i64 1,.int .i64 0,.int .i64 1,.int .i64 0,.int .i64 1,.int .i64 1,.int .i64 1,.int .i64 0] 46)/\Beyond w2 (re w2 τ d)/\H+1<(H+2)):=Lib.hid ⟨HIA.out.1,HIA.out.2.1,HIA.out.2.2.1,Beyond.re _ _ _,HIA.out.2.2.2⟩;generalize re w2 τ d=vA at HFA ⊢;go_wp2;simp only[zq8];have HWA:RowKit.Hid (Beyond vA (((vA.alloc (.cells #[.int .i64 2,.int .i64 0,.int .i64 0,.int .i64 0] 46)).alloc (.cells #[.slice (some ⟨(H+2),0,none⟩) 1 1,.slice (some ⟨H+1,0,none⟩) 2 2] 34)).alloc (.cells #[.int .i64 0,.int .i64 1,.int .i64 1,.int .i64 0] 3))/\(((vA.alloc (.cells #[.int .i64 2,.int .i64 0,.int .i64 0,.int .i64 0] 46)).alloc (.cells #[.slice (some ⟨(H+2),0,none⟩) 1 1,.slice (some ⟨H+1,0,none⟩) 2 2] 34)).alloc (.cells #[.int .i64 0,.int .i64 1,.int .i64 1,.int .i64 0] 3)).heap[(H+2)]?=some (.cells #[.int .i64 2,.int .i64 0,.int .i64 0,.int .i64 0] 46)/\(((vA.alloc (.cells #[.int .i64 2,.int .i64 0,.int .i64 0,.int .i64 0] 46)).alloc (.cells #[.slice (some ⟨(H+2),0,none⟩) 1 1,.slice (some ⟨H+1,0,none⟩) 2 2] 34)).alloc (.cells #[.int .i64 0,.int .i64 1,.int .i64 1,.int .i64 0] 3)).heap[(H+2)+1]?=some (.cells #[.slice (some ⟨(H+2),0,none⟩) 1 1,.slice (some ⟨H+1,0,none⟩) 2 2] 34)/\(((vA.alloc (.cells #[.int .i64 2,.int .i64 0,.int .i64 0,.int .i64 0] 46)).alloc (.cells #[.slice (some ⟨(H+2),0,none⟩) 1 1,.slice (some ⟨H+1,0,none⟩) 2 2] 34)).alloc (.cells #[.int .i64 0,.int .i64 1,.int .i64 1,.int .i64 0] 3)).heap[(H+2)+2]?=some (.cells #[.int .i64 0,.int .i64 1,.int .i64 1,.int .i64 0] 3)):=by
  have e:=HFA.out.1;refine Lib.hid ⟨((Beyond.alloc _ _).trans (Beyond.alloc _ _)).trans (Beyond.alloc _ _),?_,?_,?_⟩
  · rw[←e];exact zqe (zqe (zqr _ _))
  · rw[←e];refine zqe ?_;rw[zq2,if_pos (by rw[zq5])]
  · rw[←e,zq2,if_pos (by simp only[zq5])]
 rw[HFA.out.1];generalize (((vA.alloc (.cells #[.int .i64 2,.int .i64 0,.int .i64 0,.int .i64 0] 46)).alloc (.cells #[.slice (some ⟨(H+2),0,none⟩) 1 1,.slice (some ⟨H+1,0,none⟩) 2 2] 34)).alloc (.cells #[.int .i64 0,.int .i64 1,.int .i64 1,.int .i64 0] 3))=WA at HWA ⊢;refine zq1f (by decide) hJ (s:=n) rfl rfl (f:=10) (args:=#[.slice (some ⟨H,0,none⟩) 2 2,.slice (some ⟨(H+2)+1,0,none⟩) 2 2,.slice (some ⟨(H+2)+1+1,0,none⟩) 4 4,.int .i64 99]) (λτ d=>?_) (λτ d=>?_) ?_
 · simp[go_sem,execOp,Act.eval,resolve,Deferred.ofValue,invoke,callFunc,Try.func10,Try.f10]
 · intro e he;simp[go_sem,execOp,Act.eval,resolve,Deferred.ofValue,invoke,callFunc,Try.func10,Try.f10,Sem.runT_eq]at he
 have b0A:=HWA.out.1.heap HFA.out.2.1;have b1A:=HWA.out.1.heap HFA.out.2.2.1;refine strplay_calls hFin (n:=n) (by omega) (RP:=λb=>if b=(H+2)\/b=H+1 then WA.heap[b]? else none) (ws:=[0,0]) (sched:=[0,1,1,0]) (wp:=some ⟨H,0,none⟩) (ops:=fxOps 2) (N:=2) rfl (by decide) (λ_=>⟨H,0,rfl,λi hi=>?_⟩) (λb o hb=>?_) (two_ops HWA.out.2.2.1 HWA.out.2.1 b1A) (by decide) (λ_=>⟨(H+2)+1+1,0,rfl,λj x hj=>?_⟩) ?_
 · have hi:i<2:=hi;rw[zq0 b0A];obtain rfl |rfl:i=0\/i=1:=by omega
   all_goals rfl
 · split at hb
   · exact hb
   · cases hb
 · rw[zq0 HWA.out.2.2.2,Nat.zero_add];have hlj:=(List.getElem?_eq_some_iff.1 hj).1;simp only[List.length_cons,List.length_nil]at hlj;obtain rfl |rfl |rfl |rfl:j=0\/j=1\/j=2\/j=3:=by omega
   all_goals(simp at hj;subst hj;rfl)
 intro abA ovA svA amA wpA hRA;rw[Frame.finish_at]
 walk_nrm
 obtain⟨opA,ocA,rfl,-,-⟩:=zq12 hRA.orow;obtain⟨spA,scA,rfl,-,-⟩:=zq12 hRA.srow;generalize (strT [0,0] (fxOps 2) 2 99 [0,1,1,0]).ord.length=olA at hRA ⊢;generalize (strT [0,0] (fxOps 2) 2 99 [0,1,1,0]).s.1.length=slA at hRA ⊢;have HRA:=Lib.hid hRA;clear hRA b0A b1A;generalize decide (0<leftN (strT [0,0] (fxOps 2) 2 99 [0,1,1,0]).ov 2)=stkA;refine zqp (s:=n+2) (by decide) hJ (zqm _) false (.inr rfl) 7 2 0 rfl rfl rfl (by rfl) ?_;intro τ d;simp only[List.drop_succ_cons,List.drop_zero,List.take_succ_cons,List.take_zero];have HSA:RowKit.Hid (PlayedR 2 WA (strT [0,0] (fxOps 2) 2 99 [0,1,1,0]) (strT [0,0] (fxOps 2) 2 99 [0,1,1,0]).s.1 abA (.slice opA olA ocA) (.slice spA slA scA) amA (re wpA τ d)):=Lib.hid (HRA.out.re τ d);generalize re wpA τ d=xA at HSA ⊢;clear HRA;go_wp2;simp only[zq8];refine hJ.ctl (s:=n+2) (λw=>stepG_region_end) ?_;have HTA:RowKit.Hid ((xA.alloc (.cells #[.slice (some ⟨abA,0,none⟩) 2 2,.slice opA olA ocA,.slice spA slA scA,.bool stkA] 31)).heap[xA.heap.size]?=some (.cells #[.slice (some ⟨abA,0,none⟩) 2 2,.slice opA olA ocA,.slice spA slA scA,.bool stkA] 31)/\Beyond xA (xA.alloc (.cells #[.slice (some ⟨abA,0,none⟩) 2 2,.slice opA olA ocA,.slice spA slA scA,.bool stkA] 31))/\(xA.alloc (.cells #[.slice (some ⟨abA,0,none⟩) 2 2,.slice opA olA ocA,.slice spA slA scA,.bool stkA] 31)).heap.size=xA.heap.size+1):=Lib.hid ⟨zqr _ _,Beyond.alloc _ _,zq5 _ _⟩;generalize (xA.alloc (.cells #[.slice (some ⟨abA,0,none⟩) 2 2,.slice opA olA ocA,.slice spA slA scA,.bool stkA] 31))=yA at HTA ⊢;obtain⟨tA,htA⟩:∃t,xA.heap.size=t:=⟨_,rfl⟩;rw[htA]at HTA ⊢;have HXA:=Lib.hid htA;clear htA;have HBA:RowKit.Hid (Beyond w yA):=Lib.hid (((((HB0.out.trans HFA.out.2.2.2.1).trans HWA.out.1).trans ⟨HSA.out.size,HSA.out.old⟩)).trans HTA.out.2.1);have HIB:RowKit.Hid (yA.heap.size=tA+1/\yA.heap[H]?=some (.cells #[.int .i64 0,.int .i64 0] 2)/\yA.heap[H+1]?=some (.cells #[.int .i64 1,.int .i64 0,.int .i64 1,.int .i64 0,.int .i64 1,.int .i64 1,.int .i64 1,.int .i64 0] 46)/\H+1<tA+1):=by
  have q:Beyond vA yA:=(HWA.out.1.trans ⟨HSA.out.size,HSA.out.old⟩).trans HTA.out.2.1;refine Lib.hid ⟨HTA.out.2.2,q.heap HFA.out.2.1,q.heap HFA.out.2.2.1,?_⟩;have h1:=zq7 (q.heap HFA.out.2.2.1);have h2:=HTA.out.2.2;omega
 refine hJ.ctl (s:=n+2) (λw=>stepG_seq) ?_;obtain⟨u4,hu4⟩:∃c,headC (fxT 4)=c:=⟨_,rfl⟩;have eu4:=hu4;rw[hu4];simp only[fxT,headC,tailN,Try.f8,al_od]at eu4;subst eu4;clear hu4;refine hJ.ctl (s:=n+2) (λw=>stepG_region) ?_;refine zqp (s:=n+2) (by decide) hJ (zqm _) false (.inr rfl) 0 6 3 rfl rfl rfl (by rfl) ?_;intro τ d;simp only[List.drop_zero,List.take_succ_cons,List.take_zero];have HFB:RowKit.Hid ((re yA τ d).heap.size=(tA+1)/\(re yA τ d).heap[H]?=some (.cells #[.int .i64 0,.int .i64 0] 2)/\(re yA τ d).heap[H+1]?=some (.cells #[.int .i64 1,.int .i64 0,.int .i64 1,.int .i64 0,.int .i64 1,.int .i64 1,.int .i64 1,.int .i64 0] 46)/\Beyond yA (re yA τ d)/\H+1<(tA+1)):=Lib.hid ⟨HIB.out.1,HIB.out.2.1,HIB.out.2.2.1,Beyond.re _ _ _,HIB.out.2.2.2⟩;generalize re yA τ d=vB at HFB ⊢;go_wp2;simp only[zq8];have HWB:RowKit.Hid (Beyond vB (((vB.alloc (.cells #[.int .i64 5,.int .i64 0,.int .i64 0,.int .i64 0] 46)).alloc (.cells #[.slice (some ⟨(tA+1),0,none⟩) 1 1,.slice (some ⟨H+1,0,none⟩) 2 2] 34)).alloc (.cells #[.int .i64 0,.int .i64 1,.int .i64 1,.int .i64 0,.int .i64 0] 3))/\(((vB.alloc (.cells #[.int .i64 5,.int .i64 0,.int .i64 0,.int .i64 0] 46)).alloc (.cells #[.slice (some ⟨(tA+1),0,none⟩) 1 1,.slice (some ⟨H+1,0,none⟩) 2 2] 34)).alloc (.cells #[.int .i64 0,.int .i64 1,.int .i64 1,.int .i64 0,.int .i64 0] 3)).heap[(tA+1)]?=some (.cells #[.int .i64 5,.int .i64 0,.int .i64 0,.int .i64 0] 46)/\(((vB.alloc (.cells #[.int .i64 5,.int .i64 0,.int .i64 0,.int .i64 0] 46)).alloc (.cells #[.slice (some ⟨(tA+1),0,none⟩) 1 1,.slice (some ⟨H+1,0,none⟩) 2 2] 34)).alloc (.cells #[.int .i64 0,.int .i64 1,.int .i64 1,.int .i64 0,.int .i64 0] 3)).heap[(tA+1)+1]?=some (.cells #[.slice (some ⟨(tA+1),0,none⟩) 1 1,.slice (some ⟨H+1,0,none⟩) 2 2] 34)/\(((vB.alloc (.cells #[.int .i64 5,.int .i64 0,.int .i64 0,.int .i64 0] 46)).alloc (.cells #[.slice (some ⟨(tA+1),0,none⟩) 1 1,.slice (some ⟨H+1,0,none⟩) 2 2] 34)).alloc (.cells #[.int .i64 0,.int .i64 1,.int .i64 1,.int .i64 0,.int .i64 0] 3)).heap[(tA+1)+2]?=some (.cells #[.int .i64 0,.int .i64 1,.int .i64 1,.int .i64 0,.int .i64 0] 3)):=by
  have e:=HFB.out.1;refine Lib.hid ⟨((Beyond.alloc _ _).trans (Beyond.alloc _ _)).trans (Beyond.alloc _ _),?_,?_,?_⟩
  · rw[←e];exact zqe (zqe (zqr _ _))
  · rw[←e];refine zqe ?_;rw[zq2,if_pos (by rw[zq5])]
  · rw[←e,zq2,if_pos (by simp only[zq5])]
 rw[HFB.out.1];generalize (((vB.alloc (.cells #[.int .i64 5,.int .i64 0,.int .i64 0,.int .i64 0] 46)).alloc (.cells #[.slice (some ⟨(tA+1),0,none⟩) 1 1,.slice (some ⟨H+1,0,none⟩) 2 2] 34)).alloc (.cells #[.int .i64 0,.int .i64 1,.int .i64 1,.int .i64 0,.int .i64 0] 3))=WB at HWB ⊢;refine zq1f (by decide) hJ (s:=n+2) rfl rfl (f:=10) (args:=#[.slice (some ⟨H,0,none⟩) 2 2,.slice (some ⟨(tA+1)+1,0,none⟩) 2 2,.slice (some ⟨(tA+1)+1+1,0,none⟩) 5 5,.int .i64 99]) (λτ d=>?_) (λτ d=>?_) ?_
 · simp[go_sem,execOp,Act.eval,resolve,Deferred.ofValue,invoke,callFunc,Try.func10,Try.f10]
 · intro e he;simp[go_sem,execOp,Act.eval,resolve,Deferred.ofValue,invoke,callFunc,Try.func10,Try.f10,Sem.runT_eq]at he
 have b0B:=HWB.out.1.heap HFB.out.2.1;have b1B:=HWB.out.1.heap HFB.out.2.2.1;refine strplay_calls hFin (n:=n+2) (by omega) (RP:=λb=>if b=(tA+1)\/b=H+1 then WB.heap[b]? else none) (ws:=[0,0]) (sched:=[0,1,1,0,0]) (wp:=some ⟨H,0,none⟩) (ops:=fxOps 5) (N:=2) rfl (by decide) (λ_=>⟨H,0,rfl,λi hi=>?_⟩) (λb o hb=>?_) (two_ops HWB.out.2.2.1 HWB.out.2.1 b1B) (by decide) (λ_=>⟨(tA+1)+1+1,0,rfl,λj x hj=>?_⟩) ?_
 · have hi:i<2:=hi;rw[zq0 b0B];obtain rfl |rfl:i=0\/i=1:=by omega
   all_goals rfl
 · split at hb
   · exact hb
   · cases hb
 · rw[zq0 HWB.out.2.2.2,Nat.zero_add];have hlj:=(List.getElem?_eq_some_iff.1 hj).1;simp only[List.length_cons,List.length_nil]at hlj;obtain rfl |rfl |rfl |rfl |rfl:j=0\/j=1\/j=2\/j=3\/j=4:=by omega
   all_goals(simp at hj;subst hj;rfl)
 intro abB ovB svB amB wpB hRB;rw[Frame.finish_at]
 walk_nrm
 obtain⟨opB,ocB,rfl,-,-⟩:=zq12 hRB.orow;obtain⟨spB,scB,rfl,-,-⟩:=zq12 hRB.srow;generalize (strT [0,0] (fxOps 5) 2 99 [0,1,1,0,0]).ord.length=olB at hRB ⊢;generalize (strT [0,0] (fxOps 5) 2 99 [0,1,1,0,0]).s.1.length=slB at hRB ⊢;have HRB:=Lib.hid hRB;clear hRB b0B b1B;generalize decide (0<leftN (strT [0,0] (fxOps 5) 2 99 [0,1,1,0,0]).ov 2)=stkB;refine zqp (s:=n+2+2) (by decide) hJ (zqm _) false (.inr rfl) 7 2 0 rfl rfl rfl (by rfl) ?_;intro τ d;simp only[List.drop_succ_cons,List.drop_zero,List.take_succ_cons,List.take_zero];have HSB:RowKit.Hid (PlayedR 2 WB (strT [0,0] (fxOps 5) 2 99 [0,1,1,0,0]) (strT [0,0] (fxOps 5) 2 99 [0,1,1,0,0]).s.1 abB (.slice opB olB ocB) (.slice spB slB scB) amB (re wpB τ d)):=Lib.hid (HRB.out.re τ d);generalize re wpB τ d=xB at HSB ⊢;clear HRB;go_wp2;simp only[zq8];refine hJ.ctl (s:=n+2+2) (λw=>stepG_region_end) ?_;have HTB:RowKit.Hid ((xB.alloc (.cells #[.slice (some ⟨abB,0,none⟩) 2 2,.slice opB olB ocB,.slice spB slB scB,.bool stkB] 31)).heap[xB.heap.size]?=some (.cells #[.slice (some ⟨abB,0,none⟩) 2 2,.slice opB olB ocB,.slice spB slB scB,.bool stkB] 31)/\Beyond xB (xB.alloc (.cells #[.slice (some ⟨abB,0,none⟩) 2 2,.slice opB olB ocB,.slice spB slB scB,.bool stkB] 31))/\(xB.alloc (.cells #[.slice (some ⟨abB,0,none⟩) 2 2,.slice opB olB ocB,.slice spB slB scB,.bool stkB] 31)).heap.size=xB.heap.size+1):=Lib.hid ⟨zqr _ _,Beyond.alloc _ _,zq5 _ _⟩;generalize (xB.alloc (.cells #[.slice (some ⟨abB,0,none⟩) 2 2,.slice opB olB ocB,.slice spB slB scB,.bool stkB] 31))=yB at HTB ⊢;obtain⟨tB,htB⟩:∃t,xB.heap.size=t:=⟨_,rfl⟩;rw[htB]at HTB ⊢;have HXB:=Lib.hid htB;clear htB;have HBB:RowKit.Hid (Beyond w yB):=Lib.hid ((((HBA.out.trans HFB.out.2.2.2.1).trans HWB.out.1).trans ⟨HSB.out.size,HSB.out.old⟩).trans HTB.out.2.1);have HQ:RowKit.Hid (Beyond xA yB/\yB.heap[tA]?=some (.cells #[.slice (some ⟨abA,0,none⟩) 2 2,.slice opA olA ocA,.slice spA slA scA,.bool stkA] 31)/\Beyond xB yB/\yB.heap[tB]?=some (.cells #[.slice (some ⟨abB,0,none⟩) 2 2,.slice opB olB ocB,.slice spB slB scB,.bool stkB] 31)):=by
  have q:Beyond yA yB:=((HFB.out.2.2.2.1.trans HWB.out.1).trans ⟨HSB.out.size,HSB.out.old⟩).trans HTB.out.2.1;exact Lib.hid ⟨HTA.out.2.1.trans q,q.heap HTA.out.1,HTB.out.2.1,HTB.out.1⟩
 have HBy:RowKit.Hid (Beyond w yB):=Lib.hid HBB.out;have qA:Beyond xA yB:=HQ.out.1;have qB:Beyond xB yB:=HQ.out.2.2.1;have hA1:=ansRep_at HSA.out.ans (i:=0) (by decide);have hB1:=ansRep_at HSB.out.ans (i:=0) (by decide);rw[HSA.out.ast,fx_sum]at hA1;rw[HSB.out.ast,fx_even]at hB1;obtain⟨a1,pa,ca,a2,a3⟩:=hA1;obtain⟨b1,pb,cb,b2,b3⟩:=hB1;obtain⟨ga,oa,rfl,a4⟩:=a3 (by simp);obtain⟨gb,ob',rfl,b4⟩:=b3 (by simp);obtain⟨a5,a6,_⟩:=a4 0 _ rfl;obtain⟨b5,b6,_⟩:=b4 0 _ rfl;rw[a2]at a1;rw[b2]at b1;have tA0:=(zq0 (off:=0) HQ.out.2.1).trans rfl;have tB0:=(zq0 (off:=0) HQ.out.2.2.2).trans rfl;replace a1:=qA.cell a1;replace a5:=qA.cell a5;replace a6:=qA.cell a6;replace b1:=qB.cell b1;replace b5:=qB.cell b5;replace b6:=qB.cell b6;simp only[List.length_cons,List.length_nil,Nat.zero_add,Nat.zero_mul,Nat.add_zero]at a1 b1 a5 a6 b5 b6;clear qA qB a2 b2 a3 b3 a4 b4 HQ HBB HSA HSB HTA HTB HXA HXB HFA HFB HWA HWB HIA HIB HBA HB0;rw[show fxT 5=.seq (headC (fxT 5)) (.seq (headC (fxT 6)) (.seq (headC (fxT 7)) (fxT 8)))by kernel_rfl];refine hJ.ctl (s:=n+2+2) (λw=>stepG_seq) ?_;have FA:=Lib.hid (And.intro a1 (And.intro a5 (And.intro a6 (And.intro b1 (And.intro b5 (And.intro b6 (And.intro tA0 tB0)))))));clear a1 a5 a6 b1 b5 b6 tA0 tB0;refine zq1l hJ hC zql (by kernel_rfl) (λt w'=>t=#[.bool false,.slice (some ⟨H,0,none⟩) 2 2,.slice (some ⟨H+1,0,none⟩) 2 2,.pointer (some ⟨tA,0,none⟩),.pointer (some ⟨tB,0,none⟩),undef,.slice (some ⟨H,0,none⟩) 2 2,.agg #[.int .i64 1,.int .i64 0,.int .i64 1,.int .i64 0],.agg #[.int .i64 1,.int .i64 1,.int .i64 1,.int .i64 0],.slice (some ⟨H+1,0,none⟩) 2 2,.slice (some ⟨H,0,none⟩) 2 2,.agg #[.int .i64 2,.int .i64 0,.int .i64 0,.int .i64 0],.slice (some ⟨(H+2),0,none⟩) 1 1,.slice (some ⟨H+1,0,none⟩) 2 2,.slice (some ⟨(H+2)+1,0,none⟩) 2 2,.slice (some ⟨(H+2)+1+1,0,none⟩) 4 4,.agg #[.slice (some ⟨abA,0,none⟩) 2 2,.slice opA olA ocA,.slice spA slA scA,.bool stkA],.slice (some ⟨H,0,none⟩) 2 2,.agg #[.int .i64 5,.int .i64 0,.int .i64 0,.int .i64 0],.slice (some ⟨(tA+1),0,none⟩) 1 1,.slice (some ⟨H+1,0,none⟩) 2 2,.slice (some ⟨(tA+1)+1,0,none⟩) 2 2,.slice (some ⟨(tA+1)+1+1,0,none⟩) 5 5,.agg #[.slice (some ⟨abB,0,none⟩) 2 2,.slice opB olB ocB,.slice spB slB scB,.bool stkB],.pointer (some ⟨tA,0,none⟩),.slice (some ⟨abA,0,none⟩) 2 2,.int .i64 2,.bool false,.bool false,.pointer (some ⟨tA,0,none⟩),.slice (some ⟨abA,0,none⟩) 2 2,.pointer (some ⟨abA,0,none⟩),.slice (some ⟨ga,oa,none⟩) 1 ca,.int .i64 1,.bool false,.bool false,.bool false,.pointer (some ⟨tA,0,none⟩),.slice (some ⟨abA,0,none⟩) 2 2,.pointer (some ⟨abA,0,none⟩),.slice (some ⟨ga,oa,none⟩) 1 ca,.pointer (some ⟨ga,oa,none⟩),.pointer (some ⟨ga,oa+1,none⟩),.int .i64 1,.bool false,.bool false,.bool false,.pointer (some ⟨tB,0,none⟩),.slice (some ⟨abB,0,none⟩) 2 2,.int .i64 2,.bool false,.bool false,.bool false,.pointer (some ⟨tB,0,none⟩),.slice (some ⟨abB,0,none⟩) 2 2,.pointer (some ⟨abB,0,none⟩),.slice (some ⟨gb,ob',none⟩) 1 cb,.int .i64 1,.bool false,.bool false,.bool false,.pointer (some ⟨tB,0,none⟩),.slice (some ⟨abB,0,none⟩) 2 2,.pointer (some ⟨abB,0,none⟩),.slice (some ⟨gb,ob',none⟩) 1 cb,.pointer (some ⟨gb,ob',none⟩),.pointer (some ⟨gb,ob',none⟩),.bool false,.bool false,.bool false,.pointer (some ⟨tB,0,none⟩),.slice (some ⟨abB,0,none⟩) 2 2,.pointer (some ⟨abB,0,none⟩),.slice (some ⟨gb,ob',none⟩) 1 cb,.pointer (some ⟨gb,ob',none⟩),.pointer (some ⟨gb,ob'+1,none⟩),.int .i64 0,.bool false,.bool false,undef,undef,undef,undef,undef,undef,undef,undef,undef,undef,undef,undef,undef,undef,undef,undef,undef,undef,undef,undef,undef,undef,undef,undef,undef,undef,undef,undef]/\∃τ d,w'=re yB τ d) (λt w' τ d h=>⟨h.1,by obtain⟨τ',d',rfl⟩:=h.2;exact⟨τ,d,by rw[re_re]⟩⟩) (by decide) (λτ d=>?_) ?_
 · obtain⟨u0,hu0⟩:∃c,headC (fxT 5)=c:=⟨_,rfl⟩;have eu0:=hu0;rw[hu0];simp only[fxT,headC,tailN,Try.f8,al_od]at eu0;subst eu0;clear hu0 hm;obtain⟨a1,a5,a6,b1,b5,b6,tA0,tB0⟩:=FA.out;have HRE:RowKit.Hid (∃τ' d',re yB τ d=re yB τ' d'):=Lib.hid ⟨τ,d,rfl⟩;have hcl:∀a,(re yB τ d).cell? a=yB.cell? a:=λa=>rfl;rw[←hcl]at a1 a5 a6 b1 b5 b6 tA0 tB0;clear hcl FA;generalize re yB τ d=z0 at HRE a1 a5 a6 b1 b5 b6 tA0 tB0 ⊢;go_wp2;exact⟨rfl,rfl,HRE.out⟩
 rintro t w' ⟨rfl,τ,d,rfl⟩;refine hJ.re' (n+2+2) _ _ τ d ?_;clear FA;obtain⟨K,hK⟩:∃K,yB.heap.size=K:=⟨_,rfl⟩;have HK:=Lib.hid hK;clear hK;refine hJ.ctl (s:=n+2+2) (λw=>stepG_seq) ?_;refine zq1l hJ hC zql (by kernel_rfl) (λt w'=>t=#[.bool false,.slice (some ⟨H,0,none⟩) 2 2,.slice (some ⟨H+1,0,none⟩) 2 2,.pointer (some ⟨tA,0,none⟩),.pointer (some ⟨tB,0,none⟩),.pointer (some ⟨K+1,0,none⟩),.slice (some ⟨H,0,none⟩) 2 2,.agg #[.int .i64 1,.int .i64 0,.int .i64 1,.int .i64 0],.agg #[.int .i64 1,.int .i64 1,.int .i64 1,.int .i64 0],.slice (some ⟨H+1,0,none⟩) 2 2,.slice (some ⟨H,0,none⟩) 2 2,.agg #[.int .i64 2,.int .i64 0,.int .i64 0,.int .i64 0],.slice (some ⟨(H+2),0,none⟩) 1 1,.slice (some ⟨H+1,0,none⟩) 2 2,.slice (some ⟨(H+2)+1,0,none⟩) 2 2,.slice (some ⟨(H+2)+1+1,0,none⟩) 4 4,.agg #[.slice (some ⟨abA,0,none⟩) 2 2,.slice opA olA ocA,.slice spA slA scA,.bool stkA],.slice (some ⟨H,0,none⟩) 2 2,.agg #[.int .i64 5,.int .i64 0,.int .i64 0,.int .i64 0],.slice (some ⟨(tA+1),0,none⟩) 1 1,.slice (some ⟨H+1,0,none⟩) 2 2,.slice (some ⟨(tA+1)+1,0,none⟩) 2 2,.slice (some ⟨(tA+1)+1+1,0,none⟩) 5 5,.agg #[.slice (some ⟨abB,0,none⟩) 2 2,.slice opB olB ocB,.slice spB slB scB,.bool stkB],.pointer (some ⟨tA,0,none⟩),.slice (some ⟨abA,0,none⟩) 2 2,.int .i64 2,.bool false,.bool false,.pointer (some ⟨tA,0,none⟩),.slice (some ⟨abA,0,none⟩) 2 2,.pointer (some ⟨abA,0,none⟩),.slice (some ⟨ga,oa,none⟩) 1 ca,.int .i64 1,.bool false,.bool false,.bool false,.pointer (some ⟨tA,0,none⟩),.slice (some ⟨abA,0,none⟩) 2 2,.pointer (some ⟨abA,0,none⟩),.slice (some ⟨ga,oa,none⟩) 1 ca,.pointer (some ⟨ga,oa,none⟩),.pointer (some ⟨ga,oa+1,none⟩),.int .i64 1,.bool false,.bool false,.bool false,.pointer (some ⟨tB,0,none⟩),.slice (some ⟨abB,0,none⟩) 2 2,.int .i64 2,.bool false,.bool false,.bool false,.pointer (some ⟨tB,0,none⟩),.slice (some ⟨abB,0,none⟩) 2 2,.pointer (some ⟨abB,0,none⟩),.slice (some ⟨gb,ob',none⟩) 1 cb,.int .i64 1,.bool false,.bool false,.bool false,.pointer (some ⟨tB,0,none⟩),.slice (some ⟨abB,0,none⟩) 2 2,.pointer (some ⟨abB,0,none⟩),.slice (some ⟨gb,ob',none⟩) 1 cb,.pointer (some ⟨gb,ob',none⟩),.pointer (some ⟨gb,ob',none⟩),.bool false,.bool false,.bool false,.pointer (some ⟨tB,0,none⟩),.slice (some ⟨abB,0,none⟩) 2 2,.pointer (some ⟨abB,0,none⟩),.slice (some ⟨gb,ob',none⟩) 1 cb,.pointer (some ⟨gb,ob',none⟩),.pointer (some ⟨gb,ob'+1,none⟩),.int .i64 0,.bool false,.bool false,.pointer (some ⟨K+1,0,none⟩),undef,undef,undef,undef,undef,undef,undef,undef,undef,undef,undef,undef,undef,undef,undef,undef,undef,undef,undef,undef,undef,undef,undef,undef,undef,undef,undef]/\NewStr yB 2 [0,0] w') (λt w' τ d h=>⟨h.1,h.2.re τ d⟩) (by decide) (λτ d=>?_) ?_
 · obtain⟨u0,hu0⟩:∃c,headC (fxT 6)=c:=⟨_,rfl⟩;have eu0:=hu0;rw[hu0];simp only[fxT,headC,tailN,Try.f8,al_od]at eu0;subst eu0;clear hu0 hm;have HN:=Lib.hid (new_lone 2 (re yB τ d));have hs0:(re yB τ d).heap.size=K:=HK.out;have HS0:=Lib.hid hs0;clear hs0
   go_wp2_with (fail)
   refine Calls.mono HN.out ?_;rintro e w' ⟨rfl,hR⟩;have hR2:RowKit.Hid (NewStr yB 2 [0,0] w'):=Lib.hid ⟨hR.rep,hR.size,hR.old⟩;clear hR;rw[HS0.out];go_wp2;exact⟨rfl,rfl,hR2.out⟩
 rintro t c0 ⟨rfl,hR⟩;have hrep:=hR.rep;rw[HK.out]at hrep;have HB1:RowKit.Hid (Beyond w c0):=Lib.hid (HBy.out.trans ⟨by have:=hR.size;omega,hR.old⟩);have HC0:RowKit.Hid (StrRep (K+1) (some K) 2 [0,0] c0):=Lib.hid hrep;have HBw:=HBy;clear hR hrep HBy;refine hJ.ctl (s:=n+2+2) (λw=>stepG_seq) ?_;obtain⟨u7,hu7⟩:∃c,headC (fxT 7)=c:=⟨_,rfl⟩;have eu7:=hu7;rw[hu7];simp only[fxT,headC,tailN,Try.f8,al_od]at eu7;subst eu7;clear hu7;refine hJ.ctl (s:=n+2+2) (λw=>stepG_region) ?_;have HKW:RowKit.Hid (w.heap.size<=K):=Lib.hid (by have h1:=HBw.out.1;have h2:=HK.out;omega);refine zqp (s:=n+2+2) (by decide) hJ (zqm _) false (.inr rfl) 0 4 24 rfl rfl rfl (by rfl) ?_;intro τ d;simp only[List.drop_succ_cons,List.drop_zero,List.take_succ_cons,List.take_zero];go_wp2;simp only[zq8];refine hJ.re' (n+2+2) _ _ τ d ?_;refine zq1f (by decide) hJ (s:=n+2+2) rfl rfl (f:=21) (args:=#[.pointer (some ⟨K+1,0,none⟩),.nilIface,.int .i64 0,.int .i64 5]) (λτ d=>?_) (λτ d=>?_) ?_
 · simp[go_sem,execOp,Act.eval,resolve,Deferred.ofValue,invoke,callFunc,Try.func21,Try.f21]
 · intro e he;simp[go_sem,execOp,Act.eval,resolve,Deferred.ofValue,invoke,callFunc,Try.func21,Try.f21,Sem.runT_eq]at he
 refine str_nilJ hFin (p:=addP 2 0 5) (l:=[0,0]) (l':=[5,0]) (a:=5) (λY hst=>(zq2r Y hst 0 5).spec) (by kernel_rfl) (by kernel_rfl) HC0.out ?_;intro c1 hA;have HC1:=Lib.hid hA.rep;have HB2:RowKit.Hid (Beyond w c1):=Lib.hid ⟨Nat.le_trans HB1.out.1 hA.size,λb hb=>(hA.old b (Nat.lt_of_lt_of_le hb HB1.out.1) (by have h1:=HKW.out;omega) (λe=>by have h1:=HKW.out;injection e with e;omega)).trans (HB1.out.2 b hb)⟩;clear hA;rw[Frame.finish_at]
 walk_nrm
 refine zqp (s:=n+2+2) (by decide) hJ (zqm _) false (.inr rfl) 5 4 19 rfl rfl rfl (by rfl) ?_;intro τ d;simp only[List.drop_succ_cons,List.drop_zero,List.take_succ_cons,List.take_zero];go_wp2;simp only[zq8];refine hJ.re' (n+2+2) _ _ τ d ?_;refine zq1f (by decide) hJ (s:=n+2+2) rfl rfl (f:=21) (args:=#[.pointer (some ⟨K+1,0,none⟩),.nilIface,.int .i64 3,.int .i64 7]) (λτ d=>?_) (λτ d=>?_) ?_
 · simp[go_sem,execOp,Act.eval,resolve,Deferred.ofValue,invoke,callFunc,Try.func21,Try.f21]
 · intro e he;simp[go_sem,execOp,Act.eval,resolve,Deferred.ofValue,invoke,callFunc,Try.func21,Try.f21,Sem.runT_eq]at he
 refine str_nilJ hFin (p:=addP 2 3 7) (l:=[5,0]) (l':=[5,7]) (a:=7) (λY hst=>(zq2r Y hst 3 7).spec) (by kernel_rfl) (by kernel_rfl) HC1.out ?_;intro c2 hA;have HC2:=Lib.hid hA.rep;have HB3:RowKit.Hid (Beyond w c2):=Lib.hid ⟨Nat.le_trans HB2.out.1 hA.size,λb hb=>(hA.old b (Nat.lt_of_lt_of_le hb HB2.out.1) (by have h1:=HKW.out;omega) (λe=>by have h1:=HKW.out;injection e with e;omega)).trans (HB2.out.2 b hb)⟩;clear hA;rw[Frame.finish_at]
 walk_nrm
 refine zqp (s:=n+2+2) (by decide) hJ (zqm _) false (.inr rfl) 10 4 14 rfl rfl rfl (by rfl) ?_;intro τ d;simp only[List.drop_succ_cons,List.drop_zero,List.take_succ_cons,List.take_zero];go_wp2;simp only[zq8];refine hJ.re' (n+2+2) _ _ τ d ?_;refine zq1f (by decide) hJ (s:=n+2+2) rfl rfl (f:=18) (args:=#[.pointer (some ⟨K+1,0,none⟩)]) (λτ d=>?_) (λτ d=>?_) ?_
 · simp[go_sem,execOp,Act.eval,resolve,Deferred.ofValue,invoke,callFunc,Try.func18,Try.f18]
 · intro e he;simp[go_sem,execOp,Act.eval,resolve,Deferred.ofValue,invoke,callFunc,Try.func18,Try.f18,Sem.runT_eq]at he
 refine zq2f hJ hC zql Try.func18 rfl (by kernel_rfl) (R:=λv w'=>v=.int .i64 12/\Beyond c2 w') (λv w' τ d h=>⟨h.1,h.2.trans (Beyond.re _ _ _)⟩) (λτ d=>Calls.mono (total_lone ((zq6 _ _ _).frame _ _ _ HC2.out λ_ _=>rfl)) ?_) ?_
 · rintro e w' ⟨rfl,h1,h2⟩;exact⟨_,rfl,by rw[show zq1h [5,7]=12 by kernel_rfl],h1,h2⟩
 rintro _ c3 ⟨rfl,hA⟩;have HC3:RowKit.Hid (StrRep (K+1) (some K) 2 [5,7] c3):=Lib.hid ((zq6 _ _ _).frame _ _ _ HC2.out λb hb=>hA.2 b ((zq6 _ _ _).lt _ _ _ HC2.out hb));have HB4:RowKit.Hid (Beyond w c3):=Lib.hid (HB3.out.trans hA);clear hA;rw[Frame.finish_at]
 walk_nrm
 refine zqp (s:=n+2+2) (by decide) hJ (zqm _) false (.inr rfl) 15 4 9 rfl rfl rfl (by rfl) ?_;intro τ d;simp only[List.drop_succ_cons,List.drop_zero,List.take_succ_cons,List.take_zero];go_wp2;simp only[zq8];refine hJ.re' (n+2+2) _ _ τ d ?_;refine zq1f (by decide) hJ (s:=n+2+2) rfl rfl (f:=23) (args:=#[.pointer (some ⟨K+1,0,none⟩),.nilIface]) (λτ d=>?_) (λτ d=>?_) ?_
 · simp[go_sem,execOp,Act.eval,resolve,Deferred.ofValue,invoke,callFunc,Try.func23,Try.f23]
 · intro e he;simp[go_sem,execOp,Act.eval,resolve,Deferred.ofValue,invoke,callFunc,Try.func23,Try.f23,Sem.runT_eq]at he
 refine str_nilJ hFin (p:=takeP 2) (l:=[5,7]) (l':=[0,0]) (a:=12) (λY hst=>(take_spec Y hst).spec) (by kernel_rfl) (by kernel_rfl) HC3.out ?_;intro c4 hA;have HC4:=Lib.hid hA.rep;have HB5:RowKit.Hid (Beyond w c4):=Lib.hid ⟨Nat.le_trans HB4.out.1 hA.size,λb hb=>(hA.old b (Nat.lt_of_lt_of_le hb HB4.out.1) (by have h1:=HKW.out;omega) (λe=>by have h1:=HKW.out;injection e with e;omega)).trans (HB4.out.2 b hb)⟩;clear hA;rw[Frame.finish_at]
 walk_nrm
 refine zqp (s:=n+2+2) (by decide) hJ (zqm _) false (.inr rfl) 20 4 4 rfl rfl rfl (by rfl) ?_;intro τ d;simp only[List.drop_succ_cons,List.drop_zero,List.take_succ_cons,List.take_zero];go_wp2;simp only[zq8];refine hJ.re' (n+2+2) _ _ τ d ?_;refine zq1f (by decide) hJ (s:=n+2+2) rfl rfl (f:=18) (args:=#[.pointer (some ⟨K+1,0,none⟩)]) (λτ d=>?_) (λτ d=>?_) ?_
 · simp[go_sem,execOp,Act.eval,resolve,Deferred.ofValue,invoke,callFunc,Try.func18,Try.f18]
 · intro e he;simp[go_sem,execOp,Act.eval,resolve,Deferred.ofValue,invoke,callFunc,Try.func18,Try.f18,Sem.runT_eq]at he
 refine zq2f hJ hC zql Try.func18 rfl (by kernel_rfl) (R:=λv w'=>v=.int .i64 0/\Beyond c4 w') (λv w' τ d h=>⟨h.1,h.2.trans (Beyond.re _ _ _)⟩) (λτ d=>Calls.mono (total_lone ((zq6 _ _ _).frame _ _ _ HC4.out λ_ _=>rfl)) ?_) ?_
 · rintro e w' ⟨rfl,h1,h2⟩;exact⟨_,rfl,by rw[show zq1h [0,0]=0 by kernel_rfl],h1,h2⟩
 rintro _ c5 ⟨rfl,hA⟩;have HC5:RowKit.Hid (StrRep (K+1) (some K) 2 [0,0] c5):=Lib.hid ((zq6 _ _ _).frame _ _ _ HC4.out λb hb=>hA.2 b ((zq6 _ _ _).lt _ _ _ HC4.out hb));have HB6:RowKit.Hid (Beyond w c5):=Lib.hid (HB5.out.trans hA);clear hA;rw[Frame.finish_at]
 walk_nrm
 refine zqp (s:=n+2+2) (by decide) hJ (zqm _) false (.inr rfl) 25 3 0 rfl rfl rfl (by rfl) ?_;intro τ d;simp only[List.drop_succ_cons,List.drop_zero,List.take_succ_cons,List.take_zero];go_wp2;simp only[zq8];refine hJ.re' (n+2+2) _ _ τ d ?_;refine hJ.ctl (s:=n+2+2) (λw=>stepG_region_end) ?_;refine zq3k hJ hC zql (by kernel_rfl) (λv w'=>v=.bool true/\Beyond w w') (λv w' τ d h=>⟨h.1,h.2.trans (Beyond.re _ _ _)⟩) rfl Try.func8 (λτ d=>?_) ?_
 · obtain⟨u0,hu0⟩:∃c,fxT 8=c:=⟨_,rfl⟩;have eu0:=hu0;rw[hu0];simp only[fxT,headC,tailN,Try.f8,al_od]at eu0;subst eu0;clear hu0 hm;go_wp2;go_ret;exact⟨_,rfl,rfl,HB6.out.trans (Beyond.re _ _ _)⟩
 · rintro v w' ⟨rfl,h⟩;exact hm.out w' h
end Go.Proofs
set_option maxHeartbeats 1000000
namespace Go.Car
open Go Go.Conc Go.RowKit
open Go.ConcN (upd upd_ne upd_same)
section
variable {P:Program} {main:Bool} {γ:Type} {J:γ->Goroutine->World->Prop}
def backOkJ(ops:Array Oper):Bool:=(List.range ops.size).all λi=>match ops[i]? with
 |some o=>o.after.all (λe=>!Region.binds .any e || decide (e.on<i))
 |none=>false
theorem at_drawsJ(hJ:JS P main (λ_=>none) J){b:Frame}{k:List Item}{cs:List Frame}(hb:b.kind≠.early)(hm:P.follows .mixedOrders=true){id:Nat}{ops:Array Oper}{T₀:Array Value}{ds:List Deferred}{s:γ}{w:World}(I:(Nat->Bool)->Array Value->World->Prop)
 (hback:backOkJ ops=true) (hre:∀L T w τ d,I L T w->I L T (re w τ d)) (hI:I (λ_=>false) T₀ w)
 (hstep:∀(L:Nat->Bool)(T:Array Value)(w:World)(i:Nat)(o:Oper),I L T w->L i=false->ops[i]?=some o->(∀e∈o.after,Region.binds .any e=true->L e.on=true)->
  ∀rest:List Nat,(∀T' w',I (upd L i true) T' w'->J s (G (b.at ⟨T',ds⟩ (.inRegion ops rest::k)) cs) w')->J s (G (b.at ⟨T,ds⟩ (.inRegion ops (i::rest)::k)) cs) w)
 (hend:∀L T w,(∀i,i<ops.size->L i=true)->I L T w->J s (G (b.at ⟨T,ds⟩ (.inRegion ops []::k)) cs) w):J s (G (b.at ⟨T₀,ds⟩ (.code (.region id ops true)::k)) cs) w:=by
 have hb':∀i o,ops[i]?=some o->∀e∈o.after,Region.binds .any e=true->e.on<i:=by
  intro i o ho;have hlt:=(Array.getElem?_eq_some_iff.1 ho).1;unfold backOkJ at hback;rw[List.all_eq_true]at hback;have:=hback i (List.mem_range.2 hlt);rw[ho]at this;simp only[Array.all_eq_true_iff_forall_mem]at this;exact λe he hbe=>by have:=this e he;simpa[hbe]using this
 have key:∀(fuel t:Nat)(listed:Array Bool)(L:Nat->Bool)(T:Array Value)(w:World),listed.size=ops.size->left listed=fuel->(∀i,i<ops.size->listed.getD i false=L i)->I L T w->
  J s (G (b.at ⟨T,ds⟩ (.inRegion ops (Region.linearise.go .any ops fuel t listed [])::k)) cs) w:=by
  intro fuel
  induction fuel with
  |zero=>
   intro t listed L T w hsz hl hL hi;refine hend L T w (λi hlt=>?_) hi;rw[←hL i hlt];have hlt':i<listed.size:=by omega
   cases hv:listed[i]with
   |true=>simp[hlt',hv]
   |false=>have:=left_pos (listed:=listed) (i:=i) (by simp[hlt',hv]);omega
  |succ fuel ih=>
   intro t listed L T w hsz hl hL hi;simp only[Region.linearise.go];change J s (G (b.at ⟨T,ds⟩ (.inRegion ops (match (Region.ready .any ops listed)[t % (Region.ready .any ops listed).length]? with
    |some i=>Region.linearise.go .any ops fuel (t / (Region.ready .any ops listed).length) (listed.setIfInBounds i true) [i]
    |none=>[].reverse)::k)) cs) w
   have hun:∃i,listed.getD i true=false:=by
    refine Classical.byContradiction λhn=>?_;have:left listed=0:=by
     unfold left;rw[List.length_eq_zero_iff,List.filter_eq_nil_iff];intro x hx hxx;obtain⟨i,hi,rfl⟩:=List.getElem_of_mem hx;have hi':i<listed.size:=by simpa using hi
     have e:listed.toList[i]=listed[i]:=by simp
     rw[e]at hxx;exact hn ⟨i,by simp[hi'];simpa using hxx⟩
    omega
   have hready:∃i,i∈Region.ready .any ops listed:=by
    have:∀m i,m=i->listed.getD i true=false->∃j,j∈Region.ready .any ops listed:=by
     intro m
     induction m using Nat.strongRecOn with
     |_ m ihm=>
      intro i hi hun;subst hi;have hops:m<ops.size:=by have:=zq1s hun;omega
      by_cases hall:∀e∈(ops[m]'hops).after,Region.binds .any e=true->listed.getD e.on false=true
      · exact⟨m,mem_ready.2 ⟨hun,_,Array.getElem?_eq_getElem hops,hall⟩⟩
      · obtain⟨e,he⟩:=Classical.not_forall.1 hall;obtain⟨h1,he⟩:=Classical.not_imp.1 he;obtain⟨h2,he⟩:=Classical.not_imp.1 he;have hlt':=hb' m _ (Array.getElem?_eq_getElem hops) e h1 h2;refine ihm e.on hlt' e.on rfl ?_;have:e.on<listed.size:=by omega
        simp[this]at he ⊢;exact he
    obtain⟨i,hi⟩:=hun;exact this i i rfl hi
   cases hi':(Region.ready .any ops listed)[t % (Region.ready .any ops listed).length]? with
   |none=>
    exfalso;obtain⟨i,hi''⟩:=hready;have hpos:0<(Region.ready .any ops listed).length:=List.length_pos_of_mem hi'';have hlt:=Nat.mod_lt t hpos;rw[List.getElem?_eq_none_iff]at hi';omega
   |some i=>
    have hmem:=List.mem_of_getElem? hi';obtain⟨hun,o,ho,hall⟩:=mem_ready.1 hmem;have hilt:i<ops.size:=by have:=zq1s hun;omega
    simp only[];rw[linearise_go_acc,List.reverse_singleton,List.singleton_append];have hbk:=hb' i o ho;have hLi:L i=false:=by
     rw[←hL i hilt];have hlt':i<listed.size:=by omega
     simp[hlt']at hun ⊢;exact hun
    have hld:left (listed.setIfInBounds i true)+1=left listed:=left_set hun;have hL':∀j,j<ops.size->(listed.setIfInBounds i true).getD j false=upd L i true j:=λj hj=>by
     by_cases e:i=j
     · subst e;have:i<listed.size:=by omega
       rw[upd_same];simp[this]
     · rw[getD_set_ne false e,upd_ne _ _ (λx=>e x.symm)];exact hL j hj
    have hall':∀e∈o.after,Region.binds .any e=true->L e.on=true:=λe he hbe=>by
     rw[←hL e.on (by have:=hbk e he hbe;omega)];exact hall e he hbe
    exact hstep L T w i o hi hLi ho hall' _ λT' w' hI'=>ih _ _ (upd L i true) _ _ (by simpa using hsz) (by omega) hL' hI'
 refine hJ.step _ _ _ rfl λτ d=>⟨_,_,#[],stepG_region_draw (a:=⟨T₀,ds⟩),?_,by simp,?_⟩
 · exact OkD.refl _ _ _
 · refine hJ.re' s _ w τ (d+1) ?_;simp only[Region.schedule,hm,Bool.true_or,if_true,Region.linearise];refine key _ _ _ (λ_=>false) _ _ (by simp) ?_ (λi hi=>by simp[hi]) hI;unfold left;simp
end
def chkW(ops:Array Oper)(n:Nat):Bool:=
 (List.range ops.size).all (λi=>match ops[i]? with
  |some o=>o.guard.isNone&&(match o.dst with|some d=>decide (d<n)|none=>true)
  |none=>false)&&
 (List.range ops.size).all (λi=>(List.range i).all λj=>(dstOf ops i).isNone || dstOf ops i !=dstOf ops j)
def noD(ops:Array Oper)(t:Tmp):Bool:=ops.all λo=>o.dst !=some t
theorem noD_iff{ops:Array Oper}{t:Tmp}(h:noD ops t=true):∀j,dstOf ops j≠some t:=λj hd=>by
 unfold dstOf at hd;cases ho:ops[j]? with
 |none=>rw[ho]at hd;cases hd
 |some o=>
  rw[ho]at hd;simp only[al_ob]at hd;unfold noD at h;rw[Array.all_eq_true_iff_forall_mem]at h;have:=h o (Array.mem_of_getElem? ho);simp[hd]at this
section
variable {P:Program} {main:Bool} {γ:Type} {J:γ->Goroutine->World->Prop}
def DrawS(P:Program)(J:γ->Goroutine->World->Prop)(s:γ)(T:Array Value)(o:Oper)(w:World)(K:Value->World->Prop)(K0:World->Prop):Prop:=
 (okOp P (λ_=>false) o.op=true/\((∃d v w',o.dst=some d/\(execOp (Act.mk T []).eval o).run P w=.ok (.value v) w'/\K v w')\/(o.dst=none/\∃w',(execOp (Act.mk T []).eval o).run P w=.ok .skip w'/\K0 w')))\/
 (∃d f args,o.dst=some d/\(∀w,(execOp (Act.mk T []).eval o).run P w=.ok (.enter f args) w)/\(∀w,(execOp (Act.mk T []).eval o).events P w #[]=#[])/\zq1k P J f args (λs' e w'=>s'=s/\∃v,e=.returned v/\K v w') s w)
theorem at_drawsV(hJ:JS P main (λ_=>none) J){b:Frame}{k:List Item}{cs:List Frame}(hb:b.kind≠.early)(hm:P.follows .mixedOrders=true){id:Nat}{ops:Array Oper}{T₀:Array Value}{ds:List Deferred}{s:γ}{w:World}(hback:backOkJ ops=true)(hchk:chkW ops T₀.size=true)
 (W:(Nat->Bool)->List Value->World->Prop) (hWre:∀L v w τ d,W L v w->W L v (re w τ d)) (v₀:List Value) (hv₀:v₀.length=ops.size) (hW:W (λ_=>false) v₀ w)
 (hstep:∀(L:Nat->Bool)(vals:List Value)(T:Array Value)(w:World)(i:Nat)(o:Oper),vals.length=ops.size->W L vals w->L i=false->ops[i]?=some o->(∀e∈o.after,Region.binds .any e=true->L e.on=true)->
  (∀j t,dstOf ops j=some t->L j=true->T[t]?=vals[j]?)->(∀t,noD ops t=true->T[t]?=T₀[t]?)->
  DrawS P J s T o w (λv w'=>W (upd L i true) (vals.set i v) w') (λw'=>W (upd L i true) vals w'))
 (hend:∀L vals w,(∀i,i<ops.size->L i=true)->vals.length=ops.size->W L vals w->J s (G (b.at ⟨putv ops vals 0 T₀,ds⟩ (.inRegion ops []::k)) cs) w):J s (G (b.at ⟨T₀,ds⟩ (.code (.region id ops true)::k)) cs) w:=by
 unfold chkW at hchk;simp only[Bool.and_eq_true,List.all_eq_true,List.mem_range]at hchk;obtain⟨h1,h2⟩:=hchk;have plain:∀(i:Nat)(o:Oper),ops[i]?=some o->o.guard=none/\(∀d,o.dst=some d->d<T₀.size):=λi o ho=>by
  have:=h1 i (Array.getElem?_eq_some_iff.1 ho).1;rw[ho]at this;simp only[Bool.and_eq_true]at this;obtain⟨a1,a2⟩:=this;refine⟨Option.isNone_iff_eq_none.1 a1,λd hd=>?_⟩;rw[hd]at a2;simpa using a2
 have dlt:∀i d,dstOf ops i=some d->i<ops.size/\d<T₀.size:=λi d hd=>by
  unfold dstOf at hd;cases ho:ops[i]? with
  |none=>rw[ho]at hd;cases hd
  |some o=>rw[ho]at hd;exact⟨(Array.getElem?_eq_some_iff.1 ho).1,(plain i o ho).2 d hd⟩
 have apart:∀(i j:Nat)(d:Tmp),dstOf ops i=some d->dstOf ops j=some d->i=j:=λi j d hd hd'=>by
  rcases Nat.lt_trichotomy i j with h|h|h
  · have:=h2 j (dlt j d hd').1 i h;rw[hd,hd']at this;simp at this
  · exact h
  · have:=h2 i (dlt i d hd).1 j h;rw[hd,hd']at this;simp at this
 have final:∀(vals:List Value),vals.length=ops.size->∀i x,dstOf ops i=some x->(putv ops vals 0 T₀)[x]?=vals[i]?:=λvals hlen i x hd=>by
  obtain⟨hi,hlt⟩:=dlt i x hd;rw[List.getElem?_eq_getElem (by omega)];refine putv_at vals 0 _ i _ x (List.getElem?_eq_getElem (by omega)) (by rw[Nat.zero_add];exact hd) hlt λm a b e=>?_;have:=apart m i x e hd;omega
 let I:(Nat->Bool)->Array Value->World->Prop:=λL T w=>∃vals:List Value,vals.length=ops.size/\W L vals w/\T.size=T₀.size/\(∀t,(∀j,dstOf ops j≠some t)->T[t]?=T₀[t]?)/\∀j t,dstOf ops j=some t->L j=true->T[t]?=vals[j]?
 refine at_drawsJ hJ hb hm I hback (λL T w τ d⟨vals,a1,a2,a3⟩=>⟨vals,a1,hWre _ _ _ _ _ a2,a3⟩) ⟨v₀,hv₀,hW,rfl,λ_ _=>rfl,λ_ _ _ h=>(by cases h)⟩ ?_ ?_
 · rintro L T w i o ⟨vals,hlen,hw,hsz,hout,hin⟩ hLi ho hdep rest hnext;obtain⟨hg,hdo⟩:=plain i o ho;have hil:i<ops.size:=(Array.getElem?_eq_some_iff.1 ho).1;have hst0:=λw hw=>hstep L vals T w i o hlen hw hLi ho hdep hin λt ht=>hout t (noD_iff ht);have hwan:Region.wanted o (yielded ops T)=true:=by simp[Region.wanted,hg]
   have value:∀d v w',o.dst=some d->W (upd L i true) (vals.set i v) w'->I (upd L i true) (T.setIfInBounds d v) w':=λd v w' hd hW'=>by
    have hdi:dstOf ops i=some d:=by unfold dstOf;rw[ho];exact hd
    refine⟨vals.set i v,by simpa using hlen,hW',by simpa using hsz,λt ht=>?_,λj t hdj hl=>?_⟩
    · have:d≠t:=λe=>ht i (e▸hdi);rw[al_gn this];exact hout t ht
    · by_cases e:j=i
      · subst e;rw[hdi]at hdj;obtain rfl:=Option.some.inj hdj;have:d<T.size:=by rw[hsz];exact hdo d hd
        have hjl:j<vals.length:=by omega
        simp[this,hjl]
      · have hdt:d≠t:=λe2=>by subst e2;exact e (apart j i d hdj hdi)
        rw[upd_ne _ _ e]at hl;rw[al_gn hdt,List.getElem?_set_ne (λe2=>e e2.symm),hin j t hdj hl]
   have skip:∀w',o.dst=none->W (upd L i true) vals w'->I (upd L i true) T w':=λw' hd hW'=>by
    refine⟨vals,hlen,hW',hsz,hout,λj t hdj hl=>?_⟩;have e:j≠i:=λe=>by
     subst e;unfold dstOf at hdj;rw[ho]at hdj;simp only[al_ob]at hdj;rw[hd]at hdj;cases hdj
    rw[upd_ne _ _ e]at hl;exact hin j t hdj hl
   rcases hst0 w hw with⟨hok,hpl⟩|⟨d,f,args,hd,hrun,hev,hcall⟩
   · have hst:=λτ dd=>hst0 (re w τ dd) (hWre _ _ _ τ dd hw);cases hdst:o.dst with
     |some d=>
      refine at_opF hJ hb ho hok hwan hdst λτ dd=>?_;rcases hst τ dd with⟨_,⟨d',v,w',hd',hr,hI'⟩|⟨hd',_⟩⟩|⟨d',f,args,hd',hrun,hev,hcall⟩
      · exact⟨v,w',hr,hnext _ _ (value d v w' hdst hI')⟩
      · rw[hdst]at hd';cases hd'
      · exfalso;rcases hpl with⟨_,v,w',_,hr,_⟩|⟨hd',_⟩
        · rw[hrun]at hr;cases hr
        · rw[hdst]at hd';cases hd'
     |none=>
      refine at_skipF hJ hb ho hok hwan hdst λτ dd=>?_;rcases hst τ dd with⟨_,⟨d',v,w',hd',_⟩|⟨hd',w',hr,hI'⟩⟩|⟨d',f,args,hd',_⟩
      · rw[hdst]at hd';cases hd'
      · exact⟨w',hr,hnext _ _ (skip w' hdst hI')⟩
      · rw[hdst]at hd';cases hd'
   · have hrun':∀w,(execOp (Act.mk T ds).eval o).run P w=.ok (.enter f args) w:=hrun;refine zq1f hb hJ ho hwan (λτ dd=>hrun' (re w τ dd)) (λτ dd e he=>?_) ?_
     · rw[Sem.runT_eq,show(execOp (Act.mk T ds).eval o).events P (re w τ dd) #[]=#[]from hev _]at he;simp at he
     · refine hcall _ _ ?_ ?_
       · rintro s' v w' ⟨rfl,v',e,hW'⟩;cases e;rw[Frame.finish_at,ho];have hp:(Act.mk T ds).put o.dst v=⟨T.setIfInBounds d v,ds⟩:=by rw[hd];rfl
         simp only[al_ob];have:=hnext _ _ (value d v w' hd hW');simpa[hp]using this
       · rintro s' ch w' ⟨_,v,e,_⟩;cases e
 · rintro L T w hall ⟨vals,hlen,hw,hsz,hout,hin⟩;have:T=putv ops vals 0 T₀:=by
    apply Array.ext_getElem?;intro x
    by_cases hx:∃j,dstOf ops j=some x
    · obtain⟨j,hdj⟩:=hx;rw[hin j x hdj (hall j (dlt j x hdj).1),final vals hlen j x hdj]
    · have hno:∀j,dstOf ops j≠some x:=λj hd=>hx ⟨j,hd⟩;rw[hout x hno];exact(zq2g vals 0 _ x λj _ _=>hno j).symm
   rw[this];exact hend L vals w hall hlen hw
end
end Go.Car
set_option maxHeartbeats 1000000
set_option maxRecDepth 100000
namespace Go.Proofs
open Go Go.Conc Go.RowKit Go.Car
section
variable {Ml S α:Type} {C:Core Ml S} {ro:Nat->Option Obj} {i:Nat}
theorem seq_callsR{main:Bool}{Kc:Addr->Option Value}{J:Goroutine->World->Prop}(hJ:JS Try.prog main Kc (λ(_:Unit)=>J))(hC:CalmJ Try.prog main (λ(_:Unit)=>J)){f:FuncId}{args:Array Value}{p:Proc S α}{rel:α->Value->(Nat->Option Obj)->Prop}{m₀:BM Ml}{w₀:World}(hrep:BRep C ro m₀ w₀)(hT:∃a,(p.run (C.st m₀.l)).2.1=some a)(cf:Nat)
 (hspec:SpecR (seqSys zql hJ hC C ro i cf m₀ w₀ (p.run (C.st m₀.l))) f args p rel) {cl:Frame} {cs:List Frame}
 (hq:∀a v X m' w',rel a v X->m'.box i=orB X (m₀.box i)->LoneAt C ro i cf m₀ w₀ (p.run (C.st m₀.l)) m' w' (C.st m'.l,.ret a)->J (G (cl.finish v) cs) w'):J (G (Frame.enter Try.prog f args .normal) (cl::cs)) w₀:=by
 have h0:LoneAt C ro i cf m₀ w₀ (p.run (C.st m₀.l)) m₀ w₀ (p.bind Proc.ret (C.st m₀.l)):=by
  rw[Proc.bind_pure];exact⟨hrep,Nat.le_refl _,λ_ _ _=>rfl,λ_ h=>.inl h,⟨_,rfl,hT,rfl⟩,λ_ _=>rfl⟩
 refine hspec Proc.ret () (m₀.box i) w₀ (λ_=>trivial) ⟨m₀,rfl,h0,trivial⟩ cl cs ?_ ?_
 · rintro s' v w' ⟨a,X,hr,_,m',hb,hL,_⟩;exact hq a v X m' w' hr hb hL
 · intro s' ch w' hf;exact hf.elim
end
theorem j0_JU{Fin:Machine->Trace->Prop}(hFin:Back Try.prog Fin)(n:Nat):JS Try.prog true (λ_=>none) (λ(_:Unit)=>J0 Try.prog Fin n):=⟨λ_ g w τ d h=>(j0_JS hFin).re' n g w τ d h,λ_ g w h1 h2=>(j0_JS hFin).step n g w h1 h2⟩
theorem j0_CU{Fin:Machine->Trace->Prop}(hFin:Back Try.prog Fin)(n:Nat):CalmJ Try.prog true (λ(_:Unit)=>J0 Try.prog Fin n):=λ_ fr cs w h=>zq1n hFin n fr cs w h
def doA(N:Nat)(op:OpX)(l:List Int):Ans:=((doP N op:Proc (List Int×Unit) Ans).run (l,())).2.1.getD Ans.none
def doL(N:Nat)(op:OpX)(l:List Int):List Int:=((doP N op:Proc (List Int×Unit) Ans).run (l,())).1.1
theorem Tree.run_deep {σ α:Type}:∀(t:Tree σ α)(s:σ),(∀k,t.Deep k)->∃a,(t.run s).2.1=some a:=by
 intro t
 induction t with
 |ret a=>intro s _;exact⟨a,rfl⟩
 |out=>intro s h;exact(h 1).elim
 |step u k ih=>intro s h;exact ih s (u s) λn=>h (n+1) s
theorem do_some(N:Nat)(op:OpX)(l:List Int):((doP N op:Proc (List Int×Unit) Ans).run (l,())).2.1=some (doA N op l):=by
 obtain⟨a,h⟩:=Tree.run_deep ((doP N op:Proc (List Int×Unit) Ans) (l,())).2 _ (λk=>doP_deep N k op (l,()));unfold doA;have h':((doP N op:Proc (List Int×Unit) Ans).run (l,())).2.1=some a:=h;rw[h'];rfl
def ansPV(a:Ans):Value:=.agg #[.bool a.ok,.int .i64 a.n,.slice none 0 0]
theorem call_cntJ{Fin:Machine->Trace->Prop}(hFin:Back Try.prog Fin){n cb:Nat}{z:Option Nat}{N:Nat}{l:List Int}{w:World}(op:OpX)(h:StrRep cb z N l w){cl:Frame}{cs:List Frame}
 (hq:∀w',(doA N op l).l=[]->StrAft cb z N (doL N op l) w w'->J0 Try.prog Fin n (G (cl.finish (ansPV (doA N op l))) cs) w'):J0 Try.prog Fin n (G (Frame.enter Try.prog 14 #[.pointer (some ⟨cb,0,none⟩),.nilIface,op.val] .normal) (cl::cs)) w:=by
 have hJ:=j0_JU hFin n;have hC:=j0_CU hFin n;have hpos:=h.pos;have hle:=h.le;refine seq_callsR (J:=J0 Try.prog Fin n) (C:=zqa (zq6 cb z N) unitCore) (ro:=λ_=>none) (i:=0) (p:=doP N op) (m₀:=⟨(l,()),λ_ _=>none⟩) (rel:=AnsP) hJ hC ⟨⟨h,trivial,λb _ hb=>hb⟩,λi b o h=>(by cases h),λb o h=>(by cases h),λi b h=>absurd rfl h,λi j b _ h=>absurd rfl h,λb h=>absurd rfl h,λi b h=>rfl⟩ ⟨_,do_some N op l⟩ 0 ?_ ?_
 · have hat:StrAtoms (seqSys zql hJ hC (zqa (zq6 cb z N) unitCore) (λ_=>none) 0 0 ⟨(l,()),λ_ _=>none⟩ w ((doP N op:Proc (List Int×Unit) Ans).run ((zqa (zq6 cb z N) unitCore).st (l,())))) .nilIface:=zq3b _ (λ_ _ _ _=>trivial) (λ_ _ _=>trivial) hpos hle (step_nil _ _ _ _ _);exact call_spec _ (pA:=addP N) (pS:=sumP N) (pT:=takeP N) (pM:=moveP N) (pE:=evenP N) (λa v=>(zq2r _ hat a v).spec) (sum_spec _ hat).spec (take_spec _ hat).spec (λa b v=>(move_spec _ hat a b v).spec) (even_spec _ hat).spec op
 · rintro a v X m' w' ⟨rfl,hl,rfl⟩ _ hL;obtain⟨n',h1,_,_⟩:=hL.run;simp only[Tree.run,Prod.mk.injEq]at h1;obtain⟨h1,h2,rfl⟩:=h1;have e1:a=doA N op l:=Option.some.inj (h2.trans (do_some N op l));subst e1;have e2:m'.l.1=doL N op l:=congrArg Prod.fst h1;refine hq w' hl ⟨e2▸hL.rep.core.1,hL.size,λb hb h6 h7=>hL.old b hb ?_⟩;rintro(((h8|h8)|h8)|h9|h9)
   · exact h6 h8
   · exact h7 h8
   · exact h8.elim
   · exact h9.elim λi h=>absurd rfl h
   · exact absurd rfl h9
section
variable {Fin:Machine->Trace->Prop} {n:Nat} {w:World}
end
structure RT where
 at':Nat
 pc:Nat
 sum:Int
 seen:List Int
 ans:List Ans
def rt0:RT:=⟨0,0,0,[],[]⟩
def endR(t:RT)(a:Ans):RT:={t with ans:=t.ans++[a],at':=t.at'+1,pc:=0}
def goodK(op:OpX):Bool:=decide (1<=op.k)&&decide (op.k<=5)
def zqz(t:RT)(op:OpX):RT:=if goodK op then{t with pc:=1,sum:=0,seen:=[]}else endR t Ans.none
def zq11(ops:List OpX):Nat->RT->RT
 |0,t=>t
 |f+1,t=>if t.pc=0 then(match ops[t.at']? with|some op=>zq11 ops f (zqz t op)|none=>t)else t
def setlR(ops:List OpX)(t:RT):RT:=zq11 ops (ops.length+1) t
def stepR(N:Nat)(op:OpX)(C:List Int)(t:RT):List Int×RT:=
 let k:=t.pc - 1
 let t1:RT:={t with pc:=k+2}
 if op.k=1 then
  let v:=IntKind.i64.wrap (C.getD (idx op.a N) 0+op.b)
  (C.set (idx op.a N) v,endR t1 ⟨true,v,[]⟩)
 else if op.k=2\/op.k=3 then
  let v:=wrap64 (t.sum+C.getD k 0)
  let C':=if op.k=3 then C.set k 0 else C
  if k+1=N then(C',endR {t1 with sum:=v} ⟨true,v,[]⟩)else(C',{t1 with sum:=v})
 else if op.k=4 then
  if k=0 then(C.set (idx op.a N) (IntKind.i64.wrap (C.getD (idx op.a N) 0 - op.c)),t1)
  else(C.set (idx op.b N) (IntKind.i64.wrap (C.getD (idx op.b N) 0+op.c)),endR t1 ⟨true,0,[]⟩)
 else if k<N then(C,{t1 with seen:=t.seen++[C.getD k 0],sum:=wrap64 (t.sum+C.getD k 0)})
 else if C.getD (k - N) 0≠t.seen.getD (k - N) 0 then(C,endR t1 Ans.none)
 else if k+1=2*N then(C,endR t1 ⟨true,t.sum,[]⟩)
 else(C,t1)
abbrev SS:=List Int×(Nat->List Ans)
def contP(N:Nat)(op:OpX)(t:RT):Proc SS Ans:=
 let k:=t.pc - 1
 if op.k=1 then(onL (addA N op.a op.b)).bind λx=>Proc.ret ⟨true,x,[]⟩
 else if op.k=2 then(onL (getA N k)).bind λx=>(foldP getA N (N - k - 1) (k+1) (wrap64 (t.sum+x))).bind λx=>Proc.ret ⟨true,x,[]⟩
 else if op.k=3 then(onL (takeA N k)).bind λx=>(foldP takeA N (N - k - 1) (k+1) (wrap64 (t.sum+x))).bind λx=>Proc.ret ⟨true,x,[]⟩
 else if op.k=4 then
  if k=0 then(onL (addA N op.a (wrap64 (-op.c)))).bind λ_=>(addP N op.b op.c).bind λ_=>Proc.ret ⟨true,0,[]⟩
  else(onL (addA N op.b op.c)).bind λ_=>Proc.ret ⟨true,0,[]⟩
 else if k<N then(onL (getA N k)).bind λx=>(evenA N (N - k - 1) (k+1) (t.seen++[x]) (wrap64 (t.sum+x))).bind λx=>Proc.ret ⟨x.2,x.1,[]⟩
 else(onL (getA N ((k - N:Nat):Int))).bind λx=>(if x=t.seen.getD (k - N) 0 then evenB N t.seen (N - (k - N) - 1) (k - N+1) t.sum else Proc.ret (0,false)).bind λx=>Proc.ret ⟨x.2,x.1,[]⟩
def restP(N i:Nat)(ops:List OpX)(at':Nat)(a:Ans):Proc SS Unit:=(pushP i a).bind λ_=>opsP i (doP N) (ops.drop (at'+1))
def treeThen(p:Proc SS Unit):Tree SS Unit:=.step (λs=>(p s).1) (λs=>(p s).2)
def zq1c(N i:Nat)(ops:List OpX)(t:RT):Tree SS Unit:=if t.pc=0 then .ret ()else match ops[t.at']? with
 |some op=>treeThen ((contP N op t).bind (restP N i ops t.at'))
 |none=>.ret ()
section
variable {N i:Nat} {ops:List OpX}
theorem then_eq(p:Proc SS Unit)(s:SS):(Proc.tick.bind λ_=>p) s=(s,treeThen p):=rfl
theorem zq2x{α:Type}(f:Nat->α)(i:Nat):upd' f i (f i)=f:=funext λj=>by
 by_cases h:j=i
 · subst h;simp
 · rw[zqc _ _ h]
theorem zq17{α:Type}(f:Nat->α)(i:Nat)(x y:α):upd' (upd' f i x) i y=upd' f i y:=funext λj=>by
 by_cases h:j=i
 · subst h;simp
 · rw[zqc _ _ h,zqc _ _ h,zqc _ _ h]
theorem doP_begin(hN:0<N){op:OpX}(hg:goodK op=true)(t:RT):(doP N op:Proc SS Ans)=Proc.tick.bind λ_=>contP N op {t with pc:=1,sum:=0,seen:=[]}:=by
 obtain⟨n,rfl⟩:∃n,N=n+1:=⟨N - 1,by omega⟩;unfold goodK at hg;simp only[Bool.and_eq_true,decide_eq_true_eq]at hg;unfold doP contP;simp only[Nat.sub_self,Nat.sub_zero,Nat.add_sub_cancel,Nat.zero_add,if_pos rfl]
 by_cases h1:op.k=1
 · rw[if_pos h1,if_pos h1,addP,Proc.bind_bind]
 rw[if_neg h1,if_neg h1]
 by_cases h2:op.k=2
 · rw[if_pos h2,if_pos h2,sumP,foldP,Proc.bind_bind,Proc.bind_bind]
 rw[if_neg h2,if_neg h2]
 by_cases h3:op.k=3
 · rw[if_pos h3,if_pos h3,takeP,foldP,Proc.bind_bind,Proc.bind_bind]
 rw[if_neg h3,if_neg h3]
 by_cases h4:op.k=4
 · rw[if_pos h4,if_pos h4,moveP,addP,Proc.bind_bind,Proc.bind_bind];simp only[Proc.bind_bind];rfl
 rw[if_neg h4,if_neg h4,if_pos (by omega),if_pos (Nat.succ_pos n),evenP,evenA,Proc.bind_bind,Proc.bind_bind]
theorem doP_bad{op:OpX}(hg:goodK op=false):(doP N op:Proc SS Ans)=Proc.ret Ans.none:=by
 unfold goodK at hg;simp only[Bool.and_eq_false_iff,decide_eq_false_iff_not]at hg;unfold doP;rw[if_neg (by omega),if_neg (by omega),if_neg (by omega),if_neg (by omega),if_neg (by omega)]
theorem settle_tree(hN:0<N):∀(f:Nat)(t:RT)(C:List Int)(A:Nat->List Ans),t.pc=0->ops.length<f+t.at'->A i=t.ans->
 (opsP i (doP N) (ops.drop t.at')) (C,A)=((C,upd' A i (zq11 ops f t).ans),zq1c N i ops (zq11 ops f t)):=by
 intro f
 induction f with
 |zero=>
  intro t C A hpc hf hA;rw[List.drop_eq_nil_of_le (by omega)];show((C,A),Tree.ret ())=_;unfold zq11;rw[←hA,zq2x];unfold zq1c;rw[if_pos hpc]
 |succ f ih=>
  intro t C A hpc hf hA;unfold zq11;rw[if_pos hpc];cases hop:ops[t.at']? with
  |none=>
   have hge:ops.length<=t.at':=List.getElem?_eq_none_iff.1 hop;rw[List.drop_eq_nil_of_le hge];show((C,A),Tree.ret ())=_;simp only;rw[←hA,zq2x];unfold zq1c;rw[if_pos hpc]
  |some op=>
   have hlt:=(List.getElem?_eq_some_iff.1 hop).1;have hdrop:ops.drop t.at'=op::ops.drop (t.at'+1):=by rw[List.drop_eq_getElem_cons hlt,(List.getElem?_eq_some_iff.1 hop).2]
   rw[hdrop,opsP];simp only;cases hg:goodK op with
   |false=>
    rw[doP_bad hg,Proc.bind_ret];have hb:zqz t op=endR t Ans.none:=by unfold zqz;rw[hg];rfl
    rw[hb];have:=ih (endR t Ans.none) C (upd' A i (A i++[Ans.none])) rfl (by show ops.length<f+(t.at'+1);omega) (by rw[upd'_same,hA];rfl);rw[zq17]at this;exact this
   |true=>
    have hb:zqz t op={t with pc:=1,sum:=0,seen:=[]}:=by unfold zqz;rw[hg];rfl
    rw[hb,doP_begin hN hg t,Proc.bind_bind];have hs:zq11 ops f {t with pc:=1,sum:=0,seen:=[]}={t with pc:=1,sum:=0,seen:=[]}:=by
     cases f with
     |zero=>rfl
     |succ f=>unfold zq11;rw[if_neg (by simp)]
    rw[hs,then_eq];show((C,A),_)=((C,upd' A i t.ans),_);rw[←hA,zq2x];unfold zq1c;rw[if_neg (by simp)];simp only[hop];rfl
end
structure OkT(N:Nat)(ops:List OpX)(t:RT):Prop where
 stand:t.pc≠0->∃op,ops[t.at']?=some op/\goodK op=true/\(op.k=1->t.pc=1)/\(op.k=2\/op.k=3->t.pc<=N)/\(op.k=4->t.pc<=2)/\(op.k=5->t.pc<=2*N/\t.seen.length=min (t.pc - 1) N)
section
variable {N i:Nat} {ops:List OpX}
theorem setlR_on{t:RT}(h:t.pc≠0):setlR ops t=t:=by
 unfold setlR zq11;rw[if_neg h]
theorem end_tree(hN:0<N){t:RT}{C:List Int}{A:Nat->List Ans}(hA:A i=t.ans)(a:Ans){t1:RT}(h1:t1.at'=t.at')(h2:t1.ans=t.ans):
 (restP N i ops t.at' a) (C,A)=((C,upd' A i (setlR ops (endR t1 a)).ans),zq1c N i ops (setlR ops (endR t1 a))):=by
 have:=settle_tree (i:=i) (ops:=ops) hN (ops.length+1) (endR t1 a) C (upd' A i (A i++[a])) rfl (by show ops.length<ops.length+1+_;omega) (by rw[upd'_same,hA,←h2];rfl);rw[zq17]at this;have e:(endR t1 a).at'=t.at'+1:=by show t1.at'+1=_;rw[h1]
 rw[e]at this;exact this
theorem on_tree{op:OpX}{t t1:RT}{C:List Int}{A:Nat->List Ans}{q:Proc SS Ans}(hA:A i=t.ans)(hop:ops[t.at']?=some op)(h1:t1.at'=t.at')(h2:t1.ans=t.ans)(h3:t1.pc≠0)(hq:q=Proc.tick.bind λ_=>contP N op t1):
 (q.bind (restP N i ops t.at')) (C,A)=((C,upd' A i (setlR ops t1).ans),zq1c N i ops (setlR ops t1)):=by
 rw[setlR_on h3,hq,Proc.bind_bind,then_eq,h2,←hA,zq2x];unfold zq1c;rw[if_neg h3,h1];simp only[hop]
theorem zq2v{α β:Type}(f:List Int->List Int×α)(K:α->Proc SS β)(C:List Int)(A:Nat->List Ans):(((onL f).bind K):Proc SS β) (C,A)=K (f C).2 ((f C).1,A):=rfl
theorem addA_wrap{N:Nat}{a c:Int}{l:List Int}:addA N a (wrap64 (-c)) l=(l.set (idx a N) (IntKind.i64.wrap (l.getD (idx a N) 0 - c)),IntKind.i64.wrap (l.getD (idx a N) 0 - c)):=by
 have e:IntKind.i64.wrap (l.getD (idx a N) 0+wrap64 (-c))=IntKind.i64.wrap (l.getD (idx a N) 0 - c):=by
  rw[IntKind.wrap_i64,IntKind.wrap_i64];simp only[wrap64];omega
 unfold addA;rw[e]
theorem step_tree(hN:0<N){op:OpX}{t:RT}{C:List Int}{A:Nat->List Ans}(hC:C.length=N)(hA:A i=t.ans)(hop:ops[t.at']?=some op)(hpc:t.pc≠0)(hO:OkT N ops t):
 ((contP N op t).bind (restP N i ops t.at')) (C,A)=(((stepR N op C t).1,upd' A i (setlR ops (stepR N op C t).2).ans),zq1c N i ops (setlR ops (stepR N op C t).2)):=by
 obtain⟨op',e,hg,o1,o2,o4,o5⟩:=hO.stand hpc;rw[hop]at e;obtain rfl:=Option.some.inj e;unfold goodK at hg;simp only[Bool.and_eq_true,decide_eq_true_eq]at hg;have hidn:∀k:Nat,k<N->idx (k:Int) N=k:=λk hk=>by
  unfold idx;rw[Int.emod_eq_of_lt (by omega) (by omega)];omega
 unfold contP stepR;simp only
 by_cases h1:op.k=1
 · rw[if_pos h1,if_pos h1,Proc.bind_bind,zq2v];exact end_tree hN hA _ rfl rfl
 rw[if_neg h1,if_neg h1]
 by_cases h2:op.k=2
 · have h23:op.k=2\/op.k=3:=.inl h2;have h3:op.k≠3:=by omega
   have hp:=o2 h23;rw[if_pos h2,if_pos h23,if_neg h3,Proc.bind_bind,zq2v];simp only[getA,hidn (t.pc - 1) (by omega)]
   by_cases hk:t.pc - 1+1=N
   · rw[if_pos hk,show N - (t.pc - 1) - 1=0 by omega];exact end_tree hN hA _ rfl rfl
   · rw[if_neg hk];refine on_tree hA hop rfl rfl (by simp) ?_;obtain⟨m,hm⟩:∃m,N - (t.pc - 1) - 1=m+1:=⟨N - (t.pc - 1) - 2,by omega⟩;rw[hm,foldP,Proc.bind_bind,Proc.bind_bind];unfold contP;simp only;rw[if_neg h1,if_pos h2,show N - (t.pc - 1+2 - 1) - 1=m by omega,show t.pc - 1+2 - 1=t.pc - 1+1 by omega]
 rw[if_neg h2]
 by_cases h3:op.k=3
 · have h23:op.k=2\/op.k=3:=.inr h3;have hp:=o2 h23;rw[if_pos h3,if_pos h23,if_pos h3,Proc.bind_bind,zq2v];simp only[takeA,hidn (t.pc - 1) (by omega)]
   by_cases hk:t.pc - 1+1=N
   · rw[if_pos hk,show N - (t.pc - 1) - 1=0 by omega];exact end_tree hN hA _ rfl rfl
   · rw[if_neg hk];refine on_tree hA hop rfl rfl (by simp) ?_;obtain⟨m,hm⟩:∃m,N - (t.pc - 1) - 1=m+1:=⟨N - (t.pc - 1) - 2,by omega⟩;rw[hm,foldP,Proc.bind_bind,Proc.bind_bind];unfold contP;simp only;rw[if_neg h1,if_neg h2,if_pos h3,show N - (t.pc - 1+2 - 1) - 1=m by omega,show t.pc - 1+2 - 1=t.pc - 1+1 by omega]
 rw[if_neg h3,if_neg (by omega:¬(op.k=2\/op.k=3))]
 by_cases h4:op.k=4
 · have hp:=o4 h4;rw[if_pos h4,if_pos h4]
   by_cases hk:t.pc - 1=0
   · rw[if_pos hk,if_pos hk,Proc.bind_bind,zq2v,addA_wrap];refine on_tree hA hop rfl rfl (by simp) ?_;rw[addP,Proc.bind_bind];unfold contP;simp only;rw[if_neg h1,if_neg h2,if_neg h3,if_pos h4,if_neg (by omega)]
   · rw[if_neg hk,if_neg hk,Proc.bind_bind,zq2v];exact end_tree hN hA _ rfl rfl
 rw[if_neg h4,if_neg h4];have h5:op.k=5:=by omega
 obtain⟨hp,hsl⟩:=o5 h5
 by_cases hk:t.pc - 1<N
 · rw[if_pos hk,if_pos hk,Proc.bind_bind,zq2v];simp only[getA,hidn (t.pc - 1) hk];refine on_tree hA hop rfl rfl (by simp) ?_;have hsl':(t.seen++[C.getD (t.pc - 1) 0]).length=t.pc - 1+1:=by simp;omega
   obtain⟨n',rfl⟩:∃n',N=n'+1:=⟨N - 1,by omega⟩
   by_cases hk2:t.pc - 1+1<n'+1
   · obtain⟨m,hm⟩:∃m,n'+1 - (t.pc - 1) - 1=m+1:=⟨n'+1 - (t.pc - 1) - 2,by omega⟩;rw[hm,evenA,Proc.bind_bind,Proc.bind_bind];unfold contP;simp only;rw[if_neg h1,if_neg h2,if_neg h3,if_neg h4,if_pos (by omega),show n'+1 - (t.pc - 1+2 - 1) - 1=m by omega,show t.pc - 1+2 - 1=t.pc - 1+1 by omega]
   · have e0:n'+1 - (t.pc - 1) - 1=0:=by omega
     have e1:t.pc - 1+1=n'+1:=by omega
     rw[e0,evenA,e1,evenB,Proc.bind_bind,Proc.bind_bind];unfold contP;simp only;rw[if_neg h1,if_neg h2,if_neg h3,if_neg h4,if_neg (by omega),show t.pc - 1+2 - 1 - (n'+1)=0 by omega];rfl
 · rw[if_neg hk,if_neg hk,Proc.bind_bind,zq2v];have hm:t.pc - 1 - N<N:=by omega
   simp only[getA,hidn _ hm]
   by_cases hv:C.getD (t.pc - 1 - N) 0=t.seen.getD (t.pc - 1 - N) 0
   · rw[if_pos hv,if_neg (by rw[hv];simp)]
     by_cases hl:t.pc - 1+1=2*N
     · rw[if_pos hl,show N - (t.pc - 1 - N) - 1=0 by omega];exact end_tree hN hA _ rfl rfl
     · rw[if_neg hl];refine on_tree hA hop rfl rfl (by simp) ?_;obtain⟨m,hm2⟩:∃m,N - (t.pc - 1 - N) - 1=m+1:=⟨N - (t.pc - 1 - N) - 2,by omega⟩;rw[hm2,evenB,Proc.bind_bind,Proc.bind_bind];unfold contP;simp only;rw[if_neg h1,if_neg h2,if_neg h3,if_neg h4,if_neg (by omega),show N - (t.pc - 1+2 - 1 - N) - 1=m by omega,show t.pc - 1+2 - 1 - N=t.pc - 1 - N+1 by omega]
   · rw[if_neg hv,if_pos hv];exact end_tree hN hA _ rfl rfl
end
structure RS where
 C:List Int
 T:Nat->RT
 ord:List Nat
def turnR(i:Nat)(r:List Int×RT)(a:RS)(ord:List Nat):RS:=⟨r.1,upd' a.T i r.2,ord⟩
def zq1i(ops:Nat->List OpX)(C:List Int):Nat->RS
 |0=>⟨C,λ_=>rt0,[]⟩
 |n+1=>turnR n ((zq1i ops C n).C,setlR (ops n) rt0) (zq1i ops C n) (zq1i ops C n).ord
def goR(NS:Nat)(ops:Nat->List OpX)(i:Nat)(a:RS):List Int×RT:=match (ops i)[(a.T i).at']? with
 |some op=>((stepR NS op a.C (a.T i)).1,setlR (ops i) (stepR NS op a.C (a.T i)).2)
 |none=>(a.C,a.T i)
def zq16(NS:Nat)(ops:Nat->List OpX)(N most:Nat)(x:Int)(a:RS):RS:=
 if x<0\/(N:Int)<=x\/(a.T x.toNat).pc=0\/a.ord.length=most then a else turnR x.toNat (goR NS ops x.toNat a) a (a.ord++[x.toNat])
def zqx(NS:Nat)(ops:Nat->List OpX)(N most:Nat)(l:List Int)(a:RS):RS:=l.foldl (λa x=>zq16 NS ops N most x a) a
def ovR(a:RS)(i:Nat):Bool:=decide ((a.T i).pc=0)
def zq1v(NS:Nat)(ops:Nat->List OpX)(N most:Nat):Nat->RS->RS
 |0,a=>a
 |f+1,a=>if 0<leftN (ovR a) N/\a.ord.length<most then zq1v NS ops N most f (zqx NS ops N most (upto N) a)else a
def playR(ops:Nat->List OpX)(N most:Nat)(l:List Int)(C:List Int):RS:=zq1v C.length ops N most (most+1) (zqx C.length ops N most l (zq1i ops C N))
section
variable {NS N most:Nat} {ops:Nat->List OpX}
structure RelR(NS n:Nat)(ops:Nat->List OpX)(a:TSt SS)(s:RS):Prop where
 c:a.s.1=s.C
 len:s.C.length=NS
 ans:∀i,a.s.2 i=(s.T i).ans
 thr:∀i,i<n->a.t i=zq1c NS i (ops i) (s.T i)/\a.ov i=decide ((s.T i).pc=0)/\OkT NS (ops i) (s.T i)
 un:∀i,n<=i->s.T i=rt0/\a.ov i=false
 ord:a.ord=s.ord
theorem tree_isRet{i:Nat}{op:List OpX}{t:RT}(h:OkT NS op t):(zq1c NS i op t).isRet=decide (t.pc=0):=by
 unfold zq1c
 by_cases hp:t.pc=0
 · rw[if_pos hp];simp[hp,Tree.isRet]
 · rw[if_neg hp];obtain⟨o,ho,_⟩:=h.stand hp;simp only[ho];simp[treeThen,Tree.isRet,hp]
theorem ok_settle(hN:0<NS){l:List OpX}:∀(f:Nat)(t:RT),OkT NS l t->OkT NS l (zq11 l f t):=by
 intro f
 induction f with
 |zero=>exact λt h=>h
 |succ f ih=>
  intro t h;unfold zq11;split
  · split
    · rename_i op hop;refine ih _ ⟨λhp=>?_⟩;unfold zqz at hp ⊢;cases hg:goodK op with
      |false=>rw[hg]at hp;exact absurd rfl hp
      |true=>exact⟨op,hop,hg,λ_=>rfl,λ_=>hN,λ_=>(by show 1<=2;decide),λ_=>⟨by show 1<=_;omega,by simp⟩⟩
    · exact h
  · exact h
theorem ok_step(hN:0<NS){l:List OpX}{op:OpX}{t:RT}{C:List Int}(h:OkT NS l t)(hp:t.pc≠0)(hop:l[t.at']?=some op):OkT NS l (stepR NS op C t).2:=by
 obtain⟨op',e,hg,o1,o2,o4,o5⟩:=h.stand hp;rw[hop]at e;obtain rfl:=Option.some.inj e;have hg':=hg;unfold goodK at hg';simp only[Bool.and_eq_true,decide_eq_true_eq]at hg';have ended:∀(t1:RT)(a:Ans),OkT NS l (endR t1 a):=λt1 a=>⟨λhp=>absurd rfl hp⟩;unfold stepR;simp only
 by_cases h1:op.k=1
 · rw[if_pos h1];exact ended _ _
 rw[if_neg h1]
 by_cases h2:op.k=2\/op.k=3
 · rw[if_pos h2];have hb:=o2 h2
   by_cases hk:t.pc - 1+1=NS
   · rw[if_pos hk];exact ended _ _
   · rw[if_neg hk];exact⟨λ_=>⟨op,hop,hg,λx=>by omega,λ_=>by show t.pc - 1+2<=NS;omega,λx=>by omega,λx=>by omega⟩⟩
 rw[if_neg h2]
 by_cases h4:op.k=4
 · rw[if_pos h4]
   by_cases hk:t.pc - 1=0
   · rw[if_pos hk];exact⟨λ_=>⟨op,hop,hg,λx=>by omega,λx=>by omega,λ_=>by show t.pc - 1+2<=2;omega,λx=>by omega⟩⟩
   · rw[if_neg hk];exact ended _ _
 rw[if_neg h4];obtain⟨hb,hs⟩:=o5 (by omega)
 by_cases hk:t.pc - 1<NS
 · rw[if_pos hk];exact⟨λ_=>⟨op,hop,hg,λx=>by omega,λx=>by omega,λx=>by omega,λ_=>⟨by show t.pc - 1+2<=2*NS;omega,by show(t.seen++[_]).length=min (t.pc - 1+2 - 1) NS;simp;omega⟩⟩⟩
 · rw[if_neg hk]
   by_cases hv:C.getD (t.pc - 1 - NS) 0≠t.seen.getD (t.pc - 1 - NS) 0
   · rw[if_pos hv];exact ended _ _
   · rw[if_neg hv]
     by_cases hl:t.pc - 1+1=2*NS
     · rw[if_pos hl];exact ended _ _
     · rw[if_neg hl];exact⟨λ_=>⟨op,hop,hg,λx=>by omega,λx=>by omega,λx=>by omega,λ_=>⟨by show t.pc - 1+2<=2*NS;omega,by show t.seen.length=min (t.pc - 1+2 - 1) NS;omega⟩⟩⟩
theorem stepR_len(op:OpX)(C:List Int)(t:RT):(stepR NS op C t).1.length=C.length:=by
 unfold stepR;simp only
 repeat' split
 all_goals simp
theorem rel_turn{n i:Nat}{a:TSt SS}{s:RS}(h:RelR NS n ops a s)(hi:i<=n){C':List Int}{t':RT}{ord':List Nat}(hl:C'.length=NS)(hok:OkT NS (ops i) t')(hov:a.ov i=false):
 RelR NS (max n (i+1)) ops (turnT i ((C',upd' a.s.2 i t'.ans),zq1c NS i (ops i) t') a ord') (turnR i (C',t') s ord'):=by
 refine⟨rfl,hl,λj=>?_,λj hj=>?_,λj hj=>?_,rfl⟩
 · show upd' a.s.2 i t'.ans j=(upd' s.T i t' j).ans
   by_cases e:j=i
   · subst e;simp
   · rw[zqc _ _ e,zqc _ _ e];exact h.ans j
 · show upd' a.t i (zq1c NS i (ops i) t') j=zq1c NS j (ops j) (upd' s.T i t' j)/\(if(zq1c NS i (ops i) t').isRet then(λj=>if j=i then true else a.ov j)else a.ov) j=decide ((upd' s.T i t' j).pc=0)/\OkT NS (ops j) (upd' s.T i t' j);rw[tree_isRet hok]
   by_cases e:j=i
   · subst e;rw[upd'_same,upd'_same];refine⟨rfl,?_,hok⟩
     by_cases hp:t'.pc=0
     · simp[hp]
     · simp[hp,hov]
   · rw[zqc _ _ e,zqc _ _ e];obtain⟨k1,k2,k3⟩:=h.thr j (by omega);refine⟨k1,?_,k3⟩;rw[←k2];split
     · simp[e]
     · rfl
 · show upd' s.T i t' j=rt0/\(if(zq1c NS i (ops i) t').isRet then(λj=>if j=i then true else a.ov j)else a.ov) j=false;have e:j≠i:=by omega
   rw[zqc _ _ e];obtain⟨k1,k2⟩:=h.un j (by omega);refine⟨k1,?_⟩;split
   · simp[e,k2]
   · exact k2
theorem rel_begin(hN:0<NS){C:List Int}(hC:C.length=NS):∀n,RelR NS n ops (zq1m (λi=>opsP i (doP NS) (ops i)) (C,λ_=>[]) n) (zq1i ops C n):=by
 intro n
 induction n with
 |zero=>exact⟨rfl,hC,λ_=>rfl,λi hi=>absurd hi (Nat.not_lt_zero _),λi _=>⟨rfl,rfl⟩,rfl⟩
 |succ n ih=>
  have hs:=settle_tree (N:=NS) (i:=n) (ops:=ops n) hN ((ops n).length+1) rt0 (zq1m (λi=>opsP i (doP NS) (ops i)) (C,λ_=>[]) n).s.1 (zq1m (λi=>opsP i (doP NS) (ops i)) (C,λ_=>[]) n).s.2 rfl (by show _<_+1+0;omega) (by rw[ih.ans n,(ih.un n (Nat.le_refl _)).1]);have hs':opsP n (doP NS) (ops n) (zq1m (λi=>opsP i (doP NS) (ops i)) (C,λ_=>[]) n).s=(((zq1m (λi=>opsP i (doP NS) (ops i)) (C,λ_=>[]) n).s.1,upd' (zq1m (λi=>opsP i (doP NS) (ops i)) (C,λ_=>[]) n).s.2 n (setlR (ops n) rt0).ans),zq1c NS n (ops n) (setlR (ops n) rt0)):=hs;show RelR NS (n+1) ops (turnT n (opsP n (doP NS) (ops n) (zq1m (λi=>opsP i (doP NS) (ops i)) (C,λ_=>[]) n).s) _ _) (turnR n _ _ _);rw[hs',ih.ord,ih.c];have:=rel_turn ih (Nat.le_refl n) (C':=(zq1i ops C n).C) (t':=setlR (ops n) rt0) (ord':=(zq1i ops C n).ord) ih.len (ok_settle hN _ _ ⟨λh=>absurd rfl h⟩) (ih.un n (Nat.le_refl _)).2
  rwa [show max n (n+1)=n+1 by omega]at this
theorem rel_step1(hN:0<NS){x:Int}{a:TSt SS}{s:RS}(h:RelR NS N ops a s):RelR NS N ops (step1T N most x a) (zq16 NS ops N most x s):=by
 unfold step1T zq16
 by_cases hx:x<0\/(N:Int)<=x
 · rw[if_pos (by rcases hx with hx|hx;exact .inl hx;exact .inr (.inl hx)),if_pos (by rcases hx with hx|hx;exact .inl hx;exact .inr (.inl hx))];exact h
 · have hi:x.toNat<N:=by omega
   obtain⟨k1,k2,k3⟩:=h.thr x.toNat hi
   by_cases hp:(s.T x.toNat).pc=0
   · rw[if_pos (.inr (.inr (.inl (by rw[k2];simp[hp])))),if_pos (.inr (.inr (.inl hp)))];exact h
   · have hov:a.ov x.toNat=false:=by rw[k2];simp[hp]
     by_cases hm:s.ord.length=most
     · rw[if_pos (.inr (.inr (.inr (by rw[h.ord];exact hm)))),if_pos (.inr (.inr (.inr hm)))];exact h
     · rw[if_neg (by rw[h.ord,hov];rintro(e|e|e|e);exact hx (.inl e);exact hx (.inr e);cases e;exact hm e),if_neg (by rintro(e|e|e|e);exact hx (.inl e);exact hx (.inr e);exact hp e;exact hm e)];obtain⟨op,hop,_⟩:=k3.stand hp;have hst:=step_tree (i:=x.toNat) (A:=a.s.2) hN h.len (h.ans x.toNat) hop hp k3;have hgo:goT (a.t x.toNat) a.s=(((stepR NS op s.C (s.T x.toNat)).1,upd' a.s.2 x.toNat (setlR (ops x.toNat) (stepR NS op s.C (s.T x.toNat)).2).ans),zq1c NS x.toNat (ops x.toNat) (setlR (ops x.toNat) (stepR NS op s.C (s.T x.toNat)).2)):=by
        rw[←hst,k1];unfold zq1c;rw[if_neg hp];simp only[hop];have e:a.s=(s.C,a.s.2):=Prod.ext h.c rfl;rw[e];rfl
       have hgR:goR NS ops x.toNat s=((stepR NS op s.C (s.T x.toNat)).1,setlR (ops x.toNat) (stepR NS op s.C (s.T x.toNat)).2):=by
        unfold goR;simp only[hop]
       rw[hgo,hgR,h.ord];have:=rel_turn h (Nat.le_of_lt hi) (C':=(stepR NS op s.C (s.T x.toNat)).1) (t':=setlR (ops x.toNat) (stepR NS op s.C (s.T x.toNat)).2) (ord':=s.ord++[x.toNat]) (by rw[stepR_len];exact h.len) (ok_settle hN _ _ (ok_step hN k3 hp hop)) hov
       rwa [show max N (x.toNat+1)=N by omega]at this
theorem rel_steps(hN:0<NS):∀(l:List Int){a:TSt SS}{s:RS},RelR NS N ops a s->RelR NS N ops (stepsT N most l a) (zqx NS ops N most l s):=by
 intro l
 induction l with
 |nil=>exact λh=>h
 |cons x l ih=>exact λh=>ih (rel_step1 hN h)
theorem rel_left{a:TSt SS}{s:RS}(h:RelR NS N ops a s):leftN a.ov N=leftN (ovR s) N:=leftN_congr λi hi=>(h.thr i hi).2.1
theorem rel_rounds(hN:0<NS):∀(f:Nat){a:TSt SS}{s:RS},RelR NS N ops a s->RelR NS N ops (roundsT N most f a) (zq1v NS ops N most f s):=by
 intro f
 induction f with
 |zero=>exact λh=>h
 |succ f ih=>
  intro a s h;unfold roundsT zq1v;rw[rel_left h,h.ord];split
  · exact ih (rel_steps hN _ h)
  · exact h
theorem play_ref{C:List Int}(hN:0<C.length)(l:List Int):RelR C.length N ops (playT (λi=>opsP i (doP C.length) (ops i)) N most l (C,λ_=>[])) (playR ops N most l C):=rel_rounds hN _ (rel_steps hN _ (rel_begin hN rfl N))
end
end Go.Proofs
