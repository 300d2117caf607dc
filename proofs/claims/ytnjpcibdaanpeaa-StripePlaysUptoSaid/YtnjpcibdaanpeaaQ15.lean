/- YtnjpcibdaanpeaaSPlays4: part 15 of the proof (the texts behind it, in order). -/
import Derived.Test.YtnjpcibdaanpeaaQ14
set_option linter.unusedSimpArgs false
set_option linter.unusedVariables false
set_option linter.unusedSectionVars false
set_option linter.unnecessarySimpa false
set_option maxHeartbeats 4000000
set_option maxRecDepth 100000
namespace Go.Proofs
open Go Go.Conc Go.RowKit Go.Car
theorem strplay_calls{Fin:Machine->Trace->Prop}(hFin:Back Try.prog Fin){n:Nat}(hn:0<n){RP:Nat->Option Obj}{w:World}{wl Cw np Cn N Cs:Nat}{wp pp scp:Option Addr}{sp:Nat->Option Addr}{L Cp:Nat->Nat}{ops:Nat->List OpX}{ws sched:List Int}{mo:Int}
 (hwl:ws.length=wl) (hwn:wl<=4611686018427387904) (hws:0<wl->∃wb wo,wp=some ⟨wb,wo,none⟩/\∀i,i<wl->w.cell? ⟨wb,wo+i,none⟩=some (.int .i64 (ws.getD i 0)))
 (hRP:∀b o,RP b=some o->w.heap[b]?=some o) (ho:OpsAt w RP pp np N sp L Cp ops) (hsl:sched.length<=4611686018427387904)
 (hs:sched≠[]->∃sb off,scp=some ⟨sb,off,none⟩/\∀j x,sched[j]?=some x->w.cell? ⟨sb,off+j,none⟩=some (.int .i64 x))
 {c:Frame} {cs:List Frame}
 (hmain:∀ab ov sv am w',PlayedR N w (strT ws ops N mo sched) (strT ws ops N mo sched).s.1 ab ov sv am w'->
  J0 Try.prog Fin (n+N) (G (c.finish (.agg #[.slice (some ⟨ab,0,none⟩) N N,ov,sv,.bool (decide (0<leftN (strT ws ops N mo sched).ov N))])) cs) w'):
 J0 Try.prog Fin n (G (Frame.enter Try.prog 10 #[.slice wp wl Cw,.slice pp np Cn,.slice scp sched.length Cs,.int .i64 mo] .normal) (c::cs)) w:=by
 have hJ:=j0_JS hFin
 have hC:=j0_calm hFin
 have e:Frame.enter Try.prog 10 #[.slice wp wl Cw,.slice pp np Cn,.slice scp sched.length Cs,.int .i64 mo] .normal=(bN 10).at (zqr Try.f10 #[.slice wp wl Cw,.slice pp np Cn,.slice scp sched.length Cs,.int .i64 mo]) [.code ((Try.f10.body).getD .skip)]:=by kernel_rfl
 have ea:zqr Try.f10 #[.slice wp wl Cw,.slice pp np Cn,.slice scp sched.length Cs,.int .i64 mo]=⟨#[.slice wp wl Cw,.slice pp np Cn,.slice scp sched.length Cs,.int .i64 mo,undef,undef,undef,undef,undef,undef,undef,undef,undef,undef,undef,undef,undef,undef,undef,undef,undef,undef,undef],[]⟩:=by kernel_rfl
 rw[e,ea,spl0]
 clear e ea
 have hm:=Lib.hid hmain
 clear hmain
 obtain⟨H,hH⟩:∃H,w.heap.size=H:=⟨_,rfl⟩
 refine hJ.ctl (s:=n) (λw=>stepG_seq) ?_
 refine at_lone hJ hC plainM (by kernel_rfl) (λt w'=>t=#[.slice wp wl Cw,.slice pp np Cn,.slice scp sched.length Cs,.int .i64 mo,undef,undef,undef,undef,.pointer (some ⟨H,0,none⟩),undef,undef,undef,undef,undef,undef,undef,undef,undef,undef,undef,undef,undef,undef]/\∃τ d,w'=re (w.alloc (.cells #[.slice none 0 0,.slice none 0 0,.slice none 0 0,.bool false] 31)) τ d) (λt w' τ d h=>⟨h.1,by obtain⟨τ',d',rfl⟩:=h.2;exact⟨τ,d,by rw[re_re]⟩⟩) (by decide) (λτ d=>?_) ?_
 · obtain⟨u0,hu0⟩:∃c,headC (splT 0)=c:=⟨_,rfl⟩
   have eu0:=hu0
   rw[hu0]
   simp only[splT,headC,tailN,Try.f10,al_od]at eu0
   subst eu0
   clear hu0 hs ho hRP hws
   go_wp2
   exact⟨rfl,rfl,τ,d,rfl⟩
 rintro t w' ⟨rfl,τ,d,rfl⟩
 refine hJ.re' n _ _ τ d ?_
 have hwa:(w.alloc (.cells #[.slice none 0 0,.slice none 0 0,.slice none 0 0,.bool false] 31)).heap.size=H+1:=by rw[zqc,hH]
 have hob:∀b,b<H->(w.alloc (.cells #[.slice none 0 0,.slice none 0 0,.slice none 0 0,.bool false] 31)).heap[b]?=w.heap[b]?:=λb hb=>by rw[zq8,if_neg (by omega)]
 have hzb:(w.alloc (.cells #[.slice none 0 0,.slice none 0 0,.slice none 0 0,.bool false] 31)).heap[H]?=some (.cells #[.slice none 0 0,.slice none 0 0,.slice none 0 0,.bool false] 31):=hH▸zqq w _
 obtain⟨wa,hwae⟩:∃wa,w.alloc (.cells #[.slice none 0 0,.slice none 0 0,.slice none 0 0,.bool false] 31)=wa:=⟨_,rfl⟩
 rw[hwae]at hwa hob hzb ⊢
 clear hwae
 refine hJ.ctl (s:=n) (λw=>stepG_seq) ?_
 refine at_lone hJ hC plainM (by kernel_rfl) (λt w'=>t=#[.slice wp wl Cw,.slice pp np Cn,.slice scp sched.length Cs,.int .i64 mo,undef,undef,undef,undef,.pointer (some ⟨H,0,none⟩),.pointer (some ⟨H+1+1,0,none⟩),undef,.slice wp wl Cw,.pointer (some ⟨H+1+1,0,none⟩),undef,undef,undef,undef,undef,undef,undef,undef,undef,undef]/\NewStr wa (stripesN wl) (zqz ws) w') (λt w' τ d h=>⟨h.1,h.2.re τ d⟩) (by decide) (λτ d=>?_) ?_
 · obtain⟨u0,hu0⟩:∃c,headC (splT 1)=c:=⟨_,rfl⟩
   have eu0:=hu0
   rw[hu0]
   simp only[splT,headC,tailN,Try.f10,al_od]at eu0
   subst eu0
   clear hu0
   have HM:=Lib.hid (begun_lone (p:=wp) (n:=wl) (C:=Cw) (ws:=ws) (re wa τ d) hwl hwn (λh0=>by
    obtain⟨wb,wo,e,h1⟩:=hws h0
    exact⟨wb,wo,e,λi hi=>(zq4 (hob wb (by rw[←hH];exact cell_lt (h1 i hi)))).trans (h1 i hi)⟩))
   have HH:=Lib.hid (And.intro hH hwa)
   clear hs ho hRP hws hob hzb hH hwa hwl hwn hsl
   go_wp2_with (fail)
   refine Calls.mono HM.out ?_
   rintro e w' ⟨rfl,hR⟩
   have hR2:RowKit.Hid (NewStr wa (stripesN wl) (zqz ws) w'):=Lib.hid ⟨hR.rep,hR.size,hR.old⟩
   clear hR
   rw[show(re wa τ d).heap.size=H+1 from HH.out.2]
   go_wp2
   exact⟨rfl,rfl,hR2.out⟩
 rintro t wb ⟨rfl,hR⟩
 have hrep:=hR.rep
 have hwb:=hR.size
 have hobb:∀b,b<H->wb.heap[b]?=w.heap[b]?:=λb hb=>(hR.old b (by omega)).trans (hob b hb)
 have hzb2:wb.heap[H]?=some (.cells #[.slice none 0 0,.slice none 0 0,.slice none 0 0,.bool false] 31):=(hR.old H (by omega)).trans hzb
 rw[hwa]at hrep hwb
 clear hR hzb hob hwa
 have hlt:∀b o,RP b=some o->b<H:=λb o h=>by rw[←hH];exact zqa (hRP b o h)
 have hnf:∀b,(zqt (H+1+1) (some (H+1)) (stripesN wl)).foot (zqz ws) b->H+1<=b:=λb hb=>by
  rcases hb with e|e
  · omega
  · injection e with e;omega
 have hB:BRep (zqt (H+1+1) (some (H+1)) (stripesN wl)) RP ⟨zqz ws,λ_ _=>none⟩ wb:=by
  refine⟨hrep,λi b o h=>(by cases h),λb o h=>(hobb b (hlt b o h)).trans (hRP b o h),λi b h=>absurd rfl h,λi j b _ h=>absurd rfl h,λb h hf=>?_,λi b _=>rfl⟩
  cases ho:RP b with
  |none=>exact h ho
  |some o=>have:=hlt b o ho;have:=hnf b hf;omega
 have hOp:OpsAt wb RP pp np N sp L Cp ops:=by
  refine⟨ho.eq,ho.le,λh0=>?_,ho.row,ho.len,ho.op⟩
  obtain⟨tb,to',e,h1⟩:=ho.at' h0
  exact⟨tb,to',e,λi hi=>(zq4 (hobb tb (by rw[←hH];exact cell_lt (h1 i hi)))).trans (h1 i hi)⟩
 have hsc:sched≠[]->∃sb off,scp=some ⟨sb,off,none⟩/\¬(zqt (H+1+1) (some (H+1)) (stripesN wl)).foot (zqz ws) sb/\∀j x,sched[j]?=some x->wb.cell? ⟨sb,off+j,none⟩=some (.int .i64 x):=λh0=>by
  obtain⟨sb,off,e,h2⟩:=hs h0
  obtain⟨x,l,hsl⟩:=List.exists_cons_of_ne_nil h0
  have hlt:sb<H:=by rw[←hH];exact cell_lt (h2 0 x (by rw[hsl];rfl))
  exact⟨sb,off,e,λhf=>by have:=hnf sb hf;omega,λj x hj=>(zq4 (hobb sb hlt)).trans (h2 j x hj)⟩
 have hst:=stripesN_pos wl
 clear ho hs hRP hlt hws
 refine hJ.ctl (s:=n) (λw=>stepG_seq) ?_
 obtain⟨u0,hu0⟩:∃c,headC (splT 2)=c:=⟨_,rfl⟩
 have eu0:=hu0
 rw[hu0]
 simp only[splT,headC,tailN,Try.f10,al_od]at eu0
 subst eu0
 clear hu0
 refine hJ.ctl (s:=n) (λw=>stepG_region) ?_
 have HX:=Lib.hid (And.intro hB (And.intro hOp (And.intro hsc (And.intro hnf (And.intro hobb (And.intro hzb2 hwb))))))
 have HE:=Lib.hid (And.intro hwl (And.intro hH (And.intro hst hrep.len)))
 clear hB hOp hsc hnf hobb hzb2 hwb hwl hH hst hrep
 refine zqw (s:=n) (by decide) hJ (zqu _) true (.inl rfl) 0 5 3 rfl rfl rfl (by rfl) ?_
 intro τ d
 simp only[List.drop_zero,List.take_succ_cons,List.take_zero]
 go_wp2
 simp only[zqi]
 refine hJ.re' n _ _ τ d ?_
 refine at_call (by decide) hJ (s:=n) rfl rfl (f:=26) (args:=#[.slice pp np Cn,.func (.func 27) #[.pointer (some ⟨H+1+1,0,none⟩)] #[],.slice scp sched.length Cs,.int .i64 mo]) (λτ d=>?_) (λτ d=>?_) ?_
 · simp[go_sem,execOp,Act.eval,resolve,Deferred.ofValue,invoke,callFunc,Try.func26,Try.f26]
 · intro e he
   simp[go_sem,execOp,Act.eval,resolve,Deferred.ofValue,invoke,callFunc,Try.func26,Try.f26,Sem.runT_eq]at he
 obtain⟨hB,hOp,hsc,hnf,hobb,hzb2,hwb⟩:=HX.out
 obtain⟨hwl,hH,hst,hlen⟩:=HE.out
 refine ops_calls hFin hn plainM rowsM (fn:=Try.f27) (cc:=(Try.f27.body).getD .skip) Try.func27 rfl rfl hB hOp hsl hsc (dop:=λ_=>doP (stripesN wl)) (λi op k=>doP_deep _ _ _) (λro ab pr st cr rest EN i o op _ _=>do_turn hst.1 hst.2 ro pr st cr rest EN i o op) ?_
 intro ab v l' am w2 hO
 rw[Frame.finish_at]
 walk_nrm
 have hTe:playT (λi=>opsP i (doP (stripesN wl)) (ops i)) N (min mo.toNat 1048576) sched ((zqt (H+1+1) (some (H+1)) (stripesN wl)).st (zqz ws),λ_=>[])=strT ws ops N mo sched:=by
  unfold strT strPr
  rw[hwl]
  rfl
 rw[hTe]at hO ⊢
 obtain⟨pv',cv',rfl,_⟩:=zq16 hO.row
 have hl':(strT ws ops N mo sched).s.1=l':=hO.st.symm
 have hze:w2.heap[H]?=some (.cells #[.slice none 0 0,.slice none 0 0,.slice none 0 0,.bool false] 31):=(hO.old H (by omega) (λh=>by have:=hnf H h;omega)).trans hzb2
 generalize (strT ws ops N mo sched).ord.length=nv' at hO ⊢
 have HO:=Lib.hid hO
 have HZ:=Lib.hid (And.intro hze hl')
 obtain⟨stuck,hstuck⟩:∃x,decide (0<leftN (strT ws ops N mo sched).ov N)=x:=⟨_,rfl⟩
 rw[hstuck]
 have HST:=Lib.hid hstuck
 clear hstuck hO hze hl' hTe hB hOp hsc hnf hobb hzb2 hwb hwl hH hst hlen
 have hwl:=HE.out.1
 refine zqw (s:=n+N) (by decide) hJ (zqu _) false (.inr rfl) 6 2 0 rfl rfl rfl (by rfl) ?_
 intro τ d
 simp only[List.drop_succ_cons,List.drop_zero,List.take_succ_cons,List.take_zero]
 have HO2:=Lib.hid (HO.out.re τ d)
 have HZ2:RowKit.Hid ((re w2 τ d).heap[H]?=some (.cells #[.slice none 0 0,.slice none 0 0,.slice none 0 0,.bool false] 31)/\(strT ws ops N mo sched).s.1=l'):=Lib.hid HZ.out
 clear HO HZ
 generalize re w2 τ d=w3 at HO2 HZ2 ⊢
 go_wp2
 simp only[zqi]
 refine hJ.ctl (s:=n+N) (λw=>stepG_region_end) ?_
 have hT:=zqq w3 (.cells #[.slice (some ⟨ab,0,none⟩) N N,.slice pv' nv' cv',.slice none 0 0,.bool stuck] 31)
 have hoT:∀b,b<w3.heap.size->(w3.alloc (.cells #[.slice (some ⟨ab,0,none⟩) N N,.slice pv' nv' cv',.slice none 0 0,.bool stuck] 31)).heap[b]?=w3.heap[b]?:=λb hb=>by rw[zq8,if_neg (by omega)]
 have hsT:(w3.alloc (.cells #[.slice (some ⟨ab,0,none⟩) N N,.slice pv' nv' cv',.slice none 0 0,.bool stuck] 31)).heap.size=w3.heap.size+1:=zqc _ _
 generalize (w3.alloc (.cells #[.slice (some ⟨ab,0,none⟩) N N,.slice pv' nv' cv',.slice none 0 0,.bool stuck] 31))=w4 at hT hoT hsT ⊢
 obtain⟨T,hTT⟩:∃T,w3.heap.size=T:=⟨_,rfl⟩
 rw[hTT]at hT hoT hsT ⊢
 have HT:=Lib.hid (And.intro hT (And.intro hoT (And.intro hsT hTT)))
 clear hT hoT hsT hTT
 refine at_rest_lone hJ hC plainM (by kernel_rfl) (λv w'=>∃sv am,v=.agg #[.slice (some ⟨ab,0,none⟩) N N,.slice pv' nv' cv',sv,.bool stuck]/\PlayedR N w (strT ws ops N mo sched) (strT ws ops N mo sched).s.1 ab (.slice pv' nv' cv') sv am w') (λv w' τ d⟨sv,am,h1,h2⟩=>⟨sv,am,h1,h2.re τ d⟩) rfl Try.func10 (λτ d=>?_) ?_
 · obtain⟨u0,hu0⟩:∃c,splT 3=c:=⟨_,rfl⟩
   have eu0:=hu0
   rw[hu0]
   simp only[splT,headC,tailN,Try.f10,al_od]at eu0
   subst eu0
   clear hu0
   obtain⟨hT,hoT,hsT,hTT⟩:=HT.out
   have hT':(re w4 τ d).heap[T]?=some (.cells #[.slice (some ⟨ab,0,none⟩) N N,.slice pv' nv' cv',.slice none 0 0,.bool stuck] 31):=hT
   have hoT':∀b,b<T->(re w4 τ d).heap[b]?=w3.heap[b]?:=hoT
   have hsT':(re w4 τ d).heap.size=T+1:=hsT
   have hHl:H<T:=by rw[←hTT];exact zqa HZ2.out.1
   have hall:=all_lone ((zqt (H+1+1) (some (H+1)) (stripesN wl)).frame _ _ _ HO2.out.rep λb hb=>hoT' b (by rw[←hTT];exact(zqt (H+1+1) (some (H+1)) (stripesN wl)).lt _ _ _ HO2.out.rep hb))
   generalize re w4 τ d=w5 at hT' hoT' hsT' hall ⊢
   have HA:=Lib.hid hall
   have HW:=Lib.hid (And.intro hT' (And.intro hoT' (And.intro hsT' (And.intro hTT hHl))))
   clear hT hoT hsT hTT hT' hoT' hsT' hall HT hHl hwl hm
   go_wp2_with (fail)
   refine Calls.mono HA.out ?_
   rintro e w6 ⟨sv,rfl,hI⟩
   obtain⟨sp',sc',rfl,-,-⟩:=zq16 hI.row
   obtain⟨sl,hsl'⟩:∃x,l'.length=x:=⟨_,rfl⟩
   rw[hsl']at hI ⊢
   have hI2:=Lib.hid (And.intro hI hsl')
   clear hsl'
   have b1:w6.heap[T]?=some (.cells #[.slice (some ⟨ab,0,none⟩) N N,.slice pv' nv' cv',.slice none 0 0,.bool stuck] 31):=(hI.old T (by have:=HW.out.2.2.1;omega)).trans HW.out.1
   have b0:w6.heap[H]?=some (.cells #[.slice none 0 0,.slice none 0 0,.slice none 0 0,.bool false] 31):=(hI.old H (by have:=HW.out.2.2.1;have:=HW.out.2.2.2.2;omega)).trans ((HW.out.2.1 H HW.out.2.2.2.2).trans HZ2.out.1)
   have hne:¬(T=H):=by have:=HW.out.2.2.2.2;omega
   have hne2:¬(H=T):=by omega
   clear hI
   have c0:=(zq0 (off:=0) b1).trans rfl
   have c1:=(zq0 (off:=1) b1).trans rfl
   have c2:=(zq0 (off:=2) b1).trans rfl
   have c3:=(zq0 (off:=3) b1).trans rfl
   have y2:=zqe (off:=2) b1
   have r0:=(zq0 (off:=0) b0).trans rfl
   have r1:=(zq0 (off:=1) b0).trans rfl
   have r2:=(zq0 (off:=2) b0).trans rfl
   have r3:=(zq0 (off:=3) b0).trans rfl
   have z0:=zqe (off:=0) b0
   have z1:=zqe (off:=1) b0
   have z2:=zqe (off:=2) b0
   have z3:=zqe (off:=3) b0
   have B0:=Lib.hid b0
   have B1:=Lib.hid b1
   clear b0 b1
   go_wp2
   clear c0 c1 c2 c3 y2 r0 r1 r2 r3 z0 z1 z2 z3
   have b0:(w6.setCell ⟨T,2,none⟩ (.slice sp' sl sc')).heap[H]?=some (.cells #[.slice none 0 0,.slice none 0 0,.slice none 0 0,.bool false] 31):=by rw[zq3 _ _ _ _ hne2];exact B0.out
   have b1':=zqb _ H 0 (.slice (some ⟨ab,0,none⟩) N N) b0
   have b2':=zqb _ H 1 (.slice pv' nv' cv') b1'
   have b3':=zqb _ H 2 (.slice sp' sl sc') b2'
   have b4':=zqb _ H 3 (.bool stuck) b3'
   have hext:∀x,x≠T->x≠H->(((((w6.setCell ⟨T,2,none⟩ (.slice sp' sl sc')).setCell ⟨H,0,none⟩ (.slice (some ⟨ab,0,none⟩) N N)).setCell ⟨H,1,none⟩ (.slice pv' nv' cv')).setCell ⟨H,2,none⟩ (.slice sp' sl sc')).setCell ⟨H,3,none⟩ (.bool stuck)).heap[x]?=w6.heap[x]?:=λx hx1 hx=>by
    rw[zq3 _ _ _ _ hx,zq3 _ _ _ _ hx,zq3 _ _ _ _ hx,zq3 _ _ _ _ hx,zq3 _ _ _ _ hx1]
   have hsz8:(((((w6.setCell ⟨T,2,none⟩ (.slice sp' sl sc')).setCell ⟨H,0,none⟩ (.slice (some ⟨ab,0,none⟩) N N)).setCell ⟨H,1,none⟩ (.slice pv' nv' cv')).setCell ⟨H,2,none⟩ (.slice sp' sl sc')).setCell ⟨H,3,none⟩ (.bool stuck)).heap.size=w6.heap.size:=by simp only[zqh]
   generalize (((((w6.setCell ⟨T,2,none⟩ (.slice sp' sl sc')).setCell ⟨H,0,none⟩ (.slice (some ⟨ab,0,none⟩) N N)).setCell ⟨H,1,none⟩ (.slice pv' nv' cv')).setCell ⟨H,2,none⟩ (.slice sp' sl sc')).setCell ⟨H,3,none⟩ (.bool stuck))=w8 at b4' hext hsz8 ⊢
   clear b1' b2' b3' b0
   have k0:=(zq0 (off:=0) b4').trans rfl
   have k1:=(zq0 (off:=1) b4').trans rfl
   have k2:=(zq0 (off:=2) b4').trans rfl
   have k3:=(zq0 (off:=3) b4').trans rfl
   obtain⟨_,hoT,hsT,hTT,hHl⟩:=HW.out
   obtain⟨hI,hsl2⟩:=hI2.out
   have hwl:=HE.out.1
   obtain⟨hB,hOp,hsc,hnf,hobb,hzb2,hwb⟩:=HX.out
   have hrow:w8.ownsRow w3.heap.size 2 1 (.slice sp' sl sc') (strT ws ops N mo sched).s.1.length ((strT ws ops N mo sched).s.1.map (Value.int .i64)):=by
    rw[HZ2.out.2,hsl2]
    have hrI:=hI.row
    rw[hsl2]at hrI
    have q:w8.ownsRow w5.heap.size 2 1 (.slice sp' sl sc') sl (l'.map (Value.int .i64)):=zqy hrI λg hg=>by
     have h1:=(own_lt hrI hg).2.1
     exact hext g (by omega) (by omega)
    exact zq1k q (by omega)
   have hfin:PlayedR N w (strT ws ops N mo sched) (strT ws ops N mo sched).s.1 ab (.slice pv' nv' cv') (.slice sp' sl sc') am w8:=by
    refine played_of HO2.out HE.out.2.1 (by omega) hobb hnf (by have:=hI.size;omega) (λx hx hxH=>?_) hrow
    rw[hext x (by omega) hxH,hI.old x (by omega)]
    exact hoT x (by omega)
   refine⟨rfl,.agg #[.slice (some ⟨ab,0,none⟩) N N,.slice pv' nv' cv',.slice sp' sl sc',.bool stuck],?_,_,rfl,_,_,rfl,hfin⟩
   simp only[results,Try.f10]
   simp[go_sem,k0,k1,k2,k3]
 · rintro v w' ⟨sv,am,rfl,h⟩
   have h2:=hm.out _ _ sv am w' h
   rw[HST.out]at h2
   exact h2
set_option maxHeartbeats 1000000
set_option maxRecDepth 100000
theorem cell_inv{w:World}{b o:Nat}{v:Value}(h:w.cell? ⟨b,o,none⟩=some v):∃cur e fr,w.heap[b]?=some (.cells cur e fr)/\cur[o]?=some v:=by
 unfold World.cell? at h
 split at h
 · rename_i c e fr hh
   exact⟨c,e,fr,hh,by simpa using h⟩
 · cases h
theorem thr_args{W:World}{pp:Option Addr}{np:Nat}{tops:Nat->List OpX}(h:ThrIn W pp np tops)(hn:np<=4611686018427387904)(hl:∀i,i<np->(tops i).length<=1048576):
 ∃(sp:Nat->Option Addr)(Cp:Nat->Nat),OpsAt W (λb=>W.heap[b]?) pp np (min np 64) sp (λi=>(tops i).length) Cp (λi=>(tops i).take 65536)/\
  RunIn W.heap.size W pp np (min np 64) sp (λi=>(tops i).length) Cp (λi=>.slice (sp i) (min (tops i).length 65536) (Cp i)) (λi=>(tops i).take 65536):=by
 by_cases h0:0<np
 · obtain⟨pb,po,rfl,hc⟩:=h h0
   obtain⟨f,hf⟩:∃f:Nat->Option Addr×Nat,∀i,i<np->W.cell? ⟨pb,po+i,none⟩=some (.slice (f i).1 (tops i).length (f i).2)/\((tops i).length<=(f i).2/\((f i).1=none->(f i).2=0))/\((tops i)≠[]->∃gb go,(f i).1=some ⟨gb,go,none⟩/\∀(k:Nat)(c:OpX),(tops i)[k]?=some c->∀j,j<4->W.cell? ⟨gb,go+k*4+j,none⟩=c.cells[j]?):=by
    classical
    refine⟨λi=>if h:i<np then((hc i h).choose,(hc i h).choose_spec.choose)else(none,0),λi hi=>?_⟩
    simp only[hi,dif_pos]
    exact(hc i hi).choose_spec.choose_spec
   have hne:∀{i k:Nat}{op:OpX},((tops i).take 65536)[k]?=some op->tops i≠[]/\(tops i)[k]?=some op:=λ{i k op}hop=>by
    rw[List.getElem?_take]at hop
    split at hop
    · exact⟨λe=>by rw[e]at hop;simp at hop,hop⟩
    · cases hop
   refine⟨λi=>(f i).1,λi=>(f i).2,⟨rfl,hn,λ_=>⟨pb,po,rfl,λi hi=>(hf i (by omega)).1⟩,λi hi=>?_,λi hi=>by rw[List.length_take,Nat.min_comm],λi hi k op hop=>?_⟩,⟨rfl,hn,λ_=>⟨pb,po,rfl,cell_lt (hf 0 h0).1,λi hi=>(hf i (by omega)).1⟩,λi hi=>?_,λi hi=>by rw[List.length_take,Nat.min_comm],λi hi=>rfl,λi hi=>?_⟩⟩
   · obtain⟨_,h1,_⟩:=hf i (by omega)
     exact⟨h1.1,by have:=hl i (by omega);omega,λe=>⟨by have:=h1.2 e;omega,h1.2 e⟩⟩
   · obtain⟨_,h1,h2⟩:=hf i (by omega)
     obtain⟨hn1,hop'⟩:=hne hop
     obtain⟨gb,go,e,h3⟩:=h2 hn1
     obtain⟨cur,e2,fr,hh,-⟩:=cell_inv (h3 k op hop' 0 (by decide))
     refine⟨gb,go,cur,e2,fr,e,hh,λj hj=>?_⟩
     rw[←zq0 hh]
     exact h3 k op hop' j hj
   · obtain⟨_,h1,h2⟩:=hf i (by omega)
     exact⟨h1.1,by have:=hl i (by omega);omega,λhlt=>by
      obtain⟨gb,go,e,_⟩:=h2 (List.length_pos_iff.1 hlt)
      exact⟨gb,go,e⟩⟩
   · obtain⟨_,h1,h2⟩:=hf i (by omega)
     refine⟨(f i).1,(f i).2,by rw[List.length_take,Nat.min_comm],λk op hop=>?_⟩
     obtain⟨hn1,hop'⟩:=hne hop
     obtain⟨gb,go,e,h3⟩:=h2 hn1
     exact⟨gb,go,e,cell_lt (h3 k op hop' 0 (by decide)),h3 k op hop' 0 (by decide),h3 k op hop' 1 (by decide),h3 k op hop' 2 (by decide),h3 k op hop' 3 (by decide)⟩
 · obtain rfl:np=0:=by omega
   exact⟨λ_=>none,λ_=>0,⟨rfl,hn,λh=>absurd h h0,λi hi=>absurd hi (Nat.not_lt_zero _),λi hi=>absurd hi (Nat.not_lt_zero _),λi hi=>absurd hi (Nat.not_lt_zero _)⟩,⟨rfl,hn,λh=>absurd h h0,λi hi=>absurd hi (Nat.not_lt_zero _),λi hi=>absurd hi (Nat.not_lt_zero _),λi hi=>absurd hi (Nat.not_lt_zero _),λi hi=>absurd hi (Nat.not_lt_zero _)⟩⟩
theorem OpsAt.beyond {w w':World}{RP:Nat->Option Obj}{pp:Option Addr}{n N:Nat}{sp:Nat->Option Addr}{L Cp:Nat->Nat}{ops:Nat->List OpX}(h:OpsAt w RP pp n N sp L Cp ops)(hb:Beyond w w'):OpsAt w' RP pp n N sp L Cp ops:=
 ⟨h.eq,h.le,λh0=>by
  obtain⟨tb,to',e,h1⟩:=h.at' h0
  exact⟨tb,to',e,λi hi=>hb.cell (h1 i hi)⟩,h.row,h.len,h.op⟩
theorem begun_len(ws:List Int):(zqz ws).length=stripesN ws.length:=by
 rw[begunL_eq]
 unfold stripesN
 split
 · rename_i h;rw[h];rfl
 · rename_i h
   have:0<ws.length:=List.length_pos_iff.2 h
   rw[List.length_take]
   omega
theorem leftN_same{f g:Nat->Bool}:∀n,(∀i,i<n->f i=g i)->leftN f n=leftN g n:=by
 intro n
 induction n with
 |zero=>exact λ_=>rfl
 |succ n ih=>
  intro h
  unfold leftN
  rw[ih λi hi=>h i (by omega),h n (Nat.lt_succ_self n)]
theorem plays_same(ws:List Int)(ops:Nat->List OpX)(N:Nat)(mo:Int)(sched:List Int):
 (strT ws ops N mo sched).s.1=(playR ops N (min mo.toNat 1048576) sched (zqz ws)).C/\(∀i,(strT ws ops N mo sched).s.2 i=((playR ops N (min mo.toNat 1048576) sched (zqz ws)).T i).ans)/\
  (strT ws ops N mo sched).ord=(playR ops N (min mo.toNat 1048576) sched (zqz ws)).ord/\leftN (strT ws ops N mo sched).ov N=leftN (ovR (playR ops N (min mo.toNat 1048576) sched (zqz ws))) N:=by
 have h0:0<(zqz ws).length:=by rw[begun_len];exact(stripesN_pos _).1
 have h:=play_ref (N:=N) (ops:=ops) (most:=min mo.toNat 1048576) h0 sched
 rw[begun_len]at h
 exact⟨h.c,h.ans,h.ord,leftN_same N λi hi=>(h.thr i hi).2.1⟩
structure PlTr(N:Nat)(R:RS):Prop where
 n:N<=64
 ord:R.ord.length<=1048576
 c:R.C.length<=64
 ans:∀i,i<N->(R.T i).ans.length<=65536/\NoL (R.T i)
theorem plTr_play{ws:List Int}{ops:Nat->List OpX}{N:Nat}{mo:Int}{sched:List Int}(hN:N<=64)(hl:∀i,i<N->(ops i).length<=65536):PlTr N (playR ops N (min mo.toNat 1048576) sched (zqz ws)):=by
 have h0:0<(zqz ws).length:=by rw[begun_len];exact(stripesN_pos _).1
 have h:=inv_play (N:=N) (most:=min mo.toNat 1048576) (ops:=ops) h0 sched
 refine⟨hN,by have:=h.ord;omega,by rw[h.len,begun_len];exact(stripesN_pos _).2,λi hi=>⟨?_,nol_play _ _ _⟩⟩
 obtain⟨h1,_⟩:=h.thr i hi
 have:=h1.le
 have:=h1.ans
 have:=hl i hi
 omega
theorem pl_same{w:World}{va vb:Value}{N:Nat}{R:RS}{stk:Bool}(h:PlTr N R)(ha:TraceAt w va N (λi=>(R.T i).ans) (R.ord.map λ(i:Nat)=>(i:Int)) R.C stk)(hb:TraceAt w vb N (λi=>(R.T i).ans) (R.ord.map λ(i:Nat)=>(i:Int)) R.C stk):
 Calls Try.prog 9 #[va,vb] w λe w'=>e=.returned (.bool true)/\Beyond w w':=
 trace_same (by have:=h.n;omega) (by rw[List.length_map];have:=h.ord;omega) (by have:=h.c;omega) (λi hi=>⟨by have:=(h.ans i hi).1;omega,λa ha=>by rw[(h.ans i hi).2 a ha];decide⟩) ha hb
end Go.Proofs
set_option maxHeartbeats 1000000
namespace Go.Car
open Go Go.Conc Go.RowKit
open Go.ConcN (upd upd_ne upd_same)
section
variable {P:Program} {main:Bool} {γ:Type} {J:γ->Goroutine->World->Prop}
def backOkJ(ops:Array Oper):Bool:=(List.range ops.size).all λi=>match ops[i]? with
 |some o=>o.after.all (λe=>!Region.binds .any e || decide (e.on<i))
 |none=>false
end
def chkW(ops:Array Oper)(n:Nat):Bool:=
 (List.range ops.size).all (λi=>match ops[i]? with
  |some o=>o.guard.isNone&&(match o.dst with|some d=>decide (d<n)|none=>true)
  |none=>false)&&
 (List.range ops.size).all (λi=>(List.range i).all λj=>(dstOf ops i).isNone || dstOf ops i !=dstOf ops j)
def noD(ops:Array Oper)(t:Tmp):Bool:=ops.all λo=>o.dst !=some t
theorem noD_iff{ops:Array Oper}{t:Tmp}(h:noD ops t=true):∀j,dstOf ops j≠some t:=λj hd=>by
 unfold dstOf at hd
 cases ho:ops[j]? with
 |none=>rw[ho]at hd;cases hd
 |some o=>
  rw[ho]at hd
  simp only[al_ob]at hd
  unfold noD at h
  rw[Array.all_eq_true_iff_forall_mem]at h
  have:=h o (Array.mem_of_getElem? ho)
  simp[hd]at this
section
variable {P:Program} {main:Bool} {γ:Type} {J:γ->Goroutine->World->Prop}
end
section
variable {P:Program} {main:Bool} {γ:Type} {J:γ->Goroutine->World->Prop}
theorem at_drawsX(hJ:JS P main (λ_=>none) J){b:Frame}{k:List Item}{cs:List Frame}(hb:b.kind≠.early)(hm:P.follows .mixedOrders=true){id:Nat}{ops:Array Oper}{T₀:Array Value}{ds:List Deferred}{s:γ}{w:World}(I:γ->(Nat->Bool)->Array Value->World->Prop)
 (hback:backOkJ ops=true) (hre:∀s L T w τ d,I s L T w->I s L T (re w τ d)) (hI:I s (λ_=>false) T₀ w)
 (hstep:∀(s:γ)(L:Nat->Bool)(T:Array Value)(w:World)(i:Nat)(o:Oper),I s L T w->L i=false->ops[i]?=some o->(∀e∈o.after,Region.binds .any e=true->L e.on=true)->
  ∀rest:List Nat,(∀s' T' w',I s' (upd L i true) T' w'->J s' (G (b.at ⟨T',ds⟩ (.inRegion ops rest::k)) cs) w')->J s (G (b.at ⟨T,ds⟩ (.inRegion ops (i::rest)::k)) cs) w)
 (hend:∀s L T w,(∀i,i<ops.size->L i=true)->I s L T w->J s (G (b.at ⟨T,ds⟩ (.inRegion ops []::k)) cs) w):J s (G (b.at ⟨T₀,ds⟩ (.code (.region id ops true)::k)) cs) w:=by
 have hb':∀i o,ops[i]?=some o->∀e∈o.after,Region.binds .any e=true->e.on<i:=by
  intro i o ho
  have hlt:=(Array.getElem?_eq_some_iff.1 ho).1
  unfold backOkJ at hback
  rw[List.all_eq_true]at hback
  have:=hback i (List.mem_range.2 hlt)
  rw[ho]at this
  simp only[Array.all_eq_true_iff_forall_mem]at this
  exact λe he hbe=>by have:=this e he;simpa[hbe]using this
 have key:∀(fuel t:Nat)(listed:Array Bool)(s:γ)(L:Nat->Bool)(T:Array Value)(w:World),listed.size=ops.size->left listed=fuel->(∀i,i<ops.size->listed.getD i false=L i)->I s L T w->
  J s (G (b.at ⟨T,ds⟩ (.inRegion ops (Region.linearise.go .any ops fuel t listed [])::k)) cs) w:=by
  intro fuel
  induction fuel with
  |zero=>
   intro t listed s L T w hsz hl hL hi
   refine hend s L T w (λi hlt=>?_) hi
   rw[←hL i hlt]
   have hlt':i<listed.size:=by omega
   cases hv:listed[i]with
   |true=>simp[hlt',hv]
   |false=>have:=left_pos (listed:=listed) (i:=i) (by simp[hlt',hv]);omega
  |succ fuel ih=>
   intro t listed s L T w hsz hl hL hi
   simp only[Region.linearise.go]
   change J s (G (b.at ⟨T,ds⟩ (.inRegion ops (match (Region.ready .any ops listed)[t % (Region.ready .any ops listed).length]? with
    |some i=>Region.linearise.go .any ops fuel (t / (Region.ready .any ops listed).length) (listed.setIfInBounds i true) [i]
    |none=>[].reverse)::k)) cs) w
   have hun:∃i,listed.getD i true=false:=by
    refine Classical.byContradiction λhn=>?_
    have:left listed=0:=by
     unfold left
     rw[List.length_eq_zero_iff,List.filter_eq_nil_iff]
     intro x hx hxx
     obtain⟨i,hi,rfl⟩:=List.getElem_of_mem hx
     have hi':i<listed.size:=by simpa using hi
     have e:listed.toList[i]=listed[i]:=by simp
     rw[e]at hxx
     exact hn ⟨i,by simp[hi'];simpa using hxx⟩
    omega
   have hready:∃i,i∈Region.ready .any ops listed:=by
    have:∀m i,m=i->listed.getD i true=false->∃j,j∈Region.ready .any ops listed:=by
     intro m
     induction m using Nat.strongRecOn with
     |_ m ihm=>
      intro i hi hun
      subst hi
      have hops:m<ops.size:=by have:=getD_lt hun;omega
      by_cases hall:∀e∈(ops[m]'hops).after,Region.binds .any e=true->listed.getD e.on false=true
      · exact⟨m,mem_ready.2 ⟨hun,_,Array.getElem?_eq_getElem hops,hall⟩⟩
      · obtain⟨e,he⟩:=Classical.not_forall.1 hall
        obtain⟨h1,he⟩:=Classical.not_imp.1 he
        obtain⟨h2,he⟩:=Classical.not_imp.1 he
        have hlt':=hb' m _ (Array.getElem?_eq_getElem hops) e h1 h2
        refine ihm e.on hlt' e.on rfl ?_
        have:e.on<listed.size:=by omega
        simp[this]at he ⊢
        exact he
    obtain⟨i,hi⟩:=hun
    exact this i i rfl hi
   cases hi':(Region.ready .any ops listed)[t % (Region.ready .any ops listed).length]? with
   |none=>
    exfalso
    obtain⟨i,hi''⟩:=hready
    have hpos:0<(Region.ready .any ops listed).length:=List.length_pos_of_mem hi''
    have hlt:=Nat.mod_lt t hpos
    rw[List.getElem?_eq_none_iff]at hi'
    omega
   |some i=>
    have hmem:=List.mem_of_getElem? hi'
    obtain⟨hun,o,ho,hall⟩:=mem_ready.1 hmem
    have hilt:i<ops.size:=by have:=getD_lt hun;omega
    simp only[]
    rw[linearise_go_acc,List.reverse_singleton,List.singleton_append]
    have hbk:=hb' i o ho
    have hLi:L i=false:=by
     rw[←hL i hilt]
     have hlt':i<listed.size:=by omega
     simp[hlt']at hun ⊢
     exact hun
    have hld:left (listed.setIfInBounds i true)+1=left listed:=left_set hun
    have hL':∀j,j<ops.size->(listed.setIfInBounds i true).getD j false=upd L i true j:=λj hj=>by
     by_cases e:i=j
     · subst e
       have:i<listed.size:=by omega
       rw[upd_same];simp[this]
     · rw[getD_set_ne false e,upd_ne _ _ (λx=>e x.symm)];exact hL j hj
    have hall':∀e∈o.after,Region.binds .any e=true->L e.on=true:=λe he hbe=>by
     rw[←hL e.on (by have:=hbk e he hbe;omega)];exact hall e he hbe
    exact hstep s L T w i o hi hLi ho hall' _ λs' T' w' hI'=>ih _ _ s' (upd L i true) _ _ (by simpa using hsz) (by omega) hL' hI'
 refine hJ.step _ _ _ rfl λτ d=>⟨_,_,#[],stepG_region_draw (a:=⟨T₀,ds⟩),?_,by simp,?_⟩
 · exact OkD.refl _ _ _
 · refine hJ.re' s _ w τ (d+1) ?_
   simp only[Region.schedule,hm,Bool.true_or,if_true,Region.linearise]
   refine key _ _ _ _ (λ_=>false) _ _ (by simp) ?_ (λi hi=>by simp[hi]) hI
   unfold left;simp
def DrawX(P:Program)(J:γ->Goroutine->World->Prop)(s:γ)(T:Array Value)(o:Oper)(w:World)(K:γ->Value->World->Prop)(K0:World->Prop):Prop:=
 (okOp P (λ_=>false) o.op=true/\((∃d v w',o.dst=some d/\(execOp (Act.mk T []).eval o).run P w=.ok (.value v) w'/\K s v w')\/(o.dst=none/\∃w',(execOp (Act.mk T []).eval o).run P w=.ok .skip w'/\K0 w')))\/
 (∃d f args,o.dst=some d/\(∀w,(execOp (Act.mk T []).eval o).run P w=.ok (.enter f args) w)/\(∀w,(execOp (Act.mk T []).eval o).events P w #[]=#[])/\CallsJ P J f args (λs' e w'=>∃v,e=.returned v/\K s' v w') s w)
theorem at_drawsS(hJ:JS P main (λ_=>none) J){b:Frame}{k:List Item}{cs:List Frame}(hb:b.kind≠.early)(hm:P.follows .mixedOrders=true){id:Nat}{ops:Array Oper}{T₀:Array Value}{ds:List Deferred}{s:γ}{w:World}(hback:backOkJ ops=true)(hchk:chkW ops T₀.size=true)
 (W:γ->(Nat->Bool)->List Value->World->Prop) (hWre:∀s L v w τ d,W s L v w->W s L v (re w τ d)) (v₀:List Value) (hv₀:v₀.length=ops.size) (hW:W s (λ_=>false) v₀ w)
 (hstep:∀(s:γ)(L:Nat->Bool)(vals:List Value)(T:Array Value)(w:World)(i:Nat)(o:Oper),vals.length=ops.size->W s L vals w->L i=false->ops[i]?=some o->(∀e∈o.after,Region.binds .any e=true->L e.on=true)->
  (∀j t,dstOf ops j=some t->L j=true->T[t]?=vals[j]?)->(∀t,noD ops t=true->T[t]?=T₀[t]?)->
  DrawX P J s T o w (λs' v w'=>W s' (upd L i true) (vals.set i v) w') (λw'=>W s (upd L i true) vals w'))
 (hend:∀s L vals w,(∀i,i<ops.size->L i=true)->vals.length=ops.size->W s L vals w->J s (G (b.at ⟨putv ops vals 0 T₀,ds⟩ (.inRegion ops []::k)) cs) w):J s (G (b.at ⟨T₀,ds⟩ (.code (.region id ops true)::k)) cs) w:=by
 unfold chkW at hchk
 simp only[Bool.and_eq_true,List.all_eq_true,List.mem_range]at hchk
 obtain⟨h1,h2⟩:=hchk
 have plain:∀(i:Nat)(o:Oper),ops[i]?=some o->o.guard=none/\(∀d,o.dst=some d->d<T₀.size):=λi o ho=>by
  have:=h1 i (Array.getElem?_eq_some_iff.1 ho).1
  rw[ho]at this
  simp only[Bool.and_eq_true]at this
  obtain⟨a1,a2⟩:=this
  refine⟨Option.isNone_iff_eq_none.1 a1,λd hd=>?_⟩
  rw[hd]at a2;simpa using a2
 have dlt:∀i d,dstOf ops i=some d->i<ops.size/\d<T₀.size:=λi d hd=>by
  unfold dstOf at hd
  cases ho:ops[i]? with
  |none=>rw[ho]at hd;cases hd
  |some o=>rw[ho]at hd;exact⟨(Array.getElem?_eq_some_iff.1 ho).1,(plain i o ho).2 d hd⟩
 have apart:∀(i j:Nat)(d:Tmp),dstOf ops i=some d->dstOf ops j=some d->i=j:=λi j d hd hd'=>by
  rcases Nat.lt_trichotomy i j with h|h|h
  · have:=h2 j (dlt j d hd').1 i h;rw[hd,hd']at this;simp at this
  · exact h
  · have:=h2 i (dlt i d hd).1 j h;rw[hd,hd']at this;simp at this
 have final:∀(vals:List Value),vals.length=ops.size->∀i x,dstOf ops i=some x->(putv ops vals 0 T₀)[x]?=vals[i]?:=λvals hlen i x hd=>by
  obtain⟨hi,hlt⟩:=dlt i x hd
  rw[List.getElem?_eq_getElem (by omega)]
  refine putv_at vals 0 _ i _ x (List.getElem?_eq_getElem (by omega)) (by rw[Nat.zero_add];exact hd) hlt λm a b e=>?_
  have:=apart m i x e hd
  omega
 let I:γ->(Nat->Bool)->Array Value->World->Prop:=λs L T w=>∃vals:List Value,vals.length=ops.size/\W s L vals w/\T.size=T₀.size/\(∀t,(∀j,dstOf ops j≠some t)->T[t]?=T₀[t]?)/\∀j t,dstOf ops j=some t->L j=true->T[t]?=vals[j]?
 refine at_drawsX hJ hb hm I hback (λs L T w τ d⟨vals,a1,a2,a3⟩=>⟨vals,a1,hWre _ _ _ _ _ _ a2,a3⟩) ⟨v₀,hv₀,hW,rfl,λ_ _=>rfl,λ_ _ _ h=>(by cases h)⟩ ?_ ?_
 · rintro s L T w i o ⟨vals,hlen,hw,hsz,hout,hin⟩ hLi ho hdep rest hnext
   obtain⟨hg,hdo⟩:=plain i o ho
   have hil:i<ops.size:=(Array.getElem?_eq_some_iff.1 ho).1
   have hst0:=λw hw=>hstep s L vals T w i o hlen hw hLi ho hdep hin λt ht=>hout t (noD_iff ht)
   have hwan:Region.wanted o (yielded ops T)=true:=by simp[Region.wanted,hg]
   have value:∀s' d v w',o.dst=some d->W s' (upd L i true) (vals.set i v) w'->I s' (upd L i true) (T.setIfInBounds d v) w':=λs' d v w' hd hW'=>by
    have hdi:dstOf ops i=some d:=by unfold dstOf;rw[ho];exact hd
    refine⟨vals.set i v,by simpa using hlen,hW',by simpa using hsz,λt ht=>?_,λj t hdj hl=>?_⟩
    · have:d≠t:=λe=>ht i (e▸hdi)
      rw[al_gn this];exact hout t ht
    · by_cases e:j=i
      · subst e
        rw[hdi]at hdj
        obtain rfl:=Option.some.inj hdj
        have:d<T.size:=by rw[hsz];exact hdo d hd
        have hjl:j<vals.length:=by omega
        simp[this,hjl]
      · have hdt:d≠t:=λe2=>by subst e2;exact e (apart j i d hdj hdi)
        rw[upd_ne _ _ e]at hl
        rw[al_gn hdt,List.getElem?_set_ne (λe2=>e e2.symm),hin j t hdj hl]
   have skip:∀w',o.dst=none->W s (upd L i true) vals w'->I s (upd L i true) T w':=λw' hd hW'=>by
    refine⟨vals,hlen,hW',hsz,hout,λj t hdj hl=>?_⟩
    have e:j≠i:=λe=>by
     subst e
     unfold dstOf at hdj;rw[ho]at hdj;simp only[al_ob]at hdj;rw[hd]at hdj;cases hdj
    rw[upd_ne _ _ e]at hl
    exact hin j t hdj hl
   rcases hst0 w hw with⟨hok,hpl⟩|⟨d,f,args,hd,hrun,hev,hcall⟩
   · have hst:=λτ dd=>hst0 (re w τ dd) (hWre _ _ _ _ τ dd hw)
     cases hdst:o.dst with
     |some d=>
      refine at_opF hJ hb ho hok hwan hdst λτ dd=>?_
      rcases hst τ dd with⟨_,⟨d',v,w',hd',hr,hI'⟩|⟨hd',_⟩⟩|⟨d',f,args,hd',hrun,hev,hcall⟩
      · exact⟨v,w',hr,hnext _ _ _ (value s d v w' hdst hI')⟩
      · rw[hdst]at hd';cases hd'
      · exfalso
        rcases hpl with⟨_,v,w',_,hr,_⟩|⟨hd',_⟩
        · rw[hrun]at hr;cases hr
        · rw[hdst]at hd';cases hd'
     |none=>
      refine at_skipF hJ hb ho hok hwan hdst λτ dd=>?_
      rcases hst τ dd with⟨_,⟨d',v,w',hd',_⟩|⟨hd',w',hr,hI'⟩⟩|⟨d',f,args,hd',_⟩
      · rw[hdst]at hd';cases hd'
      · exact⟨w',hr,hnext _ _ _ (skip w' hdst hI')⟩
      · rw[hdst]at hd';cases hd'
   · have hrun':∀w,(execOp (Act.mk T ds).eval o).run P w=.ok (.enter f args) w:=hrun
     refine at_call hb hJ ho hwan (λτ dd=>hrun' (re w τ dd)) (λτ dd e he=>?_) ?_
     · rw[Sem.runT_eq,show(execOp (Act.mk T ds).eval o).events P (re w τ dd) #[]=#[]from hev _]at he
       simp at he
     · refine hcall _ _ ?_ ?_
       · rintro s' v w' ⟨v',e,hW'⟩
         cases e
         rw[Frame.finish_at,ho]
         have hp:(Act.mk T ds).put o.dst v=⟨T.setIfInBounds d v,ds⟩:=by rw[hd];rfl
         simp only[al_ob]
         have:=hnext _ _ _ (value s' d v w' hd hW')
         simpa[hp]using this
       · rintro s' ch w' ⟨v,e,_⟩
         cases e
 · rintro s L T w hall ⟨vals,hlen,hw,hsz,hout,hin⟩
   have:T=putv ops vals 0 T₀:=by
    apply Array.ext_getElem?
    intro x
    by_cases hx:∃j,dstOf ops j=some x
    · obtain⟨j,hdj⟩:=hx
      rw[hin j x hdj (hall j (dlt j x hdj).1),final vals hlen j x hdj]
    · have hno:∀j,dstOf ops j≠some x:=λj hd=>hx ⟨j,hd⟩
      rw[hout x hno]
      exact(putv_out vals 0 _ x λj _ _=>hno j).symm
   rw[this]
   exact hend s L vals w hall hlen hw
end
end Go.Car
set_option maxHeartbeats 8000000
set_option maxRecDepth 100000
namespace Go.Proofs
open Go Go.Conc Go.RowKit Go.Car
open Go.ConcN (upd upd_ne upd_same)
noncomputable def plT(n:Nat):Code:=tailN n (Try.f3.body.getD .skip)
theorem pl0:Try.f3.body.getD .skip=.seq (headC (plT 0)) (.seq (headC (plT 1)) (.seq (headC (plT 2)) (plT 3))):=by kernel_rfl
noncomputable def plR:Array Oper:=match headC (plT 2)with
 |.region _ o _=>o
 |_=>#[]
theorem plR0:headC (plT 2)=.region 3 plR true:=by kernel_rfl
structure PlIn(W:World)(wp pp scp:Option Addr)(wl np N sl:Nat)(sp:Nat->Option Addr)(L Cp:Nat->Nat)(ops:Nat->List OpX)(ws sched:List Int):Prop where
 wsl:ws.length=wl
 wlo:wl<=4611686018427387904
 wc:0<wl->∃wb wo,wp=some ⟨wb,wo,none⟩/\∀i,i<wl->W.cell? ⟨wb,wo+i,none⟩=some (.int .i64 (ws.getD i 0))
 op:OpsAt W (λb=>W.heap[b]?) pp np N sp L Cp ops
 run:RunIn W.heap.size W pp np N sp L Cp (λi=>.slice (sp i) (min (L i) 65536) (Cp i)) ops
 scl:sched.length=sl
 sle:sl<=4611686018427387904
 sc:sched≠[]->∃sb off,scp=some ⟨sb,off,none⟩/\∀j x,sched[j]?=some x->W.cell? ⟨sb,off+j,none⟩=some (.int .i64 x)
structure PlW(W0:World)(n0 N:Nat)(spec:List Value)(R:RS)(stk:Bool)(s:Nat)(L:Nat->Bool)(vals:List Value)(w:World):Prop where
 be:Beyond W0 w
 st:s=if L 8=true then n0+N else n0
 v:∀i,i<20->i≠8->i≠17->L i=true->vals[i]?=spec[i]?
 p:L 8=true->∃v,vals[8]?=some v/\TraceAt w v N (λi=>(R.T i).ans) (R.ord.map λ(i:Nat)=>(i:Int)) R.C stk
 q:L 17=true->∃v,vals[17]?=some v/\TraceAt w v N (λi=>(R.T i).ans) (R.ord.map λ(i:Nat)=>(i:Int)) R.C stk
section
variable {W0:World} {n0 N:Nat} {spec:List Value} {R:RS} {stk:Bool} {s:Nat} {L:Nat->Bool} {vals:List Value} {w w':World}
theorem PlW.read (h:PlW W0 n0 N spec R stk s L vals w)(hb:Beyond w w')(hlen:vals.length=20){i:Nat}{v:Value}(hi:i<20)(h8:i≠8)(h17:i≠17)(hv:spec[i]?=some v):PlW W0 n0 N spec R stk s (upd L i true) (vals.set i v) w':=by
 refine⟨h.be.trans hb,by rw[upd_ne _ _ (Ne.symm h8)];exact h.st,λj hj j8 j17 hl=>?_,λhl=>?_,λhl=>?_⟩
 · by_cases e:j=i
   · subst e;rw[hv];simp[hlen,hj]
   · rw[upd_ne _ _ e]at hl
     rw[List.getElem?_set_ne (λx=>e x.symm)];exact h.v j hj j8 j17 hl
 · rw[upd_ne _ _ (Ne.symm h8)]at hl
   obtain⟨v,h1,h2⟩:=h.p hl
   exact⟨v,by rw[List.getElem?_set_ne h8];exact h1,h2.beyond hb⟩
 · rw[upd_ne _ _ (Ne.symm h17)]at hl
   obtain⟨v,h1,h2⟩:=h.q hl
   exact⟨v,by rw[List.getElem?_set_ne h17];exact h1,h2.beyond hb⟩
theorem PlW.call8 (h:PlW W0 n0 N spec R stk s L vals w)(hL:L 8=false)(hb:Beyond w w')(hlen:vals.length=20){v:Value}(ht:TraceAt w' v N (λi=>(R.T i).ans) (R.ord.map λ(i:Nat)=>(i:Int)) R.C stk):PlW W0 n0 N spec R stk (s+N) (upd L 8 true) (vals.set 8 v) w':=by
 refine⟨h.be.trans hb,by rw[upd_same,if_pos rfl];have:=h.st;rw[hL]at this;rw[this];rfl,λj hj j8 j17 hl=>?_,λhl=>⟨v,by simp[hlen],ht⟩,λhl=>?_⟩
 · rw[upd_ne _ _ j8]at hl
   rw[List.getElem?_set_ne (λx=>j8 x.symm)];exact h.v j hj j8 j17 hl
 · rw[upd_ne _ _ (by decide)]at hl
   obtain⟨v,h1,h2⟩:=h.q hl
   exact⟨v,by rw[List.getElem?_set_ne (by decide)];exact h1,h2.beyond hb⟩
theorem PlW.call17 (h:PlW W0 n0 N spec R stk s L vals w)(hb:Beyond w w')(hlen:vals.length=20){v:Value}(ht:TraceAt w' v N (λi=>(R.T i).ans) (R.ord.map λ(i:Nat)=>(i:Int)) R.C stk):PlW W0 n0 N spec R stk s (upd L 17 true) (vals.set 17 v) w':=by
 refine⟨h.be.trans hb,by rw[upd_ne _ _ (by decide)];exact h.st,λj hj j8 j17 hl=>?_,λhl=>?_,λhl=>⟨v,by simp[hlen],ht⟩⟩
 · rw[upd_ne _ _ j17]at hl
   rw[List.getElem?_set_ne (λx=>j17 x.symm)];exact h.v j hj j8 j17 hl
 · rw[upd_ne _ _ (by decide)]at hl
   obtain⟨v,h1,h2⟩:=h.p hl
   exact⟨v,by rw[List.getElem?_set_ne (by decide)];exact h1,h2.beyond hb⟩
end
theorem pl_draw{Fin:Machine->Trace->Prop}(hFin:Back Try.prog Fin){n0:Nat}(hn:0<n0){W W0:World}{wp pp scp:Option Addr}{wl Cw np Cn N sl Cs Bx:Nat}{sp:Nat->Option Addr}{Ln Cp:Nat->Nat}{ops:Nat->List OpX}{ws sched:List Int}{mo:Int}{R:RS}{stk:Bool}
 (HIN:RowKit.Hid (PlIn W wp pp scp wl np N sl sp Ln Cp ops ws sched/\Beyond W W0/\W0.heap[Bx]?=some (.cells #[.slice wp wl Cw,.slice pp np Cn,.slice scp sl Cs,.int .i64 mo] 26)/\playR ops N (min mo.toNat 1048576) sched (zqz ws)=R/\decide (0<leftN (ovR R) N)=stk/\PlTr N R)):
 ∀(s:Nat)(L:Nat->Bool)(vals:List Value)(T:Array Value)(w:World)(i:Nat)(o:Oper),vals.length=plR.size->PlW W0 n0 N [.pointer (some ⟨Bx,0,none⟩),.slice wp wl Cw,.pointer (some ⟨Bx,1,none⟩),.slice pp np Cn,.pointer (some ⟨Bx,2,none⟩),.slice scp sl Cs,.pointer (some ⟨Bx,3,none⟩),.int .i64 mo,undef,.pointer (some ⟨Bx,0,none⟩),.slice wp wl Cw,.pointer (some ⟨Bx,1,none⟩),.slice pp np Cn,.pointer (some ⟨Bx,2,none⟩),.slice scp sl Cs,.pointer (some ⟨Bx,3,none⟩),.int .i64 mo,undef,.bool true,.bool true] R stk s L vals w->L i=false->plR[i]?=some o->(∀e∈o.after,Region.binds .any e=true->L e.on=true)->
  (∀j t,dstOf plR j=some t->L j=true->T[t]?=vals[j]?)->(∀t,noD plR t=true->T[t]?=(#[.agg #[.slice wp wl Cw,.slice pp np Cn,.slice scp sl Cs,.int .i64 mo],.pointer (some ⟨Bx,0,none⟩),.bool false,.bool true,.bool false,undef,undef,undef,undef,undef,undef,undef,undef,undef,undef,undef,undef,undef,undef,undef,undef,undef,undef,undef]:Array Value)[t]?)->
  DrawX Try.prog (J0 Try.prog Fin) s T o w (λs' v w'=>PlW W0 n0 N [.pointer (some ⟨Bx,0,none⟩),.slice wp wl Cw,.pointer (some ⟨Bx,1,none⟩),.slice pp np Cn,.pointer (some ⟨Bx,2,none⟩),.slice scp sl Cs,.pointer (some ⟨Bx,3,none⟩),.int .i64 mo,undef,.pointer (some ⟨Bx,0,none⟩),.slice wp wl Cw,.pointer (some ⟨Bx,1,none⟩),.slice pp np Cn,.pointer (some ⟨Bx,2,none⟩),.slice scp sl Cs,.pointer (some ⟨Bx,3,none⟩),.int .i64 mo,undef,.bool true,.bool true] R stk s' (upd L i true) (vals.set i v) w') (λw'=>PlW W0 n0 N [.pointer (some ⟨Bx,0,none⟩),.slice wp wl Cw,.pointer (some ⟨Bx,1,none⟩),.slice pp np Cn,.pointer (some ⟨Bx,2,none⟩),.slice scp sl Cs,.pointer (some ⟨Bx,3,none⟩),.int .i64 mo,undef,.pointer (some ⟨Bx,0,none⟩),.slice wp wl Cw,.pointer (some ⟨Bx,1,none⟩),.slice pp np Cn,.pointer (some ⟨Bx,2,none⟩),.slice scp sl Cs,.pointer (some ⟨Bx,3,none⟩),.int .i64 mo,undef,.bool true,.bool true] R stk s (upd L i true) vals w'):=by
 intro s L vals T w i o hlen h hLi ho hdep hT hT0
 have hi:i<20:=(Array.getElem?_eq_some_iff.1 ho).1
 replace hlen:vals.length=20:=hlen
 obtain⟨u3,hu3⟩:∃c,plR=c:=⟨_,rfl⟩
 have eu3:=hu3
 simp only[plR,plT,headC,tailN,Try.f3,al_od]at eu3
 rw[hu3,←eu3]at ho
 clear eu3 hu3
 obtain rfl |rfl |rfl |rfl |rfl |rfl |rfl |rfl |rfl |rfl |rfl |rfl |rfl |rfl |rfl |rfl |rfl |rfl |rfl |rfl:i=0\/i=1\/i=2\/i=3\/i=4\/i=5\/i=6\/i=7\/i=8\/i=9\/i=10\/i=11\/i=12\/i=13\/i=14\/i=15\/i=16\/i=17\/i=18\/i=19:=by omega
 ·
  simp only[al_gl,al_g0,al_g1,al_oi]at ho
  subst ho
  have e1:T[1]?=some (.pointer (some ⟨Bx,0,none⟩)):=(hT0 1 (by kernel_rfl)).trans rfl
  refine .inl ⟨rfl,.inl ⟨5,.pointer (some ⟨Bx,0,none⟩),w,rfl,?_,PlW.read h (Beyond.refl w) hlen (i:=0) (by decide) (by decide) (by decide) rfl⟩⟩
  simp only[execOp,Act.eval,al_gd,e1,al_od]
  go_simp
 ·
  simp only[al_gl,al_g0,al_g1,al_oi]at ho
  subst ho
  have e5:T[5]?=some (.pointer (some ⟨Bx,0,none⟩)):=(hT 0 5 rfl (hdep ⟨0,.data⟩ (by simp) rfl)).trans (h.v 0 (by decide) (by decide) (by decide) (hdep ⟨0,.data⟩ (by simp) rfl))
  have c:w.cell? ⟨Bx,0,none⟩=some (.slice wp wl Cw):=(zq0 (off:=0) (h.be.heap HIN.out.2.2.1)).trans rfl
  refine .inl ⟨rfl,.inl ⟨6,.slice wp wl Cw,w,rfl,?_,PlW.read h (Beyond.refl w) hlen (i:=1) (by decide) (by decide) (by decide) rfl⟩⟩
  simp only[execOp,Act.eval,al_gd,e5,al_od]
  go_simp
 ·
  simp only[al_gl,al_g0,al_g1,al_oi]at ho
  subst ho
  have e1:T[1]?=some (.pointer (some ⟨Bx,0,none⟩)):=(hT0 1 (by kernel_rfl)).trans rfl
  refine .inl ⟨rfl,.inl ⟨7,.pointer (some ⟨Bx,1,none⟩),w,rfl,?_,PlW.read h (Beyond.refl w) hlen (i:=2) (by decide) (by decide) (by decide) rfl⟩⟩
  simp only[execOp,Act.eval,al_gd,e1,al_od]
  go_simp
 ·
  simp only[al_gl,al_g0,al_g1,al_oi]at ho
  subst ho
  have e7:T[7]?=some (.pointer (some ⟨Bx,1,none⟩)):=(hT 2 7 rfl (hdep ⟨2,.data⟩ (by simp) rfl)).trans (h.v 2 (by decide) (by decide) (by decide) (hdep ⟨2,.data⟩ (by simp) rfl))
  have c:w.cell? ⟨Bx,1,none⟩=some (.slice pp np Cn):=(zq0 (off:=1) (h.be.heap HIN.out.2.2.1)).trans rfl
  refine .inl ⟨rfl,.inl ⟨8,.slice pp np Cn,w,rfl,?_,PlW.read h (Beyond.refl w) hlen (i:=3) (by decide) (by decide) (by decide) rfl⟩⟩
  simp only[execOp,Act.eval,al_gd,e7,al_od]
  go_simp
 ·
  simp only[al_gl,al_g0,al_g1,al_oi]at ho
  subst ho
  have e1:T[1]?=some (.pointer (some ⟨Bx,0,none⟩)):=(hT0 1 (by kernel_rfl)).trans rfl
  refine .inl ⟨rfl,.inl ⟨9,.pointer (some ⟨Bx,2,none⟩),w,rfl,?_,PlW.read h (Beyond.refl w) hlen (i:=4) (by decide) (by decide) (by decide) rfl⟩⟩
  simp only[execOp,Act.eval,al_gd,e1,al_od]
  go_simp
 ·
  simp only[al_gl,al_g0,al_g1,al_oi]at ho
  subst ho
  have e9:T[9]?=some (.pointer (some ⟨Bx,2,none⟩)):=(hT 4 9 rfl (hdep ⟨4,.data⟩ (by simp) rfl)).trans (h.v 4 (by decide) (by decide) (by decide) (hdep ⟨4,.data⟩ (by simp) rfl))
  have c:w.cell? ⟨Bx,2,none⟩=some (.slice scp sl Cs):=(zq0 (off:=2) (h.be.heap HIN.out.2.2.1)).trans rfl
  refine .inl ⟨rfl,.inl ⟨10,.slice scp sl Cs,w,rfl,?_,PlW.read h (Beyond.refl w) hlen (i:=5) (by decide) (by decide) (by decide) rfl⟩⟩
  simp only[execOp,Act.eval,al_gd,e9,al_od]
  go_simp
 ·
  simp only[al_gl,al_g0,al_g1,al_oi]at ho
  subst ho
  have e1:T[1]?=some (.pointer (some ⟨Bx,0,none⟩)):=(hT0 1 (by kernel_rfl)).trans rfl
  refine .inl ⟨rfl,.inl ⟨11,.pointer (some ⟨Bx,3,none⟩),w,rfl,?_,PlW.read h (Beyond.refl w) hlen (i:=6) (by decide) (by decide) (by decide) rfl⟩⟩
  simp only[execOp,Act.eval,al_gd,e1,al_od]
  go_simp
 ·
  simp only[al_gl,al_g0,al_g1,al_oi]at ho
  subst ho
  have e11:T[11]?=some (.pointer (some ⟨Bx,3,none⟩)):=(hT 6 11 rfl (hdep ⟨6,.data⟩ (by simp) rfl)).trans (h.v 6 (by decide) (by decide) (by decide) (hdep ⟨6,.data⟩ (by simp) rfl))
  have c:w.cell? ⟨Bx,3,none⟩=some (.int .i64 mo):=(zq0 (off:=3) (h.be.heap HIN.out.2.2.1)).trans rfl
  refine .inl ⟨rfl,.inl ⟨12,.int .i64 mo,w,rfl,?_,PlW.read h (Beyond.refl w) hlen (i:=7) (by decide) (by decide) (by decide) rfl⟩⟩
  simp only[execOp,Act.eval,al_gd,e11,al_od]
  go_simp
 ·
  simp only[al_gl,al_g0,al_g1,al_oi]at ho
  subst ho
  have e6:T[6]?=some (.slice wp wl Cw):=(hT 1 6 rfl (hdep ⟨1,.data⟩ (by simp) rfl)).trans (h.v 1 (by decide) (by decide) (by decide) (hdep ⟨1,.data⟩ (by simp) rfl))
  have e8:T[8]?=some (.slice pp np Cn):=(hT 3 8 rfl (hdep ⟨3,.data⟩ (by simp) rfl)).trans (h.v 3 (by decide) (by decide) (by decide) (hdep ⟨3,.data⟩ (by simp) rfl))
  have e10:T[10]?=some (.slice scp sl Cs):=(hT 5 10 rfl (hdep ⟨5,.data⟩ (by simp) rfl)).trans (h.v 5 (by decide) (by decide) (by decide) (hdep ⟨5,.data⟩ (by simp) rfl))
  have e12:T[12]?=some (.int .i64 mo):=(hT 7 12 rfl (hdep ⟨7,.data⟩ (by simp) rfl)).trans (h.v 7 (by decide) (by decide) (by decide) (hdep ⟨7,.data⟩ (by simp) rfl))
  refine .inr ⟨13,10,#[.slice wp wl Cw,.slice pp np Cn,.slice scp sl Cs,.int .i64 mo],rfl,λw=>?_,λw=>?_,?_⟩
  · simp only[execOp,Act.eval,al_gd,e6,e8,e10,e12,al_od,List.map_toArray,List.map_cons,List.map_nil]
    simp[go_sem,execOp,Act.eval,resolve,Deferred.ofValue,invoke,callFunc,Try.func10,Try.f10,e6,e8,e10,e12]
  · simp only[execOp,Act.eval,al_gd,e6,e8,e10,e12,al_od,List.map_toArray,List.map_cons,List.map_nil]
    simp[go_sem,execOp,Act.eval,resolve,Deferred.ofValue,invoke,callFunc,Try.func10,Try.f10,e6,e8,e10,e12]
  · intro cl cs' h1 _
    obtain⟨hI,hb,hbx,hR,hst,hP⟩:=HIN.out
    have hbw:=hb.trans h.be
    have hsp:0<s:=by have:=h.st;rw[hLi]at this;simp at this;omega
    rw[←hI.scl]
    refine strplay_calls hFin hsp (RP:=λb=>W.heap[b]?) (ws:=ws) (sched:=sched) hI.wsl hI.wlo (λh0=>?_) (λb o hbo=>hbw.heap hbo) (hI.op.beyond hbw) (by rw[hI.scl];exact hI.sle) (λh0=>?_) ?_
    · obtain⟨wb,wo,e,hc⟩:=hI.wc h0
      exact⟨wb,wo,e,λi hi=>hbw.cell (hc i hi)⟩
    · obtain⟨sb,off,e,hc⟩:=hI.sc h0
      exact⟨sb,off,e,λj x hj=>hbw.cell (hc j x hj)⟩
    · intro ab ov sv am w' hO
      obtain⟨q1,q2,q3,q4⟩:=plays_same ws ops N mo sched
      rw[hR]at q1 q2 q3 q4
      have ht:=trace_of (stk:=stk) hO.ans hO.orow hO.srow
      rw[hO.ast,q1,q3,show(strT ws ops N mo sched).s.2=λi=>(R.T i).ans from funext q2]at ht
      rw[q4,hst]
      exact h1 (s+N) _ w' ⟨_,rfl,h.call8 hLi ⟨hO.size,hO.old⟩ hlen ht⟩
 ·
  simp only[al_gl,al_g0,al_g1,al_oi]at ho
  subst ho
  have e1:T[1]?=some (.pointer (some ⟨Bx,0,none⟩)):=(hT0 1 (by kernel_rfl)).trans rfl
  refine .inl ⟨rfl,.inl ⟨14,.pointer (some ⟨Bx,0,none⟩),w,rfl,?_,PlW.read h (Beyond.refl w) hlen (i:=9) (by decide) (by decide) (by decide) rfl⟩⟩
  simp only[execOp,Act.eval,al_gd,e1,al_od]
  go_simp
 ·
  simp only[al_gl,al_g0,al_g1,al_oi]at ho
  subst ho
  have e14:T[14]?=some (.pointer (some ⟨Bx,0,none⟩)):=(hT 9 14 rfl (hdep ⟨9,.data⟩ (by simp) rfl)).trans (h.v 9 (by decide) (by decide) (by decide) (hdep ⟨9,.data⟩ (by simp) rfl))
  have c:w.cell? ⟨Bx,0,none⟩=some (.slice wp wl Cw):=(zq0 (off:=0) (h.be.heap HIN.out.2.2.1)).trans rfl
  refine .inl ⟨rfl,.inl ⟨15,.slice wp wl Cw,w,rfl,?_,PlW.read h (Beyond.refl w) hlen (i:=10) (by decide) (by decide) (by decide) rfl⟩⟩
  simp only[execOp,Act.eval,al_gd,e14,al_od]
  go_simp
 ·
  simp only[al_gl,al_g0,al_g1,al_oi]at ho
  subst ho
  have e1:T[1]?=some (.pointer (some ⟨Bx,0,none⟩)):=(hT0 1 (by kernel_rfl)).trans rfl
  refine .inl ⟨rfl,.inl ⟨16,.pointer (some ⟨Bx,1,none⟩),w,rfl,?_,PlW.read h (Beyond.refl w) hlen (i:=11) (by decide) (by decide) (by decide) rfl⟩⟩
  simp only[execOp,Act.eval,al_gd,e1,al_od]
  go_simp
 ·
  simp only[al_gl,al_g0,al_g1,al_oi]at ho
  subst ho
  have e16:T[16]?=some (.pointer (some ⟨Bx,1,none⟩)):=(hT 11 16 rfl (hdep ⟨11,.data⟩ (by simp) rfl)).trans (h.v 11 (by decide) (by decide) (by decide) (hdep ⟨11,.data⟩ (by simp) rfl))
  have c:w.cell? ⟨Bx,1,none⟩=some (.slice pp np Cn):=(zq0 (off:=1) (h.be.heap HIN.out.2.2.1)).trans rfl
  refine .inl ⟨rfl,.inl ⟨17,.slice pp np Cn,w,rfl,?_,PlW.read h (Beyond.refl w) hlen (i:=12) (by decide) (by decide) (by decide) rfl⟩⟩
  simp only[execOp,Act.eval,al_gd,e16,al_od]
  go_simp
 ·
  simp only[al_gl,al_g0,al_g1,al_oi]at ho
  subst ho
  have e1:T[1]?=some (.pointer (some ⟨Bx,0,none⟩)):=(hT0 1 (by kernel_rfl)).trans rfl
  refine .inl ⟨rfl,.inl ⟨18,.pointer (some ⟨Bx,2,none⟩),w,rfl,?_,PlW.read h (Beyond.refl w) hlen (i:=13) (by decide) (by decide) (by decide) rfl⟩⟩
  simp only[execOp,Act.eval,al_gd,e1,al_od]
  go_simp
 ·
  simp only[al_gl,al_g0,al_g1,al_oi]at ho
  subst ho
  have e18:T[18]?=some (.pointer (some ⟨Bx,2,none⟩)):=(hT 13 18 rfl (hdep ⟨13,.data⟩ (by simp) rfl)).trans (h.v 13 (by decide) (by decide) (by decide) (hdep ⟨13,.data⟩ (by simp) rfl))
  have c:w.cell? ⟨Bx,2,none⟩=some (.slice scp sl Cs):=(zq0 (off:=2) (h.be.heap HIN.out.2.2.1)).trans rfl
  refine .inl ⟨rfl,.inl ⟨19,.slice scp sl Cs,w,rfl,?_,PlW.read h (Beyond.refl w) hlen (i:=14) (by decide) (by decide) (by decide) rfl⟩⟩
  simp only[execOp,Act.eval,al_gd,e18,al_od]
  go_simp
 ·
  simp only[al_gl,al_g0,al_g1,al_oi]at ho
  subst ho
  have e1:T[1]?=some (.pointer (some ⟨Bx,0,none⟩)):=(hT0 1 (by kernel_rfl)).trans rfl
  refine .inl ⟨rfl,.inl ⟨20,.pointer (some ⟨Bx,3,none⟩),w,rfl,?_,PlW.read h (Beyond.refl w) hlen (i:=15) (by decide) (by decide) (by decide) rfl⟩⟩
  simp only[execOp,Act.eval,al_gd,e1,al_od]
  go_simp
 ·
  simp only[al_gl,al_g0,al_g1,al_oi]at ho
  subst ho
  have e20:T[20]?=some (.pointer (some ⟨Bx,3,none⟩)):=(hT 15 20 rfl (hdep ⟨15,.data⟩ (by simp) rfl)).trans (h.v 15 (by decide) (by decide) (by decide) (hdep ⟨15,.data⟩ (by simp) rfl))
  have c:w.cell? ⟨Bx,3,none⟩=some (.int .i64 mo):=(zq0 (off:=3) (h.be.heap HIN.out.2.2.1)).trans rfl
  refine .inl ⟨rfl,.inl ⟨21,.int .i64 mo,w,rfl,?_,PlW.read h (Beyond.refl w) hlen (i:=16) (by decide) (by decide) (by decide) rfl⟩⟩
  simp only[execOp,Act.eval,al_gd,e20,al_od]
  go_simp
 ·
  simp only[al_gl,al_g0,al_g1,al_oi]at ho
  subst ho
  have e15:T[15]?=some (.slice wp wl Cw):=(hT 10 15 rfl (hdep ⟨10,.data⟩ (by simp) rfl)).trans (h.v 10 (by decide) (by decide) (by decide) (hdep ⟨10,.data⟩ (by simp) rfl))
  have e17:T[17]?=some (.slice pp np Cn):=(hT 12 17 rfl (hdep ⟨12,.data⟩ (by simp) rfl)).trans (h.v 12 (by decide) (by decide) (by decide) (hdep ⟨12,.data⟩ (by simp) rfl))
  have e19:T[19]?=some (.slice scp sl Cs):=(hT 14 19 rfl (hdep ⟨14,.data⟩ (by simp) rfl)).trans (h.v 14 (by decide) (by decide) (by decide) (hdep ⟨14,.data⟩ (by simp) rfl))
  have e21:T[21]?=some (.int .i64 mo):=(hT 16 21 rfl (hdep ⟨16,.data⟩ (by simp) rfl)).trans (h.v 16 (by decide) (by decide) (by decide) (hdep ⟨16,.data⟩ (by simp) rfl))
  refine .inr ⟨22,11,#[.slice wp wl Cw,.slice pp np Cn,.slice scp sl Cs,.int .i64 mo],rfl,λw=>?_,λw=>?_,?_⟩
  · simp only[execOp,Act.eval,al_gd,e15,e17,e19,e21,al_od,List.map_toArray,List.map_cons,List.map_nil]
    simp[go_sem,execOp,Act.eval,resolve,Deferred.ofValue,invoke,callFunc,Try.func11,Try.f11,e15,e17,e19,e21]
  · simp only[execOp,Act.eval,al_gd,e15,e17,e19,e21,al_od,List.map_toArray,List.map_cons,List.map_nil]
    simp[go_sem,execOp,Act.eval,resolve,Deferred.ofValue,invoke,callFunc,Try.func11,Try.f11,e15,e17,e19,e21]
  · intro cl cs' h1 _
    obtain⟨hI,hb,hbx,hR,hst,hP⟩:=HIN.out
    have hbw:=hb.trans h.be
    rw[←hI.scl]
    refine at_calls_lone (j0_JS hFin) (j0_calm hFin) plainM Try.func11 rfl (by kernel_rfl) (R:=λv w'=>TraceAt w' v N (λi=>(R.T i).ans) (R.ord.map λ(i:Nat)=>(i:Int)) R.C stk/\Beyond w w') (λv w' τ d h=>⟨h.1.beyond (Beyond.re _ _ _),h.2.trans (Beyond.re _ _ _)⟩) (λτ d=>?_) ?_
    · have hbr:=hbw.trans (Beyond.re w τ d)
      refine Calls.mono (refplay_lone (R:=R) (N:=N) (ops:=ops) (ws:=ws) (sched:=sched) (mo:=mo) (re w τ d) hI.wsl hI.wlo (λh0=>?_) (hI.run.to hbr.1 hbr.2) (by rw[hI.scl];exact hI.sle) (λh0=>?_) hR) ?_
      · obtain⟨wb,wo,e,hc⟩:=hI.wc h0
        exact⟨wb,wo,e,λi hi=>hbr.cell (hc i hi)⟩
      · obtain⟨sb,off,e,hc⟩:=hI.sc h0
        exact⟨sb,off,e,λj x hj=>hbr.cell (hc j x hj)⟩
      · rintro e w' ⟨v,rfl,ht,hb2⟩
        rw[hst]at ht
        exact⟨v,rfl,ht,(Beyond.re w τ d).trans hb2⟩
    · intro v w' hv
      exact h1 s _ w' ⟨_,rfl,h.call17 hv.2 hlen hv.1⟩
 ·
  simp only[al_gl,al_g0,al_g1,al_oi]at ho
  subst ho
  obtain⟨va,ha1,ha⟩:=h.p (hdep ⟨8,.data⟩ (by simp) rfl)
  obtain⟨vb,hb1,hb⟩:=h.q (hdep ⟨17,.data⟩ (by simp) rfl)
  have e13:T[13]?=some va:=(hT 8 13 rfl (hdep ⟨8,.data⟩ (by simp) rfl)).trans ha1
  have e22:T[22]?=some vb:=(hT 17 22 rfl (hdep ⟨17,.data⟩ (by simp) rfl)).trans hb1
  refine .inr ⟨23,9,#[va,vb],rfl,λw=>?_,λw=>?_,?_⟩
  · simp only[execOp,Act.eval,al_gd,e13,e22,al_od,List.map_toArray,List.map_cons,List.map_nil]
    simp[go_sem,execOp,Act.eval,resolve,Deferred.ofValue,invoke,callFunc,Try.func9,Try.f9,e13,e22]
  · simp only[execOp,Act.eval,al_gd,e13,e22,al_od,List.map_toArray,List.map_cons,List.map_nil]
    simp[go_sem,execOp,Act.eval,resolve,Deferred.ofValue,invoke,callFunc,Try.func9,Try.f9,e13,e22]
  · intro cl cs' h1 _
    refine at_calls_lone (j0_JS hFin) (j0_calm hFin) plainM Try.func9 rfl (by kernel_rfl) (R:=λv w'=>v=.bool true/\Beyond w w') (λv w' τ d h=>⟨h.1,h.2.trans (Beyond.re _ _ _)⟩) (λτ d=>?_) ?_
    · refine Calls.mono (pl_same HIN.out.2.2.2.2.2 (ha.beyond (Beyond.re w τ d)) (hb.beyond (Beyond.re w τ d))) ?_
      rintro e w' ⟨rfl,hb2⟩
      exact⟨_,rfl,rfl,(Beyond.re w τ d).trans hb2⟩
    · rintro v w' ⟨rfl,hb2⟩
      exact h1 s _ w' ⟨_,rfl,PlW.read h hb2 hlen (i:=18) (by decide) (by decide) (by decide) rfl⟩
 ·
  simp only[al_gl,al_g0,al_g1,al_oi]at ho
  subst ho
  have e23:T[23]?=some (.bool true):=(hT 18 23 rfl (hdep ⟨18,.data⟩ (by simp) rfl)).trans (h.v 18 (by decide) (by decide) (by decide) (hdep ⟨18,.data⟩ (by simp) rfl))
  refine .inl ⟨rfl,.inl ⟨2,.bool true,w,rfl,?_,PlW.read h (Beyond.refl w) hlen (i:=19) (by decide) (by decide) (by decide) rfl⟩⟩
  simp only[execOp,Act.eval,al_gd,e23,al_od]
  go_simp
end Go.Proofs
set_option maxHeartbeats 4000000
set_option maxRecDepth 100000
namespace Go.Proofs
open Go Go.Conc Go.RowKit Go.Car
section
variable {Ml S α:Type} {C:Core Ml S} {ro:Nat->Option Obj} {i:Nat}
theorem step_nil{main:Bool}{Kc:Addr->Option Value}{J:Goroutine->World->Prop}(hJ:JS Try.prog main Kc (λ(_:Unit)=>J))(hC:CalmJ Try.prog main (λ(_:Unit)=>J))(m₀:BM Ml)(w₀:World)(T:S×Option α×Nat):
 StepY (seqSys plainM hJ hC C ro i 0 m₀ w₀ T) 33 #[.nilIface]:=by
 obtain⟨Y,hY⟩:∃Y,seqSys plainM hJ hC C ro i 0 m₀ w₀ T=Y:=⟨_,rfl⟩
 have hskip:∀(K:Unit->Proc S α)(s:Y.γ)(B:Nat->Option Obj)(w:World),Y.AtB B s w (Proc.tick.bind K)->Y.AtB B s w (K ()):=by
  subst hY
  rintro K s B w ⟨m,h1,h2,h3⟩
  exact⟨m,h1,LoneAt.skip h2,h3⟩
 rw[hY]
 clear hY
 intro K s m w hA
 refine BodyY.calls ⟨_,_,Try.func33,rfl,?_⟩
 simp only[zqr,Try.ntmps33,List.size_toArray,List.length_cons,List.length_nil,Nat.reduceAdd,Nat.reduceSub,Array.replicate_succ,Array.replicate_zero,List.push_toArray,List.append_toArray,List.nil_append,List.cons_append]
 have hA:Y.AtB (m.box i) s w (Proc.tick.bind K):=⟨m,rfl,hA⟩
 obtain⟨B,hB0⟩:∃B,m.box i=B:=⟨_,rfl⟩
 rw[hB0]at hA ⊢
 clear hB0
 apply YSys.seq0 hA (by kernel_rfl)
 · intro wc hB
   go_wp2
   exact⟨rfl,Ext1.refl _,rfl⟩
 intro w hA
 refine zq1a Y.jc rfl ?_
 rw[if_neg (by decide)]
 refine wpY_skip Y.jc ?_
 have h:=hskip K s B w hA
 exact⟨rfl,.inl ⟨_,resultsC_none rfl _,(),h.choose,rfl,h.choose_spec⟩⟩
end
def unitCore:Core Unit Unit where
 foot _ _:=False
 Rep _ _:=True
 st l:=l
 frame _ _ _ h _:=h
 lt _ _ _ _ hb:=hb.elim
 pin _:=0
section
variable {M2 S2 α:Type} {D:Core M2 S2} {cb:Nat} {z:Option Nat} {N:Nat}
end
section
variable {α:Type} {cb:Nat} {z:Option Nat} {N:Nat} {l:List Int}
structure StrAft(cb:Nat)(z:Option Nat)(N:Nat)(l':List Int)(w w':World):Prop where
 rep:StrRep cb z N l' w'
 size:w.heap.size<=w'.heap.size
 old:∀b,b<w.heap.size->b≠cb->z≠some b->w'.heap[b]?=w.heap[b]?
end
theorem str_nilJ{Fin:Machine->Trace->Prop}(hFin:Back Try.prog Fin){n:Nat}{α:Type}{cb:Nat}{z:Option Nat}{N:Nat}{l:List Int}{f:FuncId}{args:Array Value}{p:Proc (List Int×Unit) α}{val:α->Value}{w:World}{a:α}{l':List Int}(hspec:∀Y:YSys Try.prog aM (zqm (zqt cb z N) unitCore) (λ_=>none) 0 α,StrAtoms Y .nilIface->SpecY Y f args p val)(hT:(p.run (l,())).2.1=some a)(hl':(p.run (l,())).1.1=l')(h:StrRep cb z N l w){cl:Frame}{cs:List Frame}
 (hq:∀w',StrAft cb z N l' w w'->J0 Try.prog Fin n (G (cl.finish (val a)) cs) w'):J0 Try.prog Fin n (G (Frame.enter Try.prog f args .normal) (cl::cs)) w:=by
 have hJ:JS Try.prog true (λ_=>none) (λ(_:Unit)=>J0 Try.prog Fin n):=⟨λ_ g w τ d h=>(j0_JS hFin).re' n g w τ d h,λ_ g w h1 h2=>(j0_JS hFin).step n g w h1 h2⟩
 have hC:CalmJ Try.prog true (λ(_:Unit)=>J0 Try.prog Fin n):=λ_ fr cs w h=>j0_calm hFin n fr cs w h
 have hpos:=h.pos
 have hle:=h.le
 refine seq_calls (C:=zqm (zqt cb z N) unitCore) (ro:=λ_=>none) (i:=0) (p:=p) (val:=val) (m₀:=⟨(l,()),λ_ _=>none⟩) plainM hJ hC ⟨⟨h,trivial,λb _ hb=>hb⟩,λi b o h=>(by cases h),λb o h=>(by cases h),λi b h=>absurd rfl h,λi j b _ h=>absurd rfl h,λb h=>absurd rfl h,λi b h=>rfl⟩ ⟨a,hT⟩ 0 (hspec _ (atoms_of_alone _ (λ_ _ _ _=>trivial) (λ_ _ _=>trivial) hpos hle (step_nil _ _ _ _ _))) ?_
 intro a' m' w' _ hL
 obtain⟨n',h1,_,_⟩:=hL.run
 simp only[Tree.run,Prod.mk.injEq]at h1
 obtain⟨h1,h2,rfl⟩:=h1
 have e1:a'=a:=Option.some.inj (h2.trans hT)
 subst e1
 have e2:m'.l.1=l':=(congrArg Prod.fst h1).trans hl'
 refine hq w' ⟨e2▸hL.rep.core.1,hL.size,λb hb h6 h7=>hL.old b hb ?_⟩
 rintro(((h8|h8)|h8)|h9|h9)
 · exact h6 h8
 · exact h7 h8
 · exact h8.elim
 · exact h9.elim λi h=>absurd rfl h
 · exact absurd rfl h9
noncomputable def fxT(n:Nat):Code:=tailN n (Try.f8.body.getD .skip)
theorem fx0:Try.f8.body.getD .skip=.seq (headC (fxT 0)) (.seq (headC (fxT 1)) (.seq (headC (fxT 2)) (.seq (headC (fxT 3)) (.seq (headC (fxT 4)) (fxT 5))))):=by kernel_rfl
theorem two_ops{w:World}{rb p0 p1:Nat}{k:Int}(hr:w.heap[rb]?=some (.cells #[.slice (some ⟨p0,0,none⟩) 1 1,.slice (some ⟨p1,0,none⟩) 2 2] 34))(h0:w.heap[p0]?=some (.cells #[.int .i64 k,.int .i64 0,.int .i64 0,.int .i64 0] 46))(h1:w.heap[p1]?=some (.cells #[.int .i64 1,.int .i64 0,.int .i64 1,.int .i64 0,.int .i64 1,.int .i64 1,.int .i64 1,.int .i64 0] 46)):
 OpsAt w (λb=>if b=p0\/b=p1 then w.heap[b]? else none) (some ⟨rb,0,none⟩) 2 2 (λi=>if i=0 then some ⟨p0,0,none⟩else some ⟨p1,0,none⟩) (λi=>if i=0 then 1 else 2) (λi=>if i=0 then 1 else 2) (λi=>if i=0 then [⟨k,0,0,0⟩]else [⟨1,0,1,0⟩,⟨1,1,1,0⟩]):=by
 refine⟨rfl,by decide,λ_=>⟨rb,0,rfl,λi hi=>?_⟩,λi hi=>?_,λi hi=>?_,λi hi k' op hop=>?_⟩
 · rw[zq0 hr]
   obtain rfl |rfl:i=0\/i=1:=by omega
   · rfl
   · rfl
 · obtain rfl |rfl:i=0\/i=1:=by omega
   · exact⟨by decide,by decide,λh=>(by cases h)⟩
   · exact⟨by decide,by decide,λh=>(by cases h)⟩
 · obtain rfl |rfl:i=0\/i=1:=by omega
   · rfl
   · rfl
 · obtain rfl |rfl:i=0\/i=1:=by omega
   · refine⟨p0,0,_,_,_,rfl,by rw[if_pos (.inl rfl)];exact h0,λj hj=>?_⟩
     obtain rfl:k'=0:=by have:=(List.getElem?_eq_some_iff.1 hop).1;simp at this;omega
     simp at hop
     subst hop
     obtain rfl |rfl |rfl |rfl:j=0\/j=1\/j=2\/j=3:=by omega
     all_goals rfl
   · refine⟨p1,0,_,_,_,rfl,by rw[if_pos (.inr rfl)];exact h1,λj hj=>?_⟩
     obtain rfl |rfl:k'=0\/k'=1:=by have:=(List.getElem?_eq_some_iff.1 hop).1;simp at this;omega
     all_goals
      simp at hop
      subst hop
      obtain rfl |rfl |rfl |rfl:j=0\/j=1\/j=2\/j=3:=by omega
      all_goals rfl
def fxOps(k:Int)(i:Nat):List OpX:=if i=0 then [⟨k,0,0,0⟩]else [⟨1,0,1,0⟩,⟨1,1,1,0⟩]
theorem fx_sum:(strT [0,0] (fxOps 2) 2 99 [0,1,1,0]).s.2 0=[⟨true,1,[]⟩]:=by kernel_rfl
theorem fx_even:(strT [0,0] (fxOps 5) 2 99 [0,1,1,0,0]).s.2 0=[⟨false,0,[]⟩]:=by kernel_rfl
theorem fixed_calls{Fin:Machine->Trace->Prop}(hFin:Back Try.prog Fin){n:Nat}(hn:0<n){w:World}{c:Frame}{cs:List Frame}(hmain:∀w',Beyond w w'->J0 Try.prog Fin (n+4) (G (c.finish (.bool true)) cs) w'):
 J0 Try.prog Fin n (G (Frame.enter Try.prog 8 #[] .normal) (c::cs)) w:=by
 have hJ:=j0_JS hFin
 have hC:=j0_calm hFin
 have e:Frame.enter Try.prog 8 #[] .normal=(bN 8).at (zqr Try.f8 #[]) [.code ((Try.f8.body).getD .skip)]:=by kernel_rfl
 have ea:zqr Try.f8 #[]=⟨#[undef,undef,undef,undef,undef,undef,undef,undef,undef,undef,undef,undef,undef,undef,undef,undef,undef,undef,undef,undef,undef,undef,undef,undef,undef,undef,undef,undef,undef,undef,undef,undef,undef,undef,undef,undef,undef,undef,undef,undef,undef,undef,undef,undef,undef,undef,undef,undef,undef,undef,undef,undef,undef,undef,undef,undef,undef,undef,undef,undef,undef,undef,undef,undef,undef,undef,undef,undef,undef,undef,undef,undef,undef,undef,undef,undef,undef,undef,undef,undef,undef,undef,undef,undef,undef,undef,undef,undef,undef,undef,undef,undef,undef,undef,undef,undef,undef,undef,undef,undef,undef,undef,undef,undef,undef,undef,undef],[]⟩:=by kernel_rfl
 rw[e,ea,fx0]
 clear e ea
 have hm:=Lib.hid hmain
 clear hmain
 obtain⟨H,hH⟩:∃H,w.heap.size=H:=⟨_,rfl⟩
 refine hJ.ctl (s:=n) (λw=>stepG_seq) ?_
 refine at_lone hJ hC plainM (by kernel_rfl) (λt w'=>t=#[.bool false,undef,undef,undef,undef,undef,undef,undef,undef,undef,undef,undef,undef,undef,undef,undef,undef,undef,undef,undef,undef,undef,undef,undef,undef,undef,undef,undef,undef,undef,undef,undef,undef,undef,undef,undef,undef,undef,undef,undef,undef,undef,undef,undef,undef,undef,undef,undef,undef,undef,undef,undef,undef,undef,undef,undef,undef,undef,undef,undef,undef,undef,undef,undef,undef,undef,undef,undef,undef,undef,undef,undef,undef,undef,undef,undef,undef,undef,undef,undef,undef,undef,undef,undef,undef,undef,undef,undef,undef,undef,undef,undef,undef,undef,undef,undef,undef,undef,undef,undef,undef,undef,undef,undef,undef,undef,undef]/\∃τ d,w'=re (w) τ d) (λt w' τ d h=>⟨h.1,by obtain⟨τ',d',rfl⟩:=h.2;exact⟨τ,d,by rw[re_re]⟩⟩) (by decide) (λτ d=>?_) ?_
 · obtain⟨u0,hu0⟩:∃c,headC (fxT 0)=c:=⟨_,rfl⟩
   have eu0:=hu0
   rw[hu0]
   simp only[fxT,headC,tailN,Try.f8,al_od]at eu0
   subst eu0
   clear hu0
   go_wp2
   exact⟨rfl,rfl,τ,d,rfl⟩
 rintro t w' ⟨rfl,τ,d,rfl⟩
 refine hJ.re' n _ _ τ d ?_
 refine hJ.ctl (s:=n) (λw=>stepG_seq) ?_
 refine at_lone hJ hC plainM (by kernel_rfl) (λt w'=>t=#[.bool false,.slice (some ⟨H,0,none⟩) 2 2,undef,undef,undef,undef,.slice (some ⟨H,0,none⟩) 2 2,undef,undef,undef,undef,undef,undef,undef,undef,undef,undef,undef,undef,undef,undef,undef,undef,undef,undef,undef,undef,undef,undef,undef,undef,undef,undef,undef,undef,undef,undef,undef,undef,undef,undef,undef,undef,undef,undef,undef,undef,undef,undef,undef,undef,undef,undef,undef,undef,undef,undef,undef,undef,undef,undef,undef,undef,undef,undef,undef,undef,undef,undef,undef,undef,undef,undef,undef,undef,undef,undef,undef,undef,undef,undef,undef,undef,undef,undef,undef,undef,undef,undef,undef,undef,undef,undef,undef,undef,undef,undef,undef,undef,undef,undef,undef,undef,undef,undef,undef,undef]/\∃τ d,w'=re (w.alloc (.cells #[.int .i64 0,.int .i64 0] 2)) τ d) (λt w' τ d h=>⟨h.1,by obtain⟨τ',d',rfl⟩:=h.2;exact⟨τ,d,by rw[re_re]⟩⟩) (by decide) (λτ d=>?_) ?_
 · obtain⟨u0,hu0⟩:∃c,headC (fxT 1)=c:=⟨_,rfl⟩
   have eu0:=hu0
   rw[hu0]
   simp only[fxT,headC,tailN,Try.f8,al_od]at eu0
   subst eu0
   clear hu0
   go_wp2
   exact⟨rfl,rfl,τ,d,rfl⟩
 rintro t w' ⟨rfl,τ,d,rfl⟩
 refine hJ.re' n _ _ τ d ?_
 refine hJ.ctl (s:=n) (λw=>stepG_seq) ?_
 refine at_lone hJ hC plainM (by kernel_rfl) (λt w'=>t=#[.bool false,.slice (some ⟨H,0,none⟩) 2 2,.slice (some ⟨H+1,0,none⟩) 2 2,undef,undef,undef,.slice (some ⟨H,0,none⟩) 2 2,.agg #[.int .i64 1,.int .i64 0,.int .i64 1,.int .i64 0],.agg #[.int .i64 1,.int .i64 1,.int .i64 1,.int .i64 0],.slice (some ⟨H+1,0,none⟩) 2 2,undef,undef,undef,undef,undef,undef,undef,undef,undef,undef,undef,undef,undef,undef,undef,undef,undef,undef,undef,undef,undef,undef,undef,undef,undef,undef,undef,undef,undef,undef,undef,undef,undef,undef,undef,undef,undef,undef,undef,undef,undef,undef,undef,undef,undef,undef,undef,undef,undef,undef,undef,undef,undef,undef,undef,undef,undef,undef,undef,undef,undef,undef,undef,undef,undef,undef,undef,undef,undef,undef,undef,undef,undef,undef,undef,undef,undef,undef,undef,undef,undef,undef,undef,undef,undef,undef,undef,undef,undef,undef,undef,undef,undef,undef,undef,undef,undef]/\∃τ d,w'=re ((w.alloc (.cells #[.int .i64 0,.int .i64 0] 2)).alloc (.cells #[.int .i64 1,.int .i64 0,.int .i64 1,.int .i64 0,.int .i64 1,.int .i64 1,.int .i64 1,.int .i64 0] 46)) τ d) (λt w' τ d h=>⟨h.1,by obtain⟨τ',d',rfl⟩:=h.2;exact⟨τ,d,by rw[re_re]⟩⟩) (by decide) (λτ d=>?_) ?_
 · obtain⟨u0,hu0⟩:∃c,headC (fxT 2)=c:=⟨_,rfl⟩
   have eu0:=hu0
   rw[hu0]
   simp only[fxT,headC,tailN,Try.f8,al_od]at eu0
   subst eu0
   clear hu0
   go_wp2
   exact⟨rfl,rfl,τ,d,rfl⟩
 rintro t w' ⟨rfl,τ,d,rfl⟩
 refine hJ.re' n _ _ τ d ?_
 have HIA:RowKit.Hid (((w.alloc (.cells #[.int .i64 0,.int .i64 0] 2)).alloc (.cells #[.int .i64 1,.int .i64 0,.int .i64 1,.int .i64 0,.int .i64 1,.int .i64 1,.int .i64 1,.int .i64 0] 46)).heap.size=H+2/\((w.alloc (.cells #[.int .i64 0,.int .i64 0] 2)).alloc (.cells #[.int .i64 1,.int .i64 0,.int .i64 1,.int .i64 0,.int .i64 1,.int .i64 1,.int .i64 1,.int .i64 0] 46)).heap[H]?=some (.cells #[.int .i64 0,.int .i64 0] 2)/\((w.alloc (.cells #[.int .i64 0,.int .i64 0] 2)).alloc (.cells #[.int .i64 1,.int .i64 0,.int .i64 1,.int .i64 0,.int .i64 1,.int .i64 1,.int .i64 1,.int .i64 0] 46)).heap[H+1]?=some (.cells #[.int .i64 1,.int .i64 0,.int .i64 1,.int .i64 0,.int .i64 1,.int .i64 1,.int .i64 1,.int .i64 0] 46)/\H+1<H+2):=by
  refine Lib.hid ⟨by simp only[zqc];omega,?_,?_,by omega⟩
  · rw[←hH];exact zqk (zqq _ _)
  · rw[←hH,zq8,if_pos (by rw[zqc])]
 have HB0:RowKit.Hid (Beyond w ((w.alloc (.cells #[.int .i64 0,.int .i64 0] 2)).alloc (.cells #[.int .i64 1,.int .i64 0,.int .i64 1,.int .i64 0,.int .i64 1,.int .i64 1,.int .i64 1,.int .i64 0] 46))):=Lib.hid ((Beyond.alloc _ _).trans (Beyond.alloc _ _))
 generalize (w.alloc (.cells #[.int .i64 0,.int .i64 0] 2)).alloc (.cells #[.int .i64 1,.int .i64 0,.int .i64 1,.int .i64 0,.int .i64 1,.int .i64 1,.int .i64 1,.int .i64 0] 46)=w2 at HIA HB0 ⊢
 refine hJ.ctl (s:=n) (λw=>stepG_seq) ?_
 obtain⟨u3,hu3⟩:∃c,headC (fxT 3)=c:=⟨_,rfl⟩
 have eu3:=hu3
 rw[hu3]
 simp only[fxT,headC,tailN,Try.f8,al_od]at eu3
 subst eu3
 clear hu3
 refine hJ.ctl (s:=n) (λw=>stepG_region) ?_
 refine zqw (s:=n) (by decide) hJ (zqu _) false (.inr rfl) 0 6 3 rfl rfl rfl (by rfl) ?_
 intro τ d
 simp only[List.drop_zero,List.take_succ_cons,List.take_zero]
 have HFA:RowKit.Hid ((re w2 τ d).heap.size=(H+2)/\(re w2 τ d).heap[H]?=some (.cells #[.int .i64 0,.int .i64 0] 2)/\(re w2 τ d).heap[H+1]?=some (.cells #[.int .i64 1,.int .i64 0,.int .i64 1,.int .i64 0,.int .i64 1,.int .i64 1,.int .i64 1,.int .i64 0] 46)/\Beyond w2 (re w2 τ d)/\H+1<(H+2)):=Lib.hid ⟨HIA.out.1,HIA.out.2.1,HIA.out.2.2.1,Beyond.re _ _ _,HIA.out.2.2.2⟩
 generalize re w2 τ d=vA at HFA ⊢
 go_wp2
 simp only[zqi]
 have HWA:RowKit.Hid (Beyond vA (((vA.alloc (.cells #[.int .i64 2,.int .i64 0,.int .i64 0,.int .i64 0] 46)).alloc (.cells #[.slice (some ⟨(H+2),0,none⟩) 1 1,.slice (some ⟨H+1,0,none⟩) 2 2] 34)).alloc (.cells #[.int .i64 0,.int .i64 1,.int .i64 1,.int .i64 0] 3))/\(((vA.alloc (.cells #[.int .i64 2,.int .i64 0,.int .i64 0,.int .i64 0] 46)).alloc (.cells #[.slice (some ⟨(H+2),0,none⟩) 1 1,.slice (some ⟨H+1,0,none⟩) 2 2] 34)).alloc (.cells #[.int .i64 0,.int .i64 1,.int .i64 1,.int .i64 0] 3)).heap[(H+2)]?=some (.cells #[.int .i64 2,.int .i64 0,.int .i64 0,.int .i64 0] 46)/\(((vA.alloc (.cells #[.int .i64 2,.int .i64 0,.int .i64 0,.int .i64 0] 46)).alloc (.cells #[.slice (some ⟨(H+2),0,none⟩) 1 1,.slice (some ⟨H+1,0,none⟩) 2 2] 34)).alloc (.cells #[.int .i64 0,.int .i64 1,.int .i64 1,.int .i64 0] 3)).heap[(H+2)+1]?=some (.cells #[.slice (some ⟨(H+2),0,none⟩) 1 1,.slice (some ⟨H+1,0,none⟩) 2 2] 34)/\(((vA.alloc (.cells #[.int .i64 2,.int .i64 0,.int .i64 0,.int .i64 0] 46)).alloc (.cells #[.slice (some ⟨(H+2),0,none⟩) 1 1,.slice (some ⟨H+1,0,none⟩) 2 2] 34)).alloc (.cells #[.int .i64 0,.int .i64 1,.int .i64 1,.int .i64 0] 3)).heap[(H+2)+2]?=some (.cells #[.int .i64 0,.int .i64 1,.int .i64 1,.int .i64 0] 3)):=by
  have e:=HFA.out.1
  refine Lib.hid ⟨((Beyond.alloc _ _).trans (Beyond.alloc _ _)).trans (Beyond.alloc _ _),?_,?_,?_⟩
  · rw[←e];exact zqk (zqk (zqq _ _))
  · rw[←e];refine zqk ?_
    rw[zq8,if_pos (by rw[zqc])]
  · rw[←e,zq8,if_pos (by simp only[zqc])]
 rw[HFA.out.1]
 generalize (((vA.alloc (.cells #[.int .i64 2,.int .i64 0,.int .i64 0,.int .i64 0] 46)).alloc (.cells #[.slice (some ⟨(H+2),0,none⟩) 1 1,.slice (some ⟨H+1,0,none⟩) 2 2] 34)).alloc (.cells #[.int .i64 0,.int .i64 1,.int .i64 1,.int .i64 0] 3))=WA at HWA ⊢
 refine at_call (by decide) hJ (s:=n) rfl rfl (f:=10) (args:=#[.slice (some ⟨H,0,none⟩) 2 2,.slice (some ⟨(H+2)+1,0,none⟩) 2 2,.slice (some ⟨(H+2)+1+1,0,none⟩) 4 4,.int .i64 99]) (λτ d=>?_) (λτ d=>?_) ?_
 · simp[go_sem,execOp,Act.eval,resolve,Deferred.ofValue,invoke,callFunc,Try.func10,Try.f10]
 · intro e he
   simp[go_sem,execOp,Act.eval,resolve,Deferred.ofValue,invoke,callFunc,Try.func10,Try.f10,Sem.runT_eq]at he
 have b0A:=HWA.out.1.heap HFA.out.2.1
 have b1A:=HWA.out.1.heap HFA.out.2.2.1
 refine strplay_calls hFin (n:=n) (by omega) (RP:=λb=>if b=(H+2)\/b=H+1 then WA.heap[b]? else none) (ws:=[0,0]) (sched:=[0,1,1,0]) (wp:=some ⟨H,0,none⟩) (ops:=fxOps 2) (N:=2) rfl (by decide) (λ_=>⟨H,0,rfl,λi hi=>?_⟩) (λb o hb=>?_) (two_ops HWA.out.2.2.1 HWA.out.2.1 b1A) (by decide) (λ_=>⟨(H+2)+1+1,0,rfl,λj x hj=>?_⟩) ?_
 · have hi:i<2:=hi
   rw[zq0 b0A]
   obtain rfl |rfl:i=0\/i=1:=by omega
   all_goals rfl
 · split at hb
   · exact hb
   · cases hb
 · rw[zq0 HWA.out.2.2.2,Nat.zero_add]
   have hlj:=(List.getElem?_eq_some_iff.1 hj).1
   simp only[List.length_cons,List.length_nil]at hlj
   obtain rfl |rfl |rfl |rfl:j=0\/j=1\/j=2\/j=3:=by omega
   all_goals(simp at hj;subst hj;rfl)
 intro abA ovA svA amA wpA hRA
 rw[Frame.finish_at]
 walk_nrm
 obtain⟨opA,ocA,rfl,-,-⟩:=zq16 hRA.orow
 obtain⟨spA,scA,rfl,-,-⟩:=zq16 hRA.srow
 generalize (strT [0,0] (fxOps 2) 2 99 [0,1,1,0]).ord.length=olA at hRA ⊢
 generalize (strT [0,0] (fxOps 2) 2 99 [0,1,1,0]).s.1.length=slA at hRA ⊢
 have HRA:=Lib.hid hRA
 clear hRA b0A b1A
 generalize decide (0<leftN (strT [0,0] (fxOps 2) 2 99 [0,1,1,0]).ov 2)=stkA
 refine zqw (s:=n+2) (by decide) hJ (zqu _) false (.inr rfl) 7 2 0 rfl rfl rfl (by rfl) ?_
 intro τ d
 simp only[List.drop_succ_cons,List.drop_zero,List.take_succ_cons,List.take_zero]
 have HSA:RowKit.Hid (PlayedR 2 WA (strT [0,0] (fxOps 2) 2 99 [0,1,1,0]) (strT [0,0] (fxOps 2) 2 99 [0,1,1,0]).s.1 abA (.slice opA olA ocA) (.slice spA slA scA) amA (re wpA τ d)):=Lib.hid (HRA.out.re τ d)
 generalize re wpA τ d=xA at HSA ⊢
 clear HRA
 go_wp2
 simp only[zqi]
 refine hJ.ctl (s:=n+2) (λw=>stepG_region_end) ?_
 have HTA:RowKit.Hid ((xA.alloc (.cells #[.slice (some ⟨abA,0,none⟩) 2 2,.slice opA olA ocA,.slice spA slA scA,.bool stkA] 31)).heap[xA.heap.size]?=some (.cells #[.slice (some ⟨abA,0,none⟩) 2 2,.slice opA olA ocA,.slice spA slA scA,.bool stkA] 31)/\Beyond xA (xA.alloc (.cells #[.slice (some ⟨abA,0,none⟩) 2 2,.slice opA olA ocA,.slice spA slA scA,.bool stkA] 31))/\(xA.alloc (.cells #[.slice (some ⟨abA,0,none⟩) 2 2,.slice opA olA ocA,.slice spA slA scA,.bool stkA] 31)).heap.size=xA.heap.size+1):=Lib.hid ⟨zqq _ _,Beyond.alloc _ _,zqc _ _⟩
 generalize (xA.alloc (.cells #[.slice (some ⟨abA,0,none⟩) 2 2,.slice opA olA ocA,.slice spA slA scA,.bool stkA] 31))=yA at HTA ⊢
 obtain⟨tA,htA⟩:∃t,xA.heap.size=t:=⟨_,rfl⟩
 rw[htA]at HTA ⊢
 have HXA:=Lib.hid htA
 clear htA
 have HBA:RowKit.Hid (Beyond w yA):=Lib.hid (((((HB0.out.trans HFA.out.2.2.2.1).trans HWA.out.1).trans ⟨HSA.out.size,HSA.out.old⟩)).trans HTA.out.2.1)
 have HIB:RowKit.Hid (yA.heap.size=tA+1/\yA.heap[H]?=some (.cells #[.int .i64 0,.int .i64 0] 2)/\yA.heap[H+1]?=some (.cells #[.int .i64 1,.int .i64 0,.int .i64 1,.int .i64 0,.int .i64 1,.int .i64 1,.int .i64 1,.int .i64 0] 46)/\H+1<tA+1):=by
  have q:Beyond vA yA:=(HWA.out.1.trans ⟨HSA.out.size,HSA.out.old⟩).trans HTA.out.2.1
  refine Lib.hid ⟨HTA.out.2.2,q.heap HFA.out.2.1,q.heap HFA.out.2.2.1,?_⟩
  have h1:=zqa (q.heap HFA.out.2.2.1)
  have h2:=HTA.out.2.2
  omega
 refine hJ.ctl (s:=n+2) (λw=>stepG_seq) ?_
 obtain⟨u4,hu4⟩:∃c,headC (fxT 4)=c:=⟨_,rfl⟩
 have eu4:=hu4
 rw[hu4]
 simp only[fxT,headC,tailN,Try.f8,al_od]at eu4
 subst eu4
 clear hu4
 refine hJ.ctl (s:=n+2) (λw=>stepG_region) ?_
 refine zqw (s:=n+2) (by decide) hJ (zqu _) false (.inr rfl) 0 6 3 rfl rfl rfl (by rfl) ?_
 intro τ d
 simp only[List.drop_zero,List.take_succ_cons,List.take_zero]
 have HFB:RowKit.Hid ((re yA τ d).heap.size=(tA+1)/\(re yA τ d).heap[H]?=some (.cells #[.int .i64 0,.int .i64 0] 2)/\(re yA τ d).heap[H+1]?=some (.cells #[.int .i64 1,.int .i64 0,.int .i64 1,.int .i64 0,.int .i64 1,.int .i64 1,.int .i64 1,.int .i64 0] 46)/\Beyond yA (re yA τ d)/\H+1<(tA+1)):=Lib.hid ⟨HIB.out.1,HIB.out.2.1,HIB.out.2.2.1,Beyond.re _ _ _,HIB.out.2.2.2⟩
 generalize re yA τ d=vB at HFB ⊢
 go_wp2
 simp only[zqi]
 have HWB:RowKit.Hid (Beyond vB (((vB.alloc (.cells #[.int .i64 5,.int .i64 0,.int .i64 0,.int .i64 0] 46)).alloc (.cells #[.slice (some ⟨(tA+1),0,none⟩) 1 1,.slice (some ⟨H+1,0,none⟩) 2 2] 34)).alloc (.cells #[.int .i64 0,.int .i64 1,.int .i64 1,.int .i64 0,.int .i64 0] 3))/\(((vB.alloc (.cells #[.int .i64 5,.int .i64 0,.int .i64 0,.int .i64 0] 46)).alloc (.cells #[.slice (some ⟨(tA+1),0,none⟩) 1 1,.slice (some ⟨H+1,0,none⟩) 2 2] 34)).alloc (.cells #[.int .i64 0,.int .i64 1,.int .i64 1,.int .i64 0,.int .i64 0] 3)).heap[(tA+1)]?=some (.cells #[.int .i64 5,.int .i64 0,.int .i64 0,.int .i64 0] 46)/\(((vB.alloc (.cells #[.int .i64 5,.int .i64 0,.int .i64 0,.int .i64 0] 46)).alloc (.cells #[.slice (some ⟨(tA+1),0,none⟩) 1 1,.slice (some ⟨H+1,0,none⟩) 2 2] 34)).alloc (.cells #[.int .i64 0,.int .i64 1,.int .i64 1,.int .i64 0,.int .i64 0] 3)).heap[(tA+1)+1]?=some (.cells #[.slice (some ⟨(tA+1),0,none⟩) 1 1,.slice (some ⟨H+1,0,none⟩) 2 2] 34)/\(((vB.alloc (.cells #[.int .i64 5,.int .i64 0,.int .i64 0,.int .i64 0] 46)).alloc (.cells #[.slice (some ⟨(tA+1),0,none⟩) 1 1,.slice (some ⟨H+1,0,none⟩) 2 2] 34)).alloc (.cells #[.int .i64 0,.int .i64 1,.int .i64 1,.int .i64 0,.int .i64 0] 3)).heap[(tA+1)+2]?=some (.cells #[.int .i64 0,.int .i64 1,.int .i64 1,.int .i64 0,.int .i64 0] 3)):=by
  have e:=HFB.out.1
  refine Lib.hid ⟨((Beyond.alloc _ _).trans (Beyond.alloc _ _)).trans (Beyond.alloc _ _),?_,?_,?_⟩
  · rw[←e];exact zqk (zqk (zqq _ _))
  · rw[←e];refine zqk ?_
    rw[zq8,if_pos (by rw[zqc])]
  · rw[←e,zq8,if_pos (by simp only[zqc])]
 rw[HFB.out.1]
 generalize (((vB.alloc (.cells #[.int .i64 5,.int .i64 0,.int .i64 0,.int .i64 0] 46)).alloc (.cells #[.slice (some ⟨(tA+1),0,none⟩) 1 1,.slice (some ⟨H+1,0,none⟩) 2 2] 34)).alloc (.cells #[.int .i64 0,.int .i64 1,.int .i64 1,.int .i64 0,.int .i64 0] 3))=WB at HWB ⊢
 refine at_call (by decide) hJ (s:=n+2) rfl rfl (f:=10) (args:=#[.slice (some ⟨H,0,none⟩) 2 2,.slice (some ⟨(tA+1)+1,0,none⟩) 2 2,.slice (some ⟨(tA+1)+1+1,0,none⟩) 5 5,.int .i64 99]) (λτ d=>?_) (λτ d=>?_) ?_
 · simp[go_sem,execOp,Act.eval,resolve,Deferred.ofValue,invoke,callFunc,Try.func10,Try.f10]
 · intro e he
   simp[go_sem,execOp,Act.eval,resolve,Deferred.ofValue,invoke,callFunc,Try.func10,Try.f10,Sem.runT_eq]at he
 have b0B:=HWB.out.1.heap HFB.out.2.1
 have b1B:=HWB.out.1.heap HFB.out.2.2.1
 refine strplay_calls hFin (n:=n+2) (by omega) (RP:=λb=>if b=(tA+1)\/b=H+1 then WB.heap[b]? else none) (ws:=[0,0]) (sched:=[0,1,1,0,0]) (wp:=some ⟨H,0,none⟩) (ops:=fxOps 5) (N:=2) rfl (by decide) (λ_=>⟨H,0,rfl,λi hi=>?_⟩) (λb o hb=>?_) (two_ops HWB.out.2.2.1 HWB.out.2.1 b1B) (by decide) (λ_=>⟨(tA+1)+1+1,0,rfl,λj x hj=>?_⟩) ?_
 · have hi:i<2:=hi
   rw[zq0 b0B]
   obtain rfl |rfl:i=0\/i=1:=by omega
   all_goals rfl
 · split at hb
   · exact hb
   · cases hb
 · rw[zq0 HWB.out.2.2.2,Nat.zero_add]
   have hlj:=(List.getElem?_eq_some_iff.1 hj).1
   simp only[List.length_cons,List.length_nil]at hlj
   obtain rfl |rfl |rfl |rfl |rfl:j=0\/j=1\/j=2\/j=3\/j=4:=by omega
   all_goals(simp at hj;subst hj;rfl)
 intro abB ovB svB amB wpB hRB
 rw[Frame.finish_at]
 walk_nrm
 obtain⟨opB,ocB,rfl,-,-⟩:=zq16 hRB.orow
 obtain⟨spB,scB,rfl,-,-⟩:=zq16 hRB.srow
 generalize (strT [0,0] (fxOps 5) 2 99 [0,1,1,0,0]).ord.length=olB at hRB ⊢
 generalize (strT [0,0] (fxOps 5) 2 99 [0,1,1,0,0]).s.1.length=slB at hRB ⊢
 have HRB:=Lib.hid hRB
 clear hRB b0B b1B
 generalize decide (0<leftN (strT [0,0] (fxOps 5) 2 99 [0,1,1,0,0]).ov 2)=stkB
 refine zqw (s:=n+2+2) (by decide) hJ (zqu _) false (.inr rfl) 7 2 0 rfl rfl rfl (by rfl) ?_
 intro τ d
 simp only[List.drop_succ_cons,List.drop_zero,List.take_succ_cons,List.take_zero]
 have HSB:RowKit.Hid (PlayedR 2 WB (strT [0,0] (fxOps 5) 2 99 [0,1,1,0,0]) (strT [0,0] (fxOps 5) 2 99 [0,1,1,0,0]).s.1 abB (.slice opB olB ocB) (.slice spB slB scB) amB (re wpB τ d)):=Lib.hid (HRB.out.re τ d)
 generalize re wpB τ d=xB at HSB ⊢
 clear HRB
 go_wp2
 simp only[zqi]
 refine hJ.ctl (s:=n+2+2) (λw=>stepG_region_end) ?_
 have HTB:RowKit.Hid ((xB.alloc (.cells #[.slice (some ⟨abB,0,none⟩) 2 2,.slice opB olB ocB,.slice spB slB scB,.bool stkB] 31)).heap[xB.heap.size]?=some (.cells #[.slice (some ⟨abB,0,none⟩) 2 2,.slice opB olB ocB,.slice spB slB scB,.bool stkB] 31)/\Beyond xB (xB.alloc (.cells #[.slice (some ⟨abB,0,none⟩) 2 2,.slice opB olB ocB,.slice spB slB scB,.bool stkB] 31))/\(xB.alloc (.cells #[.slice (some ⟨abB,0,none⟩) 2 2,.slice opB olB ocB,.slice spB slB scB,.bool stkB] 31)).heap.size=xB.heap.size+1):=Lib.hid ⟨zqq _ _,Beyond.alloc _ _,zqc _ _⟩
 generalize (xB.alloc (.cells #[.slice (some ⟨abB,0,none⟩) 2 2,.slice opB olB ocB,.slice spB slB scB,.bool stkB] 31))=yB at HTB ⊢
 obtain⟨tB,htB⟩:∃t,xB.heap.size=t:=⟨_,rfl⟩
 rw[htB]at HTB ⊢
 have HXB:=Lib.hid htB
 clear htB
 have HBB:RowKit.Hid (Beyond w yB):=Lib.hid ((((HBA.out.trans HFB.out.2.2.2.1).trans HWB.out.1).trans ⟨HSB.out.size,HSB.out.old⟩).trans HTB.out.2.1)
 have HQ:RowKit.Hid (Beyond xA yB/\yB.heap[tA]?=some (.cells #[.slice (some ⟨abA,0,none⟩) 2 2,.slice opA olA ocA,.slice spA slA scA,.bool stkA] 31)/\Beyond xB yB/\yB.heap[tB]?=some (.cells #[.slice (some ⟨abB,0,none⟩) 2 2,.slice opB olB ocB,.slice spB slB scB,.bool stkB] 31)):=by
  have q:Beyond yA yB:=((HFB.out.2.2.2.1.trans HWB.out.1).trans ⟨HSB.out.size,HSB.out.old⟩).trans HTB.out.2.1
  exact Lib.hid ⟨HTA.out.2.1.trans q,q.heap HTA.out.1,HTB.out.2.1,HTB.out.1⟩
 have HBy:RowKit.Hid (Beyond w yB):=Lib.hid HBB.out
 have qA:Beyond xA yB:=HQ.out.1
 have qB:Beyond xB yB:=HQ.out.2.2.1
 have hA1:=ansRep_at HSA.out.ans (i:=0) (by decide)
 have hB1:=ansRep_at HSB.out.ans (i:=0) (by decide)
 rw[HSA.out.ast,fx_sum]at hA1
 rw[HSB.out.ast,fx_even]at hB1
 obtain⟨a1,pa,ca,a2,a3⟩:=hA1
 obtain⟨b1,pb,cb,b2,b3⟩:=hB1
 obtain⟨ga,oa,rfl,a4⟩:=a3 (by simp)
 obtain⟨gb,ob',rfl,b4⟩:=b3 (by simp)
 obtain⟨a5,a6,_⟩:=a4 0 _ rfl
 obtain⟨b5,b6,_⟩:=b4 0 _ rfl
 rw[a2]at a1
 rw[b2]at b1
 have tA0:=(zq0 (off:=0) HQ.out.2.1).trans rfl
 have tB0:=(zq0 (off:=0) HQ.out.2.2.2).trans rfl
 replace a1:=qA.cell a1
 replace a5:=qA.cell a5
 replace a6:=qA.cell a6
 replace b1:=qB.cell b1
 replace b5:=qB.cell b5
 replace b6:=qB.cell b6
 simp only[List.length_cons,List.length_nil,Nat.zero_add,Nat.zero_mul,Nat.add_zero]at a1 b1 a5 a6 b5 b6
 clear qA qB a2 b2 a3 b3 a4 b4 HQ HBB HSA HSB HTA HTB HXA HXB HFA HFB HWA HWB HIA HIB HBA HB0
 rw[show fxT 5=.seq (headC (fxT 5)) (.seq (headC (fxT 6)) (.seq (headC (fxT 7)) (fxT 8)))by kernel_rfl]
 refine hJ.ctl (s:=n+2+2) (λw=>stepG_seq) ?_
 have FA:=Lib.hid (And.intro a1 (And.intro a5 (And.intro a6 (And.intro b1 (And.intro b5 (And.intro b6 (And.intro tA0 tB0)))))))
 clear a1 a5 a6 b1 b5 b6 tA0 tB0
 refine at_lone hJ hC plainM (by kernel_rfl) (λt w'=>t=#[.bool false,.slice (some ⟨H,0,none⟩) 2 2,.slice (some ⟨H+1,0,none⟩) 2 2,.pointer (some ⟨tA,0,none⟩),.pointer (some ⟨tB,0,none⟩),undef,.slice (some ⟨H,0,none⟩) 2 2,.agg #[.int .i64 1,.int .i64 0,.int .i64 1,.int .i64 0],.agg #[.int .i64 1,.int .i64 1,.int .i64 1,.int .i64 0],.slice (some ⟨H+1,0,none⟩) 2 2,.slice (some ⟨H,0,none⟩) 2 2,.agg #[.int .i64 2,.int .i64 0,.int .i64 0,.int .i64 0],.slice (some ⟨(H+2),0,none⟩) 1 1,.slice (some ⟨H+1,0,none⟩) 2 2,.slice (some ⟨(H+2)+1,0,none⟩) 2 2,.slice (some ⟨(H+2)+1+1,0,none⟩) 4 4,.agg #[.slice (some ⟨abA,0,none⟩) 2 2,.slice opA olA ocA,.slice spA slA scA,.bool stkA],.slice (some ⟨H,0,none⟩) 2 2,.agg #[.int .i64 5,.int .i64 0,.int .i64 0,.int .i64 0],.slice (some ⟨(tA+1),0,none⟩) 1 1,.slice (some ⟨H+1,0,none⟩) 2 2,.slice (some ⟨(tA+1)+1,0,none⟩) 2 2,.slice (some ⟨(tA+1)+1+1,0,none⟩) 5 5,.agg #[.slice (some ⟨abB,0,none⟩) 2 2,.slice opB olB ocB,.slice spB slB scB,.bool stkB],.pointer (some ⟨tA,0,none⟩),.slice (some ⟨abA,0,none⟩) 2 2,.int .i64 2,.bool false,.bool false,.pointer (some ⟨tA,0,none⟩),.slice (some ⟨abA,0,none⟩) 2 2,.pointer (some ⟨abA,0,none⟩),.slice (some ⟨ga,oa,none⟩) 1 ca,.int .i64 1,.bool false,.bool false,.bool false,.pointer (some ⟨tA,0,none⟩),.slice (some ⟨abA,0,none⟩) 2 2,.pointer (some ⟨abA,0,none⟩),.slice (some ⟨ga,oa,none⟩) 1 ca,.pointer (some ⟨ga,oa,none⟩),.pointer (some ⟨ga,oa+1,none⟩),.int .i64 1,.bool false,.bool false,.bool false,.pointer (some ⟨tB,0,none⟩),.slice (some ⟨abB,0,none⟩) 2 2,.int .i64 2,.bool false,.bool false,.bool false,.pointer (some ⟨tB,0,none⟩),.slice (some ⟨abB,0,none⟩) 2 2,.pointer (some ⟨abB,0,none⟩),.slice (some ⟨gb,ob',none⟩) 1 cb,.int .i64 1,.bool false,.bool false,.bool false,.pointer (some ⟨tB,0,none⟩),.slice (some ⟨abB,0,none⟩) 2 2,.pointer (some ⟨abB,0,none⟩),.slice (some ⟨gb,ob',none⟩) 1 cb,.pointer (some ⟨gb,ob',none⟩),.pointer (some ⟨gb,ob',none⟩),.bool false,.bool false,.bool false,.pointer (some ⟨tB,0,none⟩),.slice (some ⟨abB,0,none⟩) 2 2,.pointer (some ⟨abB,0,none⟩),.slice (some ⟨gb,ob',none⟩) 1 cb,.pointer (some ⟨gb,ob',none⟩),.pointer (some ⟨gb,ob'+1,none⟩),.int .i64 0,.bool false,.bool false,undef,undef,undef,undef,undef,undef,undef,undef,undef,undef,undef,undef,undef,undef,undef,undef,undef,undef,undef,undef,undef,undef,undef,undef,undef,undef,undef,undef]/\∃τ d,w'=re yB τ d) (λt w' τ d h=>⟨h.1,by obtain⟨τ',d',rfl⟩:=h.2;exact⟨τ,d,by rw[re_re]⟩⟩) (by decide) (λτ d=>?_) ?_
 · obtain⟨u0,hu0⟩:∃c,headC (fxT 5)=c:=⟨_,rfl⟩
   have eu0:=hu0
   rw[hu0]
   simp only[fxT,headC,tailN,Try.f8,al_od]at eu0
   subst eu0
   clear hu0 hm
   obtain⟨a1,a5,a6,b1,b5,b6,tA0,tB0⟩:=FA.out
   have HRE:RowKit.Hid (∃τ' d',re yB τ d=re yB τ' d'):=Lib.hid ⟨τ,d,rfl⟩
   have hcl:∀a,(re yB τ d).cell? a=yB.cell? a:=λa=>rfl
   rw[←hcl]at a1 a5 a6 b1 b5 b6 tA0 tB0
   clear hcl FA
   generalize re yB τ d=z0 at HRE a1 a5 a6 b1 b5 b6 tA0 tB0 ⊢
   go_wp2
   exact⟨rfl,rfl,HRE.out⟩
 rintro t w' ⟨rfl,τ,d,rfl⟩
 refine hJ.re' (n+2+2) _ _ τ d ?_
 clear FA
 obtain⟨K,hK⟩:∃K,yB.heap.size=K:=⟨_,rfl⟩
 have HK:=Lib.hid hK
 clear hK
 refine hJ.ctl (s:=n+2+2) (λw=>stepG_seq) ?_
 refine at_lone hJ hC plainM (by kernel_rfl) (λt w'=>t=#[.bool false,.slice (some ⟨H,0,none⟩) 2 2,.slice (some ⟨H+1,0,none⟩) 2 2,.pointer (some ⟨tA,0,none⟩),.pointer (some ⟨tB,0,none⟩),.pointer (some ⟨K+1,0,none⟩),.slice (some ⟨H,0,none⟩) 2 2,.agg #[.int .i64 1,.int .i64 0,.int .i64 1,.int .i64 0],.agg #[.int .i64 1,.int .i64 1,.int .i64 1,.int .i64 0],.slice (some ⟨H+1,0,none⟩) 2 2,.slice (some ⟨H,0,none⟩) 2 2,.agg #[.int .i64 2,.int .i64 0,.int .i64 0,.int .i64 0],.slice (some ⟨(H+2),0,none⟩) 1 1,.slice (some ⟨H+1,0,none⟩) 2 2,.slice (some ⟨(H+2)+1,0,none⟩) 2 2,.slice (some ⟨(H+2)+1+1,0,none⟩) 4 4,.agg #[.slice (some ⟨abA,0,none⟩) 2 2,.slice opA olA ocA,.slice spA slA scA,.bool stkA],.slice (some ⟨H,0,none⟩) 2 2,.agg #[.int .i64 5,.int .i64 0,.int .i64 0,.int .i64 0],.slice (some ⟨(tA+1),0,none⟩) 1 1,.slice (some ⟨H+1,0,none⟩) 2 2,.slice (some ⟨(tA+1)+1,0,none⟩) 2 2,.slice (some ⟨(tA+1)+1+1,0,none⟩) 5 5,.agg #[.slice (some ⟨abB,0,none⟩) 2 2,.slice opB olB ocB,.slice spB slB scB,.bool stkB],.pointer (some ⟨tA,0,none⟩),.slice (some ⟨abA,0,none⟩) 2 2,.int .i64 2,.bool false,.bool false,.pointer (some ⟨tA,0,none⟩),.slice (some ⟨abA,0,none⟩) 2 2,.pointer (some ⟨abA,0,none⟩),.slice (some ⟨ga,oa,none⟩) 1 ca,.int .i64 1,.bool false,.bool false,.bool false,.pointer (some ⟨tA,0,none⟩),.slice (some ⟨abA,0,none⟩) 2 2,.pointer (some ⟨abA,0,none⟩),.slice (some ⟨ga,oa,none⟩) 1 ca,.pointer (some ⟨ga,oa,none⟩),.pointer (some ⟨ga,oa+1,none⟩),.int .i64 1,.bool false,.bool false,.bool false,.pointer (some ⟨tB,0,none⟩),.slice (some ⟨abB,0,none⟩) 2 2,.int .i64 2,.bool false,.bool false,.bool false,.pointer (some ⟨tB,0,none⟩),.slice (some ⟨abB,0,none⟩) 2 2,.pointer (some ⟨abB,0,none⟩),.slice (some ⟨gb,ob',none⟩) 1 cb,.int .i64 1,.bool false,.bool false,.bool false,.pointer (some ⟨tB,0,none⟩),.slice (some ⟨abB,0,none⟩) 2 2,.pointer (some ⟨abB,0,none⟩),.slice (some ⟨gb,ob',none⟩) 1 cb,.pointer (some ⟨gb,ob',none⟩),.pointer (some ⟨gb,ob',none⟩),.bool false,.bool false,.bool false,.pointer (some ⟨tB,0,none⟩),.slice (some ⟨abB,0,none⟩) 2 2,.pointer (some ⟨abB,0,none⟩),.slice (some ⟨gb,ob',none⟩) 1 cb,.pointer (some ⟨gb,ob',none⟩),.pointer (some ⟨gb,ob'+1,none⟩),.int .i64 0,.bool false,.bool false,.pointer (some ⟨K+1,0,none⟩),undef,undef,undef,undef,undef,undef,undef,undef,undef,undef,undef,undef,undef,undef,undef,undef,undef,undef,undef,undef,undef,undef,undef,undef,undef,undef,undef]/\NewStr yB 2 [0,0] w') (λt w' τ d h=>⟨h.1,h.2.re τ d⟩) (by decide) (λτ d=>?_) ?_
 · obtain⟨u0,hu0⟩:∃c,headC (fxT 6)=c:=⟨_,rfl⟩
   have eu0:=hu0
   rw[hu0]
   simp only[fxT,headC,tailN,Try.f8,al_od]at eu0
   subst eu0
   clear hu0 hm
   have HN:=Lib.hid (new_lone 2 (re yB τ d))
   have hs0:(re yB τ d).heap.size=K:=HK.out
   have HS0:=Lib.hid hs0
   clear hs0
   go_wp2_with (fail)
   refine Calls.mono HN.out ?_
   rintro e w' ⟨rfl,hR⟩
   have hR2:RowKit.Hid (NewStr yB 2 [0,0] w'):=Lib.hid ⟨hR.rep,hR.size,hR.old⟩
   clear hR
   rw[HS0.out]
   go_wp2
   exact⟨rfl,rfl,hR2.out⟩
 rintro t c0 ⟨rfl,hR⟩
 have hrep:=hR.rep
 rw[HK.out]at hrep
 have HB1:RowKit.Hid (Beyond w c0):=Lib.hid (HBy.out.trans ⟨by have:=hR.size;omega,hR.old⟩)
 have HC0:RowKit.Hid (StrRep (K+1) (some K) 2 [0,0] c0):=Lib.hid hrep
 have HBw:=HBy
 clear hR hrep HBy
 refine hJ.ctl (s:=n+2+2) (λw=>stepG_seq) ?_
 obtain⟨u7,hu7⟩:∃c,headC (fxT 7)=c:=⟨_,rfl⟩
 have eu7:=hu7
 rw[hu7]
 simp only[fxT,headC,tailN,Try.f8,al_od]at eu7
 subst eu7
 clear hu7
 refine hJ.ctl (s:=n+2+2) (λw=>stepG_region) ?_
 have HKW:RowKit.Hid (w.heap.size<=K):=Lib.hid (by have h1:=HBw.out.1;have h2:=HK.out;omega)
 refine zqw (s:=n+2+2) (by decide) hJ (zqu _) false (.inr rfl) 0 4 24 rfl rfl rfl (by rfl) ?_
 intro τ d
 simp only[List.drop_succ_cons,List.drop_zero,List.take_succ_cons,List.take_zero]
 go_wp2
 simp only[zqi]
 refine hJ.re' (n+2+2) _ _ τ d ?_
 refine at_call (by decide) hJ (s:=n+2+2) rfl rfl (f:=21) (args:=#[.pointer (some ⟨K+1,0,none⟩),.nilIface,.int .i64 0,.int .i64 5]) (λτ d=>?_) (λτ d=>?_) ?_
 · simp[go_sem,execOp,Act.eval,resolve,Deferred.ofValue,invoke,callFunc,Try.func21,Try.f21]
 · intro e he
   simp[go_sem,execOp,Act.eval,resolve,Deferred.ofValue,invoke,callFunc,Try.func21,Try.f21,Sem.runT_eq]at he
 refine str_nilJ hFin (p:=addP 2 0 5) (l:=[0,0]) (l':=[5,0]) (a:=5) (λY hst=>(add_spec Y hst 0 5).spec) (by kernel_rfl) (by kernel_rfl) HC0.out ?_
 intro c1 hA
 have HC1:=Lib.hid hA.rep
 have HB2:RowKit.Hid (Beyond w c1):=Lib.hid ⟨Nat.le_trans HB1.out.1 hA.size,λb hb=>(hA.old b (Nat.lt_of_lt_of_le hb HB1.out.1) (by have h1:=HKW.out;omega) (λe=>by have h1:=HKW.out;injection e with e;omega)).trans (HB1.out.2 b hb)⟩
 clear hA
 rw[Frame.finish_at]
 walk_nrm
 refine zqw (s:=n+2+2) (by decide) hJ (zqu _) false (.inr rfl) 5 4 19 rfl rfl rfl (by rfl) ?_
 intro τ d
 simp only[List.drop_succ_cons,List.drop_zero,List.take_succ_cons,List.take_zero]
 go_wp2
 simp only[zqi]
 refine hJ.re' (n+2+2) _ _ τ d ?_
 refine at_call (by decide) hJ (s:=n+2+2) rfl rfl (f:=21) (args:=#[.pointer (some ⟨K+1,0,none⟩),.nilIface,.int .i64 3,.int .i64 7]) (λτ d=>?_) (λτ d=>?_) ?_
 · simp[go_sem,execOp,Act.eval,resolve,Deferred.ofValue,invoke,callFunc,Try.func21,Try.f21]
 · intro e he
   simp[go_sem,execOp,Act.eval,resolve,Deferred.ofValue,invoke,callFunc,Try.func21,Try.f21,Sem.runT_eq]at he
 refine str_nilJ hFin (p:=addP 2 3 7) (l:=[5,0]) (l':=[5,7]) (a:=7) (λY hst=>(add_spec Y hst 3 7).spec) (by kernel_rfl) (by kernel_rfl) HC1.out ?_
 intro c2 hA
 have HC2:=Lib.hid hA.rep
 have HB3:RowKit.Hid (Beyond w c2):=Lib.hid ⟨Nat.le_trans HB2.out.1 hA.size,λb hb=>(hA.old b (Nat.lt_of_lt_of_le hb HB2.out.1) (by have h1:=HKW.out;omega) (λe=>by have h1:=HKW.out;injection e with e;omega)).trans (HB2.out.2 b hb)⟩
 clear hA
 rw[Frame.finish_at]
 walk_nrm
 refine zqw (s:=n+2+2) (by decide) hJ (zqu _) false (.inr rfl) 10 4 14 rfl rfl rfl (by rfl) ?_
 intro τ d
 simp only[List.drop_succ_cons,List.drop_zero,List.take_succ_cons,List.take_zero]
 go_wp2
 simp only[zqi]
 refine hJ.re' (n+2+2) _ _ τ d ?_
 refine at_call (by decide) hJ (s:=n+2+2) rfl rfl (f:=18) (args:=#[.pointer (some ⟨K+1,0,none⟩)]) (λτ d=>?_) (λτ d=>?_) ?_
 · simp[go_sem,execOp,Act.eval,resolve,Deferred.ofValue,invoke,callFunc,Try.func18,Try.f18]
 · intro e he
   simp[go_sem,execOp,Act.eval,resolve,Deferred.ofValue,invoke,callFunc,Try.func18,Try.f18,Sem.runT_eq]at he
 refine at_calls_lone hJ hC plainM Try.func18 rfl (by kernel_rfl) (R:=λv w'=>v=.int .i64 12/\Beyond c2 w') (λv w' τ d h=>⟨h.1,h.2.trans (Beyond.re _ _ _)⟩) (λτ d=>Calls.mono (total_lone ((zqt _ _ _).frame _ _ _ HC2.out λ_ _=>rfl)) ?_) ?_
 · rintro e w' ⟨rfl,h1,h2⟩
   exact⟨_,rfl,by rw[show totalL [5,7]=12 by kernel_rfl],h1,h2⟩
 rintro _ c3 ⟨rfl,hA⟩
 have HC3:RowKit.Hid (StrRep (K+1) (some K) 2 [5,7] c3):=Lib.hid ((zqt _ _ _).frame _ _ _ HC2.out λb hb=>hA.2 b ((zqt _ _ _).lt _ _ _ HC2.out hb))
 have HB4:RowKit.Hid (Beyond w c3):=Lib.hid (HB3.out.trans hA)
 clear hA
 rw[Frame.finish_at]
 walk_nrm
 refine zqw (s:=n+2+2) (by decide) hJ (zqu _) false (.inr rfl) 15 4 9 rfl rfl rfl (by rfl) ?_
 intro τ d
 simp only[List.drop_succ_cons,List.drop_zero,List.take_succ_cons,List.take_zero]
 go_wp2
 simp only[zqi]
 refine hJ.re' (n+2+2) _ _ τ d ?_
 refine at_call (by decide) hJ (s:=n+2+2) rfl rfl (f:=23) (args:=#[.pointer (some ⟨K+1,0,none⟩),.nilIface]) (λτ d=>?_) (λτ d=>?_) ?_
 · simp[go_sem,execOp,Act.eval,resolve,Deferred.ofValue,invoke,callFunc,Try.func23,Try.f23]
 · intro e he
   simp[go_sem,execOp,Act.eval,resolve,Deferred.ofValue,invoke,callFunc,Try.func23,Try.f23,Sem.runT_eq]at he
 refine str_nilJ hFin (p:=takeP 2) (l:=[5,7]) (l':=[0,0]) (a:=12) (λY hst=>(take_spec Y hst).spec) (by kernel_rfl) (by kernel_rfl) HC3.out ?_
 intro c4 hA
 have HC4:=Lib.hid hA.rep
 have HB5:RowKit.Hid (Beyond w c4):=Lib.hid ⟨Nat.le_trans HB4.out.1 hA.size,λb hb=>(hA.old b (Nat.lt_of_lt_of_le hb HB4.out.1) (by have h1:=HKW.out;omega) (λe=>by have h1:=HKW.out;injection e with e;omega)).trans (HB4.out.2 b hb)⟩
 clear hA
 rw[Frame.finish_at]
 walk_nrm
 refine zqw (s:=n+2+2) (by decide) hJ (zqu _) false (.inr rfl) 20 4 4 rfl rfl rfl (by rfl) ?_
 intro τ d
 simp only[List.drop_succ_cons,List.drop_zero,List.take_succ_cons,List.take_zero]
 go_wp2
 simp only[zqi]
 refine hJ.re' (n+2+2) _ _ τ d ?_
 refine at_call (by decide) hJ (s:=n+2+2) rfl rfl (f:=18) (args:=#[.pointer (some ⟨K+1,0,none⟩)]) (λτ d=>?_) (λτ d=>?_) ?_
 · simp[go_sem,execOp,Act.eval,resolve,Deferred.ofValue,invoke,callFunc,Try.func18,Try.f18]
 · intro e he
   simp[go_sem,execOp,Act.eval,resolve,Deferred.ofValue,invoke,callFunc,Try.func18,Try.f18,Sem.runT_eq]at he
 refine at_calls_lone hJ hC plainM Try.func18 rfl (by kernel_rfl) (R:=λv w'=>v=.int .i64 0/\Beyond c4 w') (λv w' τ d h=>⟨h.1,h.2.trans (Beyond.re _ _ _)⟩) (λτ d=>Calls.mono (total_lone ((zqt _ _ _).frame _ _ _ HC4.out λ_ _=>rfl)) ?_) ?_
 · rintro e w' ⟨rfl,h1,h2⟩
   exact⟨_,rfl,by rw[show totalL [0,0]=0 by kernel_rfl],h1,h2⟩
 rintro _ c5 ⟨rfl,hA⟩
 have HC5:RowKit.Hid (StrRep (K+1) (some K) 2 [0,0] c5):=Lib.hid ((zqt _ _ _).frame _ _ _ HC4.out λb hb=>hA.2 b ((zqt _ _ _).lt _ _ _ HC4.out hb))
 have HB6:RowKit.Hid (Beyond w c5):=Lib.hid (HB5.out.trans hA)
 clear hA
 rw[Frame.finish_at]
 walk_nrm
 refine zqw (s:=n+2+2) (by decide) hJ (zqu _) false (.inr rfl) 25 3 0 rfl rfl rfl (by rfl) ?_
 intro τ d
 simp only[List.drop_succ_cons,List.drop_zero,List.take_succ_cons,List.take_zero]
 go_wp2
 simp only[zqi]
 refine hJ.re' (n+2+2) _ _ τ d ?_
 refine hJ.ctl (s:=n+2+2) (λw=>stepG_region_end) ?_
 refine at_rest_lone hJ hC plainM (by kernel_rfl) (λv w'=>v=.bool true/\Beyond w w') (λv w' τ d h=>⟨h.1,h.2.trans (Beyond.re _ _ _)⟩) rfl Try.func8 (λτ d=>?_) ?_
 · obtain⟨u0,hu0⟩:∃c,fxT 8=c:=⟨_,rfl⟩
   have eu0:=hu0
   rw[hu0]
   simp only[fxT,headC,tailN,Try.f8,al_od]at eu0
   subst eu0
   clear hu0 hm
   go_wp2
   go_ret
   exact⟨_,rfl,rfl,HB6.out.trans (Beyond.re _ _ _)⟩
 · rintro v w' ⟨rfl,h⟩
   exact hm.out w' h
end Go.Proofs
