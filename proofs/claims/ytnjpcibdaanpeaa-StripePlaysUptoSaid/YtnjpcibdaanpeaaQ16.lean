/- YtnjpcibdaanpeaaSPlays4: part 16 of the proof (the texts behind it, in order). -/
import Derived.Test.YtnjpcibdaanpeaaQ15
set_option linter.unusedSimpArgs false
set_option linter.unusedVariables false
set_option linter.unusedSectionVars false
set_option linter.unnecessarySimpa false
set_option maxHeartbeats 8000000
set_option maxRecDepth 100000
namespace Go.Proofs
open Go Go.Conc Go.RowKit Go.Car
open Go.ConcN (upd upd_ne upd_same)
theorem stripeplays_run{Post:Value->World->Prop}(hPost:∀v w τ d,Post v w->Post v (re w τ d)){W:World}{wp pp scp:Option Addr}{wl Cw np Cn N sl Cs:Nat}{sp:Nat->Option Addr}{Ln Cp:Nat->Nat}{ops:Nat->List OpX}{ws sched:List Int}{mo:Int}(hI:PlIn W wp pp scp wl np N sl sp Ln Cp ops ws sched)(hend:∀w',Beyond W w'->Post (.bool true) w'):
 FinOf Try.prog Post (solo (G (Frame.enter Try.prog 3 #[.agg #[.slice wp wl Cw,.slice pp np Cn,.slice scp sl Cs,.int .i64 mo]] .normal) []) W) #[]:=by
 refine j0_run Try.func3 rfl ?_
 have hFin:=back_fin (P:=Try.prog) Post
 have hJ:=j0_JS hFin
 have hC:=j0_calm hFin
 have e:Frame.enter Try.prog 3 #[.agg #[.slice wp wl Cw,.slice pp np Cn,.slice scp sl Cs,.int .i64 mo]] .normal=(bN 3).at (zqr Try.f3 #[.agg #[.slice wp wl Cw,.slice pp np Cn,.slice scp sl Cs,.int .i64 mo]]) [.code ((Try.f3.body).getD .skip)]:=by kernel_rfl
 have ea:zqr Try.f3 #[.agg #[.slice wp wl Cw,.slice pp np Cn,.slice scp sl Cs,.int .i64 mo]]=⟨#[.agg #[.slice wp wl Cw,.slice pp np Cn,.slice scp sl Cs,.int .i64 mo],undef,undef,undef,undef,undef,undef,undef,undef,undef,undef,undef,undef,undef,undef,undef,undef,undef,undef,undef,undef,undef,undef,undef],[]⟩:=by kernel_rfl
 rw[e,ea,pl0]
 clear e ea
 obtain⟨Bx,hBx⟩:∃x,W.heap.size=x:=⟨_,rfl⟩
 refine hJ.ctl (s:=1) (λw=>stepG_seq) ?_
 refine at_lone hJ hC plainM (by kernel_rfl) (λt w'=>t=#[.agg #[.slice wp wl Cw,.slice pp np Cn,.slice scp sl Cs,.int .i64 mo],.pointer (some ⟨Bx,0,none⟩),.bool false,undef,undef,undef,undef,undef,undef,undef,undef,undef,undef,undef,undef,undef,undef,undef,undef,undef,undef,undef,undef,undef]/\∃τ d,w'=re (W.alloc (.cells #[.slice wp wl Cw,.slice pp np Cn,.slice scp sl Cs,.int .i64 mo] 26)) τ d) (λt w' τ d h=>⟨h.1,by obtain⟨τ',d',rfl⟩:=h.2;exact⟨τ,d,by rw[re_re]⟩⟩) (by decide) (λτ d=>?_) ?_
 · obtain⟨u0,hu0⟩:∃c,headC (plT 0)=c:=⟨_,rfl⟩
   have eu0:=hu0
   rw[hu0]
   simp only[plT,headC,tailN,Try.f3,al_od]at eu0
   subst eu0
   clear hu0 hI
   go_wp2
   exact⟨rfl,rfl,τ,d,rfl⟩
 rintro t w' ⟨rfl,τ,d,rfl⟩
 refine hJ.re' 1 _ _ τ d ?_
 have hb0:=Beyond.alloc W (.cells #[.slice wp wl Cw,.slice pp np Cn,.slice scp sl Cs,.int .i64 mo] 26)
 have hbx:=zqq W (.cells #[.slice wp wl Cw,.slice pp np Cn,.slice scp sl Cs,.int .i64 mo] 26)
 rw[hBx]at hbx
 generalize W.alloc (.cells #[.slice wp wl Cw,.slice pp np Cn,.slice scp sl Cs,.int .i64 mo] 26)=wa at hb0 hbx ⊢
 refine hJ.ctl (s:=1) (λw=>stepG_seq) ?_
 obtain⟨u1,hu1⟩:∃c,headC (plT 1)=c:=⟨_,rfl⟩
 have eu1:=hu1
 rw[hu1]
 simp only[plT,headC,tailN,Try.f3,al_od]at eu1
 subst eu1
 clear hu1
 refine hJ.ctl (s:=1) (λw=>stepG_seq) ?_
 refine hJ.ctl (s:=1) (λw=>stepG_region) ?_
 refine at_call (by decide) hJ (s:=1) rfl rfl (f:=8) (args:=#[]) (λτ d=>?_) (λτ d=>?_) ?_
 · simp[go_sem,execOp,Act.eval,resolve,Deferred.ofValue,invoke,callFunc,Try.func8,Try.f8]
 · intro e he
   simp[go_sem,execOp,Act.eval,resolve,Deferred.ofValue,invoke,callFunc,Try.func8,Try.f8,Sem.runT_eq]at he
 refine fixed_calls hFin (n:=1) (by decide) ?_
 intro w1 hb1
 rw[Frame.finish_at]
 walk_nrm
 refine zqw (s:=1+4) (by decide) hJ (zqu _) false (.inr rfl) 1 1 0 rfl rfl rfl (by rfl) ?_
 intro τ d
 simp only[List.drop_succ_cons,List.drop_zero,List.take_succ_cons,List.take_zero]
 go_wp2
 simp only[zqi]
 refine hJ.re' (1+4) _ _ τ d ?_
 refine hJ.ctl (s:=1+4) (λw=>stepG_region_end) ?_
 refine hJ.ctl (s:=1+4) (λw=>stepG_cond (t:=false) rfl) ?_
 rw[if_neg (by decide)]
 refine hJ.ctl (s:=1+4) (λw=>stepG_skip) ?_
 refine hJ.ctl (s:=1+4) (λw=>stepG_seq) ?_
 rw[plR0]
 obtain⟨R,hR⟩:∃R,playR ops N (min mo.toNat 1048576) sched (zqz ws)=R:=⟨_,rfl⟩
 obtain⟨stk,hstk⟩:∃x,decide (0<leftN (ovR R) N)=x:=⟨_,rfl⟩
 have hPT:PlTr N R:=by rw[←hR];exact plTr_play (by have:=hI.op.eq;omega) λi hi=>by rw[hI.op.len i hi];omega
 have HIN:=Lib.hid (And.intro hI (And.intro (hb0.trans hb1) (And.intro (hb1.heap hbx) (And.intro hR (And.intro hstk hPT)))))
 clear hI hb0 hb1 hbx hR hstk hPT
 refine at_drawsS hJ (by decide) (by kernel_rfl) (by kernel_rfl) (by kernel_rfl) (λs L v w=>PlW w1 (1+4) N [.pointer (some ⟨Bx,0,none⟩),.slice wp wl Cw,.pointer (some ⟨Bx,1,none⟩),.slice pp np Cn,.pointer (some ⟨Bx,2,none⟩),.slice scp sl Cs,.pointer (some ⟨Bx,3,none⟩),.int .i64 mo,undef,.pointer (some ⟨Bx,0,none⟩),.slice wp wl Cw,.pointer (some ⟨Bx,1,none⟩),.slice pp np Cn,.pointer (some ⟨Bx,2,none⟩),.slice scp sl Cs,.pointer (some ⟨Bx,3,none⟩),.int .i64 mo,undef,.bool true,.bool true] R stk s L v w) (λs L v w τ d h=>⟨h.be.trans (Beyond.re _ _ _),h.st,h.v,λhl=>by obtain⟨v,h1,h2⟩:=h.p hl;exact⟨v,h1,h2.beyond (Beyond.re _ _ _)⟩,λhl=>by obtain⟨v,h1,h2⟩:=h.q hl;exact⟨v,h1,h2.beyond (Beyond.re _ _ _)⟩⟩) (List.replicate 20 undef) (by kernel_rfl) ⟨Beyond.refl _,rfl,λi _ _ _ h=>(by cases h),λh=>(by cases h),λh=>(by cases h)⟩ (pl_draw hFin (n0:=1+4) (by decide) HIN) ?_
 rintro s L vals w2 hall hlen hP
 replace hlen:vals.length=20:=hlen
 have h19:(putv plR vals 0 (#[.agg #[.slice wp wl Cw,.slice pp np Cn,.slice scp sl Cs,.int .i64 mo],.pointer (some ⟨Bx,0,none⟩),.bool false,.bool true,.bool false,undef,undef,undef,undef,undef,undef,undef,undef,undef,undef,undef,undef,undef,undef,undef,undef,undef,undef,undef]:Array Value))[2]?=some (.bool true):=by
  have hs:(#[.agg #[.slice wp wl Cw,.slice pp np Cn,.slice scp sl Cs,.int .i64 mo],.pointer (some ⟨Bx,0,none⟩),.bool false,.bool true,.bool false,undef,undef,undef,undef,undef,undef,undef,undef,undef,undef,undef,undef,undef,undef,undef,undef,undef,undef,undef]:Array Value).size=24:=rfl
  have h:=hP.v 19 (by decide) (by decide) (by decide) (hall 19 (by decide))
  rw[show([.pointer (some ⟨Bx,0,none⟩),.slice wp wl Cw,.pointer (some ⟨Bx,1,none⟩),.slice pp np Cn,.pointer (some ⟨Bx,2,none⟩),.slice scp sl Cs,.pointer (some ⟨Bx,3,none⟩),.int .i64 mo,undef,.pointer (some ⟨Bx,0,none⟩),.slice wp wl Cw,.pointer (some ⟨Bx,1,none⟩),.slice pp np Cn,.pointer (some ⟨Bx,2,none⟩),.slice scp sl Cs,.pointer (some ⟨Bx,3,none⟩),.int .i64 mo,undef,.bool true,.bool true]:List Value)[19]?=some (.bool true)from rfl]at h
  exact putv_at vals 0 _ 19 (.bool true) 2 h (by kernel_rfl) (by rw[hs];decide) λm a b e=>by omega
 generalize putv plR vals 0 (#[.agg #[.slice wp wl Cw,.slice pp np Cn,.slice scp sl Cs,.int .i64 mo],.pointer (some ⟨Bx,0,none⟩),.bool false,.bool true,.bool false,undef,undef,undef,undef,undef,undef,undef,undef,undef,undef,undef,undef,undef,undef,undef,undef,undef,undef,undef]:Array Value)=TT at h19 ⊢
 refine hJ.ctl (s:=s) (λw=>stepG_region_end) ?_
 refine at_rest_end (P:=Try.prog) hPost plainM (by kernel_rfl) rfl (by kernel_rfl) Try.func3 (λτ d=>?_)
 obtain⟨u5,hu5⟩:∃c,plT 3=c:=⟨_,rfl⟩
 have eu5:=hu5
 rw[hu5]
 simp only[plT,headC,tailN,Try.f3,al_od]at eu5
 subst eu5
 clear hu5
 have HE:=Lib.hid (hend _ ((HIN.out.2.1.trans hP.be).trans (Beyond.re w2 τ d)))
 clear hend hP
 go_wp2
 refine bodyPost_ret (v:=.bool true) ?_ rfl ⟨_,rfl,HE.out⟩
 simp only[results,Try.f3]
 simp[go_sem,h19]
end Go.Proofs
set_option maxHeartbeats 4000000
set_option maxRecDepth 100000
namespace Go.Proofs.Ytnjpcibdaanpeaa
open Go Go.Conc Go.RowKit Go.Car Go.ChangeShapes Go.WideShapes Go.ChangeAt Go.Deep
open Go.Joins (array4 trod_struct4)
theorem bulk_agg{H:Type}{x:DataW H}{es:List (DataW H)}(h:x∈es):Rows.uptoBulk x<=Rows.uptoBulk (.agg es):=by
 have:=bulk_mem h
 simp only[Rows.uptoBulk]
 omega
theorem slice_cell{H:Type}{enc:TypeId×Value->H}{P:Program}{w:World}{base fuel:Nat}{sp:Nat->Bool}{held:Bool}{t e:TypeId}{c:Value}{x:DataW H×List MemPlace}(ht:P.underlying t=some (.slice e))(h:DataW.trod enc P w base sp held fuel t [c]=some x):∃a len cap,c=.slice a len cap:=by
 rcases open_slice ht h with⟨hcs,hx⟩|⟨a,len,cap,m,n,D,Pl,hcs,_⟩
 · simp only[List.cons.injEq,and_true]at hcs;exact⟨_,_,_,hcs⟩
 · simp only[List.cons.injEq,and_true]at hcs;exact⟨_,_,_,hcs⟩
theorem script_arg{H:Type}{enc:TypeId×Value->H}{W:World}{base:Nat}{v:Value}{d:DataW H}{p:List MemPlace}(hok:Value.okWide Try.prog W .any base 26 v)
 (h:DataW.Trod enc Try.prog W 0 (λ_=>true) true 26 v d p) (hb:Rows.uptoBulk d<=1048576):
 ∃wp Cw pp np Cn scp Cs mo,∃ws sched:List Int,∃tops:Nat->List OpX,v=.agg #[.slice wp ws.length Cw,.slice pp np Cn,.slice scp sched.length Cs,.int .i64 mo]/\(IntsAt W (.slice wp ws.length Cw) ws/\ws.length<=1048576)/\(ThrIn W pp np tops/\np<=1048576/\∀i,i<np->(tops i).length<=1048576)/\IntsAt W (.slice scp sched.length Cs) sched/\sched.length<=1048576:=by
 obtain⟨cs,rfl,hsz⟩:=okWide_struct Try.underlying26 hok
 obtain⟨c0,c1,c2,c3,rfl⟩:=array4 (cs:=cs) (hsz.trans (by kernel_rfl))
 obtain⟨fuel,hf⟩:=h
 obtain⟨y0,y1,y2,y3,n,hx,_,h0,h1,h2,h3⟩:=trod_struct4 Try.underlying26 hf
 replace h0:DataW.trod enc Try.prog W 0 (λ_=>true) true n 22 [c0]=some y0:=h0
 replace h1:DataW.trod enc Try.prog W 0 (λ_=>true) true n 23 [c1]=some y1:=h1
 replace h2:DataW.trod enc Try.prog W 0 (λ_=>true) true n 24 [c2]=some y2:=h2
 replace h3:DataW.trod enc Try.prog W 0 (λ_=>true) true n 3 [c3]=some y3:=h3
 obtain⟨d0,p0⟩:=y0
 obtain⟨d1,p1⟩:=y1
 obtain⟨d2,p2⟩:=y2
 cases hx
 obtain⟨wp,wl,Cw,rfl⟩:=slice_cell (e:=2) (by kernel_rfl) h0
 obtain⟨pp,np,Cn,rfl⟩:=slice_cell (e:=34) (by kernel_rfl) h1
 obtain⟨scp,sl,Cs,rfl⟩:=slice_cell (e:=3) (by kernel_rfl) h2
 obtain⟨mo,h6,_⟩:=DataW.trod_int (k:=.i64) (by kernel_rfl) h3
 simp only[List.cons.injEq,and_true]at h6
 subst h6
 obtain⟨ws,e1,e2,e3⟩:=ints_open (e:=2) (by kernel_rfl) (by kernel_rfl) (by kernel_rfl) h0
 obtain⟨sched,s1,s2,s3⟩:=ints_open (e:=3) (by kernel_rfl) (by kernel_rfl) (by kernel_rfl) h2
 obtain⟨fs,k1,k2,k3⟩:=op_fields
 obtain⟨tops,t1,t2,t3⟩:=thr_open (e:=34) (e2:=46) (by kernel_rfl) (by kernel_rfl) (by kernel_rfl) k1 (by kernel_rfl) k3 k2 h1
 replace hb:Rows.uptoBulk (.agg [d0,d1,d2,y3.1])<=1048576:=hb
 have b0:=bulk_agg (x:=d0) (es:=[d0,d1,d2,y3.1]) (by simp)
 have b1:=bulk_agg (x:=d1) (es:=[d0,d1,d2,y3.1]) (by simp)
 have b2:=bulk_agg (x:=d2) (es:=[d0,d1,d2,y3.1]) (by simp)
 have l0:=bulk_lenD d0
 have l1:=bulk_lenD d1
 have l2:=bulk_lenD d2
 subst e1 s1
 refine⟨wp,Cw,pp,np,Cn,scp,Cs,mo,ws,sched,tops,rfl,⟨e2,by omega⟩,⟨t1,by omega,λi hi=>?_⟩,s2,by omega⟩
 obtain⟨x,es,sp',e,he,hx⟩:=t3 i hi
 have:=bulk_part (sp:=sp') he
 rw[←e]at this
 have:=bulk_lenD x
 omega
theorem stripePlays_lifted(os:Os)(started:os.Started)(H:Type)(enc:TypeId×Value->H)(F:Stop.Interp):
 ReturnsInLeavingWide {} Try.checked os 3 .any ((Rows.OpenSpec.upto Rows.stripePlaysSpec).pre6 enc Try.prog Try.f3 Rows.stripePlaysUptoRow.domain false) (((Rows.OpenSpec.upto Rows.stripePlaysSpec).at F).post enc Try.prog Try.f3 false true false false):=by
 refine leaving_of_cond (C:=Try.checked) (s:=Rows.OpenSpec.upto Rows.stripePlaysSpec) (k:=Rows.uptoSmall) rfl own_knob started Try.func3
  (OpenSpec.witness (enc:=enc) (C:=Try.checked) (s:=Rows.OpenSpec.upto Rows.stripePlaysSpec) (k:=Rows.uptoSmall) rfl false ⟨#[],#[.agg #[.slice none 0 0,.slice none 0 0,.slice none 0 0,.int .i64 0]],[]⟩ 8 (by kernel_rfl) (by kernel_rfl) (by kernel_rfl)
   (x:=([.agg [.nil,.nil,.nil,.lit (.int .i64 0)]],[],[])) (by kernel_rfl) rfl (by kernel_rfl)) ?_
 intro W base args ds gs before hval0 hW hk
 have hval:∀(j:Nat)t v,Try.f3.params[j]?=some t->args[j]?=some v->Value.okWide Try.prog W .any base t v:=hval0
 have hW':=hW
 obtain⟨p,q,hA0,hV,rfl,_,_⟩:=hW
 have hA:DataW.TrodAll enc Try.prog W 0 (λ_=>true) true Try.f3.params.toList args.toList ds p:=hA0
 rw[Try.params3]at hA hval
 obtain⟨v0,d0,rfl,rfl,h0⟩:=trodAll_one hA
 obtain⟨rfl,rfl⟩:=trodVars_none hV
 clear hA0 hval0
 simp only[List.append_nil]at hW' hk
 have hlt:∀x∈p,x.block<W.heap.size:=λx hx=>by simpa using hW'.lt x hx
 obtain⟨wp,Cw,pp,np,Cn,scp,Cs,mo,ws,sched,tops,rfl,⟨i0,j0⟩,⟨i1,j1,j1'⟩,i2,j2⟩:=script_arg (hval 0 _ v0 rfl rfl) h0 (bulk_small hk (by simp))
 obtain⟨sp,Cp,a1,a2⟩:=thr_args i1 (by omega) j1'
 have hI:PlIn W wp pp scp ws.length np (min np 64) sched.length sp (λi=>(tops i).length) Cp (λi=>(tops i).take 65536) ws sched:=by
  refine⟨rfl,by omega,λhp=>?_,a1,a2,rfl,by omega,λhne=>?_⟩
  · obtain⟨p',C',e,hc⟩:=i0
    cases e
    exact hc (List.length_pos_iff.1 hp)
  · obtain⟨p',C',e,hc⟩:=i2
    cases e
    obtain⟨b,o,e2,h2⟩:=hc hne
    refine⟨b,o,e2,λj x hj=>?_⟩
    have hjl:=(List.getElem?_eq_some_iff.1 hj).1
    rw[h2 j hjl,List.getD_eq_getElem?_getD,hj]
    rfl
 obtain⟨M,last,o,w',t',r1,r2,r3,r4⟩:=stripeplays_run (Post:=λv w'=>v=.bool true/\Beyond W w') (λv w τ d h=>⟨h.1,h.2.1,h.2.2⟩) (Cw:=Cw) (Cn:=Cn) (Cs:=Cs) (mo:=mo) hI (λw' h=>⟨rfl,h⟩)
 refine⟨M,last,o,w',t',r1,r2,r3,r4.mono λv hF=>?_⟩
 obtain⟨⟨rfl,hb⟩,ho,hu⟩:=hF
 refine⟨_,_,_,[],p,[],hW',trodAll_mk1 (shut_bool Try.underlying4 true),?_,rfl,kept_same hb ho hu _,λh=>by cases h⟩
 exact trodAll_mk1 (reads_same (by kernel_rfl) (of_decide_eq_true (by kernel_rfl)) h0 hb λx hx=>hlt x hx)
theorem stripePlays_upto:Rows.StripePlaysUptoSaid:=
 holds_leaving_cond 3 Try.f3 rfl rfl rfl rfl rfl rfl rfl ⟨rfl,rfl,rfl,rfl,rfl⟩ rfl rfl rfl rfl rfl (by kernel_rfl) Try.func3 (by kernel_rfl)
  (of_decide_eq_true (by kernel_rfl)) (by unfold Func.isWrapper;first|(rw[if_pos (by decide +kernel)];kernel_rfl)|(rw[if_neg (by decide +kernel)];exact⟨rfl,rfl⟩))
  (λos started H enc _ F=>stripePlays_lifted os started H enc F)
end Go.Proofs.Ytnjpcibdaanpeaa
