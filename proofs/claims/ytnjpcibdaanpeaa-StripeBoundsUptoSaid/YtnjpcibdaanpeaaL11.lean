/- YtnjpcibdaanpeaaSBound10: part 11 of the proof (the texts behind it, in order). -/
import Derived.Test.YtnjpcibdaanpeaaL10
set_option linter.unusedSimpArgs false
set_option linter.unusedVariables false
set_option linter.unusedSectionVars false
set_option linter.unnecessarySimpa false
set_option maxHeartbeats 4000000
set_option maxRecDepth 100000
namespace Go.Proofs
open Go Go.Conc Go.RowKit Go.Car
noncomputable def fxT(n:Nat):Code:=tailN n (Try.f8.body.getD .skip)
theorem fx0:Try.f8.body.getD .skip=.seq (headC (fxT 0)) (.seq (headC (fxT 1)) (.seq (headC (fxT 2)) (.seq (headC (fxT 3)) (.seq (headC (fxT 4)) (fxT 5))))):=by kernel_rfl
theorem two_ops{w:World}{rb p0 p1:Nat}{k:Int}(hr:w.heap[rb]?=some (.cells #[.slice (some ⟨p0,0,none⟩) 1 1,.slice (some ⟨p1,0,none⟩) 2 2] 34))(h0:w.heap[p0]?=some (.cells #[.int .i64 k,.int .i64 0,.int .i64 0,.int .i64 0] 46))(h1:w.heap[p1]?=some (.cells #[.int .i64 1,.int .i64 0,.int .i64 1,.int .i64 0,.int .i64 1,.int .i64 1,.int .i64 1,.int .i64 0] 46)):
 OpsAt w (λb=>if b=p0\/b=p1 then w.heap[b]? else none) (some ⟨rb,0,none⟩) 2 2 (λi=>if i=0 then some ⟨p0,0,none⟩else some ⟨p1,0,none⟩) (λi=>if i=0 then 1 else 2) (λi=>if i=0 then 1 else 2) (λi=>if i=0 then [⟨k,0,0,0⟩]else [⟨1,0,1,0⟩,⟨1,1,1,0⟩]):=by
 refine⟨rfl,by decide,λ_=>⟨rb,0,rfl,λi hi=>?_⟩,λi hi=>?_,λi hi=>?_,λi hi k' op hop=>?_⟩
 · rw[zq0 hr];obtain rfl |rfl:i=0\/i=1:=by omega
   · rfl
   · rfl
 · obtain rfl |rfl:i=0\/i=1:=by omega
   · exact⟨by decide,by decide,λh=>(by cases h)⟩
   · exact⟨by decide,by decide,λh=>(by cases h)⟩
 · obtain rfl |rfl:i=0\/i=1:=by omega
   · rfl
   · rfl
 · obtain rfl |rfl:i=0\/i=1:=by omega
   · refine⟨p0,0,_,_,_,rfl,by rw[if_pos (.inl rfl)];exact h0,λj hj=>?_⟩;obtain rfl:k'=0:=by have:=(List.getElem?_eq_some_iff.1 hop).1;simp at this;omega
     simp at hop;subst hop;obtain rfl |rfl |rfl |rfl:j=0\/j=1\/j=2\/j=3:=by omega
     all_goals rfl
   · refine⟨p1,0,_,_,_,rfl,by rw[if_pos (.inr rfl)];exact h1,λj hj=>?_⟩;obtain rfl |rfl:k'=0\/k'=1:=by have:=(List.getElem?_eq_some_iff.1 hop).1;simp at this;omega
     all_goals
      simp at hop;subst hop;obtain rfl |rfl |rfl |rfl:j=0\/j=1\/j=2\/j=3:=by omega
      all_goals rfl
def fxOps(k:Int)(i:Nat):List OpX:=if i=0 then [⟨k,0,0,0⟩]else [⟨1,0,1,0⟩,⟨1,1,1,0⟩]
theorem fx_sum:(strT [0,0] (fxOps 2) 2 99 [0,1,1,0]).s.2 0=[⟨true,1,[]⟩]:=by kernel_rfl
theorem fx_even:(strT [0,0] (fxOps 5) 2 99 [0,1,1,0,0]).s.2 0=[⟨false,0,[]⟩]:=by kernel_rfl
theorem fixed_calls{Fin:Machine->Trace->Prop}(hFin:Back Try.prog Fin){n:Nat}(hn:0<n){w:World}{c:Frame}{cs:List Frame}(hmain:∀w',Beyond w w'->J0 Try.prog Fin (n+4) (G (c.finish (.bool true)) cs) w'):
 J0 Try.prog Fin n (G (Frame.enter Try.prog 8 #[] .normal) (c::cs)) w:=by
 have hJ:=j0_JS hFin;have hC:=j0_calm hFin;have e:Frame.enter Try.prog 8 #[] .normal=(bN 8).at (enterAct Try.f8 #[]) [.code ((Try.f8.body).getD .skip)]:=by kernel_rfl
 have ea:enterAct Try.f8 #[]=⟨#[undef,undef,undef,undef,undef,undef,undef,undef,undef,undef,undef,undef,undef,undef,undef,undef,undef,undef,undef,undef,undef,undef,undef,undef,undef,undef,undef,undef,undef,undef,undef,undef,undef,undef,undef,undef,undef,undef,undef,undef,undef,undef,undef,undef,undef,undef,undef,undef,undef,undef,undef,undef,undef,undef,undef,undef,undef,undef,undef,undef,undef,undef,undef,undef,undef,undef,undef,undef,undef,undef,undef,undef,undef,undef,undef,undef,undef,undef,undef,undef,undef,undef,undef,undef,undef,undef,undef,undef,undef,undef,undef,undef,undef,undef,undef,undef,undef,undef,undef,undef,undef,undef,undef,undef,undef,undef,undef],[]⟩:=by kernel_rfl
 rw[e,ea,fx0];clear e ea;have hm:=Lib.hid hmain;clear hmain;obtain⟨H,hH⟩:∃H,w.heap.size=H:=⟨_,rfl⟩;refine hJ.ctl (s:=n) (λw=>stepG_seq) ?_;refine at_lone hJ hC plainM (by kernel_rfl) (λt w'=>t=#[.bool false,undef,undef,undef,undef,undef,undef,undef,undef,undef,undef,undef,undef,undef,undef,undef,undef,undef,undef,undef,undef,undef,undef,undef,undef,undef,undef,undef,undef,undef,undef,undef,undef,undef,undef,undef,undef,undef,undef,undef,undef,undef,undef,undef,undef,undef,undef,undef,undef,undef,undef,undef,undef,undef,undef,undef,undef,undef,undef,undef,undef,undef,undef,undef,undef,undef,undef,undef,undef,undef,undef,undef,undef,undef,undef,undef,undef,undef,undef,undef,undef,undef,undef,undef,undef,undef,undef,undef,undef,undef,undef,undef,undef,undef,undef,undef,undef,undef,undef,undef,undef,undef,undef,undef,undef,undef,undef]/\∃τ d,w'=re (w) τ d) (λt w' τ d h=>⟨h.1,by obtain⟨τ',d',rfl⟩:=h.2;exact⟨τ,d,by rw[re_re]⟩⟩) (by decide) (λτ d=>?_) ?_
 · obtain⟨u0,hu0⟩:∃c,headC (fxT 0)=c:=⟨_,rfl⟩;have eu0:=hu0;rw[hu0];simp only[fxT,headC,tailN,Try.f8,al_od]at eu0;subst eu0;clear hu0;go_wp2;exact⟨rfl,rfl,τ,d,rfl⟩
 rintro t w' ⟨rfl,τ,d,rfl⟩;refine hJ.re' n _ _ τ d ?_;refine hJ.ctl (s:=n) (λw=>stepG_seq) ?_;refine at_lone hJ hC plainM (by kernel_rfl) (λt w'=>t=#[.bool false,.slice (some ⟨H,0,none⟩) 2 2,undef,undef,undef,undef,.slice (some ⟨H,0,none⟩) 2 2,undef,undef,undef,undef,undef,undef,undef,undef,undef,undef,undef,undef,undef,undef,undef,undef,undef,undef,undef,undef,undef,undef,undef,undef,undef,undef,undef,undef,undef,undef,undef,undef,undef,undef,undef,undef,undef,undef,undef,undef,undef,undef,undef,undef,undef,undef,undef,undef,undef,undef,undef,undef,undef,undef,undef,undef,undef,undef,undef,undef,undef,undef,undef,undef,undef,undef,undef,undef,undef,undef,undef,undef,undef,undef,undef,undef,undef,undef,undef,undef,undef,undef,undef,undef,undef,undef,undef,undef,undef,undef,undef,undef,undef,undef,undef,undef,undef,undef,undef,undef]/\∃τ d,w'=re (w.alloc (.cells #[.int .i64 0,.int .i64 0] 2)) τ d) (λt w' τ d h=>⟨h.1,by obtain⟨τ',d',rfl⟩:=h.2;exact⟨τ,d,by rw[re_re]⟩⟩) (by decide) (λτ d=>?_) ?_
 · obtain⟨u0,hu0⟩:∃c,headC (fxT 1)=c:=⟨_,rfl⟩;have eu0:=hu0;rw[hu0];simp only[fxT,headC,tailN,Try.f8,al_od]at eu0;subst eu0;clear hu0;go_wp2;exact⟨rfl,rfl,τ,d,rfl⟩
 rintro t w' ⟨rfl,τ,d,rfl⟩;refine hJ.re' n _ _ τ d ?_;refine hJ.ctl (s:=n) (λw=>stepG_seq) ?_;refine at_lone hJ hC plainM (by kernel_rfl) (λt w'=>t=#[.bool false,.slice (some ⟨H,0,none⟩) 2 2,.slice (some ⟨H+1,0,none⟩) 2 2,undef,undef,undef,.slice (some ⟨H,0,none⟩) 2 2,.agg #[.int .i64 1,.int .i64 0,.int .i64 1,.int .i64 0],.agg #[.int .i64 1,.int .i64 1,.int .i64 1,.int .i64 0],.slice (some ⟨H+1,0,none⟩) 2 2,undef,undef,undef,undef,undef,undef,undef,undef,undef,undef,undef,undef,undef,undef,undef,undef,undef,undef,undef,undef,undef,undef,undef,undef,undef,undef,undef,undef,undef,undef,undef,undef,undef,undef,undef,undef,undef,undef,undef,undef,undef,undef,undef,undef,undef,undef,undef,undef,undef,undef,undef,undef,undef,undef,undef,undef,undef,undef,undef,undef,undef,undef,undef,undef,undef,undef,undef,undef,undef,undef,undef,undef,undef,undef,undef,undef,undef,undef,undef,undef,undef,undef,undef,undef,undef,undef,undef,undef,undef,undef,undef,undef,undef,undef,undef,undef,undef]/\∃τ d,w'=re ((w.alloc (.cells #[.int .i64 0,.int .i64 0] 2)).alloc (.cells #[.int .i64 1,.int .i64 0,.int .i64 1,.int .i64 0,.int .i64 1,.int .i64 1,.int .i64 1,.int .i64 0] 46)) τ d) (λt w' τ d h=>⟨h.1,by obtain⟨τ',d',rfl⟩:=h.2;exact⟨τ,d,by rw[re_re]⟩⟩) (by decide) (λτ d=>?_) ?_
 · obtain⟨u0,hu0⟩:∃c,headC (fxT 2)=c:=⟨_,rfl⟩;have eu0:=hu0;rw[hu0];simp only[fxT,headC,tailN,Try.f8,al_od]at eu0;subst eu0;clear hu0;go_wp2;exact⟨rfl,rfl,τ,d,rfl⟩
 rintro t w' ⟨rfl,τ,d,rfl⟩;refine hJ.re' n _ _ τ d ?_;have HIA:RowKit.Hid (((w.alloc (.cells #[.int .i64 0,.int .i64 0] 2)).alloc (.cells #[.int .i64 1,.int .i64 0,.int .i64 1,.int .i64 0,.int .i64 1,.int .i64 1,.int .i64 1,.int .i64 0] 46)).heap.size=H+2/\((w.alloc (.cells #[.int .i64 0,.int .i64 0] 2)).alloc (.cells #[.int .i64 1,.int .i64 0,.int .i64 1,.int .i64 0,.int .i64 1,.int .i64 1,.int .i64 1,.int .i64 0] 46)).heap[H]?=some (.cells #[.int .i64 0,.int .i64 0] 2)/\((w.alloc (.cells #[.int .i64 0,.int .i64 0] 2)).alloc (.cells #[.int .i64 1,.int .i64 0,.int .i64 1,.int .i64 0,.int .i64 1,.int .i64 1,.int .i64 1,.int .i64 0] 46)).heap[H+1]?=some (.cells #[.int .i64 1,.int .i64 0,.int .i64 1,.int .i64 0,.int .i64 1,.int .i64 1,.int .i64 1,.int .i64 0] 46)/\H+1<H+2):=by
  refine Lib.hid ⟨by simp only[zq3];omega,?_,?_,by omega⟩
  · rw[←hH];exact al_old (al_new _ _)
  · rw[←hH,zq2,if_pos (by rw[zq3])]
 have HB0:RowKit.Hid (Beyond w ((w.alloc (.cells #[.int .i64 0,.int .i64 0] 2)).alloc (.cells #[.int .i64 1,.int .i64 0,.int .i64 1,.int .i64 0,.int .i64 1,.int .i64 1,.int .i64 1,.int .i64 0] 46))):=Lib.hid ((Beyond.alloc _ _).trans (Beyond.alloc _ _));generalize (w.alloc (.cells #[.int .i64 0,.int .i64 0] 2)).alloc (.cells #[.int .i64 1,.int .i64 0,.int .i64 1,.int .i64 0,.int .i64 1,.int .i64 1,.int .i64 1,.int .i64 0] 46)=w2 at HIA HB0 ⊢;refine hJ.ctl (s:=n) (λw=>stepG_seq) ?_;obtain⟨u3,hu3⟩:∃c,headC (fxT 3)=c:=⟨_,rfl⟩;have eu3:=hu3;rw[hu3];simp only[fxT,headC,tailN,Try.f8,al_od]at eu3;subst eu3;clear hu3;refine hJ.ctl (s:=n) (λw=>stepG_region) ?_;refine at_piece (s:=n) (by decide) hJ (zq6 _) false (.inr rfl) 0 6 3 rfl rfl rfl (by rfl) ?_;intro τ d;simp only[List.drop_zero,List.take_succ_cons,List.take_zero];have HFA:RowKit.Hid ((re w2 τ d).heap.size=(H+2)/\(re w2 τ d).heap[H]?=some (.cells #[.int .i64 0,.int .i64 0] 2)/\(re w2 τ d).heap[H+1]?=some (.cells #[.int .i64 1,.int .i64 0,.int .i64 1,.int .i64 0,.int .i64 1,.int .i64 1,.int .i64 1,.int .i64 0] 46)/\Beyond w2 (re w2 τ d)/\H+1<(H+2)):=Lib.hid ⟨HIA.out.1,HIA.out.2.1,HIA.out.2.2.1,Beyond.re _ _ _,HIA.out.2.2.2⟩;generalize re w2 τ d=vA at HFA ⊢;go_wp2;simp only[contAt];have HWA:RowKit.Hid (Beyond vA (((vA.alloc (.cells #[.int .i64 2,.int .i64 0,.int .i64 0,.int .i64 0] 46)).alloc (.cells #[.slice (some ⟨(H+2),0,none⟩) 1 1,.slice (some ⟨H+1,0,none⟩) 2 2] 34)).alloc (.cells #[.int .i64 0,.int .i64 1,.int .i64 1,.int .i64 0] 3))/\(((vA.alloc (.cells #[.int .i64 2,.int .i64 0,.int .i64 0,.int .i64 0] 46)).alloc (.cells #[.slice (some ⟨(H+2),0,none⟩) 1 1,.slice (some ⟨H+1,0,none⟩) 2 2] 34)).alloc (.cells #[.int .i64 0,.int .i64 1,.int .i64 1,.int .i64 0] 3)).heap[(H+2)]?=some (.cells #[.int .i64 2,.int .i64 0,.int .i64 0,.int .i64 0] 46)/\(((vA.alloc (.cells #[.int .i64 2,.int .i64 0,.int .i64 0,.int .i64 0] 46)).alloc (.cells #[.slice (some ⟨(H+2),0,none⟩) 1 1,.slice (some ⟨H+1,0,none⟩) 2 2] 34)).alloc (.cells #[.int .i64 0,.int .i64 1,.int .i64 1,.int .i64 0] 3)).heap[(H+2)+1]?=some (.cells #[.slice (some ⟨(H+2),0,none⟩) 1 1,.slice (some ⟨H+1,0,none⟩) 2 2] 34)/\(((vA.alloc (.cells #[.int .i64 2,.int .i64 0,.int .i64 0,.int .i64 0] 46)).alloc (.cells #[.slice (some ⟨(H+2),0,none⟩) 1 1,.slice (some ⟨H+1,0,none⟩) 2 2] 34)).alloc (.cells #[.int .i64 0,.int .i64 1,.int .i64 1,.int .i64 0] 3)).heap[(H+2)+2]?=some (.cells #[.int .i64 0,.int .i64 1,.int .i64 1,.int .i64 0] 3)):=by
  have e:=HFA.out.1;refine Lib.hid ⟨((Beyond.alloc _ _).trans (Beyond.alloc _ _)).trans (Beyond.alloc _ _),?_,?_,?_⟩
  · rw[←e];exact al_old (al_old (al_new _ _))
  · rw[←e];refine al_old ?_;rw[zq2,if_pos (by rw[zq3])]
  · rw[←e,zq2,if_pos (by simp only[zq3])]
 rw[HFA.out.1];generalize (((vA.alloc (.cells #[.int .i64 2,.int .i64 0,.int .i64 0,.int .i64 0] 46)).alloc (.cells #[.slice (some ⟨(H+2),0,none⟩) 1 1,.slice (some ⟨H+1,0,none⟩) 2 2] 34)).alloc (.cells #[.int .i64 0,.int .i64 1,.int .i64 1,.int .i64 0] 3))=WA at HWA ⊢;refine at_call (by decide) hJ (s:=n) rfl rfl (f:=10) (args:=#[.slice (some ⟨H,0,none⟩) 2 2,.slice (some ⟨(H+2)+1,0,none⟩) 2 2,.slice (some ⟨(H+2)+1+1,0,none⟩) 4 4,.int .i64 99]) (λτ d=>?_) (λτ d=>?_) ?_
 · simp[go_sem,execOp,Act.eval,resolve,Deferred.ofValue,invoke,callFunc,Try.func10,Try.f10]
 · intro e he;simp[go_sem,execOp,Act.eval,resolve,Deferred.ofValue,invoke,callFunc,Try.func10,Try.f10,Sem.runT_eq]at he
 have b0A:=HWA.out.1.heap HFA.out.2.1;have b1A:=HWA.out.1.heap HFA.out.2.2.1;refine strplay_calls hFin (n:=n) (by omega) (RP:=λb=>if b=(H+2)\/b=H+1 then WA.heap[b]? else none) (ws:=[0,0]) (sched:=[0,1,1,0]) (wp:=some ⟨H,0,none⟩) (ops:=fxOps 2) (N:=2) rfl (by decide) (λ_=>⟨H,0,rfl,λi hi=>?_⟩) (λb o hb=>?_) (two_ops HWA.out.2.2.1 HWA.out.2.1 b1A) (by decide) (λ_=>⟨(H+2)+1+1,0,rfl,λj x hj=>?_⟩) ?_
 · have hi:i<2:=hi;rw[zq0 b0A];obtain rfl |rfl:i=0\/i=1:=by omega
   all_goals rfl
 · split at hb
   · exact hb
   · cases hb
 · rw[zq0 HWA.out.2.2.2,Nat.zero_add];have hlj:=(List.getElem?_eq_some_iff.1 hj).1;simp only[List.length_cons,List.length_nil]at hlj;obtain rfl |rfl |rfl |rfl:j=0\/j=1\/j=2\/j=3:=by omega
   all_goals(simp at hj;subst hj;rfl)
 intro abA ovA svA amA wpA hRA;rw[Frame.finish_at]
 walk_nrm
 obtain⟨opA,ocA,rfl,-,-⟩:=own_slice hRA.orow;obtain⟨spA,scA,rfl,-,-⟩:=own_slice hRA.srow;generalize (strT [0,0] (fxOps 2) 2 99 [0,1,1,0]).ord.length=olA at hRA ⊢;generalize (strT [0,0] (fxOps 2) 2 99 [0,1,1,0]).s.1.length=slA at hRA ⊢;have HRA:=Lib.hid hRA;clear hRA b0A b1A;generalize decide (0<leftN (strT [0,0] (fxOps 2) 2 99 [0,1,1,0]).ov 2)=stkA;refine at_piece (s:=n+2) (by decide) hJ (zq6 _) false (.inr rfl) 7 2 0 rfl rfl rfl (by rfl) ?_;intro τ d;simp only[List.drop_succ_cons,List.drop_zero,List.take_succ_cons,List.take_zero];have HSA:RowKit.Hid (PlayedR 2 WA (strT [0,0] (fxOps 2) 2 99 [0,1,1,0]) (strT [0,0] (fxOps 2) 2 99 [0,1,1,0]).s.1 abA (.slice opA olA ocA) (.slice spA slA scA) amA (re wpA τ d)):=Lib.hid (HRA.out.re τ d);generalize re wpA τ d=xA at HSA ⊢;clear HRA;go_wp2;simp only[contAt];refine hJ.ctl (s:=n+2) (λw=>stepG_region_end) ?_;have HTA:RowKit.Hid ((xA.alloc (.cells #[.slice (some ⟨abA,0,none⟩) 2 2,.slice opA olA ocA,.slice spA slA scA,.bool stkA] 31)).heap[xA.heap.size]?=some (.cells #[.slice (some ⟨abA,0,none⟩) 2 2,.slice opA olA ocA,.slice spA slA scA,.bool stkA] 31)/\Beyond xA (xA.alloc (.cells #[.slice (some ⟨abA,0,none⟩) 2 2,.slice opA olA ocA,.slice spA slA scA,.bool stkA] 31))/\(xA.alloc (.cells #[.slice (some ⟨abA,0,none⟩) 2 2,.slice opA olA ocA,.slice spA slA scA,.bool stkA] 31)).heap.size=xA.heap.size+1):=Lib.hid ⟨al_new _ _,Beyond.alloc _ _,zq3 _ _⟩;generalize (xA.alloc (.cells #[.slice (some ⟨abA,0,none⟩) 2 2,.slice opA olA ocA,.slice spA slA scA,.bool stkA] 31))=yA at HTA ⊢;obtain⟨tA,htA⟩:∃t,xA.heap.size=t:=⟨_,rfl⟩;rw[htA]at HTA ⊢;have HXA:=Lib.hid htA;clear htA;have HBA:RowKit.Hid (Beyond w yA):=Lib.hid (((((HB0.out.trans HFA.out.2.2.2.1).trans HWA.out.1).trans ⟨HSA.out.size,HSA.out.old⟩)).trans HTA.out.2.1);have HIB:RowKit.Hid (yA.heap.size=tA+1/\yA.heap[H]?=some (.cells #[.int .i64 0,.int .i64 0] 2)/\yA.heap[H+1]?=some (.cells #[.int .i64 1,.int .i64 0,.int .i64 1,.int .i64 0,.int .i64 1,.int .i64 1,.int .i64 1,.int .i64 0] 46)/\H+1<tA+1):=by
  have q:Beyond vA yA:=(HWA.out.1.trans ⟨HSA.out.size,HSA.out.old⟩).trans HTA.out.2.1;refine Lib.hid ⟨HTA.out.2.2,q.heap HFA.out.2.1,q.heap HFA.out.2.2.1,?_⟩;have h1:=heap_lt (q.heap HFA.out.2.2.1);have h2:=HTA.out.2.2;omega
 refine hJ.ctl (s:=n+2) (λw=>stepG_seq) ?_;obtain⟨u4,hu4⟩:∃c,headC (fxT 4)=c:=⟨_,rfl⟩;have eu4:=hu4;rw[hu4];simp only[fxT,headC,tailN,Try.f8,al_od]at eu4;subst eu4;clear hu4;refine hJ.ctl (s:=n+2) (λw=>stepG_region) ?_;refine at_piece (s:=n+2) (by decide) hJ (zq6 _) false (.inr rfl) 0 6 3 rfl rfl rfl (by rfl) ?_;intro τ d;simp only[List.drop_zero,List.take_succ_cons,List.take_zero];have HFB:RowKit.Hid ((re yA τ d).heap.size=(tA+1)/\(re yA τ d).heap[H]?=some (.cells #[.int .i64 0,.int .i64 0] 2)/\(re yA τ d).heap[H+1]?=some (.cells #[.int .i64 1,.int .i64 0,.int .i64 1,.int .i64 0,.int .i64 1,.int .i64 1,.int .i64 1,.int .i64 0] 46)/\Beyond yA (re yA τ d)/\H+1<(tA+1)):=Lib.hid ⟨HIB.out.1,HIB.out.2.1,HIB.out.2.2.1,Beyond.re _ _ _,HIB.out.2.2.2⟩;generalize re yA τ d=vB at HFB ⊢;go_wp2;simp only[contAt];have HWB:RowKit.Hid (Beyond vB (((vB.alloc (.cells #[.int .i64 5,.int .i64 0,.int .i64 0,.int .i64 0] 46)).alloc (.cells #[.slice (some ⟨(tA+1),0,none⟩) 1 1,.slice (some ⟨H+1,0,none⟩) 2 2] 34)).alloc (.cells #[.int .i64 0,.int .i64 1,.int .i64 1,.int .i64 0,.int .i64 0] 3))/\(((vB.alloc (.cells #[.int .i64 5,.int .i64 0,.int .i64 0,.int .i64 0] 46)).alloc (.cells #[.slice (some ⟨(tA+1),0,none⟩) 1 1,.slice (some ⟨H+1,0,none⟩) 2 2] 34)).alloc (.cells #[.int .i64 0,.int .i64 1,.int .i64 1,.int .i64 0,.int .i64 0] 3)).heap[(tA+1)]?=some (.cells #[.int .i64 5,.int .i64 0,.int .i64 0,.int .i64 0] 46)/\(((vB.alloc (.cells #[.int .i64 5,.int .i64 0,.int .i64 0,.int .i64 0] 46)).alloc (.cells #[.slice (some ⟨(tA+1),0,none⟩) 1 1,.slice (some ⟨H+1,0,none⟩) 2 2] 34)).alloc (.cells #[.int .i64 0,.int .i64 1,.int .i64 1,.int .i64 0,.int .i64 0] 3)).heap[(tA+1)+1]?=some (.cells #[.slice (some ⟨(tA+1),0,none⟩) 1 1,.slice (some ⟨H+1,0,none⟩) 2 2] 34)/\(((vB.alloc (.cells #[.int .i64 5,.int .i64 0,.int .i64 0,.int .i64 0] 46)).alloc (.cells #[.slice (some ⟨(tA+1),0,none⟩) 1 1,.slice (some ⟨H+1,0,none⟩) 2 2] 34)).alloc (.cells #[.int .i64 0,.int .i64 1,.int .i64 1,.int .i64 0,.int .i64 0] 3)).heap[(tA+1)+2]?=some (.cells #[.int .i64 0,.int .i64 1,.int .i64 1,.int .i64 0,.int .i64 0] 3)):=by
  have e:=HFB.out.1;refine Lib.hid ⟨((Beyond.alloc _ _).trans (Beyond.alloc _ _)).trans (Beyond.alloc _ _),?_,?_,?_⟩
  · rw[←e];exact al_old (al_old (al_new _ _))
  · rw[←e];refine al_old ?_;rw[zq2,if_pos (by rw[zq3])]
  · rw[←e,zq2,if_pos (by simp only[zq3])]
 rw[HFB.out.1];generalize (((vB.alloc (.cells #[.int .i64 5,.int .i64 0,.int .i64 0,.int .i64 0] 46)).alloc (.cells #[.slice (some ⟨(tA+1),0,none⟩) 1 1,.slice (some ⟨H+1,0,none⟩) 2 2] 34)).alloc (.cells #[.int .i64 0,.int .i64 1,.int .i64 1,.int .i64 0,.int .i64 0] 3))=WB at HWB ⊢;refine at_call (by decide) hJ (s:=n+2) rfl rfl (f:=10) (args:=#[.slice (some ⟨H,0,none⟩) 2 2,.slice (some ⟨(tA+1)+1,0,none⟩) 2 2,.slice (some ⟨(tA+1)+1+1,0,none⟩) 5 5,.int .i64 99]) (λτ d=>?_) (λτ d=>?_) ?_
 · simp[go_sem,execOp,Act.eval,resolve,Deferred.ofValue,invoke,callFunc,Try.func10,Try.f10]
 · intro e he;simp[go_sem,execOp,Act.eval,resolve,Deferred.ofValue,invoke,callFunc,Try.func10,Try.f10,Sem.runT_eq]at he
 have b0B:=HWB.out.1.heap HFB.out.2.1;have b1B:=HWB.out.1.heap HFB.out.2.2.1;refine strplay_calls hFin (n:=n+2) (by omega) (RP:=λb=>if b=(tA+1)\/b=H+1 then WB.heap[b]? else none) (ws:=[0,0]) (sched:=[0,1,1,0,0]) (wp:=some ⟨H,0,none⟩) (ops:=fxOps 5) (N:=2) rfl (by decide) (λ_=>⟨H,0,rfl,λi hi=>?_⟩) (λb o hb=>?_) (two_ops HWB.out.2.2.1 HWB.out.2.1 b1B) (by decide) (λ_=>⟨(tA+1)+1+1,0,rfl,λj x hj=>?_⟩) ?_
 · have hi:i<2:=hi;rw[zq0 b0B];obtain rfl |rfl:i=0\/i=1:=by omega
   all_goals rfl
 · split at hb
   · exact hb
   · cases hb
 · rw[zq0 HWB.out.2.2.2,Nat.zero_add];have hlj:=(List.getElem?_eq_some_iff.1 hj).1;simp only[List.length_cons,List.length_nil]at hlj;obtain rfl |rfl |rfl |rfl |rfl:j=0\/j=1\/j=2\/j=3\/j=4:=by omega
   all_goals(simp at hj;subst hj;rfl)
 intro abB ovB svB amB wpB hRB;rw[Frame.finish_at]
 walk_nrm
 obtain⟨opB,ocB,rfl,-,-⟩:=own_slice hRB.orow;obtain⟨spB,scB,rfl,-,-⟩:=own_slice hRB.srow;generalize (strT [0,0] (fxOps 5) 2 99 [0,1,1,0,0]).ord.length=olB at hRB ⊢;generalize (strT [0,0] (fxOps 5) 2 99 [0,1,1,0,0]).s.1.length=slB at hRB ⊢;have HRB:=Lib.hid hRB;clear hRB b0B b1B;generalize decide (0<leftN (strT [0,0] (fxOps 5) 2 99 [0,1,1,0,0]).ov 2)=stkB;refine at_piece (s:=n+2+2) (by decide) hJ (zq6 _) false (.inr rfl) 7 2 0 rfl rfl rfl (by rfl) ?_;intro τ d;simp only[List.drop_succ_cons,List.drop_zero,List.take_succ_cons,List.take_zero];have HSB:RowKit.Hid (PlayedR 2 WB (strT [0,0] (fxOps 5) 2 99 [0,1,1,0,0]) (strT [0,0] (fxOps 5) 2 99 [0,1,1,0,0]).s.1 abB (.slice opB olB ocB) (.slice spB slB scB) amB (re wpB τ d)):=Lib.hid (HRB.out.re τ d);generalize re wpB τ d=xB at HSB ⊢;clear HRB;go_wp2;simp only[contAt];refine hJ.ctl (s:=n+2+2) (λw=>stepG_region_end) ?_;have HTB:RowKit.Hid ((xB.alloc (.cells #[.slice (some ⟨abB,0,none⟩) 2 2,.slice opB olB ocB,.slice spB slB scB,.bool stkB] 31)).heap[xB.heap.size]?=some (.cells #[.slice (some ⟨abB,0,none⟩) 2 2,.slice opB olB ocB,.slice spB slB scB,.bool stkB] 31)/\Beyond xB (xB.alloc (.cells #[.slice (some ⟨abB,0,none⟩) 2 2,.slice opB olB ocB,.slice spB slB scB,.bool stkB] 31))/\(xB.alloc (.cells #[.slice (some ⟨abB,0,none⟩) 2 2,.slice opB olB ocB,.slice spB slB scB,.bool stkB] 31)).heap.size=xB.heap.size+1):=Lib.hid ⟨al_new _ _,Beyond.alloc _ _,zq3 _ _⟩;generalize (xB.alloc (.cells #[.slice (some ⟨abB,0,none⟩) 2 2,.slice opB olB ocB,.slice spB slB scB,.bool stkB] 31))=yB at HTB ⊢;obtain⟨tB,htB⟩:∃t,xB.heap.size=t:=⟨_,rfl⟩;rw[htB]at HTB ⊢;have HXB:=Lib.hid htB;clear htB;have HBB:RowKit.Hid (Beyond w yB):=Lib.hid ((((HBA.out.trans HFB.out.2.2.2.1).trans HWB.out.1).trans ⟨HSB.out.size,HSB.out.old⟩).trans HTB.out.2.1);have HQ:RowKit.Hid (Beyond xA yB/\yB.heap[tA]?=some (.cells #[.slice (some ⟨abA,0,none⟩) 2 2,.slice opA olA ocA,.slice spA slA scA,.bool stkA] 31)/\Beyond xB yB/\yB.heap[tB]?=some (.cells #[.slice (some ⟨abB,0,none⟩) 2 2,.slice opB olB ocB,.slice spB slB scB,.bool stkB] 31)):=by
  have q:Beyond yA yB:=((HFB.out.2.2.2.1.trans HWB.out.1).trans ⟨HSB.out.size,HSB.out.old⟩).trans HTB.out.2.1;exact Lib.hid ⟨HTA.out.2.1.trans q,q.heap HTA.out.1,HTB.out.2.1,HTB.out.1⟩
 have HBy:RowKit.Hid (Beyond w yB):=Lib.hid HBB.out;have qA:Beyond xA yB:=HQ.out.1;have qB:Beyond xB yB:=HQ.out.2.2.1;have hA1:=ansRep_at HSA.out.ans (i:=0) (by decide);have hB1:=ansRep_at HSB.out.ans (i:=0) (by decide);rw[HSA.out.ast,fx_sum]at hA1;rw[HSB.out.ast,fx_even]at hB1;obtain⟨a1,pa,ca,a2,a3⟩:=hA1;obtain⟨b1,pb,cb,b2,b3⟩:=hB1;obtain⟨ga,oa,rfl,a4⟩:=a3 (by simp);obtain⟨gb,ob',rfl,b4⟩:=b3 (by simp);obtain⟨a5,a6,_⟩:=a4 0 _ rfl;obtain⟨b5,b6,_⟩:=b4 0 _ rfl;rw[a2]at a1;rw[b2]at b1;have tA0:=(zq0 (off:=0) HQ.out.2.1).trans rfl;have tB0:=(zq0 (off:=0) HQ.out.2.2.2).trans rfl;replace a1:=qA.cell a1;replace a5:=qA.cell a5;replace a6:=qA.cell a6;replace b1:=qB.cell b1;replace b5:=qB.cell b5;replace b6:=qB.cell b6;simp only[List.length_cons,List.length_nil,Nat.zero_add,Nat.zero_mul,Nat.add_zero]at a1 b1 a5 a6 b5 b6;clear qA qB a2 b2 a3 b3 a4 b4 HQ HBB HSA HSB HTA HTB HXA HXB HFA HFB HWA HWB HIA HIB HBA HB0;rw[show fxT 5=.seq (headC (fxT 5)) (.seq (headC (fxT 6)) (.seq (headC (fxT 7)) (fxT 8)))by kernel_rfl];refine hJ.ctl (s:=n+2+2) (λw=>stepG_seq) ?_;have FA:=Lib.hid (And.intro a1 (And.intro a5 (And.intro a6 (And.intro b1 (And.intro b5 (And.intro b6 (And.intro tA0 tB0)))))));clear a1 a5 a6 b1 b5 b6 tA0 tB0;refine at_lone hJ hC plainM (by kernel_rfl) (λt w'=>t=#[.bool false,.slice (some ⟨H,0,none⟩) 2 2,.slice (some ⟨H+1,0,none⟩) 2 2,.pointer (some ⟨tA,0,none⟩),.pointer (some ⟨tB,0,none⟩),undef,.slice (some ⟨H,0,none⟩) 2 2,.agg #[.int .i64 1,.int .i64 0,.int .i64 1,.int .i64 0],.agg #[.int .i64 1,.int .i64 1,.int .i64 1,.int .i64 0],.slice (some ⟨H+1,0,none⟩) 2 2,.slice (some ⟨H,0,none⟩) 2 2,.agg #[.int .i64 2,.int .i64 0,.int .i64 0,.int .i64 0],.slice (some ⟨(H+2),0,none⟩) 1 1,.slice (some ⟨H+1,0,none⟩) 2 2,.slice (some ⟨(H+2)+1,0,none⟩) 2 2,.slice (some ⟨(H+2)+1+1,0,none⟩) 4 4,.agg #[.slice (some ⟨abA,0,none⟩) 2 2,.slice opA olA ocA,.slice spA slA scA,.bool stkA],.slice (some ⟨H,0,none⟩) 2 2,.agg #[.int .i64 5,.int .i64 0,.int .i64 0,.int .i64 0],.slice (some ⟨(tA+1),0,none⟩) 1 1,.slice (some ⟨H+1,0,none⟩) 2 2,.slice (some ⟨(tA+1)+1,0,none⟩) 2 2,.slice (some ⟨(tA+1)+1+1,0,none⟩) 5 5,.agg #[.slice (some ⟨abB,0,none⟩) 2 2,.slice opB olB ocB,.slice spB slB scB,.bool stkB],.pointer (some ⟨tA,0,none⟩),.slice (some ⟨abA,0,none⟩) 2 2,.int .i64 2,.bool false,.bool false,.pointer (some ⟨tA,0,none⟩),.slice (some ⟨abA,0,none⟩) 2 2,.pointer (some ⟨abA,0,none⟩),.slice (some ⟨ga,oa,none⟩) 1 ca,.int .i64 1,.bool false,.bool false,.bool false,.pointer (some ⟨tA,0,none⟩),.slice (some ⟨abA,0,none⟩) 2 2,.pointer (some ⟨abA,0,none⟩),.slice (some ⟨ga,oa,none⟩) 1 ca,.pointer (some ⟨ga,oa,none⟩),.pointer (some ⟨ga,oa+1,none⟩),.int .i64 1,.bool false,.bool false,.bool false,.pointer (some ⟨tB,0,none⟩),.slice (some ⟨abB,0,none⟩) 2 2,.int .i64 2,.bool false,.bool false,.bool false,.pointer (some ⟨tB,0,none⟩),.slice (some ⟨abB,0,none⟩) 2 2,.pointer (some ⟨abB,0,none⟩),.slice (some ⟨gb,ob',none⟩) 1 cb,.int .i64 1,.bool false,.bool false,.bool false,.pointer (some ⟨tB,0,none⟩),.slice (some ⟨abB,0,none⟩) 2 2,.pointer (some ⟨abB,0,none⟩),.slice (some ⟨gb,ob',none⟩) 1 cb,.pointer (some ⟨gb,ob',none⟩),.pointer (some ⟨gb,ob',none⟩),.bool false,.bool false,.bool false,.pointer (some ⟨tB,0,none⟩),.slice (some ⟨abB,0,none⟩) 2 2,.pointer (some ⟨abB,0,none⟩),.slice (some ⟨gb,ob',none⟩) 1 cb,.pointer (some ⟨gb,ob',none⟩),.pointer (some ⟨gb,ob'+1,none⟩),.int .i64 0,.bool false,.bool false,undef,undef,undef,undef,undef,undef,undef,undef,undef,undef,undef,undef,undef,undef,undef,undef,undef,undef,undef,undef,undef,undef,undef,undef,undef,undef,undef,undef]/\∃τ d,w'=re yB τ d) (λt w' τ d h=>⟨h.1,by obtain⟨τ',d',rfl⟩:=h.2;exact⟨τ,d,by rw[re_re]⟩⟩) (by decide) (λτ d=>?_) ?_
 · obtain⟨u0,hu0⟩:∃c,headC (fxT 5)=c:=⟨_,rfl⟩;have eu0:=hu0;rw[hu0];simp only[fxT,headC,tailN,Try.f8,al_od]at eu0;subst eu0;clear hu0 hm;obtain⟨a1,a5,a6,b1,b5,b6,tA0,tB0⟩:=FA.out;have HRE:RowKit.Hid (∃τ' d',re yB τ d=re yB τ' d'):=Lib.hid ⟨τ,d,rfl⟩;have hcl:∀a,(re yB τ d).cell? a=yB.cell? a:=λa=>rfl;rw[←hcl]at a1 a5 a6 b1 b5 b6 tA0 tB0;clear hcl FA;generalize re yB τ d=z0 at HRE a1 a5 a6 b1 b5 b6 tA0 tB0 ⊢;go_wp2;exact⟨rfl,rfl,HRE.out⟩
 rintro t w' ⟨rfl,τ,d,rfl⟩;refine hJ.re' (n+2+2) _ _ τ d ?_;clear FA;obtain⟨K,hK⟩:∃K,yB.heap.size=K:=⟨_,rfl⟩;have HK:=Lib.hid hK;clear hK;refine hJ.ctl (s:=n+2+2) (λw=>stepG_seq) ?_;refine at_lone hJ hC plainM (by kernel_rfl) (λt w'=>t=#[.bool false,.slice (some ⟨H,0,none⟩) 2 2,.slice (some ⟨H+1,0,none⟩) 2 2,.pointer (some ⟨tA,0,none⟩),.pointer (some ⟨tB,0,none⟩),.pointer (some ⟨K+1,0,none⟩),.slice (some ⟨H,0,none⟩) 2 2,.agg #[.int .i64 1,.int .i64 0,.int .i64 1,.int .i64 0],.agg #[.int .i64 1,.int .i64 1,.int .i64 1,.int .i64 0],.slice (some ⟨H+1,0,none⟩) 2 2,.slice (some ⟨H,0,none⟩) 2 2,.agg #[.int .i64 2,.int .i64 0,.int .i64 0,.int .i64 0],.slice (some ⟨(H+2),0,none⟩) 1 1,.slice (some ⟨H+1,0,none⟩) 2 2,.slice (some ⟨(H+2)+1,0,none⟩) 2 2,.slice (some ⟨(H+2)+1+1,0,none⟩) 4 4,.agg #[.slice (some ⟨abA,0,none⟩) 2 2,.slice opA olA ocA,.slice spA slA scA,.bool stkA],.slice (some ⟨H,0,none⟩) 2 2,.agg #[.int .i64 5,.int .i64 0,.int .i64 0,.int .i64 0],.slice (some ⟨(tA+1),0,none⟩) 1 1,.slice (some ⟨H+1,0,none⟩) 2 2,.slice (some ⟨(tA+1)+1,0,none⟩) 2 2,.slice (some ⟨(tA+1)+1+1,0,none⟩) 5 5,.agg #[.slice (some ⟨abB,0,none⟩) 2 2,.slice opB olB ocB,.slice spB slB scB,.bool stkB],.pointer (some ⟨tA,0,none⟩),.slice (some ⟨abA,0,none⟩) 2 2,.int .i64 2,.bool false,.bool false,.pointer (some ⟨tA,0,none⟩),.slice (some ⟨abA,0,none⟩) 2 2,.pointer (some ⟨abA,0,none⟩),.slice (some ⟨ga,oa,none⟩) 1 ca,.int .i64 1,.bool false,.bool false,.bool false,.pointer (some ⟨tA,0,none⟩),.slice (some ⟨abA,0,none⟩) 2 2,.pointer (some ⟨abA,0,none⟩),.slice (some ⟨ga,oa,none⟩) 1 ca,.pointer (some ⟨ga,oa,none⟩),.pointer (some ⟨ga,oa+1,none⟩),.int .i64 1,.bool false,.bool false,.bool false,.pointer (some ⟨tB,0,none⟩),.slice (some ⟨abB,0,none⟩) 2 2,.int .i64 2,.bool false,.bool false,.bool false,.pointer (some ⟨tB,0,none⟩),.slice (some ⟨abB,0,none⟩) 2 2,.pointer (some ⟨abB,0,none⟩),.slice (some ⟨gb,ob',none⟩) 1 cb,.int .i64 1,.bool false,.bool false,.bool false,.pointer (some ⟨tB,0,none⟩),.slice (some ⟨abB,0,none⟩) 2 2,.pointer (some ⟨abB,0,none⟩),.slice (some ⟨gb,ob',none⟩) 1 cb,.pointer (some ⟨gb,ob',none⟩),.pointer (some ⟨gb,ob',none⟩),.bool false,.bool false,.bool false,.pointer (some ⟨tB,0,none⟩),.slice (some ⟨abB,0,none⟩) 2 2,.pointer (some ⟨abB,0,none⟩),.slice (some ⟨gb,ob',none⟩) 1 cb,.pointer (some ⟨gb,ob',none⟩),.pointer (some ⟨gb,ob'+1,none⟩),.int .i64 0,.bool false,.bool false,.pointer (some ⟨K+1,0,none⟩),undef,undef,undef,undef,undef,undef,undef,undef,undef,undef,undef,undef,undef,undef,undef,undef,undef,undef,undef,undef,undef,undef,undef,undef,undef,undef,undef]/\NewStr yB 2 [0,0] w') (λt w' τ d h=>⟨h.1,h.2.re τ d⟩) (by decide) (λτ d=>?_) ?_
 · obtain⟨u0,hu0⟩:∃c,headC (fxT 6)=c:=⟨_,rfl⟩;have eu0:=hu0;rw[hu0];simp only[fxT,headC,tailN,Try.f8,al_od]at eu0;subst eu0;clear hu0 hm;have HN:=Lib.hid (new_lone 2 (re yB τ d));have hs0:(re yB τ d).heap.size=K:=HK.out;have HS0:=Lib.hid hs0;clear hs0
   go_wp2_with (fail)
   refine Calls.mono HN.out ?_;rintro e w' ⟨rfl,hR⟩;have hR2:RowKit.Hid (NewStr yB 2 [0,0] w'):=Lib.hid ⟨hR.rep,hR.size,hR.old⟩;clear hR;rw[HS0.out];go_wp2;exact⟨rfl,rfl,hR2.out⟩
 rintro t c0 ⟨rfl,hR⟩;have hrep:=hR.rep;rw[HK.out]at hrep;have HB1:RowKit.Hid (Beyond w c0):=Lib.hid (HBy.out.trans ⟨by have:=hR.size;omega,hR.old⟩);have HC0:RowKit.Hid (StrRep (K+1) (some K) 2 [0,0] c0):=Lib.hid hrep;have HBw:=HBy;clear hR hrep HBy;refine hJ.ctl (s:=n+2+2) (λw=>stepG_seq) ?_;obtain⟨u7,hu7⟩:∃c,headC (fxT 7)=c:=⟨_,rfl⟩;have eu7:=hu7;rw[hu7];simp only[fxT,headC,tailN,Try.f8,al_od]at eu7;subst eu7;clear hu7;refine hJ.ctl (s:=n+2+2) (λw=>stepG_region) ?_;have HKW:RowKit.Hid (w.heap.size<=K):=Lib.hid (by have h1:=HBw.out.1;have h2:=HK.out;omega);refine at_piece (s:=n+2+2) (by decide) hJ (zq6 _) false (.inr rfl) 0 4 24 rfl rfl rfl (by rfl) ?_;intro τ d;simp only[List.drop_succ_cons,List.drop_zero,List.take_succ_cons,List.take_zero];go_wp2;simp only[contAt];refine hJ.re' (n+2+2) _ _ τ d ?_;refine at_call (by decide) hJ (s:=n+2+2) rfl rfl (f:=21) (args:=#[.pointer (some ⟨K+1,0,none⟩),.nilIface,.int .i64 0,.int .i64 5]) (λτ d=>?_) (λτ d=>?_) ?_
 · simp[go_sem,execOp,Act.eval,resolve,Deferred.ofValue,invoke,callFunc,Try.func21,Try.f21]
 · intro e he;simp[go_sem,execOp,Act.eval,resolve,Deferred.ofValue,invoke,callFunc,Try.func21,Try.f21,Sem.runT_eq]at he
 refine str_nilJ hFin (p:=addP 2 0 5) (l:=[0,0]) (l':=[5,0]) (a:=5) (λY hst=>(add_spec Y hst 0 5).spec) (by kernel_rfl) (by kernel_rfl) HC0.out ?_;intro c1 hA;have HC1:=Lib.hid hA.rep;have HB2:RowKit.Hid (Beyond w c1):=Lib.hid ⟨Nat.le_trans HB1.out.1 hA.size,λb hb=>(hA.old b (Nat.lt_of_lt_of_le hb HB1.out.1) (by have h1:=HKW.out;omega) (λe=>by have h1:=HKW.out;injection e with e;omega)).trans (HB1.out.2 b hb)⟩;clear hA;rw[Frame.finish_at]
 walk_nrm
 refine at_piece (s:=n+2+2) (by decide) hJ (zq6 _) false (.inr rfl) 5 4 19 rfl rfl rfl (by rfl) ?_;intro τ d;simp only[List.drop_succ_cons,List.drop_zero,List.take_succ_cons,List.take_zero];go_wp2;simp only[contAt];refine hJ.re' (n+2+2) _ _ τ d ?_;refine at_call (by decide) hJ (s:=n+2+2) rfl rfl (f:=21) (args:=#[.pointer (some ⟨K+1,0,none⟩),.nilIface,.int .i64 3,.int .i64 7]) (λτ d=>?_) (λτ d=>?_) ?_
 · simp[go_sem,execOp,Act.eval,resolve,Deferred.ofValue,invoke,callFunc,Try.func21,Try.f21]
 · intro e he;simp[go_sem,execOp,Act.eval,resolve,Deferred.ofValue,invoke,callFunc,Try.func21,Try.f21,Sem.runT_eq]at he
 refine str_nilJ hFin (p:=addP 2 3 7) (l:=[5,0]) (l':=[5,7]) (a:=7) (λY hst=>(add_spec Y hst 3 7).spec) (by kernel_rfl) (by kernel_rfl) HC1.out ?_;intro c2 hA;have HC2:=Lib.hid hA.rep;have HB3:RowKit.Hid (Beyond w c2):=Lib.hid ⟨Nat.le_trans HB2.out.1 hA.size,λb hb=>(hA.old b (Nat.lt_of_lt_of_le hb HB2.out.1) (by have h1:=HKW.out;omega) (λe=>by have h1:=HKW.out;injection e with e;omega)).trans (HB2.out.2 b hb)⟩;clear hA;rw[Frame.finish_at]
 walk_nrm
 refine at_piece (s:=n+2+2) (by decide) hJ (zq6 _) false (.inr rfl) 10 4 14 rfl rfl rfl (by rfl) ?_;intro τ d;simp only[List.drop_succ_cons,List.drop_zero,List.take_succ_cons,List.take_zero];go_wp2;simp only[contAt];refine hJ.re' (n+2+2) _ _ τ d ?_;refine at_call (by decide) hJ (s:=n+2+2) rfl rfl (f:=18) (args:=#[.pointer (some ⟨K+1,0,none⟩)]) (λτ d=>?_) (λτ d=>?_) ?_
 · simp[go_sem,execOp,Act.eval,resolve,Deferred.ofValue,invoke,callFunc,Try.func18,Try.f18]
 · intro e he;simp[go_sem,execOp,Act.eval,resolve,Deferred.ofValue,invoke,callFunc,Try.func18,Try.f18,Sem.runT_eq]at he
 refine at_calls_lone hJ hC plainM Try.func18 rfl (by kernel_rfl) (R:=λv w'=>v=.int .i64 12/\Beyond c2 w') (λv w' τ d h=>⟨h.1,h.2.trans (Beyond.re _ _ _)⟩) (λτ d=>Calls.mono (total_lone ((strCore _ _ _).frame _ _ _ HC2.out λ_ _=>rfl)) ?_) ?_
 · rintro e w' ⟨rfl,h1,h2⟩;exact⟨_,rfl,by rw[show totalL [5,7]=12 by kernel_rfl],h1,h2⟩
 rintro _ c3 ⟨rfl,hA⟩;have HC3:RowKit.Hid (StrRep (K+1) (some K) 2 [5,7] c3):=Lib.hid ((strCore _ _ _).frame _ _ _ HC2.out λb hb=>hA.2 b ((strCore _ _ _).lt _ _ _ HC2.out hb));have HB4:RowKit.Hid (Beyond w c3):=Lib.hid (HB3.out.trans hA);clear hA;rw[Frame.finish_at]
 walk_nrm
 refine at_piece (s:=n+2+2) (by decide) hJ (zq6 _) false (.inr rfl) 15 4 9 rfl rfl rfl (by rfl) ?_;intro τ d;simp only[List.drop_succ_cons,List.drop_zero,List.take_succ_cons,List.take_zero];go_wp2;simp only[contAt];refine hJ.re' (n+2+2) _ _ τ d ?_;refine at_call (by decide) hJ (s:=n+2+2) rfl rfl (f:=23) (args:=#[.pointer (some ⟨K+1,0,none⟩),.nilIface]) (λτ d=>?_) (λτ d=>?_) ?_
 · simp[go_sem,execOp,Act.eval,resolve,Deferred.ofValue,invoke,callFunc,Try.func23,Try.f23]
 · intro e he;simp[go_sem,execOp,Act.eval,resolve,Deferred.ofValue,invoke,callFunc,Try.func23,Try.f23,Sem.runT_eq]at he
 refine str_nilJ hFin (p:=takeP 2) (l:=[5,7]) (l':=[0,0]) (a:=12) (λY hst=>(take_spec Y hst).spec) (by kernel_rfl) (by kernel_rfl) HC3.out ?_;intro c4 hA;have HC4:=Lib.hid hA.rep;have HB5:RowKit.Hid (Beyond w c4):=Lib.hid ⟨Nat.le_trans HB4.out.1 hA.size,λb hb=>(hA.old b (Nat.lt_of_lt_of_le hb HB4.out.1) (by have h1:=HKW.out;omega) (λe=>by have h1:=HKW.out;injection e with e;omega)).trans (HB4.out.2 b hb)⟩;clear hA;rw[Frame.finish_at]
 walk_nrm
 refine at_piece (s:=n+2+2) (by decide) hJ (zq6 _) false (.inr rfl) 20 4 4 rfl rfl rfl (by rfl) ?_;intro τ d;simp only[List.drop_succ_cons,List.drop_zero,List.take_succ_cons,List.take_zero];go_wp2;simp only[contAt];refine hJ.re' (n+2+2) _ _ τ d ?_;refine at_call (by decide) hJ (s:=n+2+2) rfl rfl (f:=18) (args:=#[.pointer (some ⟨K+1,0,none⟩)]) (λτ d=>?_) (λτ d=>?_) ?_
 · simp[go_sem,execOp,Act.eval,resolve,Deferred.ofValue,invoke,callFunc,Try.func18,Try.f18]
 · intro e he;simp[go_sem,execOp,Act.eval,resolve,Deferred.ofValue,invoke,callFunc,Try.func18,Try.f18,Sem.runT_eq]at he
 refine at_calls_lone hJ hC plainM Try.func18 rfl (by kernel_rfl) (R:=λv w'=>v=.int .i64 0/\Beyond c4 w') (λv w' τ d h=>⟨h.1,h.2.trans (Beyond.re _ _ _)⟩) (λτ d=>Calls.mono (total_lone ((strCore _ _ _).frame _ _ _ HC4.out λ_ _=>rfl)) ?_) ?_
 · rintro e w' ⟨rfl,h1,h2⟩;exact⟨_,rfl,by rw[show totalL [0,0]=0 by kernel_rfl],h1,h2⟩
 rintro _ c5 ⟨rfl,hA⟩;have HC5:RowKit.Hid (StrRep (K+1) (some K) 2 [0,0] c5):=Lib.hid ((strCore _ _ _).frame _ _ _ HC4.out λb hb=>hA.2 b ((strCore _ _ _).lt _ _ _ HC4.out hb));have HB6:RowKit.Hid (Beyond w c5):=Lib.hid (HB5.out.trans hA);clear hA;rw[Frame.finish_at]
 walk_nrm
 refine at_piece (s:=n+2+2) (by decide) hJ (zq6 _) false (.inr rfl) 25 3 0 rfl rfl rfl (by rfl) ?_;intro τ d;simp only[List.drop_succ_cons,List.drop_zero,List.take_succ_cons,List.take_zero];go_wp2;simp only[contAt];refine hJ.re' (n+2+2) _ _ τ d ?_;refine hJ.ctl (s:=n+2+2) (λw=>stepG_region_end) ?_;refine at_rest_lone hJ hC plainM (by kernel_rfl) (λv w'=>v=.bool true/\Beyond w w') (λv w' τ d h=>⟨h.1,h.2.trans (Beyond.re _ _ _)⟩) rfl Try.func8 (λτ d=>?_) ?_
 · obtain⟨u0,hu0⟩:∃c,fxT 8=c:=⟨_,rfl⟩;have eu0:=hu0;rw[hu0];simp only[fxT,headC,tailN,Try.f8,al_od]at eu0;subst eu0;clear hu0 hm;go_wp2;go_ret;exact⟨_,rfl,rfl,HB6.out.trans (Beyond.re _ _ _)⟩
 · rintro v w' ⟨rfl,h⟩;exact hm.out w' h
end Go.Proofs
set_option maxHeartbeats 1000000
namespace Go.Car
open Go Go.Conc Go.RowKit
theorem hao (w : World) (o : Obj) (b : Nat) (h : b < w.heap.size) : (w.alloc o).heap[b]? = w.heap[b]? := by first | exact heap_alloc_old w o b h | exact heap_alloc_old w o h
structure Wr(X:Nat->Prop)(w w':World):Prop where
 size:w.heap.size<=w'.heap.size
 shp:∀(b:Nat)(c:Array Value)(T:TypeId),w.heap[b]?=some (.cells c T)->∃c',w'.heap[b]?=some (.cells c' T)/\c'.size=c.size
 old:∀b,b<w.heap.size->¬X b->w'.heap[b]?=w.heap[b]?
section
variable {X:Nat->Prop} {w w' w'':World}
theorem Wr.refl (X:Nat->Prop)(w:World):Wr X w w:=⟨Nat.le_refl _,λb c T h=>⟨c,h,rfl⟩,λ_ _ _=>rfl⟩
end
section
variable {P:Program}
theorem app_wr(w:World)(t ty e:TypeId)(i:TypeInfo)(z:Value)(size bytes:Nat)(ht:P.underlying t=some (.slice e))(hi:P.info? e=some i)(hz:i.zero=some z)(hsize:i.size=size)(hby:i.bytes=bytes)(hzs:z.cells.size=size)(hsz:0<size)
 {v:Value} {n:Nat} {xs:List Value} {B:Nat} (hown:w.ownsRow B e size v n xs) (hB:B<=w.heap.size) (pa:Option Addr) (m c:Nat) (news:List Value) (hl:news.length=m*size) (hnews:0<m->∃a,pa=some a/\∀j u,news[j]?=some u->w.cell? (a.add j)=some u) (h1:∀u∈news,u.oneCell'=true)
 (h63:n+m<=maxLen) (hbytes:(n+m)*bytes<=140737488355328):
 ∃v' w',(Builtin.append_ #[t,t] ty #[v,.slice pa m c]).run P w=.ok v' w'/\w'.ownsRow B e size v' (n+m) (xs++news)/\Wr (λb=>v.ownBlock=some b) w w'/\(v'.ownBlock=v.ownBlock\/v'.ownBlock=some w.heap.size)/\
  (∀g o,v.ownBlock=some g->o<n*size->w'.cell? ⟨g,o,none⟩=w.cell? ⟨g,o,none⟩)/\(m=0->w'=w/\v'=v):=by
 subst hsize;subst hby
 have hsmall:n+m<=9223372036854775807:=by simp only[maxLen]at h63;omega
 by_cases hm:m=0
 · subst hm;have hn:news=[]:=List.eq_nil_of_length_eq_zero (by simpa using hl);subst hn;refine⟨v,w,?_,by simpa using hown,Wr.refl _ _,.inl rfl,λ_ _ _ _=>rfl,λ_=>⟨rfl,rfl⟩⟩;rcases hown.2 with⟨rfl,rfl⟩|⟨g,cap,cur,rfl,hbg,hg,hnc,hcm,hcs,htake⟩
   · cases pa<;>simp[Builtin.append_,run_underlying ht,sizeOf,typeInfo,hi,Builtin.lenOf,Builtin.firstCells,loadCells,loadCellsFrom,storeCells]
   · cases pa<;>simp[Builtin.append_,run_underlying ht,sizeOf,typeInfo,hi,Builtin.lenOf,Builtin.firstCells,loadCells,loadCellsFrom,storeCells,hnc]
 · obtain⟨a,rfl,hnw⟩:=hnews (Nat.pos_of_ne_zero hm);clear hnews;rcases hown.2 with⟨rfl,rfl⟩|⟨g,cap,cur,rfl,hbg,hg,hnc,hcm,hcs,htake⟩
   · obtain⟨g,cap,w',hr,h2,h3,h4,_⟩:=run_append_lies (P:=P) w t ty B e i z i.size i.bytes ht hi hz rfl rfl hzs hsz _ 0 xs hown a m c news hl hnw h1 (Nat.pos_of_ne_zero hm) h63 hbytes hB _ rfl;have same:∀b,b<w.heap.size->w'.heap[b]?=w.heap[b]?:=λb hb=>h3.block b hb (by simp[Value.ownBlock]);refine⟨_,_,hr,h2,⟨h3.size,λb c T hb=>⟨c,(same b (zq4 hb)).trans hb,rfl⟩,λb hb _=>same b hb⟩,?_,λg o h=>(by simp[Value.ownBlock]at h),λh=>absurd h hm⟩;rcases h4 with h|h
     · simp[Value.ownBlock]at h
     · exact .inr (by simp[Value.ownBlock,h])
   · have hlen:(xs++news).length=(n+m)*i.size:=by rw[List.length_append,hown.1,hl,Nat.add_mul]
     by_cases hroom:n+m<=cap
     · have hfit:n*i.size+news.length<=cur.size:=by rw[hl,hcs,←Nat.add_mul];exact Nat.mul_le_mul_right _ hroom
       have hr:=run_append_room (P:=P) w t ty e i ht hi g n cap cur hg a m c news hl hnw h1 hroom hfit;have hsz2:(cur.toList.take (n*i.size)++news++cur.toList.drop (n*i.size+news.length)).toArray.size=cur.size:=by
        simp only[List.size_toArray,List.length_append,List.length_take,List.length_drop,Array.length_toList];omega
       have hh:=setRow_heap w g cur (cur.toList.take (n*i.size)++news++cur.toList.drop (n*i.size+news.length)).toArray e (0,0) hg;refine⟨_,_,hr,⟨hlen,.inr ⟨g,cap,_,rfl,hbg,hh,hroom,hcm,by rw[hsz2,hcs],?_⟩⟩,⟨by simp,λb c T hb=>?_,λb _ hx=>setRow_other w g b _ (λe=>hx (by simp[Value.ownBlock,e]))⟩,.inl rfl,λg2 o h ho=>?_,λh=>absurd h hm⟩
       · rw[htake,←hlen];exact List.take_left
       · by_cases e2:b=g
         · subst e2;have:=hg.symm.trans hb;simp only[al_oi,Obj.cells.injEq]at this;obtain⟨rfl,rfl,-⟩:=this;exact⟨_,hh,hsz2⟩
         · exact⟨c,(setRow_other w g b _ e2).trans hb,rfl⟩
       · simp only[Value.ownBlock,al_oi]at h;subst h;rw[zq0 hg];rw[zq0 hh,al_gl,List.append_assoc,List.getElem?_append_left (by rw[List.length_take,Array.length_toList];omega),List.getElem?_take,if_pos ho,Array.getElem?_toList]
     · have holds:∀j u,xs[j]?=some u->w.cell? ((⟨g,0,none⟩:Addr).add j)=some u:=hown.cells (g:=g) rfl;have hr:=run_append_grow (P:=P) w t ty e i z ht hi hz ⟨g,0,none⟩ n cap xs hown.1 holds a m c news hl hnw (by omega) (by omega) (growslice_fits (by omega) hbytes);have hge:=grownCap_ge w (n+m) cap e;have hcm':grownCap w (n+m) cap e<=maxLen:=grownCap_le_maxLen w (n+m) cap e h63;refine⟨_,_,hr,⟨hlen,.inr ⟨w.heap.size,_,_,rfl,hB,heap_alloc_new w.drew _,hge,hcm',?_,?_⟩⟩,⟨by simp,λb c T hb=>⟨c,(hao w.drew _ b (zq4 hb)).trans hb,rfl⟩,λb hb _=>hao w.drew _ b hb⟩,.inr rfl,λg2 o h _=>?_,λh=>absurd h hm⟩
       · simp only[Array.size_append,List.size_toArray,size_zeroCells,hzs,hown.1,hl,←Nat.add_mul];congr 1;omega
       · simp only[Array.toList_append,List.append_assoc];rw[←List.append_assoc,←hlen];exact List.take_left
       · simp only[Value.ownBlock,al_oi]at h;subst h;exact cell_of_same (hao w.drew _ g (zq4 hg))
theorem wpList_arun{ops:Array Oper}{rest:List Oper}{o:Oper}{a:Act}{Q:Exit->Act->World->Prop}{w w':World}{v:Value}(hgd:o.guard=none)(s x:Operand)(t:TypeId)
 (ho:o.op=.call {callee:=.builtin .append,args:=#[s,x],argTypes:=#[t,t]}) (hr:(Builtin.append_ #[t,t] o.type #[a.eval s,a.eval x]).run P w=.ok v w') (h:wpList P ops Q rest (a.put o.dst v) w'):wpList P ops Q (o::rest) a w:=
 wpList_plain hgd λ_ hK=>by
  unfold Oper.wp execOp;simp only[ho,resolve,invoke,builtin,Sem.run_bind,Sem.run_pure,Result.andThen_ok,List.map_toArray,List.map_cons,List.map_nil,hr];exact hK _ _ h
end
end Go.Car
set_option maxHeartbeats 1000000
namespace Go.Car
open Go Go.Conc Go.RowKit
open Go.ConcN (upd upd_ne upd_same)
section
variable {P:Program} {main:Bool} {γ:Type} {J:γ->Goroutine->World->Prop}
end
end Go.Car
set_option maxHeartbeats 8000000
set_option maxRecDepth 100000
namespace Go.Proofs
open Go Go.Conc Go.RowKit Go.Car
open Go.ConcN (upd upd_ne upd_same)
theorem copy_one{P:Program}{w:World}{t ty e:TypeId}{i:TypeInfo}{z:Value}{k bytes:Nat}(ht:P.underlying t=some (.slice e))(hi:P.info? e=some i)(hz:i.zero=some z)(hsize:i.size=k)(hby:i.bytes=bytes)(hzs:z.cells.size=k)(hk:0<k)
 {B n:Nat} {v:Value} {xs cs:List Value} (hown:w.ownsRow B e k v n xs) (hB:B<=w.heap.size) (hcs:cs.length=k) (h1:∀u∈cs,u.oneCell'=true) (h63:n+1<=maxLen) (hbytes:(n+1)*bytes<=140737488355328):
 ∃g C w2,(Builtin.append_ #[t,t] ty #[v,.slice (some ⟨w.heap.size,0,none⟩) 1 1]).run P (w.alloc (.cells cs.toArray e))=.ok (.slice (some ⟨g,0,none⟩) (n+1) C) w2/\w2.ownsRow B e k (.slice (some ⟨g,0,none⟩) (n+1) C) (n+1) (xs++cs)/\
  Wr (λb=>v.ownBlock=some b) w w2/\(v.ownBlock=some g\/w.heap.size<=g)/\∀g o,v.ownBlock=some g->o<n*k->w2.cell? ⟨g,o,none⟩=w.cell? ⟨g,o,none⟩:=by
 have hr:(w.alloc (.cells cs.toArray e)).ownsRow B e k v n xs:=row_allocK hown _;obtain⟨v',w',hrun,ho,hw,hat,hkeep,_⟩:=app_wr (P:=P) (w.alloc (.cells cs.toArray e)) t ty e i z k bytes ht hi hz hsize hby hzs hk hr (by rw[zq3];omega) (some ⟨w.heap.size,0,none⟩) 1 1 cs (by rw[hcs,Nat.one_mul]) (λ_=>⟨_,rfl,λj u hj=>news_new (T:=e) rfl j u (by simpa using hj)⟩) h1 h63 hbytes;have hg:∃g,v'.ownBlock=some g:=by
  rcases hat with h|h
  · rcases ho.2 with⟨_,h0⟩|⟨g,cap,cur,hv,_⟩
    · omega
    · exact⟨g,by rw[hv];rfl⟩
  · exact⟨_,h⟩
 obtain⟨g,hg⟩:=hg;obtain⟨p,C,rfl,hb,ha⟩:=own_slice ho;rw[hb]at hg;cases p with
 |none=>cases hg
 |some a=>
  have e1:=ha a rfl;rw[e1]at hrun ho hat;refine⟨a.block,C,w',hrun,ho,⟨?_,λb c T hbc=>?_,λb hb hx=>?_⟩,?_,λg o hg ho=>?_⟩
  · have:=hw.size;rw[zq3]at this;omega
  · exact hw.shp b c T (al_old hbc)
  · exact(hw.old b (by rw[zq3];omega) hx).trans ((Beyond.alloc w _).2 b hb)
  · rcases hat with h|h
    · exact .inl (h.symm.trans rfl)
    · simp only[Value.ownBlock,al_oi,zq3]at h;exact .inr (by omega)
  · exact(hkeep g o hg ho).trans (cell_of_same ((Beyond.alloc w _).2 g (own_lt hown hg).2.2))
def opsL(l:List OpX):List Value:=l.flatMap OpX.cells
theorem opsL_get:∀(l:List OpX)(k:Nat)(op:OpX),l[k]?=some op->∀j,j<4->(opsL l)[k*4+j]?=op.cells[j]?
 |[],k,op,h=>by simp at h
 |a::l,0,op,h=>λj hj=>by
  simp only[al_g0,al_oi]at h;subst h;unfold opsL;rw[List.flatMap_cons,Nat.zero_mul,Nat.zero_add,List.getElem?_append_left (by show j<4;exact hj)]
 |a::l,k+1,op,h=>λj hj=>by
  rw[al_g1]at h;have:=opsL_get l k op h j hj;unfold opsL at this ⊢;rw[List.flatMap_cons,List.getElem?_append_right (by show 4<=_;omega)];rw[←this];congr 1;show(k+1)*4+j - 4=_;omega
end Go.Proofs
set_option maxHeartbeats 1000000
set_option maxRecDepth 100000
namespace Go.Proofs
open Go Go.Conc Go.RowKit Go.Car
theorem sum_split:∀(C:List Int)(k:Nat),k<C.length->(C.drop k).sum=C.getD k 0+(C.drop (k+1)).sum:=by
 intro C
 induction C with
 |nil=>intro k h;cases h
 |cons x C ih=>
  intro k h;cases k with
  |zero=>simp
  |succ k=>simpa using ih k (by simpa using h)
theorem sum_set:∀(C:List Int)(j k:Nat)(v:Int),j<C.length->((C.set j v).drop k).sum=(C.drop k).sum+if k<=j then v - C.getD j 0 else 0:=by
 intro C
 induction C with
 |nil=>intro j k v h;cases h
 |cons x C ih=>
  intro j k v h;cases k with
  |zero=>
   cases j with
   |zero=>simp;omega
   |succ j=>
    have:=ih j 0 v (by simpa using h);simp at this ⊢;omega
  |succ k=>
   cases j with
   |zero=>simp
   |succ j=>
    have:=ih j k v (by simpa using h);simp only[List.set_cons_succ,List.drop_succ_cons,List.getD_cons_succ,Nat.succ_le_succ_iff]at this ⊢;exact this
theorem getD_set(C:List Int)(j k:Nat)(v:Int)(hj:j<C.length):(C.set j v).getD k 0=if k=j then v else C.getD k 0:=by
 rw[List.getD_eq_getElem?_getD,List.getD_eq_getElem?_getD,List.getElem?_set]
 by_cases h:j=k
 · subst h;simp[hj]
 · rw[if_neg h,if_neg (λe=>h e.symm)]
theorem getD_app(l:List Int)(x:Int)(k:Nat):(l++[x]).getD k 0=if k=l.length then x else l.getD k 0:=by
 rw[List.getD_eq_getElem?_getD,List.getD_eq_getElem?_getD,List.getElem?_append]
 by_cases h:k<l.length
 · rw[if_pos h,if_neg (by omega)]
 · rw[if_neg h]
   by_cases e:k=l.length
   · subst e;simp
   · rw[if_neg e,List.getElem?_eq_none (by simp;omega),List.getElem?_eq_none (by omega)]
theorem drop_nonneg{C:List Int}(h:∀j,0<=C.getD j 0):∀k,0<=(C.drop k).sum:=by
 have key:∀(l:List Int),(∀x∈l,0<=x)->0<=l.sum:=by
  intro l
  induction l with
  |nil=>intro _;simp
  |cons x l ih=>
   intro h;have:=ih λy hy=>h y (List.mem_cons_of_mem _ hy);have:=h x List.mem_cons_self;simp only[List.sum_cons];omega
 intro k;refine key _ λx hx=>?_;obtain⟨j,hj,rfl⟩:=List.mem_iff_getElem.1 hx;have:=h (k+j);rw[List.getElem_drop];rw[List.getD_eq_getElem?_getD,List.getElem?_eq_getElem (by simp at hj;omega)]at this;exact this
theorem list_ext_getD{a b:List Int}(hl:a.length=b.length)(h:∀j,j<a.length->a.getD j 0=b.getD j 0):a=b:=by
 apply List.ext_getElem hl;intro j h1 h2;have:=h j h1
 rwa [List.getD_eq_getElem?_getD,List.getD_eq_getElem?_getD,List.getElem?_eq_getElem h1,List.getElem?_eq_getElem h2]at this
structure ScB where
 at':Nat->Nat
 tot:Int
 tots:List Int
 mine:List Nat
def scn0:ScB:=⟨λ_=>0,0,[],[]⟩
def op0:OpX:=⟨0,0,0,0⟩
def scStep(rd:Nat)(ops:Nat->List OpX)(a:ScB)(i:Nat):ScB:=
 if i=rd then⟨a.at',a.tot,a.tots++[a.tot],a.mine++[a.tots.length]⟩
 else⟨upd' a.at' i (a.at' i+1),a.tot+((ops i).getD (a.at' i) op0).b,a.tots++[a.tot+((ops i).getD (a.at' i) op0).b],a.mine⟩
def scan(rd:Nat)(ops:Nat->List OpX)(l:List Nat):ScB:=l.foldl (scStep rd ops) scn0
theorem scan_app(rd:Nat)(ops:Nat->List OpX)(l:List Nat)(i:Nat):scan rd ops (l++[i])=scStep rd ops (scan rd ops l) i:=by
 unfold scan;rw[List.foldl_append];rfl
theorem scan_take{rd:Nat}{ops:Nat->List OpX}{l:List Nat}{k i:Nat}(h:l[k]?=some i):scan rd ops (l.take (k+1))=scStep rd ops (scan rd ops (l.take k)) i:=by
 rw[←scan_app,List.take_add_one,h];rfl
def OkOrd(rd:Nat)(ops:Nat->List OpX)(ord:List Nat):Prop:=
 ∀k i,ord[k]?=some i->i<rd+1/\(i≠rd->(scan rd ops (ord.take k)).at' i<(ops i).length)
def ScB.gl (a:ScB):List Int:=a.mine.map λm=>a.tots.getD m 0
structure ScOk(a:ScB):Prop where
 mine:∀m∈a.mine,m<a.tots.length
 le:∀j,j<a.gl.length->a.gl.getD j 0<=a.tot
 mono:∀i j,i<=j->j<a.gl.length->a.gl.getD i 0<=a.gl.getD j 0
theorem gl_len(a:ScB):a.gl.length=a.mine.length:=by unfold ScB.gl;simp
theorem gl_get{a:ScB}{j m:Nat}(h:a.mine[j]?=some m):a.gl.getD j 0=a.tots.getD m 0:=by
 unfold ScB.gl;rw[List.getD_eq_getElem?_getD,List.getElem?_map,h];rfl
theorem gl_more{a:ScB}(h:ScOk a)(t x:Int)(f:Nat->Nat):(ScB.mk f t (a.tots++[x]) a.mine).gl=a.gl:=by
 unfold ScB.gl;apply List.map_congr_left;intro m hm;have:=h.mine m hm;show(a.tots++[x]).getD m 0=_;rw[getD_app,if_neg (by omega)]
theorem gl_rd{a:ScB}(h:ScOk a)(f:Nat->Nat):(ScB.mk f a.tot (a.tots++[a.tot]) (a.mine++[a.tots.length])).gl=a.gl++[a.tot]:=by
 show List.map _ (a.mine++[a.tots.length])=_;rw[List.map_append];congr 1
 · exact gl_more h a.tot a.tot f
 · show [(a.tots++[a.tot]).getD a.tots.length 0]=_;rw[getD_app,if_pos rfl]
theorem scOk_rd{a:ScB}(h:ScOk a)(f:Nat->Nat):ScOk (ScB.mk f a.tot (a.tots++[a.tot]) (a.mine++[a.tots.length])):=by
 refine⟨λm hm=>?_,λj hj=>?_,λi j hij hj=>?_⟩
 · show m<(a.tots++[a.tot]).length;rw[List.length_append];rcases List.mem_append.1 hm with hm|hm
   · have:=h.mine m hm;simp;omega
   · simp at hm;simp;omega
 · rw[gl_rd h]at hj ⊢;rw[getD_app];show _<=a.tot;split
   · exact Int.le_refl _
   · rw[List.length_append]at hj;exact h.le j (by simp at hj;omega)
 · rw[gl_rd h]at hj ⊢;rw[List.length_append]at hj;simp at hj;rw[getD_app,getD_app]
   by_cases e:j=a.gl.length
   · rw[if_pos e];split
     · exact Int.le_refl _
     · exact h.le i (by omega)
   · rw[if_neg e,if_neg (by omega)];exact h.mono i j hij (by omega)
theorem scOk_more{a:ScB}(h:ScOk a)(f:Nat->Nat)(b:Int)(hb:0<=b):ScOk (ScB.mk f (a.tot+b) (a.tots++[a.tot+b]) a.mine):=by
 refine⟨λm hm=>?_,λj hj=>?_,λi j hij hj=>?_⟩
 · show m<(a.tots++[a.tot+b]).length;rw[List.length_append];have:=h.mine m hm;simp;omega
 · rw[gl_more h]at hj ⊢;have:=h.le j hj;show _<=a.tot+b;omega
 · rw[gl_more h]at hj ⊢;exact h.mono i j hij hj
theorem scOk0:ScOk scn0:=⟨λm h=>(by cases h),λj h=>(by cases h),λi j _ h=>(by cases h)⟩
structure Rising(gl:List Int)(tot:Int)(C:List Int)(sum:Int)(k base:Nat):Prop where
 zero:k=0->sum=0
 low:0<k->gl.getD base 0<=sum+(C.drop k).sum
 high:sum+(C.drop k).sum<=tot
 pos:0<=sum
def BdA1(n:Nat)(gl:List Int)(s:Int):Prop:=gl.getD 0 0<=s/\s<=gl.getD (n - 1) 0
def BdA2(n:Nat)(gl:List Int)(e:Nat)(ok:Bool)(x:Int):Prop:=(ok=true->e=2*n/\x=gl.getD (2*n - 1) 0)/\(ok=false->x=0)
inductive RdAt(n:Nat)(gl:List Int)(tot:Int)(C:List Int)(t:RT):Prop
 |s1 (h0:t.at'=0) (k:Nat) (hk:k<n) (hpc:t.pc=k+1) (hm:gl.length=k) (ha:t.ans=[]) (hr:Rising gl tot C t.sum k 0)
 |e1 (h0:t.at'=1) (k:Nat) (hk:k<n) (hpc:t.pc=k+1) (hm:gl.length=n+k) (s1:Int) (ha:t.ans=[⟨true,s1,[]⟩]) (h1:BdA1 n gl s1) (hl:t.seen.length=k) (hs:t.sum=t.seen.sum) (hh:t.sum+(C.drop k).sum<=tot) (hp:0<=t.sum) (hc:∀j,j<k->t.seen.getD j 0<=C.getD j 0)
 |e2 (h0:t.at'=1) (k:Nat) (hk:k<n) (hpc:t.pc=n+k+1) (hm:gl.length=2*n+k) (s1:Int) (ha:t.ans=[⟨true,s1,[]⟩]) (h1:BdA1 n gl s1) (hl:t.seen.length=n) (hs:t.sum=t.seen.sum) (D:List Int) (hD:D.length=n) (hd:D.sum=gl.getD (2*n - 1) 0) (hc:∀j,j<n->t.seen.getD j 0<=D.getD j 0/\D.getD j 0<=C.getD j 0) (he:∀j,j<k->D.getD j 0=t.seen.getD j 0)
 |s2 (h0:t.at'=2) (e k:Nat) (hk:k<n) (hpc:t.pc=k+1) (he1:n+1<=e) (he2:e<=2*n) (hm:gl.length=n+e+k) (s1 x:Int) (ok:Bool) (ha:t.ans=[⟨true,s1,[]⟩,⟨ok,x,[]⟩]) (h1:BdA1 n gl s1) (h2:BdA2 n gl e ok x) (hr:Rising gl tot C t.sum k (n+e))
 |over (h0:t.at'=3) (hpc:t.pc=0) (e:Nat) (he1:n+1<=e) (he2:e<=2*n) (hm:gl.length=2*n+e) (s1 x s3:Int) (ok:Bool) (ha:t.ans=[⟨true,s1,[]⟩,⟨ok,x,[]⟩,⟨true,s3,[]⟩]) (h1:BdA1 n gl s1) (h2:BdA2 n gl e ok x) (h3:gl.getD (n+e) 0<=s3/\s3<=gl.getD (2*n+e - 1) 0)
section
variable {n:Nat} {gl:List Int} {tot:Int} {C:List Int} {t:RT}
theorem Rising.add {sum b:Int}{k base j:Nat}(h:Rising gl tot C sum k base)(hj:j<C.length)(hb:0<=b):Rising gl (tot+b) (C.set j (C.getD j 0+b)) sum k base:=by
 have e:=sum_set C j k (C.getD j 0+b) hj;refine⟨h.zero,λhk=>?_,?_,h.pos⟩
 · have:=h.low hk;rw[e];split<;>omega
 · have:=h.high;rw[e];split<;>omega
theorem set_ge{b:Int}{j:Nat}(hj:j<C.length)(hb:0<=b)(i:Nat):C.getD i 0<=(C.set j (C.getD j 0+b)).getD i 0:=by
 rw[getD_set _ _ _ _ hj];split
 · rename_i e;subst e;omega
 · exact Int.le_refl _
theorem RdAt.add {b:Int}{j:Nat}(h:RdAt n gl tot C t)(hj:j<C.length)(hb:0<=b):RdAt n gl (tot+b) (C.set j (C.getD j 0+b)) t:=by
 cases h with
 |s1 h0 k hk hpc hm ha hr=>exact .s1 h0 k hk hpc hm ha (hr.add hj hb)
 |e1 h0 k hk hpc hm s1 ha h1 hl hs hh hp hc=>
  refine .e1 h0 k hk hpc hm s1 ha h1 hl hs ?_ hp λi hi=>Int.le_trans (hc i hi) (set_ge hj hb i);rw[sum_set C j k _ hj];split<;>omega
 |e2 h0 k hk hpc hm s1 ha h1 hl hs D hD hd hc he=>exact .e2 h0 k hk hpc hm s1 ha h1 hl hs D hD hd (λi hi=>⟨(hc i hi).1,Int.le_trans (hc i hi).2 (set_ge hj hb i)⟩) he
 |s2 h0 e k hk hpc he1 he2 hm s1 x ok ha h1 h2 hr=>exact .s2 h0 e k hk hpc he1 he2 hm s1 x ok ha h1 h2 (hr.add hj hb)
 |over h0 hpc e he1 he2 hm s1 x s3 ok ha h1 h2 h3=>exact .over h0 hpc e he1 he2 hm s1 x s3 ok ha h1 h2 h3
theorem BdA1.app {s x:Int}(h:BdA1 n gl s)(hn:n<=gl.length)(h0:0<n):BdA1 n (gl++[x]) s:=by
 unfold BdA1;rw[getD_app,getD_app,if_neg (by omega),if_neg (by omega)];exact h
theorem BdA2.app {x y:Int}{e:Nat}{ok:Bool}(h:BdA2 n gl e ok x)(hn:n+e<=gl.length)(he:n+1<=e):BdA2 n (gl++[y]) e ok x:=by
 refine⟨λhk=>?_,h.2⟩;obtain⟨h1,h2⟩:=h.1 hk;exact⟨h1,by rw[getD_app,if_neg (by omega)];exact h2⟩
end
def rdOps:List OpX:=[⟨2,0,0,0⟩,⟨5,0,0,0⟩,⟨2,0,0,0⟩]
theorem setlR_good{l:List OpX}{t:RT}{op:OpX}(hpc:t.pc=0)(hop:l[t.at']?=some op)(hg:goodK op=true):setlR l t={t with pc:=1,sum:=0,seen:=[]}:=by
 unfold setlR settleR;rw[if_pos hpc];simp only[hop];have hb:beginR t op={t with pc:=1,sum:=0,seen:=[]}:=by unfold beginR;rw[hg];rfl
 rw[hb];cases l.length with
 |zero=>rfl
 |succ f=>unfold settleR;rw[if_neg (by simp)]
theorem setlR_over{l:List OpX}{t:RT}(hpc:t.pc=0)(hop:l[t.at']?=none):setlR l t=t:=by
 unfold setlR settleR;rw[if_pos hpc];simp only[hop]
theorem wrap_small{x:Int}(h0:0<=x)(h1:x<9223372036854775808):wrap64 x=x:=by unfold wrap64;omega
section
variable {n:Nat} {gl:List Int} {tot:Int} {C:List Int} {t:RT}
theorem Rising.read {sum:Int}{k base:Nat}(h:Rising gl tot C sum k base)(hC:C.length=n)(hk:k<n)(hsum:C.sum=tot)(hpos:∀j,0<=C.getD j 0)(htot:tot<9223372036854775808)(hm:gl.length=base+k):
 wrap64 (sum+C.getD k 0)=sum+C.getD k 0/\Rising (gl++[tot]) tot C (sum+C.getD k 0) (k+1) base:=by
 have e:=sum_split C k (by omega);have h1:=drop_nonneg hpos (k+1);have h2:=hpos k;have h3:=h.high;have h4:=h.pos;refine⟨wrap_small (by omega) (by omega),λx=>by omega,λ_=>?_,by omega,by omega⟩;rw[getD_app];split
 · rename_i hb;have hk0:k=0:=by omega
   have:=h.zero hk0;subst hk0;simp only[List.drop_zero]at e;omega
 · have:=h.low (by omega);omega
theorem RdAt.go (h:RdAt n gl tot C t)(hC:C.length=n)(hsum:C.sum=tot)(hpos:∀j,0<=C.getD j 0)(htot:tot<9223372036854775808){op:OpX}(hop:rdOps[t.at']?=some op):
 (stepR n op C t).1=C/\RdAt n (gl++[tot]) tot C (setlR rdOps (stepR n op C t).2):=by
 have hl1:(gl++[tot]).length=gl.length+1:=by simp
 have hdn:C.drop n=[]:=List.drop_eq_nil_of_le (by omega);cases h with
 |s1 h0 k hk hpc hm ha hr=>
  rw[h0]at hop;obtain rfl:(⟨2,0,0,0⟩:OpX)=op:=by simpa[rdOps]using hop
  obtain⟨hw,hr'⟩:=hr.read hC hk hsum hpos htot (by omega);have ek:t.pc - 1=k:=by omega
  unfold stepR;simp only[ek,hw];simp only[if_true,true_or,if_false,show ¬((2:Int)=1)by decide,show ¬((2:Int)=3)by decide]
  by_cases hlast:k+1=n
  · rw[if_pos hlast];refine⟨rfl,?_⟩;rw[setlR_good (op:=⟨5,0,0,0⟩) rfl (by simp[endR,h0,rdOps]) rfl];subst hlast;refine .e1 (by simp[endR,h0]) 0 (by omega) rfl (by omega) (t.sum+C.getD k 0) (by simp[endR,ha]) ?_ rfl rfl ?_ (Int.le_refl _) (λj hj=>absurd hj (Nat.not_lt_zero _))
    · have hb:=hr'.low (by omega);have hc:=hr'.high;rw[hdn]at hb hc;simp only[List.sum_nil]at hb hc;refine⟨by omega,?_⟩;rw[getD_app,if_pos (by omega)];omega
    · simp only[List.drop_zero];show 0+_<=_;omega
  · rw[if_neg hlast];refine⟨rfl,?_⟩;rw[setlR_on (by simp)];exact .s1 h0 (k+1) (by omega) rfl (by omega) ha hr'
 |e1 h0 k hk hpc hm s1 ha h1 hl hs hh hp hc=>
  rw[h0]at hop;obtain rfl:(⟨5,0,0,0⟩:OpX)=op:=by simpa[rdOps]using hop
  have ek:t.pc - 1=k:=by omega
  have es:=sum_split C k (by omega);have hd1:=drop_nonneg hpos (k+1);have hck:=hpos k;have hw:wrap64 (t.sum+C.getD k 0)=t.sum+C.getD k 0:=wrap_small (by omega) (by omega);unfold stepR;simp only[ek,hw];simp only[show ¬((5:Int)=1)by decide,show ¬((5:Int)=2)by decide,show ¬((5:Int)=3)by decide,show ¬((5:Int)=4)by decide,if_false,or_false,if_pos hk];refine⟨trivial,?_⟩;rw[setlR_on (by simp)];have hget:∀j,(t.seen++[C.getD k 0]).getD j 0=if j=k then C.getD k 0 else t.seen.getD j 0:=λj=>by rw[getD_app,hl]
  have hcs:∀j,j<k+1->(t.seen++[C.getD k 0]).getD j 0<=C.getD j 0:=λj hj=>by
   rw[hget];split
   · rename_i e;rw[e];exact Int.le_refl _
   · exact hc j (by omega)
  have hss:t.sum+C.getD k 0=(t.seen++[C.getD k 0]).sum:=by rw[List.sum_append,hs];simp
  by_cases hlast:k+1=n
  · subst hlast;exact .e2 h0 0 (by omega) (by show k+2=_;omega) (by omega) s1 ha (h1.app (by omega) (by omega)) (by simp[hl]) hss C hC (by rw[getD_app,if_pos (by omega)];exact hsum) (λj hj=>⟨hcs j hj,Int.le_refl _⟩) (λj hj=>absurd hj (Nat.not_lt_zero _))
  · refine .e1 h0 (k+1) (by omega) rfl (by omega) s1 ha (h1.app (by omega) (by omega)) (by simp[hl]) hss ?_ (by show 0<=t.sum+_;omega) hcs;show t.sum+C.getD k 0+(C.drop (k+1)).sum<=tot;omega
 |e2 h0 k hk hpc hm s1 ha h1 hl hs D hD hd hc he=>
  rw[h0]at hop;obtain rfl:(⟨5,0,0,0⟩:OpX)=op:=by simpa[rdOps]using hop
  have ek:t.pc - 1=n+k:=by omega
  have ekn:n+k - n=k:=by omega
  unfold stepR;simp only[ek,ekn];simp only[show ¬((5:Int)=1)by decide,show ¬((5:Int)=2)by decide,show ¬((5:Int)=3)by decide,show ¬((5:Int)=4)by decide,if_false,or_false,if_neg (show ¬n+k<n by omega)];have hrs:Rising (gl++[tot]) tot C 0 0 (n+(n+k+1)):=⟨λ_=>rfl,λx=>absurd x (Nat.lt_irrefl _),by simp only[List.drop_zero];omega,Int.le_refl _⟩
  by_cases hv:C.getD k 0=t.seen.getD k 0
  · rw[if_neg (by rw[hv];simp)]
    by_cases hlast:n+k+1=2*n
    · rw[if_pos hlast];refine⟨rfl,?_⟩;rw[setlR_good (op:=⟨2,0,0,0⟩) rfl (by simp[endR,h0,rdOps]) rfl];have hDs:D=t.seen:=list_ext_getD (by omega) λj hj=>by
       by_cases e:j=k
       · subst e;have:=hc j (by omega);omega
       · exact he j (by omega)
      refine .s2 (by simp[endR,h0]) (n+k+1) 0 (by omega) rfl (by omega) (by omega) (by omega) s1 t.sum true (by simp[endR,ha]) (h1.app (by omega) (by omega)) ⟨λ_=>⟨hlast,?_⟩,λx=>by cases x⟩ hrs;rw[getD_app,if_neg (by omega),←hd,hDs];exact hs
    · rw[if_neg hlast];refine⟨rfl,?_⟩;rw[setlR_on (by simp)];refine .e2 h0 (k+1) (by omega) (by show n+k+2=_;omega) (by omega) s1 ha (h1.app (by omega) (by omega)) hl hs D hD (by rw[getD_app,if_neg (by omega)];exact hd) hc λj hj=>?_;show D.getD j 0=t.seen.getD j 0
      by_cases e:j=k
      · subst e;have:=hc j (by omega);omega
      · exact he j (by omega)
  · rw[if_pos hv];refine⟨rfl,?_⟩;rw[setlR_good (op:=⟨2,0,0,0⟩) rfl (by simp[endR,h0,rdOps]) rfl];exact .s2 (by simp[endR,h0]) (n+k+1) 0 (by omega) rfl (by omega) (by omega) (by omega) s1 0 false (by simp[endR,ha,Ans.none]) (h1.app (by omega) (by omega)) ⟨λx=>(by cases x),λ_=>rfl⟩ hrs
 |s2 h0 e k hk hpc he1 he2 hm s1 x ok ha h1 h2 hr=>
  rw[h0]at hop;obtain rfl:(⟨2,0,0,0⟩:OpX)=op:=by simpa[rdOps]using hop
  obtain⟨hw,hr'⟩:=hr.read hC hk hsum hpos htot (by omega);have ek:t.pc - 1=k:=by omega
  unfold stepR;simp only[ek,hw];simp only[if_true,true_or,if_false,show ¬((2:Int)=1)by decide,show ¬((2:Int)=3)by decide]
  by_cases hlast:k+1=n
  · rw[if_pos hlast];refine⟨rfl,?_⟩;rw[setlR_over rfl (by simp[endR,h0,rdOps])];subst hlast;refine .over (by simp[endR,h0]) rfl e (by omega) (by omega) (by omega) s1 x (t.sum+C.getD k 0) ok (by simp[endR,ha]) (h1.app (by omega) (by omega)) (h2.app (by omega) (by omega)) ?_;have hb:=hr'.low (by omega);have hc:=hr'.high;rw[hdn]at hb hc;simp only[List.sum_nil]at hb hc;refine⟨by omega,?_⟩;rw[getD_app,if_pos (by omega)];omega
  · rw[if_neg hlast];refine⟨rfl,?_⟩;rw[setlR_on (by simp)];exact .s2 h0 e (k+1) (by omega) rfl (by omega) (by omega) (by omega) s1 x ok ha (h1.app (by omega) (by omega)) (h2.app (by omega) (by omega)) hr'
 |over h0 hpc e he1 he2 hm s1 x s3 ok ha h1 h2 h3=>
  rw[h0]at hop;simp[rdOps]at hop
end
def sumN(f:Nat->Nat):Nat->Nat
 |0=>0
 |n+1=>sumN f n+f n
theorem sumN_same{f g:Nat->Nat}:∀n,(∀i,i<n->f i=g i)->sumN f n=sumN g n:=by
 intro n
 induction n with
 |zero=>exact λ_=>rfl
 |succ n ih=>intro h;unfold sumN;rw[ih λi hi=>h i (by omega),h n (Nat.lt_succ_self n)]
theorem sumN_up(f:Nat->Nat)(j:Nat):∀n,j<n->sumN (upd' f j (f j+1)) n=sumN f n+1:=by
 intro n
 induction n with
 |zero=>intro h;cases h
 |succ n ih=>
  intro h;unfold sumN
  by_cases e:j=n
  · subst e;rw[sumN_same j (f:=upd' f j (f j+1)) (g:=f) (λi hi=>upd'_ne _ _ (by omega)),upd'_same];omega
  · rw[ih (by omega),upd'_ne _ _ (λx=>e x.symm)];omega
theorem sumN_le{f:Nat->Nat}{b:Nat}:∀n,(∀i,i<n->f i<=b)->sumN f n<=n*b:=by
 intro n
 induction n with
 |zero=>intro _;simp[sumN]
 |succ n ih=>
  intro h;have:=ih λi hi=>h i (by omega);have:=h n (Nat.lt_succ_self n);unfold sumN;rw[Nat.succ_mul];omega
structure BdIn(n rd:Nat)(ops:Nat->List OpX):Prop where
 n0:0<n
 n8:n<=8
 rdle:rd<=63
 len:∀i,i<rd->(ops i).length<=500
 op:∀i,i<rd->∀o∈ops i,o.k=1/\0<=o.b/\o.b<=999
 me:ops rd=rdOps
section
variable {n rd:Nat} {ops:Nat->List OpX}
structure InvB(n rd:Nat)(ops:Nat->List OpX)(r:RS):Prop where
 okord:OkOrd rd ops r.ord
 len:r.C.length=n
 pos:∀j,0<=r.C.getD j 0
 sum:r.C.sum=(scan rd ops r.ord).tot
 top:(scan rd ops r.ord).tot<=999*r.ord.length
 add:∀i,i<rd->(r.T i).at'=(scan rd ops r.ord).at' i/\(r.T i).at'<=(ops i).length
 cnt:r.ord.length=sumN (scan rd ops r.ord).at' rd+(scan rd ops r.ord).mine.length
 tots:(scan rd ops r.ord).tots.length=r.ord.length
 ok:ScOk (scan rd ops r.ord)
 rdr:RdAt n (scan rd ops r.ord).gl (scan rd ops r.ord).tot r.C (r.T rd)
theorem okord_app{ord:List Nat}{i:Nat}(h:OkOrd rd ops ord)(hi:i<rd+1)(ha:i≠rd->(scan rd ops ord).at' i<(ops i).length):OkOrd rd ops (ord++[i]):=by
 intro k j hk;rw[List.getElem?_append]at hk;split at hk
 · rename_i hlt;have:=h k j hk;rw[List.take_append_of_le_length (by omega)];exact this
 · rename_i hlt;have hk0:k=ord.length:=by
    refine Classical.byContradiction λe=>?_;rw[List.getElem?_eq_none (by simp;omega)]at hk;cases hk
   subst hk0;simp only[Nat.sub_self,al_g0]at hk;obtain rfl:=Option.some.inj hk;rw[List.take_left' rfl];exact⟨hi,ha⟩
theorem good1{o:OpX}(h:o.k=1):goodK o=true:=by unfold goodK;rw[h];decide
theorem setl_add{l:List OpX}(hg:∀o∈l,o.k=1){t:RT}(hpc:t.pc=0):(setlR l t).at'=t.at':=by
 cases h:l[t.at']? with
 |none=>rw[setlR_over hpc h]
 |some o=>rw[setlR_good hpc h (good1 (hg o (List.mem_of_getElem? h)))]
theorem list_zero_sum:∀n:Nat,(List.replicate n (0:Int)).sum=0:=by
 intro n
 induction n with
 |zero=>rfl
 |succ n ih=>rw[List.replicate_succ,List.sum_cons,ih];rfl
theorem zero_getD(n j:Nat):(List.replicate n (0:Int)).getD j 0=0:=by
 rw[List.getD_eq_getElem?_getD,List.getElem?_replicate];split<;>rfl
theorem beginRS_T(C:List Int):∀N i,i<N->(beginRS ops C N).T i=setlR (ops i) rt0:=by
 intro N
 induction N with
 |zero=>intro i h;cases h
 |succ N ih=>
  intro i hi;show upd' _ N _ i=_
  by_cases e:i=N
  · subst e;rw[upd'_same]
  · rw[upd'_ne _ _ e];exact ih i (by omega)
theorem invB_begin(h:BdIn n rd ops):InvB n rd ops (beginRS ops (List.replicate n 0) (rd+1)):=by
 obtain⟨hC,ho⟩:=beginRS_C (ops:=ops) (List.replicate n 0) (rd+1);have h0:=h.n0;refine⟨?_,?_,?_,?_,?_,λi hi=>?_,?_,?_,?_,?_⟩
 · rw[ho];intro k i hk;simp at hk
 · rw[hC];simp
 · rw[hC];intro j;rw[zero_getD];exact Int.le_refl _
 · rw[hC,ho,list_zero_sum];rfl
 · rw[ho];exact Int.le_refl _
 · rw[beginRS_T _ _ i (by omega),ho];have:=setl_add (l:=ops i) (λo ho=>(h.op i hi o ho).1) (t:=rt0) rfl;rw[this];exact⟨rfl,Nat.zero_le _⟩
 · rw[ho];show 0=sumN (λ_=>0) rd+0;have:=sumN_le (f:=λ_=>0) (b:=0) rd λ_ _=>Nat.le_refl _;omega
 · rw[ho];rfl
 · rw[ho];exact scOk0
 · rw[ho,hC,beginRS_T _ _ rd (by omega),h.me,setlR_good (op:=⟨2,0,0,0⟩) rfl rfl rfl];refine .s1 rfl 0 h0 rfl rfl rfl ⟨λ_=>rfl,λx=>absurd x (Nat.lt_irrefl _),?_,Int.le_refl _⟩;show 0+((List.replicate n (0:Int)).drop 0).sum<=(0:Int);rw[List.drop_zero,list_zero_sum];decide
theorem mem_of_at{l:List OpX}{k:Nat}{o:OpX}(h:l[k]?=some o):o∈l:=List.mem_of_getElem? h
theorem getD_of{l:List OpX}{k:Nat}{o:OpX}(h:l[k]?=some o):l.getD k op0=o:=by rw[List.getD_eq_getElem?_getD,h];rfl
theorem invB_turn(hI:BdIn n rd ops){r:RS}(h:InvB n rd ops r)(hR:InvR n (rd+1) ops 1048576 r){i:Nat}(hi:i<rd+1)(hpc:(r.T i).pc≠0)(hlt:r.ord.length<1048576):InvB n rd ops (turnR i (goR n ops i r) r (r.ord++[i])):=by
 obtain⟨hf,hk⟩:=hR.thr i hi;obtain⟨op,hop,hg,-⟩:=hk.stand hpc;have hlt':=(List.getElem?_eq_some_iff.1 hop).1;rw[goR_eq hop];have htop:=h.top
 by_cases e:i=rd
 · subst e;rw[hI.me]at hop;obtain⟨c1,c2⟩:=h.rdr.go h.len h.sum h.pos (by omega) hop;have es:scan i ops (r.ord++[i])=⟨(scan i ops r.ord).at',(scan i ops r.ord).tot,(scan i ops r.ord).tots++[(scan i ops r.ord).tot],(scan i ops r.ord).mine++[(scan i ops r.ord).tots.length]⟩:=by
    rw[scan_app];unfold scStep;rw[if_pos rfl]
   refine⟨okord_app h.okord hi (λx=>absurd rfl x),?_,?_,?_,?_,λj hj=>?_,?_,?_,?_,?_⟩
   · show(stepR n op r.C (r.T i)).1.length=n;rw[c1];exact h.len
   · show ∀j,0<=(stepR n op r.C (r.T i)).1.getD j 0;rw[c1];exact h.pos
   · show(stepR n op r.C (r.T i)).1.sum=(scan i ops (r.ord++[i])).tot;rw[c1,es];exact h.sum
   · show(scan i ops (r.ord++[i])).tot<=999*(((r.ord++[i]).length:Nat):Int);rw[es,List.length_append];simp only[List.length_singleton];show(scan i ops r.ord).tot<=_;omega
   · show(upd' r.T i _ j).at'=(scan i ops (r.ord++[i])).at' j/\(upd' r.T i _ j).at'<=_;rw[upd'_ne _ _ (by omega),es];exact h.add j hj
   · show(r.ord++[i]).length=sumN (scan i ops (r.ord++[i])).at' i+(scan i ops (r.ord++[i])).mine.length;rw[es,List.length_append];show _=sumN (scan i ops r.ord).at' i+((scan i ops r.ord).mine++[_]).length;rw[List.length_append];have:=h.cnt;simp only[List.length_singleton];omega
   · show(scan i ops (r.ord++[i])).tots.length=(r.ord++[i]).length;rw[es];show((scan i ops r.ord).tots++[_]).length=_;rw[List.length_append,List.length_append,h.tots];rfl
   · show ScOk (scan i ops (r.ord++[i]));rw[es];exact scOk_rd h.ok _
   · show RdAt n (scan i ops (r.ord++[i])).gl (scan i ops (r.ord++[i])).tot (stepR n op r.C (r.T i)).1 (upd' r.T i _ i);rw[upd'_same,es,c1,gl_rd h.ok,hI.me];exact c2
 · have hir:i<rd:=by omega
   obtain⟨ha,hb⟩:=h.add i hir;obtain⟨o1,o2,o3⟩:=hI.op i hir op (mem_of_at hop);have hgb:((ops i).getD ((scan rd ops r.ord).at' i) op0).b=op.b:=by rw[←ha,getD_of hop]
   have es:scan rd ops (r.ord++[i])=⟨upd' (scan rd ops r.ord).at' i ((scan rd ops r.ord).at' i+1),(scan rd ops r.ord).tot+op.b,(scan rd ops r.ord).tots++[(scan rd ops r.ord).tot+op.b],(scan rd ops r.ord).mine⟩:=by
    rw[scan_app];unfold scStep;rw[if_neg e,hgb]
   have hj:idx op.a n<r.C.length:=by rw[h.len];exact idx_lt _ hI.n0
   have hle:r.C.getD (idx op.a n) 0<=r.C.sum:=by
    have h1:=sum_set r.C (idx op.a n) 0 0 hj;have h2:=drop_nonneg (C:=r.C.set (idx op.a n) 0) (λk=>by rw[getD_set _ _ _ _ hj];split;exact Int.le_refl _;exact h.pos k) 0;rw[if_pos (Nat.zero_le _)]at h1;simp only[List.drop_zero]at h1 h2;omega
   have hsum:=h.sum;have hp:=h.pos (idx op.a n);have hw:IntKind.i64.wrap (r.C.getD (idx op.a n) 0+op.b)=r.C.getD (idx op.a n) 0+op.b:=by
    rw[IntKind.wrap_i64];omega
   have est:stepR n op r.C (r.T i)=(r.C.set (idx op.a n) (r.C.getD (idx op.a n) 0+op.b),endR {r.T i with pc:=(r.T i).pc - 1+2} ⟨true,r.C.getD (idx op.a n) 0+op.b,[]⟩):=by
    unfold stepR;simp only[o1,if_true,hw]
   rw[est];have hse:=sum_set r.C (idx op.a n) 0 (r.C.getD (idx op.a n) 0+op.b) hj;rw[if_pos (Nat.zero_le _)]at hse;simp only[List.drop_zero]at hse;refine⟨okord_app h.okord hi (λ_=>by rw[←ha];exact hlt'),?_,λj=>?_,?_,?_,λj hj2=>?_,?_,?_,?_,?_⟩
   · show(r.C.set _ _).length=n;rw[List.length_set];exact h.len
   · show 0<=(r.C.set _ _).getD j 0;rw[getD_set _ _ _ _ hj];split
     · omega
     · exact h.pos j
   · show(r.C.set _ _).sum=(scan rd ops (r.ord++[i])).tot;rw[es,hse];show _=(scan rd ops r.ord).tot+op.b;omega
   · show(scan rd ops (r.ord++[i])).tot<=999*(((r.ord++[i]).length:Nat):Int);rw[es,List.length_append];simp only[List.length_singleton];show(scan rd ops r.ord).tot+op.b<=_;omega
   · show(upd' r.T i _ j).at'=(scan rd ops (r.ord++[i])).at' j/\(upd' r.T i _ j).at'<=_;rw[es];show _=upd' (scan rd ops r.ord).at' i _ j/\_
     by_cases ej:j=i
     · subst ej;rw[upd'_same,upd'_same];rw[setl_add (l:=ops j) (λo ho=>(hI.op j hir o ho).1) (t:=endR _ _) rfl];show(r.T j).at'+1=_/\(r.T j).at'+1<=_;exact⟨by omega,hlt'⟩
     · rw[upd'_ne _ _ ej,upd'_ne _ _ ej];exact h.add j hj2
   · show(r.ord++[i]).length=sumN (scan rd ops (r.ord++[i])).at' rd+(scan rd ops (r.ord++[i])).mine.length;rw[es,List.length_append];show _=sumN (upd' (scan rd ops r.ord).at' i _) rd+(scan rd ops r.ord).mine.length;rw[sumN_up _ _ _ hir];have:=h.cnt;simp only[List.length_singleton];omega
   · show(scan rd ops (r.ord++[i])).tots.length=(r.ord++[i]).length;rw[es];show((scan rd ops r.ord).tots++[_]).length=_;rw[List.length_append,List.length_append,h.tots];rfl
   · show ScOk (scan rd ops (r.ord++[i]));rw[es];exact scOk_more h.ok _ _ o2
   · show RdAt n (scan rd ops (r.ord++[i])).gl (scan rd ops (r.ord++[i])).tot (r.C.set _ _) (upd' r.T i _ rd);rw[upd'_ne _ _ (λx=>e x.symm),es,gl_more h.ok];exact h.rdr.add hj o2
theorem both_step1(hI:BdIn n rd ops){r:RS}(h:InvB n rd ops r)(hR:InvR n (rd+1) ops 1048576 r)(x:Int):InvB n rd ops (step1R n ops (rd+1) 1048576 x r)/\InvR n (rd+1) ops 1048576 (step1R n ops (rd+1) 1048576 x r):=by
 by_cases hc:x<0\/((rd+1:Nat):Int)<=x\/(r.T x.toNat).pc=0\/r.ord.length=1048576
 · rw[step1R_skip hc];exact⟨h,hR⟩
 · have h1:0<=x:=by omega
   have h2:x<((rd+1:Nat):Int):=by omega
   have h3:(r.T x.toNat).pc≠0:=λe=>hc (.inr (.inr (.inl e)));have h4:r.ord.length<1048576:=by
    have:=hR.ord;have:r.ord.length≠1048576:=λe=>hc (.inr (.inr (.inr e)));omega
   rw[step1R_go h1 h2 h3 h4];exact⟨invB_turn hI h hR (by omega) h3 h4,inv_turn hI.n0 hR (by omega) h3 h4⟩
theorem both_steps(hI:BdIn n rd ops):∀(l:List Int){r:RS},InvB n rd ops r->InvR n (rd+1) ops 1048576 r->InvB n rd ops (stepsR' n ops (rd+1) 1048576 l r)/\InvR n (rd+1) ops 1048576 (stepsR' n ops (rd+1) 1048576 l r):=by
 intro l
 induction l with
 |nil=>exact λh hR=>⟨h,hR⟩
 |cons x l ih=>
  intro r h hR;obtain⟨h1,h2⟩:=both_step1 hI h hR x;exact ih h1 h2
theorem both_rounds(hI:BdIn n rd ops):∀(f:Nat){r:RS},InvB n rd ops r->InvR n (rd+1) ops 1048576 r->InvB n rd ops (roundsR' n ops (rd+1) 1048576 f r)/\InvR n (rd+1) ops 1048576 (roundsR' n ops (rd+1) 1048576 f r):=by
 intro f
 induction f with
 |zero=>exact λh hR=>⟨h,hR⟩
 |succ f ih=>
  intro r h hR;unfold roundsR';split
  · obtain⟨h1,h2⟩:=both_steps hI (upto (rd+1)) h hR;exact ih h1 h2
  · exact⟨h,hR⟩
theorem rounds_end{NS N most:Nat}{ops:Nat->List OpX}:∀(f:Nat){r:RS},most<f+r.ord.length->¬(0<leftN (ovR (roundsR' NS ops N most f r)) N/\(roundsR' NS ops N most f r).ord.length<most):=by
 intro f
 induction f with
 |zero=>
  intro r h hc;have:roundsR' NS ops N most 0 r=r:=rfl;rw[this]at hc;omega
 |succ f ih=>
  intro r h;unfold roundsR';split
  · rename_i hc;have:=round_grows (NS:=NS) (ops:=ops) hc.1 hc.2;exact ih (by omega)
  · rename_i hc;exact hc
theorem bounds_play(hI:BdIn n rd ops)(sched:List Int):InvB n rd ops (playR ops (rd+1) 1048576 sched (List.replicate n 0))/\leftN (ovR (playR ops (rd+1) 1048576 sched (List.replicate n 0))) (rd+1)=0:=by
 have hn0:=hI.n0;have hlen:(List.replicate n (0:Int)).length=n:=by simp
 have e:playR ops (rd+1) 1048576 sched (List.replicate n 0)=roundsR' n ops (rd+1) 1048576 1048577 (stepsR' n ops (rd+1) 1048576 sched (beginRS ops (List.replicate n 0) (rd+1))):=by
  unfold playR;rw[hlen]
 obtain⟨a1,a2⟩:=both_steps hI sched (invB_begin hI) (inv_begin hn0 hlen (rd+1));obtain⟨b1,b2⟩:=both_rounds hI 1048577 a1 a2;have b3:=rounds_end (NS:=n) (ops:=ops) (N:=rd+1) (most:=1048576) 1048577 (r:=stepsR' n ops (rd+1) 1048576 sched (beginRS ops (List.replicate n 0) (rd+1))) (by omega);rw[←e]at b1 b2 b3;generalize playR ops (rd+1) 1048576 sched (List.replicate n 0)=R at b1 b2 b3;refine⟨b1,Classical.byContradiction λhl=>b3 ⟨by omega,?_⟩⟩;have h1:=sumN_le (f:=(scan rd ops R.ord).at') (b:=500) rd λi hi=>by
  have:=b1.add i hi;have:=hI.len i hi;omega
 have h2:(scan rd ops R.ord).mine.length<=32:=by
  rw[←gl_len];have:=hI.n8;cases b1.rdr with
  |s1 h0 k hk hpc hm=>omega
  |e1 h0 k hk hpc hm=>omega
  |e2 h0 k hk hpc hm=>omega
  |s2 h0 e k hk hpc he1 he2 hm=>omega
  |over h0 hpc e he1 he2 hm=>omega
 have:=b1.cnt;have:=hI.rdle;have:rd*500<=63*500:=Nat.mul_le_mul_right _ (by omega);omega
theorem left_none{ov:Nat->Bool}:∀{N:Nat},leftN ov N=0->∀i,i<N->ov i=true:=by
 intro N
 induction N with
 |zero=>intro _ i h;cases h
 |succ N ih=>
  intro h i hi;unfold leftN at h
  by_cases e:i=N
  · subst e;cases hv:ov i with
    |true=>rfl
    |false=>rw[hv]at h;simp at h
  · exact ih (by omega) i (by omega)
structure Bounded(n:Nat)(gl:List Int)(ans:List Ans):Prop where
 out:∃(e:Nat)(s1 x s3:Int)(ok:Bool),ans=[⟨true,s1,[]⟩,⟨ok,x,[]⟩,⟨true,s3,[]⟩]/\n+1<=e/\e<=2*n/\gl.length=2*n+e/\
  gl.getD 0 0<=s1/\s1<=gl.getD (n - 1) 0/\gl.getD (n+e) 0<=s3/\s3<=gl.getD (2*n+e - 1) 0/\
  (ok=true->e=2*n/\x=gl.getD (2*n - 1) 0/\x<=gl.getD (2*n) 0)/\(ok=false->x=0)
theorem bounds_end(hI:BdIn n rd ops)(sched:List Int):OkOrd rd ops (playR ops (rd+1) 1048576 sched (List.replicate n 0)).ord/\Bounded n (scan rd ops (playR ops (rd+1) 1048576 sched (List.replicate n 0)).ord).gl ((playR ops (rd+1) 1048576 sched (List.replicate n 0)).T rd).ans/\
 leftN (ovR (playR ops (rd+1) 1048576 sched (List.replicate n 0))) (rd+1)=0/\ScOk (scan rd ops (playR ops (rd+1) 1048576 sched (List.replicate n 0)).ord):=by
 obtain⟨h,hl⟩:=bounds_play hI sched;have hn0:=hI.n0;generalize playR ops (rd+1) 1048576 sched (List.replicate n 0)=R at h hl;have hp:(R.T rd).pc=0:=by
  have:=left_none hl rd (Nat.lt_succ_self _);unfold ovR at this;simpa using this
 refine⟨h.okord,⟨?_⟩,hl,h.ok⟩;cases h.rdr with
 |s1 h0 k hk hpc=>omega
 |e1 h0 k hk hpc=>omega
 |e2 h0 k hk hpc=>omega
 |s2 h0 e k hk hpc=>omega
 |over h0 hpc e he1 he2 hm s1 x s3 ok ha h1 h2 h3=>
  refine⟨e,s1,x,s3,ok,ha,he1,he2,hm,h1.1,h1.2,h3.1,h3.2,λhk=>?_,h2.2⟩;obtain⟨k1,k2⟩:=h2.1 hk;exact⟨k1,k2,by rw[k2];exact h.ok.mono _ _ (by omega) (by omega)⟩
end
set_option maxHeartbeats 8000000
set_option maxRecDepth 100000
def ListsIn(W:World)(lp:Option Addr)(ll:Nat)(ls:Nat->List Int):Prop:=
 0<ll->∃pb po,lp=some ⟨pb,po,none⟩/\∀i,i<ll->∃q C,W.cell? ⟨pb,po+i,none⟩=some (.slice q (ls i).length C)/\((ls i)≠[]->∃b o,q=some ⟨b,o,none⟩/\∀k,k<(ls i).length->W.cell? ⟨b,o+k,none⟩=some (.int .i64 ((ls i).getD k 0)))
theorem ListsIn.beyond {W W':World}{lp:Option Addr}{ll:Nat}{ls:Nat->List Int}(h:ListsIn W lp ll ls)(hb:Beyond W W'):ListsIn W' lp ll ls:=λh0=>by
 obtain⟨pb,po,e,h1⟩:=h h0;refine⟨pb,po,e,λi hi=>?_⟩;obtain⟨q,C,h2,h3⟩:=h1 i hi;exact⟨q,C,hb.cell h2,λhne=>by
  obtain⟨b,o,e2,h4⟩:=h3 hne;exact⟨b,o,e2,λk hk=>hb.cell (h4 k hk)⟩⟩
def adA(i:Nat)(x:Int):Int:=wrap64 ((i:Int)+x.tmod 3)
def adB(x:Int):Int:=wrap64 ((IntKind.u64.wrap x).tmod 1000)
theorem adB_ok(x:Int):0<=adB x/\adB x<=999:=by
 unfold adB;have h:=IntKind.wrap_u64 x;have h0:0<=IntKind.u64.wrap x:=by omega
 rw[Int.tmod_eq_emod_of_nonneg h0];unfold wrap64;omega
def adOp(i:Nat)(x:Int):OpX:=⟨1,adA i x,adB x,0⟩
def adOps(ls:Nat->List Int)(i:Nat):List OpX:=((ls i).take 500).map (adOp i)
theorem adOps_len(ls:Nat->List Int)(i:Nat):(adOps ls i).length=min (ls i).length 500:=by
 unfold adOps;rw[List.length_map,List.length_take,Nat.min_comm]
theorem adOps_ok(ls:Nat->List Int)(i:Nat):∀o∈adOps ls i,o.k=1/\0<=o.b/\o.b<=999:=by
 intro o ho;unfold adOps at ho;obtain⟨x,-,rfl⟩:=List.mem_map.1 ho;exact⟨rfl,adB_ok x⟩
structure AdR(w1:World)(l:List OpX)(v:Value)(w:World):Prop where
 be:Beyond w1 w
 row:w.ownsRow w1.heap.size 46 4 v l.length (opsL l)
structure AdI(w0:World)(ops:Nat->List OpX)(vs:List Value)(v:Value)(w:World):Prop where
 be:Beyond w0 w
 row:w.ownsRow w0.heap.size 34 1 v vs.length vs
 cp:∀i x,vs[i]?=some x->w.ownsRow w0.heap.size 46 4 x (ops i).length (opsL (ops i))
theorem AdI.re {w0 w:World}{ops:Nat->List OpX}{vs:List Value}{v:Value}(h:AdI w0 ops vs v w)(τ:Nat->Question->Nat)(d:Nat):AdI w0 ops vs v (Go.Car.re w τ d):=
 ⟨h.be.trans (Beyond.re _ _ _),row_re h.row τ d,λi x hx=>row_re (h.cp i x hx) τ d⟩
theorem AdI.beyond {w0 w w':World}{ops:Nat->List OpX}{vs:List Value}{v:Value}(h:AdI w0 ops vs v w)(hb:Beyond w w'):AdI w0 ops vs v w':=
 ⟨h.be.trans hb,ownsRow_of h.row λg hg=>hb.2 g (own_lt h.row hg).2.2,λi x hx=>ownsRow_of (h.cp i x hx) λg hg=>hb.2 g (own_lt (h.cp i x hx) hg).2.2⟩
theorem opsL_app(l:List OpX)(o:OpX):opsL (l++[o])=opsL l++o.cells:=by
 unfold opsL;rw[List.flatMap_append];simp
theorem ad_one{w1 w:World}{l:List OpX}{v:Value}(h:AdR w1 l v w)(hl:l.length<=1048576)(o:OpX):
 ∃g C w2,(Builtin.append_ #[34,34] 34 #[v,.slice (some ⟨w.heap.size,0,none⟩) 1 1]).run Try.prog (w.alloc (.cells #[.int .i64 o.k,.int .i64 o.a,.int .i64 o.b,.int .i64 o.c] 46))=.ok (.slice (some ⟨g,0,none⟩) (l.length+1) C) w2/\AdR w1 (l++[o]) (.slice (some ⟨g,0,none⟩) (l.length+1) C) w2:=by
 obtain⟨ti,hti,hz,hz1,hz2⟩:∃ti,Try.prog.info? 46=some ti/\ti.zero=some (.agg #[.int .i64 0,.int .i64 0,.int .i64 0,.int .i64 0])/\ti.size=4/\ti.bytes=32:=⟨_,rfl,rfl,rfl,rfl⟩;obtain⟨g,C,w2,r,ow,wr,-,-⟩:=copy_one (P:=Try.prog) (w:=w) (t:=34) (ty:=34) (e:=46) (k:=4) (by kernel_rfl) hti hz hz1 hz2 rfl (by decide) (cs:=o.cells) h.row h.be.1 rfl (by simp[OpX.cells,Value.oneCell']) (by simp only[maxLen];omega) (by omega);refine⟨g,C,w2,r,⟨by have:=h.be.1;have:=wr.size;omega,λb hb=>?_⟩,by rw[List.length_append,opsL_app];exact ow⟩;exact(wr.old b (Nat.lt_of_lt_of_le hb h.be.1) λhv=>by have:=(own_lt h.row hv).2.1;omega).trans (h.be.2 b hb)
theorem ad_thread{w0 w1 w:World}{ops:Nat->List OpX}{vs:List Value}{v x:Value}{l:List OpX}(h:AdI w0 ops vs v w1)(hr:AdR w1 l x w)(hl:ops vs.length=l)(hn:vs.length<=1048576):
 ∃g C w2,(Builtin.append_ #[23,23] 23 #[v,.slice (some ⟨w.heap.size,0,none⟩) 1 1]).run Try.prog (w.alloc (.cells #[x] 34))=.ok (.slice (some ⟨g,0,none⟩) (vs.length+1) C) w2/\AdI w0 ops (vs++[x]) (.slice (some ⟨g,0,none⟩) (vs.length+1) C) w2:=by
 obtain⟨tj,htj,hy,hy1,hy2⟩:∃ti,Try.prog.info? 34=some ti/\ti.zero=some (.slice none 0 0)/\ti.size=1/\ti.bytes=24:=⟨_,rfl,rfl,rfl,rfl⟩;have h2:=h.beyond hr.be;obtain⟨p,c,ex,-,-⟩:=own_slice hr.row;obtain⟨g,C,w2,r,ow,wr,-,-⟩:=copy_one (P:=Try.prog) (w:=w) (t:=23) (ty:=23) (e:=34) (k:=1) (by kernel_rfl) htj hy hy1 hy2 rfl (by decide) (cs:=[x]) h2.row h2.be.1 rfl (by rw[ex];simp[Value.oneCell']) (by simp only[maxLen];omega) (by omega);have kr:∀{B n:Nat}{v':Value}{xs:List Value},w.ownsRow B 46 4 v' n xs->w2.ownsRow B 46 4 v' n xs:=λhq=>ownsRow_of hq λg hg=>by
  obtain⟨⟨c,hc⟩,_,hlt⟩:=own_lt hq hg;refine wr.old g hlt λhv=>?_;obtain⟨⟨c2,hc2⟩,_⟩:=own_lt h2.row hv;exact absurd (heap_type hc hc2) (by decide)
 refine⟨g,C,w2,r,⟨by have:=h2.be.1;have:=wr.size;omega,λb hb=>?_⟩,by rw[List.length_append];exact ow,λi y hy=>?_⟩
 · exact(wr.old b (Nat.lt_of_lt_of_le hb h2.be.1) λhv=>by have:=(own_lt h2.row hv).2.1;omega).trans (h2.be.2 b hb)
 · rw[List.getElem?_append]at hy;split at hy
   · exact kr (h2.cp i y hy)
   · rename_i hge;have:i=vs.length:=by
      have:=(List.getElem?_eq_some_iff.1 hy).1;simp at this;omega
     subst this;simp only[Nat.sub_self,al_g0,al_oi]at hy;subst hy;rw[hl];exact kr (ownsRow_base hr.row h.be.1)
theorem adders_lone{w:World}{lp:Option Addr}{ll lc:Nat}{ls:Nat->List Int}(hI:ListsIn w lp ll ls)(hn:ll<=1048576)(hln:∀i,i<ll->(ls i).length<=1048576):
 Calls Try.prog 19 #[.slice lp ll lc] w (λe w'=>∃vs p C t,e=.returned (.tuple #[.slice p (min ll 63) C,.int .i64 t])/\vs.length=min ll 63/\AdI w (adOps ls) vs (.slice p (min ll 63) C) w'):=by
 obtain⟨m,hm⟩:∃m,min ll 63=m:=⟨_,rfl⟩;rw[hm];have HI:=Lib.hid (And.intro hI (And.intro hn (And.intro hln hm)));clear hI hn hln hm
 go_enter Try.func19,Try.f19
 go_wp2_with (fail)
 go_loopg [4,5,6] m (λk s4 s5 s6 wr=>∃(j:Nat)(vs:List Value)(p:Option Addr)(C:Nat)(t:Int),k=m - j/\j<=m/\s6=.int .i64 j/\s5=.int .i64 t/\s4=.slice p j C/\vs.length=j/\AdI w (adOps ls) vs (.slice p j C) wr)
 case atStart=>exact⟨0,[],none,0,0,rfl,Nat.zero_le _,rfl,rfl,rfl,rfl,Beyond.refl _,World.ownsRow_nil _ _ _ _,λi x hx=>by simp at hx⟩
 case round=>
  obtain⟨j,vs,p,C,t,hk,hj,rfl,rfl,rfl,hvl,hR⟩:=hrel;have HR:=Lib.hid (And.intro hvl hR);clear hvl hR;have hj0:(0:Int)<=j:=by omega
  by_cases hlt:j<m
  · have hlt1:(j:Int)<(ll:Int):=by have:=HI.out.2.2.2;omega
    have hlt2:(j:Int)<63:=by have:=HI.out.2.2.2;omega
    obtain⟨pb,po,rfl,hcell⟩:=HI.out.1 (by omega);obtain⟨q,Cq,hq1,hq2⟩:=hcell j (by omega);have hq3:=HR.out.2.be.cell hq1;obtain⟨Lj,hLj⟩:∃x,(ls j).length=x:=⟨_,rfl⟩;obtain⟨mm,hmm⟩:∃x,min Lj 500=x:=⟨_,rfl⟩;rw[hLj]at hq3;have HQ:=Lib.hid (And.intro hq2 (And.intro hLj hmm));clear hq1 hq2 hcell hLj hmm
    go_wp2_with (fail)
    go_loopg [5,7,8] mm (λk s5 s7 s8 wr2=>∃(i:Nat)(p7:Option Addr)(C7:Nat)(t:Int)(l:List OpX),k=mm - i/\i<=mm/\s8=.int .i64 i/\s5=.int .i64 t/\s7=.slice p7 i C7/\l=(adOps ls j).take i/\l.length=i/\AdR wr l (.slice p7 i C7) wr2)
    case atStart=>exact⟨0,none,0,t,[],rfl,Nat.zero_le _,rfl,rfl,rfl,rfl,rfl,Beyond.refl _,World.ownsRow_nil _ _ _ _⟩
    case round=>
     obtain⟨i,p7,C7,t,l,hk2,hi,rfl,rfl,rfl,hl1,hl2,hA⟩:=hrel;have HA:=Lib.hid (And.intro hl1 (And.intro hl2 hA));have hq4:=hA.be.cell hq3;clear hl1 hl2 hA hq3;have hi0:(0:Int)<=i:=by omega
     by_cases hli:i<mm
     · have hli1:(i:Int)<(Lj:Int):=by have:=HQ.out.2.2;omega
       have hli2:(i:Int)<500:=by have:=HQ.out.2.2;omega
       obtain⟨gb,go,rfl,hc⟩:=HQ.out.1 (by intro e;have:=HQ.out.2;rw[e]at this;simp at this;omega);have hc1:=hc i (by rw[HQ.out.2.1];omega);have hc2:=HA.out.2.2.be.cell (HR.out.2.be.cell hc1);obtain⟨x,hx⟩:∃x,(ls j).getD i 0=x:=⟨_,rfl⟩;rw[hx]at hc2;obtain⟨g,Cg,w3,r,hA3⟩:=ad_one HA.out.2.2 (by rw[HA.out.2.1];have:=HQ.out.2.2;omega) (adOp j x);rw[HA.out.2.1]at r hA3;simp only[adOp,adA,adB]at r;have htk:l++[adOp j x]=(adOps ls j).take (i+1):=by
        have hget:(adOps ls j)[i]?=some (adOp j x):=by
         unfold adOps;rw[List.getElem?_map,List.getElem?_take,if_pos (by omega)];have hil:i<(ls j).length:=by rw[HQ.out.2.1];omega
         rw[List.getD_eq_getElem?_getD,List.getElem?_eq_getElem hil]at hx;rw[List.getElem?_eq_getElem hil];show some (adOp j ((ls j)[i]'hil))=_;rw[show(ls j)[i]'hil=x from hx]
        rw[List.take_add_one,hget,HA.out.1];rfl
       have HX:=Lib.hid (And.intro htk hA3);clear hx hc hc1 htk hA3
       go_wp2_with (at_builtin;go_loud (refine wpList_arun rfl (.tmp 43) (.tmp 56) 34 rfl r ?_))
       go_roundg (mm - (i+1))
       case measure=>omega
       case rel=>exact⟨i+1,_,Cg,_,_,rfl,by omega,rfl,rfl,rfl,HX.out.1,by rw[List.length_append,HA.out.2.1];rfl,HX.out.2⟩
     · obtain rfl:i=mm:=by omega
       obtain⟨g,Cg,w3,r,hA3⟩:=ad_thread HR.out.2 HA.out.2.2 (by rw[HR.out.1,HA.out.1,List.take_of_length_le];rw[adOps_len,HQ.out.2.1,HQ.out.2.2];exact Nat.le_refl _) (by rw[HR.out.1];have:=HI.out.2.2.2;omega);rw[HR.out.1]at r hA3;have HX:=Lib.hid hA3;clear hA3
       by_cases hli1:i<Lj
       · have hli2:(i:Int)<(Lj:Int):=by omega
         have hli3:¬(i:Int)<500:=by have:=HQ.out.2.2;omega
         go_wp2_with (at_builtin;go_loud (refine wpList_arun rfl (.tmp 61) (.tmp 63) 23 rfl r ?_))
         go_roundg (m - (j+1))
         case measure=>omega
         case rel=>exact⟨j+1,_,_,Cg,_,rfl,by omega,rfl,rfl,rfl,by rw[List.length_append,HR.out.1];rfl,HX.out⟩
       · have hli2:¬(i:Int)<(Lj:Int):=by omega
         go_wp2_with (at_builtin;go_loud (refine wpList_arun rfl (.tmp 61) (.tmp 63) 23 rfl r ?_))
         go_roundg (m - (j+1))
         case measure=>omega
         case rel=>exact⟨j+1,_,_,Cg,_,rfl,by omega,rfl,rfl,rfl,by rw[List.length_append,HR.out.1];rfl,HX.out⟩
  · obtain rfl:j=m:=by omega
    by_cases hlt1:j<ll
    · have hlt2:(j:Int)<(ll:Int):=by omega
      have hlt3:¬(j:Int)<63:=by have:=HI.out.2.2.2;omega
      go_wp2;refine bodyPost_ret (v:=.tuple #[.slice p j C,.int .i64 t]) ?_ rfl ⟨vs,p,C,⟨t,rfl⟩,HR.out.1,HR.out.2⟩;simp only[results,Try.f19];simp[go_sem]
    · have hlt2:¬(j:Int)<(ll:Int):=by omega
      go_wp2;refine bodyPost_ret (v:=.tuple #[.slice p j C,.int .i64 t]) ?_ rfl ⟨vs,p,C,⟨t,rfl⟩,HR.out.1,HR.out.2⟩;simp only[results,Try.f19];simp[go_sem]
end Go.Proofs
set_option maxHeartbeats 8000000
set_option maxRecDepth 100000
namespace Go.Proofs
open Go Go.Conc Go.RowKit Go.Car
open Go.ConcN (upd upd_ne upd_same)
structure ATr(lo hi N:Nat)(R:RS)(ab:Nat)(ov sv:Value)(w:World):Prop where
 ans:∃am,AnsRep tT ab N am w/\(am.st=λi=>(R.T i).ans)/\∀i b,i<N->am.X i b≠none->lo<=b/\b<hi
 abl:lo<=ab/\ab<hi
 orow:w.ownsRow lo 3 1 ov R.ord.length (R.ord.map λ(i:Nat)=>.int .i64 i)
 ohi:∀g,ov.ownBlock=some g->g<hi
 srow:w.ownsRow lo 2 1 sv R.C.length (R.C.map (Value.int .i64))
 shi:∀g,sv.ownBlock=some g->g<hi
section
variable {lo hi N:Nat} {R:RS} {ab:Nat} {ov sv:Value} {w w':World}
theorem ATr.at' (h:ATr lo hi N R ab ov sv w)(stk:Bool):TraceAt w (.agg #[.slice (some ⟨ab,0,none⟩) N N,ov,sv,.bool stk]) N (λi=>(R.T i).ans) (R.ord.map λ(i:Nat)=>(i:Int)) R.C stk:=by
 obtain⟨am,h1,h2,h3⟩:=h.ans;have:=trace_of (stk:=stk) h1 h.orow h.srow;rw[h2]at this;exact this
end
theorem atr_of{N:Nat}{w w':World}{ws sched:List Int}{ops:Nat->List OpX}{mo:Int}{R:RS}{ab:Nat}{ov sv:Value}{am:AnsM}(h:PlayedR N w (strT ws ops N mo sched) (strT ws ops N mo sched).s.1 ab ov sv am w')(hR:playR ops N (min mo.toNat 1048576) sched (begunL ws)=R):
 ATr w.heap.size w'.heap.size N R ab ov sv w'/\leftN (strT ws ops N mo sched).ov N=leftN (ovR R) N:=by
 obtain⟨q1,q2,q3,q4⟩:=plays_same ws ops N mo sched;rw[hR]at q1 q2 q3 q4;have ho:=h.orow;have hs:=h.srow;rw[q3]at ho;rw[q1]at hs;refine⟨⟨⟨am,h.ans,by rw[h.ast];exact funext q2,λi b hi hb=>⟨h.ansn i b hi hb,?_⟩⟩,⟨h.abl,heap_lt h.ans.hd⟩,ho,λg hg=>(own_lt ho hg).2.2,hs,λg hg=>(own_lt hs hg).2.2⟩,q4⟩;cases hX:am.X i b with
 |none=>exact absurd hX hb
 |some o=>exact heap_lt (h.ans.blk i b o hi hX)
section
variable {W0 w w':World} {n0 N:Nat} {spec:List Value} {R:RS} {stk:Bool} {s:Nat} {L:Nat->Bool} {vals:List Value}
end
structure PlG(W0:World)(RP:Nat->Option Obj)(wp pp scp:Option Addr)(wl np N sl:Nat)(sp:Nat->Option Addr)(L Cp:Nat->Nat)(ops:Nat->List OpX)(ws sched:List Int)(mo:Int)(R:RS)(stk:Bool):Prop where
 wsl:ws.length=wl
 wlo:wl<=1048576
 wc:0<wl->∃wb wo,wp=some ⟨wb,wo,none⟩/\∀i,i<wl->W0.cell? ⟨wb,wo+i,none⟩=some (.int .i64 (ws.getD i 0))
 rp:∀b o,RP b=some o->W0.heap[b]?=some o
 op:OpsAt W0 RP pp np N sp L Cp ops
 scl:sched.length=sl
 sle:sl<=1048576
 sc:sched≠[]->∃sb off,scp=some ⟨sb,off,none⟩/\∀j x,sched[j]?=some x->W0.cell? ⟨sb,off+j,none⟩=some (.int .i64 x)
 pl:playR ops N (min mo.toNat 1048576) sched (begunL ws)=R
 st:decide (0<leftN (ovR R) N)=stk
theorem PlG.calls {Fin:Machine->Trace->Prop}(hFin:Back Try.prog Fin){n:Nat}(hn:0<n){W0 w:World}{RP:Nat->Option Obj}{wp pp scp:Option Addr}{wl np N sl Cw Cn Cs:Nat}{sp:Nat->Option Addr}{L Cp:Nat->Nat}{ops:Nat->List OpX}{ws sched:List Int}{mo:Int}{R:RS}{stk:Bool}(h:PlG W0 RP wp pp scp wl np N sl sp L Cp ops ws sched mo R stk)(hb:Beyond W0 w){c:Frame}{cs:List Frame}
 (hmain:∀ab p1 c1 p2 c2 w',Beyond w w'->ATr w.heap.size w'.heap.size N R ab (.slice p1 R.ord.length c1) (.slice p2 R.C.length c2) w'->J0 Try.prog Fin (n+N) (G (c.finish (.agg #[.slice (some ⟨ab,0,none⟩) N N,.slice p1 R.ord.length c1,.slice p2 R.C.length c2,.bool stk])) cs) w'):
 J0 Try.prog Fin n (G (Frame.enter Try.prog 10 #[.slice wp wl Cw,.slice pp np Cn,.slice scp sl Cs,.int .i64 mo] .normal) (c::cs)) w:=by
 rw[←h.scl];refine strplay_calls hFin hn (RP:=RP) (ws:=ws) (sched:=sched) h.wsl (by have:=h.wlo;omega) (λh0=>?_) (λb o hbo=>hb.heap (h.rp b o hbo)) (h.op.beyond hb) (by rw[h.scl];have:=h.sle;omega) (λh0=>?_) ?_
 · obtain⟨wb,wo,e,hc⟩:=h.wc h0;exact⟨wb,wo,e,λi hi=>hb.cell (hc i hi)⟩
 · obtain⟨sb,off,e,hc⟩:=h.sc h0;exact⟨sb,off,e,λj x hj=>hb.cell (hc j x hj)⟩
 · intro ab ov sv am w' hO;obtain⟨h1,h2⟩:=atr_of hO h.pl;obtain⟨p1,c1,rfl,-,-⟩:=own_slice h1.orow;obtain⟨p2,c2,rfl,-,-⟩:=own_slice h1.srow;rw[h2,h.st];exact hmain ab p1 c1 p2 c2 w' ⟨hO.size,hO.old⟩ h1
section
variable {w4 W1 w:World} {M:Nat} {ts:List TypeId}
end
section
variable {w4 W1 w:World} {M Bs np Cn:Nat} {pp:Option Addr} {tops:Nat->List OpX} {l:List (Nat×Nat×Nat)} {p7:Option Addr} {C7 i k:Nat}
end
theorem row_at{X:Nat->Prop}{W1 w:World}{S M B n n' C:Nat}{T:TypeId}{p:Option Addr}{xs:List Value}(h:W1.ownsRow B T 1 (.slice p n C) n' xs)(hB:S<=B)(hM:∀g,(Value.slice p n C).ownBlock=some g->g<M)(hw:Wr X W1 w){i:Nat}(hi:i<n'):∃g v c,p=some ⟨g,0,none⟩/\w.heap[g]?=some (.cells c T)/\w.cell? ⟨g,i,none⟩=some v/\S<=g/\g<M/\∃c,W1.heap[g]?=some (.cells c T):=by
 rcases h.2 with⟨hv,h0⟩|⟨g,cap,cur,hv,hb,hh,hn,hm,hs,ht⟩
 · omega
 · cases hv;obtain⟨c',hc',hsz⟩:=hw.shp g cur T hh;exact⟨g,_,c',rfl,hc',(zq0 hc').trans (Array.getElem?_eq_getElem (by rw[hsz,hs];omega)),by omega,hM g rfl,cur,hh⟩
section
variable {W1 w w':World} {S M N ab:Nat} {ln:Nat->Nat} {hv:Nat->Value} {sl:Nat->Nat->Value} {i k:Nat}
end
structure KIn(W:World)(wp pp scp:Option Addr)(Cw np Cs:Nat)(ws sched:List Int)(tops:Nat->List OpX):Prop where
 w:IntsAt W (.slice wp ws.length Cw) ws
 wl:ws.length<=1048576
 t:ThrIn W pp np tops
 nl:np<=1048576
 tl:∀i,i<np->(tops i).length<=1048576
 s:IntsAt W (.slice scp sched.length Cs) sched
 sl:sched.length<=1048576
theorem ThrIn.beyond {w w':World}{pp:Option Addr}{n:Nat}{tops:Nat->List OpX}(h:ThrIn w pp n tops)(hb:Beyond w w'):ThrIn w' pp n tops:=λh0=>by
 obtain⟨pb,po,e,hc⟩:=h h0;refine⟨pb,po,e,λi hi=>?_⟩;obtain⟨q,C,c1,c2,c3⟩:=hc i hi;refine⟨q,C,hb.cell c1,c2,λhne=>?_⟩;obtain⟨gb,go,e2,h3⟩:=c3 hne;refine⟨gb,go,e2,λk c hk j hj=>?_⟩;have h4:=h3 k c hk j hj;obtain⟨u,hu⟩:∃u,c.cells[j]?=some u:=⟨_,List.getElem?_eq_getElem (show j<c.cells.length from hj)⟩;rw[hu]at h4 ⊢;exact hb.cell h4
theorem plg_of{W:World}{wp pp scp:Option Addr}{Cw np Cs:Nat}{ws sched:List Int}{tops:Nat->List OpX}(hI:KIn W wp pp scp Cw np Cs ws sched tops)(mo:Int):
 ∃sp Cp,PlG W (λb=>W.heap[b]?) wp pp scp ws.length np (min np 64) sched.length sp (λi=>(tops i).length) Cp (λi=>(tops i).take 65536) ws sched mo (playR (λi=>(tops i).take 65536) (min np 64) (min mo.toNat 1048576) sched (begunL ws)) (decide (0<leftN (ovR (playR (λi=>(tops i).take 65536) (min np 64) (min mo.toNat 1048576) sched (begunL ws))) (min np 64))):=by
 obtain⟨sp,Cp,a1,_⟩:=thr_args hI.t (by have:=hI.nl;omega) hI.tl;refine⟨sp,Cp,rfl,hI.wl,λhp=>?_,λb o h=>h,a1,rfl,hI.sl,λhne=>?_,rfl,rfl⟩
 · obtain⟨p',C',e,hc⟩:=hI.w;cases e;exact hc (List.length_pos_iff.1 hp)
 · obtain⟨p',C',e,hc⟩:=hI.s;cases e;obtain⟨b,o,e2,h2⟩:=hc hne;refine⟨b,o,e2,λj x hj=>?_⟩;have hjl:=(List.getElem?_eq_some_iff.1 hj).1;rw[h2 j hjl,List.getD_eq_getElem?_getD,hj];rfl
end Go.Proofs
set_option maxHeartbeats 4000000
set_option maxRecDepth 100000
namespace Go.Proofs
open Go Go.Conc Go.RowKit Go.Car
section
variable {Ml S β:Type} {C:Core Ml S} {ro:Nat->Option Obj} {i:Nat}
end
def callP{S:Type}(pA:Int->Int->Proc S Int)(pS pT:Proc S Int)(pM:Int->Int->Int->Proc S Unit)(pE:Proc S (Int×Bool))(op:OpX):Proc S Ans:=
 if op.k=1 then(pA op.a op.b).bind λx=>Proc.ret ⟨true,x,[]⟩
 else if op.k=2 then pS.bind λx=>Proc.ret ⟨true,x,[]⟩
 else if op.k=3 then pT.bind λx=>Proc.ret ⟨true,x,[]⟩
 else if op.k=4 then(pM op.a op.b op.c).bind λ_=>Proc.ret ⟨true,0,[]⟩
 else if op.k=5 then pE.bind λx=>Proc.ret ⟨x.2,x.1,[]⟩
 else Proc.ret Ans.none
section
variable {Ml S β:Type} {C:Core Ml S} {ro:Nat->Option Obj} {i:Nat} {pA:Int->Int->Proc S Int} {pS pT:Proc S Int} {pM:Int->Int->Int->Proc S Unit} {pE:Proc S (Int×Bool)}
end
set_option maxHeartbeats 1000000
set_option maxRecDepth 100000
section
variable {Ml S α:Type} {C:Core Ml S} {ro:Nat->Option Obj} {i:Nat}
end
section
variable {Fin:Machine->Trace->Prop} {n:Nat} {w:World}
end
section
variable {S2 α β:Type}
end
section
variable {S:Type} {p:Proc S Unit} {s0:S}
end
set_option maxHeartbeats 4000000
set_option maxRecDepth 100000
section
variable {Ml S β:Type} {C:Core Ml S} {ro:Nat->Option Obj} {i:Nat}
end
end Go.Proofs
set_option maxHeartbeats 8000000
set_option maxRecDepth 100000
namespace Go.Proofs
open Go Go.Conc Go.RowKit Go.Car
open Go.ConcN (upd upd_ne upd_same)
section
variable {W w w':World} {K N c c' b11 b12:Nat} {ops el opv av:Value} {j:Int} {l l':List Int} {a:Ans} {L:Nat->Bool} {vals:List Value}
end
def cqR:Code->Code
 |.seq _ b=>b
 |_=>.skip
def cqB:Code->Code
 |.block _ c=>c
 |_=>.skip
def cqO:Code->Code
 |.loop c=>c
 |_=>.skip
noncomputable def scT(n:Nat):Code:=tailN n (Try.f4.body.getD .skip)
noncomputable def scB:Code:=cqO (cqB (cqR (headC (scT 6))))
section
variable {w0 w w':World} {spec:List Value} {A:Ans} {L:Nat->Bool} {vals:List Value}
end
section
variable {w0 w w':World} {spec:List Value} {stl:List Int} {L:Nat->Bool} {vals:List Value}
end
theorem make_i64(w:World)(W:Nat)(hW:W<=1099511627776):(Instr.makeSlice 22 (.int .i64 W) (.int .i64 W)).run Try.prog w=.ok (.slice (some ⟨w.heap.size,0,none⟩) W W) (w.alloc (.cells (Array.replicate W (.int .i64 0)) 2)):=by
 obtain⟨ti,hti,hz,hz1,hz2⟩:∃ti,Try.prog.info? 2=some ti/\ti.zero=some (.int .i64 0)/\ti.size=1/\ti.bytes=8:=⟨_,rfl,rfl,rfl,rfl⟩;have:=run_make (P:=Try.prog) w 22 2 ti (.int .i64 0) (by kernel_rfl) hti hz .i64 .i64 W W (by omega) (Int.le_refl _) (by rw[hz2];omega) (by omega);simp only[Int.toNat_natCast,hz1,Nat.mul_one]at this;rw[this];congr 3;have hzc:(Value.int .i64 0).cells=#[Value.int .i64 0]:=rfl;rw[hzc];apply Array.ext_getElem?;intro i
 by_cases hi:i<W
 · simp[madeCells,hi,Nat.mod_one]
 · simp[madeCells,hi]
end Go.Proofs
