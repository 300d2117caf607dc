/- YtnjpcibdaanpeaaSPlays4: part 14 of the proof (the texts behind it, in order). -/
import Derived.Test.YtnjpcibdaanpeaaQ13
set_option linter.unusedSimpArgs false
set_option linter.unusedVariables false
set_option linter.unusedSectionVars false
set_option linter.unnecessarySimpa false
set_option maxHeartbeats 4000000
set_option maxRecDepth 100000
namespace Go.Proofs
open Go Go.Conc Go.RowKit Go.Car
structure RunIn(B:Nat)(w:World)(pp:Option Addr)(np N:Nat)(sp:Nat->Option Addr)(L Cp:Nat->Nat)(opv:Nat->Value)(ops:Nat->List OpX):Prop where
 eq:N=min np 64
 le:np<=4611686018427387904
 at':0<np->∃tb to',pp=some ⟨tb,to',none⟩/\tb<B/\∀i,i<N->w.cell? ⟨tb,to'+i,none⟩=some (.slice (sp i) (L i) (Cp i))
 row:∀i,i<N->L i<=Cp i/\L i<=4611686018427387904/\(0<L i->∃g o,sp i=some ⟨g,o,none⟩)
 len:∀i,i<N->(ops i).length=min (L i) 65536
 val:∀i,i<N->opv i=.slice (sp i) (min (L i) 65536) (Cp i)
 ops:∀i,i<N->OpsB B w (opv i) (ops i)
def RunPost(mb B N:Nat)(opv:Nat->Value)(r:RS)(w:World)(v:Value)(w':World):Prop:=∃cv tv av sv ansv ordv stv,v=.agg #[ansv,ordv,stv,.bool (decide (0<leftN (ovR r) N))]/\RefRep mb B N opv r.C r.T cv tv av sv w'/\w'.ownsRow B 3 1 ordv r.ord.length (r.ord.map λ(i:Nat)=>.int .i64 i)/\w'.ownsRow B 2 1 stv r.C.length (r.C.map (Value.int .i64))/\w'.ownsRow B 41 1 ansv N ((List.range N).map av)/\KeepB B w w'
def RunSt(mb B N:Nat)(opv:Nat->Value)(w1:World)(r:RS)(ordv:Value)(wx:World):Prop:=∃cv tv av sv,RefRep mb B N opv r.C r.T cv tv av sv wx/\wx.ownsRow w1.heap.size 3 1 ordv r.ord.length (r.ord.map λ(i:Nat)=>.int .i64 i)/\KeepB B w1 wx
section
variable {mb B n:Nat} {opv:Nat->Value} {C:List Int} {T:Nat->RT} {cv tv:Value} {av sv:Nat->Value} {w w':World}
theorem run_lone{pp scp:Option Addr}{np N Cn Cs:Nat}{sp:Nat->Option Addr}{L Cp:Nat->Nat}{ops:Nat->List OpX}{sched:List Int}{mo:Int}
 (h:RefRep mb B 0 opv C (λ_=>rt0) cv (.slice none 0 0) av sv w) (hin:RunIn B w pp np N sp L Cp opv ops) (hC0:0<C.length) (hC1:C.length<=64) (hns:sched.length<=4611686018427387904)
 (hsc:sched≠[]->∃sb off,scp=some ⟨sb,off,none⟩/\sb<B/\∀j x,sched[j]?=some x->w.cell? ⟨sb,off+j,none⟩=some (.int .i64 x)):
 Calls Try.prog 29 #[.pointer (some ⟨mb,0,none⟩),.slice pp np Cn,.slice scp sched.length Cs,.int .i64 mo] w λe w'=>∃v,e=.returned v/\RunPost mb B N opv (playR ops N (min mo.toNat 1048576) sched C) w v w':=by
 have hB:B<=w.heap.size:=Nat.le_trans h.lo (Nat.le_of_lt (zqa h.mach))
 have h1:=h.alloc (.cells #[.slice none 0 0,.slice none 0 0,.slice none 0 0,.bool false] 31)
 have k1:=KeepB.al hB (.cells #[.slice none 0 0,.slice none 0 0,.slice none 0 0,.bool false] 31)
 have b1:=zqq w (.cells #[.slice none 0 0,.slice none 0 0,.slice none 0 0,.bool false] 31)
 obtain⟨H,hH⟩:∃H,w.heap.size=H:=⟨_,rfl⟩
 obtain⟨ns,hsl⟩:∃ns,sched.length=ns:=⟨_,rfl⟩
 obtain⟨most,hmost⟩:∃m,min mo.toNat 1048576=m:=⟨_,rfl⟩
 rw[hH]at b1 hB
 rw[hsl]at hns ⊢
 rw[hmost]
 have hN:=hin.eq
 have H1:=Lib.hid (And.intro h1 (And.intro k1 b1))
 have HI:=Lib.hid (And.intro hin (And.intro hC0 (And.intro hC1 (And.intro hsl (And.intro hH (And.intro hmost hB))))))
 have HS:=Lib.hid hsc
 have HN:=Lib.hid hN
 clear h h1 k1 b1 hin hC0 hC1 hsl hsc hH hmost hN hB
 go_enter Try.func29,Try.ntmps29
 go_upto_region 1 with(fail)
 rw[HI.out.2.2.2.2.1]
 generalize w.alloc (.cells #[.slice none 0 0,.slice none 0 0,.slice none 0 0,.bool false] 31)=w1 at H1 ⊢
 go_upto_if 21 with(fail)
 go_cut [9]from 18 to 161 (λs9 wx=>s9=.int .i64 (N:Nat)/\wx=w1)
 case first=>
  go_wp2_with (fail)
  all_goals(go_meet;refine⟨?_,rfl⟩;congr 1;have:=HN.out;omega)
 case rest=>
 obtain⟨rfl,rfl⟩:=hcut
 go_upto_if 23 with(fail)
 go_cut [3]from 18 to 161 (λs3 wx=>s3=.int .i64 (mo.toNat:Nat)/\wx=wc)
 case first=>
  go_wp2_with (fail)
  all_goals(go_meet;refine⟨?_,rfl⟩;congr 1;omega)
 case rest=>
 obtain⟨rfl,rfl⟩:=hcut
 go_upto_if 25 with(fail)
 go_cut [3]from 18 to 161 (λs3 wx=>s3=.int .i64 (most:Nat)/\wx=wc)
 case first=>
  go_wp2_with (fail)
  all_goals(go_meet;refine⟨?_,rfl⟩;congr 1;have:=HI.out.2.2.2.2.2.1;omega)
 case rest=>
 obtain⟨rfl,rfl⟩:=hcut
 go_upto_block 0 with(fail)
 go_cut [10,11]from 18 to 161 (λs10 s11 wx=>∃cv tv av sv,RefRep mb B N opv C (beginRS ops C N).T cv tv av sv wx/\KeepB B wc wx)
 case first=>
  go_wp2_with (fail)
  go_loopg [10,11] N (λk s10 s11 wr=>∃(j:Nat)(cv tv:Value)(av sv:Nat->Value),k=N - j/\j<=N/\s10=.int .i64 j/\RefRep mb B j opv C (beginRS ops C j).T cv tv av sv wr/\KeepB B wc wr)
  case atStart=>exact⟨0,_,_,_,_,rfl,Nat.zero_le _,rfl,H1.out.1,KeepB.refl _ _⟩
  case round=>
   obtain⟨j,cv',tv,av',sv',hk,hj,rfl,hR,hkb⟩:=hrel
   have hj0:(0:Int)<=j:=by omega
   by_cases hlt:j<N
   · obtain⟨tb,to',rfl,htb,hcw⟩:=HI.out.1.at' (by have:=HN.out;omega)
     have hrow:=HI.out.1.row j hlt
     have hval:=HI.out.1.val j hlt
     have hcj:=hcw j hlt
     obtain⟨Lj,hLj⟩:∃x,L j=x:=⟨_,rfl⟩
     obtain⟨Cj,hCj⟩:∃x,Cp j=x:=⟨_,rfl⟩
     obtain⟨spj,hspj⟩:∃x,sp j=x:=⟨_,rfl⟩
     rw[hLj,hCj,hspj]at hrow hval hcj
     obtain⟨Mj,hMj⟩:∃x,min Lj 65536=x:=⟨_,rfl⟩
     rw[hMj]at hval
     have hkw:=H1.out.2.1.trans hkb
     have c2:wr.cell? ⟨tb,to'+j,none⟩=some (.slice spj Lj Cj):=(zq4 (hkw.old tb htb)).trans hcj
     obtain⟨tp,Ct,rfl,-⟩:=hR.trow.form
     have m:wr.cell? ⟨mb,1,none⟩=some (.slice tp j Ct):=(zq0 (off:=1) hR.mach).trans rfl
     have hjN:(j:Int)<(N:Int):=by omega
     have hjn:(j:Int)<(np:Int):=by have:=HN.out;omega
     have hLC:(Lj:Int)<=(Cj:Int):=by omega
     have HX:=Lib.hid (And.intro hR (And.intro hkb (And.intro hkw (And.intro hrow (And.intro hval hMj)))))
     have HK:=Lib.hid (And.intro hk (And.intro hlt (And.intro hLj (And.intro hCj hspj))))
     clear hR hkb hkw hrow hval hMj hk hlt hLj hCj hspj hcj hcw
     go_upto_if 37 with(fail)
     go_cut [11]from 26 to 54 (λs11 wx=>s11=.slice spj Mj Cj/\wx=wr)
     case first=>
      by_cases hM:65536<Lj
      · obtain⟨go,oo,rfl⟩:=HX.out.2.2.2.1.2.2 (by omega)
        have hM':(65536:Int)<(Lj:Int):=by omega
        have hMC:(65536:Int)<=(Cj:Int):=by omega
        go_wp2_with (fail)
        go_meet
        refine⟨?_,rfl⟩
        have:=HX.out.2.2.2.2.2
        rw[show Mj=65536 by omega]
      · have hM':¬(65536:Int)<(Lj:Int):=by omega
        go_wp2_with (fail)
        go_meet
        refine⟨?_,rfl⟩
        have:=HX.out.2.2.2.2.2
        rw[show Mj=Lj by omega]
     case rest=>
     obtain⟨rfl,rfl⟩:=hcut
     obtain⟨xs,hown,-⟩:=HX.out.1.trow
     have hBS:B<=wc.heap.size:=Nat.le_trans HX.out.1.lo (Nat.le_of_lt (zqa HX.out.1.mach))
     obtain⟨tj,htj,hy0,hy1,hy2⟩:∃ti,Try.prog.info? 96=some ti/\ti.zero=some (.agg #[.slice none 0 0,.slice none 0 0,.int .i64 0,.int .i64 0,.int .i64 0,.int .i64 0,.slice none 0 0])/\ti.size=7/\ti.bytes=104:=⟨_,rfl,rfl,rfl,rfl⟩
     have TJ:=Lib.hid (And.intro htj (And.intro hy0 (And.intro hy1 hy2)))
     have HO:=Lib.hid (And.intro hown hBS)
     have hj64:j<=64:=by have:=HN.out;have:=HK.out.2.1;omega
     clear htj hy0 hy1 hy2 hown hBS
     have hx0:=(zq16 HO.out.1)
     go_wp2_with (at_builtin;go_loud (refine wpList_append_lies _ rfl (.tmp 44) (.tmp 48) 92 rfl B 96 tj (.agg #[.slice none 0 0,.slice none 0 0,.int .i64 0,.int .i64 0,.int .i64 0,.int .i64 0,.slice none 0 0]) 7 104 (by kernel_rfl) TJ.out.1 TJ.out.2.1 TJ.out.2.2.1 TJ.out.2.2.2 rfl (by decide) _ j xs rfl (row_allocK HO.out.1 _) _ 1 1 [.slice spj Mj Cj,.slice none 0 0,.int .i64 j,.int .i64 0,.int .i64 0,.int .i64 0,.slice none 0 0] rfl rfl (news_new rfl) (by simp[Value.oneCell']) (by decide) (by simp only[maxLen];omega) (by omega) (by rw[zqc];exact Nat.le_succ_of_le HO.out.2) _ rfl ?next))
     case next=>
      intro g7 cap7 w7 hown7 hgrow7 hat7 hlt7
      have hR:=HX.out.1
      have hsame:∀b,b<wc.heap.size->(Value.slice tp j Ct).ownBlock≠some b->w7.heap[b]?=wc.heap[b]?:=λb hb hne=>(hgrow7.block b (by rw[zqc];omega) (λe=>hne e.symm)).trans (by rw[zq8,if_neg (by omega)])
      have hmb:(Value.slice tp j Ct).ownBlock≠some mb:=λe=>by
       obtain⟨⟨c',hc'⟩,_⟩:=hR.trow.lt e
       exact absurd (zq1f hR.mach hc') (by decide)
      have hm7:=(hsame mb (zqa hR.mach) hmb).trans hR.mach
      have c7:w7.cell? ⟨mb,1,none⟩=some (.slice tp j Ct):=(zq0 (off:=1) hm7).trans rfl
      have f7:w7.frozen? ⟨mb,1,none⟩=false:=zqe hm7
      have hR8:=hR.pushT (w2:=w7) (v':=.slice (some ⟨g7,0,none⟩) (j+1) cap7) (o:=.slice spj Mj Cj) (λys hys=>by rw[own_unique hys HO.out.1];exact hown7) hsame (beginRS_un C j j (Nat.le_refl _))
      rw[show upd' opv j (.slice spj Mj Cj)=opv from by rw[←HX.out.2.2.2.2.1,upd_self]]at hR8
      have hk8:KeepB B wc (w7.setCell ⟨mb,1,none⟩ (.slice (some ⟨g7,0,none⟩) (j+1) cap7)):=KeepB.trans ⟨by have:=hgrow7.size;rw[zqc]at this;omega,λb hb=>hsame b (by have:=HO.out.2;omega) (λe=>by have:=(own_lt HO.out.1 e).2.1;omega),λb c T2 f hb hT=>(hsame b (zqa hb) (own_ne HO.out.1 hb hT.2.2.1.symm)).trans hb⟩ (KeepB.set hR.lo ⟨_,_,_,hm7,λh=>h.2.2.2 rfl⟩ 1 _)
      have H8:=Lib.hid (And.intro hR8 hk8)
      clear hR hsame hmb hm7 hR8 hk8 hown7 hgrow7 hat7 hlt7 c2 m
      go_wp2_with (fail)
      clear c7 f7
      generalize w7.setCell ⟨mb,1,none⟩ (.slice (some ⟨g7,0,none⟩) (j+1) cap7)=w8 at H8 ⊢
      have hT:=beginRS_un (ops:=ops) C j j (Nat.le_refl _)
      refine Calls.mono (settle_lone (i:=j) (ops:=ops j) H8.out.1 (Nat.lt_succ_self j) (by have:=HN.out;have:=HK.out.2.1;omega) ((HI.out.1.ops j HK.out.2.1).keep (HX.out.2.2.1.trans H8.out.2)) (by rw[HI.out.1.len j HK.out.2.1];omega) (by rw[hT];exact fit_rt0 _)) ?_
      rw[hT]
      clear hT
      rintro e w9 ⟨rfl,⟨av9,sv9,hR9⟩,hk9⟩
      have H9:=Lib.hid (And.intro hR9 ((HX.out.2.1.trans H8.out.2).trans hk9))
      clear hR9 hk9
      go_wp2_with (fail)
      go_roundg (N - (j+1))
      case measure=>have:=HK.out.1;have:=HK.out.2.1;omega
      case rel=>exact⟨j+1,_,_,_,_,rfl,HK.out.2.1,rfl,H9.out.1,H9.out.2⟩
   · obtain rfl:j=N:=by omega
     have hlt':¬(j:Int)<(j:Int):=by omega
     have H9:=Lib.hid (And.intro hR hkb)
     clear hR hkb hk hj
     go_wp2_with (fail)
     go_meet
     exact⟨_,_,_,_,H9.out.1,H9.out.2⟩
 case rest=>
 obtain⟨cv2,tv2,av2,sv2,hR2,hk2⟩:=hcut
 have HW1:=Lib.hid (And.intro (H1.out.2.1.trans hk2) (hk2.typ _ _ _ _ H1.out.2.2 ⟨by decide,by decide,by decide,by decide⟩))
 have HB2:=Lib.hid (show N<=64/\B<=wc.heap.size by have:=HN.out;have:=HI.out.2.2.2.2.2.2;have:=HI.out.2.2.2.2.1;have:=(H1.out.2.1.trans hk2).size;omega)
 have hst0:RunSt mb B N opv wc (beginRS ops C N) (.slice none 0 0) wc:=by
  obtain⟨e1,e2⟩:=beginRS_C (ops:=ops) C N
  exact⟨cv2,tv2,av2,sv2,by rw[e1];exact hR2,by rw[e2];exact World.ownsRow_nil _ _ _ _,KeepB.refl _ _⟩
 have HR2:=Lib.hid hst0
 clear hR2 hk2 H1 hst0
 obtain⟨R2,hR2⟩:∃R2,zq14 C.length ops N most sched (beginRS ops C N)=R2:=⟨_,rfl⟩
 have HE2:=Lib.hid hR2
 clear hR2
 obtain⟨w1,hw1⟩:∃x,x=wc:=⟨_,rfl⟩
 subst hw1
 go_upto_block 2 with(fail)
 go_cut [12,13,14]from 18 to 161 (λs12 s13 s14 wx=>InvR C.length N ops most R2/\RunSt mb B N opv w1 R2 s12 wx)
 case first=>
  go_wp2_with (fail)
  go_loopg [12,13,14] ns (λk s12 s13 s14 wr=>∃(j:Nat)(r:RS),k=ns - j/\j<=ns/\s13=.int .i64 j/\InvR C.length N ops most r/\RunSt mb B N opv w1 r s12 wr/\zq14 C.length ops N most (sched.drop j) r=R2)
  case atStart=>exact⟨0,_,rfl,Nat.zero_le _,rfl,inv_begin HI.out.2.1 rfl N,HR2.out,HE2.out⟩
  case round=>
   obtain⟨j,r,hk,hj,rfl,hinv,hst,hE⟩:=hrel
   have hj0:(0:Int)<=j:=by omega
   have hst':=hst
   obtain⟨_,_,_,_,-,ho,-⟩:=hst'
   obtain⟨po,Co,hs12,-,-⟩:=zq16 ho
   clear ho
   subst hs12
   obtain⟨lo,hlo⟩:∃x,r.ord.length=x:=⟨_,rfl⟩
   rw[hlo]at hst ⊢
   have hlom:lo<=most:=by rw[←hlo];exact hinv.ord
   have hm20:most<=1048576:=by have:=HI.out.2.2.2.2.2.1;omega
   have HLO:=Lib.hid hlo
   have HST:=Lib.hid hst
   have HINV:=Lib.hid hinv
   have HE:=Lib.hid (And.intro hk hE)
   clear hlo hst hinv hk hE
   by_cases hlt:j<ns
   · have hlt':(j:Int)<(ns:Int):=by omega
     by_cases hlm:lo<most
     · have hlm':(lo:Int)<(most:Int):=by omega
       obtain⟨sb,off,rfl,hsb,hcs⟩:=HS.out (by intro e;have:=HI.out.2.2.2.1;rw[e]at this;simp at this;omega)
       obtain⟨x,hx⟩:∃x,sched[j]?=some x:=⟨_,List.getElem?_eq_getElem (by have:=HI.out.2.2.2.1;omega)⟩
       have cs:wr.cell? ⟨sb,off+j,none⟩=some (.int .i64 x):=by
        obtain⟨_,_,_,_,-,-,hkb⟩:=HST.out
        exact(zq4 ((HW1.out.1.trans hkb).old sb hsb)).trans (hcs j x hx)
       have HX:=Lib.hid hx
       have HB:=Lib.hid (And.intro (show lo<1048576 by omega) HB2.out.2)
       clear hx hcs
       by_cases hx0:0<=x
       · by_cases hxN:x<(N:Int)
         · obtain⟨i,rfl⟩:=Int.eq_ofNat_of_zero_le hx0
           have hi:i<N:=by omega
           obtain⟨cv',tv,av',sv',hR,hord,hkb⟩:=HST.out
           rw[HLO.out]at hord
           obtain⟨tp,Ct,rfl,htp⟩:=hR.trow.form
           obtain⟨g,rfl,-⟩:=htp (by omega)
           have m:wr.cell? ⟨mb,1,none⟩=some (.slice (some ⟨g,0,none⟩) N Ct):=(zq0 (off:=1) hR.mach).trans rfl
           have ct:=(hR.trow.cell hi (show 4<7 by decide)).1
           obtain⟨p,hp⟩:∃p,(r.T i).pc=p:=⟨_,rfl⟩
           change wr.cell? ⟨g,i*7+4,none⟩=some (.int .i64 ((r.T i).pc:Nat))at ct
           rw[hp]at ct
           have HP:=Lib.hid hp
           have HRS:=Lib.hid (And.intro hR (And.intro hord hkb))
           clear hp hR hord hkb htp
           by_cases hp0:p=0
           · subst hp0
             have ct':wr.cell? ⟨g,i*7+4,none⟩=some (.int .i64 0):=ct
             clear ct
             go_wp2_with (fail)
             go_roundg (ns - (j+1))
             case measure=>have:=HE.out.1;omega
             case rel=>exact⟨j+1,r,rfl,hlt,rfl,HINV.out,HST.out,(by rw[step1R_skip (x:=(i:Int)) (.inr (.inr (.inl HP.out)))]:zq14 C.length ops N most (sched.drop (j+1)) r=zq14 C.length ops N most (sched.drop (j+1)) (step1R C.length ops N most (i:Int) r)).trans ((stepsR_drop HX.out r).symm.trans HE.out.2)⟩
           · have hpp:(0:Int)<(p:Int):=by omega
             have HT:=Lib.hid (show i<N/\(r.T i).pc≠0/\r.ord.length<most from⟨hi,by rw[HP.out];exact hp0,by rw[HLO.out];exact hlm⟩)
             clear hi hp0
             obtain⟨tj,htj,hy0,hy1,hy2⟩:∃ti,Try.prog.info? 3=some ti/\ti.zero=some (.int .i64 0)/\ti.size=1/\ti.bytes=8:=⟨_,rfl,rfl,rfl,rfl⟩
             have TJ:=Lib.hid (And.intro htj (And.intro hy0 (And.intro hy1 hy2)))
             clear htj hy0 hy1 hy2
             obtain⟨op,hop⟩:∃op,(ops i)[(r.T i).at']?=some op:=by
              obtain⟨op,hop,-⟩:=(HINV.out.thr i HT.out.1).2.stand HT.out.2.1
              exact⟨op,hop⟩
             have HOPQ:=Lib.hid hop
             clear hop
             go_wp2_with (at_builtin;go_loud (refine wpList_append_lies _ rfl (.tmp 89) (.tmp 91) 24 rfl w1.heap.size 3 tj (.int .i64 0) 1 8 (by kernel_rfl) TJ.out.1 TJ.out.2.1 TJ.out.2.2.1 TJ.out.2.2.2 rfl (by decide) _ lo (r.ord.map λ(i:Nat)=>.int .i64 i) rfl (row_allocK HRS.out.2.1 _) _ 1 1 [.int .i64 i] rfl rfl (one_new rfl) (by simp[Value.oneCell']) (by decide) (by have:=HB.out.1;simp only[maxLen];omega) (by have:=HB.out.1;omega) (by rw[zqc];exact Nat.le_succ_of_le HRS.out.2.2.size) _ rfl ?next))
             case next=>
              intro g7 cap7 w7 hown7 hgrow7 hat7 hlt7
              have hsame:∀b,b<wr.heap.size->(Value.slice po lo Co).ownBlock≠some b->w7.heap[b]?=wr.heap[b]?:=λb hb hne=>(hgrow7.block b (by rw[zqc];omega) (λe=>hne e.symm)).trans (by rw[zq8,if_neg (by omega)])
              have hs7:wr.heap.size<=w7.heap.size:=by have:=hgrow7.size;rw[zqc]at this;omega
              have hR7:=HRS.out.1.keepT (w':=w7) λb c U f hb hU=>(hsame b (zqa hb) (own_ne HRS.out.2.1 hb (λe=>hU (by rw[←e];exact⟨by decide,by decide,by decide,by decide⟩)))).trans hb
              have hno:∀b,b<w1.heap.size->(Value.slice po lo Co).ownBlock≠some b:=λb hb e=>by have:=(own_lt HRS.out.2.1 e).2.1;omega
              have hk7:KeepB B w1 w7:=⟨Nat.le_trans HRS.out.2.2.size hs7,λb hb=>(hsame b (by have:=HB.out.2;have:=HRS.out.2.2.size;omega) (hno b (by have:=HB.out.2;omega))).trans (HRS.out.2.2.old b hb),λb c T2 f hb hT=>(hsame b (by have:=zqa hb;have:=HRS.out.2.2.size;omega) (hno b (zqa hb))).trans (HRS.out.2.2.typ b c T2 f hb hT)⟩
              have H7:=Lib.hid (And.intro hR7 (And.intro hown7 hk7))
              clear hsame hs7 hR7 hno hk7 hown7 hgrow7 hat7 hlt7
              have hstp:=step_lone (i:=i) H7.out.1 HT.out.1 HB2.out.1 ((HI.out.1.ops i HT.out.1).keep (HW1.out.1.trans H7.out.2.2)) (by rw[HI.out.1.len i HT.out.1];omega) (HINV.out.thr i HT.out.1).1 (by rw[HINV.out.len];exact(HINV.out.thr i HT.out.1).2) HT.out.2.1 HOPQ.out (by rw[HINV.out.len];exact HI.out.2.1) (by rw[HINV.out.len];exact HI.out.2.2.1)
              have HSTP:=Lib.hid hstp
              clear hstp
              go_wp2_with (fail)
              refine Calls.mono HSTP.out ?_
              rintro e w8 ⟨rfl,⟨av8,sv8,hR8⟩,hk8⟩
              have H8:=Lib.hid (And.intro hR8 hk8)
              clear hR8 hk8 HSTP
              have hset:=settle_lone (i:=i) (ops:=ops i) H8.out.1 HT.out.1 HB2.out.1 ((HI.out.1.ops i HT.out.1).keep ((HW1.out.1.trans H7.out.2.2).trans H8.out.2)) (by rw[HI.out.1.len i HT.out.1];omega) (by rw[upd'_same];exact fit_step (HINV.out.thr i HT.out.1).1 HOPQ.out)
              have HSET:=Lib.hid hset
              clear hset
              go_wp2_with (fail)
              refine Calls.mono HSET.out ?_
              rintro e w9 ⟨rfl,⟨av9,sv9,hR9⟩,hk9⟩
              rw[zq18,upd'_same]at hR9
              have hst9:RunSt mb B N opv w1 (turnR i (goR C.length ops i r) r (r.ord++[i])) (.slice (some ⟨g7,0,none⟩) (lo+1) cap7) w9:=by
               rw[goR_eq HOPQ.out]
               have hlen:=HINV.out.len
               rw[hlen]at hR9
               refine⟨_,_,_,_,hR9,?_,(H7.out.2.2.trans H8.out.2).trans hk9⟩
               have:=(H8.out.2.trans hk9).row H7.out.2.1 ⟨by decide,by decide,by decide,by decide⟩
               show w9.ownsRow _ _ 1 _ (r.ord++[i]).length ((r.ord++[i]).map _)
               rw[List.length_append,List.map_append,HLO.out]
               exact this
              have hinv9:=inv_turn HI.out.2.1 HINV.out HT.out.1 HT.out.2.1 HT.out.2.2
              have H9:=Lib.hid (And.intro hst9 hinv9)
              clear hst9 hinv9 hR9 hk9 HSET
              go_wp2_with (fail)
              go_roundg (ns - (j+1))
              case measure=>have:=HE.out.1;omega
              case rel=>
               refine⟨j+1,_,rfl,hlt,rfl,H9.out.2,H9.out.1,?_⟩
               have e:=step1R_go (NS:=C.length) (ops:=ops) (x:=(i:Int)) (by omega) hxN HT.out.2.1 HT.out.2.2
               exact(congrArg (zq14 C.length ops N most (sched.drop (j+1))) e.symm).trans ((stepsR_drop HX.out r).symm.trans HE.out.2)
         · have hxN':(N:Int)<=x:=by omega
           go_wp2_with (fail)
           go_roundg (ns - (j+1))
           case measure=>have:=HE.out.1;omega
           case rel=>exact⟨j+1,r,rfl,hlt,rfl,HINV.out,HST.out,(by rw[step1R_skip (.inr (.inl hxN'))]:zq14 C.length ops N most (sched.drop (j+1)) r=zq14 C.length ops N most (sched.drop (j+1)) (step1R C.length ops N most x r)).trans ((stepsR_drop HX.out r).symm.trans HE.out.2)⟩
       · have hx0':x<0:=by omega
         go_wp2_with (fail)
         go_roundg (ns - (j+1))
         case measure=>have:=HE.out.1;omega
         case rel=>exact⟨j+1,r,rfl,hlt,rfl,HINV.out,HST.out,(by rw[step1R_skip (.inl hx0')]:zq14 C.length ops N most (sched.drop (j+1)) r=zq14 C.length ops N most (sched.drop (j+1)) (step1R C.length ops N most x r)).trans ((stepsR_drop HX.out r).symm.trans HE.out.2)⟩
     · have hlm':¬(lo:Int)<(most:Int):=by omega
       have hR2:=stepsR_full (NS:=C.length) (ops:=ops) (N:=N) (sched.drop j) (show r.ord.length=most by rw[HLO.out];omega)
       rw[HE.out.2]at hR2
       subst hR2
       go_wp2_with (fail)
       go_meet
       exact⟨HINV.out,HST.out⟩
   · have hlt':¬(j:Int)<(ns:Int):=by omega
     have hR2:=HE.out.2
     rw[List.drop_eq_nil_of_le (by have:=HI.out.2.2.2.1;omega)]at hR2
     have hR2':r=R2:=hR2
     subst hR2'
     clear hR2
     go_wp2_with (fail)
     go_meet
     exact⟨HINV.out,HST.out⟩
 case rest=>
 obtain⟨hinv3,hst3⟩:=hcut
 have H3:=Lib.hid (And.intro hinv3 hst3)
 clear hinv3 hst3 HR2
 obtain⟨R3,hR3⟩:∃R3,playR ops N most sched C=R3:=⟨_,rfl⟩
 have HE3:=Lib.hid (And.intro (show roundsR' C.length ops N most (most+1) R2=R3 by rw[←hR3,←HE2.out];rfl) hR3)
 clear hR3 HE2 HS
 go_upto_block 4 with(fail)
 go_cut [12,15]from 18 to 161 (λs12 s15 wx=>InvR C.length N ops most R3/\RunSt mb B N opv w1 R3 s12 wx)
 case first=>
  go_wp2_with (fail)
  go_loopg [12,15] (most+1) (λk s12 s15 wr=>∃(f:Nat)(r:RS),(k=f/\most<r.ord.length+f)/\InvR C.length N ops most r/\RunSt mb B N opv w1 r s12 wr/\roundsR' C.length ops N most f r=R3)
  case atStart=>exact⟨most+1,R2,⟨rfl,by omega⟩,H3.out.1,H3.out.2,HE3.out.1⟩
  case round=>
   obtain⟨f,r,hk,hinv,hst,hE⟩:=hrel
   obtain⟨f,rfl⟩:∃f',f=f'+1:=⟨f - 1,by have:=hinv.ord;omega⟩
   have hst':=hst
   obtain⟨_,_,_,_,-,ho,-⟩:=hst'
   obtain⟨po,Co,hs12,-,-⟩:=zq16 ho
   clear ho
   subst hs12
   obtain⟨lo,hlo⟩:∃x,r.ord.length=x:=⟨_,rfl⟩
   rw[hlo]at hst ⊢
   have hlom:lo<=most:=by rw[←hlo];exact hinv.ord
   have hm20:most<=1048576:=by have:=HI.out.2.2.2.2.2.1;omega
   have HLO:=Lib.hid hlo
   have HST:=Lib.hid hst
   have HINV:=Lib.hid hinv
   have HE:=Lib.hid (And.intro hk hE)
   clear hlo hst hinv hk hE
   have hleft:Calls Try.prog 41 #[.pointer (some ⟨mb,0,none⟩)] wr λe w'=>e=.returned (.bool (decide (0<leftN (ovT r.T) N)))/\w'=wr:=by
    obtain⟨_,_,_,_,hR,-,-⟩:=HST.out
    exact left_lone hR HB2.out.1
   have HLF:=Lib.hid hleft
   clear hleft
   by_cases hl:0<leftN (ovR r) N
   · have hd:decide (0<leftN (ovT r.T) N)=true:=decide_eq_true hl
     have HD:=Lib.hid (And.intro hd hl)
     clear hd hl
     by_cases hlm:lo<most
     · have hlm':(lo:Int)<(most:Int):=by omega
       obtain⟨R4,hR4⟩:∃R4,zq14 C.length ops N most (upto N) r=R4:=⟨_,rfl⟩
       have HE4:=Lib.hid hR4
       clear hR4
       have HOUT:=Lib.hid (show most<R4.ord.length+f/\roundsR' C.length ops N most f R4=R3 by
        have hm:r.ord.length<most:=by rw[HLO.out];exact hlm
        have hg:=round_grows (NS:=C.length) (ops:=ops) HD.out.2 hm
        rw[HE4.out]at hg
        have he:=(roundsR_go (NS:=C.length) (ops:=ops) (f:=f) HD.out.2 hm).symm.trans HE.out.2
        rw[HE4.out]at he
        exact⟨by have:=HE.out.1;omega,he⟩)
       have HK:=Lib.hid HE.out.1.1
       go_wp2_with (fail)
       refine Calls.mono HLF.out ?_
       rintro e w' ⟨rfl,hw⟩
       rw[hw,HD.out.1]
       clear hw w' HLF
       have HO:=Lib.hid (And.intro HINV.out (And.intro HST.out HE4.out))
       go_wp2_with (fail)
       clear HINV HST HE4 HE HLO HD hlm hlm' hlom
       go_loopg [12,15] N (λk s12 s15 wr=>∃(i:Nat)(q:RS),k=N - i/\i<=N/\s15=.int .i64 i/\InvR C.length N ops most q/\RunSt mb B N opv w1 q s12 wr/\zq14 C.length ops N most ((upto N).drop i) q=R4)
       case atStart=>exact⟨0,r,rfl,Nat.zero_le _,rfl,HO.out.1,HO.out.2.1,HO.out.2.2⟩
       case round=>
        clear HO
        obtain⟨i,r,hk,hi',rfl,hinv,hst,hE⟩:=hrel
        have hi0:(0:Int)<=i:=by omega
        have hN64:(N:Int)<=64:=by have:=HB2.out.1;omega
        have hst':=hst
        obtain⟨_,_,_,_,-,ho,-⟩:=hst'
        obtain⟨po,Co,hs12,-,-⟩:=zq16 ho
        clear ho
        subst hs12
        obtain⟨lo,hlo⟩:∃x,r.ord.length=x:=⟨_,rfl⟩
        rw[hlo]at hst ⊢
        have hlom:lo<=most:=by rw[←hlo];exact hinv.ord
        have hm20:most<=1048576:=by have:=HI.out.2.2.2.2.2.1;omega
        have HLO:=Lib.hid hlo
        have HST:=Lib.hid hst
        have HINV:=Lib.hid hinv
        have HE:=Lib.hid (And.intro hk hE)
        clear hlo hst hinv hk hE
        by_cases hi:i<N
        · have hi'':(i:Int)<(N:Int):=by omega
          by_cases hlm:lo<most
          · have hlm':(lo:Int)<(most:Int):=by omega
            have HB:=Lib.hid (And.intro (show lo<1048576 by omega) HB2.out.2)
            obtain⟨cv',tv,av',sv',hR,hord,hkb⟩:=HST.out
            rw[HLO.out]at hord
            obtain⟨tp,Ct,rfl,htp⟩:=hR.trow.form
            obtain⟨g,rfl,-⟩:=htp (by omega)
            have m:wr.cell? ⟨mb,1,none⟩=some (.slice (some ⟨g,0,none⟩) N Ct):=(zq0 (off:=1) hR.mach).trans rfl
            have ct:=(hR.trow.cell hi (show 4<7 by decide)).1
            obtain⟨p,hp⟩:∃p,(r.T i).pc=p:=⟨_,rfl⟩
            change wr.cell? ⟨g,i*7+4,none⟩=some (.int .i64 ((r.T i).pc:Nat))at ct
            rw[hp]at ct
            have HP:=Lib.hid hp
            have HRS:=Lib.hid (And.intro hR (And.intro hord hkb))
            clear hp hR hord hkb htp
            by_cases hp0:p=0
            · subst hp0
              have ct':wr.cell? ⟨g,i*7+4,none⟩=some (.int .i64 0):=ct
              clear ct
              go_wp2_with (fail)
              go_roundg (N - (i+1))
              case measure=>have:=HE.out.1;omega
              case rel=>exact⟨i+1,r,rfl,hi,rfl,HINV.out,HST.out,(by rw[step1R_skip (x:=(i:Int)) (.inr (.inr (.inl HP.out)))]:zq14 C.length ops N most ((upto N).drop (i+1)) r=zq14 C.length ops N most ((upto N).drop (i+1)) (step1R C.length ops N most (i:Int) r)).trans ((stepsR_drop (upto_get hi) r).symm.trans HE.out.2)⟩
            · have hpp:(0:Int)<(p:Int):=by omega
              have HT:=Lib.hid (show i<N/\(r.T i).pc≠0/\r.ord.length<most from⟨hi,by rw[HP.out];exact hp0,by rw[HLO.out];exact hlm⟩)
              clear hi hp0
              obtain⟨tj,htj,hy0,hy1,hy2⟩:∃ti,Try.prog.info? 3=some ti/\ti.zero=some (.int .i64 0)/\ti.size=1/\ti.bytes=8:=⟨_,rfl,rfl,rfl,rfl⟩
              have TJ:=Lib.hid (And.intro htj (And.intro hy0 (And.intro hy1 hy2)))
              clear htj hy0 hy1 hy2
              obtain⟨op,hop⟩:∃op,(ops i)[(r.T i).at']?=some op:=by
               obtain⟨op,hop,-⟩:=(HINV.out.thr i HT.out.1).2.stand HT.out.2.1
               exact⟨op,hop⟩
              have HOPQ:=Lib.hid hop
              clear hop
              go_wp2_with (at_builtin;go_loud (refine wpList_append_lies _ rfl (.tmp 127) (.tmp 129) 24 rfl w1.heap.size 3 tj (.int .i64 0) 1 8 (by kernel_rfl) TJ.out.1 TJ.out.2.1 TJ.out.2.2.1 TJ.out.2.2.2 rfl (by decide) _ lo (r.ord.map λ(i:Nat)=>.int .i64 i) rfl (row_allocK HRS.out.2.1 _) _ 1 1 [.int .i64 i] rfl rfl (one_new rfl) (by simp[Value.oneCell']) (by decide) (by have:=HB.out.1;simp only[maxLen];omega) (by have:=HB.out.1;omega) (by rw[zqc];exact Nat.le_succ_of_le HRS.out.2.2.size) _ rfl ?next))
              case next=>
               intro g7 cap7 w7 hown7 hgrow7 hat7 hlt7
               have hsame:∀b,b<wr.heap.size->(Value.slice po lo Co).ownBlock≠some b->w7.heap[b]?=wr.heap[b]?:=λb hb hne=>(hgrow7.block b (by rw[zqc];omega) (λe=>hne e.symm)).trans (by rw[zq8,if_neg (by omega)])
               have hs7:wr.heap.size<=w7.heap.size:=by have:=hgrow7.size;rw[zqc]at this;omega
               have hR7:=HRS.out.1.keepT (w':=w7) λb c U f hb hU=>(hsame b (zqa hb) (own_ne HRS.out.2.1 hb (λe=>hU (by rw[←e];exact⟨by decide,by decide,by decide,by decide⟩)))).trans hb
               have hno:∀b,b<w1.heap.size->(Value.slice po lo Co).ownBlock≠some b:=λb hb e=>by have:=(own_lt HRS.out.2.1 e).2.1;omega
               have hk7:KeepB B w1 w7:=⟨Nat.le_trans HRS.out.2.2.size hs7,λb hb=>(hsame b (by have:=HB.out.2;have:=HRS.out.2.2.size;omega) (hno b (by have:=HB.out.2;omega))).trans (HRS.out.2.2.old b hb),λb c T2 f hb hT=>(hsame b (by have:=zqa hb;have:=HRS.out.2.2.size;omega) (hno b (zqa hb))).trans (HRS.out.2.2.typ b c T2 f hb hT)⟩
               have H7:=Lib.hid (And.intro hR7 (And.intro hown7 hk7))
               clear hsame hs7 hR7 hno hk7 hown7 hgrow7 hat7 hlt7
               have hstp:=step_lone (i:=i) H7.out.1 HT.out.1 HB2.out.1 ((HI.out.1.ops i HT.out.1).keep (HW1.out.1.trans H7.out.2.2)) (by rw[HI.out.1.len i HT.out.1];omega) (HINV.out.thr i HT.out.1).1 (by rw[HINV.out.len];exact(HINV.out.thr i HT.out.1).2) HT.out.2.1 HOPQ.out (by rw[HINV.out.len];exact HI.out.2.1) (by rw[HINV.out.len];exact HI.out.2.2.1)
               have HSTP:=Lib.hid hstp
               clear hstp
               go_wp2_with (fail)
               refine Calls.mono HSTP.out ?_
               rintro e w8 ⟨rfl,⟨av8,sv8,hR8⟩,hk8⟩
               have H8:=Lib.hid (And.intro hR8 hk8)
               clear hR8 hk8 HSTP
               have hset:=settle_lone (i:=i) (ops:=ops i) H8.out.1 HT.out.1 HB2.out.1 ((HI.out.1.ops i HT.out.1).keep ((HW1.out.1.trans H7.out.2.2).trans H8.out.2)) (by rw[HI.out.1.len i HT.out.1];omega) (by rw[upd'_same];exact fit_step (HINV.out.thr i HT.out.1).1 HOPQ.out)
               have HSET:=Lib.hid hset
               clear hset
               go_wp2_with (fail)
               refine Calls.mono HSET.out ?_
               rintro e w9 ⟨rfl,⟨av9,sv9,hR9⟩,hk9⟩
               rw[zq18,upd'_same]at hR9
               have hst9:RunSt mb B N opv w1 (turnR i (goR C.length ops i r) r (r.ord++[i])) (.slice (some ⟨g7,0,none⟩) (lo+1) cap7) w9:=by
                rw[goR_eq HOPQ.out]
                have hlen:=HINV.out.len
                rw[hlen]at hR9
                refine⟨_,_,_,_,hR9,?_,(H7.out.2.2.trans H8.out.2).trans hk9⟩
                have:=(H8.out.2.trans hk9).row H7.out.2.1 ⟨by decide,by decide,by decide,by decide⟩
                show w9.ownsRow _ _ 1 _ (r.ord++[i]).length ((r.ord++[i]).map _)
                rw[List.length_append,List.map_append,HLO.out]
                exact this
               have hinv9:=inv_turn HI.out.2.1 HINV.out HT.out.1 HT.out.2.1 HT.out.2.2
               have H9:=Lib.hid (And.intro hst9 hinv9)
               clear hst9 hinv9 hR9 hk9 HSET
               go_wp2_with (fail)
               go_roundg (N - (i+1))
               case measure=>have:=HE.out.1;have:=HT.out.1;omega
               case rel=>
                refine⟨i+1,_,rfl,HT.out.1,rfl,H9.out.2,H9.out.1,?_⟩
                have e:=step1R_go (NS:=C.length) (ops:=ops) (x:=(i:Int)) (by omega) (by have:=HT.out.1;omega) HT.out.2.1 HT.out.2.2
                exact(congrArg (zq14 C.length ops N most ((upto N).drop (i+1))) e.symm).trans ((stepsR_drop (upto_get HT.out.1) r).symm.trans HE.out.2)
          · have hlm':¬(lo:Int)<(most:Int):=by omega
            have hR4:=stepsR_full (NS:=C.length) (ops:=ops) (N:=N) ((upto N).drop i) (show r.ord.length=most by rw[HLO.out];omega)
            rw[HE.out.2]at hR4
            subst hR4
            go_wp2_with (fail)
            go_roundg f
            case measure=>have:=HK.out;omega
            case rel=>exact⟨f,_,⟨rfl,HOUT.out.1⟩,HINV.out,HST.out,HOUT.out.2⟩
        · have hi'':¬(i:Int)<(N:Int):=by omega
          have hR4:=HE.out.2
          rw[List.drop_eq_nil_of_le (by rw[upto_len];omega)]at hR4
          have hR4':r=R4:=hR4
          subst hR4'
          clear hR4
          go_wp2_with (fail)
          go_roundg f
          case measure=>have:=HK.out;omega
          case rel=>exact⟨f,_,⟨rfl,HOUT.out.1⟩,HINV.out,HST.out,HOUT.out.2⟩
     · have hlm':¬(lo:Int)<(most:Int):=by omega
       have hR3:=roundsR_stop (NS:=C.length) (ops:=ops) (N:=N) (most:=most) (f:=f+1) (r:=r) (λh=>hlm (by rw[←HLO.out];exact h.2))
       rw[HE.out.2]at hR3
       subst hR3
       go_wp2_with (fail)
       refine Calls.mono HLF.out ?_
       rintro e w' ⟨rfl,hw⟩
       rw[hw,HD.out.1]
       clear hw w' HLF
       go_wp2_with (fail)
       go_meet
       exact⟨HINV.out,HST.out⟩
   · have hd:decide (0<leftN (ovT r.T) N)=false:=decide_eq_false hl
     have hR3:=roundsR_stop (NS:=C.length) (ops:=ops) (N:=N) (most:=most) (f:=f+1) (r:=r) (λh=>hl h.1)
     rw[HE.out.2]at hR3
     subst hR3
     have HD:=Lib.hid hd
     clear hd hl
     go_wp2_with (fail)
     refine Calls.mono HLF.out ?_
     rintro e w' ⟨rfl,hw⟩
     rw[hw,HD.out]
     clear hw w' HLF
     go_wp2_with (fail)
     go_meet
     exact⟨HINV.out,HST.out⟩
 case rest=>
 obtain⟨hinv5,hst5⟩:=hcut
 obtain⟨cv',tv,av',sv',hR,hord,hkb⟩:=hst5
 obtain⟨po,Co,hs12,-,-⟩:=zq16 hord
 subst hs12
 obtain⟨lo,hlo⟩:∃x,R3.ord.length=x:=⟨_,rfl⟩
 rw[hlo]at hord ⊢
 have HL:=Lib.hid (left_lone hR HB2.out.1)
 have HS:=Lib.hid (state_lone hR (by rw[hinv5.len];exact HI.out.2.1) (by rw[hinv5.len];exact HI.out.2.2.1))
 obtain⟨stk,hstk⟩:∃x,decide (0<leftN (ovT R3.T) N)=x:=⟨_,rfl⟩
 have HR:=Lib.hid (And.intro hR (And.intro hord (And.intro hkb (And.intro hlo hstk))))
 clear hinv5 hR hord hkb hlo hstk H3
 go_wp2_with (fail)
 refine Calls.mono HL.out ?_
 rintro e w' ⟨rfl,hw⟩
 rw[hw,HR.out.2.2.2.2]
 clear hw w' HL
 go_wp2_with (fail)
 refine Calls.mono HS.out ?_
 rintro e w5 ⟨stv,rfl,hown5,hk5⟩
 obtain⟨ps,Cs5,hst5,-,-⟩:=zq16 hown5
 subst hst5
 obtain⟨ls,hls⟩:∃x,R3.C.length=x:=⟨_,rfl⟩
 rw[hls]at hown5 ⊢
 have H5:=Lib.hid (And.intro hown5 (And.intro hk5 hls))
 clear hown5 hk5 hls HS
 go_upto_region 34 with(fail)
 have hT0:=zqq w5 (.cells #[.slice none 0 0,.slice po lo Co,.slice ps ls Cs5,.bool stk] 31)
 have hoT0:∀b,b<w5.heap.size->(w5.alloc (.cells #[.slice none 0 0,.slice po lo Co,.slice ps ls Cs5,.bool stk] 31)).heap[b]?=w5.heap[b]?:=λb hb=>by rw[zq8,if_neg (by omega)]
 have hsT0:(w5.alloc (.cells #[.slice none 0 0,.slice po lo Co,.slice ps ls Cs5,.bool stk] 31)).heap.size=w5.heap.size+1:=zqc _ _
 generalize w5.alloc (.cells #[.slice none 0 0,.slice po lo Co,.slice ps ls Cs5,.bool stk] 31)=w6 at hT0 hoT0 hsT0 ⊢
 obtain⟨Tb,hTb⟩:∃Tb,w5.heap.size=Tb:=⟨_,rfl⟩
 rw[hTb]at hT0 hoT0 hsT0 ⊢
 have H6:=Lib.hid (And.intro hT0 (And.intro hoT0 (And.intro hsT0 hTb)))
 clear hT0 hoT0 hsT0 hTb
 obtain⟨w4,hw4⟩:∃x,x=wc:=⟨_,rfl⟩
 subst hw4
 go_upto_block 8 with(fail)
 go_cut [17]from 18 to 161 (λs17 wx=>∃pn Cn2,wx.heap[Tb]?=some (.cells #[.slice pn N Cn2,.slice po lo Co,.slice ps ls Cs5,.bool stk] 31)/\wx.ownsRow (Tb+1) 41 1 (.slice pn N Cn2) N ((List.range N).map av')/\(∀b,b<Tb->wx.heap[b]?=w5.heap[b]?)/\Tb<wx.heap.size)
 case first=>
  go_wp2_with (fail)
  go_loopg [17] N (λk s17 wr=>∃(j:Nat)(pn:Option Addr)(Cn2:Nat),k=N - j/\j<=N/\s17=.int .i64 j/\wr.heap[Tb]?=some (.cells #[.slice pn j Cn2,.slice po lo Co,.slice ps ls Cs5,.bool stk] 31)/\wr.ownsRow (Tb+1) 41 1 (.slice pn j Cn2) j ((List.range j).map av')/\(∀b,b<Tb->wr.heap[b]?=w5.heap[b]?)/\Tb<wr.heap.size)
  case atStart=>exact⟨0,_,_,rfl,Nat.zero_le _,rfl,H6.out.1,World.ownsRow_nil _ _ _ _,H6.out.2.1,by have:=H6.out.2.2.1;omega⟩
  case round=>
   obtain⟨j,pn,Cn2,hk,hj,rfl,hTr,hrow,hold,hsz⟩:=hrel
   have hj0:(0:Int)<=j:=by omega
   have hN64:(N:Int)<=64:=by have:=HB2.out.1;omega
   by_cases hlt:j<N
   · obtain⟨hR,-,hkb,-,-⟩:=HR.out
     have hw5:w4.heap.size<=Tb:=by have:=H5.out.2.1.size;have:=H6.out.2.2.2;omega
     have hsm:∀b,b<w4.heap.size->wr.heap[b]?=w4.heap[b]?:=λb hb=>(hold b (by omega)).trans (H5.out.2.1.old b hb)
     obtain⟨g,Ct,m0,ct0⟩:∃g Ct,w4.cell? ⟨mb,1,none⟩=some (.slice (some ⟨g,0,none⟩) N Ct)/\w4.cell? ⟨g,j*7+1,none⟩=some (av' j):=by
      obtain⟨tp,Ct,rfl,htp⟩:=hR.trow.form
      obtain⟨g,rfl,-⟩:=htp (by omega)
      exact⟨g,Ct,(zq0 (off:=1) hR.mach).trans rfl,(hR.trow.cell hlt (show 1<7 by decide)).1⟩
     have hmB:mb<w4.heap.size:=zqa hR.mach
     have hgB:g<w4.heap.size:=cell_lt ct0
     obtain⟨pa,Ca,hav,-,-⟩:=zq16 (hR.arow j hlt)
     obtain⟨la,hla⟩:∃x,(R3.T j).ans.length=x:=⟨_,rfl⟩
     rw[hla]at hav
     rw[hav]at ct0
     obtain⟨tj,htj,hy0,hy1,hy2⟩:∃ti,Try.prog.info? 41=some ti/\ti.zero=some (.slice none 0 0)/\ti.size=1/\ti.bytes=24:=⟨_,rfl,rfl,rfl,rfl⟩
     obtain⟨g2,cap,w2,hrun,hown,hsame,hat,hsz2⟩:=app_one (P:=Try.prog) 29 29 41 tj (.slice none 0 0) 1 24 (by kernel_rfl) htj hy0 hy1 hy2 rfl (by decide) (cs:=[.slice pa la Ca]) hrow rfl (by simp[Value.oneCell']) (by simp only[maxLen];omega) (by omega) (by omega)
     have hno:∀b,b<Tb+1->(Value.slice pn j Cn2).ownBlock≠some b:=λb hb e=>by have:=(own_lt hrow e).2.1;omega
     have hTr2:∀W,W=wr.drewN 1\/W=(wr.drewN 1).alloc (.cells #[.slice pa la Ca] 41)\/W=w2->W.heap[Tb]?=some (.cells #[.slice pn j Cn2,.slice po lo Co,.slice ps ls Cs5,.bool stk] 31):=λW hW=>(hsame W hW Tb hsz (hno Tb (by omega))).trans hTr
     have hsm2:∀W,W=wr.drewN 1\/W=(wr.drewN 1).alloc (.cells #[.slice pa la Ca] 41)\/W=w2->∀b,b<w4.heap.size->W.heap[b]?=w4.heap[b]?:=λW hW b hb=>(hsame W hW b (by omega) (hno b (by omega))).trans (hsm b hb)
     have hfacts:∀W,W=wr.drewN 1\/W=(wr.drewN 1).alloc (.cells #[.slice pa la Ca] 41)\/W=w2->W.cell? ⟨Tb,0,none⟩=some (.slice pn j Cn2)/\W.cell? ⟨mb,1,none⟩=some (.slice (some ⟨g,0,none⟩) N Ct)/\W.cell? ⟨g,j*7+1,none⟩=some (.slice pa la Ca)/\W.frozen? ⟨Tb,0,none⟩=false:=λW hW=>
      ⟨(zq0 (off:=0) (hTr2 W hW)).trans rfl,(zq4 (hsm2 W hW mb hmB)).trans m0,(zq4 (hsm2 W hW g hgB)).trans ct0,zqe (hTr2 W hW)⟩
     have hnew:(w2.setCell ⟨Tb,0,none⟩ (.slice (some ⟨g2,0,none⟩) (j+1) cap)).heap[Tb]?=some (.cells #[.slice (some ⟨g2,0,none⟩) (j+1) cap,.slice po lo Co,.slice ps ls Cs5,.bool stk] 31):=by
      rw[zqb w2 Tb 0 _ (hTr2 w2 (.inr (.inr rfl)))];rfl
     have hrow2:(w2.setCell ⟨Tb,0,none⟩ (.slice (some ⟨g2,0,none⟩) (j+1) cap)).ownsRow (Tb+1) 41 1 (.slice (some ⟨g2,0,none⟩) (j+1) cap) (j+1) ((List.range (j+1)).map av'):=by
      rw[List.range_succ,List.map_append,List.map_cons,List.map_nil,hav]
      exact zqy hown λx hx=>zq3 _ _ _ _ (show x≠Tb by have:=(own_lt hown hx).2.1;omega)
     have hold2:∀b,b<Tb->(w2.setCell ⟨Tb,0,none⟩ (.slice (some ⟨g2,0,none⟩) (j+1) cap)).heap[b]?=w5.heap[b]?:=λb hb=>by
      rw[zq3 _ _ _ _ (show b≠Tb by omega)]
      exact(hsame w2 (.inr (.inr rfl)) b (by omega) (hno b (by omega))).trans (hold b hb)
     have hsz3:Tb<(w2.setCell ⟨Tb,0,none⟩ (.slice (some ⟨g2,0,none⟩) (j+1) cap)).heap.size:=by rw[zqh];omega
     have hjN:(j:Int)<(N:Int):=by omega
     obtain⟨S,hS⟩:∃S,wr.heap.size=S:=⟨_,rfl⟩
     rw[hS]at hrun
     have HF:=Lib.hid hfacts
     have HP:=Lib.hid (And.intro hnew (And.intro hrow2 (And.intro hold2 hsz3)))
     have HRN:=Lib.hid hrun
     have HT:=Lib.hid (And.intro hS hk)
     have HLT:=Lib.hid hlt
     clear hR hkb hw5 hsm hmB m0 ct0 hgB hav hla htj hy0 hy1 hy2 hrun hown hsame hat hsz2 hno hTr2 hsm2 hfacts hnew hrow2 hold2 hsz3 hS hlt hk hTr hrow hold hsz
     go_wp2_with (fail)
     refine wp_region_two (k:=13) (s:=10) (t:=11) (W0:=wr.drewN 1) (W1:=(wr.drewN 1).alloc (.cells #[.slice pa la Ca] 41)) (W2:=w2) (by kernel_rfl) (by kernel_rfl) (by kernel_rfl) (by kernel_rfl) (by decide) (by decide) (by decide) (by kernel_rfl)
      [.pointer (some ⟨Tb,0,none⟩),.slice pn j Cn2,.pointer (some ⟨mb,0,none⟩),.pointer (some ⟨mb,0,none⟩),.pointer (some ⟨mb,1,none⟩),.slice (some ⟨g,0,none⟩) N Ct,.int .i64 j,.pointer (some ⟨g,j*7,none⟩),.pointer (some ⟨g,j*7+1,none⟩),.slice pa la Ca,.slice (some ⟨S,0,none⟩) 1 1,.slice (some ⟨g2,0,none⟩) (j+1) cap,.pointer (some ⟨Tb,0,none⟩)] rfl rfl ?_ ?_ ?_ ?_
     · intro jj oo hjj h9 h10 hoo W hWW
       obtain⟨d1,d2,d3,_⟩:=HF.out W hWW
       clear hWW
       simp only[putv,dstOf,al_gl,al_g0,al_g1,al_ob,al_g2,List.set_cons_succ,List.set_cons_zero]
       obtain rfl |rfl |rfl |rfl |rfl |rfl |rfl |rfl |rfl |rfl |rfl:jj=0\/jj=1\/jj=2\/jj=3\/jj=4\/jj=5\/jj=6\/jj=7\/jj=8\/jj=9\/jj=12:=by omega
       all_goals(simp only[al_gl,al_g0,al_g1,al_oi]at hoo;subst hoo;refine .inl ?_)
       all_goals(simp only[execOp,Act.eval,al_gd,al_gl,al_g0,al_g1,al_od])
       all_goals(try go_simp)
     · intro oo hoo
       simp only[putv,dstOf,al_gl,al_g0,al_g1,al_ob,al_g2,List.set_cons_succ,List.set_cons_zero]
       simp only[al_gl,al_g0,al_g1,al_oi]at hoo
       subst hoo
       refine .inl ?_
       have hs0:(wr.drewN 1).heap.size=S:=HT.out.1
       generalize wr.drewN 1=W0 at hs0 ⊢
       simp only[execOp,Act.eval,al_gd,al_gl,al_g0,al_g1,al_od]
       go_simp
     · intro oo hoo
       have hrun:(Builtin.append_ #[29,29] 29 #[Value.slice pn j Cn2,.slice (some ⟨S,0,none⟩) 1 1]).run Try.prog ((wr.drewN 1).alloc (.cells #[.slice pa la Ca] 41))=.ok (.slice (some ⟨g2,0,none⟩) (j+1) cap) w2:=HRN.out
       simp only[putv,dstOf,al_gl,al_g0,al_g1,al_ob,al_g2,List.set_cons_succ,List.set_cons_zero]
       simp only[al_gl,al_g0,al_g1,al_oi]at hoo
       subst hoo
       refine .inl ?_
       unfold execOp
       simp only[resolve,invoke,builtin,Sem.run_bind,Sem.run_pure,Result.andThen_ok,List.map_toArray,List.map_cons,List.map_nil,Act.eval,al_gd,al_gl,al_g0,al_g1,al_od,hrun]
       rfl
     simp only[putv,dstOf,al_gl,al_g0,al_g1,al_ob,al_g2,List.set_cons_succ,List.set_cons_zero]
     obtain⟨d1,_,_,d6⟩:=HF.out w2 (.inr (.inr rfl))
     refine zq13 (i:=13) (by kernel_rfl) ?_
     simp only[wpOp,al_gl,al_g0,al_g1]
     rw[if_pos (by rfl)]
     refine .inl ?_
     go_simp
     refine zq12 (by kernel_rfl) ?_
     clear d1 d6 HF HRN
     generalize w2.setCell ⟨Tb,0,none⟩ (.slice (some ⟨g2,0,none⟩) (j+1) cap)=w3 at HP ⊢
     go_wp2
     go_roundg (N - (j+1))
     case measure=>have:=HT.out.2;have:=HLT.out;omega
     case rel=>exact⟨j+1,_,_,rfl,HLT.out,rfl,HP.out.1,HP.out.2.1,HP.out.2.2.1,HP.out.2.2.2⟩
   · obtain rfl:j=N:=by omega
     have hlt':¬(j:Int)<(j:Int):=by omega
     have HP:=Lib.hid (And.intro hTr (And.intro hrow (And.intro hold hsz)))
     clear hTr hrow hold hsz hk hj hlt
     go_wp2_with (fail)
     go_meet
     exact⟨_,_,HP.out.1,HP.out.2.1,HP.out.2.2.1,HP.out.2.2.2⟩
 case rest=>
 obtain⟨pn,Cn2,hTr,hrow,hold,hsz⟩:=hcut
 have hw5:w4.heap.size<=Tb:=by have:=H5.out.2.1.size;have:=H6.out.2.2.2;omega
 have hsm:∀b,b<w4.heap.size->wc.heap[b]?=w4.heap[b]?:=λb hb=>(hold b (by omega)).trans (H5.out.2.1.old b hb)
 have b04:w4.heap[H]?=some (.cells #[.slice none 0 0,.slice none 0 0,.slice none 0 0,.bool false] 31):=HR.out.2.2.1.typ _ _ _ _ HW1.out.2 ⟨by decide,by decide,by decide,by decide⟩
 have hH4:H<w4.heap.size:=zqa b04
 have b0:=(hsm H hH4).trans b04
 have hne:¬(Tb=H):=by omega
 have hne2:¬(H=Tb):=by omega
 have HZ:=Lib.hid (And.intro hrow (And.intro hold (And.intro hsz (And.intro hw5 (And.intro hsm (And.intro b04 hH4))))))
 clear hrow hold hsz hw5 hsm b04 hH4
 have c0:=(zq0 (off:=0) hTr).trans rfl
 have c1:=(zq0 (off:=1) hTr).trans rfl
 have c2:=(zq0 (off:=2) hTr).trans rfl
 have c3:=(zq0 (off:=3) hTr).trans rfl
 have r0:=(zq0 (off:=0) b0).trans rfl
 have r1:=(zq0 (off:=1) b0).trans rfl
 have r2:=(zq0 (off:=2) b0).trans rfl
 have r3:=(zq0 (off:=3) b0).trans rfl
 have z0:=zqe (off:=0) b0
 have z1:=zqe (off:=1) b0
 have z2:=zqe (off:=2) b0
 have z3:=zqe (off:=3) b0
 have B0:=Lib.hid b0
 have B1:=Lib.hid hTr
 clear b0 hTr
 go_wp2
 clear c0 c1 c2 c3 r0 r1 r2 r3 z0 z1 z2 z3
 have b0:=B0.out
 have b1':=zqb _ H 0 (.slice pn N Cn2) b0
 have b2':=zqb _ H 1 (.slice po lo Co) b1'
 have b3':=zqb _ H 2 (.slice ps ls Cs5) b2'
 have b4':=zqb _ H 3 (.bool stk) b3'
 have hext:∀x,x≠H->((((wc.setCell ⟨H,0,none⟩ (.slice pn N Cn2)).setCell ⟨H,1,none⟩ (.slice po lo Co)).setCell ⟨H,2,none⟩ (.slice ps ls Cs5)).setCell ⟨H,3,none⟩ (.bool stk)).heap[x]?=wc.heap[x]?:=λx hx=>by
  rw[zq3 _ _ _ _ hx,zq3 _ _ _ _ hx,zq3 _ _ _ _ hx,zq3 _ _ _ _ hx]
 have hsz9:((((wc.setCell ⟨H,0,none⟩ (.slice pn N Cn2)).setCell ⟨H,1,none⟩ (.slice po lo Co)).setCell ⟨H,2,none⟩ (.slice ps ls Cs5)).setCell ⟨H,3,none⟩ (.bool stk)).heap.size=wc.heap.size:=by simp only[zqh]
 generalize ((((wc.setCell ⟨H,0,none⟩ (.slice pn N Cn2)).setCell ⟨H,1,none⟩ (.slice po lo Co)).setCell ⟨H,2,none⟩ (.slice ps ls Cs5)).setCell ⟨H,3,none⟩ (.bool stk))=w9 at b4' hext hsz9 ⊢
 clear b1' b2' b3' b0
 have k0:=(zq0 (off:=0) b4').trans rfl
 have k1:=(zq0 (off:=1) b4').trans rfl
 have k2:=(zq0 (off:=2) b4').trans rfl
 have k3:=(zq0 (off:=3) b4').trans rfl
 refine bodyPost_ret (v:=.agg #[.slice pn N Cn2,.slice po lo Co,.slice ps ls Cs5,.bool stk]) ?_ rfl ?_
 · simp only[results,Try.func29]
   simp[go_sem,k0,k1,k2,k3]
 · obtain⟨hrow,hold,hsz,hw5,hsm,b04,hH4⟩:=HZ.out
   obtain⟨hR,hord,hkb,hlo,hstk⟩:=HR.out
   obtain⟨ho5,hk5,hls⟩:=H5.out
   obtain⟨-,-,-,hTb⟩:=H6.out
   have hBH:B<=H:=HI.out.2.2.2.2.2.2
   have hwH:w.heap.size=H:=HI.out.2.2.2.2.1
   have hB1:=HB2.out.2
   have hk14:=hkb.size
   have hkk:=HW1.out.1.trans hkb
   have h9:∀b,b<w4.heap.size->b≠H->w9.heap[b]?=w4.heap[b]?:=λb hb hne=>(hext b hne).trans (hsm b hb)
   refine⟨_,rfl,cv',tv,av',sv',.slice pn N Cn2,.slice po lo Co,.slice ps ls Cs5,?_,?_,?_,?_,?_,?_,?_,?_⟩
   · rw[HE3.out.2,←hstk];rfl
   · rw[HE3.out.2]
     refine hR.keepT λb c U f hb hU=>?_
     have:b≠H:=λe=>by
      subst e
      rw[b04]at hb
      cases hb
      exact hU ⟨by decide,by decide,by decide,by decide⟩
     exact(h9 b (zqa hb) this).trans hb
   · rw[HE3.out.2,hlo]
     exact zq1k (zqy hord λx hx=>h9 x (own_lt hord hx).2.2 λe=>own_ne hord b04 (by decide) (e▸hx)) hB1
   · rw[HE3.out.2,hls]
     refine zq1k (zqy ho5 λx hx=>?_) (Nat.le_trans hB1 hk14)
     have h1:=own_lt ho5 hx
     exact(hext x (by omega)).trans (hold x (by omega))
   · refine zq1k (zqy hrow λx hx=>hext x ?_) (by omega)
     have h1:=own_lt hrow hx
     omega
   · exact Nat.le_trans hkk.size (by omega)
   · exact λb hb=>(h9 b (by have:=hkk.size;omega) (by omega)).trans (hkk.old b hb)
   · exact λb c U f hb hU=>(h9 b (by have:=zqa hb;have:=hkk.size;omega) (by have:=zqa hb;omega)).trans (hkk.typ b c U f hb hU)
end
set_option maxHeartbeats 1000000
set_option maxRecDepth 100000
theorem ints_of_row{w:World}{B:Nat}{T:TypeId}{v:Value}{l:List Int}(h:w.ownsRow B T 1 v l.length (l.map (Value.int .i64))):IntsAt w v l:=by
 rcases h.2 with⟨hv,h0⟩|⟨g,cap,cur,hv,hb,hh,h1,h2,h3,h4⟩
 · exact⟨none,0,by rw[hv,h0],λhne=>absurd (List.length_eq_zero_iff.1 h0) hne⟩
 · refine⟨_,cap,hv,λ_=>⟨g,0,rfl,λi hi=>?_⟩⟩
   rw[zq0 hh,Nat.zero_add]
   have e:(l.map (Value.int .i64))[i]?=some (.int .i64 (l.getD i 0)):=by simp[hi]
   rw[←h4,List.getElem?_take,if_pos (by omega)]at e
   simpa using e
theorem ints_of_nats{w:World}{B:Nat}{T:TypeId}{v:Value}{l:List Nat}(h:w.ownsRow B T 1 v l.length (l.map λ(i:Nat)=>.int .i64 i)):IntsAt w v (l.map λ(i:Nat)=>(i:Int)):=by
 refine ints_of_row (B:=B) (T:=T) ?_
 rw[List.length_map,List.map_map]
 exact h
theorem rowB_ints{X:Nat->Option Obj}{T:TypeId}{v:Value}{l:List Int}{w:World}(h:RowB X T 1 v l.length (l.map (Value.int .i64)))(hX:∀b o,X b=some o->w.heap[b]?=some o):IntsAt w v l:=ints_of_row (h.own hX)
theorem ansL_get{tI:TypeId}{X:Nat->Option Obj}{l:List Ans}{cs:List Value}(h:AnsL tI X l cs):∀{i:Nat}{a:Ans},l[i]?=some a->∃Y sl,cs[i*3]?=some (.bool a.ok)/\cs[i*3+1]?=some (.int .i64 a.n)/\cs[i*3+2]?=some sl/\RowB Y tI 1 sl a.l.length (a.l.map (Value.int .i64))/\∀b o,Y b=some o->X b=some o:=by
 induction h with
 |nil=>intro i a hi;simp at hi
 |snoc h ha hd ih=>
  rename_i X Y l cs cs' a'
  intro i a hi
  have hlen:=h.len
  rcases Nat.lt_or_ge i l.length with hlt|hge
  · rw[List.getElem?_append_left hlt]at hi
    obtain⟨Z,sl,h1,h2,h3,h4,h5⟩:=ih hi
    refine⟨Z,sl,?_,?_,?_,h4,λb o hb=>?_⟩
    · rw[List.getElem?_append_left (by omega)];exact h1
    · rw[List.getElem?_append_left (by omega)];exact h2
    · rw[List.getElem?_append_left (by omega)];exact h3
    · have h6:=h5 b o hb
      unfold orB
      cases hY:Y b with
      |none=>simp[h6]
      |some y=>have:=hd b (by rw[hY];simp);rw[this]at h6;cases h6
  · have e:i=l.length:=by
     have:=(List.getElem?_eq_some_iff.1 hi).1
     simp at this;omega
    subst e
    simp at hi
    subst hi
    obtain⟨sl,rfl,hr⟩:=ha
    refine⟨Y,sl,?_,?_,?_,hr,λb o hb=>by simp[orB,hb]⟩
    · rw[List.getElem?_append_right (by omega),hlen];simp
    · rw[List.getElem?_append_right (by omega),hlen];simp
    · rw[List.getElem?_append_right (by omega),hlen];simp
theorem ansR_at{tA tI:TypeId}{X:Nat->Option Obj}{hv:Value}{l:List Ans}{w:World}(h:AnsR tA tI X hv l)(hX:∀b o,X b=some o->w.heap[b]?=some o):AnsAt w hv l:=by
 obtain⟨Xr,XL,cs,hr,hL,rfl,hd⟩:=h
 rcases hr.2 with⟨hv,h0,_⟩|⟨g,cap,cur,rfl,rfl,h1,h2,h3,h4⟩
 · exact⟨none,0,by rw[hv,h0],λhne=>absurd (List.length_eq_zero_iff.1 h0) hne⟩
 · refine⟨_,cap,rfl,λ_=>⟨g,0,rfl,λi a hi=>?_⟩⟩
   have hg:w.heap[g]?=some (.cells cur tA (0,0)):=hX g _ (by simp[orB])
   obtain⟨Y,sl,e1,e2,e3,e4,e5⟩:=ansL_get hL hi
   have hil:=(List.getElem?_eq_some_iff.1 hi).1
   have get:∀{j:Nat}{v:Value},j<l.length*3->cs[j]?=some v->w.cell? ⟨g,0+j,none⟩=some v:=λ{j v}hj e=>by
    rw[zq0 hg,Nat.zero_add]
    rw[←h4,List.getElem?_take,if_pos hj]at e
    simpa using e
   refine⟨get (by omega) e1,?_,sl,?_,rowB_ints e4 λb o hb=>hX b o ?_⟩
   · exact get (by omega) e2
   · exact get (by omega) e3
   · have h6:=e5 b o hb
     by_cases hbg:b=g
     · subst hbg
       have:=hd b (by simp)
       rw[this]at h6;cases h6
     · simp[orB,hbg,h6]
theorem ansRep_at{ab N:Nat}{m:AnsM}{w:World}(h:AnsRep tT ab N m w){i:Nat}(hi:i<N):w.cell? ⟨ab,i,none⟩=some (m.hv i)/\AnsAt w (m.hv i) (m.st i):=by
 refine⟨(zq0 h.hd).trans ?_,ansR_at (h.row i hi) λb o hb=>h.blk i b o hi hb⟩
 simp[hi]
theorem trace_of{w:World}{N ab:Nat}{am:AnsM}{ov sv:Value}{ord:List Nat}{st:List Int}{stk:Bool}{B B':Nat}(h:AnsRep tT ab N am w)(ho:w.ownsRow B 3 1 ov ord.length (ord.map λ(i:Nat)=>.int .i64 i))(hs:w.ownsRow B' 2 1 sv st.length (st.map (Value.int .i64))):
 TraceAt w (.agg #[.slice (some ⟨ab,0,none⟩) N N,ov,sv,.bool stk]) N am.st (ord.map λ(i:Nat)=>(i:Int)) st stk:=
 ⟨_,_,_,_,rfl,ints_of_nats ho,ints_of_row hs,λ_=>⟨ab,0,rfl,λi hi=>⟨am.hv i,by rw[Nat.zero_add];exact(ansRep_at h hi).1,(ansRep_at h hi).2⟩⟩⟩
set_option maxHeartbeats 4000000
set_option maxRecDepth 100000
section
variable {NS N most:Nat} {ops:Nat->List OpX}
def NoL(t:RT):Prop:=∀a∈t.ans,a.l=[]
theorem nol_end{t:RT}(h:NoL t){a:Ans}(ha:a.l=[]):NoL (endR t a):=λb hb=>by
 rcases List.mem_append.1 hb with hb|hb
 · exact h b hb
 · rw[List.mem_singleton.1 hb];exact ha
theorem nol_of{t t1:RT}(h:NoL t)(e:t1.ans=t.ans):NoL t1:=λb hb=>h b (e▸hb)
theorem nol_settle(l:List OpX):∀(f:Nat)(t:RT),NoL t->NoL (zq15 l f t):=by
 intro f
 induction f with
 |zero=>exact λt h=>h
 |succ f ih=>
  intro t h
  unfold zq15
  split
  · cases l[t.at']? with
    |none=>exact h
    |some op=>
     refine ih _ ?_
     unfold beginR
     split
     · exact nol_of h rfl
     · exact nol_end h rfl
  · exact h
theorem nol_step{op:OpX}{t:RT}{C:List Int}(h:NoL t):NoL (stepR NS op C t).2:=by
 unfold stepR
 simp only
 repeat' split
 all_goals first|exact nol_end (nol_of h rfl) rfl |exact nol_of h rfl
theorem nol_turn{i:Nat}{r:RS}(h:∀i,NoL (r.T i))(ord:List Nat)(j:Nat):NoL ((turnR i (goR NS ops i r) r ord).T j):=by
 show NoL (upd' _ i _ j)
 by_cases e:j=i
 · subst e
   rw[upd'_same]
   unfold goR
   split
   · exact nol_settle _ _ _ (nol_step (h j))
   · exact h j
 · rw[zql _ _ e];exact h j
theorem nol_begin(C:List Int):∀n j,NoL ((beginRS ops C n).T j):=by
 intro n
 induction n with
 |zero=>exact λj a ha=>absurd ha (by intro h;cases h)
 |succ n ih=>
  intro j
  show NoL (upd' _ n _ j)
  by_cases e:j=n
  · subst e;rw[upd'_same];exact nol_settle _ _ _ (λa ha=>by cases ha)
  · rw[zql _ _ e];exact ih j
theorem keep_play{Q:RS->Prop}{C:List Int}(h0:Q (beginRS ops C N))(h1:∀x r,Q r->Q (step1R C.length ops N most x r))(l:List Int):Q (playR ops N most l C):=by
 have hs:∀(l:List Int)r,Q r->Q (zq14 C.length ops N most l r):=by
  intro l
  induction l with
  |nil=>exact λr h=>h
  |cons x l ih=>exact λr h=>ih _ (h1 x r h)
 have hr:∀f r,Q r->Q (roundsR' C.length ops N most f r):=by
  intro f
  induction f with
  |zero=>exact λr h=>h
  |succ f ih=>
   intro r h
   unfold roundsR'
   split
   · exact ih _ (hs _ _ h)
   · exact h
 exact hr _ _ (hs _ _ h0)
theorem nol_play(C:List Int)(l:List Int)(i:Nat):NoL ((playR ops N most l C).T i):=by
 refine keep_play (Q:=λr=>∀i,NoL (r.T i)) (nol_begin C N) (λx r h j=>?_) l i
 unfold step1R
 split
 · exact h j
 · exact nol_turn h _ j
theorem inv_play{C:List Int}(hC:0<C.length)(l:List Int):InvR C.length N ops most (playR ops N most l C):=by
 refine keep_play (Q:=λr=>InvR C.length N ops most r) (inv_begin hC rfl N) (λx r h=>?_) l
 unfold step1R
 split
 · exact h
 · rename_i hx
   refine inv_turn hC h (by omega) (λe=>hx (.inr (.inr (.inl e)))) ?_
   have h1:=h.ord
   have h2:r.ord.length≠most:=λe=>hx (.inr (.inr (.inr e)))
   omega
end
theorem ans_of_row{w:World}{B:Nat}{v:Value}{l:List Ans}(h:w.ownsRow B 43 3 v l.length (zq1d l))(hl:∀a∈l,a.l=[]):AnsAt w v l:=by
 rcases h.2 with⟨hv,h0⟩|⟨g,cap,cur,hv,hb,hh,h1,h2,h3,h4⟩
 · exact⟨none,0,by rw[hv,h0],λhne=>absurd (List.length_eq_zero_iff.1 h0) hne⟩
 · refine⟨_,cap,hv,λ_=>⟨g,0,rfl,λi a hi=>?_⟩⟩
   have hil:=(List.getElem?_eq_some_iff.1 hi).1
   obtain⟨e1,e2,e3⟩:=ansCells_get l i a hi
   have get:∀{j:Nat}{v:Value},j<l.length*3->(zq1d l)[j]?=some v->w.cell? ⟨g,0+j,none⟩=some v:=λ{j v}hj e=>by
    rw[zq0 hh,Nat.zero_add]
    rw[←h4,List.getElem?_take,if_pos hj]at e
    simpa using e
   refine⟨get (by omega) e1,get (j:=i*3+1) (by omega) e2,_,get (j:=i*3+2) (by omega) e3,?_⟩
   rw[hl a (List.mem_of_getElem? hi)]
   exact⟨none,0,rfl,λh=>absurd rfl h⟩
theorem OpsB.to {B B':Nat}{w w':World}{v:Value}{l:List OpX}(h:OpsB B w v l)(hB:B<=B')(hk:∀b,b<B->w'.heap[b]?=w.heap[b]?):OpsB B' w' v l:=by
 obtain⟨sp,cap,e,h1⟩:=h
 refine⟨sp,cap,e,λk op hop=>?_⟩
 obtain⟨g,off,e1,h2,h3,h4,h5,h6⟩:=h1 k op hop
 have c:=hk g h2
 exact⟨g,off,e1,by omega,(zq4 c).trans h3,(zq4 c).trans h4,(zq4 c).trans h5,(zq4 c).trans h6⟩
theorem RunIn.to {B B':Nat}{w w':World}{pp:Option Addr}{np N:Nat}{sp:Nat->Option Addr}{L Cp:Nat->Nat}{opv:Nat->Value}{ops:Nat->List OpX}(h:RunIn B w pp np N sp L Cp opv ops)(hB:B<=B')(hk:∀b,b<B->w'.heap[b]?=w.heap[b]?):RunIn B' w' pp np N sp L Cp opv ops:=
 ⟨h.eq,h.le,λh0=>by
  obtain⟨tb,to',e,h1,h2⟩:=h.at' h0
  exact⟨tb,to',e,by omega,λi hi=>(zq4 (hk tb h1)).trans (h2 i hi)⟩,h.row,h.len,h.val,λi hi=>(h.ops i hi).to hB hk⟩
theorem refplay_lone{p pp scp:Option Addr}{NS Cw np N Cn Cs:Nat}{sp:Nat->Option Addr}{L Cp:Nat->Nat}{opv:Nat->Value}{ops:Nat->List OpX}{ws sched:List Int}{mo:Int}{R:RS}(w:World)
 (hl:ws.length=NS) (hn:NS<=4611686018427387904) (hw:0<NS->∃wb wo,p=some ⟨wb,wo,none⟩/\∀i,i<NS->w.cell? ⟨wb,wo+i,none⟩=some (.int .i64 (ws.getD i 0)))
 (hin:RunIn w.heap.size w pp np N sp L Cp opv ops) (hns:sched.length<=4611686018427387904)
 (hsc:sched≠[]->∃sb off,scp=some ⟨sb,off,none⟩/\∀j x,sched[j]?=some x->w.cell? ⟨sb,off+j,none⟩=some (.int .i64 x)) (hRR:playR ops N (min mo.toNat 1048576) sched (zqz ws)=R):
 Calls Try.prog 11 #[.slice p NS Cw,.slice pp np Cn,.slice scp sched.length Cs,.int .i64 mo] w λe w'=>∃v,e=.returned v/\TraceAt w' v N (λi=>(R.T i).ans) (R.ord.map λ(i:Nat)=>(i:Int)) R.C (decide (0<leftN (ovR R) N))/\Beyond w w':=by
 have hnol:∀i,NoL (R.T i):=by rw[←hRR];exact nol_play _ _
 obtain⟨H,hH⟩:∃H,w.heap.size=H:=⟨_,rfl⟩
 have hb1:=zqq w (.cells #[.slice none 0 0,.slice none 0 0,.slice none 0 0,.bool false] 31)
 have ho1:∀b,b<H->(w.alloc (.cells #[.slice none 0 0,.slice none 0 0,.slice none 0 0,.bool false] 31)).heap[b]?=w.heap[b]?:=λb hb=>by rw[zq8,if_neg (by omega)]
 have hs1:(w.alloc (.cells #[.slice none 0 0,.slice none 0 0,.slice none 0 0,.bool false] 31)).heap.size=H+1:=by rw[zqc,hH]
 rw[hH]at hb1 hin
 have HI:=Lib.hid (And.intro hl (And.intro hn (And.intro hin (And.intro hns (And.intro hRR (And.intro hnol hH))))))
 have HW:=Lib.hid (And.intro hw hsc)
 clear hl hn hin hns hRR hnol hw hsc
 go_enter Try.func11,Try.ntmps11
 go_upto_region 1 with(fail)
 clear hH
 generalize w.alloc (.cells #[.slice none 0 0,.slice none 0 0,.slice none 0 0,.bool false] 31)=w1 at hb1 ho1 hs1 ⊢
 have hnw:=refnew_lone (p:=p) (N:=NS) (Cp:=Cw) (ws:=ws) (opv:=opv) (T:=λ_=>rt0) (av:=λ_=>.slice none 0 0) (sv:=λ_=>.slice none 0 0) w1 HI.out.1 HI.out.2.1 (λh0=>by
  obtain⟨wb,wo,e,h1⟩:=HW.out.1 h0
  exact⟨wb,wo,e,λi hi=>(zq4 (ho1 wb (by rw[←HI.out.2.2.2.2.2.2];exact cell_lt (h1 i hi)))).trans (h1 i hi)⟩)
 rw[hs1]at hnw
 have HN:=Lib.hid hnw
 have H1:=Lib.hid (And.intro hb1 (And.intro ho1 hs1))
 clear hnw hb1 ho1 hs1
 go_wp2_with (fail)
 refine Calls.mono HN.out ?_
 rintro e w2 ⟨rfl,⟨cv,hR2⟩,hk2⟩
 have hbl:0<(zqz ws).length/\(zqz ws).length<=64:=by
  rw[begunL_eq]
  split
  · decide
  · rename_i h
    have:0<ws.length:=List.length_pos_iff.2 h
    rw[List.length_take]
    omega
 have hrun:=run_lone (Cn:=Cn) (Cs:=Cs) (mo:=mo) hR2 (HI.out.2.2.1.to (Nat.le_succ H) λb hb=>(hk2.old b (by omega)).trans (H1.out.2.1 b hb)) hbl.1 hbl.2 HI.out.2.2.2.1 (λh0=>by
  obtain⟨sb,off,e,h1⟩:=HW.out.2 h0
  obtain⟨x,l,hsl⟩:=List.exists_cons_of_ne_nil h0
  have hlt:sb<H:=by rw[←HI.out.2.2.2.2.2.2];exact cell_lt (h1 0 x (by rw[hsl];rfl))
  exact⟨sb,off,e,by omega,λj x hj=>(zq4 ((hk2.old sb (by omega)).trans (H1.out.2.1 sb hlt))).trans (h1 j x hj)⟩)
 rw[HI.out.2.2.2.2.1]at hrun
 have HRU:=Lib.hid hrun
 have H2:=Lib.hid hk2
 clear hrun hk2 hR2 hbl HN
 go_wp2_with (fail)
 refine Calls.mono HRU.out ?_
 rintro e w3 ⟨v,rfl,cv3,tv3,av3,sv3,ansv,ordv,stv,rfl,hR3,ho3,hs3,ha3,hk3⟩
 obtain⟨stk,hstk⟩:∃x,decide (0<leftN (ovR R) N)=x:=⟨_,rfl⟩
 rw[hstk]
 obtain⟨p1,c1,he1,-,-⟩:=zq16 ho3
 obtain⟨p2,c2,he2,-,-⟩:=zq16 hs3
 obtain⟨p3,c3,he3,-,-⟩:=zq16 ha3
 obtain⟨l1,hl1⟩:∃x,R.ord.length=x:=⟨_,rfl⟩
 obtain⟨l2,hl2⟩:∃x,R.C.length=x:=⟨_,rfl⟩
 rw[hl1]at he1
 rw[hl2]at he2
 subst he1 he2 he3
 have b0:w3.heap[H]?=some (.cells #[.slice none 0 0,.slice none 0 0,.slice none 0 0,.bool false] 31):=(hk3.old H (by omega)).trans ((H2.out.old H (by omega)).trans H1.out.1)
 have H3:=Lib.hid (And.intro hR3 (And.intro ho3 (And.intro hs3 (And.intro ha3 (And.intro hk3 (And.intro hl1 (And.intro hl2 hstk)))))))
 clear hR3 ho3 hs3 ha3 hk3 hl1 hl2 hstk
 have r0:=(zq0 (off:=0) b0).trans rfl
 have r1:=(zq0 (off:=1) b0).trans rfl
 have r2:=(zq0 (off:=2) b0).trans rfl
 have r3:=(zq0 (off:=3) b0).trans rfl
 have z0:=zqe (off:=0) b0
 have z1:=zqe (off:=1) b0
 have z2:=zqe (off:=2) b0
 have z3:=zqe (off:=3) b0
 have B0:=Lib.hid b0
 clear b0
 go_wp2
 clear r0 r1 r2 r3 z0 z1 z2 z3
 have b0:=B0.out
 have b1':=zqb _ H 0 (.slice p3 N c3) b0
 have b2':=zqb _ H 1 (.slice p1 l1 c1) b1'
 have b3':=zqb _ H 2 (.slice p2 l2 c2) b2'
 have b4':=zqb _ H 3 (.bool stk) b3'
 have hext:∀x,x≠H->((((w3.setCell ⟨H,0,none⟩ (.slice p3 N c3)).setCell ⟨H,1,none⟩ (.slice p1 l1 c1)).setCell ⟨H,2,none⟩ (.slice p2 l2 c2)).setCell ⟨H,3,none⟩ (.bool stk)).heap[x]?=w3.heap[x]?:=λx hx=>by
  rw[zq3 _ _ _ _ hx,zq3 _ _ _ _ hx,zq3 _ _ _ _ hx,zq3 _ _ _ _ hx]
 have hsz9:((((w3.setCell ⟨H,0,none⟩ (.slice p3 N c3)).setCell ⟨H,1,none⟩ (.slice p1 l1 c1)).setCell ⟨H,2,none⟩ (.slice p2 l2 c2)).setCell ⟨H,3,none⟩ (.bool stk)).heap.size=w3.heap.size:=by simp only[zqh]
 generalize ((((w3.setCell ⟨H,0,none⟩ (.slice p3 N c3)).setCell ⟨H,1,none⟩ (.slice p1 l1 c1)).setCell ⟨H,2,none⟩ (.slice p2 l2 c2)).setCell ⟨H,3,none⟩ (.bool stk))=w9 at b4' hext hsz9 ⊢
 clear b1' b2' b3' b0
 have k0:=(zq0 (off:=0) b4').trans rfl
 have k1:=(zq0 (off:=1) b4').trans rfl
 have k2:=(zq0 (off:=2) b4').trans rfl
 have k3:=(zq0 (off:=3) b4').trans rfl
 refine bodyPost_ret (v:=.agg #[.slice p3 N c3,.slice p1 l1 c1,.slice p2 l2 c2,.bool stk]) ?_ rfl ?_
 · simp only[results,Try.func11]
   simp[go_sem,k0,k1,k2,k3]
 · obtain⟨hR3,ho3,hs3,ha3,hk3,hl1,hl2,hstk⟩:=H3.out
   have own9:∀{U:TypeId}{k n:Nat}{u:Value}{xs:List Value},w3.ownsRow (H+1) U k u n xs->w9.ownsRow (H+1) U k u n xs:=λh=>zqy h λx hx=>hext x (by have:=(own_lt h hx).2.1;omega)
   have hwH:=HI.out.2.2.2.2.2.2
   refine⟨_,rfl,⟨p3,c3,_,_,by rw[hstk],?_,?_,λh0=>?_⟩,?_,λb hb=>?_⟩
   · have h:=own9 ho3
     rw[hl1]at h
     rw[←hl1]at h
     rw[←hl1]
     exact ints_of_nats h
   · have h:=own9 hs3
     rw[←hl2]at h ⊢
     exact ints_of_row h
   · have h:=own9 ha3
     rcases h.2 with⟨_,e0⟩|⟨g,cap,cur,hv,hB',hh,h1,h2,h3',h4⟩
     · omega
     · cases hv
       refine⟨g,0,rfl,λi hi=>⟨av3 i,?_,ans_of_row (own9 (hR3.arow i hi)) (HI.out.2.2.2.2.2.1 i)⟩⟩
       rw[zq0 hh,Nat.zero_add]
       have e:((List.range N).map av3)[i]?=some (av3 i):=by simp[hi]
       rw[←h4,List.getElem?_take,if_pos (by omega)]at e
       simpa using e
   · have:=H1.out.2.2
     have:=H2.out.size
     have:=hk3.size
     omega
   · rw[hext b (by omega),hk3.old b (by omega),H2.out.old b (by omega)]
     exact H1.out.2.1 b (by omega)
theorem opsP_deep{S1:Type}{i:Nat}{dop:OpX->Proc (S1×(Nat->List Ans)) Ans}{k:Nat}(h:∀op,(dop op).Deep k):∀l,(opsP i dop l).Deep k:=by
 intro l
 induction l with
 |nil=>exact Proc.Deep.ret _
 |cons op l ih=>exact(h op).bind λa=>(Proc.Deep.act _).bind λ_=>ih
section
variable {M1 S1:Type} {C:Core M1 S1} {RP:Nat->Option Obj} {l₀:M1} {w wa w1 w2:World} {N n most:Nat} {sp:Nat->Option Addr} {L Cp:Nat->Nat} {ob ib:Nat->Nat} {dv fv v:Value} {pr:Nat->Proc (S1×(Nat->List Ans)) Unit} {sched:List Int} {b:OSt (TM (M1×AnsM) (S1×(Nat->List Ans)))} {m':TM (M1×AnsM) (S1×(Nat->List Ans))} {g:Nat}
def mOps(l₀:M1)(room:Nat):TM (M1×AnsM) (S1×(Nat->List Ans)):=⟨⟨(l₀,ans0),λ_ _=>none⟩,λ_=>.ret (),room⟩
theorem ops_rep0{ro:Nat->Option Obj}{ab:Nat}{room:Nat}(h:BRep (zqm C (zqv tT ab N)) ro ⟨(l₀,ans0),λ_ _=>none⟩ w1):(thrOf (zqm C (zqv tT ab N)) ownA ro pr).Rep (mOps l₀ room) w1:=⟨h,λi=>trivial⟩
theorem ops_foot0{ro:Nat->Option Obj}{ab room x:Nat}(h:(thrOf (zqm C (zqv tT ab N)) ownA ro pr).foot (mOps l₀ room) x):C.foot l₀ x\/x=ab\/ro x≠none:=by
 rcases h with(h|h|⟨i,hi,h⟩)|⟨i,h⟩|h
 · exact .inl h
 · exact .inr (.inl h)
 · exact absurd rfl h
 · exact absurd rfl h
 · exact .inr (.inr h)
theorem ops_res(hR:DRes wa N dv sp L Cp N ob ib fv w1)(hb:BRep C RP ⟨l₀,λ_ _=>none⟩ wa){room:Nat}
 (ho:Over1 (thrOf (zqm C (zqv tT (wa.heap.size+1) N)) ownA (roOf RP wa.heap.size N ob ib w1) pr) N most sched (mOps l₀ room) w1 b m' v g w2):
 OpsRes C N l₀ wa (playT pr N most sched (C.st l₀,λ_=>[])) (wa.heap.size+1) v m'.bm.l.1 m'.bm.l.2 w2/\leftN b.ov N=leftN (playT pr N most sched (C.st l₀,λ_=>[])).ov N:=by
 obtain⟨hs,he⟩:=ran_T (m₀:=mOps l₀ room) rfl ho.ran
 have hs0:(zqm C (zqv tT (wa.heap.size+1) N)).st (mOps (S1:=S1) l₀ room).bm.l=(C.st l₀,λ_=>[]):=rfl
 rw[hs0]at hs
 have hst:(C.st m'.bm.l.1,m'.bm.l.2.st)=(playT pr N most sched (C.st l₀,λ_=>[])).s:=he.trans hs.st
 have hB:=ho.rep.1
 have hsz:=hR.size
 have hsz2:=ho.size
 have hrl:∀x o,RP x=some o->x<wa.heap.size:=λx o h=>zqa (hb.rod x o h)
 have hrn:∀x,roOf RP wa.heap.size N ob ib w1 x≠none->RP x≠none\/wa.heap.size<=x:=λx h=>by
  cases hx:roOf RP wa.heap.size N ob ib w1 x with
  |none=>exact absurd hx h
  |some o=>
   rcases roOf_some hx with h|⟨h,_⟩
   · exact .inl (by rw[h];simp)
   · right
     rcases h with h|h|⟨i,hi,h⟩
     · omega
     · omega
     · have:=hR.lo i hi
       rcases h with h|h<;>omega
 have hfn:∀x,(thrOf (zqm C (zqv tT (wa.heap.size+1) N)) ownA (roOf RP wa.heap.size N ob ib w1) pr).foot m' x->roOf RP wa.heap.size N ob ib w1 x=none->C.foot l₀ x\/wa.heap.size<=x:=λx h hn=>by
  rcases ho.foot x h with h|h
  · rcases ops_foot0 h with h|h|h
    · exact .inl h
    · exact .inr (by omega)
    · exact absurd hn h
  · exact .inr (by omega)
 have hcr:∀x,C.foot m'.bm.l.1 x->roOf RP wa.heap.size N ob ib w1 x=none:=λx h=>Classical.byContradiction λy=>hB.rol x y (.inl h)
 refine⟨⟨hB.core.1,congrArg Prod.fst hst,hB.core.2.1,congrArg Prod.snd hst,by omega,λx hx hf=>?_,λx hx=>hfn x (.inl (.inl hx)) (hcr x hx),by omega,λi x hi hx=>hfn x (.inl (.inr (.inr ⟨i,hi,hx⟩))) (Classical.byContradiction λy=>hB.rol x y (.inr (.inr ⟨i,hi,hx⟩))),λx hx=>?_,?_,λx hx=>?_⟩,?_⟩
 · by_cases hro:roOf RP wa.heap.size N ob ib w1 x=none
   · refine(ho.old x (by omega) λh=>?_).trans (hR.old x hx)
     rcases ops_foot0 h with h|h|h
     · exact hf h
     · omega
     · exact h hro
   · cases hx2:roOf RP wa.heap.size N ob ib w1 x with
     |none=>exact absurd hx2 hro
     |some o=>
      rw[hB.rod x o hx2]
      rcases roOf_some hx2 with h|⟨h,_⟩
      · exact(hb.rod x o h).symm
      · exfalso
        rcases h with h|h|⟨i,hi,h⟩
        · omega
        · omega
        · have:=hR.lo i hi
          rcases h with h|h<;>omega
 · have h:=hB.core.2.2 x hx
   exact⟨λe=>h (.inl e),λi hi=>Classical.byContradiction λy=>h (.inr ⟨i,hi,y⟩)⟩
 · have:=ho.row
   rw[hs.ord]at this
   exact zq1k this (by omega)
 · have h:=(ho.rowf x hx).1
   exact⟨λy=>h (.inl (.inl y)),λe=>h (.inl (.inr (.inl e))),λi hi=>Classical.byContradiction λy=>h (.inl (.inr (.inr ⟨i,hi,y⟩)))⟩
 · exact leftN_congr λi _=>by rw[hs.ov]
theorem OpsRes.ext {r:TSt (S1×(Nat->List Ans))}{ab:Nat}{l':M1}{am:AnsM}{w':World}(h:OpsRes C N l₀ wa r ab v l' am w2){H:Nat}(hw:w.heap.size=H)(hwa:wa.heap.size=H+1)(hoa:∀b,b<H->wa.heap[b]?=w.heap[b]?)(hl:∀b,C.foot l₀ b->b<H)(hsz:w2.heap.size<=w'.heap.size)(hold:∀x,x<w2.heap.size->x≠H->w'.heap[x]?=w2.heap[x]?):OpsRes C N l₀ w r ab v l' am w':=by
 have hs:=h.size
 have hab:=h.abl
 have hcn:∀b,C.foot l' b->b≠H:=λb hb e=>by
  rcases h.foot b hb with h2|h2
  · have:=hl b h2;omega
  · omega
 have han:∀i b,i<N->am.X i b≠none->b≠H:=λi b hi hb e=>by
  rcases h.ansn i b hi hb with h2|h2
  · have:=hl b h2;omega
  · omega
 refine⟨C.frame _ _ _ h.rep λb hb=>hold b (C.lt _ _ _ h.rep hb) (hcn b hb),h.st,⟨(hold ab (zqa h.ans.hd) (by omega)).trans h.ans.hd,h.ans.row,λi b o hi hb=>(hold b (zqa (h.ans.blk i b o hi hb)) (han i b hi (by rw[hb];simp))).trans (h.ans.blk i b o hi hb),h.ans.nab,h.ans.sep⟩,h.ast,by omega,λb hb hf=>(hold b (by omega) (by omega)).trans ((h.old b (by omega) hf).trans (hoa b (by omega))),λb hb=>(h.foot b hb).imp id (λx=>by omega),by omega,λi b hi hb=>(h.ansn i b hi hb).imp id (λx=>by omega),h.anf,?_,h.rowf⟩
 refine zq1k (zqy h.row λg hg=>hold g (own_lt h.row hg).2.2 ?_) (by omega)
 have:=(own_lt h.row hg).2.1
 omega
end
theorem DRes.re {w w':World}{N n:Nat}{dv:Value}{sp:Nat->Option Addr}{L Cp:Nat->Nat}{ob ib:Nat->Nat}{fv:Value}(h:DRes w N dv sp L Cp n ob ib fv w')(τ:Nat->Question->Nat)(d:Nat):DRes w N dv sp L Cp n ob ib fv (Go.Car.re w' τ d):=h.of_heap rfl
theorem DRes.of_re {w w':World}{τ:Nat->Question->Nat}{d:Nat}{N n:Nat}{dv:Value}{sp:Nat->Option Addr}{L Cp:Nat->Nat}{ob ib:Nat->Nat}{fv:Value}(h:DRes (Go.Car.re w τ d) N dv sp L Cp n ob ib fv w'):DRes w N dv sp L Cp n ob ib fv w':=
 ⟨h.size,h.old,h.db,h.ab,h.hb,h.frow,h.obx,h.ibx,h.lo,h.inc⟩
theorem ops_row_form{w:World}{B N:Nat}{T:TypeId}{v:Value}{xs:List Value}(h:w.ownsRow B T 1 v N xs):∃p C,v=.slice p N C/\(v.ownBlock=p.map (·.block))/\(0<N->∃g,p=some ⟨g,0,none⟩/\v.ownBlock=some g/\∀i x,xs[i]?=some x->w.cell? ⟨g,i,none⟩=some x):=by
 rcases h.2 with⟨hv,h0⟩|⟨g,cap,cur,hv,hb,hh,h1,h2,h3,h4⟩
 · subst h0;exact⟨none,0,hv,by rw[hv];rfl,λh=>absurd h (Nat.lt_irrefl _)⟩
 · refine⟨_,cap,hv,by rw[hv];rfl,λ_=>⟨g,rfl,by rw[hv];rfl,λi x hx=>?_⟩⟩
   rw[zq0 (off:=i) hh]
   have hi:i<xs.length:=(List.getElem?_eq_some_iff.1 hx).1
   have hl:=h.1
   rw[←h4,List.getElem?_take]at hx
   split at hx
   · simpa using hx
   · cases hx
theorem ops_calls{Fin:Machine->Trace->Prop}(hFin:Back Try.prog Fin){n:Nat}(hn:0<n){A:FuncId->Bool}(hP:Plain Try.prog A)(hRS:RowsS Try.prog A){M1 S1:Type}{C:Core M1 S1}{RP:Nat->Option Obj}{l₀:M1}{w:World}
 {np Cn N Cs:Nat} {pp scp:Option Addr} {sp:Nat->Option Addr} {L Cp:Nat->Nat} {ops:Nat->List OpX} {sched:List Int} {mo:Int} {f:FuncId} {first caps:Array Value} {fn:Func} {cc:Code} (hf:Try.prog.funcs[f]?=some fn) (hb':fn.body=some cc) (hnm:(fn.name== "runtime.NumGoroutine")=false)
 (hb:BRep C RP ⟨l₀,λ_ _=>none⟩ w) (ho:OpsAt w RP pp np N sp L Cp ops) (hsl:sched.length<=4611686018427387904)
 (hs:sched≠[]->∃sb off,scp=some ⟨sb,off,none⟩/\¬C.foot l₀ sb/\∀j x,sched[j]?=some x->w.cell? ⟨sb,off+j,none⟩=some (.int .i64 x))
 {dop:Nat->OpX->Proc (S1×(Nat->List Ans)) Ans} (hdeep:∀i op k,(dop i op).Deep k)
 (hdo:∀(ro:Nat->Option Obj)(ab:Nat)(pr:Nat->Proc (S1×(Nat->List Ans)) Unit)(st:Nat)(cr:Frame)(rest:List Frame)(EN:List PanicEntry->Prop)(i:Nat)(o:List Ans)(op:OpX),(∀b x,RP b=some x->ro b=some x)->i<N->
  SpecR (thrSys hP hRS (zqm C (zqv tT ab N)) ownA ro pr 72 (.pointer (some ⟨st,0,none⟩)) cr rest NEnd EN i o) f (first++#[.iface 108 (.pointer (some ⟨st,0,none⟩)),.int .i64 i,op.val]++caps) (dop i op) (AnsV 2))
 {c:Frame} {cs:List Frame}
 (hmain:∀ab v l' am w',OpsRes C N l₀ w (playT (λi=>opsP i (dop i) (ops i)) N (min mo.toNat 1048576) sched (C.st l₀,λ_=>[])) ab v l' am w'->
  J0 Try.prog Fin (n+N) (G (c.finish (.agg #[.slice (some ⟨ab,0,none⟩) N N,v,.slice none 0 0,.bool (decide (0<leftN (playT (λi=>opsP i (dop i) (ops i)) N (min mo.toNat 1048576) sched (C.st l₀,λ_=>[])).ov N))])) cs) w'):
 J0 Try.prog Fin n (G (Frame.enter Try.prog 26 #[.slice pp np Cn,.func (.func f) first caps,.slice scp sched.length Cs,.int .i64 mo] .normal) (c::cs)) w:=by
 have hJ:=j0_JS hFin
 have hC:=j0_calm hFin
 have e:Frame.enter Try.prog 26 #[.slice pp np Cn,.func (.func f) first caps,.slice scp sched.length Cs,.int .i64 mo] .normal=(bN 26).at (zqr Try.f26 #[.slice pp np Cn,.func (.func f) first caps,.slice scp sched.length Cs,.int .i64 mo]) [.code ((Try.f26.body).getD .skip)]:=by kernel_rfl
 have ea:zqr Try.f26 #[.slice pp np Cn,.func (.func f) first caps,.slice scp sched.length Cs,.int .i64 mo]=⟨#[.slice pp np Cn,.func (.func f) first caps,.slice scp sched.length Cs,.int .i64 mo,undef,undef,undef,undef,undef,undef,undef,undef,undef,undef,undef,undef,undef,undef,undef,undef,undef,undef,undef,undef,undef,undef,undef,undef,undef,undef,undef,undef],[]⟩:=by kernel_rfl
 rw[e,ea,ops0]
 clear e ea
 have hm:=Lib.hid hmain
 clear hmain
 obtain⟨H,hH⟩:∃H,w.heap.size=H:=⟨_,rfl⟩
 refine hJ.ctl (s:=n) (λw=>stepG_seq) ?_
 refine at_lone hJ hC plainMD (by kernel_rfl) (λt w'=>t=#[.slice pp np Cn,.func (.func f) first caps,.slice scp sched.length Cs,.int .i64 mo,undef,undef,undef,undef,.pointer (some ⟨H,0,none⟩),undef,undef,undef,undef,undef,undef,undef,undef,undef,undef,undef,undef,undef,undef,undef,undef,undef,undef,undef,undef,undef,undef,undef]/\∃τ d,w'=re (w.alloc (.cells #[.slice none 0 0,.slice none 0 0,.slice none 0 0,.bool false] 31)) τ d) (λt w' τ d h=>⟨h.1,by obtain⟨τ',d',rfl⟩:=h.2;exact⟨τ,d,by rw[re_re]⟩⟩) (by decide) (λτ d=>?_) ?_
 · obtain⟨u0,hu0⟩:∃c,headC (opsT 0)=c:=⟨_,rfl⟩
   have eu0:=hu0
   rw[hu0]
   simp only[opsT,headC,tailN,Try.f26,al_od]at eu0
   subst eu0
   clear hu0 hdo hdeep hs ho hb hf hb' hnm
   go_wp2
   exact⟨rfl,rfl,τ,d,rfl⟩
 rintro t w' ⟨rfl,τ,d,rfl⟩
 refine hJ.re' n _ _ τ d ?_
 have hwa:(w.alloc (.cells #[.slice none 0 0,.slice none 0 0,.slice none 0 0,.bool false] 31)).heap.size=H+1:=by rw[zqc,hH]
 have hob:∀b,b<H->(w.alloc (.cells #[.slice none 0 0,.slice none 0 0,.slice none 0 0,.bool false] 31)).heap[b]?=w.heap[b]?:=λb hb=>by rw[zq8,if_neg (by omega)]
 have hzb:(w.alloc (.cells #[.slice none 0 0,.slice none 0 0,.slice none 0 0,.bool false] 31)).heap[H]?=some (.cells #[.slice none 0 0,.slice none 0 0,.slice none 0 0,.bool false] 31):=hH▸zqq w _
 obtain⟨wa,hwae⟩:∃wa,w.alloc (.cells #[.slice none 0 0,.slice none 0 0,.slice none 0 0,.bool false] 31)=wa:=⟨_,rfl⟩
 rw[hwae]at hwa hob hzb ⊢
 clear hwae
 have hlw:∀b,C.foot l₀ b->b<H:=λb h=>by rw[←hH];exact C.lt _ _ _ hb.core h
 have hba:BRep C RP ⟨l₀,λ_ _=>none⟩ wa:=hb.frame λb h=>hob b (by rw[←hH];exact hb.lt h)
 have hat:0<np->∃tb to',pp=some ⟨tb,to',none⟩/\∀i,i<N->wa.cell? ⟨tb,to'+i,none⟩=some (.slice (sp i) (L i) (Cp i)):=λh0=>by
  obtain⟨tb,to',e,h1⟩:=ho.at' h0
  exact⟨tb,to',e,λi hi=>(zq4 (hob tb (by rw[←hH];exact cell_lt (h1 i hi)))).trans (h1 i hi)⟩
 have hs2:sched≠[]->∃sb off,scp=some ⟨sb,off,none⟩/\¬C.foot l₀ sb/\sb<H/\∀j x,sched[j]?=some x->wa.cell? ⟨sb,off+j,none⟩=some (.int .i64 x):=λh0=>by
  obtain⟨sb,off,e,h1',h2⟩:=hs h0
  obtain⟨x,l,hsl⟩:=List.exists_cons_of_ne_nil h0
  have hlt:sb<H:=by rw[←hH];exact cell_lt (h2 0 x (by rw[hsl];rfl))
  exact⟨sb,off,e,h1',hlt,λj x hj=>(zq4 (hob sb hlt)).trans (h2 j x hj)⟩
 have hNe:=ho.eq
 have hN64:N<=64:=by omega
 have hnp:=ho.le
 have hrow:=ho.row
 have hlen:=ho.len
 have hop:=ho.op
 clear ho hs hb
 refine hJ.ctl (s:=n) (λw=>stepG_seq) ?_
 refine at_lone hJ hC plainMD (by kernel_rfl) (λt w'=>∃ob ib fv,t=#[.slice pp np Cn,.func (.func f) first caps,.slice scp sched.length Cs,.int .i64 mo,undef,undef,undef,undef,.pointer (some ⟨H,0,none⟩),fv,.slice (some ⟨H+1+1,0,none⟩) N N,undef,undef,undef,.tuple #[fv,.slice (some ⟨H+1+1,0,none⟩) N N],.slice pp np Cn,.func (.func f) first caps,.tuple #[fv,.slice (some ⟨H+1+1,0,none⟩) N N],fv,.slice (some ⟨H+1+1,0,none⟩) N N,undef,undef,undef,undef,undef,undef,undef,undef,undef,undef,undef,undef]/\DRes wa N (.func (.func f) first caps) sp L Cp N ob ib fv w') (λt w' τ d h=>?_) (by decide) (λτ d=>?_) ?_
 · obtain⟨ob,ib,fv,h1,h2⟩:=h
   exact⟨ob,ib,fv,h1,h2.re τ d⟩
 · obtain⟨u0,hu0⟩:∃c,headC (opsT 1)=c:=⟨_,rfl⟩
   have eu0:=hu0
   rw[hu0]
   simp only[opsT,headC,tailN,Try.f26,al_od]at eu0
   subst eu0
   clear hu0
   have HM:=Lib.hid (doing_lone (pp:=pp) (n:=np) (Cn:=Cn) (dv:=.func (.func f) first caps) (sp:=sp) (L:=L) (Cp:=Cp) ⟨_,_,_,rfl⟩ (re wa τ d) hnp (λi hi=>hrow i (by rw[hNe];exact hi)) (λh0=>by
    obtain⟨tb,to',e,h1⟩:=hat h0
    exact⟨tb,to',e,λi hi=>h1 i (by rw[hNe];exact hi)⟩))
   rw[←hNe]at HM
   have HH:=Lib.hid (And.intro hH hwa)
   clear hs2 hat hlw hba hob hzb hH hwa hNe hN64 hnp hrow hlen hop hdo hdeep hf hb' hnm hsl
   go_wp2_with (fail)
   refine Calls.mono HM.out ?_
   rintro e w' ⟨ob,ib,fv,rfl,hR⟩
   have hR2:=Lib.hid hR.of_re
   clear hR
   rw[show(re wa τ d).heap.size=H+1 from HH.out.2]
   go_wp2
   exact⟨rfl,ob,ib,fv,rfl,hR2.out⟩
 rintro t w1 ⟨ob,ib,fv,rfl,hR⟩
 obtain⟨fp,Cf,rfl,hfo,hfp⟩:=ops_row_form hR.frow
 refine hJ.ctl (s:=n) (λw=>stepG_seq) ?_
 have hrep1:=ops_rep hR hba
 obtain⟨u0,hu0⟩:∃c,headC (opsT 2)=c:=⟨_,rfl⟩
 have eu0:=hu0
 rw[hu0]
 simp only[opsT,headC,tailN,Try.f26,al_od]at eu0
 subst eu0
 clear hu0
 refine hJ.ctl (s:=n) (λw=>stepG_region) ?_
 have HR:=Lib.hid hR
 have HP:=Lib.hid hrep1
 have HX:=Lib.hid (And.intro hat (And.intro hs2 (And.intro hob (And.intro hzb (And.intro hwa (And.intro hlw (And.intro hba (And.intro hrow (And.intro hlen hop)))))))))
 have HA:=Lib.hid (And.intro hfo hfp)
 have HNE:=Lib.hid hNe
 clear hNe
 have HD:=Lib.hid (And.intro hdo (And.intro hdeep (And.intro hf (And.intro hb' hnm))))
 clear hR hrep1 hat hs2 hob hzb hwa hfo hfp hlw hba hrow hlen hop hdo hdeep hf hb' hnm
 refine zqw (s:=n) (by decide) hJ (zqu _) true (.inl rfl) 0 3 8 rfl rfl rfl (by rfl) ?_
 intro τ d
 simp only[List.drop_zero,List.take_succ_cons,List.take_zero]
 go_wp2
 simp only[zqi]
 refine hJ.re' n _ _ τ d ?_
 refine at_call (by decide) hJ (s:=n) rfl rfl (f:=38) (args:=#[.slice fp N Cf,.slice scp sched.length Cs,.int .i64 mo]) (λτ d=>?_) (λτ d=>?_) ?_
 · simp[go_sem,execOp,Act.eval,resolve,Deferred.ofValue,invoke,callFunc,Try.func38,Try.f38]
 · intro e he
   simp[go_sem,execOp,Act.eval,resolve,Deferred.ofValue,invoke,callFunc,Try.func38,Try.f38,Sem.runT_eq]at he
 obtain⟨hat,hs2,hob,hzb,hwa,hlw,hba,hrow,hlen,hop⟩:=HX.out
 obtain⟨hfo,hfp⟩:=HA.out
 obtain⟨hdo,hdeep,hf,hb',hnm⟩:=HD.out
 have hRo:∀i,i<N->DoRo (roOf RP wa.heap.size N ob ib w1) i N (wa.heap.size+1) (ob i) wa.heap.size (ib i) (wa.heap.size+2) (sp i) (min (L i) 65536) (Cp i) (ops i) f first caps:=λi hi=>ops_ro HR.out hba hN64 hlen hop hi
 have hfree:∀x,wa.heap.size+3<=x->w1.heap[x]?≠none->(∀i,i<N->x≠ob i/\x≠ib i)->¬(C.foot l₀ x\/x=wa.heap.size+1\/roOf RP wa.heap.size N ob ib w1 x≠none):=λx hx _ hne h=>by
  rcases h with h|h|h
  · have:=hlw x h;omega
  · omega
  · cases ho:roOf RP wa.heap.size N ob ib w1 x with
    |none=>exact h ho
    |some o=>
     rcases roOf_some ho with h2|⟨h2,_⟩
     · have:=zqa (hba.rod x o h2);omega
     · rcases h2 with h2|h2|⟨i,hi,h2|h2⟩
       · omega
       · omega
       · exact(hne i hi).1 h2
       · exact(hne i hi).2 h2
 refine over_calls hFin (T:=thrOf (zqm C (zqv tT (wa.heap.size+1) N)) ownA (roOf RP wa.heap.size N ob ib w1) (λi=>opsP i (dop i) (ops i))) (m₀:=mOps l₀ (min mo.toNat 1048576+100)) (N:=N) (most:=min mo.toNat 1048576) (tv:=λi=>cloD wa.heap.size (ob i) (ib i)) (sched:=sched) hn (by have:=HNE.out;omega) rfl (ops_rep0 HP.out) (Nat.le_refl _) ?_ (λi hi=>?_) ?_ ?_
 · intro h0
   obtain⟨g,e,hg,hc⟩:=hfp h0
   refine⟨g,e,λhf=>?_,λi hi=>hc i _ (by simp[clsD,hi])⟩
   obtain⟨⟨cc,hcc⟩,hlo,hlt⟩:=own_lt HR.out.frow hg
   refine hfree g hlo (by rw[hcc];simp) (λi hi=>⟨λe=>?_,λe=>?_⟩) (ops_foot0 hf)
   · exact heap_ne hcc (HR.out.obx i hi) (by decide) e
   · exact heap_ne hcc (HR.out.ibx i hi) (by decide) e
 · refine thr_runs hP hRS (fn:=Try.f47) (c:=(Try.f47.body).getD .skip) Try.func47 rfl rfl (λk=>opsP_deep (λop=>hdeep i op k) _) (λst cr rest EN s m w hA hown=>?_)
   exact doing_calls hP hRS hf hb' hnm (hRo i hi) (λo op=>hdo _ _ _ st cr rest EN i o op (λb x h=>roOf_rp h) hi) s m w hA hown
 · refine⟨hsl,scp,Cs,rfl,λh0=>?_⟩
   obtain⟨sb,off,e,h1',h2,h3⟩:=hs2 h0
   refine⟨sb,off,e,λj x hj=>?_⟩
   cases h1:RP sb with
   |some o=>exact .inr λm w h=>(zq4 ((h.1.rod sb o (roOf_rp h1)).trans (hba.rod sb o h1).symm)).trans (h3 j x hj)
   |none=>
   refine .inl ⟨(zq4 (HR.out.old sb (by omega))).trans (h3 j x hj),by have:=HR.out.size;omega,λhf=>?_⟩
   rcases ops_foot0 hf with h4|h4|h4
   · exact h1' h4
   · omega
   · cases ho:roOf RP wa.heap.size N ob ib w1 sb with
     |none=>exact h4 ho
     |some o=>
      rcases roOf_some ho with h5|⟨h5,_⟩
      · rw[h1]at h5;cases h5
      · rcases h5 with h5|h5|⟨i,hi,h5⟩
        · omega
        · omega
        · have:=HR.out.lo i hi
          rcases h5 with h5|h5<;>omega
 intro b m' v g capg w2 ho
 obtain⟨hres,hleft⟩:=ops_res HR.out hba ho
 have hvrow:=ho.row
 clear ho
 rw[Frame.finish_at]
 walk_nrm
 obtain⟨pv',cv',rfl,_⟩:=zq16 hvrow
 clear hvrow
 generalize b.ord.length=nv' at hres ⊢
 have HO:=Lib.hid hres
 rw[hleft]
 have hHw:=zqa hzb
 clear hleft hres
 obtain⟨stuck,hstuck⟩:∃x,decide (0<leftN (playT (λi=>opsP i (dop i) (ops i)) N (min mo.toNat 1048576) sched (C.st l₀,λ_=>[])).ov N)=x:=⟨_,rfl⟩
 rw[hstuck]
 have HST:=Lib.hid hstuck
 clear hstuck
 refine zqw (s:=n+N) (by decide) hJ (zqu _) true (.inl rfl) 4 7 0 rfl rfl rfl (by rfl) ?_
 intro τ d
 simp only[List.drop_succ_cons,List.drop_zero,List.take_succ_cons,List.take_zero]
 go_wp2
 simp only[zqi]
 refine hJ.re' (n+N) _ _ τ d ?_
 refine hJ.ctl (s:=n+N) (λw=>stepG_region_end) ?_
 have hze:w2.heap[H]?=some (.cells #[.slice none 0 0,.slice none 0 0,.slice none 0 0,.bool false] 31):=(HO.out.old H hHw (λh=>by have:=hlw H h;omega)).trans hzb
 refine at_rest_lone hJ hC plainMD (by kernel_rfl) (λv w'=>v=.agg #[.slice (some ⟨H+1+1,0,none⟩) N N,.slice pv' nv' cv',.slice none 0 0,.bool stuck]/\∃l' am,OpsRes C N l₀ w (playT (λi=>opsP i (dop i) (ops i)) N (min mo.toNat 1048576) sched (C.st l₀,λ_=>[])) (H+1+1) (.slice pv' nv' cv') l' am w') (λv w' τ d⟨h1,l',am,h2⟩=>⟨h1,l',am,h2.re τ d⟩) rfl Try.func26 (λτ d=>?_) ?_
 · obtain⟨u0,hu0⟩:∃c,opsT 3=c:=⟨_,rfl⟩
   have eu0:=hu0
   rw[hu0]
   simp only[opsT,headC,tailN,Try.f26,al_od]at eu0
   subst eu0
   clear hu0
   have HZ:=Lib.hid (And.intro hH (And.intro hwa (And.intro hob hlw)))
   have b0:(re w2 τ d).heap[H]?=some (.cells #[.slice none 0 0,.slice none 0 0,.slice none 0 0,.bool false] 31):=hze
   have hre:=HO.out.re τ d
   clear HO
   generalize re w2 τ d=w3 at b0 hre ⊢
   have HPR:=Lib.hid hre
   clear hre hfree hRo hat hs2 hob hzb hwa hlw hba hrow hlen hop hfo hfp hdo hdeep hf hb' hnm hze hHw HX HA HD HP HR hH hsl hN64 hnp hm
   have r0:=(zq0 (off:=0) b0).trans rfl
   have r1:=(zq0 (off:=1) b0).trans rfl
   have r2:=(zq0 (off:=2) b0).trans rfl
   have r3:=(zq0 (off:=3) b0).trans rfl
   have z0:=zqe (off:=0) b0
   have z1:=zqe (off:=1) b0
   have z2:=zqe (off:=2) b0
   have z3:=zqe (off:=3) b0
   have B0:=Lib.hid b0
   clear b0
   go_wp2
   clear r0 r1 r2 r3 z0 z1 z2 z3
   have b1':=zqb w3 H 0 (.slice (some ⟨H+1+1,0,none⟩) N N) B0.out
   have b2':=zqb _ H 1 (.slice pv' nv' cv') b1'
   have b3':=zqb _ H 2 (.slice none 0 0) b2'
   have b4':=zqb _ H 3 (.bool stuck) b3'
   have hext:∀x,x<w3.heap.size->x≠H->((((w3.setCell ⟨H,0,none⟩ (.slice (some ⟨H+1+1,0,none⟩) N N)).setCell ⟨H,1,none⟩ (.slice pv' nv' cv')).setCell ⟨H,2,none⟩ (.slice none 0 0)).setCell ⟨H,3,none⟩ (.bool stuck)).heap[x]?=w3.heap[x]?:=λx _ hx=>by
    rw[zq3 _ _ _ _ hx,zq3 _ _ _ _ hx,zq3 _ _ _ _ hx,zq3 _ _ _ _ hx]
   have hsz8:((((w3.setCell ⟨H,0,none⟩ (.slice (some ⟨H+1+1,0,none⟩) N N)).setCell ⟨H,1,none⟩ (.slice pv' nv' cv')).setCell ⟨H,2,none⟩ (.slice none 0 0)).setCell ⟨H,3,none⟩ (.bool stuck)).heap.size=w3.heap.size:=by simp only[zqh]
   generalize ((((w3.setCell ⟨H,0,none⟩ (.slice (some ⟨H+1+1,0,none⟩) N N)).setCell ⟨H,1,none⟩ (.slice pv' nv' cv')).setCell ⟨H,2,none⟩ (.slice none 0 0)).setCell ⟨H,3,none⟩ (.bool stuck))=w8 at b4' hext hsz8 ⊢
   clear b1' b2' b3'
   have k0:=(zq0 (off:=0) b4').trans rfl
   have k1:=(zq0 (off:=1) b4').trans rfl
   have k2:=(zq0 (off:=2) b4').trans rfl
   have k3:=(zq0 (off:=3) b4').trans rfl
   have hres:=HPR.out
   rw[HZ.out.2.1]at hres
   refine⟨rfl,.agg #[.slice (some ⟨H+1+1,0,none⟩) N N,.slice pv' nv' cv',.slice none 0 0,.bool stuck],?_,_,rfl,rfl,_,_,hres.ext HZ.out.1 HZ.out.2.1 HZ.out.2.2.1 HZ.out.2.2.2 (by omega) hext⟩
   simp only[results,Try.f26]
   simp[go_sem,k0,k1,k2,k3]
 · rintro v w' ⟨rfl,l',am,h⟩
   have h2:=hm.out _ _ l' am w' h
   rw[HST.out]at h2
   exact h2
noncomputable def splT(n:Nat):Code:=tailN n (Try.f10.body.getD .skip)
theorem spl0:Try.f10.body.getD .skip=.seq (headC (splT 0)) (.seq (headC (splT 1)) (.seq (headC (splT 2)) (splT 3))):=by kernel_rfl
structure PlayedR{S1:Type}(N:Nat)(w:World)(r:TSt (S1×(Nat->List Ans)))(st:List Int)(ab:Nat)(ov sv:Value)(am:AnsM)(w':World):Prop where
 size:w.heap.size<=w'.heap.size
 old:∀b,b<w.heap.size->w'.heap[b]?=w.heap[b]?
 ans:AnsRep tT ab N am w'
 ast:am.st=r.s.2
 abl:w.heap.size<=ab
 ansn:∀i b,i<N->am.X i b≠none->w.heap.size<=b
 orow:w'.ownsRow w.heap.size 3 1 ov r.ord.length (r.ord.map λ(i:Nat)=>.int .i64 i)
 srow:w'.ownsRow w.heap.size 2 1 sv st.length (st.map (Value.int .i64))
 rowf:∀x,ov.ownBlock=some x->x≠ab/\∀i,i<N->am.X i x=none
 srowf:∀x,sv.ownBlock=some x->x≠ab/\(∀i,i<N->am.X i x=none)/\ov.ownBlock≠some x
theorem PlayedR.re {S1:Type}{N:Nat}{w w':World}{r:TSt (S1×(Nat->List Ans))}{st:List Int}{ab:Nat}{ov sv:Value}{am:AnsM}(h:PlayedR N w r st ab ov sv am w')(τ:Nat->Question->Nat)(d:Nat):PlayedR N w r st ab ov sv am (Go.Car.re w' τ d):=
 ⟨h.size,h.old,⟨h.ans.hd,h.ans.row,h.ans.blk,h.ans.nab,h.ans.sep⟩,h.ast,h.abl,h.ansn,h.orow,h.srow,h.rowf,h.srowf⟩
theorem played_of{M1 S1:Type}{C:Core M1 S1}{N H:Nat}{l₀ l':M1}{w wb w2 w':World}{r:TSt (S1×(Nat->List Ans))}{ab:Nat}{v sv:Value}{am:AnsM}{st:List Int}(h:OpsRes C N l₀ wb r ab v l' am w2)(hw:w.heap.size=H)(hwb:H+1<=wb.heap.size)(hob:∀b,b<H->wb.heap[b]?=w.heap[b]?)
 (hl:∀b,C.foot l₀ b->H+1<=b) (hsz:w2.heap.size<=w'.heap.size) (hold:∀x,x<w2.heap.size->x≠H->w'.heap[x]?=w2.heap[x]?) (hs:w'.ownsRow w2.heap.size 2 1 sv st.length (st.map (Value.int .i64))):PlayedR N w r st ab v sv am w':=by
 have h1:=h.size
 have h2:=h.abl
 have han:∀i b,i<N->am.X i b≠none->H+1<=b:=λi b hi hb=>(h.ansn i b hi hb).elim (hl b) (λx=>by omega)
 refine⟨by omega,λb hb=>(hold b (by omega) (by omega)).trans ((h.old b (by omega) λx=>by have:=hl b x;omega).trans (hob b (by omega))),⟨(hold ab (zqa h.ans.hd) (by omega)).trans h.ans.hd,h.ans.row,λi b o hi hb=>(hold b (zqa (h.ans.blk i b o hi hb)) (by have:=han i b hi (by rw[hb];simp);omega)).trans (h.ans.blk i b o hi hb),h.ans.nab,h.ans.sep⟩,h.ast,by omega,λi b hi hb=>by have:=han i b hi hb;omega,?_,zq1k hs (by omega),λx hx=>(h.rowf x hx).2,λx hx=>?_⟩
 · refine zq1k (zqy h.row λg hg=>hold g (own_lt h.row hg).2.2 ?_) (by omega)
   have:=(own_lt h.row hg).2.1
   omega
 · have h3:=(own_lt hs hx).2.1
   refine⟨?_,λi hi=>?_,λe=>?_⟩
   · have:=zqa h.ans.hd;omega
   · cases ho:am.X i x with
     |none=>rfl
     |some o=>have:=zqa (h.ans.blk i x o hi ho);omega
   · have:=(own_lt h.row e).2.2;omega
def strPr(ws:List Int)(ops:Nat->List OpX)(i:Nat):Proc (List Int×(Nat->List Ans)) Unit:=opsP i (doP (stripesN ws.length)) (ops i)
def strT(ws:List Int)(ops:Nat->List OpX)(N:Nat)(mo:Int)(sched:List Int):TSt (List Int×(Nat->List Ans)):=playT (strPr ws ops) N (min mo.toNat 1048576) sched (zqz ws,λ_=>[])
section
variable {S2:Type}
theorem tick_deep{k:Nat}:(Proc.tick:Proc (List Int×S2) Unit).Deep k:=(Proc.Deep.ret _).then
theorem onL_deep{α:Type}{k:Nat}(f:List Int->List Int×α):(onL f:Proc (List Int×S2) α).Deep k:=Proc.Deep.act _
theorem foldP_deep(g:Nat->Int->List Int->List Int×Int)(N k:Nat):∀n j acc,(foldP g N n j acc:Proc (List Int×S2) Int).Deep k
 |0,_,_=>Proc.Deep.ret _
 |n+1,j,acc=>(tick_deep.bind λ_=>onL_deep _).bind λx=>foldP_deep g N k n (j+1) _
theorem addP_deep(N k:Nat)(a v:Int):(addP N a v:Proc (List Int×S2) Int).Deep k:=tick_deep.bind λ_=>onL_deep _
theorem evenB_deep(N k:Nat)(seen:List Int):∀n j acc,(evenB N seen n j acc:Proc (List Int×S2) (Int×Bool)).Deep k
 |0,_,_=>Proc.Deep.ret _
 |n+1,j,acc=>by
  unfold evenB
  refine(tick_deep.bind λ_=>onL_deep _).bind λx=>?_
  split
  · exact evenB_deep N k seen n (j+1) acc
  · exact Proc.Deep.ret _
theorem evenA_deep(N k:Nat):∀n j seen acc,(evenA N n j seen acc:Proc (List Int×S2) (Int×Bool)).Deep k
 |0,_,_,_=>evenB_deep _ _ _ _ _ _
 |n+1,j,seen,acc=>(tick_deep.bind λ_=>onL_deep _).bind λx=>evenA_deep N k n (j+1) _ _
theorem doP_deep(N k:Nat)(op:OpX):(doP N op:Proc (List Int×S2) Ans).Deep k:=by
 unfold doP
 repeat' split
 · exact(addP_deep _ _ _ _).bind λ_=>Proc.Deep.ret _
 · exact(foldP_deep _ _ _ _ _ _).bind λ_=>Proc.Deep.ret _
 · exact(foldP_deep _ _ _ _ _ _).bind λ_=>Proc.Deep.ret _
 · exact((addP_deep _ _ _ _).bind λ_=>(addP_deep _ _ _ _).bind λ_=>Proc.Deep.ret _).bind λ_=>Proc.Deep.ret _
 · exact(evenA_deep _ _ _ _ _ _).bind λ_=>Proc.Deep.ret _
 · exact Proc.Deep.ret _
end
theorem do_turn{cb:Nat}{z:Option Nat}{NS N ab:Nat}(hp:0<NS)(hl:NS<=64)(ro:Nat->Option Obj)(pr:Nat->Proc (List Int×(Nat->List Ans)) Unit)(st:Nat)(cr:Frame)(rest:List Frame)(EN:List PanicEntry->Prop)(i:Nat)(o:List Ans)(op:OpX):
 SpecR (thrSys plainM rowsM (zqm (zqt cb z NS) (zqv tT ab N)) ownA ro pr 72 (.pointer (some ⟨st,0,none⟩)) cr rest NEnd EN i o) 27 (#[.pointer (some ⟨cb,0,none⟩)]++#[.iface 108 (.pointer (some ⟨st,0,none⟩)),.int .i64 i,op.val]++#[]) (doP NS op) (AnsV 2):=
 do_spec _ (atoms_of_alone _ (I:=λs=>ownA i s=o) (λl l' s h=>h) (λl l' s j _=>rfl) hp hl (step_stand _ (thr_step plainM rowsM o))) (i:Int) op
end Go.Proofs
