/- YtnjpcibdaanpeaaSCalls11: part 14 of the proof (the texts behind it, in order). -/
import Derived.Test.YtnjpcibdaanpeaaR13
set_option linter.unusedSimpArgs false
set_option linter.unusedVariables false
set_option linter.unusedSectionVars false
set_option linter.unnecessarySimpa false
set_option maxHeartbeats 4000000
set_option maxRecDepth 100000
namespace Go.Proofs
open Go Go.Conc Go.RowKit Go.Car
structure RunIn(B:Nat)(w:World)(pp:Option Addr)(np N:Nat)(sp:Nat->Option Addr)(L Cp:Nat->Nat)(opv:Nat->Value)(ops:Nat->List OpX):Prop where
 eq:N=min np 64
 le:np<=4611686018427387904
 at':0<np->∃tb to',pp=some ⟨tb,to',none⟩/\tb<B/\∀i,i<N->w.cell? ⟨tb,to'+i,none⟩=some (.slice (sp i) (L i) (Cp i))
 row:∀i,i<N->L i<=Cp i/\L i<=4611686018427387904/\(0<L i->∃g o,sp i=some ⟨g,o,none⟩)
 len:∀i,i<N->(ops i).length=min (L i) 65536
 val:∀i,i<N->opv i=.slice (sp i) (min (L i) 65536) (Cp i)
 ops:∀i,i<N->OpsB B w (opv i) (ops i)
def RunPost(mb B N:Nat)(opv:Nat->Value)(r:RS)(w:World)(v:Value)(w':World):Prop:=∃cv tv av sv ansv ordv stv,v=.agg #[ansv,ordv,stv,.bool (decide (0<leftN (ovR r) N))]/\RefRep mb B N opv r.C r.T cv tv av sv w'/\w'.ownsRow B 3 1 ordv r.ord.length (r.ord.map λ(i:Nat)=>.int .i64 i)/\w'.ownsRow B 2 1 stv r.C.length (r.C.map (Value.int .i64))/\w'.ownsRow B 41 1 ansv N ((List.range N).map av)/\KeepB B w w'
def RunSt(mb B N:Nat)(opv:Nat->Value)(w1:World)(r:RS)(ordv:Value)(wx:World):Prop:=∃cv tv av sv,RefRep mb B N opv r.C r.T cv tv av sv wx/\wx.ownsRow w1.heap.size 3 1 ordv r.ord.length (r.ord.map λ(i:Nat)=>.int .i64 i)/\KeepB B w1 wx
section
variable {mb B n:Nat} {opv:Nat->Value} {C:List Int} {T:Nat->RT} {cv tv:Value} {av sv:Nat->Value} {w w':World}
theorem run_lone{pp scp:Option Addr}{np N Cn Cs:Nat}{sp:Nat->Option Addr}{L Cp:Nat->Nat}{ops:Nat->List OpX}{sched:List Int}{mo:Int}
 (h:RefRep mb B 0 opv C (λ_=>rt0) cv (.slice none 0 0) av sv w) (hin:RunIn B w pp np N sp L Cp opv ops) (hC0:0<C.length) (hC1:C.length<=64) (hns:sched.length<=4611686018427387904)
 (hsc:sched≠[]->∃sb off,scp=some ⟨sb,off,none⟩/\sb<B/\∀j x,sched[j]?=some x->w.cell? ⟨sb,off+j,none⟩=some (.int .i64 x)):
 Calls Try.prog 29 #[.pointer (some ⟨mb,0,none⟩),.slice pp np Cn,.slice scp sched.length Cs,.int .i64 mo] w λe w'=>∃v,e=.returned v/\RunPost mb B N opv (playR ops N (min mo.toNat 1048576) sched C) w v w':=by
 have hB:B<=w.heap.size:=Nat.le_trans h.lo (Nat.le_of_lt (zq7 h.mach));have h1:=h.alloc (.cells #[.slice none 0 0,.slice none 0 0,.slice none 0 0,.bool false] 31);have k1:=KeepB.al hB (.cells #[.slice none 0 0,.slice none 0 0,.slice none 0 0,.bool false] 31);have b1:=zqr w (.cells #[.slice none 0 0,.slice none 0 0,.slice none 0 0,.bool false] 31);obtain⟨H,hH⟩:∃H,w.heap.size=H:=⟨_,rfl⟩;obtain⟨ns,hsl⟩:∃ns,sched.length=ns:=⟨_,rfl⟩;obtain⟨most,hmost⟩:∃m,min mo.toNat 1048576=m:=⟨_,rfl⟩;rw[hH]at b1 hB;rw[hsl]at hns ⊢;rw[hmost];have hN:=hin.eq;have H1:=Lib.hid (And.intro h1 (And.intro k1 b1));have HI:=Lib.hid (And.intro hin (And.intro hC0 (And.intro hC1 (And.intro hsl (And.intro hH (And.intro hmost hB))))));have HS:=Lib.hid hsc;have HN:=Lib.hid hN;clear h h1 k1 b1 hin hC0 hC1 hsl hsc hH hmost hN hB
 go_enter Try.func29,Try.ntmps29
 go_upto_region 1 with(fail)
 rw[HI.out.2.2.2.2.1];generalize w.alloc (.cells #[.slice none 0 0,.slice none 0 0,.slice none 0 0,.bool false] 31)=w1 at H1 ⊢
 go_upto_if 21 with(fail)
 go_cut [9]from 18 to 161 (λs9 wx=>s9=.int .i64 (N:Nat)/\wx=w1)
 case first=>
  go_wp2_with (fail)
  all_goals(go_meet;refine⟨?_,rfl⟩;congr 1;have:=HN.out;omega)
 case rest=>
 obtain⟨rfl,rfl⟩:=hcut
 go_upto_if 23 with(fail)
 go_cut [3]from 18 to 161 (λs3 wx=>s3=.int .i64 (mo.toNat:Nat)/\wx=wc)
 case first=>
  go_wp2_with (fail)
  all_goals(go_meet;refine⟨?_,rfl⟩;congr 1;omega)
 case rest=>
 obtain⟨rfl,rfl⟩:=hcut
 go_upto_if 25 with(fail)
 go_cut [3]from 18 to 161 (λs3 wx=>s3=.int .i64 (most:Nat)/\wx=wc)
 case first=>
  go_wp2_with (fail)
  all_goals(go_meet;refine⟨?_,rfl⟩;congr 1;have:=HI.out.2.2.2.2.2.1;omega)
 case rest=>
 obtain⟨rfl,rfl⟩:=hcut
 go_upto_block 0 with(fail)
 go_cut [10,11]from 18 to 161 (λs10 s11 wx=>∃cv tv av sv,RefRep mb B N opv C (zq1i ops C N).T cv tv av sv wx/\KeepB B wc wx)
 case first=>
  go_wp2_with (fail)
  go_loopg [10,11] N (λk s10 s11 wr=>∃(j:Nat)(cv tv:Value)(av sv:Nat->Value),k=N - j/\j<=N/\s10=.int .i64 j/\RefRep mb B j opv C (zq1i ops C j).T cv tv av sv wr/\KeepB B wc wr)
  case atStart=>exact⟨0,_,_,_,_,rfl,Nat.zero_le _,rfl,H1.out.1,KeepB.refl _ _⟩
  case round=>
   obtain⟨j,cv',tv,av',sv',hk,hj,rfl,hR,hkb⟩:=hrel;have hj0:(0:Int)<=j:=by omega
   by_cases hlt:j<N
   · obtain⟨tb,to',rfl,htb,hcw⟩:=HI.out.1.at' (by have:=HN.out;omega);have hrow:=HI.out.1.row j hlt;have hval:=HI.out.1.val j hlt;have hcj:=hcw j hlt;obtain⟨Lj,hLj⟩:∃x,L j=x:=⟨_,rfl⟩;obtain⟨Cj,hCj⟩:∃x,Cp j=x:=⟨_,rfl⟩;obtain⟨spj,hspj⟩:∃x,sp j=x:=⟨_,rfl⟩;rw[hLj,hCj,hspj]at hrow hval hcj;obtain⟨Mj,hMj⟩:∃x,min Lj 65536=x:=⟨_,rfl⟩;rw[hMj]at hval;have hkw:=H1.out.2.1.trans hkb;have c2:wr.cell? ⟨tb,to'+j,none⟩=some (.slice spj Lj Cj):=(zqd (hkw.old tb htb)).trans hcj;obtain⟨tp,Ct,rfl,-⟩:=hR.trow.form;have m:wr.cell? ⟨mb,1,none⟩=some (.slice tp j Ct):=(zq0 (off:=1) hR.mach).trans rfl;have hjN:(j:Int)<(N:Int):=by omega
     have hjn:(j:Int)<(np:Int):=by have:=HN.out;omega
     have hLC:(Lj:Int)<=(Cj:Int):=by omega
     have HX:=Lib.hid (And.intro hR (And.intro hkb (And.intro hkw (And.intro hrow (And.intro hval hMj)))));have HK:=Lib.hid (And.intro hk (And.intro hlt (And.intro hLj (And.intro hCj hspj))));clear hR hkb hkw hrow hval hMj hk hlt hLj hCj hspj hcj hcw
     go_upto_if 37 with(fail)
     go_cut [11]from 26 to 54 (λs11 wx=>s11=.slice spj Mj Cj/\wx=wr)
     case first=>
      by_cases hM:65536<Lj
      · obtain⟨go,oo,rfl⟩:=HX.out.2.2.2.1.2.2 (by omega);have hM':(65536:Int)<(Lj:Int):=by omega
        have hMC:(65536:Int)<=(Cj:Int):=by omega
        go_wp2_with (fail)
        go_meet
        refine⟨?_,rfl⟩;have:=HX.out.2.2.2.2.2;rw[show Mj=65536 by omega]
      · have hM':¬(65536:Int)<(Lj:Int):=by omega
        go_wp2_with (fail)
        go_meet
        refine⟨?_,rfl⟩;have:=HX.out.2.2.2.2.2;rw[show Mj=Lj by omega]
     case rest=>
     obtain⟨rfl,rfl⟩:=hcut;obtain⟨xs,hown,-⟩:=HX.out.1.trow;have hBS:B<=wc.heap.size:=Nat.le_trans HX.out.1.lo (Nat.le_of_lt (zq7 HX.out.1.mach));obtain⟨tj,htj,hy0,hy1,hy2⟩:∃ti,Try.prog.info? 96=some ti/\ti.zero=some (.agg #[.slice none 0 0,.slice none 0 0,.int .i64 0,.int .i64 0,.int .i64 0,.int .i64 0,.slice none 0 0])/\ti.size=7/\ti.bytes=104:=⟨_,rfl,rfl,rfl,rfl⟩;have TJ:=Lib.hid (And.intro htj (And.intro hy0 (And.intro hy1 hy2)));have HO:=Lib.hid (And.intro hown hBS);have hj64:j<=64:=by have:=HN.out;have:=HK.out.2.1;omega
     clear htj hy0 hy1 hy2 hown hBS;have hx0:=(zq12 HO.out.1)
     go_wp2_with (at_builtin;go_loud (refine wpList_append_lies _ rfl (.tmp 44) (.tmp 48) 92 rfl B 96 tj (.agg #[.slice none 0 0,.slice none 0 0,.int .i64 0,.int .i64 0,.int .i64 0,.int .i64 0,.slice none 0 0]) 7 104 (by kernel_rfl) TJ.out.1 TJ.out.2.1 TJ.out.2.2.1 TJ.out.2.2.2 rfl (by decide) _ j xs rfl (zq2w HO.out.1 _) _ 1 1 [.slice spj Mj Cj,.slice none 0 0,.int .i64 j,.int .i64 0,.int .i64 0,.int .i64 0,.slice none 0 0] rfl rfl (news_new rfl) (by simp[Value.oneCell']) (by decide) (by simp only[maxLen];omega) (by omega) (by rw[zq5];exact Nat.le_succ_of_le HO.out.2) _ rfl ?next))
     case next=>
      intro g7 cap7 w7 hown7 hgrow7 hat7 hlt7;have hR:=HX.out.1;have hsame:∀b,b<wc.heap.size->(Value.slice tp j Ct).ownBlock≠some b->w7.heap[b]?=wc.heap[b]?:=λb hb hne=>(hgrow7.block b (by rw[zq5];omega) (λe=>hne e.symm)).trans (by rw[zq2,if_neg (by omega)]);have hmb:(Value.slice tp j Ct).ownBlock≠some mb:=λe=>by
       obtain⟨⟨c',hc'⟩,_⟩:=hR.trow.lt e;exact absurd (zq1t hR.mach hc') (by decide)
      have hm7:=(hsame mb (zq7 hR.mach) hmb).trans hR.mach;have c7:w7.cell? ⟨mb,1,none⟩=some (.slice tp j Ct):=(zq0 (off:=1) hm7).trans rfl;have f7:w7.frozen? ⟨mb,1,none⟩=false:=zq3 hm7;have hR8:=hR.pushT (w2:=w7) (v':=.slice (some ⟨g7,0,none⟩) (j+1) cap7) (o:=.slice spj Mj Cj) (λys hys=>by rw[own_unique hys HO.out.1];exact hown7) hsame (beginRS_un C j j (Nat.le_refl _));rw[show upd' opv j (.slice spj Mj Cj)=opv from by rw[←HX.out.2.2.2.2.1,zq2x]]at hR8;have hk8:KeepB B wc (w7.setCell ⟨mb,1,none⟩ (.slice (some ⟨g7,0,none⟩) (j+1) cap7)):=KeepB.trans ⟨by have:=hgrow7.size;rw[zq5]at this;omega,λb hb=>hsame b (by have:=HO.out.2;omega) (λe=>by have:=(own_lt HO.out.1 e).2.1;omega),λb c T2 f hb hT=>(hsame b (zq7 hb) (zqw HO.out.1 hb hT.2.2.1.symm)).trans hb⟩ (KeepB.set hR.lo ⟨_,_,_,hm7,λh=>h.2.2.2 rfl⟩ 1 _);have H8:=Lib.hid (And.intro hR8 hk8);clear hR hsame hmb hm7 hR8 hk8 hown7 hgrow7 hat7 hlt7 c2 m
      go_wp2_with (fail)
      clear c7 f7;generalize w7.setCell ⟨mb,1,none⟩ (.slice (some ⟨g7,0,none⟩) (j+1) cap7)=w8 at H8 ⊢;have hT:=beginRS_un (ops:=ops) C j j (Nat.le_refl _);refine Calls.mono (settle_lone (i:=j) (ops:=ops j) H8.out.1 (Nat.lt_succ_self j) (by have:=HN.out;have:=HK.out.2.1;omega) ((HI.out.1.ops j HK.out.2.1).keep (HX.out.2.2.1.trans H8.out.2)) (by rw[HI.out.1.len j HK.out.2.1];omega) (by rw[hT];exact fit_rt0 _)) ?_;rw[hT];clear hT;rintro e w9 ⟨rfl,⟨av9,sv9,hR9⟩,hk9⟩;have H9:=Lib.hid (And.intro hR9 ((HX.out.2.1.trans H8.out.2).trans hk9));clear hR9 hk9
      go_wp2_with (fail)
      go_roundg (N - (j+1))
      case measure=>have:=HK.out.1;have:=HK.out.2.1;omega
      case rel=>exact⟨j+1,_,_,_,_,rfl,HK.out.2.1,rfl,H9.out.1,H9.out.2⟩
   · obtain rfl:j=N:=by omega
     have hlt':¬(j:Int)<(j:Int):=by omega
     have H9:=Lib.hid (And.intro hR hkb);clear hR hkb hk hj
     go_wp2_with (fail)
     go_meet
     exact⟨_,_,_,_,H9.out.1,H9.out.2⟩
 case rest=>
 obtain⟨cv2,tv2,av2,sv2,hR2,hk2⟩:=hcut;have HW1:=Lib.hid (And.intro (H1.out.2.1.trans hk2) (hk2.typ _ _ _ _ H1.out.2.2 ⟨by decide,by decide,by decide,by decide⟩));have HB2:=Lib.hid (show N<=64/\B<=wc.heap.size by have:=HN.out;have:=HI.out.2.2.2.2.2.2;have:=HI.out.2.2.2.2.1;have:=(H1.out.2.1.trans hk2).size;omega);have hst0:RunSt mb B N opv wc (zq1i ops C N) (.slice none 0 0) wc:=by
  obtain⟨e1,e2⟩:=beginRS_C (ops:=ops) C N;exact⟨cv2,tv2,av2,sv2,by rw[e1];exact hR2,by rw[e2];exact World.ownsRow_nil _ _ _ _,KeepB.refl _ _⟩
 have HR2:=Lib.hid hst0;clear hR2 hk2 H1 hst0;obtain⟨R2,hR2⟩:∃R2,zqx C.length ops N most sched (zq1i ops C N)=R2:=⟨_,rfl⟩;have HE2:=Lib.hid hR2;clear hR2;obtain⟨w1,hw1⟩:∃x,x=wc:=⟨_,rfl⟩;subst hw1
 go_upto_block 2 with(fail)
 go_cut [12,13,14]from 18 to 161 (λs12 s13 s14 wx=>InvR C.length N ops most R2/\RunSt mb B N opv w1 R2 s12 wx)
 case first=>
  go_wp2_with (fail)
  go_loopg [12,13,14] ns (λk s12 s13 s14 wr=>∃(j:Nat)(r:RS),k=ns - j/\j<=ns/\s13=.int .i64 j/\InvR C.length N ops most r/\RunSt mb B N opv w1 r s12 wr/\zqx C.length ops N most (sched.drop j) r=R2)
  case atStart=>exact⟨0,_,rfl,Nat.zero_le _,rfl,inv_begin HI.out.2.1 rfl N,HR2.out,HE2.out⟩
  case round=>
   obtain⟨j,r,hk,hj,rfl,hinv,hst,hE⟩:=hrel;have hj0:(0:Int)<=j:=by omega
   have hst':=hst;obtain⟨_,_,_,_,-,ho,-⟩:=hst';obtain⟨po,Co,hs12,-,-⟩:=zq12 ho;clear ho;subst hs12;obtain⟨lo,hlo⟩:∃x,r.ord.length=x:=⟨_,rfl⟩;rw[hlo]at hst ⊢;have hlom:lo<=most:=by rw[←hlo];exact hinv.ord
   have hm20:most<=1048576:=by have:=HI.out.2.2.2.2.2.1;omega
   have HLO:=Lib.hid hlo;have HST:=Lib.hid hst;have HINV:=Lib.hid hinv;have HE:=Lib.hid (And.intro hk hE);clear hlo hst hinv hk hE
   by_cases hlt:j<ns
   · have hlt':(j:Int)<(ns:Int):=by omega
     by_cases hlm:lo<most
     · have hlm':(lo:Int)<(most:Int):=by omega
       obtain⟨sb,off,rfl,hsb,hcs⟩:=HS.out (by intro e;have:=HI.out.2.2.2.1;rw[e]at this;simp at this;omega);obtain⟨x,hx⟩:∃x,sched[j]?=some x:=⟨_,List.getElem?_eq_getElem (by have:=HI.out.2.2.2.1;omega)⟩;have cs:wr.cell? ⟨sb,off+j,none⟩=some (.int .i64 x):=by
        obtain⟨_,_,_,_,-,-,hkb⟩:=HST.out;exact(zqd ((HW1.out.1.trans hkb).old sb hsb)).trans (hcs j x hx)
       have HX:=Lib.hid hx;have HB:=Lib.hid (And.intro (show lo<1048576 by omega) HB2.out.2);clear hx hcs
       by_cases hx0:0<=x
       · by_cases hxN:x<(N:Int)
         · obtain⟨i,rfl⟩:=Int.eq_ofNat_of_zero_le hx0;have hi:i<N:=by omega
           obtain⟨cv',tv,av',sv',hR,hord,hkb⟩:=HST.out;rw[HLO.out]at hord;obtain⟨tp,Ct,rfl,htp⟩:=hR.trow.form;obtain⟨g,rfl,-⟩:=htp (by omega);have m:wr.cell? ⟨mb,1,none⟩=some (.slice (some ⟨g,0,none⟩) N Ct):=(zq0 (off:=1) hR.mach).trans rfl;have ct:=(hR.trow.cell hi (show 4<7 by decide)).1;obtain⟨p,hp⟩:∃p,(r.T i).pc=p:=⟨_,rfl⟩;change wr.cell? ⟨g,i*7+4,none⟩=some (.int .i64 ((r.T i).pc:Nat))at ct;rw[hp]at ct;have HP:=Lib.hid hp;have HRS:=Lib.hid (And.intro hR (And.intro hord hkb));clear hp hR hord hkb htp
           by_cases hp0:p=0
           · subst hp0;have ct':wr.cell? ⟨g,i*7+4,none⟩=some (.int .i64 0):=ct;clear ct
             go_wp2_with (fail)
             go_roundg (ns - (j+1))
             case measure=>have:=HE.out.1;omega
             case rel=>exact⟨j+1,r,rfl,hlt,rfl,HINV.out,HST.out,(by rw[zq39 (x:=(i:Int)) (.inr (.inr (.inl HP.out)))]:zqx C.length ops N most (sched.drop (j+1)) r=zqx C.length ops N most (sched.drop (j+1)) (zq16 C.length ops N most (i:Int) r)).trans ((zq33 HX.out r).symm.trans HE.out.2)⟩
           · have hpp:(0:Int)<(p:Int):=by omega
             have HT:=Lib.hid (show i<N/\(r.T i).pc≠0/\r.ord.length<most from⟨hi,by rw[HP.out];exact hp0,by rw[HLO.out];exact hlm⟩);clear hi hp0;obtain⟨tj,htj,hy0,hy1,hy2⟩:∃ti,Try.prog.info? 3=some ti/\ti.zero=some (.int .i64 0)/\ti.size=1/\ti.bytes=8:=⟨_,rfl,rfl,rfl,rfl⟩;have TJ:=Lib.hid (And.intro htj (And.intro hy0 (And.intro hy1 hy2)));clear htj hy0 hy1 hy2;obtain⟨op,hop⟩:∃op,(ops i)[(r.T i).at']?=some op:=by
              obtain⟨op,hop,-⟩:=(HINV.out.thr i HT.out.1).2.stand HT.out.2.1;exact⟨op,hop⟩
             have HOPQ:=Lib.hid hop;clear hop
             go_wp2_with (at_builtin;go_loud (refine wpList_append_lies _ rfl (.tmp 89) (.tmp 91) 24 rfl w1.heap.size 3 tj (.int .i64 0) 1 8 (by kernel_rfl) TJ.out.1 TJ.out.2.1 TJ.out.2.2.1 TJ.out.2.2.2 rfl (by decide) _ lo (r.ord.map λ(i:Nat)=>.int .i64 i) rfl (zq2w HRS.out.2.1 _) _ 1 1 [.int .i64 i] rfl rfl (one_new rfl) (by simp[Value.oneCell']) (by decide) (by have:=HB.out.1;simp only[maxLen];omega) (by have:=HB.out.1;omega) (by rw[zq5];exact Nat.le_succ_of_le HRS.out.2.2.size) _ rfl ?next))
             case next=>
              intro g7 cap7 w7 hown7 hgrow7 hat7 hlt7;have hsame:∀b,b<wr.heap.size->(Value.slice po lo Co).ownBlock≠some b->w7.heap[b]?=wr.heap[b]?:=λb hb hne=>(hgrow7.block b (by rw[zq5];omega) (λe=>hne e.symm)).trans (by rw[zq2,if_neg (by omega)]);have hs7:wr.heap.size<=w7.heap.size:=by have:=hgrow7.size;rw[zq5]at this;omega
              have hR7:=HRS.out.1.keepT (w':=w7) λb c U f hb hU=>(hsame b (zq7 hb) (zqw HRS.out.2.1 hb (λe=>hU (by rw[←e];exact⟨by decide,by decide,by decide,by decide⟩)))).trans hb;have hno:∀b,b<w1.heap.size->(Value.slice po lo Co).ownBlock≠some b:=λb hb e=>by have:=(own_lt HRS.out.2.1 e).2.1;omega
              have hk7:KeepB B w1 w7:=⟨Nat.le_trans HRS.out.2.2.size hs7,λb hb=>(hsame b (by have:=HB.out.2;have:=HRS.out.2.2.size;omega) (hno b (by have:=HB.out.2;omega))).trans (HRS.out.2.2.old b hb),λb c T2 f hb hT=>(hsame b (by have:=zq7 hb;have:=HRS.out.2.2.size;omega) (hno b (zq7 hb))).trans (HRS.out.2.2.typ b c T2 f hb hT)⟩;have H7:=Lib.hid (And.intro hR7 (And.intro hown7 hk7));clear hsame hs7 hR7 hno hk7 hown7 hgrow7 hat7 hlt7;have hstp:=step_lone (i:=i) H7.out.1 HT.out.1 HB2.out.1 ((HI.out.1.ops i HT.out.1).keep (HW1.out.1.trans H7.out.2.2)) (by rw[HI.out.1.len i HT.out.1];omega) (HINV.out.thr i HT.out.1).1 (by rw[HINV.out.len];exact(HINV.out.thr i HT.out.1).2) HT.out.2.1 HOPQ.out (by rw[HINV.out.len];exact HI.out.2.1) (by rw[HINV.out.len];exact HI.out.2.2.1);have HSTP:=Lib.hid hstp;clear hstp
              go_wp2_with (fail)
              refine Calls.mono HSTP.out ?_;rintro e w8 ⟨rfl,⟨av8,sv8,hR8⟩,hk8⟩;have H8:=Lib.hid (And.intro hR8 hk8);clear hR8 hk8 HSTP;have hset:=settle_lone (i:=i) (ops:=ops i) H8.out.1 HT.out.1 HB2.out.1 ((HI.out.1.ops i HT.out.1).keep ((HW1.out.1.trans H7.out.2.2).trans H8.out.2)) (by rw[HI.out.1.len i HT.out.1];omega) (by rw[upd'_same];exact fit_step (HINV.out.thr i HT.out.1).1 HOPQ.out);have HSET:=Lib.hid hset;clear hset
              go_wp2_with (fail)
              refine Calls.mono HSET.out ?_;rintro e w9 ⟨rfl,⟨av9,sv9,hR9⟩,hk9⟩;rw[zq17,upd'_same]at hR9;have hst9:RunSt mb B N opv w1 (turnR i (goR C.length ops i r) r (r.ord++[i])) (.slice (some ⟨g7,0,none⟩) (lo+1) cap7) w9:=by
               rw[goR_eq HOPQ.out];have hlen:=HINV.out.len;rw[hlen]at hR9;refine⟨_,_,_,_,hR9,?_,(H7.out.2.2.trans H8.out.2).trans hk9⟩;have:=(H8.out.2.trans hk9).row H7.out.2.1 ⟨by decide,by decide,by decide,by decide⟩;show w9.ownsRow _ _ 1 _ (r.ord++[i]).length ((r.ord++[i]).map _);rw[List.length_append,List.map_append,HLO.out];exact this
              have hinv9:=inv_turn HI.out.2.1 HINV.out HT.out.1 HT.out.2.1 HT.out.2.2;have H9:=Lib.hid (And.intro hst9 hinv9);clear hst9 hinv9 hR9 hk9 HSET
              go_wp2_with (fail)
              go_roundg (ns - (j+1))
              case measure=>have:=HE.out.1;omega
              case rel=>
               refine⟨j+1,_,rfl,hlt,rfl,H9.out.2,H9.out.1,?_⟩;have e:=step1R_go (NS:=C.length) (ops:=ops) (x:=(i:Int)) (by omega) hxN HT.out.2.1 HT.out.2.2;exact(congrArg (zqx C.length ops N most (sched.drop (j+1))) e.symm).trans ((zq33 HX.out r).symm.trans HE.out.2)
         · have hxN':(N:Int)<=x:=by omega
           go_wp2_with (fail)
           go_roundg (ns - (j+1))
           case measure=>have:=HE.out.1;omega
           case rel=>exact⟨j+1,r,rfl,hlt,rfl,HINV.out,HST.out,(by rw[zq39 (.inr (.inl hxN'))]:zqx C.length ops N most (sched.drop (j+1)) r=zqx C.length ops N most (sched.drop (j+1)) (zq16 C.length ops N most x r)).trans ((zq33 HX.out r).symm.trans HE.out.2)⟩
       · have hx0':x<0:=by omega
         go_wp2_with (fail)
         go_roundg (ns - (j+1))
         case measure=>have:=HE.out.1;omega
         case rel=>exact⟨j+1,r,rfl,hlt,rfl,HINV.out,HST.out,(by rw[zq39 (.inl hx0')]:zqx C.length ops N most (sched.drop (j+1)) r=zqx C.length ops N most (sched.drop (j+1)) (zq16 C.length ops N most x r)).trans ((zq33 HX.out r).symm.trans HE.out.2)⟩
     · have hlm':¬(lo:Int)<(most:Int):=by omega
       have hR2:=stepsR_full (NS:=C.length) (ops:=ops) (N:=N) (sched.drop j) (show r.ord.length=most by rw[HLO.out];omega);rw[HE.out.2]at hR2;subst hR2
       go_wp2_with (fail)
       go_meet
       exact⟨HINV.out,HST.out⟩
   · have hlt':¬(j:Int)<(ns:Int):=by omega
     have hR2:=HE.out.2;rw[List.drop_eq_nil_of_le (by have:=HI.out.2.2.2.1;omega)]at hR2;have hR2':r=R2:=hR2;subst hR2';clear hR2
     go_wp2_with (fail)
     go_meet
     exact⟨HINV.out,HST.out⟩
 case rest=>
 obtain⟨hinv3,hst3⟩:=hcut;have H3:=Lib.hid (And.intro hinv3 hst3);clear hinv3 hst3 HR2;obtain⟨R3,hR3⟩:∃R3,playR ops N most sched C=R3:=⟨_,rfl⟩;have HE3:=Lib.hid (And.intro (show zq1v C.length ops N most (most+1) R2=R3 by rw[←hR3,←HE2.out];rfl) hR3);clear hR3 HE2 HS
 go_upto_block 4 with(fail)
 go_cut [12,15]from 18 to 161 (λs12 s15 wx=>InvR C.length N ops most R3/\RunSt mb B N opv w1 R3 s12 wx)
 case first=>
  go_wp2_with (fail)
  go_loopg [12,15] (most+1) (λk s12 s15 wr=>∃(f:Nat)(r:RS),(k=f/\most<r.ord.length+f)/\InvR C.length N ops most r/\RunSt mb B N opv w1 r s12 wr/\zq1v C.length ops N most f r=R3)
  case atStart=>exact⟨most+1,R2,⟨rfl,by omega⟩,H3.out.1,H3.out.2,HE3.out.1⟩
  case round=>
   obtain⟨f,r,hk,hinv,hst,hE⟩:=hrel;obtain⟨f,rfl⟩:∃f',f=f'+1:=⟨f - 1,by have:=hinv.ord;omega⟩;have hst':=hst;obtain⟨_,_,_,_,-,ho,-⟩:=hst';obtain⟨po,Co,hs12,-,-⟩:=zq12 ho;clear ho;subst hs12;obtain⟨lo,hlo⟩:∃x,r.ord.length=x:=⟨_,rfl⟩;rw[hlo]at hst ⊢;have hlom:lo<=most:=by rw[←hlo];exact hinv.ord
   have hm20:most<=1048576:=by have:=HI.out.2.2.2.2.2.1;omega
   have HLO:=Lib.hid hlo;have HST:=Lib.hid hst;have HINV:=Lib.hid hinv;have HE:=Lib.hid (And.intro hk hE);clear hlo hst hinv hk hE;have hleft:Calls Try.prog 41 #[.pointer (some ⟨mb,0,none⟩)] wr λe w'=>e=.returned (.bool (decide (0<leftN (ovT r.T) N)))/\w'=wr:=by
    obtain⟨_,_,_,_,hR,-,-⟩:=HST.out;exact left_lone hR HB2.out.1
   have HLF:=Lib.hid hleft;clear hleft
   by_cases hl:0<leftN (ovR r) N
   · have hd:decide (0<leftN (ovT r.T) N)=true:=decide_eq_true hl;have HD:=Lib.hid (And.intro hd hl);clear hd hl
     by_cases hlm:lo<most
     · have hlm':(lo:Int)<(most:Int):=by omega
       obtain⟨R4,hR4⟩:∃R4,zqx C.length ops N most (upto N) r=R4:=⟨_,rfl⟩;have HE4:=Lib.hid hR4;clear hR4;have HOUT:=Lib.hid (show most<R4.ord.length+f/\zq1v C.length ops N most f R4=R3 by
        have hm:r.ord.length<most:=by rw[HLO.out];exact hlm
        have hg:=round_grows (NS:=C.length) (ops:=ops) HD.out.2 hm;rw[HE4.out]at hg;have he:=(roundsR_go (NS:=C.length) (ops:=ops) (f:=f) HD.out.2 hm).symm.trans HE.out.2;rw[HE4.out]at he;exact⟨by have:=HE.out.1;omega,he⟩)
       have HK:=Lib.hid HE.out.1.1
       go_wp2_with (fail)
       refine Calls.mono HLF.out ?_;rintro e w' ⟨rfl,hw⟩;rw[hw,HD.out.1];clear hw w' HLF;have HO:=Lib.hid (And.intro HINV.out (And.intro HST.out HE4.out))
       go_wp2_with (fail)
       clear HINV HST HE4 HE HLO HD hlm hlm' hlom
       go_loopg [12,15] N (λk s12 s15 wr=>∃(i:Nat)(q:RS),k=N - i/\i<=N/\s15=.int .i64 i/\InvR C.length N ops most q/\RunSt mb B N opv w1 q s12 wr/\zqx C.length ops N most ((upto N).drop i) q=R4)
       case atStart=>exact⟨0,r,rfl,Nat.zero_le _,rfl,HO.out.1,HO.out.2.1,HO.out.2.2⟩
       case round=>
        clear HO;obtain⟨i,r,hk,hi',rfl,hinv,hst,hE⟩:=hrel;have hi0:(0:Int)<=i:=by omega
        have hN64:(N:Int)<=64:=by have:=HB2.out.1;omega
        have hst':=hst;obtain⟨_,_,_,_,-,ho,-⟩:=hst';obtain⟨po,Co,hs12,-,-⟩:=zq12 ho;clear ho;subst hs12;obtain⟨lo,hlo⟩:∃x,r.ord.length=x:=⟨_,rfl⟩;rw[hlo]at hst ⊢;have hlom:lo<=most:=by rw[←hlo];exact hinv.ord
        have hm20:most<=1048576:=by have:=HI.out.2.2.2.2.2.1;omega
        have HLO:=Lib.hid hlo;have HST:=Lib.hid hst;have HINV:=Lib.hid hinv;have HE:=Lib.hid (And.intro hk hE);clear hlo hst hinv hk hE
        by_cases hi:i<N
        · have hi'':(i:Int)<(N:Int):=by omega
          by_cases hlm:lo<most
          · have hlm':(lo:Int)<(most:Int):=by omega
            have HB:=Lib.hid (And.intro (show lo<1048576 by omega) HB2.out.2);obtain⟨cv',tv,av',sv',hR,hord,hkb⟩:=HST.out;rw[HLO.out]at hord;obtain⟨tp,Ct,rfl,htp⟩:=hR.trow.form;obtain⟨g,rfl,-⟩:=htp (by omega);have m:wr.cell? ⟨mb,1,none⟩=some (.slice (some ⟨g,0,none⟩) N Ct):=(zq0 (off:=1) hR.mach).trans rfl;have ct:=(hR.trow.cell hi (show 4<7 by decide)).1;obtain⟨p,hp⟩:∃p,(r.T i).pc=p:=⟨_,rfl⟩;change wr.cell? ⟨g,i*7+4,none⟩=some (.int .i64 ((r.T i).pc:Nat))at ct;rw[hp]at ct;have HP:=Lib.hid hp;have HRS:=Lib.hid (And.intro hR (And.intro hord hkb));clear hp hR hord hkb htp
            by_cases hp0:p=0
            · subst hp0;have ct':wr.cell? ⟨g,i*7+4,none⟩=some (.int .i64 0):=ct;clear ct
              go_wp2_with (fail)
              go_roundg (N - (i+1))
              case measure=>have:=HE.out.1;omega
              case rel=>exact⟨i+1,r,rfl,hi,rfl,HINV.out,HST.out,(by rw[zq39 (x:=(i:Int)) (.inr (.inr (.inl HP.out)))]:zqx C.length ops N most ((upto N).drop (i+1)) r=zqx C.length ops N most ((upto N).drop (i+1)) (zq16 C.length ops N most (i:Int) r)).trans ((zq33 (upto_get hi) r).symm.trans HE.out.2)⟩
            · have hpp:(0:Int)<(p:Int):=by omega
              have HT:=Lib.hid (show i<N/\(r.T i).pc≠0/\r.ord.length<most from⟨hi,by rw[HP.out];exact hp0,by rw[HLO.out];exact hlm⟩);clear hi hp0;obtain⟨tj,htj,hy0,hy1,hy2⟩:∃ti,Try.prog.info? 3=some ti/\ti.zero=some (.int .i64 0)/\ti.size=1/\ti.bytes=8:=⟨_,rfl,rfl,rfl,rfl⟩;have TJ:=Lib.hid (And.intro htj (And.intro hy0 (And.intro hy1 hy2)));clear htj hy0 hy1 hy2;obtain⟨op,hop⟩:∃op,(ops i)[(r.T i).at']?=some op:=by
               obtain⟨op,hop,-⟩:=(HINV.out.thr i HT.out.1).2.stand HT.out.2.1;exact⟨op,hop⟩
              have HOPQ:=Lib.hid hop;clear hop
              go_wp2_with (at_builtin;go_loud (refine wpList_append_lies _ rfl (.tmp 127) (.tmp 129) 24 rfl w1.heap.size 3 tj (.int .i64 0) 1 8 (by kernel_rfl) TJ.out.1 TJ.out.2.1 TJ.out.2.2.1 TJ.out.2.2.2 rfl (by decide) _ lo (r.ord.map λ(i:Nat)=>.int .i64 i) rfl (zq2w HRS.out.2.1 _) _ 1 1 [.int .i64 i] rfl rfl (one_new rfl) (by simp[Value.oneCell']) (by decide) (by have:=HB.out.1;simp only[maxLen];omega) (by have:=HB.out.1;omega) (by rw[zq5];exact Nat.le_succ_of_le HRS.out.2.2.size) _ rfl ?next))
              case next=>
               intro g7 cap7 w7 hown7 hgrow7 hat7 hlt7;have hsame:∀b,b<wr.heap.size->(Value.slice po lo Co).ownBlock≠some b->w7.heap[b]?=wr.heap[b]?:=λb hb hne=>(hgrow7.block b (by rw[zq5];omega) (λe=>hne e.symm)).trans (by rw[zq2,if_neg (by omega)]);have hs7:wr.heap.size<=w7.heap.size:=by have:=hgrow7.size;rw[zq5]at this;omega
               have hR7:=HRS.out.1.keepT (w':=w7) λb c U f hb hU=>(hsame b (zq7 hb) (zqw HRS.out.2.1 hb (λe=>hU (by rw[←e];exact⟨by decide,by decide,by decide,by decide⟩)))).trans hb;have hno:∀b,b<w1.heap.size->(Value.slice po lo Co).ownBlock≠some b:=λb hb e=>by have:=(own_lt HRS.out.2.1 e).2.1;omega
               have hk7:KeepB B w1 w7:=⟨Nat.le_trans HRS.out.2.2.size hs7,λb hb=>(hsame b (by have:=HB.out.2;have:=HRS.out.2.2.size;omega) (hno b (by have:=HB.out.2;omega))).trans (HRS.out.2.2.old b hb),λb c T2 f hb hT=>(hsame b (by have:=zq7 hb;have:=HRS.out.2.2.size;omega) (hno b (zq7 hb))).trans (HRS.out.2.2.typ b c T2 f hb hT)⟩;have H7:=Lib.hid (And.intro hR7 (And.intro hown7 hk7));clear hsame hs7 hR7 hno hk7 hown7 hgrow7 hat7 hlt7;have hstp:=step_lone (i:=i) H7.out.1 HT.out.1 HB2.out.1 ((HI.out.1.ops i HT.out.1).keep (HW1.out.1.trans H7.out.2.2)) (by rw[HI.out.1.len i HT.out.1];omega) (HINV.out.thr i HT.out.1).1 (by rw[HINV.out.len];exact(HINV.out.thr i HT.out.1).2) HT.out.2.1 HOPQ.out (by rw[HINV.out.len];exact HI.out.2.1) (by rw[HINV.out.len];exact HI.out.2.2.1);have HSTP:=Lib.hid hstp;clear hstp
               go_wp2_with (fail)
               refine Calls.mono HSTP.out ?_;rintro e w8 ⟨rfl,⟨av8,sv8,hR8⟩,hk8⟩;have H8:=Lib.hid (And.intro hR8 hk8);clear hR8 hk8 HSTP;have hset:=settle_lone (i:=i) (ops:=ops i) H8.out.1 HT.out.1 HB2.out.1 ((HI.out.1.ops i HT.out.1).keep ((HW1.out.1.trans H7.out.2.2).trans H8.out.2)) (by rw[HI.out.1.len i HT.out.1];omega) (by rw[upd'_same];exact fit_step (HINV.out.thr i HT.out.1).1 HOPQ.out);have HSET:=Lib.hid hset;clear hset
               go_wp2_with (fail)
               refine Calls.mono HSET.out ?_;rintro e w9 ⟨rfl,⟨av9,sv9,hR9⟩,hk9⟩;rw[zq17,upd'_same]at hR9;have hst9:RunSt mb B N opv w1 (turnR i (goR C.length ops i r) r (r.ord++[i])) (.slice (some ⟨g7,0,none⟩) (lo+1) cap7) w9:=by
                rw[goR_eq HOPQ.out];have hlen:=HINV.out.len;rw[hlen]at hR9;refine⟨_,_,_,_,hR9,?_,(H7.out.2.2.trans H8.out.2).trans hk9⟩;have:=(H8.out.2.trans hk9).row H7.out.2.1 ⟨by decide,by decide,by decide,by decide⟩;show w9.ownsRow _ _ 1 _ (r.ord++[i]).length ((r.ord++[i]).map _);rw[List.length_append,List.map_append,HLO.out];exact this
               have hinv9:=inv_turn HI.out.2.1 HINV.out HT.out.1 HT.out.2.1 HT.out.2.2;have H9:=Lib.hid (And.intro hst9 hinv9);clear hst9 hinv9 hR9 hk9 HSET
               go_wp2_with (fail)
               go_roundg (N - (i+1))
               case measure=>have:=HE.out.1;have:=HT.out.1;omega
               case rel=>
                refine⟨i+1,_,rfl,HT.out.1,rfl,H9.out.2,H9.out.1,?_⟩;have e:=step1R_go (NS:=C.length) (ops:=ops) (x:=(i:Int)) (by omega) (by have:=HT.out.1;omega) HT.out.2.1 HT.out.2.2;exact(congrArg (zqx C.length ops N most ((upto N).drop (i+1))) e.symm).trans ((zq33 (upto_get HT.out.1) r).symm.trans HE.out.2)
          · have hlm':¬(lo:Int)<(most:Int):=by omega
            have hR4:=stepsR_full (NS:=C.length) (ops:=ops) (N:=N) ((upto N).drop i) (show r.ord.length=most by rw[HLO.out];omega);rw[HE.out.2]at hR4;subst hR4
            go_wp2_with (fail)
            go_roundg f
            case measure=>have:=HK.out;omega
            case rel=>exact⟨f,_,⟨rfl,HOUT.out.1⟩,HINV.out,HST.out,HOUT.out.2⟩
        · have hi'':¬(i:Int)<(N:Int):=by omega
          have hR4:=HE.out.2;rw[List.drop_eq_nil_of_le (by rw[upto_len];omega)]at hR4;have hR4':r=R4:=hR4;subst hR4';clear hR4
          go_wp2_with (fail)
          go_roundg f
          case measure=>have:=HK.out;omega
          case rel=>exact⟨f,_,⟨rfl,HOUT.out.1⟩,HINV.out,HST.out,HOUT.out.2⟩
     · have hlm':¬(lo:Int)<(most:Int):=by omega
       have hR3:=roundsR_stop (NS:=C.length) (ops:=ops) (N:=N) (most:=most) (f:=f+1) (r:=r) (λh=>hlm (by rw[←HLO.out];exact h.2));rw[HE.out.2]at hR3;subst hR3
       go_wp2_with (fail)
       refine Calls.mono HLF.out ?_;rintro e w' ⟨rfl,hw⟩;rw[hw,HD.out.1];clear hw w' HLF
       go_wp2_with (fail)
       go_meet
       exact⟨HINV.out,HST.out⟩
   · have hd:decide (0<leftN (ovT r.T) N)=false:=decide_eq_false hl;have hR3:=roundsR_stop (NS:=C.length) (ops:=ops) (N:=N) (most:=most) (f:=f+1) (r:=r) (λh=>hl h.1);rw[HE.out.2]at hR3;subst hR3;have HD:=Lib.hid hd;clear hd hl
     go_wp2_with (fail)
     refine Calls.mono HLF.out ?_;rintro e w' ⟨rfl,hw⟩;rw[hw,HD.out];clear hw w' HLF
     go_wp2_with (fail)
     go_meet
     exact⟨HINV.out,HST.out⟩
 case rest=>
 obtain⟨hinv5,hst5⟩:=hcut;obtain⟨cv',tv,av',sv',hR,hord,hkb⟩:=hst5;obtain⟨po,Co,hs12,-,-⟩:=zq12 hord;subst hs12;obtain⟨lo,hlo⟩:∃x,R3.ord.length=x:=⟨_,rfl⟩;rw[hlo]at hord ⊢;have HL:=Lib.hid (left_lone hR HB2.out.1);have HS:=Lib.hid (state_lone hR (by rw[hinv5.len];exact HI.out.2.1) (by rw[hinv5.len];exact HI.out.2.2.1));obtain⟨stk,hstk⟩:∃x,decide (0<leftN (ovT R3.T) N)=x:=⟨_,rfl⟩;have HR:=Lib.hid (And.intro hR (And.intro hord (And.intro hkb (And.intro hlo hstk))));clear hinv5 hR hord hkb hlo hstk H3
 go_wp2_with (fail)
 refine Calls.mono HL.out ?_;rintro e w' ⟨rfl,hw⟩;rw[hw,HR.out.2.2.2.2];clear hw w' HL
 go_wp2_with (fail)
 refine Calls.mono HS.out ?_;rintro e w5 ⟨stv,rfl,hown5,hk5⟩;obtain⟨ps,Cs5,hst5,-,-⟩:=zq12 hown5;subst hst5;obtain⟨ls,hls⟩:∃x,R3.C.length=x:=⟨_,rfl⟩;rw[hls]at hown5 ⊢;have H5:=Lib.hid (And.intro hown5 (And.intro hk5 hls));clear hown5 hk5 hls HS
 go_upto_region 34 with(fail)
 have hT0:=zqr w5 (.cells #[.slice none 0 0,.slice po lo Co,.slice ps ls Cs5,.bool stk] 31);have hoT0:∀b,b<w5.heap.size->(w5.alloc (.cells #[.slice none 0 0,.slice po lo Co,.slice ps ls Cs5,.bool stk] 31)).heap[b]?=w5.heap[b]?:=λb hb=>by rw[zq2,if_neg (by omega)]
 have hsT0:(w5.alloc (.cells #[.slice none 0 0,.slice po lo Co,.slice ps ls Cs5,.bool stk] 31)).heap.size=w5.heap.size+1:=zq5 _ _;generalize w5.alloc (.cells #[.slice none 0 0,.slice po lo Co,.slice ps ls Cs5,.bool stk] 31)=w6 at hT0 hoT0 hsT0 ⊢;obtain⟨Tb,hTb⟩:∃Tb,w5.heap.size=Tb:=⟨_,rfl⟩;rw[hTb]at hT0 hoT0 hsT0 ⊢;have H6:=Lib.hid (And.intro hT0 (And.intro hoT0 (And.intro hsT0 hTb)));clear hT0 hoT0 hsT0 hTb;obtain⟨w4,hw4⟩:∃x,x=wc:=⟨_,rfl⟩;subst hw4
 go_upto_block 8 with(fail)
 go_cut [17]from 18 to 161 (λs17 wx=>∃pn Cn2,wx.heap[Tb]?=some (.cells #[.slice pn N Cn2,.slice po lo Co,.slice ps ls Cs5,.bool stk] 31)/\wx.ownsRow (Tb+1) 41 1 (.slice pn N Cn2) N ((List.range N).map av')/\(∀b,b<Tb->wx.heap[b]?=w5.heap[b]?)/\Tb<wx.heap.size)
 case first=>
  go_wp2_with (fail)
  go_loopg [17] N (λk s17 wr=>∃(j:Nat)(pn:Option Addr)(Cn2:Nat),k=N - j/\j<=N/\s17=.int .i64 j/\wr.heap[Tb]?=some (.cells #[.slice pn j Cn2,.slice po lo Co,.slice ps ls Cs5,.bool stk] 31)/\wr.ownsRow (Tb+1) 41 1 (.slice pn j Cn2) j ((List.range j).map av')/\(∀b,b<Tb->wr.heap[b]?=w5.heap[b]?)/\Tb<wr.heap.size)
  case atStart=>exact⟨0,_,_,rfl,Nat.zero_le _,rfl,H6.out.1,World.ownsRow_nil _ _ _ _,H6.out.2.1,by have:=H6.out.2.2.1;omega⟩
  case round=>
   obtain⟨j,pn,Cn2,hk,hj,rfl,hTr,hrow,hold,hsz⟩:=hrel;have hj0:(0:Int)<=j:=by omega
   have hN64:(N:Int)<=64:=by have:=HB2.out.1;omega
   by_cases hlt:j<N
   · obtain⟨hR,-,hkb,-,-⟩:=HR.out;have hw5:w4.heap.size<=Tb:=by have:=H5.out.2.1.size;have:=H6.out.2.2.2;omega
     have hsm:∀b,b<w4.heap.size->wr.heap[b]?=w4.heap[b]?:=λb hb=>(hold b (by omega)).trans (H5.out.2.1.old b hb);obtain⟨g,Ct,m0,ct0⟩:∃g Ct,w4.cell? ⟨mb,1,none⟩=some (.slice (some ⟨g,0,none⟩) N Ct)/\w4.cell? ⟨g,j*7+1,none⟩=some (av' j):=by
      obtain⟨tp,Ct,rfl,htp⟩:=hR.trow.form;obtain⟨g,rfl,-⟩:=htp (by omega);exact⟨g,Ct,(zq0 (off:=1) hR.mach).trans rfl,(hR.trow.cell hlt (show 1<7 by decide)).1⟩
     have hmB:mb<w4.heap.size:=zq7 hR.mach;have hgB:g<w4.heap.size:=cell_lt ct0;obtain⟨pa,Ca,hav,-,-⟩:=zq12 (hR.arow j hlt);obtain⟨la,hla⟩:∃x,(R3.T j).ans.length=x:=⟨_,rfl⟩;rw[hla]at hav;rw[hav]at ct0;obtain⟨tj,htj,hy0,hy1,hy2⟩:∃ti,Try.prog.info? 41=some ti/\ti.zero=some (.slice none 0 0)/\ti.size=1/\ti.bytes=24:=⟨_,rfl,rfl,rfl,rfl⟩;obtain⟨g2,cap,w2,hrun,hown,hsame,hat,hsz2⟩:=app_one (P:=Try.prog) 29 29 41 tj (.slice none 0 0) 1 24 (by kernel_rfl) htj hy0 hy1 hy2 rfl (by decide) (cs:=[.slice pa la Ca]) hrow rfl (by simp[Value.oneCell']) (by simp only[maxLen];omega) (by omega) (by omega);have hno:∀b,b<Tb+1->(Value.slice pn j Cn2).ownBlock≠some b:=λb hb e=>by have:=(own_lt hrow e).2.1;omega
     have hTr2:∀W,W=wr.drewN 1\/W=(wr.drewN 1).alloc (.cells #[.slice pa la Ca] 41)\/W=w2->W.heap[Tb]?=some (.cells #[.slice pn j Cn2,.slice po lo Co,.slice ps ls Cs5,.bool stk] 31):=λW hW=>(hsame W hW Tb hsz (hno Tb (by omega))).trans hTr;have hsm2:∀W,W=wr.drewN 1\/W=(wr.drewN 1).alloc (.cells #[.slice pa la Ca] 41)\/W=w2->∀b,b<w4.heap.size->W.heap[b]?=w4.heap[b]?:=λW hW b hb=>(hsame W hW b (by omega) (hno b (by omega))).trans (hsm b hb);have hfacts:∀W,W=wr.drewN 1\/W=(wr.drewN 1).alloc (.cells #[.slice pa la Ca] 41)\/W=w2->W.cell? ⟨Tb,0,none⟩=some (.slice pn j Cn2)/\W.cell? ⟨mb,1,none⟩=some (.slice (some ⟨g,0,none⟩) N Ct)/\W.cell? ⟨g,j*7+1,none⟩=some (.slice pa la Ca)/\W.frozen? ⟨Tb,0,none⟩=false:=λW hW=>
      ⟨(zq0 (off:=0) (hTr2 W hW)).trans rfl,(zqd (hsm2 W hW mb hmB)).trans m0,(zqd (hsm2 W hW g hgB)).trans ct0,zq3 (hTr2 W hW)⟩
     have hnew:(w2.setCell ⟨Tb,0,none⟩ (.slice (some ⟨g2,0,none⟩) (j+1) cap)).heap[Tb]?=some (.cells #[.slice (some ⟨g2,0,none⟩) (j+1) cap,.slice po lo Co,.slice ps ls Cs5,.bool stk] 31):=by
      rw[zqb w2 Tb 0 _ (hTr2 w2 (.inr (.inr rfl)))];rfl
     have hrow2:(w2.setCell ⟨Tb,0,none⟩ (.slice (some ⟨g2,0,none⟩) (j+1) cap)).ownsRow (Tb+1) 41 1 (.slice (some ⟨g2,0,none⟩) (j+1) cap) (j+1) ((List.range (j+1)).map av'):=by
      rw[List.range_succ,List.map_append,List.map_cons,List.map_nil,hav];exact zqs hown λx hx=>zq4 _ _ _ _ (show x≠Tb by have:=(own_lt hown hx).2.1;omega)
     have hold2:∀b,b<Tb->(w2.setCell ⟨Tb,0,none⟩ (.slice (some ⟨g2,0,none⟩) (j+1) cap)).heap[b]?=w5.heap[b]?:=λb hb=>by
      rw[zq4 _ _ _ _ (show b≠Tb by omega)];exact(hsame w2 (.inr (.inr rfl)) b (by omega) (hno b (by omega))).trans (hold b hb)
     have hsz3:Tb<(w2.setCell ⟨Tb,0,none⟩ (.slice (some ⟨g2,0,none⟩) (j+1) cap)).heap.size:=by rw[zqq];omega
     have hjN:(j:Int)<(N:Int):=by omega
     obtain⟨S,hS⟩:∃S,wr.heap.size=S:=⟨_,rfl⟩;rw[hS]at hrun;have HF:=Lib.hid hfacts;have HP:=Lib.hid (And.intro hnew (And.intro hrow2 (And.intro hold2 hsz3)));have HRN:=Lib.hid hrun;have HT:=Lib.hid (And.intro hS hk);have HLT:=Lib.hid hlt;clear hR hkb hw5 hsm hmB m0 ct0 hgB hav hla htj hy0 hy1 hy2 hrun hown hsame hat hsz2 hno hTr2 hsm2 hfacts hnew hrow2 hold2 hsz3 hS hlt hk hTr hrow hold hsz
     go_wp2_with (fail)
     refine zq3a (k:=13) (s:=10) (t:=11) (W0:=wr.drewN 1) (W1:=(wr.drewN 1).alloc (.cells #[.slice pa la Ca] 41)) (W2:=w2) (by kernel_rfl) (by kernel_rfl) (by kernel_rfl) (by kernel_rfl) (by decide) (by decide) (by decide) (by kernel_rfl)
      [.pointer (some ⟨Tb,0,none⟩),.slice pn j Cn2,.pointer (some ⟨mb,0,none⟩),.pointer (some ⟨mb,0,none⟩),.pointer (some ⟨mb,1,none⟩),.slice (some ⟨g,0,none⟩) N Ct,.int .i64 j,.pointer (some ⟨g,j*7,none⟩),.pointer (some ⟨g,j*7+1,none⟩),.slice pa la Ca,.slice (some ⟨S,0,none⟩) 1 1,.slice (some ⟨g2,0,none⟩) (j+1) cap,.pointer (some ⟨Tb,0,none⟩)] rfl rfl ?_ ?_ ?_ ?_
     · intro jj oo hjj h9 h10 hoo W hWW;obtain⟨d1,d2,d3,_⟩:=HF.out W hWW;clear hWW;simp only[putv,dstOf,al_gl,al_g0,al_g1,al_ob,al_g2,List.set_cons_succ,List.set_cons_zero];obtain rfl |rfl |rfl |rfl |rfl |rfl |rfl |rfl |rfl |rfl |rfl:jj=0\/jj=1\/jj=2\/jj=3\/jj=4\/jj=5\/jj=6\/jj=7\/jj=8\/jj=9\/jj=12:=by omega
       all_goals(simp only[al_gl,al_g0,al_g1,al_oi]at hoo;subst hoo;refine .inl ?_)
       all_goals(simp only[execOp,Act.eval,al_gd,al_gl,al_g0,al_g1,al_od])
       all_goals(try go_simp)
     · intro oo hoo;simp only[putv,dstOf,al_gl,al_g0,al_g1,al_ob,al_g2,List.set_cons_succ,List.set_cons_zero];simp only[al_gl,al_g0,al_g1,al_oi]at hoo;subst hoo;refine .inl ?_;have hs0:(wr.drewN 1).heap.size=S:=HT.out.1;generalize wr.drewN 1=W0 at hs0 ⊢;simp only[execOp,Act.eval,al_gd,al_gl,al_g0,al_g1,al_od];go_simp
     · intro oo hoo;have hrun:(Builtin.append_ #[29,29] 29 #[Value.slice pn j Cn2,.slice (some ⟨S,0,none⟩) 1 1]).run Try.prog ((wr.drewN 1).alloc (.cells #[.slice pa la Ca] 41))=.ok (.slice (some ⟨g2,0,none⟩) (j+1) cap) w2:=HRN.out;simp only[putv,dstOf,al_gl,al_g0,al_g1,al_ob,al_g2,List.set_cons_succ,List.set_cons_zero];simp only[al_gl,al_g0,al_g1,al_oi]at hoo;subst hoo;refine .inl ?_;unfold execOp;simp only[resolve,invoke,builtin,Sem.run_bind,Sem.run_pure,Result.andThen_ok,List.map_toArray,List.map_cons,List.map_nil,Act.eval,al_gd,al_gl,al_g0,al_g1,al_od,hrun];rfl
     simp only[putv,dstOf,al_gl,al_g0,al_g1,al_ob,al_g2,List.set_cons_succ,List.set_cons_zero];obtain⟨d1,_,_,d6⟩:=HF.out w2 (.inr (.inr rfl));refine zq19 (i:=13) (by kernel_rfl) ?_;simp only[wpOp,al_gl,al_g0,al_g1];rw[if_pos (by rfl)];refine .inl ?_;go_simp;refine zq18 (by kernel_rfl) ?_;clear d1 d6 HF HRN;generalize w2.setCell ⟨Tb,0,none⟩ (.slice (some ⟨g2,0,none⟩) (j+1) cap)=w3 at HP ⊢;go_wp2;go_roundg (N - (j+1))
     case measure=>have:=HT.out.2;have:=HLT.out;omega
     case rel=>exact⟨j+1,_,_,rfl,HLT.out,rfl,HP.out.1,HP.out.2.1,HP.out.2.2.1,HP.out.2.2.2⟩
   · obtain rfl:j=N:=by omega
     have hlt':¬(j:Int)<(j:Int):=by omega
     have HP:=Lib.hid (And.intro hTr (And.intro hrow (And.intro hold hsz)));clear hTr hrow hold hsz hk hj hlt
     go_wp2_with (fail)
     go_meet
     exact⟨_,_,HP.out.1,HP.out.2.1,HP.out.2.2.1,HP.out.2.2.2⟩
 case rest=>
 obtain⟨pn,Cn2,hTr,hrow,hold,hsz⟩:=hcut;have hw5:w4.heap.size<=Tb:=by have:=H5.out.2.1.size;have:=H6.out.2.2.2;omega
 have hsm:∀b,b<w4.heap.size->wc.heap[b]?=w4.heap[b]?:=λb hb=>(hold b (by omega)).trans (H5.out.2.1.old b hb);have b04:w4.heap[H]?=some (.cells #[.slice none 0 0,.slice none 0 0,.slice none 0 0,.bool false] 31):=HR.out.2.2.1.typ _ _ _ _ HW1.out.2 ⟨by decide,by decide,by decide,by decide⟩;have hH4:H<w4.heap.size:=zq7 b04;have b0:=(hsm H hH4).trans b04;have hne:¬(Tb=H):=by omega
 have hne2:¬(H=Tb):=by omega
 have HZ:=Lib.hid (And.intro hrow (And.intro hold (And.intro hsz (And.intro hw5 (And.intro hsm (And.intro b04 hH4))))));clear hrow hold hsz hw5 hsm b04 hH4;have c0:=(zq0 (off:=0) hTr).trans rfl;have c1:=(zq0 (off:=1) hTr).trans rfl;have c2:=(zq0 (off:=2) hTr).trans rfl;have c3:=(zq0 (off:=3) hTr).trans rfl;have r0:=(zq0 (off:=0) b0).trans rfl;have r1:=(zq0 (off:=1) b0).trans rfl;have r2:=(zq0 (off:=2) b0).trans rfl;have r3:=(zq0 (off:=3) b0).trans rfl;have z0:=zq3 (off:=0) b0;have z1:=zq3 (off:=1) b0;have z2:=zq3 (off:=2) b0;have z3:=zq3 (off:=3) b0;have B0:=Lib.hid b0;have B1:=Lib.hid hTr;clear b0 hTr;go_wp2;clear c0 c1 c2 c3 r0 r1 r2 r3 z0 z1 z2 z3;have b0:=B0.out;have b1':=zqb _ H 0 (.slice pn N Cn2) b0;have b2':=zqb _ H 1 (.slice po lo Co) b1';have b3':=zqb _ H 2 (.slice ps ls Cs5) b2';have b4':=zqb _ H 3 (.bool stk) b3';have hext:∀x,x≠H->((((wc.setCell ⟨H,0,none⟩ (.slice pn N Cn2)).setCell ⟨H,1,none⟩ (.slice po lo Co)).setCell ⟨H,2,none⟩ (.slice ps ls Cs5)).setCell ⟨H,3,none⟩ (.bool stk)).heap[x]?=wc.heap[x]?:=λx hx=>by
  rw[zq4 _ _ _ _ hx,zq4 _ _ _ _ hx,zq4 _ _ _ _ hx,zq4 _ _ _ _ hx]
 have hsz9:((((wc.setCell ⟨H,0,none⟩ (.slice pn N Cn2)).setCell ⟨H,1,none⟩ (.slice po lo Co)).setCell ⟨H,2,none⟩ (.slice ps ls Cs5)).setCell ⟨H,3,none⟩ (.bool stk)).heap.size=wc.heap.size:=by simp only[zqq]
 generalize ((((wc.setCell ⟨H,0,none⟩ (.slice pn N Cn2)).setCell ⟨H,1,none⟩ (.slice po lo Co)).setCell ⟨H,2,none⟩ (.slice ps ls Cs5)).setCell ⟨H,3,none⟩ (.bool stk))=w9 at b4' hext hsz9 ⊢;clear b1' b2' b3' b0;have k0:=(zq0 (off:=0) b4').trans rfl;have k1:=(zq0 (off:=1) b4').trans rfl;have k2:=(zq0 (off:=2) b4').trans rfl;have k3:=(zq0 (off:=3) b4').trans rfl;refine bodyPost_ret (v:=.agg #[.slice pn N Cn2,.slice po lo Co,.slice ps ls Cs5,.bool stk]) ?_ rfl ?_
 · simp only[results,Try.func29];simp[go_sem,k0,k1,k2,k3]
 · obtain⟨hrow,hold,hsz,hw5,hsm,b04,hH4⟩:=HZ.out;obtain⟨hR,hord,hkb,hlo,hstk⟩:=HR.out;obtain⟨ho5,hk5,hls⟩:=H5.out;obtain⟨-,-,-,hTb⟩:=H6.out;have hBH:B<=H:=HI.out.2.2.2.2.2.2;have hwH:w.heap.size=H:=HI.out.2.2.2.2.1;have hB1:=HB2.out.2;have hk14:=hkb.size;have hkk:=HW1.out.1.trans hkb;have h9:∀b,b<w4.heap.size->b≠H->w9.heap[b]?=w4.heap[b]?:=λb hb hne=>(hext b hne).trans (hsm b hb);refine⟨_,rfl,cv',tv,av',sv',.slice pn N Cn2,.slice po lo Co,.slice ps ls Cs5,?_,?_,?_,?_,?_,?_,?_,?_⟩
   · rw[HE3.out.2,←hstk];rfl
   · rw[HE3.out.2];refine hR.keepT λb c U f hb hU=>?_;have:b≠H:=λe=>by
      subst e;rw[b04]at hb;cases hb;exact hU ⟨by decide,by decide,by decide,by decide⟩
     exact(h9 b (zq7 hb) this).trans hb
   · rw[HE3.out.2,hlo];exact zq2k (zqs hord λx hx=>h9 x (own_lt hord hx).2.2 λe=>zqw hord b04 (by decide) (e▸hx)) hB1
   · rw[HE3.out.2,hls];refine zq2k (zqs ho5 λx hx=>?_) (Nat.le_trans hB1 hk14);have h1:=own_lt ho5 hx;exact(hext x (by omega)).trans (hold x (by omega))
   · refine zq2k (zqs hrow λx hx=>hext x ?_) (by omega);have h1:=own_lt hrow hx;omega
   · exact Nat.le_trans hkk.size (by omega)
   · exact λb hb=>(h9 b (by have:=hkk.size;omega) (by omega)).trans (hkk.old b hb)
   · exact λb c U f hb hU=>(h9 b (by have:=zq7 hb;have:=hkk.size;omega) (by have:=zq7 hb;omega)).trans (hkk.typ b c U f hb hU)
end
section
variable {NS N most:Nat} {ops:Nat->List OpX}
def NoL(t:RT):Prop:=∀a∈t.ans,a.l=[]
theorem nol_end{t:RT}(h:NoL t){a:Ans}(ha:a.l=[]):NoL (endR t a):=λb hb=>by
 rcases List.mem_append.1 hb with hb|hb
 · exact h b hb
 · rw[List.mem_singleton.1 hb];exact ha
theorem nol_of{t t1:RT}(h:NoL t)(e:t1.ans=t.ans):NoL t1:=λb hb=>h b (e▸hb)
theorem nol_settle(l:List OpX):∀(f:Nat)(t:RT),NoL t->NoL (zq11 l f t):=by
 intro f
 induction f with
 |zero=>exact λt h=>h
 |succ f ih=>
  intro t h;unfold zq11;split
  · cases l[t.at']? with
    |none=>exact h
    |some op=>
     refine ih _ ?_;unfold zqz;split
     · exact nol_of h rfl
     · exact nol_end h rfl
  · exact h
theorem nol_step{op:OpX}{t:RT}{C:List Int}(h:NoL t):NoL (stepR NS op C t).2:=by
 unfold stepR;simp only
 repeat' split
 all_goals first|exact nol_end (nol_of h rfl) rfl |exact nol_of h rfl
theorem nol_turn{i:Nat}{r:RS}(h:∀i,NoL (r.T i))(ord:List Nat)(j:Nat):NoL ((turnR i (goR NS ops i r) r ord).T j):=by
 show NoL (upd' _ i _ j)
 by_cases e:j=i
 · subst e;rw[upd'_same];unfold goR;split
   · exact nol_settle _ _ _ (nol_step (h j))
   · exact h j
 · rw[zqc _ _ e];exact h j
theorem nol_begin(C:List Int):∀n j,NoL ((zq1i ops C n).T j):=by
 intro n
 induction n with
 |zero=>exact λj a ha=>absurd ha (by intro h;cases h)
 |succ n ih=>
  intro j;show NoL (upd' _ n _ j)
  by_cases e:j=n
  · subst e;rw[upd'_same];exact nol_settle _ _ _ (λa ha=>by cases ha)
  · rw[zqc _ _ e];exact ih j
theorem keep_play{Q:RS->Prop}{C:List Int}(h0:Q (zq1i ops C N))(h1:∀x r,Q r->Q (zq16 C.length ops N most x r))(l:List Int):Q (playR ops N most l C):=by
 have hs:∀(l:List Int)r,Q r->Q (zqx C.length ops N most l r):=by
  intro l
  induction l with
  |nil=>exact λr h=>h
  |cons x l ih=>exact λr h=>ih _ (h1 x r h)
 have hr:∀f r,Q r->Q (zq1v C.length ops N most f r):=by
  intro f
  induction f with
  |zero=>exact λr h=>h
  |succ f ih=>
   intro r h;unfold zq1v;split
   · exact ih _ (hs _ _ h)
   · exact h
 exact hr _ _ (hs _ _ h0)
theorem nol_play(C:List Int)(l:List Int)(i:Nat):NoL ((playR ops N most l C).T i):=by
 refine keep_play (Q:=λr=>∀i,NoL (r.T i)) (nol_begin C N) (λx r h j=>?_) l i;unfold zq16;split
 · exact h j
 · exact nol_turn h _ j
theorem inv_play{C:List Int}(hC:0<C.length)(l:List Int):InvR C.length N ops most (playR ops N most l C):=by
 refine keep_play (Q:=λr=>InvR C.length N ops most r) (inv_begin hC rfl N) (λx r h=>?_) l;unfold zq16;split
 · exact h
 · rename_i hx;refine inv_turn hC h (by omega) (λe=>hx (.inr (.inr (.inl e)))) ?_;have h1:=h.ord;have h2:r.ord.length≠most:=λe=>hx (.inr (.inr (.inr e)));omega
end
theorem ans_of_row{w:World}{B:Nat}{v:Value}{l:List Ans}(h:w.ownsRow B 43 3 v l.length (zq1p l))(hl:∀a∈l,a.l=[]):AnsAt w v l:=by
 rcases h.2 with⟨hv,h0⟩|⟨g,cap,cur,hv,hb,hh,h1,h2,h3,h4⟩
 · exact⟨none,0,by rw[hv,h0],λhne=>absurd (List.length_eq_zero_iff.1 h0) hne⟩
 · refine⟨_,cap,hv,λ_=>⟨g,0,rfl,λi a hi=>?_⟩⟩;have hil:=(List.getElem?_eq_some_iff.1 hi).1;obtain⟨e1,e2,e3⟩:=ansCells_get l i a hi;have get:∀{j:Nat}{v:Value},j<l.length*3->(zq1p l)[j]?=some v->w.cell? ⟨g,0+j,none⟩=some v:=λ{j v}hj e=>by
    rw[zq0 hh,Nat.zero_add];rw[←h4,List.getElem?_take,if_pos hj]at e;simpa using e
   refine⟨get (by omega) e1,get (j:=i*3+1) (by omega) e2,_,get (j:=i*3+2) (by omega) e3,?_⟩;rw[hl a (List.mem_of_getElem? hi)];exact⟨none,0,rfl,λh=>absurd rfl h⟩
theorem OpsB.to {B B':Nat}{w w':World}{v:Value}{l:List OpX}(h:OpsB B w v l)(hB:B<=B')(hk:∀b,b<B->w'.heap[b]?=w.heap[b]?):OpsB B' w' v l:=by
 obtain⟨sp,cap,e,h1⟩:=h;refine⟨sp,cap,e,λk op hop=>?_⟩;obtain⟨g,off,e1,h2,h3,h4,h5,h6⟩:=h1 k op hop;have c:=hk g h2;exact⟨g,off,e1,by omega,(zqd c).trans h3,(zqd c).trans h4,(zqd c).trans h5,(zqd c).trans h6⟩
theorem RunIn.to {B B':Nat}{w w':World}{pp:Option Addr}{np N:Nat}{sp:Nat->Option Addr}{L Cp:Nat->Nat}{opv:Nat->Value}{ops:Nat->List OpX}(h:RunIn B w pp np N sp L Cp opv ops)(hB:B<=B')(hk:∀b,b<B->w'.heap[b]?=w.heap[b]?):RunIn B' w' pp np N sp L Cp opv ops:=
 ⟨h.eq,h.le,λh0=>by
  obtain⟨tb,to',e,h1,h2⟩:=h.at' h0;exact⟨tb,to',e,by omega,λi hi=>(zqd (hk tb h1)).trans (h2 i hi)⟩,h.row,h.len,h.val,λi hi=>(h.ops i hi).to hB hk⟩
theorem refplay_lone{p pp scp:Option Addr}{NS Cw np N Cn Cs:Nat}{sp:Nat->Option Addr}{L Cp:Nat->Nat}{opv:Nat->Value}{ops:Nat->List OpX}{ws sched:List Int}{mo:Int}{R:RS}(w:World)
 (hl:ws.length=NS) (hn:NS<=4611686018427387904) (hw:0<NS->∃wb wo,p=some ⟨wb,wo,none⟩/\∀i,i<NS->w.cell? ⟨wb,wo+i,none⟩=some (.int .i64 (ws.getD i 0)))
 (hin:RunIn w.heap.size w pp np N sp L Cp opv ops) (hns:sched.length<=4611686018427387904)
 (hsc:sched≠[]->∃sb off,scp=some ⟨sb,off,none⟩/\∀j x,sched[j]?=some x->w.cell? ⟨sb,off+j,none⟩=some (.int .i64 x)) (hRR:playR ops N (min mo.toNat 1048576) sched (zq13 ws)=R):
 Calls Try.prog 11 #[.slice p NS Cw,.slice pp np Cn,.slice scp sched.length Cs,.int .i64 mo] w λe w'=>∃v,e=.returned v/\TraceAt w' v N (λi=>(R.T i).ans) (R.ord.map λ(i:Nat)=>(i:Int)) R.C (decide (0<leftN (ovR R) N))/\Beyond w w':=by
 have hnol:∀i,NoL (R.T i):=by rw[←hRR];exact nol_play _ _
 obtain⟨H,hH⟩:∃H,w.heap.size=H:=⟨_,rfl⟩;have hb1:=zqr w (.cells #[.slice none 0 0,.slice none 0 0,.slice none 0 0,.bool false] 31);have ho1:∀b,b<H->(w.alloc (.cells #[.slice none 0 0,.slice none 0 0,.slice none 0 0,.bool false] 31)).heap[b]?=w.heap[b]?:=λb hb=>by rw[zq2,if_neg (by omega)]
 have hs1:(w.alloc (.cells #[.slice none 0 0,.slice none 0 0,.slice none 0 0,.bool false] 31)).heap.size=H+1:=by rw[zq5,hH]
 rw[hH]at hb1 hin;have HI:=Lib.hid (And.intro hl (And.intro hn (And.intro hin (And.intro hns (And.intro hRR (And.intro hnol hH))))));have HW:=Lib.hid (And.intro hw hsc);clear hl hn hin hns hRR hnol hw hsc
 go_enter Try.func11,Try.ntmps11
 go_upto_region 1 with(fail)
 clear hH;generalize w.alloc (.cells #[.slice none 0 0,.slice none 0 0,.slice none 0 0,.bool false] 31)=w1 at hb1 ho1 hs1 ⊢;have hnw:=refnew_lone (p:=p) (N:=NS) (Cp:=Cw) (ws:=ws) (opv:=opv) (T:=λ_=>rt0) (av:=λ_=>.slice none 0 0) (sv:=λ_=>.slice none 0 0) w1 HI.out.1 HI.out.2.1 (λh0=>by
  obtain⟨wb,wo,e,h1⟩:=HW.out.1 h0;exact⟨wb,wo,e,λi hi=>(zqd (ho1 wb (by rw[←HI.out.2.2.2.2.2.2];exact cell_lt (h1 i hi)))).trans (h1 i hi)⟩)
 rw[hs1]at hnw;have HN:=Lib.hid hnw;have H1:=Lib.hid (And.intro hb1 (And.intro ho1 hs1));clear hnw hb1 ho1 hs1
 go_wp2_with (fail)
 refine Calls.mono HN.out ?_;rintro e w2 ⟨rfl,⟨cv,hR2⟩,hk2⟩;have hbl:0<(zq13 ws).length/\(zq13 ws).length<=64:=by
  rw[begunL_eq];split
  · decide
  · rename_i h;have:0<ws.length:=List.length_pos_iff.2 h;rw[List.length_take];omega
 have hrun:=run_lone (Cn:=Cn) (Cs:=Cs) (mo:=mo) hR2 (HI.out.2.2.1.to (Nat.le_succ H) λb hb=>(hk2.old b (by omega)).trans (H1.out.2.1 b hb)) hbl.1 hbl.2 HI.out.2.2.2.1 (λh0=>by
  obtain⟨sb,off,e,h1⟩:=HW.out.2 h0;obtain⟨x,l,hsl⟩:=List.exists_cons_of_ne_nil h0;have hlt:sb<H:=by rw[←HI.out.2.2.2.2.2.2];exact cell_lt (h1 0 x (by rw[hsl];rfl))
  exact⟨sb,off,e,by omega,λj x hj=>(zqd ((hk2.old sb (by omega)).trans (H1.out.2.1 sb hlt))).trans (h1 j x hj)⟩)
 rw[HI.out.2.2.2.2.1]at hrun;have HRU:=Lib.hid hrun;have H2:=Lib.hid hk2;clear hrun hk2 hR2 hbl HN
 go_wp2_with (fail)
 refine Calls.mono HRU.out ?_;rintro e w3 ⟨v,rfl,cv3,tv3,av3,sv3,ansv,ordv,stv,rfl,hR3,ho3,hs3,ha3,hk3⟩;obtain⟨stk,hstk⟩:∃x,decide (0<leftN (ovR R) N)=x:=⟨_,rfl⟩;rw[hstk];obtain⟨p1,c1,he1,-,-⟩:=zq12 ho3;obtain⟨p2,c2,he2,-,-⟩:=zq12 hs3;obtain⟨p3,c3,he3,-,-⟩:=zq12 ha3;obtain⟨l1,hl1⟩:∃x,R.ord.length=x:=⟨_,rfl⟩;obtain⟨l2,hl2⟩:∃x,R.C.length=x:=⟨_,rfl⟩;rw[hl1]at he1;rw[hl2]at he2;subst he1 he2 he3;have b0:w3.heap[H]?=some (.cells #[.slice none 0 0,.slice none 0 0,.slice none 0 0,.bool false] 31):=(hk3.old H (by omega)).trans ((H2.out.old H (by omega)).trans H1.out.1);have H3:=Lib.hid (And.intro hR3 (And.intro ho3 (And.intro hs3 (And.intro ha3 (And.intro hk3 (And.intro hl1 (And.intro hl2 hstk)))))));clear hR3 ho3 hs3 ha3 hk3 hl1 hl2 hstk;have r0:=(zq0 (off:=0) b0).trans rfl;have r1:=(zq0 (off:=1) b0).trans rfl;have r2:=(zq0 (off:=2) b0).trans rfl;have r3:=(zq0 (off:=3) b0).trans rfl;have z0:=zq3 (off:=0) b0;have z1:=zq3 (off:=1) b0;have z2:=zq3 (off:=2) b0;have z3:=zq3 (off:=3) b0;have B0:=Lib.hid b0;clear b0;go_wp2;clear r0 r1 r2 r3 z0 z1 z2 z3;have b0:=B0.out;have b1':=zqb _ H 0 (.slice p3 N c3) b0;have b2':=zqb _ H 1 (.slice p1 l1 c1) b1';have b3':=zqb _ H 2 (.slice p2 l2 c2) b2';have b4':=zqb _ H 3 (.bool stk) b3';have hext:∀x,x≠H->((((w3.setCell ⟨H,0,none⟩ (.slice p3 N c3)).setCell ⟨H,1,none⟩ (.slice p1 l1 c1)).setCell ⟨H,2,none⟩ (.slice p2 l2 c2)).setCell ⟨H,3,none⟩ (.bool stk)).heap[x]?=w3.heap[x]?:=λx hx=>by
  rw[zq4 _ _ _ _ hx,zq4 _ _ _ _ hx,zq4 _ _ _ _ hx,zq4 _ _ _ _ hx]
 have hsz9:((((w3.setCell ⟨H,0,none⟩ (.slice p3 N c3)).setCell ⟨H,1,none⟩ (.slice p1 l1 c1)).setCell ⟨H,2,none⟩ (.slice p2 l2 c2)).setCell ⟨H,3,none⟩ (.bool stk)).heap.size=w3.heap.size:=by simp only[zqq]
 generalize ((((w3.setCell ⟨H,0,none⟩ (.slice p3 N c3)).setCell ⟨H,1,none⟩ (.slice p1 l1 c1)).setCell ⟨H,2,none⟩ (.slice p2 l2 c2)).setCell ⟨H,3,none⟩ (.bool stk))=w9 at b4' hext hsz9 ⊢;clear b1' b2' b3' b0;have k0:=(zq0 (off:=0) b4').trans rfl;have k1:=(zq0 (off:=1) b4').trans rfl;have k2:=(zq0 (off:=2) b4').trans rfl;have k3:=(zq0 (off:=3) b4').trans rfl;refine bodyPost_ret (v:=.agg #[.slice p3 N c3,.slice p1 l1 c1,.slice p2 l2 c2,.bool stk]) ?_ rfl ?_
 · simp only[results,Try.func11];simp[go_sem,k0,k1,k2,k3]
 · obtain⟨hR3,ho3,hs3,ha3,hk3,hl1,hl2,hstk⟩:=H3.out;have own9:∀{U:TypeId}{k n:Nat}{u:Value}{xs:List Value},w3.ownsRow (H+1) U k u n xs->w9.ownsRow (H+1) U k u n xs:=λh=>zqs h λx hx=>hext x (by have:=(own_lt h hx).2.1;omega);have hwH:=HI.out.2.2.2.2.2.2;refine⟨_,rfl,⟨p3,c3,_,_,by rw[hstk],?_,?_,λh0=>?_⟩,?_,λb hb=>?_⟩
   · have h:=own9 ho3;rw[hl1]at h;rw[←hl1]at h;rw[←hl1];exact ints_of_nats h
   · have h:=own9 hs3;rw[←hl2]at h ⊢;exact zq38 h
   · have h:=own9 ha3;rcases h.2 with⟨_,e0⟩|⟨g,cap,cur,hv,hB',hh,h1,h2,h3',h4⟩
     · omega
     · cases hv;refine⟨g,0,rfl,λi hi=>⟨av3 i,?_,ans_of_row (own9 (hR3.arow i hi)) (HI.out.2.2.2.2.2.1 i)⟩⟩;rw[zq0 hh,Nat.zero_add];have e:((List.range N).map av3)[i]?=some (av3 i):=by simp[hi]
       rw[←h4,List.getElem?_take,if_pos (by omega)]at e;simpa using e
   · have:=H1.out.2.2;have:=H2.out.size;have:=hk3.size;omega
   · rw[hext b (by omega),hk3.old b (by omega),H2.out.old b (by omega)];exact H1.out.2.1 b (by omega)
set_option maxHeartbeats 1000000
set_option maxRecDepth 100000
section
variable {S2 α β:Type}
def Ind(p:Proc (List Int×S2) α)(q:Proc (List Int×Unit) α):Prop:=∀l s2,p.run (l,s2)=(((q.run (l,())).1.1,s2),(q.run (l,())).2)
theorem Ind.ret (a:α):Ind (S2:=S2) (Proc.ret a) (Proc.ret a):=λ_ _=>rfl
theorem Ind.onL (f:List Int->List Int×α):Ind (S2:=S2) (onL f) (onL f):=λ_ _=>rfl
theorem Ind.tick:Ind (S2:=S2) Proc.tick Proc.tick:=λ_ _=>rfl
theorem Ind.bind {p:Proc (List Int×S2) α}{q:Proc (List Int×Unit) α}{K:α->Proc (List Int×S2) β}{K':α->Proc (List Int×Unit) β}(h:Ind p q)(hk:∀a,Ind (K a) (K' a)):Ind (p.bind K) (q.bind K'):=by
 intro l s2;rw[Proc.run_bind,Proc.run_bind,h l s2];obtain⟨⟨l',u⟩,o,n⟩:=q.run (l,());cases o with
 |none=>rfl
 |some a=>
  show(((K a).run (l',s2)).1,((K a).run (l',s2)).2.1,((K a).run (l',s2)).2.2+n)=_;rw[hk a l' s2]
theorem Ind.add (N:Nat)(a v:Int):Ind (S2:=S2) (addP N a v) (addP N a v):=Ind.tick.bind λ_=>Ind.onL _
theorem Ind.fold (g:Nat->Int->List Int->List Int×Int)(N:Nat):∀n k acc,Ind (S2:=S2) (foldP g N n k acc) (foldP g N n k acc):=by
 intro n
 induction n with
 |zero=>exact λ_ _=>Ind.ret _
 |succ n ih=>exact λk acc=>(Ind.tick.bind λ_=>Ind.onL _).bind λx=>ih _ _
theorem Ind.evenB (N:Nat)(seen:List Int):∀n k acc,Ind (S2:=S2) (evenB N seen n k acc) (evenB N seen n k acc):=by
 intro n
 induction n with
 |zero=>exact λ_ _=>Ind.ret _
 |succ n ih=>
  refine λk acc=>(Ind.tick.bind λ_=>Ind.onL _).bind λx=>?_
  by_cases h:x=seen.getD k 0
  · rw[if_pos h,if_pos h];exact ih _ _
  · rw[if_neg h,if_neg h];exact Ind.ret _
theorem Ind.evenA (N:Nat):∀n k seen acc,Ind (S2:=S2) (evenA N n k seen acc) (evenA N n k seen acc):=by
 intro n
 induction n with
 |zero=>exact λk seen acc=>Ind.evenB N seen k 0 acc
 |succ n ih=>exact λk seen acc=>(Ind.tick.bind λ_=>Ind.onL _).bind λx=>ih _ _ _
theorem Ind.doP (N:Nat)(op:OpX):Ind (S2:=S2) (doP N op) (doP N op):=by
 unfold Go.Proofs.doP
 repeat' split
 · exact(Ind.add _ _ _).bind λ_=>Ind.ret _
 · exact(Ind.fold _ _ _ _ _).bind λ_=>Ind.ret _
 · exact(Ind.fold _ _ _ _ _).bind λ_=>Ind.ret _
 · exact((Ind.add _ _ _).bind λ_=>(Ind.add _ _ _).bind λ_=>Ind.ret _).bind λ_=>Ind.ret _
 · exact(Ind.evenA _ _ _ _ _).bind λ_=>Ind.ret _
 · exact Ind.ret _
end
def doN(N:Nat)(op:OpX)(l:List Int):Nat:=((doP N op:Proc (List Int×Unit) Ans).run (l,())).2.2
theorem do_run{S2:Type}(N:Nat)(op:OpX)(l:List Int)(s2:S2):(doP N op:Proc (List Int×S2) Ans).run (l,s2)=((doL N op l,s2),some (doA N op l),doN N op l):=by
 rw[Ind.doP N op l s2];exact Prod.ext rfl (Prod.ext (do_some N op l) rfl)
def seqL(N:Nat):List OpX->List Int->List Int
 |[],c=>c
 |op::l,c=>seqL N l (doL N op c)
def seqA(N:Nat):List OpX->List Int->List Ans
 |[],_=>[]
 |op::l,c=>doA N op c::seqA N l (doL N op c)
def seqN(N:Nat):List OpX->List Int->Nat
 |[],_=>0
 |op::l,c=>seqN N l (doL N op c)+doN N op c
theorem ops_run(N:Nat):∀(l:List OpX)(c:List Int)(s2:Nat->List Ans),(opsP 0 (doP N) l).run (c,s2)=((seqL N l c,upd' s2 0 (s2 0++seqA N l c)),some (),seqN N l c):=by
 intro l
 induction l with
 |nil=>
  intro c s2;show((c,s2),some (),0)=((c,upd' s2 0 (s2 0++[])),some (),0);rw[List.append_nil,zq2x]
 |cons op l ih=>
  intro c s2;unfold opsP;rw[Proc.run_bind,do_run];show((((pushP 0 (doA N op c)).bind λ_=>opsP 0 (doP N) l).run (doL N op c,s2)).1,(((pushP 0 (doA N op c)).bind λ_=>opsP 0 (doP N) l).run (doL N op c,s2)).2.1,(((pushP 0 (doA N op c)).bind λ_=>opsP 0 (doP N) l).run (doL N op c,s2)).2.2+doN N op c)=_;have h1:((pushP 0 (doA N op c)).bind λ_=>opsP 0 (doP N) l).run (doL N op c,s2)=(opsP 0 (doP N) l).run (doL N op c,upd' s2 0 (s2 0++[doA N op c])):=rfl;rw[h1,ih];simp only[upd'_same,zq17,seqL,seqA,seqN,List.append_assoc,List.singleton_append]
def OneT{S:Type}(p:Proc S Unit)(s0:S)(a:TSt S):Prop:=∃k,(a.t 0).run a.s=((p.run s0).1,some (),k)/\a.ord.length+k=(p.run s0).2.2/\a.ov 0=(a.t 0).isRet
section
variable {S:Type} {p:Proc S Unit} {s0:S}
theorem one_turn{a:TSt S}(h:OneT p s0 a)(hov:a.ov 0=false):OneT p s0 (turnT 0 (goT (a.t 0) a.s) a (a.ord++[0])):=by
 obtain⟨k,h1,h2,h3⟩:=h;cases ht:a.t 0 with
 |ret u=>rw[ht,hov]at h3;cases h3
 |out=>
  rw[ht]at h1;have e:(a.s,(none:Option Unit),0)=((p.run s0).1,some (),k):=h1;simp at e
 |step u K=>
  rw[ht]at h1;have e:(((K a.s).run (u a.s)).1,((K a.s).run (u a.s)).2.1,((K a.s).run (u a.s)).2.2+1)=((p.run s0).1,some (),k):=h1;simp only[Prod.mk.injEq]at e;obtain⟨e1,e2,e3⟩:=e;refine⟨((K a.s).run (u a.s)).2.2,?_,?_,?_⟩
  · show(upd' a.t 0 (K a.s) 0).run (u a.s)=_;rw[upd'_same];exact Prod.ext e1 (Prod.ext e2 rfl)
  · show(a.ord++[0]).length+_=_;rw[List.length_append];simp only[List.length_cons,List.length_nil];omega
  · show(if(K a.s).isRet then(λj=>if j=0 then true else a.ov j)else a.ov) 0=(upd' a.t 0 (K a.s) 0).isRet;rw[upd'_same];cases hr:(K a.s).isRet with
    |true=>rfl
    |false=>exact hov
theorem one_step1{most:Nat}(x:Int){a:TSt S}(h:OneT p s0 a):OneT p s0 (step1T 1 most x a):=by
 unfold step1T;split
 · exact h
 · rename_i hx;have h0:¬x<0:=λe=>hx (.inl e);have h1:¬(1:Int)<=x:=λe=>hx (.inr (.inl (by exact_mod_cast e)));obtain rfl:x=0:=by omega
   refine one_turn h ?_;cases hv:a.ov 0 with
   |false=>rfl
   |true=>exact absurd (.inr (.inr (.inl hv))) hx
theorem one_steps{most:Nat}:∀(l:List Int){a:TSt S},OneT p s0 a->OneT p s0 (stepsT 1 most l a):=by
 intro l
 induction l with
 |nil=>exact λh=>h
 |cons x l ih=>exact λh=>ih (one_step1 x h)
theorem one_rounds{most:Nat}:∀f{a:TSt S},OneT p s0 a->OneT p s0 (roundsT 1 most f a):=by
 intro f
 induction f with
 |zero=>exact λh=>h
 |succ f ih=>
  intro a h;unfold roundsT;split
  · exact ih (one_steps _ h)
  · exact h
theorem one_play{pr:Nat->Proc S Unit}{most:Nat}(l:List Int)(hT:((pr 0).run s0).2.1=some ()):OneT (pr 0) s0 (playT pr 1 most l s0):=by
 refine one_rounds _ (one_steps _ ⟨((pr 0).run s0).2.2,?_,Nat.zero_add _,?_⟩)
 · show(upd' (λ_=>Tree.ret ()) 0 (pr 0 s0).2 0).run (pr 0 s0).1=_;rw[upd'_same];exact Prod.ext rfl (Prod.ext hT rfl)
 · show(if(pr 0 s0).2.isRet then(λj=>if j=0 then true else false)else λ_=>false) 0=(upd' (λ_=>Tree.ret ()) 0 (pr 0 s0).2 0).isRet;rw[upd'_same];cases hr:(pr 0 s0).2.isRet with
   |true=>rfl
   |false=>rfl
theorem one_end{a:TSt S}(h:OneT p s0 a)(hov:a.ov 0=true):a.s=(p.run s0).1/\a.ord.length=(p.run s0).2.2:=by
 obtain⟨k,h1,h2,h3⟩:=h;cases ht:a.t 0 with
 |ret u=>
  rw[ht]at h1;have e:(a.s,some u,0)=((p.run s0).1,some (),k):=h1;simp only[Prod.mk.injEq]at e;exact⟨e.1,by omega⟩
 |out=>
  rw[ht]at h1;have e:(a.s,(none:Option Unit),0)=((p.run s0).1,some (),k):=h1;simp at e
 |step u K=>rw[ht,hov]at h3;cases h3
end
theorem one_ref{C:List Int}(hN:0<C.length){ops:List OpX}{most:Nat}{l:List Int}{R:RS}(hR:playR (λ_=>ops) 1 most l C=R)(hov:(R.T 0).pc=0):R.C=seqL C.length ops C/\(R.T 0).ans=seqA C.length ops C/\R.ord.length=seqN C.length ops C:=by
 have h:=play_ref (N:=1) (ops:=λ_=>ops) (most:=most) hN l;rw[hR]at h;have hrun:=ops_run C.length ops C (λ_=>[]);have h1:=one_play (pr:=λi=>opsP i (doP C.length) ops) (most:=most) l (show((opsP 0 (doP C.length) ops).run (C,λ_=>[])).2.1=some ()by rw[hrun]);have h2:=one_end h1 (by rw[(h.thr 0 (by decide)).2.1];exact decide_eq_true hov);rw[hrun]at h2;obtain⟨e1,e2⟩:=h2;refine⟨h.c.symm.trans (by rw[e1]),(h.ans 0).symm.trans (by rw[e1];simp),by rw[←h.ord];exact e2⟩
set_option maxHeartbeats 4000000
set_option maxRecDepth 100000
theorem meth_steps(n:Nat)(st:Nat)(w:World):(Go.method (n+1) 37 (.pointer (some ⟨st,0,none⟩)) "Step").run Try.prog w=.ok (71,.pointer (some ⟨st,0,none⟩)) w:=by kernel_rfl
theorem meth_steps_ev(n:Nat)(st:Nat)(w:World)(es:Array Event):(Go.method (n+1) 37 (.pointer (some ⟨st,0,none⟩)) "Step").events Try.prog w es=es:=by kernel_rfl
section
variable {Ml S β:Type} {C:Core Ml S} {ro:Nat->Option Obj} {i:Nat}
theorem step_steps(Y:YSys Try.prog aM C ro i β){st:Nat}(h:StepY Y 71 #[.pointer (some ⟨st,0,none⟩)]):StepY Y 33 #[.iface 37 (.pointer (some ⟨st,0,none⟩))]:=by
 intro K s m w hA;refine BodyY.calls ⟨_,_,Try.func33,rfl,?_⟩;simp only[zqi,Try.ntmps33,List.size_toArray,List.length_cons,List.length_nil,Nat.reduceAdd,Nat.reduceSub,Array.replicate_succ,Array.replicate_zero,List.push_toArray,List.append_toArray,List.nil_append,List.cons_append];have hA:Y.AtB (m.box i) s w (Proc.tick.bind K):=⟨m,rfl,hA⟩;obtain⟨B,hB0⟩:∃B,m.box i=B:=⟨_,rfl⟩;rw[hB0]at hA ⊢;clear hB0;apply YSys.seq0 hA (by kernel_rfl)
 · intro wc hB;go_wp2;exact⟨rfl,Ext1.refl _,rfl⟩
 intro w hA;refine zq10 Y.jc rfl ?_;rw[if_pos rfl];refine zqy Y.jc ?_;apply YSys.callS 0 1 0 hA h rfl rfl rfl (by rfl) rfl rfl rfl
 · intro wc hB X hX;have HX:=Lib.hid hX;clear hX;go_wp2;exact HX.out _ (Ext1.refl _)
 · intro w;simp[go_sem,execOp,Act.eval,resolve,Deferred.ofValue,invoke,callFunc,meth_steps,meth_steps_ev,Try.func71,Try.f71]
 · intro w;simp[go_sem,execOp,Act.eval,resolve,Deferred.ofValue,invoke,callFunc,meth_steps,meth_steps_ev,Try.func71,Try.f71]
 · intro s' ch w' h;exact⟨rfl,h⟩
 intro s w hA;refine zq26 Y.jc ?_;exact⟨rfl,.inl ⟨_,resultsC_none rfl _,(),hA.choose,rfl,hA.choose_spec⟩⟩
end
theorem wrap_more(n:Nat):IntKind.i64.wrap (wrap64 (n:Int)+1)=wrap64 ((n+1:Nat):Int):=by
 rw[IntKind.wrap_i64];simp only[wrap64]<;>omega
theorem count_lone{kb n:Nat}(w:World)(h:w.heap[kb]?=some (.cells #[.int .i64 (wrap64 n)] 39)):
 Calls Try.prog 71 #[.pointer (some ⟨kb,0,none⟩)] w λe w'=>e=.returned (.tuple #[])/\w'.heap[kb]?=some (.cells #[.int .i64 (wrap64 ((n+1:Nat):Int))] 39)/\w'.heap.size=w.heap.size/\∀b,b≠kb->w'.heap[b]?=w.heap[b]?:=by
 have c0:w.cell? ⟨kb,0,none⟩=some (.int .i64 (wrap64 n)):=(zq0 (off:=0) h).trans rfl;have z0:w.frozen? ⟨kb,0,none⟩=false:=zq3 h;obtain⟨q,hq⟩:∃q,wrap64 ((n+1:Nat):Int)=q:=⟨_,rfl⟩;have hw:=(wrap_more n).trans hq;obtain⟨p,hp⟩:∃p,wrap64 (n:Int)=p:=⟨_,rfl⟩;rw[hp]at c0 hw h;rw[hq];have HB:=Lib.hid h;clear h hq hp
 go_enter Try.func71,Try.ntmps71
 go_wp2
 go_end0
 refine⟨rfl,?_,zqq _ _ _,λb hb=>zq4 _ _ _ _ hb⟩;rw[zqb _ _ _ _ HB.out];rfl
theorem step_cnt{cb kb N:Nat}{z:Option Nat}{ro:Nat->Option Obj}{i:Nat}{α:Type}{main:Bool}{Kc:Addr->Option Value}{J:Goroutine->World->Prop}(hJ:JS Try.prog main Kc (λ(_:Unit)=>J))(hC:CalmJ Try.prog main (λ(_:Unit)=>J))(m₀:BM (List Int×Nat))(w₀:World)(T:(List Int×Unit)×Option α×Nat):
 StepY (seqSys zql hJ hC (zqa (zq6 cb z N) (zq32 kb)) ro i 1 m₀ w₀ T) 33 #[.iface 37 (.pointer (some ⟨kb,0,none⟩))]:=by
 refine step_steps _ λK s m w hA=>?_;obtain⟨hL,_⟩:=hA;obtain⟨⟨lc,n⟩,bx⟩:=m;have hrep:=hL.rep;have hk:w.heap[kb]?=some (.cells #[.int .i64 (wrap64 n)] 39):=hrep.core.2.1;intro cl cs h1 _;refine zq2f (J:=λ(_:Unit)=>J) (s:=()) hJ hC zql Try.func71 rfl (by kernel_rfl) (R:=λv w'=>v=.tuple #[]/\w'.heap[kb]?=some (.cells #[.int .i64 (wrap64 ((n+1:Nat):Int))] 39)/\w'.heap.size=w.heap.size/\∀b,b≠kb->w'.heap[b]?=w.heap[b]?) (λv w' τ d h=>h) (λτ d=>?_) ?_
 · refine Calls.mono (count_lone (re w τ d) hk) ?_;rintro e w' ⟨rfl,h⟩;exact⟨_,rfl,rfl,h⟩
 · rintro v w' ⟨rfl,g1,g2,g3⟩;refine h1 s _ w' ⟨(),⟨(lc,n+1),bx⟩,rfl,rfl,?_,trivial⟩;refine LoneAt.count hL rfl rfl (λb=>Iff.rfl) ?_ (Nat.le_of_eq g2.symm) λb _ hf=>g3 b λe=>hf (.inr e);have hnk:∀b,(zq6 cb z N).foot lc b->b≠kb:=λb hb e=>hrep.core.2.2 b hb e;refine⟨⟨(zq6 cb z N).frame _ _ _ hrep.core.1 λb hb=>g3 b (hnk b hb),g1,hrep.core.2.2⟩,λj b o hb=>?_,λb o hb=>?_,hrep.apart,hrep.own,hrep.rol,hrep.rob⟩
   · exact(g3 b λe=>hrep.apart j b (by rw[hb];simp) (.inr e)).trans (hrep.box j b o hb)
   · exact(g3 b λe=>hrep.rol b (by rw[hb];simp) (.inr e)).trans (hrep.rod b o hb)
structure StpAft(cb kb:Nat)(z:Option Nat)(N:Nat)(l':List Int)(c':Nat)(w w':World):Prop where
 rep:StrRep cb z N l' w'
 cnt:w'.heap[kb]?=some (.cells #[.int .i64 (wrap64 (c':Int))] 39)
 size:w.heap.size<=w'.heap.size
 old:∀b,b<w.heap.size->b≠cb->z≠some b->b≠kb->w'.heap[b]?=w.heap[b]?
theorem call_stpJ{Fin:Machine->Trace->Prop}(hFin:Back Try.prog Fin){n cb kb:Nat}{z:Option Nat}{N c:Nat}{l:List Int}{w:World}(op:OpX)(h:StrRep cb z N l w)(hk:w.heap[kb]?=some (.cells #[.int .i64 (wrap64 (c:Int))] 39))(h1:kb≠cb)(h2:z≠some kb){cl:Frame}{cs:List Frame}
 (hq:∀w',(doA N op l).l=[]->StpAft cb kb z N (doL N op l) (c+doN N op l) w w'->J0 Try.prog Fin n (G (cl.finish (ansPV (doA N op l))) cs) w'):J0 Try.prog Fin n (G (Frame.enter Try.prog 14 #[.pointer (some ⟨cb,0,none⟩),.iface 37 (.pointer (some ⟨kb,0,none⟩)),op.val] .normal) (cl::cs)) w:=by
 have hJ:=j0_JU hFin n;have hC:=j0_CU hFin n;have hpos:=h.pos;have hle:=h.le;refine seq_callsR (J:=J0 Try.prog Fin n) (C:=zqa (zq6 cb z N) (zq32 kb)) (ro:=λ_=>none) (i:=0) (p:=doP N op) (m₀:=⟨(l,c),λ_ _=>none⟩) (rel:=AnsP) hJ hC ⟨⟨h,hk,λb hb he=>hb.elim (λe=>h1 (he.symm.trans e)) (λe=>h2 (he▸e))⟩,λi b o h=>(by cases h),λb o h=>(by cases h),λi b h=>absurd rfl h,λi j b _ h=>absurd rfl h,λb h=>absurd rfl h,λi b h=>rfl⟩ ⟨doA N op l,by rw[show(zqa (zq6 cb z N) (zq32 kb)).st (l,c)=(l,())from rfl,do_run]⟩ 1 ?_ ?_
 · have hat:StrAtoms (seqSys zql hJ hC (zqa (zq6 cb z N) (zq32 kb)) (λ_=>none) 0 1 ⟨(l,c),λ_ _=>none⟩ w ((doP N op:Proc (List Int×Unit) Ans).run ((zqa (zq6 cb z N) (zq32 kb)).st (l,c)))) (.iface 37 (.pointer (some ⟨kb,0,none⟩))):=zq3b _ (λ_ _ _ _=>trivial) (λ_ _ _=>trivial) hpos hle (step_cnt _ _ _ _ _);exact call_spec _ (pA:=addP N) (pS:=sumP N) (pT:=takeP N) (pM:=moveP N) (pE:=evenP N) (λa v=>(zq2r _ hat a v).spec) (sum_spec _ hat).spec (take_spec _ hat).spec (λa b v=>(move_spec _ hat a b v).spec) (even_spec _ hat).spec op
 · rintro a v X m' w' ⟨rfl,hl,rfl⟩ _ hL;obtain⟨n',g1,_,g3⟩:=hL.run;have hr:(doP N op:Proc (List Int×Unit) Ans).run ((zqa (zq6 cb z N) (zq32 kb)).st (l,c))=((doL N op l,()),some (doA N op l),doN N op l):=do_run N op l ();rw[hr]at g1 g3;simp only[Tree.run,Prod.mk.injEq]at g1;obtain⟨g1,g2,rfl⟩:=g1;have e1:a=doA N op l:=Option.some.inj g2;subst e1;have e2:m'.l.1=doL N op l:=congrArg Prod.fst g1;have e3:m'.l.2=c+doN N op l:=by
    have:m'.l.2+1*0=c+1*doN N op l:=g3;omega
   refine hq w' hl ⟨e2▸hL.rep.core.1,e3▸hL.rep.core.2.1,hL.size,λb hb h6 h7 h8=>hL.old b hb ?_⟩;rintro((h9|h9)|h9|h9)
   · exact h9.elim h6 h7
   · exact h8 h9
   · exact h9.elim λi h=>absurd rfl h
   · exact absurd rfl h9
end Go.Proofs
set_option maxHeartbeats 8000000
set_option maxRecDepth 100000
namespace Go.Proofs
open Go Go.Conc Go.RowKit Go.Car
open Go.ConcN (upd upd_ne upd_same)
def scCs:Bool->Ans->Array Value
 |true,a=>#[.bool a.ok,.int .i64 a.n,.slice none 0 0]
 |false,_=>#[.bool false,.int .i64 0,.slice none 0 0]
def scSp(K:Nat)(ops el:Value)(j:Int)(opv av:Value)(b11 b12:Nat):Nat->Value
 |0=>.pointer (some ⟨K+1,0,none⟩)
 |1=>ops
 |2=>.int .i64 j
 |3=>el
 |4=>opv
 |5=>av
 |6=>.pointer (some ⟨K+3,0,none⟩)
 |7=>.pointer (some ⟨K+4,0,none⟩)
 |8=>.iface 37 (.pointer (some ⟨K+4,0,none⟩))
 |9=>ops
 |10=>.int .i64 j
 |11=>el
 |12=>opv
 |13=>av
 |14=>.pointer (some ⟨b11,0,none⟩)
 |_=>.pointer (some ⟨b12,0,none⟩)
structure ScM(W:World)(K N:Nat)(l l':List Int)(c c':Nat)(a:Ans)(L:Nat->Bool)(b11 b12:Nat)(w:World):Prop where
 be:Beyond W w
 one:StrRep (K+1) (some K) N (if L 5=true then l' else l) w
 two:StrRep (K+3) (some (K+2)) N (if L 13=true then l' else l) w
 cnt:w.heap[K+4]?=some (.cells #[.int .i64 (wrap64 ((if L 13=true then c' else c:Nat):Int))] 39)
 lo:W.heap.size<=K/\K+5<=w.heap.size
 m11:L 14=true->K+5<=b11/\w.heap[b11]?=some (.cells (scCs (L 16) a) 43)
 m12:L 15=true->K+5<=b12/\w.heap[b12]?=some (.cells (scCs (L 17) a) 43)
 ne:L 14=true->L 15=true->b11≠b12
 d16:L 16=true->L 14=true
 d17:L 17=true->L 15=true
theorem zq22{L:Nat->Bool}{i a b:Nat}(h:L a=true->L b=true)(hi:i≠a)(x:upd L i true a=true):upd L i true b=true:=by
 by_cases e:b=i
 · subst e;exact upd_same _ _ _
 · rw[upd_ne _ _ (λy=>hi y.symm)]at x;rw[upd_ne _ _ e];exact h x
def ScW(W:World)(K N:Nat)(ops el:Value)(j:Int)(opv av:Value)(l l':List Int)(c c':Nat)(a:Ans)(L:Nat->Bool)(vals:List Value)(w:World):Prop:=
 ∃b11 b12,(∀i,i<16->L i=true->vals[i]?=some (scSp K ops el j opv av b11 b12 i))/\ScM W K N l l' c c' a L b11 b12 w
section
variable {W w w':World} {K N c c' b11 b12:Nat} {ops el opv av:Value} {j:Int} {l l':List Int} {a:Ans} {L:Nat->Bool} {vals:List Value}
theorem ScM.re (h:ScM W K N l l' c c' a L b11 b12 w)(τ:Nat->Question->Nat)(d:Nat):ScM W K N l l' c c' a L b11 b12 (Go.Car.re w τ d):=
 ⟨h.be.trans (Beyond.re _ _ _),(zq6 _ _ _).frame _ _ _ h.one λ_ _=>rfl,(zq6 _ _ _).frame _ _ _ h.two λ_ _=>rfl,h.cnt,h.lo,h.m11,h.m12,h.ne,h.d16,h.d17⟩
theorem ScW.re (h:ScW W K N ops el j opv av l l' c c' a L vals w)(τ:Nat->Question->Nat)(d:Nat):ScW W K N ops el j opv av l l' c c' a L vals (Go.Car.re w τ d):=by
 obtain⟨b11,b12,h1,h2⟩:=h;exact⟨b11,b12,h1,h2.re τ d⟩
theorem sc_set(hlen:vals.length=18)(hv:∀i,i<16->L i=true->vals[i]?=some (scSp K ops el j opv av b11 b12 i)){i:Nat}(hi:i<16){v:Value}{c9 c10:Nat}(hs:v=scSp K ops el j opv av c9 c10 i)(h9:i=14\/c9=b11)(h10:i=15\/c10=b12):
 ∀m,m<16->upd L i true m=true->(vals.set i v)[m]?=some (scSp K ops el j opv av c9 c10 m):=λm hm hl=>by
 by_cases e:m=i
 · subst e;rw[List.getElem?_set_self (by omega),hs]
 · rw[upd_ne _ _ e]at hl;rw[List.getElem?_set_ne (λe2=>e e2.symm),hv m hm hl];congr 1;rcases h9 with rfl |rfl
   · rcases h10 with h|rfl
     · omega
     · match m,e with
       |0,_=>rfl
       |1,_=>rfl
       |2,_=>rfl
       |3,_=>rfl
       |4,_=>rfl
       |5,_=>rfl
       |6,_=>rfl
       |7,_=>rfl
       |8,_=>rfl
       |9,_=>rfl
       |10,_=>rfl
       |11,_=>rfl
       |12,_=>rfl
       |13,_=>rfl
       |14,e=>exact absurd rfl e
       |15,_=>rfl
       |n+16,_=>rfl
   · rcases h10 with rfl |rfl
     · match m,e with
       |0,_=>rfl
       |1,_=>rfl
       |2,_=>rfl
       |3,_=>rfl
       |4,_=>rfl
       |5,_=>rfl
       |6,_=>rfl
       |7,_=>rfl
       |8,_=>rfl
       |9,_=>rfl
       |10,_=>rfl
       |11,_=>rfl
       |12,_=>rfl
       |13,_=>rfl
       |14,_=>rfl
       |15,e=>exact absurd rfl e
       |n+16,_=>exact absurd hm (by omega)
     · rfl
theorem ScW.read (hlen:vals.length=18)(hv:∀i,i<16->L i=true->vals[i]?=some (scSp K ops el j opv av b11 b12 i))(hM:ScM W K N l l' c c' a L b11 b12 w){i:Nat}(hi:i<16)(h5:i≠5)(h13:i≠13)(h14:i≠14)(h15:i≠15){v:Value}(hs:v=scSp K ops el j opv av b11 b12 i):ScW W K N ops el j opv av l l' c c' a (upd L i true) (vals.set i v) w:=by
 refine⟨b11,b12,sc_set hlen hv hi hs (.inr rfl) (.inr rfl),?_⟩;have e:∀m,m≠i->upd L i true m=L m:=λm hm=>upd_ne _ _ hm;refine⟨hM.be,?_,?_,?_,hM.lo,?_,?_,?_,λx=>?_,λx=>?_⟩
 · rw[e 5 (λx=>h5 x.symm)];exact hM.one
 · rw[e 13 (λx=>h13 x.symm)];exact hM.two
 · rw[e 13 (λx=>h13 x.symm)];exact hM.cnt
 · rw[e 14 (λx=>h14 x.symm),e 16 (by omega)];exact hM.m11
 · rw[e 15 (λx=>h15 x.symm),e 17 (by omega)];exact hM.m12
 · rw[e 14 (λx=>h14 x.symm),e 15 (λx=>h15 x.symm)];exact hM.ne
 · exact zq22 hM.d16 (by omega) x
 · exact zq22 hM.d17 (by omega) x
theorem ScW.call0 (hlen:vals.length=18)(hv:∀i,i<16->L i=true->vals[i]?=some (scSp K ops el j opv av b11 b12 i))(hM:ScM W K N l l' c c' a L b11 b12 w)(hL:L 5=false)(hA:StrAft (K+1) (some K) N l' w w'):ScW W K N ops el j opv av l l' c c' a (upd L 5 true) (vals.set 5 av) w':=by
 refine⟨b11,b12,sc_set hlen hv (by decide) rfl (.inr rfl) (.inr rfl),?_⟩;have e:∀m,m≠5->upd L 5 true m=L m:=λm hm=>upd_ne _ _ hm;have hlo:=hM.lo;have old:∀b,b<w.heap.size->b≠K+1->b≠K->w'.heap[b]?=w.heap[b]?:=λb hb hne hn2=>hA.old b hb hne (λe=>by injection e with e;exact hn2 e.symm);refine⟨⟨Nat.le_trans hM.be.1 hA.size,λb hb=>(old b (Nat.lt_of_lt_of_le hb hM.be.1) (by omega) (by omega)).trans (hM.be.2 b hb)⟩,?_,?_,?_,⟨hlo.1,Nat.le_trans hlo.2 hA.size⟩,?_,?_,?_,λx=>zq22 hM.d16 (by decide) x,λx=>zq22 hM.d17 (by decide) x⟩
 · rw[upd_same,if_pos rfl];exact hA.rep
 · rw[e 13 (by decide)];refine(zq6 _ _ _).frame _ _ _ hM.two λb hb=>old b ((zq6 _ _ _).lt _ _ _ hM.two hb) ?_ ?_
   all_goals
    rcases hb with rfl |hb
    · omega
    · injection hb with hb;omega
 · rw[e 13 (by decide)];exact(old _ (zq7 hM.cnt) (by omega) (by omega)).trans hM.cnt
 · rw[e 14 (by decide),e 16 (by decide)];intro h;obtain⟨h1,h2⟩:=hM.m11 h;exact⟨h1,(old b11 (zq7 h2) (by omega) (by omega)).trans h2⟩
 · rw[e 15 (by decide),e 17 (by decide)];intro h;obtain⟨h1,h2⟩:=hM.m12 h;exact⟨h1,(old b12 (zq7 h2) (by omega) (by omega)).trans h2⟩
 · rw[e 14 (by decide),e 15 (by decide)];exact hM.ne
theorem ScW.call1 (hlen:vals.length=18)(hv:∀i,i<16->L i=true->vals[i]?=some (scSp K ops el j opv av b11 b12 i))(hM:ScM W K N l l' c c' a L b11 b12 w)(hL:L 13=false)(hA:StpAft (K+3) (K+4) (some (K+2)) N l' c' w w'):ScW W K N ops el j opv av l l' c c' a (upd L 13 true) (vals.set 13 av) w':=by
 refine⟨b11,b12,sc_set hlen hv (by decide) rfl (.inr rfl) (.inr rfl),?_⟩;have e:∀m,m≠13->upd L 13 true m=L m:=λm hm=>upd_ne _ _ hm;have hlo:=hM.lo;have old:∀b,b<w.heap.size->b≠K+3->b≠K+2->b≠K+4->w'.heap[b]?=w.heap[b]?:=λb hb hne hn2 hn4=>hA.old b hb hne (λe=>by injection e with e;exact hn2 e.symm) hn4;refine⟨⟨Nat.le_trans hM.be.1 hA.size,λb hb=>(old b (Nat.lt_of_lt_of_le hb hM.be.1) (by omega) (by omega) (by omega)).trans (hM.be.2 b hb)⟩,?_,?_,?_,⟨hlo.1,Nat.le_trans hlo.2 hA.size⟩,?_,?_,?_,λx=>zq22 hM.d16 (by decide) x,λx=>zq22 hM.d17 (by decide) x⟩
 · rw[e 5 (by decide)];refine(zq6 _ _ _).frame _ _ _ hM.one λb hb=>old b ((zq6 _ _ _).lt _ _ _ hM.one hb) ?_ ?_ ?_
   all_goals
    rcases hb with rfl |hb
    · omega
    · injection hb with hb;omega
 · rw[upd_same,if_pos rfl];exact hA.rep
 · rw[upd_same,if_pos rfl];exact hA.cnt
 · rw[e 14 (by decide),e 16 (by decide)];intro h;obtain⟨h1,h2⟩:=hM.m11 h;exact⟨h1,(old b11 (zq7 h2) (by omega) (by omega) (by omega)).trans h2⟩
 · rw[e 15 (by decide),e 17 (by decide)];intro h;obtain⟨h1,h2⟩:=hM.m12 h;exact⟨h1,(old b12 (zq7 h2) (by omega) (by omega) (by omega)).trans h2⟩
 · rw[e 14 (by decide),e 15 (by decide)];exact hM.ne
theorem ScW.new11 (hlen:vals.length=18)(hv:∀i,i<16->L i=true->vals[i]?=some (scSp K ops el j opv av b11 b12 i))(hM:ScM W K N l l' c c' a L b11 b12 w)(hL:L 14=false)(h16:L 16=false):ScW W K N ops el j opv av l l' c c' a (upd L 14 true) (vals.set 14 (.pointer (some ⟨w.heap.size,0,none⟩))) (w.alloc (.cells #[.bool false,.int .i64 0,.slice none 0 0] 43)):=by
 refine⟨w.heap.size,b12,sc_set hlen hv (by decide) rfl (.inl rfl) (.inr rfl),?_⟩;have e:∀m,m≠14->upd L 14 true m=L m:=λm hm=>upd_ne _ _ hm;have hlo:=hM.lo;have hb:=Beyond.alloc w (.cells #[.bool false,.int .i64 0,.slice none 0 0] 43);refine⟨hM.be.trans hb,?_,?_,?_,⟨hlo.1,Nat.le_trans hlo.2 hb.1⟩,λ_=>⟨hlo.2,?_⟩,?_,?_,λx=>zq22 hM.d16 (by decide) x,λx=>zq22 hM.d17 (by decide) x⟩
 · rw[e 5 (by decide)];exact(zq6 _ _ _).frame _ _ _ hM.one λb h=>hb.2 b ((zq6 _ _ _).lt _ _ _ hM.one h)
 · rw[e 13 (by decide)];exact(zq6 _ _ _).frame _ _ _ hM.two λb h=>hb.2 b ((zq6 _ _ _).lt _ _ _ hM.two h)
 · rw[e 13 (by decide)];exact hb.heap hM.cnt
 · rw[e 16 (by decide),h16];exact zqr _ _
 · rw[e 15 (by decide),e 17 (by decide)];intro h;obtain⟨h1,h2⟩:=hM.m12 h;exact⟨h1,hb.heap h2⟩
 · rw[e 15 (by decide)];intro _ h;obtain⟨h1,h2⟩:=hM.m12 h;have:=zq7 h2;omega
theorem ScW.new12 (hlen:vals.length=18)(hv:∀i,i<16->L i=true->vals[i]?=some (scSp K ops el j opv av b11 b12 i))(hM:ScM W K N l l' c c' a L b11 b12 w)(hL:L 15=false)(h17:L 17=false):ScW W K N ops el j opv av l l' c c' a (upd L 15 true) (vals.set 15 (.pointer (some ⟨w.heap.size,0,none⟩))) (w.alloc (.cells #[.bool false,.int .i64 0,.slice none 0 0] 43)):=by
 refine⟨b11,w.heap.size,sc_set hlen hv (by decide) rfl (.inr rfl) (.inl rfl),?_⟩;have e:∀m,m≠15->upd L 15 true m=L m:=λm hm=>upd_ne _ _ hm;have hlo:=hM.lo;have hb:=Beyond.alloc w (.cells #[.bool false,.int .i64 0,.slice none 0 0] 43);refine⟨hM.be.trans hb,?_,?_,?_,⟨hlo.1,Nat.le_trans hlo.2 hb.1⟩,?_,λ_=>⟨hlo.2,?_⟩,?_,λx=>zq22 hM.d16 (by decide) x,λx=>zq22 hM.d17 (by decide) x⟩
 · rw[e 5 (by decide)];exact(zq6 _ _ _).frame _ _ _ hM.one λb h=>hb.2 b ((zq6 _ _ _).lt _ _ _ hM.one h)
 · rw[e 13 (by decide)];exact(zq6 _ _ _).frame _ _ _ hM.two λb h=>hb.2 b ((zq6 _ _ _).lt _ _ _ hM.two h)
 · rw[e 13 (by decide)];exact hb.heap hM.cnt
 · rw[e 14 (by decide),e 16 (by decide)];intro h;obtain⟨h1,h2⟩:=hM.m11 h;exact⟨h1,hb.heap h2⟩
 · rw[e 17 (by decide),h17];exact zqr _ _
 · rw[e 14 (by decide)];intro h _;obtain⟨h1,h2⟩:=hM.m11 h;have:=zq7 h2;omega
theorem ScW.put (hlen:vals.length=18)(hv:∀i,i<16->L i=true->vals[i]?=some (scSp K ops el j opv av b11 b12 i))(hM:ScM W K N l l' c c' a L b11 b12 w){i bb:Nat}(hi:(i=16/\bb=b11/\L 14=true)\/(i=17/\bb=b12/\L 15=true))(hL:L i=false):
 ScW W K N ops el j opv av l l' c c' a (upd L i true) vals (((w.setCell ⟨bb,0,none⟩ (.bool a.ok)).setCell ⟨bb,1,none⟩ (.int .i64 a.n)).setCell ⟨bb,2,none⟩ (.slice none 0 0)):=by
 refine⟨b11,b12,λm hm hl=>hv m hm (by rwa [upd_ne _ _ (by omega)]at hl),?_⟩;have e:∀m,m≠i->upd L i true m=L m:=λm hm=>upd_ne _ _ hm;have hlo:=hM.lo;have hbb:K+5<=bb/\w.heap[bb]?=some (.cells #[.bool false,.int .i64 0,.slice none 0 0] 43):=by
  rcases hi with⟨rfl,rfl,h⟩|⟨rfl,rfl,h⟩
  · obtain⟨h1,h2⟩:=hM.m11 h;rw[hL]at h2;exact⟨h1,h2⟩
  · obtain⟨h1,h2⟩:=hM.m12 h;rw[hL]at h2;exact⟨h1,h2⟩
 have old:∀b,b≠bb->(((w.setCell ⟨bb,0,none⟩ (.bool a.ok)).setCell ⟨bb,1,none⟩ (.int .i64 a.n)).setCell ⟨bb,2,none⟩ (.slice none 0 0)).heap[b]?=w.heap[b]?:=λb hb=>by
  rw[zq4 _ _ _ _ hb,zq4 _ _ _ _ hb,zq4 _ _ _ _ hb]
 have hsz:(((w.setCell ⟨bb,0,none⟩ (.bool a.ok)).setCell ⟨bb,1,none⟩ (.int .i64 a.n)).setCell ⟨bb,2,none⟩ (.slice none 0 0)).heap.size=w.heap.size:=by simp only[zqq]
 have new:(((w.setCell ⟨bb,0,none⟩ (.bool a.ok)).setCell ⟨bb,1,none⟩ (.int .i64 a.n)).setCell ⟨bb,2,none⟩ (.slice none 0 0)).heap[bb]?=some (.cells (scCs true a) 43):=
  zqb _ _ _ _ (zqb _ _ _ _ (zqb _ _ _ _ hbb.2))
 refine⟨⟨by rw[hsz];exact hM.be.1,λb hb=>(old b (by omega)).trans (hM.be.2 b hb)⟩,?_,?_,?_,⟨hlo.1,by rw[hsz];exact hlo.2⟩,?_,?_,?_,λx=>?_,λx=>?_⟩
 · rw[e 5 (by omega)];refine(zq6 _ _ _).frame _ _ _ hM.one λb h=>old b ?_;rcases h with rfl |h
   · omega
   · injection h with h;omega
 · rw[e 13 (by omega)];refine(zq6 _ _ _).frame _ _ _ hM.two λb h=>old b ?_;rcases h with rfl |h
   · omega
   · injection h with h;omega
 · rw[e 13 (by omega)];exact(old _ (by omega)).trans hM.cnt
 · rw[e 14 (by omega)];intro h;obtain⟨h1,h2⟩:=hM.m11 h;refine⟨h1,?_⟩;rcases hi with⟨rfl,rfl,h3⟩|⟨rfl,rfl,h3⟩
   · rw[upd_same];exact new
   · rw[e 16 (by decide),old _ (hM.ne h h3)];exact h2
 · rw[e 15 (by omega)];intro h;obtain⟨h1,h2⟩:=hM.m12 h;refine⟨h1,?_⟩;rcases hi with⟨rfl,rfl,h3⟩|⟨rfl,rfl,h3⟩
   · rw[e 17 (by decide),old _ (λx=>hM.ne h3 h x.symm)];exact h2
   · rw[upd_same];exact new
 · rw[e 14 (by omega),e 15 (by omega)];exact hM.ne
 · rcases hi with⟨rfl,_,h3⟩|⟨rfl,_,h3⟩
   · rw[e 14 (by decide)];exact h3
   · exact zq22 hM.d16 (by decide) x
 · rcases hi with⟨rfl,_,h3⟩|⟨rfl,_,h3⟩
   · exact zq22 hM.d17 (by decide) x
   · rw[e 15 (by decide)];exact h3
end
structure ScF(K Wb n:Nat)(st:Int)(ops:Value)(T:Array Value):Prop where
 sz:T.size=134
 t0:T[0]?=some (.int .i64 st)
 t1:T[1]?=some ops
 t4:T[4]?=some (.bool false)
 t5:T[5]?=some (.int .i64 n)
 t6:T[6]?=some (.pointer (some ⟨Wb,0,none⟩))
 t7:T[7]?=some (.pointer (some ⟨K+1,0,none⟩))
 t8:T[8]?=some (.pointer (some ⟨K+3,0,none⟩))
 t9:T[9]?=some (.pointer (some ⟨K+4,0,none⟩))
def cqL:Code->Code
 |.seq a _=>a
 |_=>.skip
def cqR:Code->Code
 |.seq _ b=>b
 |_=>.skip
def cqB:Code->Code
 |.block _ c=>c
 |_=>.skip
def cqO:Code->Code
 |.loop c=>c
 |_=>.skip
noncomputable def scT(n:Nat):Code:=tailN n (Try.f4.body.getD .skip)
theorem sc0:Try.f4.body.getD .skip=.seq (headC (scT 0)) (.seq (headC (scT 1)) (.seq (headC (scT 2)) (.seq (headC (scT 3)) (.seq (headC (scT 4)) (.seq (headC (scT 5)) (.seq (headC (scT 6)) (scT 7))))))):=by kernel_rfl
noncomputable def scB:Code:=cqO (cqB (cqR (headC (scT 6))))
noncomputable def scI:Code:=cqB (cqL (cqR scB))
noncomputable def scR:Array Oper:=match cqL scI with
 |.region _ o _=>o
 |_=>#[]
theorem scR0:cqL scI=.region 11 scR true:=by kernel_rfl
theorem sc_draw{Fin:Machine->Trace->Prop}(hFin:Back Try.prog Fin){s:Nat}{W:World}{K N c g go Lo C j Wb n:Nat}{st:Int}{l:List Int}{op:OpX}{T₀:Array Value}(hF:ScF K Wb n st (.slice (some ⟨g,go,none⟩) Lo C) T₀)(h10:T₀[10]?=some (.int .i64 j))
 (HO:RowKit.Hid (j<Lo/\Lo<=4611686018427387904/\∀w',Beyond W w'->∀i x,op.cells[i]?=some x->w'.cell? ⟨g,go+j*4+i,none⟩=some x)):
 ∀(L:Nat->Bool)(vals:List Value)(T:Array Value)(w:World)(i:Nat)(o:Oper),vals.length=scR.size->ScW W K N (.slice (some ⟨g,go,none⟩) Lo C) (.pointer (some ⟨g,go+j*4,none⟩)) (j:Int) op.val (ansPV (doA N op l)) l (doL N op l) c (c+doN N op l) (doA N op l) L vals w->L i=false->scR[i]?=some o->(∀e∈o.after,Region.binds .any e=true->L e.on=true)->
  (∀j t,dstOf scR j=some t->L j=true->T[t]?=vals[j]?)->(∀t,noD scR t=true->T[t]?=T₀[t]?)->
  DrawS Try.prog (J0 Try.prog Fin) s T o w (λv w'=>ScW W K N (.slice (some ⟨g,go,none⟩) Lo C) (.pointer (some ⟨g,go+j*4,none⟩)) (j:Int) op.val (ansPV (doA N op l)) l (doL N op l) c (c+doN N op l) (doA N op l) (upd L i true) (vals.set i v) w') (λw'=>ScW W K N (.slice (some ⟨g,go,none⟩) Lo C) (.pointer (some ⟨g,go+j*4,none⟩)) (j:Int) op.val (ansPV (doA N op l)) l (doL N op l) c (c+doN N op l) (doA N op l) (upd L i true) vals w'):=by
 rintro L vals T w i o hlen ⟨b11,b12,hv,hM⟩ hLi ho hdep hT hT0;have hi:i<18:=(Array.getElem?_eq_some_iff.1 ho).1;replace hlen:vals.length=18:=hlen;obtain⟨u3,hu3⟩:∃c,scR=c:=⟨_,rfl⟩;have eu3:=hu3;simp only[scR,scI,scB,cqL,cqR,cqB,cqO,scT,headC,tailN,Try.f4,al_od]at eu3;rw[hu3,←eu3]at ho;clear eu3 hu3;obtain rfl |rfl |rfl |rfl |rfl |rfl |rfl |rfl |rfl |rfl |rfl |rfl |rfl |rfl |rfl |rfl |rfl |rfl:i=0\/i=1\/i=2\/i=3\/i=4\/i=5\/i=6\/i=7\/i=8\/i=9\/i=10\/i=11\/i=12\/i=13\/i=14\/i=15\/i=16\/i=17:=by omega
 ·
  simp only[al_gl,al_g0,al_g1,al_oi]at ho;subst ho;have e7:T[7]?=some (.pointer (some ⟨K+1,0,none⟩)):=(hT0 7 (by kernel_rfl)).trans hF.t7;refine .inl ⟨rfl,.inl ⟨58,.pointer (some ⟨K+1,0,none⟩),w,rfl,?_,ScW.read hlen hv hM (i:=0) (by decide) (by decide) (by decide) (by decide) (by decide) rfl⟩⟩;simp only[execOp,Act.eval,al_gd,e7,al_od];go_simp
 ·
  simp only[al_gl,al_g0,al_g1,al_oi]at ho;subst ho;have e1:T[1]?=some (.slice (some ⟨g,go,none⟩) Lo C):=(hT0 1 (by kernel_rfl)).trans hF.t1;refine .inl ⟨rfl,.inl ⟨59,.slice (some ⟨g,go,none⟩) Lo C,w,rfl,?_,ScW.read hlen hv hM (i:=1) (by decide) (by decide) (by decide) (by decide) (by decide) rfl⟩⟩;simp only[execOp,Act.eval,al_gd,e1,al_od];go_simp
 ·
  simp only[al_gl,al_g0,al_g1,al_oi]at ho;subst ho;have e10:T[10]?=some (.int .i64 j):=(hT0 10 (by kernel_rfl)).trans h10;refine .inl ⟨rfl,.inl ⟨60,.int .i64 j,w,rfl,?_,ScW.read hlen hv hM (i:=2) (by decide) (by decide) (by decide) (by decide) (by decide) rfl⟩⟩;simp only[execOp,Act.eval,al_gd,e10,al_od];go_simp
 ·
  simp only[al_gl,al_g0,al_g1,al_oi]at ho;subst ho;have hlt':(j:Int)<(Lo:Int):=by have:=HO.out.1;omega
  have hj0:(0:Int)<=j:=by omega
  have e59:T[59]?=some (.slice (some ⟨g,go,none⟩) Lo C):=(hT 1 59 rfl (hdep ⟨1,.data⟩ (by simp) rfl)).trans (hv 1 (by decide) (hdep ⟨1,.data⟩ (by simp) rfl));have e60:T[60]?=some (.int .i64 j):=(hT 2 60 rfl (hdep ⟨2,.data⟩ (by simp) rfl)).trans (hv 2 (by decide) (hdep ⟨2,.data⟩ (by simp) rfl));refine .inl ⟨rfl,.inl ⟨61,.pointer (some ⟨g,go+j*4,none⟩),w,rfl,?_,ScW.read hlen hv hM (i:=3) (by decide) (by decide) (by decide) (by decide) (by decide) rfl⟩⟩;simp only[execOp,Act.eval,al_gd,e59,e60,al_od];go_simp
 ·
  simp only[al_gl,al_g0,al_g1,al_oi]at ho;subst ho;have k0:w.cell? ⟨g,go+j*4,none⟩=some (.int .i64 op.k):=HO.out.2.2 w hM.be 0 _ rfl;have k1:w.cell? ⟨g,go+j*4+1,none⟩=some (.int .i64 op.a):=HO.out.2.2 w hM.be 1 _ rfl;have k2:w.cell? ⟨g,go+j*4+2,none⟩=some (.int .i64 op.b):=HO.out.2.2 w hM.be 2 _ rfl;have k3:w.cell? ⟨g,go+j*4+3,none⟩=some (.int .i64 op.c):=HO.out.2.2 w hM.be 3 _ rfl;have e61:T[61]?=some (.pointer (some ⟨g,go+j*4,none⟩)):=(hT 3 61 rfl (hdep ⟨3,.data⟩ (by simp) rfl)).trans (hv 3 (by decide) (hdep ⟨3,.data⟩ (by simp) rfl));refine .inl ⟨rfl,.inl ⟨62,op.val,w,rfl,?_,ScW.read hlen hv hM (i:=4) (by decide) (by decide) (by decide) (by decide) (by decide) rfl⟩⟩;simp only[execOp,Act.eval,al_gd,e61,al_od];go_simp;rfl
 ·
  simp only[al_gl,al_g0,al_g1,al_oi]at ho;subst ho;have e58:T[58]?=some (.pointer (some ⟨K+1,0,none⟩)):=(hT 0 58 rfl (hdep ⟨0,.data⟩ (by simp) rfl)).trans (hv 0 (by decide) (hdep ⟨0,.data⟩ (by simp) rfl));have e62:T[62]?=some (op.val):=(hT 4 62 rfl (hdep ⟨4,.data⟩ (by simp) rfl)).trans (hv 4 (by decide) (hdep ⟨4,.data⟩ (by simp) rfl));refine .inr ⟨63,14,#[.pointer (some ⟨K+1,0,none⟩),.nilIface,op.val],rfl,λw=>?_,λw=>?_,?_⟩
  · simp only[execOp,Act.eval,al_gd,e58,e62,al_od,List.map_toArray,List.map_cons,List.map_nil];simp[go_sem,execOp,Act.eval,resolve,Deferred.ofValue,invoke,callFunc,Try.func14,Try.f14,e58,e62]
  · simp only[execOp,Act.eval,al_gd,e58,e62,al_od,List.map_toArray,List.map_cons,List.map_nil];simp[go_sem,execOp,Act.eval,resolve,Deferred.ofValue,invoke,callFunc,Try.func14,Try.f14,e58,e62]
  · intro cl cs' h1 _;have hz:=hM.one;rw[if_neg (by rw[hLi];decide)]at hz;refine call_cntJ hFin op hz ?_;intro w' _ hA;exact h1 s _ w' ⟨rfl,_,rfl,ScW.call0 hlen hv hM hLi hA⟩
 ·
  simp only[al_gl,al_g0,al_g1,al_oi]at ho;subst ho;have e8:T[8]?=some (.pointer (some ⟨K+3,0,none⟩)):=(hT0 8 (by kernel_rfl)).trans hF.t8;refine .inl ⟨rfl,.inl ⟨64,.pointer (some ⟨K+3,0,none⟩),w,rfl,?_,ScW.read hlen hv hM (i:=6) (by decide) (by decide) (by decide) (by decide) (by decide) rfl⟩⟩;simp only[execOp,Act.eval,al_gd,e8,al_od];go_simp
 ·
  simp only[al_gl,al_g0,al_g1,al_oi]at ho;subst ho;have e9:T[9]?=some (.pointer (some ⟨K+4,0,none⟩)):=(hT0 9 (by kernel_rfl)).trans hF.t9;refine .inl ⟨rfl,.inl ⟨65,.pointer (some ⟨K+4,0,none⟩),w,rfl,?_,ScW.read hlen hv hM (i:=7) (by decide) (by decide) (by decide) (by decide) (by decide) rfl⟩⟩;simp only[execOp,Act.eval,al_gd,e9,al_od];go_simp
 ·
  simp only[al_gl,al_g0,al_g1,al_oi]at ho;subst ho;have e65:T[65]?=some (.pointer (some ⟨K+4,0,none⟩)):=(hT 7 65 rfl (hdep ⟨7,.data⟩ (by simp) rfl)).trans (hv 7 (by decide) (hdep ⟨7,.data⟩ (by simp) rfl));refine .inl ⟨rfl,.inl ⟨66,.iface 37 (.pointer (some ⟨K+4,0,none⟩)),w,rfl,?_,ScW.read hlen hv hM (i:=8) (by decide) (by decide) (by decide) (by decide) (by decide) rfl⟩⟩;simp only[execOp,Act.eval,al_gd,e65,al_od];go_simp
 ·
  simp only[al_gl,al_g0,al_g1,al_oi]at ho;subst ho;have e1:T[1]?=some (.slice (some ⟨g,go,none⟩) Lo C):=(hT0 1 (by kernel_rfl)).trans hF.t1;refine .inl ⟨rfl,.inl ⟨67,.slice (some ⟨g,go,none⟩) Lo C,w,rfl,?_,ScW.read hlen hv hM (i:=9) (by decide) (by decide) (by decide) (by decide) (by decide) rfl⟩⟩;simp only[execOp,Act.eval,al_gd,e1,al_od];go_simp
 ·
  simp only[al_gl,al_g0,al_g1,al_oi]at ho;subst ho;have e10:T[10]?=some (.int .i64 j):=(hT0 10 (by kernel_rfl)).trans h10;refine .inl ⟨rfl,.inl ⟨68,.int .i64 j,w,rfl,?_,ScW.read hlen hv hM (i:=10) (by decide) (by decide) (by decide) (by decide) (by decide) rfl⟩⟩;simp only[execOp,Act.eval,al_gd,e10,al_od];go_simp
 ·
  simp only[al_gl,al_g0,al_g1,al_oi]at ho;subst ho;have hlt':(j:Int)<(Lo:Int):=by have:=HO.out.1;omega
  have hj0:(0:Int)<=j:=by omega
  have e67:T[67]?=some (.slice (some ⟨g,go,none⟩) Lo C):=(hT 9 67 rfl (hdep ⟨9,.data⟩ (by simp) rfl)).trans (hv 9 (by decide) (hdep ⟨9,.data⟩ (by simp) rfl));have e68:T[68]?=some (.int .i64 j):=(hT 10 68 rfl (hdep ⟨10,.data⟩ (by simp) rfl)).trans (hv 10 (by decide) (hdep ⟨10,.data⟩ (by simp) rfl));refine .inl ⟨rfl,.inl ⟨69,.pointer (some ⟨g,go+j*4,none⟩),w,rfl,?_,ScW.read hlen hv hM (i:=11) (by decide) (by decide) (by decide) (by decide) (by decide) rfl⟩⟩;simp only[execOp,Act.eval,al_gd,e67,e68,al_od];go_simp
 ·
  simp only[al_gl,al_g0,al_g1,al_oi]at ho;subst ho;have k0:w.cell? ⟨g,go+j*4,none⟩=some (.int .i64 op.k):=HO.out.2.2 w hM.be 0 _ rfl;have k1:w.cell? ⟨g,go+j*4+1,none⟩=some (.int .i64 op.a):=HO.out.2.2 w hM.be 1 _ rfl;have k2:w.cell? ⟨g,go+j*4+2,none⟩=some (.int .i64 op.b):=HO.out.2.2 w hM.be 2 _ rfl;have k3:w.cell? ⟨g,go+j*4+3,none⟩=some (.int .i64 op.c):=HO.out.2.2 w hM.be 3 _ rfl;have e69:T[69]?=some (.pointer (some ⟨g,go+j*4,none⟩)):=(hT 11 69 rfl (hdep ⟨11,.data⟩ (by simp) rfl)).trans (hv 11 (by decide) (hdep ⟨11,.data⟩ (by simp) rfl));refine .inl ⟨rfl,.inl ⟨70,op.val,w,rfl,?_,ScW.read hlen hv hM (i:=12) (by decide) (by decide) (by decide) (by decide) (by decide) rfl⟩⟩;simp only[execOp,Act.eval,al_gd,e69,al_od];go_simp;rfl
 ·
  simp only[al_gl,al_g0,al_g1,al_oi]at ho;subst ho;have e64:T[64]?=some (.pointer (some ⟨K+3,0,none⟩)):=(hT 6 64 rfl (hdep ⟨6,.data⟩ (by simp) rfl)).trans (hv 6 (by decide) (hdep ⟨6,.data⟩ (by simp) rfl));have e66:T[66]?=some (.iface 37 (.pointer (some ⟨K+4,0,none⟩))):=(hT 8 66 rfl (hdep ⟨8,.data⟩ (by simp) rfl)).trans (hv 8 (by decide) (hdep ⟨8,.data⟩ (by simp) rfl));have e70:T[70]?=some (op.val):=(hT 12 70 rfl (hdep ⟨12,.data⟩ (by simp) rfl)).trans (hv 12 (by decide) (hdep ⟨12,.data⟩ (by simp) rfl));refine .inr ⟨71,14,#[.pointer (some ⟨K+3,0,none⟩),.iface 37 (.pointer (some ⟨K+4,0,none⟩)),op.val],rfl,λw=>?_,λw=>?_,?_⟩
  · simp only[execOp,Act.eval,al_gd,e64,e66,e70,al_od,List.map_toArray,List.map_cons,List.map_nil];simp[go_sem,execOp,Act.eval,resolve,Deferred.ofValue,invoke,callFunc,Try.func14,Try.f14,e64,e66,e70]
  · simp only[execOp,Act.eval,al_gd,e64,e66,e70,al_od,List.map_toArray,List.map_cons,List.map_nil];simp[go_sem,execOp,Act.eval,resolve,Deferred.ofValue,invoke,callFunc,Try.func14,Try.f14,e64,e66,e70]
  · intro cl cs' h1 _;have hz:=hM.two;have hk:=hM.cnt;rw[if_neg (by rw[hLi];decide)]at hz hk;refine call_stpJ hFin op hz hk (by omega) (by intro e;injection e with e;omega) ?_;intro w' _ hA;exact h1 s _ w' ⟨rfl,_,rfl,ScW.call1 hlen hv hM hLi hA⟩
 ·
  simp only[al_gl,al_g0,al_g1,al_oi]at ho;subst ho;have h16:L 16=false:=by
   cases h:L 16 with
   |false=>rfl
   |true=>exact absurd (hM.d16 h) (by rw[hLi];decide)
  refine .inl ⟨rfl,.inl ⟨11,_,_,rfl,?_,ScW.new11 hlen hv hM hLi h16⟩⟩;simp only[execOp,Act.eval];go_simp
 ·
  simp only[al_gl,al_g0,al_g1,al_oi]at ho;subst ho;have h17:L 17=false:=by
   cases h:L 17 with
   |false=>rfl
   |true=>exact absurd (hM.d17 h) (by rw[hLi];decide)
  refine .inl ⟨rfl,.inl ⟨12,_,_,rfl,?_,ScW.new12 hlen hv hM hLi h17⟩⟩;simp only[execOp,Act.eval];go_simp
 ·
  simp only[al_gl,al_g0,al_g1,al_oi]at ho;subst ho;have hp:L 14=true:=(hdep ⟨14,.data⟩ (by simp) rfl);have hq:L 5=true:=(hdep ⟨5,.data⟩ (by simp) rfl);have e11:T[11]?=some (.pointer (some ⟨b11,0,none⟩)):=(hT 14 11 rfl hp).trans (hv 14 (by decide) hp);have e63:T[63]?=some (ansPV (doA N op l)):=(hT 5 63 rfl hq).trans (hv 5 (by decide) hq);have m:=(hM.m11 hp).2;rw[hLi]at m;replace m:w.heap[b11]?=some (.cells #[.bool false,.int .i64 0,.slice none 0 0] 43):=m;have z0:=zq3 (off:=0) m;have z1:=zq3 (off:=1) m;have z2:=zq3 (off:=2) m;have c0:=(zq0 (off:=0) m).trans rfl;have c1:=(zq0 (off:=1) m).trans rfl;have c2:=(zq0 (off:=2) m).trans rfl;refine .inl ⟨rfl,.inr ⟨rfl,_,?_,ScW.put hlen hv hM (.inl ⟨rfl,rfl,hp⟩) hLi⟩⟩;simp only[execOp,Act.eval,al_gd,e11,e63,al_od,ansPV];go_simp
 ·
  simp only[al_gl,al_g0,al_g1,al_oi]at ho;subst ho;have hp:L 15=true:=(hdep ⟨15,.data⟩ (by simp) rfl);have hq:L 13=true:=(hdep ⟨13,.data⟩ (by simp) rfl);have e12:T[12]?=some (.pointer (some ⟨b12,0,none⟩)):=(hT 15 12 rfl hp).trans (hv 15 (by decide) hp);have e71:T[71]?=some (ansPV (doA N op l)):=(hT 13 71 rfl hq).trans (hv 13 (by decide) hq);have m:=(hM.m12 hp).2;rw[hLi]at m;replace m:w.heap[b12]?=some (.cells #[.bool false,.int .i64 0,.slice none 0 0] 43):=m;have z0:=zq3 (off:=0) m;have z1:=zq3 (off:=1) m;have z2:=zq3 (off:=2) m;have c0:=(zq0 (off:=0) m).trans rfl;have c1:=(zq0 (off:=1) m).trans rfl;have c2:=(zq0 (off:=2) m).trans rfl;refine .inl ⟨rfl,.inr ⟨rfl,_,?_,ScW.put hlen hv hM (.inr ⟨rfl,rfl,hp⟩) hLi⟩⟩;simp only[execOp,Act.eval,al_gd,e12,e71,al_od,ansPV];go_simp
end Go.Proofs
