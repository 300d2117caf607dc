/- YtmgmbciplfkddaaEPlays2: part 15 of the proof (the texts behind it, in order). -/
import Derived.Test.YtmgmbciplfkddaaE14
set_option maxHeartbeats 4000000
set_option maxRecDepth 100000
set_option linter.all false
namespace Go.Proofs
open Go Go.Conc Go.RowKit Go.Car
section
variable {G:Nat->Option Obj} {B rb gm gM N n k m:Nat} {lv ev:Value} {opv:Nat->Value} {ops:Nat->List OpX} {C:EpS} {T:Nat->RTh} {hv ov cp:Nat->Value} {tb:Nat->Nat} {lvs:Nat->List Value} {w w5:World}
theorem PlE.pushL (h:PlE G B rb gm gM N n k m lv ev opv ops C T hv ov cp tb lvs w){o:Obj}{lv':Value}(hg:(w.alloc o).grownBy w5 lv.ownBlock)(hr:w5.ownsRow B 100 1 lv' (k+1) (thrL tb k++[.pointer (some ⟨tb k,0,none⟩)])):PlE G B rb gm gM N n (k+1) m lv' ev opv ops C T hv ov cp tb lvs w5/\HeldE B w w5:=by
 have kp:∀b,b<w.heap.size->lv.ownBlock≠some b->w5.heap[b]?=w.heap[b]?:=λb hb hn=>by rw[hg.block b (by rw[zq3];omega) (λe=>hn e.symm),zq5,if_neg (by omega)]
 have hh:HeldE B w w5:=⟨by have:=hg.size;rw[zq3]at this;omega,λb hb hs=>kp b hs λe=>by have:=(own_lt h.lrow e).2.1;omega⟩;refine⟨h.keepM (KeepM.grown h.lrow hg (by decide)) hh (by rw[zqlt];exact hr) (zqj h.erow λg hg'=>?_),hh⟩;obtain⟨⟨c,hc⟩,_,hl⟩:=own_lt h.erow hg';exact kp g hl (zqx h.lrow hc (by decide))
theorem PlE.pushE (h:PlE G B rb gm gM N n k m lv ev opv ops C T hv ov cp tb lvs w){o:Obj}{ev':Value}(hg:(w.alloc o).grownBy w5 ev.ownBlock)(hr:w5.ownsRow B 4 1 ev' (m+1) (enL T m++[.bool (T m).en])):PlE G B rb gm gM N n k (m+1) lv ev' opv ops C T hv ov cp tb lvs w5/\HeldE B w w5:=by
 have kp:∀b,b<w.heap.size->ev.ownBlock≠some b->w5.heap[b]?=w.heap[b]?:=λb hb hn=>by rw[hg.block b (by rw[zq3];omega) (λe=>hn e.symm),zq5,if_neg (by omega)]
 have hh:HeldE B w w5:=⟨by have:=hg.size;rw[zq3]at this;omega,λb hb hs=>kp b hs λe=>by have:=(own_lt h.erow e).2.1;omega⟩;refine⟨h.keepM (KeepM.grown h.erow hg (by decide)) hh (zqj h.lrow λg hg'=>?_) (by rw[enL_snoc];exact hr),hh⟩;obtain⟨⟨c,hc⟩,_,hl⟩:=own_lt h.lrow hg';exact kp g hl (zqx h.erow hc (by decide))
theorem PlE.zero (h:ERep (λ_=>False) G B rb gm gM N 0 opv ops C T hv ov cp tb lvs w)(hB:B<=w.heap.size):PlE G B rb gm gM N 0 0 0 (.slice none 0 0) (.slice none 0 0) opv ops C T hv ov cp tb lvs w:=
 ⟨h,World.ownsRow_nil _ _ _ _,World.ownsRow_nil _ _ _ _,λi hi=>absurd hi (Nat.not_lt_zero _),λi hi=>absurd hi (Nat.not_lt_zero _),hB⟩
theorem opsE_in{pp:Option Addr}{np:Nat}{tops:Nat->List OpX}{w0:World}(hT:ThrIn w0 pp np tops)(hB:w0.heap.size=B)(hh:HeldE B w0 w){i:Nat}(hi:i<np):∃pb po q Cq,pp=some ⟨pb,po,none⟩/\w.cell? ⟨pb,po+i,none⟩=some (.slice q (tops i).length Cq)/\(tops i).length<=Cq/\(q=none->Cq=0)/\∀C2,OpsE B w (.slice q (min (tops i).length 65536) C2) ((tops i).take 65536):=by
 obtain⟨pb,po,e,hc⟩:=hT (by omega);obtain⟨q,Cq,c1,⟨c2,c3⟩,c4⟩:=hc i hi;have kp:∀{a:Addr}{x:Value},w0.cell? a=some x->w.cell? a=some x:=λ{a x}h0=>(zqu (a:=a) (hh.old a.block (by rw[<-hB];exact cell_lt h0) (cell_lt h0))).trans h0
 refine⟨pb,po,q,Cq,e,kp c1,c2,c3,λC2=>⟨q,C2,by rw[List.length_take,Nat.min_comm],λk op hk=>?_⟩⟩;have hk2:(tops i)[k]?=some op:=by
  rw[List.getElem?_take]at hk;split at hk
  . exact hk
  . cases hk
 have hne:tops i≠[]:=λe=>by rw[e]at hk2;simp at hk2
 obtain⟨gb,go,e2,h6⟩:=c4 hne;have h7:=h6 k op hk2;refine⟨gb,go,e2,?_,?_,?_,?_,?_⟩
 . have:=cell_lt (show w0.cell? ⟨gb,go+k*4+0,none⟩=some (.int .i64 op.k)from h7 0 (by omega));rw[<-hB];exact this
 . exact kp (show w0.cell? ⟨gb,go+k*4+0,none⟩=some (.int .i64 op.k)from h7 0 (by omega))
 . exact kp (h7 1 (by omega))
 . exact kp (h7 2 (by omega))
 . exact kp (h7 3 (by omega))
structure BgE(B rb gm gM N j:Nat)(lv ev:Value)(opv:Nat->Value)(ops:Nat->List OpX)(C₀:EpS)(w0:World)(G:Nat->Option Obj)(C:EpS)(T:Nat->RTh)(hv ov cp:Nat->Value)(tb:Nat->Nat)(lvs:Nat->List Value)(w:World):Prop where
 p:PlE G B rb gm gM N j j j lv ev opv ops C T hv ov cp tb lvs w
 rel:RelQ (dopE N) (epC N) (OkE' N) QE j ops (zq16 (λi=>opsP i (dopE N i) (ops i)) (C₀,λ_=>[]) j) C T
 held:HeldE B w0 w
theorem zq5s{S:Type}(pr:Nat->Proc S Unit)(s:S):∀n,(zq16 pr s n).ord=[]
 |0=>rfl
 |n+1=>zq5s pr s n
end
def frA(H rb N np Cn:Nat)(pp:Option Addr)(sv:Value)(mo:Int)(v:Nat->Value):Array Value:=#[v 0,.slice pp np Cn,sv,.int .i64 mo,v 4,v 5,v 6,v 7,.pointer (some ⟨H,0,none⟩),.int .i64 N,.pointer (some ⟨rb,0,none⟩),v 11,v 12,v 13,v 14,v 15,v 16,v 17,v 18,v 19,v 20,v 21,v 22,v 23,v 24,v 25,v 26,v 27,v 28,v 29,v 30,v 31,v 32,v 33,v 34,v 35,v 36,v 37,v 38,v 39,v 40,v 41,v 42,v 43,v 44,v 45,v 46,v 47,v 48,v 49,v 50,v 51,v 52,v 53,v 54,v 55,v 56,v 57,v 58,v 59,v 60,v 61,v 62,v 63,v 64,v 65,v 66,v 67,v 68,v 69,v 70,v 71,v 72,v 73,v 74,v 75,v 76,v 77,v 78,v 79,v 80,v 81,v 82,v 83,v 84,v 85,v 86,v 87,v 88,v 89,v 90,v 91,v 92,v 93,v 94,v 95,v 96,v 97,v 98,v 99,v 100,v 101,v 102,v 103,v 104,v 105,v 106,v 107,v 108,v 109,v 110,v 111,v 112,v 113,v 114,v 115,v 116,v 117,v 118,v 119,v 120,v 121,v 122,v 123,v 124,v 125,v 126,v 127,v 128,v 129,v 130,v 131]
theorem eplay_a{R:Ending->World->Prop}{T0:Array Value}{H B rb gm gM N np Cn:Nat}{pp:Option Addr}{sv:Value}{mo:Int}{tops:Nat->List OpX}{l:List Int}{w0 w:World}{C₀:EpS}{G:Nat->Option Obj}{opv hv ov cp:Nat->Value}{tb:Nat->Nat}{lvs:Nat->List Value}
 (hT0:T0=frA H rb N np Cn pp sv mo (λi=>T0.getD i undef)) (hN:N<=64) (hNp:N<=np) (hTh:ThrIn w0 pp np tops) (htl:∀i,i<np->(tops i).length<=1099511627776) (hs:IntsAt w0 sv l) (hl:l.length<=1099511627776) (hB:w0.heap.size=B) (hH:H<B) (hres:w0.heap[H]?=some (.cells #[.slice none 0 0,.slice none 0 0,.slice none 0 0,.bool false] 29))
 (h:ERep (λ_=>False) G B rb gm gM N 0 opv (λi=>(tops i).take 65536) C₀ (λ_=>RTh.z) hv ov cp tb lvs w) (hh:HeldE B w0 w) (hq:∀i,(C₀.th i).length=0)
 (hR:∀v w',ERPost N (min mo.toNat 1048576) H (λi=>(tops i).take 65536) (playT (λi=>opsP i (opE N i) ((tops i).take 65536)) N (min mo.toNat 1048576) l (C₀,λ_=>[])) w0 v w'->R (.returned v) w'):
 Code.wp Try.prog (erpT 4) (bodyPost Try.prog Try.f10 R) ⟨T0,[]⟩ w:=by
 obtain⟨v,hv0⟩:∃v,T0=frA H rb N np Cn pp sv mo v:=⟨_,hT0⟩;clear hT0;subst hv0;unfold frA;obtain⟨ops,hops⟩:∃o,(λi=>(tops i).take 65536)=o:=⟨_,rfl⟩;have hopsi:∀i,ops i=(tops i).take 65536:=λi=>by rw[<-hops]
 have hopl:∀i,(ops i).length<=65536:=λi=>by rw[hopsi,List.length_take];omega
 have hI0:BgE B rb gm gM N 0 (.slice none 0 0) (.slice none 0 0) opv ops C₀ w0 G C₀ (λ_=>RTh.z) hv ov cp tb lvs w:=by
  rw[hops]at h;exact⟨PlE.zero h (Nat.le_trans (Nat.le_of_eq hB.symm) hh.size),RelQ.zero (dopE N) (epC N) (OkE' N) ops _ C₀ (λi=>Nat.le_of_eq (hq i)),hh⟩
 have HI:=Lib.hid (And.intro hTh (And.intro htl (And.intro hs (And.intro hB (And.intro hH (And.intro hres (And.intro hI0 (And.intro hopsi (And.intro hopl (And.intro hops hR))))))))));clear hTh htl hs hB hH hres h hh hq hR hI0 hopsi hopl;show Code.wp Try.prog (.seq (headC (erpT 4)) (.seq (headC (erpT 5)) (.seq (headC (erpT 6)) (.seq (headC (erpT 7)) (erpT 8))))) _ _ _;obtain⟨R8,hR8⟩:∃R,erpT 8=R:=⟨_,rfl⟩;rw[hR8];obtain⟨u_,hu_⟩:∃c,headC (erpT 4)=c:=⟨_,rfl⟩;have eu_:=hu_;rw[hu_];simp only[erpT,headC,tailN,Try.f10,al_od]at eu_;subst eu_;clear hu_;obtain⟨u_,hu_⟩:∃c,headC (erpT 5)=c:=⟨_,rfl⟩;have eu_:=hu_;rw[hu_];simp only[erpT,headC,tailN,Try.f10,al_od]at eu_;subst eu_;clear hu_;obtain⟨u_,hu_⟩:∃c,headC (erpT 6)=c:=⟨_,rfl⟩;have eu_:=hu_;rw[hu_];simp only[erpT,headC,tailN,Try.f10,al_od]at eu_;subst eu_;clear hu_;obtain⟨u_,hu_⟩:∃c,headC (erpT 7)=c:=⟨_,rfl⟩;have eu_:=hu_;rw[hu_];simp only[erpT,headC,tailN,Try.f10,al_od]at eu_;subst eu_;clear hu_;have HRR:=Lib.hid hR8;clear hR8
 go_wp2_with (fail)
 go_loopg [11,12,13] N (λk lv' ev' i wr=>∃(j:Nat)(lv ev:Value)(G:Nat->Option Obj)(opv:Nat->Value)(C:EpS)(T:Nat->RTh)(hv ov cp:Nat->Value)(tb:Nat->Nat)(lvs:Nat->List Value),lv=lv'/\ev=ev'/\k=N - j/\j<=N/\i=.int .i64 j/\BgE B rb gm gM N j lv ev opv ops C₀ w0 G C T hv ov cp tb lvs wr)
 case atStart=>exact⟨0,_,_,_,_,_,_,_,_,_,_,_,rfl,rfl,rfl,Nat.zero_le _,rfl,HI.out.2.2.2.2.2.2.1⟩
 case round=>
  obtain⟨j,lv,ev,G,opv,C,T,hv,ov,cp,tb,lvs,hlv,hev,hk,hj,rfl,hJ⟩:=hrel;subst hlv hev;have HJ:=Lib.hid hJ;clear hJ
  by_cases hlt:j<N
  . have hlt':(j:Int)<(N:Int):=by omega
    have hj0:(0:Int)<=j:=by omega
    have hjn:(j:Int)<(np:Int):=by omega
    obtain⟨pb,po,q,Cq,rfl,c1,c2,c3,hoE⟩:=opsE_in HI.out.1 HI.out.2.2.2.1 HJ.out.held (i:=j) (by omega);have hL:=HI.out.2.1 j (by omega);obtain⟨L0,hL0⟩:∃L,(tops j).length=L:=⟨_,rfl⟩;rw[hL0]at c1 c2 hL hoE;obtain⟨L,hLL⟩:∃L,min L0 65536=L:=⟨_,rfl⟩;rw[hLL,<-HI.out.2.2.2.2.2.2.2.1 j]at hoE;have HO:=Lib.hid hoE;have HLL:=Lib.hid hLL;have hz:T j=RTh.z:=(HJ.out.rel.rel.un j (Nat.le_refl _)).1;have HZ:=Lib.hid hz;clear hoE hL0 hz
    go_wp2_with (fail)
    refine Calls.mono (zqg2 q L0 Cq hL c2 c3 wr) ?_;rintro e w' ⟨C2,rfl,hww⟩;obtain rfl:=hww.symm;clear hww;rw[HLL.out];clear c1 c2 c3 hL HLL;obtain⟨tn,htn⟩:∃t,wr.heap.size=t:=⟨_,rfl⟩;have hP2:=HJ.out.p.add HZ.out (HO.out C2);rw[htn]at hP2;have hh2:HeldE B wr (wr.alloc (.cells #[.int .i64 j,.slice q L C2,.int .i64 0,.pointer none,.slice none 0 0] 103)):=⟨by rw[zq3];omega,λb _ hb=>by rw[zq5,if_neg (by omega)]⟩;obtain⟨ti,hti,hz0,hz1,hz2⟩:∃ti,Try.prog.info? 100=some ti/\ti.zero=some (.pointer none)/\ti.size=1/\ti.bytes=8:=⟨_,rfl,rfl,rfl,rfl⟩;have TI:=Lib.hid (And.intro hti (And.intro hz0 (And.intro hz1 hz2)));have HP2:=Lib.hid (And.intro hP2 (And.intro hh2 htn));clear hti hz0 hz1 hz2 hP2 hh2
    go_wp2_with (at_builtin;go_loud (refine wpList_append_lies _ rfl (.tmp 49) (.tmp 51) 98 rfl B 100 ti (.pointer none) 1 8 (by kernel_rfl) TI.out.1 TI.out.2.1 TI.out.2.2.1 TI.out.2.2.2 rfl (by decide) _ j (thrL (upd' tb j tn) j) rfl (zq1d HP2.out.1.lrow _) _ 1 1 [.pointer (some ⟨tn,0,none⟩)] rfl rfl (zq22 (by rw[zq3,HP2.out.2.2])) (by simp[Value.oneCell']) (by decide) (by simp only[maxLen];omega) (by omega) (by rw[zq3];exact Nat.le_succ_of_le HP2.out.1.be) _ rfl ?next))
    case next=>
     intro g1 cap1 w4 hown hgrow hat hlt4;obtain⟨hP4,hh4⟩:=HP2.out.1.pushL (lv':=.slice (some ⟨g1,0,none⟩) (j+1) cap1) hgrow (by rw[upd'_same];exact hown);have hcpj:upd' cp j (.pointer none) j=.pointer none:=upd'_same _ _ _;have htbj:upd' tb j tn j=tn:=upd'_same _ _ _;have hX:=zqcx hP4.m (x:=j) (Nat.lt_succ_self _) hlt hN hP4.be (hP4.opa j (Nat.lt_succ_self _)) (HI.out.2.2.2.2.2.2.2.2.1 j) (hP4.len j (Nat.lt_succ_self _)) (by rw[HZ.out];rfl) hcpj;rw[htbj,HZ.out]at hX;have HX:=Lib.hid hX;have HP4:=Lib.hid (And.intro hP4 hh4);clear hX hown hgrow hat hlt4 hP4 hh4 hcpj htbj
     go_wp2_with (fail)
     refine Calls.mono HX.out ?_;intro e' w5 hX;have hlen:LenE (ops j) (setlG (epR N) j (ops j) (C,RTh.z)).2:=zq9h _ ⟨rfl,Nat.zero_le _,λa ha=>by cases ha⟩;obtain⟨rfl,⟨cp',ov',lvs',hP5⟩,hh5,_⟩:=HP4.out.1.nexted (x:=j) (Nat.lt_succ_self _) (Nat.le_refl _) hlen hX;have hRel:=HJ.out.rel.begin (epLaw' (by omega)) HI.out.2.2.2.2.2.2.2.2.1;obtain⟨be,hbe⟩:∃b,(setlG (epR N) j (ops j) (C,RTh.z)).2.en=b:=⟨_,rfl⟩;rw[hbe];obtain⟨ti2,hti,hz0,hz1,hz2⟩:∃ti,Try.prog.info? 4=some ti/\ti.zero=some (.bool false)/\ti.size=1/\ti.bytes=1:=⟨_,rfl,rfl,rfl,rfl⟩;have TI2:=Lib.hid (And.intro hti (And.intro hz0 (And.intro hz1 hz2)));have HP5:=Lib.hid (And.intro hP5 (And.intro hh5 (And.intro hRel hbe)));clear hti hz0 hz1 hz2 hP5 hh5 hRel hbe hX hlen HX
     go_wp2_with (at_builtin;go_loud (refine wpList_append_lies _ rfl (.tmp 53) (.tmp 57) 99 rfl B 4 ti2 (.bool false) 1 1 (by kernel_rfl) TI2.out.1 TI2.out.2.1 TI2.out.2.2.1 TI2.out.2.2.2 rfl (by decide) _ j (enL (upd' T j (setlG (epR N) j (ops j) (C,RTh.z)).2) j) rfl (zq1d HP5.out.1.erow _) _ 1 1 [.bool be] rfl rfl (zq22 rfl) (by simp[Value.oneCell']) (by decide) (by simp only[maxLen];omega) (by omega) (by rw[zq3];exact Nat.le_succ_of_le HP5.out.1.be) _ rfl ?next))
     case next=>
      intro g2 cap2 w6 hown hgrow hat hlt6;obtain⟨hP6,hh6⟩:=HP5.out.1.pushE (ev':=.slice (some ⟨g2,0,none⟩) (j+1) cap2) hgrow (by rw[upd'_same,HP5.out.2.2.2];exact hown);have HF:=Lib.hid (show BgE B rb gm gM N (j+1) _ _ _ ops C₀ w0 G _ _ _ _ _ _ _ w6 from⟨hP6,HP5.out.2.2.1,HJ.out.held.trans (HP2.out.2.1.trans (HP4.out.2.trans (HP5.out.2.1.trans hh6)))⟩);clear hown hgrow hat hlt6 hP6 hh6;go_wp2;go_roundg (N - (j+1))
      case measure=>omega
      case rel=>exact⟨j+1,_,_,_,_,_,_,_,_,_,_,_,rfl,rfl,rfl,by omega,rfl,HF.out⟩
  . obtain rfl:N=j:=by omega
    have hbW:Beyond w0 wr:=⟨HJ.out.held.size,λb hb=>HJ.out.held.old b (by rw[<-HI.out.2.2.2.1];exact hb) hb⟩;have hIs:=HI.out.2.2.1.beyond hbW;have HIs:=Lib.hid hIs;clear hIs hbW
    go_wp2_with (fail)
    refine Calls.mono (zqep (mo:=mo) hl HIs.out) ?_;rintro e w2 ⟨ub,lsv,rfl,ht,hlr,hbe2,hub⟩
    go_wp2_with (fail)
    rw[<-HRR.out];obtain⟨lp,lC,rfl,_⟩:=zq1b HJ.out.p.lrow;have hBe:=HJ.out.p.be;have hB:=HI.out.2.2.2.1;have p2:=HJ.out.p.more hbe2.1 hbe2.2;refine eplay_b (w0:=w0) (B:=B) (H:=H) (tb:=tb) (opv:=opv) (ops:=ops) (l:=l) (most:=min mo.toNat 1048576) (ub:=ub) (slv:=lsv) (P:=playT (λi=>opsP i (opE N i) (ops i)) N (min mo.toNat 1048576) l (C₀,λ_=>[])) rfl hN hl (Nat.min_le_right _ _) HI.out.2.2.2.2.2.2.2.2.1 HI.out.2.2.2.2.1 (Nat.le_of_eq hB.symm) HI.out.2.2.2.2.2.1 (s:=zq16 (λi=>opsP i (dopE N i) (ops i)) (C₀,λ_=>[]) N) (a:=0) (r:=0) (sov:=.slice none 0 0) ⟨p2,?_,by omega,HJ.out.rel,?_,?_,HJ.out.held.trans ⟨hbe2.1,λb _ hb=>hbe2.2 b hb⟩⟩ ?_
    . refine⟨ht,zq33 hlr (by omega),?_,p2.erow,λg _ h=>by cases h⟩;rw[zq5s];exact World.ownsRow_nil _ _ _ _
    . exact zqfb (λi=>opsP i (dopE N i) (ops i)) l (C₀,λ_=>[])
    . rw[zq5s];exact⟨Nat.zero_le _,Nat.zero_le _,Nat.zero_le _⟩
    . have hR:=HI.out.2.2.2.2.2.2.2.2.2.2;rw[HI.out.2.2.2.2.2.2.2.2.2.1]at hR;intro v w' hp;refine hR v w' ?_;simp only[<-HI.out.2.2.2.2.2.2.2.1];exact hp
theorem ERep.zero {B rb gm gM N:Nat}{e:Int}{opv:Nat->Value}{ops:Nat->List OpX}{ov cp:Nat->Value}{tb:Nat->Nat}{lvs:Nat->List Value}{w:World}(h:DmAt rb gm gM N e (zq18 (ep0 0) N) (memR (ep0 0) noHv N) w)(h1:B<=rb)(h2:B<=gm)(h3:B<=gM):
 ERep (λ_=>False) (λ_=>none) B rb gm gM N 0 opv ops (ep0 e) (λ_=>RTh.z) noHv ov cp tb lvs w:=
 ⟨h,λi hi=>World.ownsRow_nil _ _ _ _,λi j g hi hj e=>(by cases e),λi hi=>absurd hi (Nat.not_lt_zero _),λi hi=>absurd hi (Nat.not_lt_zero _),λi hi=>absurd hi (Nat.not_lt_zero _),λi j g hi=>absurd hi (Nat.not_lt_zero _),λi hi=>absurd hi (Nat.not_lt_zero _),λi hi=>absurd hi (Nat.not_lt_zero _),λb o hb=>(by cases hb),h1,h2,h3,λi hi=>absurd hi (Nat.not_lt_zero _)⟩
def ERTold(N most:Nat)(ops:Nat->List OpX)(P:TSt SE)(w:World)(v:Value)(w':World):Prop:=
 TraceAt w' v N (λi=>P.s.2 i) (P.ord.map λ(i:Nat)=>(i:Int)) (epL P.s.1 N) (decide (0<leftN P.ov N))/\Beyond w w'/\P.ord.length<=most/\∀i,i<N->LenE (ops i) ⟨(P.s.2 i).length,0,λ_=>0,P.s.2 i,false⟩
theorem zqd6{w:World}{stv sv:Value}{pp:Option Addr}{np Cn N:Nat}{tops:Nat->List OpX}{start l:List Int}{mo:Int}(hT:ThrIn w pp np tops)(hn:np<=1099511627776)(hN:N=min np 64)(htl:∀i,i<np->(tops i).length<=1099511627776)(hst:IntsAt w stv start)(hstl:start.length<=1099511627776)(hs:IntsAt w sv l)(hl:l.length<=1099511627776):
 Calls Try.prog 10 #[stv,.slice pp np Cn,sv,.int .i64 mo] w λe w'=>∃v,e=.returned v/\ERTold N (min mo.toNat 1048576) (λi=>(tops i).take 65536) (zqz start (λi=>(tops i).take 65536) N mo l) w v w':=by
 obtain⟨H,hH⟩:∃H,w.heap.size=H:=⟨_,rfl⟩;obtain⟨w1,hw1⟩:∃w1,w.alloc (.cells #[.slice none 0 0,.slice none 0 0,.slice none 0 0,.bool false] 29)=w1:=⟨_,rfl⟩;have hB1:Beyond w w1:=hw1▸Beyond.alloc _ _;have hs1:w1.heap.size=H+1:=by rw[<-hw1,zq3,hH]
 have hz1:w1.heap[H]?=some (.cells #[.slice none 0 0,.slice none 0 0,.slice none 0 0,.bool false] 29):=by rw[<-hw1,<-hH];exact zqo _ _
 have hT1:ThrIn w1 pp np tops:=λh0=>by
  obtain⟨pb,po,e,h1⟩:=hT h0;refine⟨pb,po,e,λi hi=>?_⟩;obtain⟨q,C,h2,h3,h4⟩:=h1 i hi;refine⟨q,C,hB1.cell h2,h3,λh5=>?_⟩;obtain⟨gb,go,e2,h6⟩:=h4 h5;refine⟨gb,go,e2,λk c hk j hj=>?_⟩;have h7:=h6 k c hk j hj;obtain⟨v,hv⟩:∃v,c.cells[j]?=some v:=⟨_,List.getElem?_eq_getElem (by simpa[OpX.cells]using hj)⟩;rw[hv]at h7 |-;exact hB1.cell h7
 have hN64:N<=64:=by omega
 have hNp:N<=np:=by omega
 have key:∀(T0:Array Value)(e:Int)(rb gm gM:Nat)(w5:World),e=begE start->T0=frA H rb N np Cn pp sv mo (λi=>T0.getD i undef)->DmAt rb gm gM N e (zq18 (ep0 0) N) (memR (ep0 0) noHv N) w5->HeldE (H+1) w1 w5->H+1<=rb->H+1<=gm->H+1<=gM->
  Code.wp Try.prog (erpT 4) (bodyPost Try.prog Try.f10 λe w'=>∃v,e=.returned v/\ERTold N (min mo.toNat 1048576) (λi=>(tops i).take 65536) (zqz start (λi=>(tops i).take 65536) N mo l) w v w') ⟨T0,[]⟩ w5:=by
  intro T0 e rb gm gM w5 he hT0 hd hh h1 h2 h3;subst he;refine eplay_a (B:=H+1) (w0:=w1) (C₀:=ep0 (begE start)) (G:=λ_=>none) (opv:=λ_=>.slice none 0 0) (hv:=noHv) (ov:=λ_=>.slice none 0 0) (cp:=λ_=>.slice none 0 0) (tb:=λ_=>0) (lvs:=λ_=>[]) hT0 hN64 hNp hT1 htl (hs.beyond hB1) hl hs1 (Nat.lt_succ_self _) hz1 (ERep.zero hd h1 h2 h3) hh (λi=>rfl) ?_;intro v w' hp;obtain⟨k1,⟨k2,k3⟩,k4,k5⟩:=hp;exact⟨v,rfl,k1,⟨by omega,λb hb=>(k3 b (by omega)).trans (hB1.2 b hb)⟩,k4,k5⟩
 have thr:∀w,Calls Try.prog 35 #[.int .i64 np] w λe w'=>e=.returned (.int .i64 N)/\w'=w:=λw=>by rw[hN];exact zqlw np w hn
 have hstB:=hst.beyond hB1;obtain⟨sp,sC,rfl,hsc⟩:=hstB;have HK:=Lib.hid (And.intro key (And.intro thr (And.intro hs1 hw1)));clear key thr hT hT1 htl hs hz1 hst hN hB1;have HSC:=Lib.hid hsc;clear hsc
 go_enter Try.func10,Try.ntmps10
 show Code.wp Try.prog (.seq (headC (erpT 0)) (.seq (headC (erpT 1)) (.seq (headC (erpT 2)) (.seq (headC (erpT 3)) (erpT 4))))) _ _ _;obtain⟨R4,hR4⟩:∃R,erpT 4=R:=⟨_,rfl⟩;rw[hR4];obtain⟨u_,hu_⟩:∃c,headC (erpT 0)=c:=⟨_,rfl⟩;have eu_:=hu_;rw[hu_];simp only[erpT,headC,tailN,Try.f10,al_od]at eu_;subst eu_;clear hu_;obtain⟨u_,hu_⟩:∃c,headC (erpT 1)=c:=⟨_,rfl⟩;have eu_:=hu_;rw[hu_];simp only[erpT,headC,tailN,Try.f10,al_od]at eu_;subst eu_;clear hu_;obtain⟨u_,hu_⟩:∃c,headC (erpT 2)=c:=⟨_,rfl⟩;have eu_:=hu_;rw[hu_];simp only[erpT,headC,tailN,Try.f10,al_od]at eu_;subst eu_;clear hu_;obtain⟨u_,hu_⟩:∃c,headC (erpT 3)=c:=⟨_,rfl⟩;have eu_:=hu_;rw[hu_];simp only[erpT,headC,tailN,Try.f10,al_od]at eu_;subst eu_;clear hu_;have HRR:=Lib.hid hR4;clear hR4
 go_wp2_with (fail)
 clear hw1;refine Calls.mono (HK.out.2.1 _) ?_;rintro e w' ⟨rfl,hww⟩;obtain rfl:=hww.symm;clear hww
 go_wp2_with (fail)
 refine Calls.mono (zqg0 N hN64 w1) ?_;rintro e w2 ⟨rb,gm,gM,rfl,hd,hE,h1,h2,h3⟩;rw[HK.out.2.2.1]at h1 h2 h3;have hh2:HeldE (H+1) w1 w2:=⟨hE.size,λb _ hb=>hE.old b hb⟩;cases start with
 |nil=>
  have HD:=Lib.hid (And.intro hd (And.intro hh2 (And.intro h1 (And.intro h2 h3))));clear hd hh2 h1 h2 h3 hE
  go_wp2_with (fail)
  rw[<-HRR.out];exact HK.out.1 _ 0 rb gm gM w2 rfl rfl HD.out.1 HD.out.2.1 HD.out.2.2.1 HD.out.2.2.2.1 HD.out.2.2.2.2
 |cons x xs=>
  obtain⟨b,o,rfl,hc⟩:=HSC.out (by simp);have c0:=hc 0 (by simp);simp only[List.getD_cons_zero,Nat.add_zero]at c0;have c0':w2.cell? ⟨b,o,none⟩=some (.int .i64 x):=(zqu (a:=⟨b,o,none⟩) (hE.old b (cell_lt c0))).trans c0;have hlen:(0:Int)<((x::xs).length:Nat):=by simp
  obtain⟨L,hL⟩:∃L,(x::xs).length=L:=⟨_,rfl⟩;rw[hL]at hlen hstl |-;have hlen2:0<L:=by omega
  have d0:=hd.c.1;have f0:=zq6 (off:=0) hd.dom;have HD:=Lib.hid (And.intro hd (And.intro hh2 (And.intro h1 (And.intro h2 (And.intro h3 hL)))));clear hd hh2 h1 h2 h3 hE hL c0 hc
  go_wp2_with (fail)
  all_goals(
   rw[<-HRR.out];have hn1:=zqf HD.out.1.dom HD.out.1.mar (by decide);have hn2:=zqf HD.out.1.dom HD.out.1.mem (by decide);refine HK.out.1 _ _ rb gm gM _ ?he rfl ⟨(zqn _ _ _ _ HD.out.1.dom).trans rfl,(zq8 _ _ _ _ (λe=>hn1 e.symm)).trans HD.out.1.mar,(zq8 _ _ _ _ (λe=>hn2 e.symm)).trans HD.out.1.mem⟩ (HD.out.2.1.trans ⟨by rw[zqv];exact Nat.le_refl _,λb' hb _=>zq8 _ _ _ _ (by have:=HD.out.2.2.1;show b'≠rb;omega)⟩) HD.out.2.2.1 HD.out.2.2.2.1 HD.out.2.2.2.2.1
   case he=>show _=min (max x 0) 4611686018427387904;omega)
noncomputable def eppT(n:Nat):Code:=tailN n (Try.f3.body.getD .skip)
theorem epp0:Try.f3.body.getD .skip=.seq (headC (eppT 0)) (.seq (headC (eppT 1)) (.seq (headC (eppT 2)) (eppT 3))):=by kernel_rfl
structure EPlIn(W:World)(stp pp scp:Option Addr)(stl stC np sl Cs:Nat)(start:List Int)(tops:Nat->List OpX)(sched:List Int):Prop where
 sta:IntsAt W (.slice stp start.length stC) start
 stal:start.length=stl
 stle:stl<=1048576
 thr:ThrIn W pp np tops
 npl:np<=1048576
 tl:∀i,i<np->(tops i).length<=1048576
 sc:IntsAt W (.slice scp sched.length Cs) sched
 scl:sched.length=sl
 sle:sl<=1048576
theorem zqd5{Post:Value->World->Prop}(hPost:∀v w τ d,Post v w->Post v (re w τ d)){W:World}{stp pp scp:Option Addr}{stl stC np Cn sl Cs:Nat}{start:List Int}{tops:Nat->List OpX}{sched:List Int}{mo:Int}(hI:EPlIn W stp pp scp stl stC np sl Cs start tops sched)(hend:∀w',Beyond W w'->Post (.bool true) w'):
 FinOf Try.prog Post (solo (G (Frame.enter Try.prog 3 #[.slice stp stl stC,.slice pp np Cn,.slice scp sl Cs,.int .i64 mo] .normal) []) W) #[]:=by
 refine j0_run Try.func3 rfl ?_;have hFin:=zq7d (P:=Try.prog) Post;have hJ:=j0_JS hFin;have hC:=zq3x hFin;have e:Frame.enter Try.prog 3 #[.slice stp stl stC,.slice pp np Cn,.slice scp sl Cs,.int .i64 mo] .normal=(bN 3).at (zqw Try.f3 #[.slice stp stl stC,.slice pp np Cn,.slice scp sl Cs,.int .i64 mo]) [.code ((Try.f3.body).getD .skip)]:=by kernel_rfl
 have ea:zqw Try.f3 #[.slice stp stl stC,.slice pp np Cn,.slice scp sl Cs,.int .i64 mo]=⟨#[.slice stp stl stC,.slice pp np Cn,.slice scp sl Cs,.int .i64 mo,undef,undef,undef,undef,undef,undef,undef,undef,undef,undef,undef,undef,undef,undef,undef,undef,undef,undef],[]⟩:=by kernel_rfl
 rw[e,ea,epp0];clear e ea;refine hJ.ctl (s:=1) (λw=>stepG_seq) ?_;refine zq3c hJ hC zq1s (by kernel_rfl) (λt w'=>t=#[.slice stp stl stC,.slice pp np Cn,.slice scp sl Cs,.int .i64 mo,undef,undef,undef,undef,.bool false,undef,undef,undef,undef,undef,undef,undef,undef,undef,undef,undef,undef,undef]/\∃τ d,w'=re W τ d) (λt w' τ d h=>⟨h.1,by obtain⟨τ',d',rfl⟩:=h.2;exact⟨τ,d,by rw[re_re]⟩⟩) (by decide) (λτ d=>?_) ?_
 . obtain⟨u0,hu0⟩:∃c,headC (eppT 0)=c:=⟨_,rfl⟩;have eu0:=hu0;rw[hu0];simp only[eppT,headC,tailN,Try.f3,al_od]at eu0;subst eu0;clear hu0 hI;go_wp2;exact⟨rfl,rfl,τ,d,rfl⟩
 rintro t w' ⟨rfl,τ,d,rfl⟩;refine hJ.re' 1 _ _ τ d ?_;refine hJ.ctl (s:=1) (λw=>stepG_seq) ?_;obtain⟨u1,hu1⟩:∃c,headC (eppT 1)=c:=⟨_,rfl⟩;have eu1:=hu1;rw[hu1];simp only[eppT,headC,tailN,Try.f3,al_od]at eu1;subst eu1;clear hu1;refine hJ.ctl (s:=1) (λw=>stepG_seq) ?_;refine hJ.ctl (s:=1) (λw=>stepG_region) ?_;refine zq1p (by decide) hJ (s:=1) rfl rfl (f:=7) (args:=#[]) (λτ d=>?_) (λτ d=>?_) ?_
 . simp[go_sem,execOp,Act.eval,resolve,Deferred.ofValue,invoke,callFunc,Try.func7,Try.f7]
 . intro e he;simp[go_sem,execOp,Act.eval,resolve,Deferred.ofValue,invoke,callFunc,Try.func7,Try.f7,Sem.runT_eq]at he
 refine zqc8 hFin (n:=1) (by decide) ?_;intro w1 hb1;rw[Frame.finish_at]
 walk_nrm
 refine zq11 (s:=1+2) (by decide) hJ (zq10 _) false (.inr rfl) 1 1 0 rfl rfl rfl (by rfl) ?_;intro τ d;simp only[List.drop_succ_cons,List.drop_zero,List.take_succ_cons,List.take_zero];go_wp2;simp only[zql];refine hJ.re' (1+2) _ _ τ d ?_;refine hJ.ctl (s:=1+2) (λw=>stepG_region_end) ?_;refine hJ.ctl (s:=1+2) (λw=>stepG_cond (t:=false) rfl) ?_;rw[if_neg (by decide)];refine hJ.ctl (s:=1+2) (λw=>stepG_skip) ?_;refine hJ.ctl (s:=1+2) (λw=>stepG_seq) ?_;obtain⟨u2,hu2⟩:∃c,headC (eppT 2)=c:=⟨_,rfl⟩;have eu2:=hu2;rw[hu2];simp only[eppT,headC,tailN,Try.f3,al_od]at eu2;subst eu2;clear hu2;refine hJ.ctl (s:=1+2) (λw=>stepG_region) ?_;refine zq11 (s:=1+2) (by decide) hJ (zq10 _) false (.inr rfl) 0 4 8 rfl rfl rfl (by rfl) ?_;intro τ d;simp only[List.drop_succ_cons,List.drop_zero,List.take_succ_cons,List.take_zero];have hb2:=hb1.trans (Beyond.re w1 τ d);generalize re w1 τ d=w2 at hb2 |-;have HI:=Lib.hid (And.intro hI hb2);have HE:=Lib.hid hend;clear hI hb1 hb2 hend;go_wp2;simp only[zql];refine zq1p (by decide) hJ (s:=1+2) rfl rfl (f:=9) (args:=#[.slice stp stl stC,.slice pp np Cn,.slice scp sl Cs,.int .i64 mo]) (λτ d=>?_) (λτ d=>?_) ?_
 . simp[go_sem,execOp,Act.eval,resolve,Deferred.ofValue,invoke,callFunc,Try.func9,Try.f9]
 . intro e he;simp[go_sem,execOp,Act.eval,resolve,Deferred.ofValue,invoke,callFunc,Try.func9,Try.f9,Sem.runT_eq]at he
 obtain⟨N,hN⟩:∃N,min np 64=N:=⟨_,rfl⟩;have hpl:∀w,Beyond W w->∀(c:Frame)(cs:List Frame),(∀v w',TraceAt w' v N (zqz start (λi=>(tops i).take 65536) N mo sched).s.2 ((zqz start (λi=>(tops i).take 65536) N mo sched).ord.map λ(i:Nat)=>(i:Int)) (epL (zqz start (λi=>(tops i).take 65536) N mo sched).s.1 N) (decide (0<leftN (zqz start (λi=>(tops i).take 65536) N mo sched).ov N))->Beyond w w'->J0 Try.prog (FinOf Try.prog Post) (1+2+N) (G (c.finish v) cs) w')->
  J0 Try.prog (FinOf Try.prog Post) (1+2) (G (Frame.enter Try.prog 9 #[.slice stp stl stC,.slice pp np Cn,.slice scp sl Cs,.int .i64 mo] .normal) (c::cs)) w:=by
  intro w hbw c cs hmain;have hI:=HI.out.1;obtain⟨sp,Cp,hO⟩:=opsat_in hI.thr (by have:=hI.npl;omega) hI.tl;rw[hN]at hO;rw[<-hI.scl,<-hI.stal];refine zq7v hFin (n:=1+2) (by decide) (RP:=λb=>W.heap[b]?) (sched:=sched) (start:=start) (ops:=λi=>(tops i).take 65536) (N:=N) (λhne=>?_) (λb o hb=>hbw.heap hb) (hO.on hbw) (by have:=hI.sle;have:=hI.scl;omega) (λhne=>?_) ?_
  . obtain⟨p',C',e,hc⟩:=hI.sta;cases e;obtain⟨b,o,e2,h2⟩:=hc hne;have h3:=h2 0 (List.length_pos_iff.2 hne);refine⟨b,o,e2,hbw.cell ?_⟩;rw[Nat.add_zero]at h3;rw[h3];cases start with
    |nil=>exact absurd rfl hne
    |cons x xs=>rfl
  . obtain⟨p',C',e,hc⟩:=hI.sc;cases e;obtain⟨b,o,e2,h2⟩:=hc hne;refine⟨b,o,e2,λj x hj=>?_⟩;have hjl:=(List.getElem?_eq_some_iff.1 hj).1;have h3:=h2 j hjl;rw[List.getD_eq_getElem?_getD,hj]at h3;exact hbw.cell h3
  . intro ab ov sv am w' hR;have ht:=trace_of (stk:=decide (0<leftN (zqz start (λi=>(tops i).take 65536) N mo sched).ov N)) hR.ans hR.orow hR.srow;rw[hR.ast]at ht;exact hmain _ w' ht ⟨hR.size,hR.old⟩
 refine hpl _ HI.out.2 _ _ ?_;clear hpl;intro va w3 hta hb3;rw[Frame.finish_at]
 walk_nrm
 refine zq11 (s:=1+2+N) (by decide) hJ (zq10 _) false (.inr rfl) 5 4 3 rfl rfl rfl (by rfl) ?_;intro τ d;simp only[List.drop_succ_cons,List.drop_zero,List.take_succ_cons,List.take_zero];have hb4:=HI.out.2.trans (hb3.trans (Beyond.re w3 τ d));replace hta:=hta.beyond (Beyond.re w3 τ d);generalize re w3 τ d=w4 at hb4 hta |-;have HA:=Lib.hid (And.intro hta hb4);clear hta hb4 hb3;go_wp2;simp only[zql];refine zq1p (by decide) hJ (s:=1+2+N) rfl rfl (f:=10) (args:=#[.slice stp stl stC,.slice pp np Cn,.slice scp sl Cs,.int .i64 mo]) (λτ d=>?_) (λτ d=>?_) ?_
 . simp[go_sem,execOp,Act.eval,resolve,Deferred.ofValue,invoke,callFunc,Try.func10,Try.f10]
 . intro e he;simp[go_sem,execOp,Act.eval,resolve,Deferred.ofValue,invoke,callFunc,Try.func10,Try.f10,Sem.runT_eq]at he
 refine zq79 hJ hC zq1s Try.func10 rfl (by kernel_rfl) (R:=λv w'=>TraceAt w' v N (zqz start (λi=>(tops i).take 65536) N mo sched).s.2 ((zqz start (λi=>(tops i).take 65536) N mo sched).ord.map λ(i:Nat)=>(i:Int)) (epL (zqz start (λi=>(tops i).take 65536) N mo sched).s.1 N) (decide (0<leftN (zqz start (λi=>(tops i).take 65536) N mo sched).ov N))/\Beyond w4 w'/\(zqz start (λi=>(tops i).take 65536) N mo sched).ord.length<=min mo.toNat 1048576/\∀i,i<N->LenE ((tops i).take 65536) ⟨((zqz start (λi=>(tops i).take 65536) N mo sched).s.2 i).length,0,λ_=>0,(zqz start (λi=>(tops i).take 65536) N mo sched).s.2 i,false⟩) (λv w' τ d h=>⟨h.1.beyond (Beyond.re _ _ _),h.2.1.trans (Beyond.re _ _ _),h.2.2⟩) (λτ d=>?_) ?_
 . have hI:=HI.out.1;have hbr:=HA.out.2.trans (Beyond.re w4 τ d);refine Calls.mono (zqd6 (N:=N) (tops:=tops) (start:=start) (l:=sched) (mo:=mo) (hI.thr.on hbr) (by have:=hI.npl;omega) hN.symm (λi hi=>by have:=hI.tl i hi;omega) (by have:=hI.sta.beyond hbr;rw[hI.stal]at this;exact this) (by have:=hI.stle;have:=hI.stal;omega) (by have:=hI.sc.beyond hbr;rw[hI.scl]at this;exact this) (by have:=hI.sle;have:=hI.scl;omega)) ?_;rintro e w' ⟨v,rfl,h1,h2,h3⟩;exact⟨v,rfl,h1,(Beyond.re w4 τ d).trans h2,h3⟩
 intro vb w5 hvb;rw[Frame.finish_at]
 walk_nrm
 refine zq1p (by decide) hJ (s:=1+2+N) rfl rfl (f:=8) (args:=#[va,vb]) (λτ d=>?_) (λτ d=>?_) ?_
 . simp[go_sem,execOp,Act.eval,resolve,Deferred.ofValue,invoke,callFunc,Try.func8,Try.f8]
 . intro e he;simp[go_sem,execOp,Act.eval,resolve,Deferred.ofValue,invoke,callFunc,Try.func8,Try.f8,Sem.runT_eq]at he
 refine zq79 hJ hC zq1s Try.func8 rfl (by kernel_rfl) (R:=λv w'=>v=.bool true/\Beyond w5 w') (λv w' τ d h=>⟨h.1,h.2.trans (Beyond.re _ _ _)⟩) (λτ d=>?_) ?_
 . have hbr:=Beyond.re w5 τ d;refine Calls.mono (zqlx (N:=N) (by have:=hN;omega) (by rw[List.length_map];have:=hvb.2.2.1;omega) (by unfold epL;rw[List.length_cons,zq31];omega) (λi hi=>?_) ((HA.out.1.beyond hvb.2.1).beyond hbr) (hvb.1.beyond hbr)) ?_
   . obtain⟨h1,h2,h3⟩:=hvb.2.2.2 i hi;refine⟨?_,λa ha=>?_⟩
     . have h4:((tops i).take 65536).length<=65536:=by rw[List.length_take];omega
       have h5:((zqz start (λi=>(tops i).take 65536) N mo sched).s.2 i).length<=((tops i).take 65536).length:=by
        rw[show((zqz start (λi=>(tops i).take 65536) N mo sched).s.2 i).length=0+((zqz start (λi=>(tops i).take 65536) N mo sched).s.2 i).length by omega]at *;exact Nat.le_trans (Nat.le_of_eq (by omega)) h2
       omega
     . have:=h3 a ha;omega
   . rintro e w' ⟨rfl,h1⟩;exact⟨_,rfl,rfl,hbr.trans h1⟩
 rintro v w6 ⟨rfl,hb6⟩;rw[Frame.finish_at]
 walk_nrm
 have hb7:=(HA.out.2.trans hvb.2.1).trans hb6;have HZ:=Lib.hid hb7;clear hb7 hb6 hvb;refine zq11 (s:=1+2+N) (by decide) hJ (zq10 _) false (.inr rfl) 11 1 0 rfl rfl rfl (by rfl) ?_;intro τ d;simp only[List.drop_succ_cons,List.drop_zero,List.take_succ_cons,List.take_zero];have hb8:=HZ.out.trans (Beyond.re w6 τ d);generalize re w6 τ d=w7 at hb8 |-;have HZ2:=Lib.hid hb8;clear hb8;go_wp2;simp only[zql];refine hJ.ctl (s:=1+2+N) (λw=>stepG_region_end) ?_;refine zqc6 (P:=Try.prog) hPost zq1s (by kernel_rfl) rfl (by kernel_rfl) Try.func3 (λτ d=>?_);obtain⟨u5,hu5⟩:∃c,eppT 3=c:=⟨_,rfl⟩;have eu5:=hu5;rw[hu5];simp only[eppT,headC,tailN,Try.f3,al_od]at eu5;subst eu5;clear hu5;have HEE:=Lib.hid (HE.out _ (HZ2.out.trans (Beyond.re w7 τ d)));clear HE;go_wp2;refine bodyPost_ret (v:=.bool true) ?_ rfl ⟨_,rfl,HEE.out⟩;simp only[results,Try.f3];simp[go_sem]
end Go.Proofs
namespace Go.Proofs.Ytmgmbciplfkddaa
open Go Go.Conc Go.RowKit Go.Car Go.ChangeShapes Go.WideShapes Go.ChangeAt Go.Deep
theorem thr_in{H:Type}{enc:TypeId×Value->H}{W:World}{base:Nat}{v:Value}{d:DataW H}{p:List MemPlace}(hok:Value.okWide Try.prog W .any base 23 v)
 (h:DataW.Trod enc Try.prog W 0 (λ_=>true) true 23 v d p) (hb:Rows.uptoBulk d<=1048576):∃pp n C,∃tops:Nat->List OpX,v=.slice pp n C/\ThrIn W pp n tops/\n<=1048576/\∀i,i<n->(tops i).length<=1048576:=by
 obtain⟨a,len,cap,rfl⟩:=okWide_slice (e:=92) (by kernel_rfl) hok;obtain⟨fuel,hf⟩:=h;obtain⟨fs,k1,k2,k3⟩:=zqeu;obtain⟨tops,t1,t2,t3⟩:=thr_open (e:=92) (e2:=44) (by kernel_rfl) (by kernel_rfl) (by kernel_rfl) k1 (by kernel_rfl) k3 k2 (by simpa[Value.cells]using hf);have:=zq5t d;refine⟨a,len,cap,tops,rfl,t1,by omega,λi hi=>?_⟩;obtain⟨x,es,sp',e,he,hx⟩:=t3 i hi;have:=zqcb (sp:=sp') he;rw[<-e]at this;have:=zq5t x;omega
theorem zqd3(os:Os)(started:os.Started)(H:Type)(enc:TypeId×Value->H)(F:Stop.Interp):
 ReturnsInLeavingWide {} Try.checked os 3 .any ((Rows.OpenSpec.upto Rows.epochPlaysSpec).pre6 enc Try.prog Try.f3 Rows.epochPlaysUptoRow.domain false) (((Rows.OpenSpec.upto Rows.epochPlaysSpec).at F).post enc Try.prog Try.f3 false true false false):=by
 refine zqeb (C:=Try.checked) (s:=Rows.OpenSpec.upto Rows.epochPlaysSpec) (k:=Rows.uptoSmall) rfl own_knob started Try.func3
  (OpenSpec.witness (enc:=enc) (C:=Try.checked) (s:=Rows.OpenSpec.upto Rows.epochPlaysSpec) (k:=Rows.uptoSmall) rfl false ⟨#[],#[.slice none 0 0,.slice none 0 0,.slice none 0 0,.int .i64 0],[]⟩ 8 (by kernel_rfl) (by kernel_rfl) (by kernel_rfl)
   (x:=([.nil,.nil,.nil,.lit (.int .i64 0)],[],[])) (by kernel_rfl) rfl (by kernel_rfl)) ?_
 intro W base args ds gs before hval0 hW hk;have hval:∀(j:Nat)t v,Try.f3.params[j]?=some t->args[j]?=some v->Value.okWide Try.prog W .any base t v:=hval0;have hW':=hW;obtain⟨p,q,hA0,hV,rfl,_,_⟩:=hW;have hA:DataW.TrodAll enc Try.prog W 0 (λ_=>true) true Try.f3.params.toList args.toList ds p:=hA0;rw[Try.params3]at hA hval;obtain⟨v0,v1,v2,v3,d0,d1,d2,d3,p0,p1,p2,p3,rfl,rfl,rfl,h0,h1,h2,h3⟩:=trodAll_four hA;obtain⟨rfl,rfl⟩:=trodVars_none hV;clear hA0 hval0;simp only[List.append_nil]at hW' hk;have hlt:∀x∈p0++p1++p2++p3,x.block<W.heap.size:=λx hx=>by simpa using hW'.lt x hx
 obtain⟨stp,stC,start,rfl,i0,b0⟩:=zq89 (e:=2) (by kernel_rfl) (by kernel_rfl) (by kernel_rfl) (hval 0 _ v0 rfl rfl) h0 (zq5u hk (by simp));obtain⟨pp,np,Cn,tops,rfl,i1,b1,b1'⟩:=thr_in (hval 1 _ v1 rfl rfl) h1 (zq5u hk (by simp));obtain⟨scp,Cs,sched,rfl,i2,b2⟩:=zq89 (e:=3) (by kernel_rfl) (by kernel_rfl) (by kernel_rfl) (hval 2 _ v2 rfl rfl) h2 (zq5u hk (by simp));obtain⟨mo,rfl⟩:=okWide_int (k:=.i64) (by kernel_rfl) (hval 3 _ v3 rfl rfl);obtain⟨M,last,o,w',t',r1,r2,r3,r4⟩:=zqd5 (Post:=λv w'=>v=.bool true/\Beyond W w') (λv w τ d h=>⟨h.1,h.2.1,h.2.2⟩) (mo:=mo) (stC:=stC) (Cn:=Cn) ⟨i0,rfl,b0,i1,b1,b1',i2,rfl,b2⟩ (λw' h=>⟨rfl,h⟩);refine⟨M,last,o,w',t',r1,r2,r3,r4.mono λv hF=>?_⟩;obtain⟨⟨rfl,hb⟩,ho,hu⟩:=hF;have same:∀{t:TypeId}(hr:Try.prog.readableRec t=true)(hrow:t<Try.prog.types.size){v:Value}{d:DataW H}{ps:List MemPlace}(h:DataW.Trod enc Try.prog W 0 (λ_=>true) true t v d ps)(hlt:∀x∈ps,x.block<W.heap.size),DataW.Trod enc Try.prog w' 0 (λb=>decide (b<W.heap.size)) true t v d ps:=λhr hrow _ _ _ h hlt=>zqfv hr hrow h hb hlt;refine⟨_,_,_,[],p0++(p1++(p2++p3)),[],hW',trodAll_mk1 (shut_bool Try.underlying4 true),?_,rfl,zqe3 hb ho hu _,λh=>by cases h⟩;exact trodAll_mk4 (same (by kernel_rfl) (of_decide_eq_true (by kernel_rfl)) h0 λx hx=>hlt x (by simp[hx])) (same (by kernel_rfl) (of_decide_eq_true (by kernel_rfl)) h1 λx hx=>hlt x (by simp[hx])) (same (by kernel_rfl) (of_decide_eq_true (by kernel_rfl)) h2 λx hx=>hlt x (by simp[hx])) (same (by kernel_rfl) (of_decide_eq_true (by kernel_rfl)) h3 λx hx=>hlt x (by simp[hx]))
theorem epochPlays_upto:Rows.EpochPlaysUptoSaid:=
 zqds 3 Try.f3 rfl rfl rfl rfl rfl rfl rfl ⟨rfl,rfl,rfl,rfl,rfl⟩ rfl rfl rfl rfl rfl (by kernel_rfl) Try.func3 (by kernel_rfl)
  (of_decide_eq_true (by kernel_rfl)) (by unfold Func.isWrapper;first|(rw[if_pos (by decide +kernel)];kernel_rfl)|(rw[if_neg (by decide +kernel)];exact⟨rfl,rfl⟩))
  (λos started H enc _ F=>zqd3 os started H enc F)
end Go.Proofs.Ytmgmbciplfkddaa
