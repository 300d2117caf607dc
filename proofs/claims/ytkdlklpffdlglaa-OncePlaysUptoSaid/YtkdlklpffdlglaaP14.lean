/- YtkdlklpffdlglaaOPlays2: part 14 of the proof (the texts behind it, in order). -/
import Derived.Test.YtkdlklpffdlglaaP13
set_option linter.unusedSimpArgs false
set_option linter.unusedVariables false
set_option linter.unusedSectionVars false
set_option linter.unnecessarySimpa false
set_option maxHeartbeats 4000000
set_option maxRecDepth 100000
namespace Go.Proofs
open Go Go.Conc Go.RowKit Go.Car
def avL(av:Nat->Value)(n:Nat):List Value:=(List.range n).map av
structure TrI(H tz j:Nat)(v ov sv:Value)(stk:Bool)(av:Nat->Value)(w0 w:World):Prop where
 blk:w.heap[tz]?=some (.cells #[v,ov,sv,.bool stk] 29)
 row:w.ownsRow H 47 1 v j (avL av j)
 size:w0.heap.size<=w.heap.size
 old:∀b,b<w0.heap.size->b≠tz->w.heap[b]?=w0.heap[b]?
 lo:w0.heap.size<=tz+1/\H<=w0.heap.size
 new:∀g,v.ownBlock=some g->w0.heap.size<=g
theorem tr_push{H tz j g cap:Nat}{v ov sv:Value}{stk:Bool}{av:Nat->Value}{w0 w W w2:World}(h:TrI H tz j v ov sv stk av w0 w)(htz:tz<w0.heap.size)
 (hW:W.heap=(w.alloc (.cells #[av j] 47)).heap) (hrow:w2.ownsRow H 47 1 (.slice (some ⟨g,0,none⟩) (j+1) cap) (j+1) (avL av j++[av j])) (hgr:W.grownBy w2 v.ownBlock) (hat:v.ownBlock=some g\/g=w.heap.size+1):
 TrI H tz (j+1) (.slice (some ⟨g,0,none⟩) (j+1) cap) ov sv stk av w0 (w2.setCell ⟨tz,0,none⟩ (.slice (some ⟨g,0,none⟩) (j+1) cap)):=by
 have hsz:W.heap.size=w.heap.size+1:=by rw[hW];exact zq3 _ _
 have hWo:∀b,b<w.heap.size->W.heap[b]?=w.heap[b]?:=λb hb=>by rw[hW,zq5,if_neg (by omega)]
 have keep:∀b,b<w.heap.size->v.ownBlock≠some b->w2.heap[b]?=w.heap[b]?:=λb hb hn=>(hgr.block b (by omega) λe=>hn e.symm).trans (hWo b hb);have hb2:=(keep tz (zq7 h.blk) (own_ne h.row h.blk (by decide))).trans h.blk;have hs0:=h.size;have hs2:=hgr.size;refine⟨(zqa _ _ _ _ hb2).trans rfl,?_,?_,λb hb hne=>?_,h.lo,λq hq=>?_⟩
 · have e:avL av (j+1)=avL av j++[av j]:=by unfold avL;rw[List.range_succ,List.map_append];rfl
   rw[e];refine ownsRow_of hrow λx hx=>zq8 _ _ _ _ λe=>?_;obtain⟨⟨c,hc⟩,_⟩:=own_lt hrow hx;rw[show x=tz from e,hb2]at hc;cases hc
 · rw[zqb];omega
 · rw[zq8 _ _ _ _ hne,keep b (by omega) λe=>by have:=h.new b e;omega];exact h.old b hb hne
 · simp only[Value.ownBlock,al_oi]at hq;subst hq;rcases hat with e|e
   · exact h.new _ e
   · omega
def RTracePost(N:Nat)(T:Nat->RTh)(ord:List Nat)(st:List Int)(stk:Bool)(w:World)(e:Ending)(w':World):Prop:=∃v,e=.returned v/\TraceAt w' v N (λi=>(T i).ans) (ord.map λ(i:Nat)=>(i:Int)) st stk/\Beyond w w'/\∀b o n c ov' sv' st',v=.agg #[.slice (some ⟨b,o,none⟩) n c,ov',sv',st']->w.heap.size<=b
theorem rtrace_lone{B N C:Nat}{tp:Option Addr}{tb:Nat->Nat}{opv:Nat->Value}{ops:Nat->List OpX}{T:Nat->RTh}{lvs:Nat->List Value}{av:Nat->Value}{ub:Nat}{lv:Value}{l:List Int}{a r most:Nat}{ov sv:Value}{ord:List Nat}{stk:Bool}{st:List Int}{w:World}(hN:N<=64)
 (hT:ThsR B N (.slice tp N C) tb opv ops T lvs av w) (hA:∀i,i<N->AnsAt w (av i) (T i).ans) (hu:TuI ub lv l a r most ov ord stk B w) (hs:IntsAt w sv st):
 Calls Try.prog 42 #[.pointer (some ⟨ub,0,none⟩),.slice tp N C,sv] w λe w'=>RTracePost N T ord st stk w e w':=by
 obtain⟨H,hH⟩:∃H,w.heap.size=H:=⟨_,rfl⟩;obtain⟨sp,sC,rfl,-⟩:=id hs;obtain⟨op,oC,rfl,-,-⟩:=own_slice hu.orow;obtain⟨on,hon⟩:∃n,ord.length=n:=⟨_,rfl⟩;obtain⟨sn,hsn⟩:∃n,st.length=n:=⟨_,rfl⟩;have c4:∀o:Obj,(w.alloc o).cell? ⟨ub,4,none⟩=some (.slice op on oC):=λo=>(zq0 (al_old (o:=o) hu.blk)).trans (by rw[hon];rfl);have c4b:∀o o2:Obj,((w.alloc o).alloc o2).cell? ⟨ub,4,none⟩=some (.slice op on oC):=λo o2=>(zq0 (al_old (o:=o2) (al_old (o:=o) hu.blk))).trans (by rw[hon];rfl);have c5:∀o:Obj,(w.alloc o).cell? ⟨ub,5,none⟩=some (.bool stk):=λo=>(zq0 (al_old (o:=o) hu.blk)).trans rfl;have c5b:∀o o2:Obj,((w.alloc o).alloc o2).cell? ⟨ub,5,none⟩=some (.bool stk):=λo o2=>(zq0 (al_old (o:=o2) (al_old (o:=o) hu.blk))).trans rfl;have HI:=Lib.hid (And.intro hT (And.intro hA (And.intro hu (And.intro hs (And.intro hH (And.intro hon hsn))))));clear hT hA hu hs hon;rw[hsn];clear hsn
 go_enter Try.func42,Try.ntmps42
 go_upto_region 1 with(fail)
 go_cut [7]from 9 to 36 (λs7 wx=>s7=.pointer (some ⟨H+1,0,none⟩)/\wx=((w.alloc (.cells #[.slice none 0 0,.slice none 0 0,.slice none 0 0,.bool false] 29)).alloc (.cells #[.slice none 0 0,.slice op on oC,.slice sp sn sC,.bool stk] 29)).drew)
 case first=>
  go_region_law (fail)
  all_goals(go_wp2_with (fail);go_meet;exact⟨rfl,rfl⟩)
 case rest=>
 obtain⟨rfl,rfl⟩:=hcut;have hn:=al_new (w.alloc (.cells #[.slice none 0 0,.slice none 0 0,.slice none 0 0,.bool false] 29)) (.cells #[.slice none 0 0,.slice op on oC,.slice sp sn sC,.bool stk] 29);have hn0:=al_old (o:=(.cells #[.slice none 0 0,.slice op on oC,.slice sp sn sC,.bool stk] 29)) (al_new w (.cells #[.slice none 0 0,.slice none 0 0,.slice none 0 0,.bool false] 29));rw[zq3,hH]at hn;rw[hH]at hn0;have hx0:Ext w ((w.alloc (.cells #[.slice none 0 0,.slice none 0 0,.slice none 0 0,.bool false] 29)).alloc (.cells #[.slice none 0 0,.slice op on oC,.slice sp sn sC,.bool stk] 29)):=(Ext.alloc _ _).trans (Ext.alloc _ _);have hx:Ext w ((w.alloc (.cells #[.slice none 0 0,.slice none 0 0,.slice none 0 0,.bool false] 29)).alloc (.cells #[.slice none 0 0,.slice op on oC,.slice sp sn sC,.bool stk] 29)).drew:=⟨hx0.size,hx0.old⟩;clear hx0;have hs1:((w.alloc (.cells #[.slice none 0 0,.slice none 0 0,.slice none 0 0,.bool false] 29)).alloc (.cells #[.slice none 0 0,.slice op on oC,.slice sp sn sC,.bool stk] 29)).drew.heap.size=H+2:=by show((w.alloc _).alloc _).heap.size=_;rw[zq3,zq3,hH]
 generalize hw1:((w.alloc (.cells #[.slice none 0 0,.slice none 0 0,.slice none 0 0,.bool false] 29)).alloc (.cells #[.slice none 0 0,.slice op on oC,.slice sp sn sC,.bool stk] 29)).drew=w1 at hx hs1 ⊢;have hn':w1.heap[H+1]?=some (.cells #[.slice none 0 0,.slice op on oC,.slice sp sn sC,.bool stk] 29):=by rw[←hw1];exact hn
 have hn0':w1.heap[H]?=some (.cells #[.slice none 0 0,.slice none 0 0,.slice none 0 0,.bool false] 29):=by rw[←hw1];exact hn0
 clear hw1 hn hn0 c4 c4b c5 c5b;have hT1:=HI.out.1.more hx.old;have hTr0:TrI (H+2) (H+1) 0 (.slice none 0 0) (.slice op on oC) (.slice sp sn sC) stk av w1 w1:=⟨hn',World.ownsRow_nil _ _ _ _,Nat.le_refl _,λ_ _ _=>rfl,⟨by omega,by omega⟩,λg hg=>by cases hg⟩;have HX:=Lib.hid (And.intro hx (And.intro hs1 (And.intro hn0' (And.intro hT1 hTr0))));clear hx hs1 hn0' hn' hT1 hTr0 hH
 go_wp2_with (fail)
 go_loopg [8] N (λk s8 wr=>∃(j:Nat)(p:Option Addr)(cp:Nat),k=N - j/\j<=N/\s8=.int .i64 j/\TrI (H+2) (H+1) j (.slice p j cp) (.slice op on oC) (.slice sp sn sC) stk av w1 wr)
 case atStart=>exact⟨0,none,0,rfl,Nat.zero_le _,rfl,HX.out.2.2.2.2⟩
 case round=>
  obtain⟨j,p,cp,hk,hj,rfl,hI⟩:=hrel;have HJ:=Lib.hid hI
  by_cases hlt:j<N
  · have hlt':(j:Int)<(N:Int):=by omega
    have hj0:(0:Int)<=j:=by omega
    have hj64:(j:Int)<64:=by omega
    obtain⟨tg,rfl,hpt⟩:=HX.out.2.2.2.1.cell (by omega);have old:∀b o,w1.heap[b]?=some o->b≠H+1->wr.heap[b]?=some o:=λb o hb hne=>(hI.old b (zq7 hb) hne).trans hb;have htj:=HX.out.2.2.2.1.th j hlt;have hb1:=old _ _ htj.blk (by
     intro e;have h1:=HX.out.2.2.2.2.blk;rw[←e]at h1;exact absurd (heap_type h1 htj.blk) (by decide))
    have kp:wr.cell? ⟨tg,j,none⟩=some (.pointer (some ⟨tb j,0,none⟩)):=by
     have h1:=hpt j hlt;obtain⟨o,ho⟩:∃o,w1.heap[tg]?=some o:=⟨_,Array.getElem?_eq_getElem (cell_lt h1)⟩;refine(zqc (a:=⟨tg,j,none⟩) ((old tg o ho ?_).trans ho.symm)).trans h1;intro e;obtain⟨⟨c,hc⟩,_⟩:=own_lt HX.out.2.2.2.1.row (show(Value.slice (some ⟨tg,0,none⟩) N C).ownBlock=some tg from rfl);have h1:=HX.out.2.2.2.2.blk;rw[←e]at h1;exact absurd (heap_type h1 hc) (by decide)
    have ka:wr.cell? ⟨tb j,12,none⟩=some (av j):=(zq0 hb1).trans rfl;have kz:wr.cell? ⟨H+1,0,none⟩=some (.slice p j cp):=(zq0 hI.blk).trans rfl;have fz:=zq6 (off:=0) hI.blk;obtain⟨pa,ca,hav,-,-⟩:=own_slice htj.row;obtain⟨na,hna⟩:∃n,(T j).ans.length=n:=⟨_,rfl⟩;rw[hna]at hav;rw[hav]at ka;obtain⟨Z,hZ⟩:∃Z,wr.heap.size=Z:=⟨_,rfl⟩;have kzb:∀o:Obj,(wr.alloc o).cell? ⟨H+1,0,none⟩=some (.slice p j cp):=λo=>(zq0 (al_old (o:=o) hI.blk)).trans rfl;have kpb:∀o:Obj,(wr.alloc o).cell? ⟨tg,j,none⟩=some (.pointer (some ⟨tb j,0,none⟩)):=λo=>(Beyond.alloc wr o).cell kp;have kab:∀o:Obj,(wr.alloc o).cell? ⟨tb j,12,none⟩=some (.slice pa na ca):=λo=>(Beyond.alloc wr o).cell ka;have hrow:∀o:Obj,(wr.alloc o).ownsRow (H+2) 47 1 (.slice p j cp) j (avL av j):=λo=>row_allocK hI.row _;have hnw:∀jj u,[Value.slice pa na ca][jj]?=some u->(wr.alloc (.cells #[.slice pa na ca] 47)).drew.cell? ((⟨Z,0,none⟩:Addr).add jj)=some u:=λjj u hj=>one_new (w:=wr) (T:=47) hZ jj u hj;have hvk:∀(o:Obj)w2,((wr.alloc o).drew).grownBy w2 (Value.slice p j cp).ownBlock->w2.heap[H+1]?=some (.cells #[.slice p j cp,.slice op on oC,.slice sp sn sC,.bool stk] 29):=λo w2 hg=>by
     have h1:=al_old (o:=o) hI.blk;exact(hg.block (H+1) (zq7 h1) (λe=>own_ne hI.row hI.blk (by decide) e.symm)).trans h1
    obtain⟨ti,hti,hz,hz1,hz2⟩:∃ti,Try.prog.info? 47=some ti/\ti.zero=some (.slice none 0 0)/\ti.size=1/\ti.bytes=24:=⟨_,rfl,rfl,rfl,rfl⟩;have hund:Try.prog.underlying 26=some (.slice 47):=by kernel_rfl
    have HT:=Lib.hid (And.intro hti (And.intro hz (And.intro hz1 (And.intro hz2 hund))));have hsz:H+2<=wr.heap.size:=by have:=hI.size;have:=HX.out.2.1;omega
    have HW:=Lib.hid (And.intro hrow (And.intro hnw (And.intro hvk (And.intro hZ (And.intro hsz hav)))));have HL:=Lib.hid (And.intro hk hlt);clear hti hz hz1 hz2 hund hrow hnw hvk hI old htj hb1 hpt hav hna hsz hk hj hlt
    go_wp2_with (fail)
    go_region_law (first
     |(refine step_append_lies _ rfl (.tmp 26) (.tmp 34) 26 rfl (H+2) 47 ti (.slice none 0 0) 1 24 HT.out.2.2.2.2 HT.out.1 HT.out.2.1 HT.out.2.2.1 HT.out.2.2.2.1 rfl Nat.one_pos (.slice p j cp) j (avL av j) rfl (HW.out.1 _) ⟨Z,0,none⟩ 1 1 [.slice pa na ca] rfl rfl HW.out.2.1 ?_ Nat.one_pos ?_ ?_ ?_ (Z+1) ?_ ?_
       · intro u hu;rw[List.mem_singleton.1 hu];rfl
       · simp only[maxLen];omega
       · omega
       · have:=HW.out.2.2.2.2.1;show _<=(wr.alloc _).heap.size;rw[zq3];omega
       · show(wr.alloc _).heap.size=_;rw[zq3,HW.out.2.2.2.1]
       intro g cap w2 k1 k2 k3 k4;have HK:=Lib.hid (And.intro k1 (And.intro k2 k3));have cS:w2.cell? ⟨H+1,0,none⟩=some (.slice p j cp):=(zq0 (HW.out.2.2.1 _ _ k2)).trans rfl;have fS:=zq6 (off:=0) (HW.out.2.2.1 _ _ k2);clear k1 k2 k3 k4))
    all_goals(
     go_wp2_with (fail)
     go_roundg (N - (j+1))
     case measure=>have:=HL.out;omega
     case rel=>
      refine⟨j+1,some ⟨g,0,none⟩,cap,rfl,HL.out.2,(by first|rfl |(congr 1;unfold wrap64;omega)),?_⟩;have hk:=HK.out;have hav:=HW.out.2.2.2.2.2;rw[←hav]at hk;exact tr_push HJ.out (by have:=HX.out.2.1;omega) (by rfl) hk.1 hk.2.1 (by rcases hk.2.2 with e|e;exact .inl e;right;have:=HW.out.2.2.2.1;omega))
  · obtain rfl:N=j:=by omega
    obtain⟨hx,hs1,hn0,hT1,_⟩:=HX.out;have hb:=hI.blk;have hob:wr.heap[H]?=some (.cells #[.slice none 0 0,.slice none 0 0,.slice none 0 0,.bool false] 29):=(hI.old H (by omega) (by omega)).trans hn0;have t0:wr.cell? ⟨H+1,0,none⟩=some (.slice p N cp):=(zq0 hb).trans rfl;have t1:wr.cell? ⟨H+1,1,none⟩=some (.slice op on oC):=(zq0 hb).trans rfl;have t2:wr.cell? ⟨H+1,2,none⟩=some (.slice sp sn sC):=(zq0 hb).trans rfl;have t3:wr.cell? ⟨H+1,3,none⟩=some (.bool stk):=(zq0 hb).trans rfl;have r0:wr.cell? ⟨H,0,none⟩=some (.slice none 0 0):=(zq0 hob).trans rfl;have r1:wr.cell? ⟨H,1,none⟩=some (.slice none 0 0):=(zq0 hob).trans rfl;have r2:wr.cell? ⟨H,2,none⟩=some (.slice none 0 0):=(zq0 hob).trans rfl;have r3:wr.cell? ⟨H,3,none⟩=some (.bool false):=(zq0 hob).trans rfl;have z0:=zq6 (off:=0) hob;have z1:=zq6 (off:=1) hob;have z2:=zq6 (off:=2) hob;have z3:=zq6 (off:=3) hob;have HB:=Lib.hid hob;clear hx hs1 hn0 hT1 hob hb hI hk hj hlt;go_wp2;clear t0 t1 t2 t3 r0 r1 r2 r3 z0 z1 z2 z3;have b1:=zqa wr H 0 (.slice p N cp) HB.out;have b2:=zqa _ H 1 (.slice op on oC) b1;have b3:=zqa _ H 2 (.slice sp sn sC) b2;have b4:=zqa _ H 3 (.bool stk) b3;have hfr:∀b,b≠H->((((wr.setCell ⟨H,0,none⟩ (.slice p N cp)).setCell ⟨H,1,none⟩ (.slice op on oC)).setCell ⟨H,2,none⟩ (.slice sp sn sC)).setCell ⟨H,3,none⟩ (.bool stk)).heap[b]?=wr.heap[b]?:=λb hb=>by rw[zq8 _ _ _ _ hb,zq8 _ _ _ _ hb,zq8 _ _ _ _ hb,zq8 _ _ _ _ hb]
    have hsf:((((wr.setCell ⟨H,0,none⟩ (.slice p N cp)).setCell ⟨H,1,none⟩ (.slice op on oC)).setCell ⟨H,2,none⟩ (.slice sp sn sC)).setCell ⟨H,3,none⟩ (.bool stk)).heap.size=wr.heap.size:=by simp only[zqb]
    generalize ((((wr.setCell ⟨H,0,none⟩ (.slice p N cp)).setCell ⟨H,1,none⟩ (.slice op on oC)).setCell ⟨H,2,none⟩ (.slice sp sn sC)).setCell ⟨H,3,none⟩ (.bool stk))=w8 at b4 hfr hsf ⊢;clear b1 b2 b3;have k0:=(zq0 (off:=0) b4).trans rfl;have k1:=(zq0 (off:=1) b4).trans rfl;have k2:=(zq0 (off:=2) b4).trans rfl;have k3:=(zq0 (off:=3) b4).trans rfl;have hbe:Beyond w w8:=by
     obtain⟨hT,hA,hu,hs,hH,hon,hsn⟩:=HI.out;obtain⟨hx,hs1,hn0,hT1,_⟩:=HX.out;refine⟨by rw[hsf];have:=HJ.out.size;omega,λb hb=>?_⟩;rw[hfr b (by omega),HJ.out.old b (by omega) (by omega)];exact hx.old b hb
    have hfin:TraceAt w8 (.agg #[.slice p N cp,.slice op on oC,.slice sp sn sC,.bool stk]) N (λi=>(T i).ans) (ord.map λ(i:Nat)=>(i:Int)) st stk:=by
     obtain⟨hT,hA,hu,hs,hH,hon,hsn⟩:=HI.out;refine⟨p,cp,_,_,rfl,?_,?_,λh0=>?_⟩
     · have:=ints_of_nats hu.orow;rw[hon]at this;exact this.beyond hbe
     · rw[hsn]at hs;exact hs.beyond hbe
     · rcases HJ.out.row.2 with⟨hv,e0⟩|⟨g,cap,cur,hv,hlo,hh,_,_,_,ht⟩
       · omega
       · cases hv;refine⟨g,0,rfl,λi hi=>⟨av i,?_,(hA i hi).beyond hbe⟩⟩;rw[Nat.zero_add,zq0 ((hfr g (by omega)).trans hh)];have:(avL av N)[i]?=some (av i):=by unfold avL;simp[hi]
         rw[←ht,List.getElem?_take,if_pos (by omega)]at this;simpa using this
    have hnew:∀b o n c ov' sv' st',(Value.agg #[.slice p N cp,.slice op on oC,.slice sp sn sC,.bool stk])=.agg #[.slice (some ⟨b,o,none⟩) n c,ov',sv',st']->w.heap.size<=b:=by
     intro b o n c ov' sv' st' e;obtain⟨hT,hA,hu,hs,hH,hon,hsn⟩:=HI.out;injection e with e
     have e0:=congrArg (λa:Array Value=>a[0]?) e;simp only[al_gl,al_g0,al_oi,Value.slice.injEq]at e0;have e1:=e0.1;rcases HJ.out.row.2 with⟨hv,h0⟩|⟨g,cap,cur,hv,hlo,_⟩
     · cases hv;cases e1
     · cases hv;cases e1;omega
    refine bodyPost_ret (v:=.agg #[.slice p N cp,.slice op on oC,.slice sp sn sC,.bool stk]) ?_ rfl ⟨_,rfl,hfin,hbe,hnew⟩;simp only[results,Try.f42];simp[go_sem,k0,k1,k2,k3]
structure OMach(B mb g NC Cc N:Nat)(tv:Value)(tb:Nat->Nat)(opv:Nat->Value)(ops:Nat->List OpX)(C:Nums)(T:Nat->RTh)(lvs:Nat->List Value)(av:Nat->Value)(w:World):Prop where
 mach:w.heap[mb]?=some (.cells #[.slice (some ⟨g,0,none⟩) NC Cc,tv] 119)
 row:RecRow w B 122 3 (.slice (some ⟨g,0,none⟩) NC Cc) NC (cF C)
 ths:ThsR B N tv tb opv ops T lvs av w
 nol:∀i,i<N->NoL (T i) (lvs i)
 lo:B<=mb
structure HeldB(B:Nat)(w w':World):Prop where
 size:w.heap.size<=w'.heap.size
 old:∀b,b<B->w'.heap[b]?=w.heap[b]?
theorem HeldB.trans {B:Nat}{a b c:World}(h:HeldB B a b)(k:HeldB B b c):HeldB B a c:=⟨Nat.le_trans h.size k.size,λx hx=>(k.old x hx).trans (h.old x hx)⟩
section
variable {B mb g NC Cc N:Nat} {tv:Value} {tb:Nat->Nat} {opv:Nat->Value} {ops:Nat->List OpX} {C C':Nums} {T:Nat->RTh} {lvs:Nat->List Value} {av:Nat->Value} {w w':World}
theorem OMach.more (h:OMach B mb g NC Cc N tv tb opv ops C T lvs av w)(ho:∀b,b<w.heap.size->w'.heap[b]?=w.heap[b]?):OMach B mb g NC Cc N tv tb opv ops C T lvs av w':=
 ⟨(ho _ (zq7 h.mach)).trans h.mach,h.row.of λq hq=>ho q (h.row.lt hq).2.2,h.ths.more ho,h.nol,h.lo⟩
theorem OMach.gblk (h:OMach B mb g NC Cc N tv tb opv ops C T lvs av w):(∃c,w.heap[g]?=some (.cells c 122))/\B<=g/\g<w.heap.size:=h.row.lt (show(Value.slice (some ⟨g,0,none⟩) NC Cc).ownBlock=some g from rfl)
theorem OMach.went (h:OMach B mb g NC Cc N tv tb opv ops C T lvs av w){x:Nat}(hx:x<N){t':RTh}(k:OPost B (tb x) g NC Cc (opv x) (ops x) (av x) w C' t' w'):
 (∃lvs' av',OMach B mb g NC Cc N tv tb opv ops C' (upd' T x t') lvs' av' w')/\HeldB B w w':=by
 obtain⟨lvx,avx,k⟩:=k;obtain⟨⟨cg,hg⟩,hgB,_⟩:=h.gblk;have hxt:=h.ths.th x hx;have old:=k.keep.old;have hsz:=k.keep.size;refine⟨⟨upd' lvs x lvx,upd' av x avx,?_,k.row,⟨ownsRow_of h.ths.row λq hq=>?_,λi hi=>?_,h.ths.inj,λi j q hi hj hne e=>?_⟩,λi hi=>?_,h.lo⟩,hsz,λb hb=>?_⟩
 · exact(old mb (zq7 h.mach) (heap_ne h.mach hxt.blk (by decide)) (heap_ne h.mach hg (by decide)) (own_ne hxt.row h.mach (by decide))).trans h.mach
 · obtain⟨⟨c,hc⟩,_,hl⟩:=own_lt h.ths.row hq;exact old q hl (heap_ne hc hxt.blk (by decide)) (heap_ne hc hg (by decide)) (own_ne hxt.row hc (by decide))
 · by_cases e:i=x
   · subst e;rw[upd'_same,upd'_same,upd'_same];exact k.th
   · rw[upd'_ne _ _ e,upd'_ne _ _ e,upd'_ne _ _ e];have hi':=h.ths.th i hi;refine hi'.frame (old _ (zq7 hi'.blk) (λe2=>e (h.ths.inj i x hi hx e2)) (heap_ne hi'.blk hg (by decide)) (own_ne hxt.row hi'.blk (by decide))) (λq hq=>?_) (λq hq=>?_)
     · obtain⟨⟨c,hc⟩,_,hl⟩:=own_lt hi'.row hq;exact old q hl (heap_ne hc hxt.blk (by decide)) (heap_ne hc hg (by decide)) (h.ths.asep i x q hi hx e hq)
     · obtain⟨⟨c,hc⟩,_,hl⟩:=own_lt hi'.ops.row hq;exact old q hl (heap_ne hc hxt.blk (by decide)) (heap_ne hc hg (by decide)) (own_ne hxt.row hc (by decide))
 · by_cases e1:i=x
   · subst e1;rw[upd'_same]at e;rw[upd'_ne _ _ (λz=>hne z.symm)];rcases k.same q e with e2|e2
     · exact h.ths.asep i j q hi hj hne e2
     · intro e3;have:=(own_lt (h.ths.th j hj).row e3).2.2;omega
   · rw[upd'_ne _ _ e1]at e
     by_cases e2:j=x
     · subst e2;rw[upd'_same];intro e3;rcases k.same q e3 with e4|e4
       · exact h.ths.asep i j q hi hj hne e e4
       · have:=(own_lt (h.ths.th i hi).row e).2.2;omega
     · rw[upd'_ne _ _ e2];exact h.ths.asep i j q hi hj hne e
 · by_cases e:i=x
   · subst e;rw[upd'_same,upd'_same];exact k.nol
   · rw[upd'_ne _ _ e,upd'_ne _ _ e];exact h.nol i hi
 · have h1:=zq7 hxt.blk;have h2:=hxt.lo;exact old b (by omega) (by omega) (by omega) λe=>by have:=(own_lt hxt.row e).2.1;omega
theorem OMach.beside (h:OMach B mb g NC Cc N tv tb opv ops C T lvs av w){ub:Nat}{lv:Value}{l:List Int}{a r most:Nat}{ov:Value}{ord:List Nat}{stk:Bool}(hu:TuI ub lv l a r most ov ord stk B w)(hr:RestU ub ov.ownBlock w w'):OMach B mb g NC Cc N tv tb opv ops C T lvs av w'/\HeldB B w w':=by
 have key:∀(b:Nat)(c:Array Value)(T:TypeId),w.heap[b]?=some (.cells c T)->T≠178->T≠3->w'.heap[b]?=w.heap[b]?:=λb c T hb h1 h2=>hr.old b (zq7 hb) (heap_ne hb hu.blk h1) (own_ne hu.orow hb (λe=>h2 e.symm));refine⟨⟨(key _ _ _ h.mach (by decide) (by decide)).trans h.mach,h.row.of λq hq=>?_,⟨ownsRow_of h.ths.row λq hq=>?_,λi hi=>?_,h.ths.inj,h.ths.asep⟩,h.nol,h.lo⟩,hr.size,λb hb=>?_⟩
 · obtain⟨⟨c,hc⟩,_⟩:=h.row.lt hq;exact key q c _ hc (by decide) (by decide)
 · obtain⟨⟨c,hc⟩,_⟩:=own_lt h.ths.row hq;exact key q c _ hc (by decide) (by decide)
 · have hi':=h.ths.th i hi;refine hi'.frame (key _ _ _ hi'.blk (by decide) (by decide)) (λq hq=>?_) (λq hq=>?_)
   · obtain⟨⟨c,hc⟩,_⟩:=own_lt hi'.row hq;exact key q c _ hc (by decide) (by decide)
   · obtain⟨⟨c,hc⟩,_⟩:=own_lt hi'.ops.row hq;exact key q c _ hc (by decide) (by decide)
 · have h1:=hu.lo;have h2:=zq7 hu.blk;exact hr.old b (by omega) (by omega) λe=>by have:=(own_lt hu.orow e).2.1;omega
theorem tu_beside(h:OMach B mb g NC Cc N tv tb opv ops C T lvs av w){x:Nat}(hx:x<N){ub:Nat}{lv:Value}{l:List Int}{a r most:Nat}{ov:Value}{ord:List Nat}{stk:Bool}(hu:TuI ub lv l a r most ov ord stk B w)(k:KeepM (tb x) g (av x) w w'):TuI ub lv l a r most ov ord stk B w':=by
 obtain⟨⟨cg,hg⟩,hgB,_⟩:=h.gblk;have hxt:=h.ths.th x hx;have key:∀(b:Nat)(c:Array Value)(T:TypeId),w.heap[b]?=some (.cells c T)->T=178\/T=3->w'.heap[b]?=w.heap[b]?:=λb c T hb hT=>by
  refine k.old b (zq7 hb) (heap_ne hb hxt.blk ?_) (heap_ne hb hg ?_) (own_ne hxt.row hb ?_)
  · rcases hT with e|e<;>rw[e]<;>decide
  · rcases hT with e|e<;>rw[e]<;>decide
  · rcases hT with e|e<;>rw[e]<;>decide
 refine⟨(key _ _ _ hu.blk (.inl rfl)).trans hu.blk,ownsRow_of hu.lrow λq hq=>?_,ownsRow_of hu.orow λq hq=>?_,hu.sep,hu.lo⟩
 · obtain⟨⟨c,hc⟩,_⟩:=own_lt hu.lrow hq;exact key q c _ hc (.inr rfl)
 · obtain⟨⟨c,hc⟩,_⟩:=own_lt hu.orow hq;exact key q c _ hc (.inr rfl)
theorem TuI.base {B':Nat}{ub:Nat}{lv:Value}{l:List Int}{a r most:Nat}{ov:Value}{ord:List Nat}{stk:Bool}(h:TuI ub lv l a r most ov ord stk B' w)(hb:B<=B'):TuI ub lv l a r most ov ord stk B w:=⟨h.blk,ownsRow_base h.lrow hb,ownsRow_base h.orow hb,h.sep,Nat.le_trans hb h.lo⟩
theorem OMach.en {p:Option Addr}{Ct:Nat}(h:OMach B mb g NC Cc N (.slice p N Ct) tb opv ops C T lvs av w):∃tg,EnAt N p tg tb (λi=>(T i).en) w:=by
 rcases h.ths.row.2 with⟨hv,h0⟩|⟨tg,cap,cur,hv,hb,hg,h1,h2,h3,h4⟩
 · exact⟨0,λh=>by omega,λh=>by omega,λi hi=>by omega⟩
 · cases hv;refine⟨tg,λ_=>rfl,λ_=>⟨cur,hg,λi hi=>?_⟩,λi hi=>⟨_,(h.ths.th i hi).blk,rfl⟩⟩;have:(cur.toList.take (N*1))[i]?=some (Value.pointer (some ⟨tb i,0,none⟩)):=by
    rw[h4];unfold thPs;simp[hi]
   rw[List.getElem?_take,if_pos (by omega)]at this;simpa using this
theorem ThRep.ansAt {tb:Nat}{opv:Value}{ops:List OpX}{t:RTh}{lvs:List Value}{av:Value}(h:ThRep tyR B tb opv ops t lvs av w)(hn:NoL t lvs):AnsAt w av t.ans:=by
 rcases h.row.2 with⟨hv,h0⟩|⟨g,cap,cur,hv,hb,hg,h1,h2,h3,h4⟩
 · have:t.ans=[]:=List.length_eq_zero_iff.1 h0;rw[hv,this];exact⟨none,0,rfl,λh=>absurd rfl h⟩
 · refine⟨_,cap,hv,λ_=>⟨g,0,rfl,λi a hi=>?_⟩⟩;have hil:=(List.getElem?_eq_some_iff.1 hi).1;obtain⟨v,hvi⟩:∃v,lvs[i]?=some v:=⟨_,List.getElem?_eq_getElem (by rw[h.llen];exact hil)⟩;obtain⟨e0,e1,e2⟩:=ansVs_get h.llen hi hvi;have hcell:∀j x,j<t.ans.length*3->(ansVs t.ans lvs)[j]?=some x->w.cell? ⟨g,j,none⟩=some x:=λj x hj hx=>by
    rw[zq0 hg];rw[←h4,List.getElem?_take,if_pos hj]at hx;simpa using hx
   have hv0:=hn.1 v (List.mem_iff_getElem?.2 ⟨i,hvi⟩);have ha0:=hn.2 a (List.mem_iff_getElem?.2 ⟨i,hi⟩);refine⟨by rw[Nat.zero_add];exact hcell _ _ (by omega) e0,by rw[Nat.zero_add];exact hcell _ _ (by omega) e1,v,by rw[Nat.zero_add];exact hcell _ _ (by omega) e2,?_⟩;rw[hv0,ha0];exact⟨none,0,rfl,λh=>absurd rfl h⟩
end
end Go.Proofs
namespace Go.Car
open Go
section
variable {S1:Type} {M:RM S1} {dop:Nat->OpX->Proc (S1×(Nat->List Ans)) Ans} {Ok:Nat->OpX->RTh->Prop} {cont:Nat->OpX->RTh->Proc (S1×(Nat->List Ans)) Ans} {i:Nat} {ops:List OpX}
theorem settleG_len(hl:RLaw M dop Ok cont):∀(f:Nat)(C:S1)(t:RTh),t.ans.length=t.at'->(settleG M i ops f (C,t)).2.ans.length=(settleG M i ops f (C,t)).2.at':=by
 intro f
 induction f with
 |zero=>exact λC t h=>h
 |succ f ih=>
  intro C t h
  by_cases hp:t.pc=0
  · cases ho:ops[t.at']? with
    |none=>
     have:settleG M i ops (f+1) (C,t)=(C,t):=by
      show(if t.pc=0 then _ else _)=_;rw[if_pos hp];simp only[ho]
     rw[this];exact h
    |some op=>
     rw[settleG_next hp ho];rcases hl.begin i op C (λ_=>[]) t hp with⟨a,C',h1,_⟩|⟨C',t',h1,h2,h3,h4,_⟩
     · rw[h1];exact ih C' (t.fin a) (by show(t.ans++[a]).length=t.at'+1;rw[List.length_append,h];rfl)
     · rw[h1,settleG_on h2];show t'.ans.length=t'.at';rw[h3,h4];exact h
  · rw[settleG_on hp];exact h
theorem setlG_len(hl:RLaw M dop Ok cont)(C:S1)(t:RTh)(h:t.ans.length=t.at'):(setlG M i ops (C,t)).2.ans.length=(setlG M i ops (C,t)).2.at':=settleG_len hl _ C t h
theorem stpG_len(hl:RLaw M dop Ok cont){op:OpX}{C:S1}{t:RTh}(h0:t.pc≠0)(hO:Ok i op t)(h:t.ans.length=t.at'):(M.stp i op C t).2.ans.length=(M.stp i op C t).2.at':=by
 rcases hl.step i op C (λ_=>[]) t h0 hO with⟨t1,a,h1,h2,h3,_⟩|⟨_,h2,h3,_⟩
 · rw[h1];show(t1.ans++[a]).length=t1.at'+1;rw[List.length_append,h3,h2,h];rfl
 · rw[h2,h3];exact h
theorem settleG_le(hl:RLaw M dop Ok cont):∀(f:Nat)(C:S1)(t:RTh),t.at'<=ops.length->(settleG M i ops f (C,t)).2.at'<=ops.length:=by
 intro f
 induction f with
 |zero=>exact λC t h=>h
 |succ f ih=>
  intro C t h
  by_cases hp:t.pc=0
  · cases ho:ops[t.at']? with
    |none=>
     have:settleG M i ops (f+1) (C,t)=(C,t):=by
      show(if t.pc=0 then _ else _)=_;rw[if_pos hp];simp only[ho]
     rw[this];exact h
    |some op=>
     rw[settleG_next hp ho];have hlt:=(List.getElem?_eq_some_iff.1 ho).1;rcases hl.begin i op C (λ_=>[]) t hp with⟨a,C',h1,_⟩|⟨C',t',h1,h2,h3,h4,_⟩
     · rw[h1];exact ih C' (t.fin a) (by show t.at'+1<=_;omega)
     · rw[h1,settleG_on h2];show t'.at'<=_;rw[h3];exact h
  · rw[settleG_on hp];exact h
theorem setlG_le(hl:RLaw M dop Ok cont)(C:S1)(t:RTh)(h:t.at'<=ops.length):(setlG M i ops (C,t)).2.at'<=ops.length:=settleG_le hl _ C t h
theorem stpG_le(hl:RLaw M dop Ok cont){op:OpX}{C:S1}{t:RTh}(h0:t.pc≠0)(hO:Ok i op t)(ho:ops[t.at']?=some op):(M.stp i op C t).2.at'<=ops.length:=by
 have hlt:=(List.getElem?_eq_some_iff.1 ho).1;rcases hl.step i op C (λ_=>[]) t h0 hO with⟨t1,a,h1,h2,h3,_⟩|⟨_,h2,h3,_⟩
 · rw[h1];show t1.at'+1<=_;omega
 · rw[h2];omega
end
theorem skipN_same{N:Nat}{en ov:Nat->Bool}(he:∀i,i<N->en i=ov i){y:Int}(h:skipN N en y):skipN N ov y:=by
 by_cases h1:y<0
 · exact .inl h1
 by_cases h2:(N:Int)<=y
 · exact .inr (.inl h2)
 rcases h with h|h|h
 · exact .inl h
 · exact .inr (.inl h)
 · exact .inr (.inr (by rw[←he _ (by omega)];exact h))
theorem PickR.same {l:List Int}{N a r x a' r':Nat}{en ov:Nat->Bool}(h:PickR l N en a r x a' r')(he:∀i,i<N->en i=ov i):PickR l N ov a r x a' r':=by
 cases h with
 |list hk hx hN h1 hs=>exact .list hk hx hN (by rw[←he _ hN];exact h1) λj y h2 h3 h4=>skipN_same he (hs j y h2 h3 h4)
 |round hs hr hx hN h1 hv ha=>exact .round (λj y h2 h4=>skipN_same he (hs j y h2 h4)) hr hx hN (by rw[←he _ (by rw[hx];exact Nat.mod_lt _ hN)];exact h1) (λj h2 h3=>by rw[←he _ (Nat.mod_lt _ hN)];exact hv j h2 h3) ha
end Go.Car
set_option maxHeartbeats 4000000
set_option maxRecDepth 100000
namespace Go.Proofs
open Go Go.Conc Go.RowKit Go.Car
def OBnd(NC N:Nat)(mo:Int)(ops:Nat->List OpX)(sched:List Int):Prop:=(onceT NC ops N mo sched).ord.length<=1048576/\∀i,i<N->((onceT NC ops N mo sched).s.2 i).length<=(ops i).length/\∀a∈(onceT NC ops N mo sched).s.2 i,a.l=[]
def ORPost(NC N:Nat)(mo:Int)(ops:Nat->List OpX)(sched:List Int)(w:World)(e:Ending)(w':World):Prop:=
 ∃v,e=.returned v/\TraceAt w' v N (onceT NC ops N mo sched).s.2 ((onceT NC ops N mo sched).ord.map λ(i:Nat)=>(i:Int)) (numL (onceT NC ops N mo sched).s.1 NC) (decide (0<leftN (onceT NC ops N mo sched).ov N))/\Beyond w w'/\OBnd NC N mo ops sched
def zeroN:Nums:=λ_ _=>0
structure MkC(B mb j:Nat)(p:Option Addr)(Cp:Nat)(tv:Value)(w0 w:World):Prop where
 blk:w.heap[mb]?=some (.cells #[.slice p j Cp,tv] 119)
 row:RecRow w B 122 3 (.slice p j Cp) j (cF zeroN)
 size:w0.heap.size<=w.heap.size
 old:∀b,b<w0.heap.size->b≠mb->w.heap[b]?=w0.heap[b]?
 new:∀g,(Value.slice p j Cp).ownBlock=some g->w0.heap.size<=g
theorem mkc_push{B mb j g cap Cp:Nat}{p:Option Addr}{tv:Value}{w0 w W w2:World}(h:MkC B mb j p Cp tv w0 w)(hmb:mb<w0.heap.size)(hW:W.heap=(w.alloc (.cells #[.int .i64 0,.int .i64 0,.int .i64 0] 122)).heap)
 (hrow:∀xs,w.ownsRow B 122 3 (.slice p j Cp) j xs->w2.ownsRow B 122 3 (.slice (some ⟨g,0,none⟩) (j+1) cap) (j+1) (xs++[.int .i64 0,.int .i64 0,.int .i64 0])) (hgr:W.grownBy w2 (Value.slice p j Cp).ownBlock) (hat:(Value.slice p j Cp).ownBlock=some g\/g=w.heap.size+1):
 MkC B mb (j+1) (some ⟨g,0,none⟩) cap tv w0 (w2.setCell ⟨mb,0,none⟩ (.slice (some ⟨g,0,none⟩) (j+1) cap)):=by
 have hsz:W.heap.size=w.heap.size+1:=by rw[hW];exact zq3 _ _
 have hWo:∀b,b<w.heap.size->W.heap[b]?=w.heap[b]?:=λb hb=>by rw[hW,zq5,if_neg (by omega)]
 obtain⟨xs,hx,hx2⟩:=h.row;have keep:∀b,b<w.heap.size->(Value.slice p j Cp).ownBlock≠some b->w2.heap[b]?=w.heap[b]?:=λb hb hn=>(hgr.block b (by omega) λe=>hn e.symm).trans (hWo b hb);have hb2:=(keep mb (zq7 h.blk) (own_ne hx h.blk (by decide))).trans h.blk;have hs0:=h.size;have hs2:=hgr.size;have hr2:=hrow xs hx;refine⟨(zqa _ _ _ _ hb2).trans rfl,?_,?_,λb hb hne=>?_,λq hq=>?_⟩
 · refine RecRow.push hx hx2 (ownsRow_of hr2 λy hy=>zq8 _ _ _ _ λe=>?_) rfl _ (λ_ _ _ _=>rfl) (λi hi=>?_)
   · obtain⟨⟨c,hc⟩,_⟩:=own_lt hr2 hy;rw[show y=mb from e,hb2]at hc;cases hc
   · obtain rfl |rfl |rfl:i=0\/i=1\/i=2:=by omega
     all_goals rfl
 · rw[zqb];omega
 · rw[zq8 _ _ _ _ hne,keep b (by omega) λe=>by have:=h.new b e;omega];exact h.old b hb hne
 · simp only[Value.ownBlock,al_oi]at hq;subst hq;rcases hat with e|e
   · exact h.new _ e
   · omega
def opl(NC:Nat)(ops:Nat->List OpX)(i:Nat):Proc SN Unit:=opsP i (doerP NC) (ops i)
def BgI(B mb g NC Cc N:Nat)(tv:Value)(tb:Nat->Nat)(opv:Nat->Value)(ops:Nat->List OpX)(w0:World)(j:Nat)(w:World):Prop:=
 ∃T lvs av,OMach B mb g NC Cc N tv tb opv ops zeroN T lvs av w/\RelG (λ_=>doerP NC) (λ_=>onceC) (λ_=>OkO NC) j ops (beginT (opl NC ops) (zeroN,λ_=>[]) j) zeroN T/\HeldB B w0 w/\∀i,(T i).ans.length=(T i).at'/\(T i).at'<=(ops i).length
structure PlI(B mb g NC Cc N:Nat)(tv:Value)(tb:Nat->Nat)(opv:Nat->Value)(ops:Nat->List OpX)(w0:World)(ub:Nat)(lv:Value)(sched:List Int)(most:Nat)(P:TSt SN)(C:Nums)(T:Nat->RTh)(lvs:Nat->List Value)(av:Nat->Value)(a r:Nat)(ov:Value)(s:TSt SN)(w:World):Prop where
 m:OMach B mb g NC Cc N tv tb opv ops C T lvs av w
 u:TuI ub lv sched a r most ov s.ord false B w
 rel:RelG (λ_=>doerP NC) (λ_=>onceC) (λ_=>OkO NC) N ops s C T
 inv:playInvT sched N most P a r s
 held:HeldB B w0 w
 al:a<=sched.length
 rn:0<N->r<N
 om:s.ord.length<=most
 len:∀i,(T i).ans.length=(T i).at'/\(T i).at'<=(ops i).length
theorem setO{NC:Nat}:∀(i:Nat)(op:OpX)(t:RTh)(b:Bool),(λ(_:Nat)=>OkO NC) i op t->(λ(_:Nat)=>OkO NC) i op {t with en:=b}:=λ_ op t b h=>⟨h.good,h.k1,h.k2,h.k3,h.k4,h.lo⟩
theorem setC':∀(i:Nat)(op:OpX)(t:RTh)(b:Bool),(λ(_:Nat)=>onceC) i op {t with en:=b}=(λ(_:Nat)=>onceC) i op t:=λ_ op t b=>rfl
theorem playInvT_wrap{S:Type}{l:List Int}{N most:Nat}{P s:TSt S}{a r:Nat}(h:playInvT l N most P a r s)(hN:0<N):playInvT l N most P a (r % N) s:=by
 obtain⟨h1,f,q,h2,h3,h4⟩:=h
 by_cases e:r=N
 · subst e;rw[Nat.mod_self];refine⟨Nat.zero_le _,f,q,h2,?_,h4⟩;rcases h3 with e|⟨e,e2⟩
   · exact .inr ⟨rfl,e⟩
   · omega
 · rw[Nat.mod_eq_of_lt (by omega)];exact⟨h1,f,q,h2,h3,h4⟩
theorem begT_ord{S:Type}(pr:Nat->Proc S Unit)(s:S):∀n,(beginT pr s n).ord=[]
 |0=>rfl
 |n+1=>begT_ord pr s n
theorem IntsAt.off {w w8:World}{H:Nat}{v:Value}{l:List Int}(h:IntsAt w v l)(hz:∀i x,w.cell? ⟨H,i,none⟩≠some (.int .i64 x))(hfr:∀b,b≠H->w8.heap[b]?=w.heap[b]?):IntsAt w8 v l:=by
 obtain⟨p,C,e,h⟩:=h;refine⟨p,C,e,λhl=>?_⟩;obtain⟨b,o,e2,h2⟩:=h hl;refine⟨b,o,e2,λi hi=>?_⟩;have h3:=h2 i hi;exact(zqc (a:=⟨b,o+i,none⟩) (hfr b λe=>hz (o+i) _ (by rw[←e];exact h3))).trans h3
theorem AnsAt.off {w w8:World}{H:Nat}{v:Value}{l:List Ans}(h:AnsAt w v l)(hz:∀i x,w.cell? ⟨H,i,none⟩≠some (.int .i64 x))(hfr:∀b,b≠H->w8.heap[b]?=w.heap[b]?):AnsAt w8 v l:=by
 obtain⟨p,C,e,h⟩:=h;refine⟨p,C,e,λhl=>?_⟩;obtain⟨b,o,e2,h2⟩:=h hl;refine⟨b,o,e2,λi a hi=>?_⟩;obtain⟨h3,h4,lv,h5,h6⟩:=h2 i a hi;have hb:b≠H:=λe=>hz (o+i*3+1) _ (by rw[←e];exact h4);exact⟨(zqc (a:=⟨b,o+i*3,none⟩) (hfr b hb)).trans h3,(zqc (a:=⟨b,o+i*3+1,none⟩) (hfr b hb)).trans h4,lv,(zqc (a:=⟨b,o+i*3+2,none⟩) (hfr b hb)).trans h5,h6.off hz hfr⟩
theorem orp_fin{w w1 w2 wx w6 w8:World}{H NC N:Nat}{mo:Int}{ops:Nat->List OpX}{sched:List Int}{C:Nums}{T:Nat->RTh}{s:TSt SN}{stk:Bool}{tv:Value}{tp:Option Addr}{tc:Nat}{ov sv:Value}(hH:w.heap.size=H)(hB1:Beyond w w1)(hs1:w1.heap.size=H+1)(hx:ThsI w1 ops N tv w2)(hh:HeldB w1.heap.size w2 wx)(hb6:Beyond wx w6)
 (hz:w6.heap[H]?=some (.cells #[.slice none 0 0,.slice none 0 0,.slice none 0 0,.bool false] 29)) (hn:∀b o,tp=some ⟨b,o,none⟩->H<b)
 (hT:IntsAt w6 ov (s.ord.map λ(i:Nat)=>(i:Int))/\IntsAt w6 sv (numL C NC)/\(0<N->∃b o,tp=some ⟨b,o,none⟩/\∀i,i<N->∃vi,w6.cell? ⟨b,o+i,none⟩=some vi/\AnsAt w6 vi (T i).ans))
 (hfr:∀b,b≠H->w8.heap[b]?=w6.heap[b]?) (hsf:w8.heap.size=w6.heap.size)
 (hP:onceT NC ops N mo sched=s/\s.s.1=C/\(∀i,s.s.2 i=(T i).ans)/\decide (0<leftN s.ov N)=stk) (hbd:s.ord.length<=1048576/\∀i,i<N->(T i).ans.length<=(ops i).length/\∀a∈(T i).ans,a.l=[]):ORPost NC N mo ops sched w (.returned (.agg #[.slice tp N tc,ov,sv,.bool stk])) w8:=by
 obtain⟨e1,e2,e3,e4⟩:=hP;obtain⟨h1,h2,h3⟩:=hT;have hzz:∀i x,w6.cell? ⟨H,i,none⟩≠some (.int .i64 x):=λi x e=>by
  rw[zq0 hz]at e
  match i,e with
  |0,e=>cases e
  |1,e=>cases e
  |2,e=>cases e
  |3,e=>cases e
  |i+4,e=>simp at e
 have hbd':OBnd NC N mo ops sched:=by
  unfold OBnd;rw[e1];exact⟨hbd.1,λi hi=>by rw[e3 i];exact hbd.2 i hi⟩
 unfold ORPost;rw[e1,e2,e4];refine⟨_,rfl,⟨tp,tc,ov,sv,rfl,h1.off hzz hfr,h2.off hzz hfr,λh0=>?_⟩,?_,hbd'⟩
 · obtain⟨b,o,e5,h4⟩:=h3 h0;refine⟨b,o,e5,λi hi=>?_⟩;obtain⟨vi,h5,h6⟩:=h4 i hi;have hb:=hn b o e5;refine⟨vi,(zqc (a:=⟨b,o+i,none⟩) (hfr b (by omega))).trans h5,?_⟩;rw[e3 i];exact h6.off hzz hfr
 · obtain⟨tb,opv,_,hx⟩:=hx;have q1:=hx.size;have q2:=hh.size;have q3:=hb6.1;refine⟨by omega,λb hb=>?_⟩;rw[hfr b (by omega),hb6.2 b (by omega),hh.old b (by omega),hx.old b (by omega)];exact hB1.2 b hb
theorem orplay_lone{w:World}{cells mo:Int}{pp:Option Addr}{np Cn N:Nat}{tops:Nat->List OpX}{sv:Value}{sched:List Int}(hT:ThrIn w pp np tops)(hn:np<=4611686018427387904)(hN:N=min np 64)(hl:∀i,i<np->(tops i).length<=4611686018427387904)(hs:IntsAt w sv sched)(hsl:sched.length<=1099511627776):
 Calls Try.prog 12 #[.int .i64 cells,.slice pp np Cn,sv,.int .i64 mo] w λe w'=>ORPost (onceN cells) N mo (λi=>(tops i).take 65536) sched w e w':=by
 obtain⟨H,hH⟩:∃H,w.heap.size=H:=⟨_,rfl⟩;obtain⟨NC,hNC⟩:∃NC,onceN cells=NC:=⟨_,rfl⟩;have hNp:0<NC/\NC<=64:=hNC▸onceN_pos cells;have hheld:(if cells<1 then(1:Int)else if cells>64 then 64 else cells)=(NC:Int):=by
  rw[←hNC];unfold onceN;split<;>(try split)<;>omega
 obtain⟨w1,hw1⟩:∃w1,w.alloc (.cells #[.slice none 0 0,.slice none 0 0,.slice none 0 0,.bool false] 29)=w1:=⟨_,rfl⟩;have hB1:Beyond w w1:=hw1▸Beyond.alloc _ _;have hs1:w1.heap.size=H+1:=by rw[←hw1,zq3,hH]
 have hz1:w1.heap[H]?=some (.cells #[.slice none 0 0,.slice none 0 0,.slice none 0 0,.bool false] 29):=by rw[←hw1,←hH];exact al_new _ _
 have hT1:ThrIn w1 pp np tops:=λh0=>by
  obtain⟨pb,po,e,h1⟩:=hT h0;refine⟨pb,po,e,λi hi=>?_⟩;obtain⟨q,C,h2,h3,h4⟩:=h1 i hi;refine⟨q,C,hB1.cell h2,h3,λh5=>?_⟩;obtain⟨gb,go,e2,h6⟩:=h4 h5;refine⟨gb,go,e2,λk c hk j hj=>?_⟩;have h7:=h6 k c hk j hj;obtain⟨v,hv⟩:∃v,c.cells[j]?=some v:=⟨_,List.getElem?_eq_getElem (by simpa[OpX.cells]using hj)⟩;rw[hv]at h7 ⊢;exact hB1.cell h7
 have HTh:=Lib.hid (rthreads_lone (Cn:=Cn) hT1 hn hN hl);have HI:=Lib.hid (And.intro hs (And.intro hsl (And.intro hB1 (And.intro hs1 (And.intro hz1 (And.intro hH (And.intro hNC (And.intro hNp (And.intro hN hheld)))))))));clear hT hT1 hn hl hs hsl hB1 hs1 hz1 hN hNp;rw[hNC];clear hNC hheld
 go_enter Try.func12,Try.ntmps12
 go_wp2_with (fail)
 refine Calls.mono HTh.out ?_;rintro e w2 ⟨tv,rfl,hTI⟩;obtain⟨tp,Ct,rfl⟩:∃tp Ct,tv=.slice tp N Ct:=by
  obtain⟨tb,opv,h,_⟩:=hTI;obtain⟨p,c,e,_⟩:=own_slice h.row;exact⟨p,c,e⟩
 obtain⟨mb,hmb⟩:∃mb,w2.heap.size=mb:=⟨_,rfl⟩;have HT2:=Lib.hid (And.intro hTI hmb);clear hTI HTh
 go_wp2_with (fail)
 clear hmb;have hm3:=al_new w2 (.cells #[.slice none 0 0,.slice tp N Ct] 119);have hs3:(w2.alloc (.cells #[.slice none 0 0,.slice tp N Ct] 119)).heap.size=mb+1:=by rw[zq3,HT2.out.2]
 have ho3:∀b,b<w2.heap.size->(w2.alloc (.cells #[.slice none 0 0,.slice tp N Ct] 119)).heap[b]?=w2.heap[b]?:=λb hb=>by rw[zq5,if_neg (by omega)]
 generalize (w2.alloc (.cells #[.slice none 0 0,.slice tp N Ct] 119))=w3 at hm3 hs3 ho3 ⊢;rw[HT2.out.2]at hm3;have hw13:w1.heap.size<=mb:=by obtain⟨tb,opv,_,hx⟩:=HT2.out.1;have:=hx.size;rw[HT2.out.2]at this;exact this
 have hC0:MkC w1.heap.size mb 0 none 0 (.slice tp N Ct) w3 w3:=⟨hm3,RecRow.nil _ _ _ _ _,Nat.le_refl _,λ_ _ _=>rfl,λg hg=>by cases hg⟩;have H3:=Lib.hid (And.intro hs3 (And.intro ho3 (And.intro hC0 hw13)));clear hm3 hs3 ho3 hC0 hw13 hH
 go_loopg [10] NC (λk s10 wr=>∃(j:Nat)(p:Option Addr)(Cp:Nat),k=NC - j/\j<=NC/\s10=.int .i64 j/\MkC w1.heap.size mb j p Cp (.slice tp N Ct) w3 wr)
 case atStart=>exact⟨0,none,0,rfl,Nat.zero_le _,rfl,H3.out.2.2.1⟩
 case round=>
  obtain⟨j,p,Cp,hk,hj,rfl,hI⟩:=hrel;have HH:=Lib.hid (rheld_lone cells 1 64 wr);have hheld:=HI.out.2.2.2.2.2.2.2.2.2;have hNC64:NC<=64:=HI.out.2.2.2.2.2.2.2.1.2;rw[hheld]at HH;clear hheld;have m0:wr.cell? ⟨mb,0,none⟩=some (.slice p j Cp):=(zq0 hI.blk).trans rfl;have f0:wr.frozen? ⟨mb,0,none⟩=false:=zq6 hI.blk
  by_cases hlt:j<NC
  · have hlt':(j:Int)<(NC:Int):=by omega
    have hj0:(0:Int)<=j:=by omega
    have hj64:(j:Int)<64:=by omega
    have m0a:∀o:Obj,(wr.alloc o).cell? ⟨mb,0,none⟩=some (.slice p j Cp):=λo=>(zq0 (al_old (o:=o) hI.blk)).trans rfl;obtain⟨xs,hxs,_⟩:=id hI.row;obtain⟨Z,hZ⟩:∃Z,wr.heap.size=Z:=⟨_,rfl⟩;obtain⟨ti,hti,hz,hz1,hz2⟩:∃ti,Try.prog.info? 122=some ti/\ti.zero=some (.agg #[.int .i64 0,.int .i64 0,.int .i64 0])/\ti.size=3/\ti.bytes=24:=⟨_,rfl,rfl,rfl,rfl⟩;have hBZ:w1.heap.size<=(wr.alloc (.cells #[.int .i64 0,.int .i64 0,.int .i64 0] 122)).heap.size:=by rw[zq3];have:=hI.size;have:=H3.out.1;have:=H3.out.2.2.2;omega
    obtain⟨g,cap,w5,hrun,hown,hgrow,hat,hlt5⟩:=run_append_lies (P:=Try.prog) (wr.alloc (.cells #[.int .i64 0,.int .i64 0,.int .i64 0] 122)) 117 117 w1.heap.size 122 ti _ 3 24 (by kernel_rfl) hti hz hz1 hz2 rfl (by decide) (.slice p j Cp) j xs (row_allocK hxs _) ⟨Z,0,none⟩ 1 1 [.int .i64 0,.int .i64 0,.int .i64 0] rfl (λjj u hj=>news_new hZ jj u hj) (by intro u hu;simp only[List.mem_cons,List.not_mem_nil,or_false]at hu;rcases hu with rfl |rfl |rfl<;>rfl) (by decide) (by simp only[maxLen];omega) (by omega) hBZ _ rfl;have hb5:w5.heap[mb]?=some (.cells #[.slice p j Cp,.slice tp N Ct] 119):=(hgrow.block mb (zq7 (al_old (o:=_) hI.blk)) (λe=>own_ne hxs hI.blk (by decide) e.symm)).trans (al_old hI.blk);have c5:w5.cell? ⟨mb,0,none⟩=some (.slice p j Cp):=(zq0 hb5).trans rfl;have f5:=zq6 (off:=0) hb5;have hP:=mkc_push hI (by have:=H3.out.1;omega) (by rfl) (λys hys=>by
     have e:ys=xs:=by
      rcases hys.2 with⟨hv,h0⟩|⟨g1,cap1,cur1,hv,_,hh,_,_,_,ht1⟩
      · have h1:=hys.1;have h2:=hxs.1;rw[h0]at h1 h2;rw[List.eq_nil_of_length_eq_zero (by omega:ys.length=0),List.eq_nil_of_length_eq_zero (by omega:xs.length=0)]
      · rcases hxs.2 with⟨hv2,h0⟩|⟨g2,cap2,cur2,hv2,_,hh2,_,_,_,ht2⟩
        · rw[hv2]at hv;cases hv
        · rw[hv2]at hv;simp only[Value.slice.injEq,al_oi,Addr.mk.injEq]at hv;obtain⟨⟨e1,_⟩,_,_⟩:=hv;rw[e1,hh]at hh2;cases hh2;rw[←ht1,ht2]
     rw[e];exact hown) hgrow (by rcases hat with e|e;exact .inl e;right;rw[e,zq3])
    have HP:=Lib.hid (And.intro hP (And.intro hk hlt));clear hP hk hlt hI hxs hti hz hz1 hz2 hBZ hown hgrow hat hlt5 hb5
    go_wp2_with (fail)
    refine Calls.mono HH.out ?_;rintro e w' ⟨rfl,rfl⟩
    go_wp2_with (at_builtin;go_loud (refine wpList_arun rfl (.tmp 28) (.tmp 30) 117 rfl hrun ?_))
    go_roundg (NC - (j+1))
    case measure=>have:=HP.out.2;omega
    case rel=>exact⟨j+1,_,_,rfl,HP.out.2.2,(by first|rfl |(congr 1;unfold wrap64;omega)),HP.out.1⟩
  · obtain rfl:NC=j:=by omega
    have hNC0:0<NC:=HI.out.2.2.2.2.2.2.2.1.1;obtain⟨p',C',e',hpg⟩:=hI.row.form;cases e';obtain⟨g,rfl,_⟩:=hpg hNC0;clear hpg;have hB0:∃tb opv,BgI w1.heap.size mb g NC Cp N (.slice tp N Ct) tb opv (λi=>(tops i).take 65536) w2 0 wr:=by
     obtain⟨tb,opv,hTh,hx⟩:=HT2.out.1;have hw2:∀b,b<w2.heap.size->wr.heap[b]?=w2.heap[b]?:=λb hb=>by
      have h1:=HT2.out.2;have h2:=H3.out.1;exact(hI.old b (by omega) (by omega)).trans (H3.out.2.1 b hb)
     refine⟨tb,opv,λ_=>RTh.z,λ_=>[],λ_=>.slice none 0 0,⟨hI.blk,hI.row,hTh.more hw2,λi hi=>⟨λv hv=>absurd hv (by simp),λa ha=>absurd ha (by show ¬a∈([]:List Ans);simp)⟩,H3.out.2.2.2⟩,RelG.zero _ _ _ _ _ _,⟨?_,λb hb=>?_⟩,?_⟩
     · have h1:=hI.size;have h2:=H3.out.1;have h3:=HT2.out.2;omega
     · have h1:=hx.size;exact hw2 b (by omega)
     · intro i;exact⟨rfl,Nat.zero_le _⟩
    obtain⟨tb,opv,hB0⟩:=hB0;have HB0:=Lib.hid hB0;clear hB0 hI hk hj hlt f0 m0
    go_wp2_with (fail)
    refine Calls.mono HH.out ?_;rintro e w' ⟨rfl,hw'⟩;subst hw';clear HH;generalize w'=wB at *
    go_wp2_with (fail)
    go_loopg [11] N (λk s11 wx=>∃(j:Nat),k=N - j/\j<=N/\s11=.int .i64 j/\BgI w1.heap.size mb g NC Cp N (.slice tp N Ct) tb opv (λi=>(tops i).take 65536) w2 j wx)
    case atStart=>exact⟨0,rfl,Nat.zero_le _,rfl,HB0.out⟩
    case round=>
     obtain⟨j,hk,hj,rfl,T,lvs,av,hM,hRl,hHe,hLe⟩:=hrel;have hN64:N<=64:=by have:=HI.out.2.2.2.2.2.2.2.2.1;omega
     have m1:wr.cell? ⟨mb,1,none⟩=some (.slice tp N Ct):=(zq0 hM.mach).trans rfl
     by_cases hlt:j<N
     · have hlt':(j:Int)<(N:Int):=by omega
       have hj0:(0:Int)<=j:=by omega
       have hj64:(j:Int)<64:=by omega
       obtain⟨tg,rfl,hpt⟩:=hM.ths.cell (by omega);have kp:=hpt j hlt;have htj:=hM.ths.th j hlt;obtain⟨hz,hov⟩:=hRl.un j (Nat.le_refl _);have hcall:=obegin_lone (i:=j) (C:=zeroN) htj (hM.nol j hlt) (Nat.le_trans htj.lo (Nat.le_of_lt (zq7 htj.blk))) (by rw[hz];rfl) (by rw[hz];exact Nat.zero_le _) (by rw[List.length_take];omega) HI.out.2.2.2.2.2.2.2.1.2 hM.mach;have HC:=Lib.hid hcall;have HM:=Lib.hid (And.intro hM (And.intro hRl (And.intro hHe (And.intro hk (And.intro hlt (And.intro hz hLe))))));clear hcall hM hRl hHe hLe hk hlt hpt htj hz hov
       go_wp2_with (fail)
       refine Calls.mono HC.out ?_;rintro e w' ⟨rfl,hP⟩;have hnext:BgI w1.heap.size mb g NC Cp N (.slice (some ⟨tg,0,none⟩) N Ct) tb opv (λi=>(tops i).take 65536) w2 (j+1) w':=by
        obtain⟨hM,hRl,hHe,hk,hlt,hz,hLe⟩:=HM.out;have hst:=ORun.start (hM.ths.th j hlt) (hM.nol j hlt) hM.row;obtain⟨⟨lvs',av',hM'⟩,hH'⟩:=hM.went hlt (hst.told hP);rw[hz]at hM';have hb:=RelG.begin (onceLaw NC) setO setC' hRl;have hfst:(setlG (onceM NC) j ((tops j).take 65536) (zeroN,RTh.z)).1=zeroN:=settle_fst _ _ _;rw[hfst]at hb;refine⟨_,lvs',av',hM',hb,hHe.trans hH',λi=>?_⟩
        by_cases e:i=j
        · subst e;rw[upd'_same];exact⟨setlG_len (onceLaw NC) _ _ rfl,setlG_le (onceLaw NC) _ _ (Nat.zero_le _)⟩
        · rw[upd'_ne _ _ e];exact hLe i
       have HN:=Lib.hid hnext;clear hnext hP HC m1 kp
       go_wp2_with (fail)
       go_roundg (N - (j+1))
       case measure=>have:=HM.out.2.2.2;omega
       case rel=>exact⟨j+1,rfl,HM.out.2.2.2.2.1,(by first|rfl |(congr 1;unfold wrap64;omega)),HN.out⟩
     · obtain rfl:N=j:=by omega
       have hold:Beyond w wr:=by
        obtain⟨tb',opv',_,hx⟩:=HT2.out.1;have h1:=HI.out.2.2.1;have h2:=HI.out.2.2.2.1;have h3:=HI.out.2.2.2.2.2.1;have h4:=hx.size;refine⟨by have:=hHe.size;omega,λb hb=>?_⟩;rw[hHe.old b (by omega),hx.old b (by omega)];exact h1.2 b hb
       have hNT:=rnewturn_lone (mo:=mo) HI.out.2.1 (HI.out.1.beyond hold);have HNT:=Lib.hid hNT;have HM:=Lib.hid (And.intro hM (And.intro hRl (And.intro hHe hLe)));clear hNT hold hM hRl hHe hLe hk hj hlt;generalize wr=wD at *
       go_wp2_with (fail)
       refine Calls.mono HNT.out ?_;rintro e w4 ⟨ub,lv,rfl,hU,hX⟩;obtain⟨P,hP⟩:∃P,onceT NC (λi=>(tops i).take 65536) N mo sched=P:=⟨_,rfl⟩;have hP0:playInvT sched N (min mo.toNat 1048576) P 0 0 (beginT (opl NC (λi=>(tops i).take 65536)) (zeroN,λ_=>[]) N):=by
        rw[←hP];exact playInvT_start _ _ _
       have hI0:PlI w1.heap.size mb g NC Cp N (.slice tp N Ct) tb opv (λi=>(tops i).take 65536) w2 ub lv sched (min mo.toNat 1048576) P zeroN T lvs av 0 0 (.slice none 0 0) (beginT (opl NC (λi=>(tops i).take 65536)) (zeroN,λ_=>[]) N) w4:=by
        obtain⟨hM,hRl,hHe,hLe⟩:=HM.out;have ho:(beginT (opl NC (λi=>(tops i).take 65536)) (zeroN,λ_=>[]) N).ord=[]:=begT_ord _ _ _;refine⟨hM.more hX.old,?_,hRl,hP0,hHe.trans ⟨hX.size,λb hb=>hX.old b ?_⟩,Nat.zero_le _,λh=>h,by rw[ho];exact Nat.zero_le _,hLe⟩
        · rw[ho];exact hU.base (by have:=hHe.size;obtain⟨_,_,_,hx⟩:=HT2.out.1;have:=hx.size;omega)
        · have:=hHe.size;obtain⟨_,_,_,hx⟩:=HT2.out.1;have:=hx.size;omega
       have HI0:=Lib.hid (And.intro hI0 hP);have hmo:min mo.toNat 1048576<=1048576:=Nat.min_le_right _ _;obtain⟨most,hmost⟩:∃most,min mo.toNat 1048576=most:=⟨_,rfl⟩;rw[hmost]at HI0 hmo;clear hI0 hP hP0 hU hX HM HNT hmost
       go_wp2_with (fail)
       go_loopg [13] (most+1) (λk s13 wx=>∃(C:Nums)(T:Nat->RTh)(lvs:Nat->List Value)(av:Nat->Value)(a r:Nat)(ov:Value)(s:TSt SN),k=most+1 - s.ord.length/\PlI w1.heap.size mb g NC Cp N (.slice tp N Ct) tb opv (λi=>(tops i).take 65536) w2 ub lv sched most P C T lvs av a r ov s wx)
       case atStart=>exact⟨_,_,_,_,_,_,_,_,by rw[begT_ord];rfl,HI0.out.1⟩
       case round=>
        obtain⟨C,T,lvs,av,a,r,ov,s,hk,hI⟩:=hrel;have hN64:N<=64:=by have:=HI.out.2.2.2.2.2.2.2.2.1;omega
        have m1:wr.cell? ⟨mb,1,none⟩=some (.slice tp N Ct):=(zq0 hI.m.mach).trans rfl;obtain⟨tg,hEn⟩:=hI.m.en;have hpick:=rpick_lone (C:=Ct) hN64 HI.out.2.1 hI.al hI.rn (by have:=hI.om;omega) hmo hI.u hEn;have hlo:=hI.rel.left;have hzz:∀W,HeldB w1.heap.size w2 W->W.heap[H]?=some (.cells #[.slice none 0 0,.slice none 0 0,.slice none 0 0,.bool false] 29):=λW hW=>by
         obtain⟨_,_,_,hx⟩:=HT2.out.1;have h1:=HI.out.2.2.2.1;have h2:=hx.size;rw[hW.old H (by omega),hx.old H (by omega)];exact HI.out.2.2.2.2.1
        have HZ:=Lib.hid hzz;have HP:=Lib.hid hpick;have HJ:=Lib.hid (And.intro hI (And.intro hk (And.intro hlo hEn)));clear hpick hI hk hlo hEn hN64 hzz
        go_wp2_with (fail)
        refine Calls.mono HP.out ?_;rintro e wp hpost;rcases hpost with⟨h0,rfl,hw⟩|⟨h0,h1,rfl,hU,hR⟩|⟨h0,h1,x,a',r',ov',rfl,hK,ha',hr',hU,hR,hS⟩
        ·
         have hI:=HJ.out.1;have hPs:=playInvT_stop hI.inv (.inl (HJ.out.2.2.1.trans h0));have HE:=Lib.hid (And.intro hI.m (And.intro hI.u (And.intro hI.held (HZ.out _ hI.held))));rw[←hw]at HE;have HPE:=Lib.hid (And.intro (HI0.out.2.trans hPs) (And.intro hI.rel.c (And.intro hI.rel.ans (show decide (0<leftN s.ov N)=false by rw[HJ.out.2.2.1,h0];rfl))));have HBD:=Lib.hid (show s.ord.length<=1048576/\∀i,i<N->(T i).ans.length<=((tops i).take 65536).length/\∀a∈(T i).ans,a.l=[]from⟨Nat.le_trans hI.om hmo,λi hi=>⟨Nat.le_trans (Nat.le_of_eq (hI.len i).1) (hI.len i).2,(hI.m.nol i hi).2⟩⟩);clear hI hPs hw m1 HP;have hSt:∀W,Beyond wp W->Calls Try.prog 43 #[.pointer (some ⟨mb,0,none⟩)] W λe w'=>OStPost C NC W e w':=λW hb=>omstate_lone HI.out.2.2.2.2.2.2.2.1.2 (HE.out.1.more hb.2).mach (HE.out.1.more hb.2).row;have hTr:∀W v,Beyond wp W->IntsAt W v (numL C NC)->Calls Try.prog 42 #[.pointer (some ⟨ub,0,none⟩),.slice tp N Ct,v] W λe w'=>RTracePost N T s.ord (numL C NC) false W e w':=λW v hb hv=>rtrace_lone (by have:=HI.out.2.2.2.2.2.2.2.2.1;omega) (HE.out.1.more hb.2).ths (λi hi=>ThRep.ansAt ((HE.out.1.more hb.2).ths.th i hi) ((HE.out.1.more hb.2).nol i hi)) (HE.out.2.1.more hb.2) hv;have hHz:∀W,Beyond wp W->W.heap[H]?=some (.cells #[.slice none 0 0,.slice none 0 0,.slice none 0 0,.bool false] 29):=λW hb=>(hb.2 H (zq7 HE.out.2.2.2)).trans HE.out.2.2.2;have HS:=Lib.hid hSt;have HTr:=Lib.hid hTr;have HHz:=Lib.hid hHz;clear hSt hTr hHz;have m1:(wp).cell? ⟨mb,1,none⟩=some (.slice tp N Ct):=(zq0 HE.out.1.mach).trans rfl
         go_wp2_with (fail)
         go_region_law (first
          |(go_simp;go_at_call 43;refine Calls.mono (HS.out _ ⟨Nat.le_refl _,λ_ _=>rfl⟩) ?_;rintro e w5 ⟨v5,rfl,hN5⟩
            have hb5:Beyond (wp) w5:=⟨hN5.be.1,hN5.be.2⟩;have hv5:IntsAt w5 v5 (numL C NC):=ints_of_row hN5.row;have m15:=hb5.cell m1;have H5:=Lib.hid (And.intro hb5 hv5);clear hN5 hb5 hv5)
          |(go_simp;go_at_call 42;refine Calls.mono (HTr.out _ _ H5.out.1 H5.out.2) ?_;rintro e w6 ⟨v6,rfl,hTA,hb6,hnw⟩
            obtain⟨tp6,tc6,to6,ts6,rfl,hTA1⟩:=hTA;obtain⟨oq6,oC6,hto,-⟩:=id hTA1.1;obtain⟨sq6,sC6,hts,-⟩:=id hTA1.2.1;rw[List.length_map]at hto;subst hto;subst hts;have hnw1:∀b o,tp6=some ⟨b,o,none⟩->H<b:=λb o e=>by
             have h1:=hnw b o _ _ _ _ _ (by rw[e]);have h2:=H5.out.1.1;have h3:=zq7 HE.out.2.2.2;omega
            have hb6':Beyond (wp) w6:=H5.out.1.trans hb6;have hz6:=HHz.out _ hb6';have r0:w6.cell? ⟨H,0,none⟩=some (.slice none 0 0):=(zq0 hz6).trans rfl;have r1:w6.cell? ⟨H,1,none⟩=some (.slice none 0 0):=(zq0 hz6).trans rfl;have r2:w6.cell? ⟨H,2,none⟩=some (.slice none 0 0):=(zq0 hz6).trans rfl;have r3:w6.cell? ⟨H,3,none⟩=some (.bool false):=(zq0 hz6).trans rfl;have z0:=zq6 (off:=0) hz6;have z1:=zq6 (off:=1) hz6;have z2:=zq6 (off:=2) hz6;have z3:=zq6 (off:=3) hz6;have H6:=Lib.hid (And.intro hb6' (And.intro hz6 (And.intro hTA1 hnw1)));clear hb6 hb6' hz6 hTA1 hnw hnw1))
         all_goals(
          go_wp2;clear r0 r1 r2 r3 z0 z1 z2 z3;have b1:=zqa w6 H 0 (.slice tp6 N tc6) H6.out.2.1;have b2:=zqa _ H 1 (.slice oq6 s.ord.length oC6) b1;have b3:=zqa _ H 2 (.slice sq6 (numL C NC).length sC6) b2;have b4:=zqa _ H 3 (.bool false) b3;have hfr:∀b,b≠H->((((w6.setCell ⟨H,0,none⟩ (.slice tp6 N tc6)).setCell ⟨H,1,none⟩ (.slice oq6 s.ord.length oC6)).setCell ⟨H,2,none⟩ (.slice sq6 (numL C NC).length sC6)).setCell ⟨H,3,none⟩ (.bool false)).heap[b]?=w6.heap[b]?:=λb hb=>by rw[zq8 _ _ _ _ hb,zq8 _ _ _ _ hb,zq8 _ _ _ _ hb,zq8 _ _ _ _ hb]
          have hsf:((((w6.setCell ⟨H,0,none⟩ (.slice tp6 N tc6)).setCell ⟨H,1,none⟩ (.slice oq6 s.ord.length oC6)).setCell ⟨H,2,none⟩ (.slice sq6 (numL C NC).length sC6)).setCell ⟨H,3,none⟩ (.bool false)).heap.size=w6.heap.size:=by simp only[zqb]
          generalize ((((w6.setCell ⟨H,0,none⟩ (.slice tp6 N tc6)).setCell ⟨H,1,none⟩ (.slice oq6 s.ord.length oC6)).setCell ⟨H,2,none⟩ (.slice sq6 (numL C NC).length sC6)).setCell ⟨H,3,none⟩ (.bool false))=w8 at b4 hfr hsf ⊢;clear b1 b2 b3;have k0:=(zq0 (off:=0) b4).trans rfl;have k1:=(zq0 (off:=1) b4).trans rfl;have k2:=(zq0 (off:=2) b4).trans rfl;have k3:=(zq0 (off:=3) b4).trans rfl;have hfin:=orp_fin (tp:=tp6) (tc:=tc6) (ov:=(.slice oq6 s.ord.length oC6)) (sv:=(.slice sq6 (numL C NC).length sC6)) HI.out.2.2.2.2.2.1 HI.out.2.2.1 HI.out.2.2.2.1 HT2.out.1 HE.out.2.2.1 H6.out.1 H6.out.2.1 H6.out.2.2.2 H6.out.2.2.1 hfr hsf HPE.out HBD.out;refine bodyPost_ret (v:=.agg #[.slice tp6 N tc6,(.slice oq6 s.ord.length oC6),(.slice sq6 (numL C NC).length sC6),.bool false]) ?_ rfl hfin;simp only[results,Try.f12];simp[go_sem,k0,k1,k2,k3])
        ·
         have hI:=HJ.out.1;have hom:=hI.om;have hPs:=playInvT_stop hI.inv (.inr (by omega));have hb:=hI.m.beside hI.u hR;have hh:=hI.held.trans hb.2;have HE:=Lib.hid (And.intro hb.1 (And.intro hU (And.intro hh (HZ.out _ hh))));have HPE:=Lib.hid (And.intro (HI0.out.2.trans hPs) (And.intro hI.rel.c (And.intro hI.rel.ans (show decide (0<leftN s.ov N)=true by rw[HJ.out.2.2.1];exact decide_eq_true h0))));have HBD:=Lib.hid (show s.ord.length<=1048576/\∀i,i<N->(T i).ans.length<=((tops i).take 65536).length/\∀a∈(T i).ans,a.l=[]from⟨Nat.le_trans hI.om hmo,λi hi=>⟨Nat.le_trans (Nat.le_of_eq (hI.len i).1) (hI.len i).2,(hI.m.nol i hi).2⟩⟩);clear hI hom hPs hb hh hU hR h0 h1 m1 HP;have hSt:∀W,Beyond wp W->Calls Try.prog 43 #[.pointer (some ⟨mb,0,none⟩)] W λe w'=>OStPost C NC W e w':=λW hb=>omstate_lone HI.out.2.2.2.2.2.2.2.1.2 (HE.out.1.more hb.2).mach (HE.out.1.more hb.2).row;have hTr:∀W v,Beyond wp W->IntsAt W v (numL C NC)->Calls Try.prog 42 #[.pointer (some ⟨ub,0,none⟩),.slice tp N Ct,v] W λe w'=>RTracePost N T s.ord (numL C NC) true W e w':=λW v hb hv=>rtrace_lone (by have:=HI.out.2.2.2.2.2.2.2.2.1;omega) (HE.out.1.more hb.2).ths (λi hi=>ThRep.ansAt ((HE.out.1.more hb.2).ths.th i hi) ((HE.out.1.more hb.2).nol i hi)) (HE.out.2.1.more hb.2) hv;have hHz:∀W,Beyond wp W->W.heap[H]?=some (.cells #[.slice none 0 0,.slice none 0 0,.slice none 0 0,.bool false] 29):=λW hb=>(hb.2 H (zq7 HE.out.2.2.2)).trans HE.out.2.2.2;have HS:=Lib.hid hSt;have HTr:=Lib.hid hTr;have HHz:=Lib.hid hHz;clear hSt hTr hHz;have m1:(wp).cell? ⟨mb,1,none⟩=some (.slice tp N Ct):=(zq0 HE.out.1.mach).trans rfl
         go_wp2_with (fail)
         go_region_law (first
          |(go_simp;go_at_call 43;refine Calls.mono (HS.out _ ⟨Nat.le_refl _,λ_ _=>rfl⟩) ?_;rintro e w5 ⟨v5,rfl,hN5⟩
            have hb5:Beyond (wp) w5:=⟨hN5.be.1,hN5.be.2⟩;have hv5:IntsAt w5 v5 (numL C NC):=ints_of_row hN5.row;have m15:=hb5.cell m1;have H5:=Lib.hid (And.intro hb5 hv5);clear hN5 hb5 hv5)
          |(go_simp;go_at_call 42;refine Calls.mono (HTr.out _ _ H5.out.1 H5.out.2) ?_;rintro e w6 ⟨v6,rfl,hTA,hb6,hnw⟩
            obtain⟨tp6,tc6,to6,ts6,rfl,hTA1⟩:=hTA;obtain⟨oq6,oC6,hto,-⟩:=id hTA1.1;obtain⟨sq6,sC6,hts,-⟩:=id hTA1.2.1;rw[List.length_map]at hto;subst hto;subst hts;have hnw1:∀b o,tp6=some ⟨b,o,none⟩->H<b:=λb o e=>by
             have h1:=hnw b o _ _ _ _ _ (by rw[e]);have h2:=H5.out.1.1;have h3:=zq7 HE.out.2.2.2;omega
            have hb6':Beyond (wp) w6:=H5.out.1.trans hb6;have hz6:=HHz.out _ hb6';have r0:w6.cell? ⟨H,0,none⟩=some (.slice none 0 0):=(zq0 hz6).trans rfl;have r1:w6.cell? ⟨H,1,none⟩=some (.slice none 0 0):=(zq0 hz6).trans rfl;have r2:w6.cell? ⟨H,2,none⟩=some (.slice none 0 0):=(zq0 hz6).trans rfl;have r3:w6.cell? ⟨H,3,none⟩=some (.bool false):=(zq0 hz6).trans rfl;have z0:=zq6 (off:=0) hz6;have z1:=zq6 (off:=1) hz6;have z2:=zq6 (off:=2) hz6;have z3:=zq6 (off:=3) hz6;have H6:=Lib.hid (And.intro hb6' (And.intro hz6 (And.intro hTA1 hnw1)));clear hb6 hb6' hz6 hTA1 hnw hnw1))
         all_goals(
          go_wp2;clear r0 r1 r2 r3 z0 z1 z2 z3;have b1:=zqa w6 H 0 (.slice tp6 N tc6) H6.out.2.1;have b2:=zqa _ H 1 (.slice oq6 s.ord.length oC6) b1;have b3:=zqa _ H 2 (.slice sq6 (numL C NC).length sC6) b2;have b4:=zqa _ H 3 (.bool true) b3;have hfr:∀b,b≠H->((((w6.setCell ⟨H,0,none⟩ (.slice tp6 N tc6)).setCell ⟨H,1,none⟩ (.slice oq6 s.ord.length oC6)).setCell ⟨H,2,none⟩ (.slice sq6 (numL C NC).length sC6)).setCell ⟨H,3,none⟩ (.bool true)).heap[b]?=w6.heap[b]?:=λb hb=>by rw[zq8 _ _ _ _ hb,zq8 _ _ _ _ hb,zq8 _ _ _ _ hb,zq8 _ _ _ _ hb]
          have hsf:((((w6.setCell ⟨H,0,none⟩ (.slice tp6 N tc6)).setCell ⟨H,1,none⟩ (.slice oq6 s.ord.length oC6)).setCell ⟨H,2,none⟩ (.slice sq6 (numL C NC).length sC6)).setCell ⟨H,3,none⟩ (.bool true)).heap.size=w6.heap.size:=by simp only[zqb]
          generalize ((((w6.setCell ⟨H,0,none⟩ (.slice tp6 N tc6)).setCell ⟨H,1,none⟩ (.slice oq6 s.ord.length oC6)).setCell ⟨H,2,none⟩ (.slice sq6 (numL C NC).length sC6)).setCell ⟨H,3,none⟩ (.bool true))=w8 at b4 hfr hsf ⊢;clear b1 b2 b3;have k0:=(zq0 (off:=0) b4).trans rfl;have k1:=(zq0 (off:=1) b4).trans rfl;have k2:=(zq0 (off:=2) b4).trans rfl;have k3:=(zq0 (off:=3) b4).trans rfl;have hfin:=orp_fin (tp:=tp6) (tc:=tc6) (ov:=(.slice oq6 s.ord.length oC6)) (sv:=(.slice sq6 (numL C NC).length sC6)) HI.out.2.2.2.2.2.1 HI.out.2.2.1 HI.out.2.2.2.1 HT2.out.1 HE.out.2.2.1 H6.out.1 H6.out.2.1 H6.out.2.2.2 H6.out.2.2.1 hfr hsf HPE.out HBD.out;refine bodyPost_ret (v:=.agg #[.slice tp6 N tc6,(.slice oq6 s.ord.length oC6),(.slice sq6 (numL C NC).length sC6),.bool true]) ?_ rfl hfin;simp only[results,Try.f12];simp[go_sem,k0,k1,k2,k3])
        ·
         have hI:=HJ.out.1;obtain⟨hxN,hxe⟩:=hK.lt;have hb:=hI.m.beside hI.u hR;have hh:=hI.held.trans hb.2;obtain⟨op,hop,hpc,hOk,hrel⟩:=RelG.step (onceLaw NC) setO setC' hI.rel hxN hxe (ord':=s.ord++[x]);have hinv:=playInvT_wrap (playInvT_step hI.inv h1 (hK.same λi hi=>(hI.rel.thr i hi).2.1.symm)) (by omega);have hE2:=HJ.out.2.2.2.rest hI.u hR;obtain⟨kp,_⟩:=hE2.cell hxN;obtain rfl:=hE2.ptr (by omega);have hstep:=ostep_lone (i:=x) (hb.1.ths.th x hxN) (hb.1.nol x hxN) hb.1.row (hI.len x).1 (by show((tops x).take 65536).length<=65536;rw[List.length_take];omega) HI.out.2.2.2.2.2.2.2.1.2 hb.1.mach hop hpc hOk;have m1p:wp.cell? ⟨mb,1,none⟩=some (.slice (some ⟨tg,0,none⟩) N Ct):=(zq0 hb.1.mach).trans rfl;have HS:=Lib.hid hstep;have HQ:=Lib.hid (And.intro hb.1 (And.intro hh (And.intro hrel (And.intro hinv (And.intro hU (And.intro ha' (And.intro hxN (And.intro h1 (And.intro (show(setlG (onceM NC) x ((tops x).take 65536) ((onceM NC).stp x op C (T x))).2.ans.length=(setlG (onceM NC) x ((tops x).take 65536) ((onceM NC).stp x op C (T x))).2.at' from setlG_len (onceLaw NC) ((onceM NC).stp x op C (T x)).1 ((onceM NC).stp x op C (T x)).2 (stpG_len (onceLaw NC) hpc hOk (hI.len x).1)) (And.intro hI.len (show(setlG (onceM NC) x ((tops x).take 65536) ((onceM NC).stp x op C (T x))).2.at'<=((tops x).take 65536).length from setlG_le (onceLaw NC) ((onceM NC).stp x op C (T x)).1 ((onceM NC).stp x op C (T x)).2 (stpG_le (onceLaw NC) hpc hOk hop))))))))))));have hx0:(0:Int)<=(x:Int):=by omega
         have hxN':(x:Int)<(N:Int):=by omega
         clear hI hb hh hrel hinv hU hR hS hE2 hK h0 h1 hop hpc hOk ha' hr' hxe hstep m1 HP
         go_wp2_with (fail)
         refine Calls.mono HS.out ?_;rintro e w9 ⟨rfl,hP9⟩;have hnext:∃lvs' av',PlI w1.heap.size mb g NC Cp N (.slice (some ⟨tg,0,none⟩) N Ct) tb opv (λi=>(tops i).take 65536) w2 ub lv sched most P (setlG (onceM NC) x ((tops x).take 65536) ((onceM NC).stp x op C (T x))).1 (upd' T x (setlG (onceM NC) x ((tops x).take 65536) ((onceM NC).stp x op C (T x))).2) lvs' av' a' (r' % N) ov' (turnT x (goT (s.t x) s.s) s (s.ord++[x])) w9:=by
          obtain⟨hM,hh,hrel,hinv,hU,ha',hxN,h1,hl1,hl2,hl3⟩:=HQ.out;obtain⟨⟨lvs',av',hM'⟩,hH'⟩:=hM.went hxN hP9;obtain⟨_,_,hk9⟩:=hP9;have ho:(turnT x (goT (s.t x) s.s) s (s.ord++[x])).ord=s.ord++[x]:=rfl;refine⟨lvs',av',hM',?_,hrel,hinv,hh.trans hH',ha',λh=>Nat.mod_lt _ h,?_,λi=>?_⟩
          · rw[ho];exact tu_beside hM hxN hU hk9.keep
          · rw[ho,List.length_append];exact h1
          · by_cases e:i=x
            · subst e;rw[upd'_same];exact⟨hl1,hl3⟩
            · rw[upd'_ne _ _ e];exact hl2 i
         obtain⟨lvs',av',hnext⟩:=hnext;have HN:=Lib.hid hnext;clear hnext hP9 HS kp m1p
         go_wp2_with (fail)
         go_roundg (most+1 - (s.ord.length+1))
         case measure=>have:=HJ.out.2.1;have:=HQ.out.2.2.2.2.2.2.2.1;omega
         case rel=>exact⟨_,_,lvs',av',_,_,_,_,by show _=most+1 - (s.ord++[x]).length;rw[List.length_append];rfl,HN.out⟩
noncomputable def oppT(n:Nat):Code:=tailN n (Try.f3.body.getD .skip)
theorem opp0:Try.f3.body.getD .skip=.seq (headC (oppT 0)) (.seq (headC (oppT 1)) (.seq (headC (oppT 2)) (oppT 3))):=by kernel_rfl
structure OPlIn(W:World)(pp scp:Option Addr)(np sl Cs:Nat)(tops:Nat->List OpX)(sched:List Int):Prop where
 thr:ThrIn W pp np tops
 npl:np<=1048576
 tl:∀i,i<np->(tops i).length<=1048576
 sc:IntsAt W (.slice scp sched.length Cs) sched
 scl:sched.length=sl
 sle:sl<=1048576
theorem onceplays_run{Post:Value->World->Prop}(hPost:∀v w τ d,Post v w->Post v (re w τ d)){W:World}{pp scp:Option Addr}{np Cn sl Cs:Nat}{tops:Nat->List OpX}{sched:List Int}{cells mo:Int}(hI:OPlIn W pp scp np sl Cs tops sched)(hend:∀w',Beyond W w'->Post (.bool true) w'):
 FinOf Try.prog Post (solo (G (Frame.enter Try.prog 3 #[.int .i64 cells,.slice pp np Cn,.slice scp sl Cs,.int .i64 mo] .normal) []) W) #[]:=by
 refine j0_run Try.func3 rfl ?_;have hFin:=back_fin (P:=Try.prog) Post;have hJ:=j0_JS hFin;have hC:=j0_calm hFin;have e:Frame.enter Try.prog 3 #[.int .i64 cells,.slice pp np Cn,.slice scp sl Cs,.int .i64 mo] .normal=(bN 3).at (enterAct Try.f3 #[.int .i64 cells,.slice pp np Cn,.slice scp sl Cs,.int .i64 mo]) [.code ((Try.f3.body).getD .skip)]:=by kernel_rfl
 have ea:enterAct Try.f3 #[.int .i64 cells,.slice pp np Cn,.slice scp sl Cs,.int .i64 mo]=⟨#[.int .i64 cells,.slice pp np Cn,.slice scp sl Cs,.int .i64 mo,undef,undef,undef,undef,undef,undef,undef,undef,undef,undef,undef,undef,undef,undef,undef,undef,undef,undef],[]⟩:=by kernel_rfl
 rw[e,ea,opp0];clear e ea;refine hJ.ctl (s:=1) (λw=>stepG_seq) ?_;refine at_lone hJ hC plainM (by kernel_rfl) (λt w'=>t=#[.int .i64 cells,.slice pp np Cn,.slice scp sl Cs,.int .i64 mo,undef,undef,undef,undef,.bool false,undef,undef,undef,undef,undef,undef,undef,undef,undef,undef,undef,undef,undef]/\∃τ d,w'=re W τ d) (λt w' τ d h=>⟨h.1,by obtain⟨τ',d',rfl⟩:=h.2;exact⟨τ,d,by rw[re_re]⟩⟩) (by decide) (λτ d=>?_) ?_
 · obtain⟨u0,hu0⟩:∃c,headC (oppT 0)=c:=⟨_,rfl⟩;have eu0:=hu0;rw[hu0];simp only[oppT,headC,tailN,Try.f3,al_od]at eu0;subst eu0;clear hu0 hI;go_wp2;exact⟨rfl,rfl,τ,d,rfl⟩
 rintro t w' ⟨rfl,τ,d,rfl⟩;refine hJ.re' 1 _ _ τ d ?_;refine hJ.ctl (s:=1) (λw=>stepG_seq) ?_;obtain⟨u1,hu1⟩:∃c,headC (oppT 1)=c:=⟨_,rfl⟩;have eu1:=hu1;rw[hu1];simp only[oppT,headC,tailN,Try.f3,al_od]at eu1;subst eu1;clear hu1;refine hJ.ctl (s:=1) (λw=>stepG_seq) ?_;refine hJ.ctl (s:=1) (λw=>stepG_region) ?_;refine at_call (by decide) hJ (s:=1) rfl rfl (f:=9) (args:=#[]) (λτ d=>?_) (λτ d=>?_) ?_
 · simp[go_sem,execOp,Act.eval,resolve,Deferred.ofValue,invoke,callFunc,Try.func9,Try.f9]
 · intro e he;simp[go_sem,execOp,Act.eval,resolve,Deferred.ofValue,invoke,callFunc,Try.func9,Try.f9,Sem.runT_eq]at he
 refine sets_calls hFin (n:=1) (by decide) ?_;intro w1 hb1;rw[Frame.finish_at]
 walk_nrm
 refine at_piece (s:=1+2) (by decide) hJ (rows0_none _) false (.inr rfl) 1 1 0 rfl rfl rfl (by rfl) ?_;intro τ d;simp only[List.drop_succ_cons,List.drop_zero,List.take_succ_cons,List.take_zero];go_wp2;simp only[contAt];refine hJ.re' (1+2) _ _ τ d ?_;refine hJ.ctl (s:=1+2) (λw=>stepG_region_end) ?_;refine hJ.ctl (s:=1+2) (λw=>stepG_cond (t:=false) rfl) ?_;rw[if_neg (by decide)];refine hJ.ctl (s:=1+2) (λw=>stepG_skip) ?_;refine hJ.ctl (s:=1+2) (λw=>stepG_seq) ?_;obtain⟨u2,hu2⟩:∃c,headC (oppT 2)=c:=⟨_,rfl⟩;have eu2:=hu2;rw[hu2];simp only[oppT,headC,tailN,Try.f3,al_od]at eu2;subst eu2;clear hu2;refine hJ.ctl (s:=1+2) (λw=>stepG_region) ?_;refine at_piece (s:=1+2) (by decide) hJ (rows0_none _) false (.inr rfl) 0 4 8 rfl rfl rfl (by rfl) ?_;intro τ d;simp only[List.drop_succ_cons,List.drop_zero,List.take_succ_cons,List.take_zero];have hb2:=hb1.trans (Beyond.re w1 τ d);generalize re w1 τ d=w2 at hb2 ⊢;have HI:=Lib.hid (And.intro hI hb2);have HE:=Lib.hid hend;clear hI hb1 hb2 hend;go_wp2;simp only[contAt];refine at_call (by decide) hJ (s:=1+2) rfl rfl (f:=11) (args:=#[.int .i64 cells,.slice pp np Cn,.slice scp sl Cs,.int .i64 mo]) (λτ d=>?_) (λτ d=>?_) ?_
 · simp[go_sem,execOp,Act.eval,resolve,Deferred.ofValue,invoke,callFunc,Try.func11,Try.f11]
 · intro e he;simp[go_sem,execOp,Act.eval,resolve,Deferred.ofValue,invoke,callFunc,Try.func11,Try.f11,Sem.runT_eq]at he
 obtain⟨N,hN⟩:∃N,min np 64=N:=⟨_,rfl⟩;have hpl:∀w,Beyond W w->∀(c:Frame)(cs:List Frame),(∀v w',TraceAt w' v N (onceT (onceN cells) (λi=>(tops i).take 65536) N mo sched).s.2 ((onceT (onceN cells) (λi=>(tops i).take 65536) N mo sched).ord.map λ(i:Nat)=>(i:Int)) (numL (onceT (onceN cells) (λi=>(tops i).take 65536) N mo sched).s.1 (onceN cells)) (decide (0<leftN (onceT (onceN cells) (λi=>(tops i).take 65536) N mo sched).ov N))->Beyond w w'->J0 Try.prog (FinOf Try.prog Post) (1+2+N) (G (c.finish v) cs) w')->
  J0 Try.prog (FinOf Try.prog Post) (1+2) (G (Frame.enter Try.prog 11 #[.int .i64 cells,.slice pp np Cn,.slice scp sl Cs,.int .i64 mo] .normal) (c::cs)) w:=by
  intro w hbw c cs hmain;have hI:=HI.out.1;obtain⟨sp,Cp,hO⟩:=opsat_in hI.thr (by have:=hI.npl;omega) hI.tl;rw[hN]at hO;rw[←hI.scl];refine onceplay_calls hFin (n:=1+2) (by decide) (RP:=λb=>W.heap[b]?) (sched:=sched) (ops:=λi=>(tops i).take 65536) (N:=N) (λb o hb=>hbw.heap hb) (hO.on hbw) (by have:=hI.sle;have:=hI.scl;omega) (λhne=>?_) ?_
  · obtain⟨p',C',e,hc⟩:=hI.sc;cases e;obtain⟨b,o,e2,h2⟩:=hc hne;refine⟨b,o,e2,λj x hj=>?_⟩;have hjl:=(List.getElem?_eq_some_iff.1 hj).1;have h3:=h2 j hjl;rw[List.getD_eq_getElem?_getD,hj]at h3;exact hbw.cell h3
  · intro ab ov sv am w' hR;have ht:=trace_of (stk:=decide (0<leftN (onceT (onceN cells) (λi=>(tops i).take 65536) N mo sched).ov N)) hR.ans hR.orow hR.srow;rw[hR.ast]at ht;exact hmain _ w' ht ⟨hR.size,hR.old⟩
 refine hpl _ HI.out.2 _ _ ?_;clear hpl;intro va w3 hta hb3;rw[Frame.finish_at]
 walk_nrm
 refine at_piece (s:=1+2+N) (by decide) hJ (rows0_none _) false (.inr rfl) 5 4 3 rfl rfl rfl (by rfl) ?_;intro τ d;simp only[List.drop_succ_cons,List.drop_zero,List.take_succ_cons,List.take_zero];have hb4:=HI.out.2.trans (hb3.trans (Beyond.re w3 τ d));replace hta:=hta.beyond (Beyond.re w3 τ d);generalize re w3 τ d=w4 at hb4 hta ⊢;have HA:=Lib.hid (And.intro hta hb4);clear hta hb4 hb3;go_wp2;simp only[contAt];refine at_call (by decide) hJ (s:=1+2+N) rfl rfl (f:=12) (args:=#[.int .i64 cells,.slice pp np Cn,.slice scp sl Cs,.int .i64 mo]) (λτ d=>?_) (λτ d=>?_) ?_
 · simp[go_sem,execOp,Act.eval,resolve,Deferred.ofValue,invoke,callFunc,Try.func12,Try.f12]
 · intro e he;simp[go_sem,execOp,Act.eval,resolve,Deferred.ofValue,invoke,callFunc,Try.func12,Try.f12,Sem.runT_eq]at he
 refine at_calls_lone hJ hC plainM Try.func12 rfl (by kernel_rfl) (R:=λv w'=>TraceAt w' v N (onceT (onceN cells) (λi=>(tops i).take 65536) N mo sched).s.2 ((onceT (onceN cells) (λi=>(tops i).take 65536) N mo sched).ord.map λ(i:Nat)=>(i:Int)) (numL (onceT (onceN cells) (λi=>(tops i).take 65536) N mo sched).s.1 (onceN cells)) (decide (0<leftN (onceT (onceN cells) (λi=>(tops i).take 65536) N mo sched).ov N))/\Beyond w4 w'/\OBnd (onceN cells) N mo (λi=>(tops i).take 65536) sched) (λv w' τ d h=>⟨h.1.beyond (Beyond.re _ _ _),h.2.1.trans (Beyond.re _ _ _),h.2.2⟩) (λτ d=>?_) ?_
 · have hI:=HI.out.1;have hbr:=HA.out.2.trans (Beyond.re w4 τ d);refine Calls.mono (orplay_lone (N:=N) (tops:=tops) (sched:=sched) (hI.thr.on hbr) (by have:=hI.npl;omega) hN.symm (λi hi=>by have:=hI.tl i hi;omega) (by have:=hI.sc.beyond hbr;rw[hI.scl]at this;exact this) (by have:=hI.sle;have:=hI.scl;omega)) ?_;rintro e w' ⟨v,rfl,h1,h2,h3⟩;exact⟨v,rfl,h1,(Beyond.re w4 τ d).trans h2,h3⟩
 intro vb w5 hvb;rw[Frame.finish_at]
 walk_nrm
 refine at_call (by decide) hJ (s:=1+2+N) rfl rfl (f:=10) (args:=#[va,vb]) (λτ d=>?_) (λτ d=>?_) ?_
 · simp[go_sem,execOp,Act.eval,resolve,Deferred.ofValue,invoke,callFunc,Try.func10,Try.f10]
 · intro e he;simp[go_sem,execOp,Act.eval,resolve,Deferred.ofValue,invoke,callFunc,Try.func10,Try.f10,Sem.runT_eq]at he
 refine at_calls_lone hJ hC plainM Try.func10 rfl (by kernel_rfl) (R:=λv w'=>v=.bool true/\Beyond w5 w') (λv w' τ d h=>⟨h.1,h.2.trans (Beyond.re _ _ _)⟩) (λτ d=>?_) ?_
 · have hbr:=Beyond.re w5 τ d;refine Calls.mono (rtrace_same (N:=N) (by have:=hN;omega) (by rw[List.length_map];have:=hvb.2.2.1;omega) (by rw[numL_len];have:=(onceN_pos cells).2;omega) (λi hi=>?_) ((HA.out.1.beyond hvb.2.1).beyond hbr) (hvb.1.beyond hbr)) ?_
   · obtain⟨h1,h2⟩:=hvb.2.2.2 i hi;refine⟨?_,λa ha=>by rw[h2 a ha];decide⟩;have h3:((tops i).take 65536).length<=65536:=by rw[List.length_take];omega
     exact Nat.le_trans h1 (Nat.le_trans h3 (by decide))
   · rintro e w' ⟨rfl,h1⟩;exact⟨_,rfl,rfl,hbr.trans h1⟩
 rintro v w6 ⟨rfl,hb6⟩;rw[Frame.finish_at]
 walk_nrm
 have hb7:=(HA.out.2.trans hvb.2.1).trans hb6;have HZ:=Lib.hid hb7;clear hb7 hb6 hvb;refine at_piece (s:=1+2+N) (by decide) hJ (rows0_none _) false (.inr rfl) 11 1 0 rfl rfl rfl (by rfl) ?_;intro τ d;simp only[List.drop_succ_cons,List.drop_zero,List.take_succ_cons,List.take_zero];have hb8:=HZ.out.trans (Beyond.re w6 τ d);generalize re w6 τ d=w7 at hb8 ⊢;have HZ2:=Lib.hid hb8;clear hb8;go_wp2;simp only[contAt];refine hJ.ctl (s:=1+2+N) (λw=>stepG_region_end) ?_;refine at_rest_end (P:=Try.prog) hPost plainM (by kernel_rfl) rfl (by kernel_rfl) Try.func3 (λτ d=>?_);obtain⟨u5,hu5⟩:∃c,oppT 3=c:=⟨_,rfl⟩;have eu5:=hu5;rw[hu5];simp only[oppT,headC,tailN,Try.f3,al_od]at eu5;subst eu5;clear hu5;have HEE:=Lib.hid (HE.out _ (HZ2.out.trans (Beyond.re w7 τ d)));clear HE;go_wp2;refine bodyPost_ret (v:=.bool true) ?_ rfl ⟨_,rfl,HEE.out⟩;simp only[results,Try.f3];simp[go_sem]
end Go.Proofs
set_option maxHeartbeats 4000000
set_option maxRecDepth 100000
namespace Go.Proofs.Ytkdlklpffdlglaa
open Go Go.Conc Go.RowKit Go.Car Go.ChangeShapes Go.WideShapes Go.ChangeAt Go.Deep
theorem thr_in{H:Type}{enc:TypeId×Value->H}{W:World}{base:Nat}{v:Value}{d:DataW H}{p:List MemPlace}(hok:Value.okWide Try.prog W .any base 22 v)
 (h:DataW.Trod enc Try.prog W 0 (λ_=>true) true 22 v d p) (hb:Rows.uptoBulk d<=1048576):∃pp n C,∃tops:Nat->List OpX,v=.slice pp n C/\ThrIn W pp n tops/\n<=1048576/\∀i,i<n->(tops i).length<=1048576:=by
 obtain⟨a,len,cap,rfl⟩:=okWide_slice (e:=32) (by kernel_rfl) hok;obtain⟨fuel,hf⟩:=h;obtain⟨fs,k1,k2,k3⟩:=op_fields;obtain⟨tops,t1,t2,t3⟩:=thr_open (e:=32) (e2:=34) (by kernel_rfl) (by kernel_rfl) (by kernel_rfl) k1 (by kernel_rfl) k3 k2 (by simpa[Value.cells]using hf);have:=bulk_lenD d;refine⟨a,len,cap,tops,rfl,t1,by omega,λi hi=>?_⟩;obtain⟨x,es,sp',e,he,hx⟩:=t3 i hi;have:=bulk_part (sp:=sp') he;rw[←e]at this;have:=bulk_lenD x;omega
theorem oncePlays_lifted(os:Os)(started:os.Started)(H:Type)(enc:TypeId×Value->H)(F:Stop.Interp):
 ReturnsInLeavingWide {} Try.checked os 3 .any ((Rows.OpenSpec.upto Rows.oncePlaysSpec).pre6 enc Try.prog Try.f3 Rows.oncePlaysUptoRow.domain false) (((Rows.OpenSpec.upto Rows.oncePlaysSpec).at F).post enc Try.prog Try.f3 false true false false):=by
 refine leaving_of_cond (C:=Try.checked) (s:=Rows.OpenSpec.upto Rows.oncePlaysSpec) (k:=Rows.uptoSmall) rfl own_knob started Try.func3
  (OpenSpec.witness (enc:=enc) (C:=Try.checked) (s:=Rows.OpenSpec.upto Rows.oncePlaysSpec) (k:=Rows.uptoSmall) rfl false ⟨#[],#[.int .i64 0,.slice none 0 0,.slice none 0 0,.int .i64 0],[]⟩ 8 (by kernel_rfl) (by kernel_rfl) (by kernel_rfl)
   (x:=([.lit (.int .i64 0),.nil,.nil,.lit (.int .i64 0)],[],[])) (by kernel_rfl) rfl (by kernel_rfl)) ?_
 intro W base args ds gs before hval0 hW hk;have hval:∀(j:Nat)t v,Try.f3.params[j]?=some t->args[j]?=some v->Value.okWide Try.prog W .any base t v:=hval0;have hW':=hW;obtain⟨p,q,hA0,hV,rfl,_,_⟩:=hW;have hA:DataW.TrodAll enc Try.prog W 0 (λ_=>true) true Try.f3.params.toList args.toList ds p:=hA0;rw[Try.params3]at hA hval;obtain⟨v0,v1,v2,v3,d0,d1,d2,d3,p0,p1,p2,p3,rfl,rfl,rfl,h0,h1,h2,h3⟩:=trodAll_four hA;obtain⟨rfl,rfl⟩:=trodVars_none hV;clear hA0 hval0;simp only[List.append_nil]at hW' hk;have hlt:∀x∈p0++p1++p2++p3,x.block<W.heap.size:=λx hx=>by simpa using hW'.lt x hx
 obtain⟨cells,rfl⟩:=okWide_int (k:=.i64) (by kernel_rfl) (hval 0 _ v0 rfl rfl);obtain⟨pp,np,Cn,tops,rfl,i1,b1,b1'⟩:=thr_in (hval 1 _ v1 rfl rfl) h1 (bulk_small hk (by simp));obtain⟨scp,Cs,sched,rfl,i2,b2⟩:=ints_arg (e:=3) (by kernel_rfl) (by kernel_rfl) (by kernel_rfl) (hval 2 _ v2 rfl rfl) h2 (bulk_small hk (by simp));obtain⟨mo,rfl⟩:=okWide_int (k:=.i64) (by kernel_rfl) (hval 3 _ v3 rfl rfl);obtain⟨M,last,o,w',t',r1,r2,r3,r4⟩:=onceplays_run (Post:=λv w'=>v=.bool true/\Beyond W w') (λv w τ d h=>⟨h.1,h.2.1,h.2.2⟩) (mo:=mo) (cells:=cells) (Cn:=Cn) ⟨i1,b1,b1',i2,rfl,b2⟩ (λw' h=>⟨rfl,h⟩);refine⟨M,last,o,w',t',r1,r2,r3,r4.mono λv hF=>?_⟩;obtain⟨⟨rfl,hb⟩,ho,hu⟩:=hF;have same:∀{t:TypeId}(hr:Try.prog.readableRec t=true)(hrow:t<Try.prog.types.size){v:Value}{d:DataW H}{ps:List MemPlace}(h:DataW.Trod enc Try.prog W 0 (λ_=>true) true t v d ps)(hlt:∀x∈ps,x.block<W.heap.size),DataW.Trod enc Try.prog w' 0 (λb=>decide (b<W.heap.size)) true t v d ps:=λhr hrow _ _ _ h hlt=>reads_same hr hrow h hb hlt;refine⟨_,_,_,[],p0++(p1++(p2++p3)),[],hW',trodAll_mk1 (shut_bool Try.underlying4 true),?_,rfl,kept_same hb ho hu _,λh=>by cases h⟩;exact trodAll_mk4 (same (by kernel_rfl) (of_decide_eq_true (by kernel_rfl)) h0 λx hx=>hlt x (by simp[hx])) (same (by kernel_rfl) (of_decide_eq_true (by kernel_rfl)) h1 λx hx=>hlt x (by simp[hx])) (same (by kernel_rfl) (of_decide_eq_true (by kernel_rfl)) h2 λx hx=>hlt x (by simp[hx])) (same (by kernel_rfl) (of_decide_eq_true (by kernel_rfl)) h3 λx hx=>hlt x (by simp[hx]))
theorem oncePlays_upto:Rows.OncePlaysUptoSaid:=
 holds_leaving_cond 3 Try.f3 rfl rfl rfl rfl rfl rfl rfl ⟨rfl,rfl,rfl,rfl,rfl⟩ rfl rfl rfl rfl rfl (by kernel_rfl) Try.func3 (by kernel_rfl)
  (of_decide_eq_true (by kernel_rfl)) (by unfold Func.isWrapper;first|(rw[if_pos (by decide +kernel)];kernel_rfl)|(rw[if_neg (by decide +kernel)];exact⟨rfl,rfl⟩))
  (λos started H enc _ F=>oncePlays_lifted os started H enc F)
end Go.Proofs.Ytkdlklpffdlglaa
