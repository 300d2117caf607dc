/- YtkdlklpffdlglaaNone13: part 5 of the proof (the texts behind it, in order). -/
import Derived.Test.YtkdlklpffdlglaaX04
set_option maxHeartbeats 4000000
set_option maxRecDepth 100000
set_option linter.all false
namespace Go.Proofs
open Go Go.Conc Go.RowKit Go.Car
def cloD(H ob ib:Nat):Value:=.func (.func 84) #[] #[.pointer (some ⟨ob,0,none⟩),.pointer (some ⟨H,0,none⟩),.pointer (some ⟨ib,0,none⟩),.pointer (some ⟨H+2,0,none⟩)]
def clsD(H:Nat)(ob ib:Nat->Nat)(n:Nat):List Value:=(List.range n).map λi=>cloD H (ob i) (ib i)
def cutV(sp:Nat->Option Addr)(L Cp:Nat->Nat)(i:Nat):Value:=.slice (sp i) (min (L i) 65536) (Cp i)
structure DRes(w:World)(N:Nat)(dv:Value)(sp:Nat->Option Addr)(L Cp:Nat->Nat)(n:Nat)(ob ib:Nat->Nat)(fv:Value)(w':World):Prop where
 size:w.heap.size+3<=w'.heap.size
 old:∀b,b<w.heap.size->w'.heap[b]?=w.heap[b]?
 db:w'.heap[w.heap.size]?=some (.cells #[dv] 109)
 ab:w'.heap[w.heap.size+1]?=some (.cells (Array.replicate N (.slice none 0 0)) 47)
 hb:w'.heap[w.heap.size+2]?=some (.cells #[.slice (some ⟨w.heap.size+1,0,none⟩) N N] 26)
 frow:w'.ownsRow (w.heap.size+3) 68 1 fv n (clsD w.heap.size ob ib n)
 obx:∀i,i<n->w'.heap[ob i]?=some (.cells #[cutV sp L Cp i] 32)
 ibx:∀i,i<n->w'.heap[ib i]?=some (.cells #[.int .i64 i] 3)
 lo:∀i,i<n->w.heap.size+3<=ib i/\ib i<ob i
 inc:∀i i',i<i'->i'<n->ob i<ib i'
theorem zqco(w:World)(N:Nat)(hN:N<=64):(Instr.makeSlice 26 (.int .i64 N) (.int .i64 N)).run Try.prog w=.ok (.slice (some ⟨w.heap.size,0,none⟩) N N) (w.alloc (.cells (Array.replicate N (.slice none 0 0)) 47)):=by
 obtain⟨ti,hti,hz0,hz1,hz2⟩:∃ti,Try.prog.info? 47=some ti/\ti.zero=some (.slice none 0 0)/\ti.size=1/\ti.bytes=24:=⟨_,rfl,rfl,rfl,rfl⟩;have:=run_make (P:=Try.prog) w 26 47 ti (.slice none 0 0) (by kernel_rfl) hti hz0 .i64 .i64 N N (by omega) (Int.le_refl _) (by rw[hz2];omega) (by omega);simp only[Int.toNat_natCast,hz1,Nat.mul_one]at this;rw[this];congr 3;apply Array.ext_getElem?;intro i
 by_cases hi:i<N
 . simp[madeCells,hi,Nat.mod_one,Value.cells]
 . simp[madeCells,hi]
theorem DRes.start (w:World)(N:Nat)(dv:Value)(sp:Nat->Option Addr)(L Cp:Nat->Nat)(ob ib:Nat->Nat)(H:Nat)(hH:w.heap.size=H):DRes w N dv sp L Cp 0 ob ib (.slice none 0 0) (((w.alloc (.cells #[dv] 109)).alloc (.cells (Array.replicate N (.slice none 0 0)) 47)).alloc (.cells #[.slice (some ⟨H+1,0,none⟩) N N] 26)):=by
 subst hH;refine⟨by simp only[zqh];omega,λb hb=>?_,zqk (zqk (zq10 _ _)),?_,?_,World.ownsRow_nil _ _ _ _,λi hi=>absurd hi (Nat.not_lt_zero _),λi hi=>absurd hi (Nat.not_lt_zero _),λi hi=>absurd hi (Nat.not_lt_zero _),λi i' _ hi=>absurd hi (Nat.not_lt_zero _)⟩
 . rw[zqd,if_neg (by simp only[zqh];omega),zqd,if_neg (by simp only[zqh];omega),zqd,if_neg (by omega)]
 . refine zqk ?_;rw[zqd,if_pos (by simp only[zqh])]
 . rw[zqd,if_pos (by simp only[zqh])]
theorem DRes.of_heap {w:World}{N n:Nat}{dv:Value}{sp:Nat->Option Addr}{L Cp:Nat->Nat}{ob ib:Nat->Nat}{fv:Value}{w' w2:World}(h:DRes w N dv sp L Cp n ob ib fv w')(e:w2.heap=w'.heap):DRes w N dv sp L Cp n ob ib fv w2:=
 ⟨by rw[e];exact h.size,λb hb=>by rw[e];exact h.old b hb,by rw[e];exact h.db,by rw[e];exact h.ab,by rw[e];exact h.hb,zq24 h.frow λg _=>by rw[e],λi hi=>by rw[e];exact h.obx i hi,λi hi=>by rw[e];exact h.ibx i hi,h.lo,h.inc⟩
theorem DRes.next {w:World}{N j:Nat}{dv:Value}{sp:Nat->Option Addr}{L Cp:Nat->Nat}{ob ib:Nat->Nat}{fv:Value}{wr wm w7:World}(h:DRes w N dv sp L Cp j ob ib fv wr){g7 cap7:Nat}(hm:wm.heap=((wr.alloc (.cells #[.int .i64 j] 3)).alloc (.cells #[cutV sp L Cp j] 32)).heap)
 (hown7:w7.ownsRow (w.heap.size+3) 68 1 (.slice (some ⟨g7,0,none⟩) (j+1) cap7) (j+1) (clsD w.heap.size ob ib j++[cloD w.heap.size (wr.heap.size+1) wr.heap.size]))
 (hgrow7:(wm.alloc (.cells #[cloD w.heap.size (wr.heap.size+1) wr.heap.size] 68)).grownBy w7 fv.ownBlock):
 DRes w N dv sp L Cp (j+1) (λi=>if i=j then wr.heap.size+1 else ob i) (λi=>if i=j then wr.heap.size else ib i) (.slice (some ⟨g7,0,none⟩) (j+1) cap7) w7:=by
 have hs:=h.size;have e1:wm.heap.size=wr.heap.size+2:=by rw[hm];simp only[zqh]
 have h7s:wr.heap.size+3<=w7.heap.size:=by have:=hgrow7.size;rw[zqh,e1]at this;omega
 have hnew:∀b o,wm.heap[b]?=some o->fv.ownBlock≠some b->w7.heap[b]?=some o:=λb o hb hne=>by
  have hlt:=zqe hb;rw[hgrow7.block b (by rw[zqh];omega) (λe=>hne e.symm)];exact zqk hb
 have hext:∀b o,wr.heap[b]?=some o->fv.ownBlock≠some b->w7.heap[b]?=some o:=λb o hb hne=>hnew b o (by rw[hm];exact zqk (zqk hb)) hne;have hlow:∀b,b<w.heap.size+3->fv.ownBlock≠some b:=λb hb e=>by have:=(own_lt h.frow e).2.1;omega
 have hfar:∀b c T f,wr.heap[b]?=some (.cells c T f)->T≠68->fv.ownBlock≠some b:=λb c T f hb hT=>zq3k h.frow hb (λe=>hT e.symm);have hbig:∀b,wr.heap.size<=b->fv.ownBlock≠some b:=λb hb e=>by have:=(own_lt h.frow e).2.2;omega
 refine⟨by omega,λb hb=>?_,hext _ _ h.db (hlow _ (by omega)),hext _ _ h.ab (hlow _ (by omega)),hext _ _ h.hb (hlow _ (by omega)),?_,λi hi=>?_,λi hi=>?_,λi hi=>?_,λi i' hi hi'=>?_⟩
 . have hbw:b<wr.heap.size:=by omega
   obtain⟨o,ho⟩:∃o,wr.heap[b]?=some o:=⟨_,Array.getElem?_eq_getElem hbw⟩;rw[hext b o ho (hlow b (by omega)),<-ho];exact h.old b hb
 . unfold clsD;have:(λi=>cloD w.heap.size (if i=j then wr.heap.size+1 else ob i) (if i=j then wr.heap.size else ib i))=λi=>if i=j then cloD w.heap.size (wr.heap.size+1) wr.heap.size else cloD w.heap.size (ob i) (ib i):=by funext i;split<;>rfl
   rw[this,map_upd];exact hown7
 . by_cases e:i=j
   . simp only[e,if_true];refine hnew _ _ ?_ (hbig _ (by omega));rw[hm,zqd,if_pos (by simp only[zqh])]
   . simp only[e,if_false];have:=h.obx i (by omega);exact hext _ _ this (hfar _ _ _ _ this (by decide))
 . by_cases e:i=j
   . simp only[e,if_true];refine hnew _ _ ?_ (hbig _ (by omega));rw[hm];exact zqk (zq10 _ _)
   . simp only[e,if_false];have:=h.ibx i (by omega);exact hext _ _ this (hfar _ _ _ _ this (by decide))
 . by_cases e:i=j
   . simp only[e,if_true];omega
   . simp only[e,if_false];exact h.lo i (by omega)
 . have e:i≠j:=by omega
   simp only[e,if_false]
   by_cases e2:i'=j
   . simp only[e2,if_true];exact zqe (h.obx i (by omega))
   . simp only[e2,if_false];exact h.inc i i' hi (by omega)
theorem zqbf{pp:Option Addr}{n Cn:Nat}{dv:Value}{sp:Nat->Option Addr}{L Cp:Nat->Nat}(hdv:∃f a b,dv=.func f a b)(w:World)(hn:n<=4611686018427387904)(hL:∀i,i<min n 64->L i<=Cp i/\L i<=4611686018427387904/\(sp i=none->L i=0/\Cp i=0))
 (hp:0<n->∃tb to',pp=some ⟨tb,to',none⟩/\∀i,i<min n 64->w.cell? ⟨tb,to'+i,none⟩=some (.slice (sp i) (L i) (Cp i))):
 Calls Try.prog 65 #[.slice pp n Cn,dv] w λe w'=>∃ob ib fv,e=.returned (.tuple #[fv,.slice (some ⟨w.heap.size+1,0,none⟩) (min n 64) (min n 64)])/\DRes w (min n 64) dv sp L Cp (min n 64) ob ib fv w':=by
 obtain⟨fd,fa,fb,rfl⟩:=hdv;have HS:=Lib.hid hp;have HLL:=Lib.hid hL;clear hp hL;obtain⟨N,hN⟩:∃N,min n 64=N:=⟨_,rfl⟩;rw[hN];have hN64:N<=64:=by omega
 have hmk:=λw=>zqco w N hN64;have hmk64:N=64->∀w,(Instr.makeSlice 26 (.int .i64 64) (.int .i64 64)).run Try.prog w=.ok (.slice (some ⟨w.heap.size,0,none⟩) N N) (w.alloc (.cells (Array.replicate N (.slice none 0 0)) 47)):=λh w=>by
  have:=hmk w;rw[show(N:Int)=64 by omega]at this;exact this
 go_enter Try.func65,Try.ntmps65
 have key:(n<=64/\n=N)\/(¬n<=64/\N=64):=by omega
 have HN:=Lib.hid hN;have hmkn:n=N->∀w,(Instr.makeSlice 26 (.int .i64 n) (.int .i64 n)).run Try.prog w=.ok (.slice (some ⟨w.heap.size,0,none⟩) N N) (w.alloc (.cells (Array.replicate N (.slice none 0 0)) 47)):=λh w=>by
  have:=hmk w;rw[show(N:Int)=(n:Int)by omega]at this;exact this
 rcases key with⟨hc,hN'⟩|⟨hc,hN'⟩
 . have hc':(n:Int)<=64:=by omega
   replace hmkn:=hmkn hN';have e1:(n:Int)=(N:Int):=by omega
   clear hN hmk64 hc hmk;have HE:=Lib.hid e1;clear e1 hN'
   go_wp2_with (fail)
   rw[HE.out];clear hmkn hc';have hP:=Lib.hid (DRes.start w N (.func fd fa fb) sp L Cp (λ_=>0) (λ_=>0) w.heap.size rfl);generalize (((w.alloc (.cells #[.func fd fa fb] 109)).alloc (.cells (Array.replicate N (.slice none 0 0)) 47)).alloc (.cells #[.slice (some ⟨w.heap.size+1,0,none⟩) N N] 26))=w1 at hP |-;generalize hH2:w.heap.size+1+1=H2;generalize hH1:w.heap.size+1=H1;generalize hH:w.heap.size=H at hH1 hH2 |-;have HB:RowKit.Hid (H=w.heap.size/\H1=w.heap.size+1/\H2=w.heap.size+2):=⟨hH.symm,by omega,by omega⟩;clear hH hH1 hH2
   go_loopg [8,17] N (λk t i wr=>∃(jj:Nat)(ob ib:Nat->Nat)(fv:Value),fv=t/\k=N - jj/\jj<=N/\i=.int .i64 jj/\DRes w N (.func fd fa fb) sp L Cp jj ob ib fv wr)
   case atStart=>exact⟨0,_,_,_,rfl,rfl,Nat.zero_le _,rfl,hP.out⟩
   case round=>
    obtain⟨jj,ob,ib,fv,hfv,hk,hj,rfl,hR⟩:=hrel;subst hfv;have HR:=Lib.hid hR;clear hR
    by_cases hlt:jj<N
    . obtain⟨tb,to',rfl,hc⟩:=HS.out (by have:=HN.out;omega);have hcj:=hc jj (by have:=HN.out;omega);have htb:tb<w.heap.size:=cell_lt hcj;have c1:wr.cell? ⟨tb,to'+jj,none⟩=some (.slice (sp jj) (L jj) (Cp jj)):=(zq14 (HR.out.old tb htb)).trans hcj;obtain⟨l1,l2,l3⟩:=HLL.out jj (by have:=HN.out;omega);have hws:=HR.out.size;have hlt':(jj:Int)<(N:Int):=by omega
      have hj0:(0:Int)<=jj:=by omega
      obtain⟨sj,hsj⟩:∃x,sp jj=x:=⟨_,rfl⟩;obtain⟨Lj,hLj⟩:∃x,L jj=x:=⟨_,rfl⟩;obtain⟨Cj,hCj⟩:∃x,Cp jj=x:=⟨_,rfl⟩;rw[hsj,hLj,hCj]at c1;have HX:=Lib.hid (And.intro hsj (And.intro hLj hCj));rw[hsj,hLj,hCj]at l3;rw[hLj,hCj]at l1;rw[hLj]at l2;have hjn:(jj:Int)<(n:Int):=by have:=HN.out;omega
      have HT:=Lib.hid (And.intro htb hws);have HL3:=Lib.hid l3;clear hc hcj hsj hLj hCj l3 htb hws;have C1:=Lib.hid c1;clear c1
      go_wp2_with (fail)
      have hcl:∀W,W=(wr.alloc (.cells #[.int .i64 jj] 3)).drewN 1\/W=((wr.alloc (.cells #[.int .i64 jj] 3)).drewN 1).alloc (.cells #[.slice none 0 0] 32)->W.cell? ⟨tb,to'+jj,none⟩=some (.slice sj Lj Cj)/\W.cell? ⟨wr.heap.size,0,none⟩=some (.int .i64 jj):=by
       have htw:tb<wr.heap.size:=by have:=HT.out;omega
       have k1:((wr.alloc (.cells #[.int .i64 jj] 3)).drewN 1).cell? ⟨tb,to'+jj,none⟩=some (.slice sj Lj Cj):=(zq14 (by show(wr.alloc _).heap[tb]?=_;rw[zqd,if_neg (by omega)])).trans C1.out;have k2:((wr.alloc (.cells #[.int .i64 jj] 3)).drewN 1).heap[wr.heap.size]?=some (.cells #[.int .i64 jj] 3):=zq10 wr _;rintro W (rfl |rfl)
       . exact⟨k1,(zq0 k2).trans rfl⟩
       . exact⟨(zq14 (by rw[zqd,if_neg (by show tb≠(wr.alloc _).heap.size;rw[zqh];omega)])).trans k1,(zq0 (zqk k2)).trans rfl⟩
      have HCL:=Lib.hid hcl;clear hcl;refine zqao (k:=12) (s:=11) (W0:=(wr.alloc (.cells #[.int .i64 jj] 3)).drewN 1) (W1:=((wr.alloc (.cells #[.int .i64 jj] 3)).drewN 1).alloc (.cells #[.slice none 0 0] 32)) (by kernel_rfl) (by kernel_rfl) (by kernel_rfl) (by kernel_rfl) (by decide) [.slice (some ⟨tb,to',none⟩) n Cn,.int .i64 jj,.pointer (some ⟨tb,to'+jj,none⟩),.slice sj Lj Cj,.slice (some ⟨tb,to',none⟩) n Cn,.int .i64 jj,.pointer (some ⟨tb,to'+jj,none⟩),.slice sj Lj Cj,.int .i64 Lj,.int .i64 ((min Lj 65536:Nat):Int),.slice sj (min Lj 65536) Cj,.pointer (some ⟨wr.heap.size+1,0,none⟩)] rfl rfl ?_ ?_ ?_
      . intro i o hi his ho W hWW;obtain⟨q1,q2⟩:=HCL.out W hWW;clear hWW;simp only[putv,dstOf,al_gl,al_g0,al_g1,al_ob,al_g2,List.set_cons_succ,List.set_cons_zero];obtain rfl |rfl |rfl |rfl |rfl |rfl |rfl |rfl |rfl |rfl |rfl:i=0\/i=1\/i=2\/i=3\/i=4\/i=5\/i=6\/i=7\/i=8\/i=9\/i=10:=by omega
        all_goals(simp only[al_gl,al_g0,al_g1,al_oi]at ho;subst ho;refine .inl ?_)
        all_goals(simp only[execOp,Act.eval,al_gd,al_gl,al_g0,al_g1,al_od])
        all_goals(try go_simp)
        . split<;>omega
        . intro h;exfalso;omega
      . intro o ho;simp only[putv,dstOf,al_gl,al_g0,al_g1,al_ob,al_g2,List.set_cons_succ,List.set_cons_zero];simp only[al_gl,al_g0,al_g1,al_oi]at ho;subst ho;refine .inl ?_;simp only[execOp,Act.eval,al_gd,al_gl,al_g0,al_g1,al_od];go_simp
      simp only[putv,dstOf,al_gl,al_g0,al_g1,al_ob,al_g2,List.set_cons_succ,List.set_cons_zero];have hs1:((wr.alloc (.cells #[.int .i64 jj] 3)).drewN 1).heap.size=wr.heap.size+1:=by show(wr.alloc _).heap.size=_;rw[zqh]
      have kb:(((wr.alloc (.cells #[.int .i64 jj] 3)).drewN 1).alloc (.cells #[.slice none 0 0] 32)).heap[wr.heap.size+1]?=some (.cells #[.slice none 0 0] 32):=by rw[zqd,if_pos hs1.symm]
      have d1:=(zq0 (off:=0) kb).trans rfl;have d2:=zqf (off:=0) kb;have hwm:((((wr.alloc (.cells #[.int .i64 jj] 3)).drewN 1).alloc (.cells #[.slice none 0 0] 32)).setCell ⟨wr.heap.size+1,0,none⟩ (.slice sj (min Lj 65536) Cj)).heap=((wr.alloc (.cells #[.int .i64 jj] 3)).alloc (.cells #[cutV sp L Cp jj] 32)).heap:=by
       obtain⟨r1,r2,r3⟩:=HX.out;unfold cutV;rw[r1,r2,r3];apply Array.ext_getElem?;intro b
       by_cases e:b=wr.heap.size+1
       . subst e;rw[zqu _ _ _ _ kb,zqd,if_pos (by rw[zqh])];rfl
       . rw[zqn _ _ _ _ e,zqd,zqd,if_neg (by rw[hs1];exact e),if_neg (by rw[zqh];exact e)];rfl
      clear kb hs1;generalize (((wr.alloc (.cells #[.int .i64 jj] 3)).drewN 1).alloc (.cells #[.slice none 0 0] 32))=wk at d1 d2 hwm |-;have HWM:=Lib.hid hwm;clear hwm;refine zq66 (i:=12) (by kernel_rfl) ?_;simp only[wpOp,al_gl,al_g0,al_g1];rw[if_pos (by rfl)];refine .inl ?_;go_simp;refine zq65 (by kernel_rfl) ?_;obtain⟨wm,hwm⟩:∃wm,wk.setCell ⟨wr.heap.size+1,0,none⟩ (.slice sj (min Lj 65536) Cj)=wm:=⟨_,rfl⟩;have HWM2:=Lib.hid (HWM.out);rw[hwm]at HWM2 |-;clear d1 d2 HWM hwm;obtain⟨tj,htj,hy0,hy1,hy2⟩:∃ti,Try.prog.info? 68=some ti/\ti.zero=some .nilFunc/\ti.size=1/\ti.bytes=8:=⟨_,rfl,rfl,rfl,rfl⟩;have TJ:=Lib.hid (And.intro htj (And.intro hy0 (And.intro hy1 hy2)));clear htj hy0 hy1 hy2;have hrow:wm.ownsRow (w.heap.size+3) 68 1 fv jj (clsD w.heap.size ob ib jj):=zq24 HR.out.frow λg hg=>by
       rw[HWM2.out,zqd,if_neg (by rw[zqh];have:=(own_lt HR.out.frow hg).2.2;omega),zqd,if_neg (by have:=(own_lt HR.out.frow hg).2.2;omega)]
      have HRW:=Lib.hid hrow;clear hrow
      go_wp2_with (at_builtin;go_loud (refine wpList_append_lies _ rfl (.tmp 31) (.tmp 33) 63 rfl (w.heap.size+3) 68 tj .nilFunc 1 8 (by kernel_rfl) TJ.out.1 TJ.out.2.1 TJ.out.2.2.1 TJ.out.2.2.2 rfl (by decide) _ jj (clsD w.heap.size ob ib jj) rfl (zq3r HRW.out _) _ 1 1 [.func (.func 84) #[] #[.pointer (some ⟨wr.heap.size+1,0,none⟩),.pointer (some ⟨H,0,none⟩),.pointer (some ⟨wr.heap.size,0,none⟩),.pointer (some ⟨H2,0,none⟩)]] rfl rfl (zq5i rfl) (by simp[Value.oneCell']) (by decide) (by simp only[maxLen];omega) (by omega) (by rw[zqh,HWM2.out];simp only[zqh];have:=HT.out;omega) _ rfl ?next))
      case next=>
       intro g7 cap7 w7 hown7 hgrow7 hat7 hlt7;have L7:=Lib.hid (And.intro hown7 (And.intro hgrow7 hat7));clear hown7 hgrow7 hat7 hlt7;go_wp2;go_roundg (N - (jj+1))
       case measure=>omega
       case rel=>
        obtain⟨rfl,rfl,rfl⟩:=HB.out;obtain⟨o7,q7,a7⟩:=L7.out;exact⟨jj+1,_,_,_,rfl,rfl,by omega,rfl,HR.out.next HWM2.out o7 q7⟩
    . obtain rfl:jj=N:=by omega
      have ch:=(zq0 (off:=0) HR.out.hb).trans rfl;rw[<-HB.out.2.2,<-HB.out.2.1]at ch
      go_wp2_with (fail)
      go_quiet (fail)
      go_wp2
      go_ret2
      obtain⟨rfl,rfl,rfl⟩:=HB.out;exact⟨ob,ib,fv,rfl,HR.out.of_heap rfl⟩
 . have hc':¬(n:Int)<=64:=by omega
   have hc2:(64:Int)<=(n:Int):=by omega
   have hc3:¬(n:Int)<64:=by omega
   replace hmk64:=hmk64 hN';have e1:(64:Int)=(N:Int):=by omega
   clear hmk hc hN hmkn;have HE:=Lib.hid e1;clear e1 hN'
   go_wp2_with (fail)
   rw[HE.out];clear hmk64 hc' hc2 hc3;have hP:=Lib.hid (DRes.start w N (.func fd fa fb) sp L Cp (λ_=>0) (λ_=>0) w.heap.size rfl);generalize (((w.alloc (.cells #[.func fd fa fb] 109)).alloc (.cells (Array.replicate N (.slice none 0 0)) 47)).alloc (.cells #[.slice (some ⟨w.heap.size+1,0,none⟩) N N] 26))=w1 at hP |-;generalize hH2:w.heap.size+1+1=H2;generalize hH1:w.heap.size+1=H1;generalize hH:w.heap.size=H at hH1 hH2 |-;have HB:RowKit.Hid (H=w.heap.size/\H1=w.heap.size+1/\H2=w.heap.size+2):=⟨hH.symm,by omega,by omega⟩;clear hH hH1 hH2
   go_loopg [8,17] N (λk t i wr=>∃(jj:Nat)(ob ib:Nat->Nat)(fv:Value),fv=t/\k=N - jj/\jj<=N/\i=.int .i64 jj/\DRes w N (.func fd fa fb) sp L Cp jj ob ib fv wr)
   case atStart=>exact⟨0,_,_,_,rfl,rfl,Nat.zero_le _,rfl,hP.out⟩
   case round=>
    obtain⟨jj,ob,ib,fv,hfv,hk,hj,rfl,hR⟩:=hrel;subst hfv;have HR:=Lib.hid hR;clear hR
    by_cases hlt:jj<N
    . obtain⟨tb,to',rfl,hc⟩:=HS.out (by have:=HN.out;omega);have hcj:=hc jj (by have:=HN.out;omega);have htb:tb<w.heap.size:=cell_lt hcj;have c1:wr.cell? ⟨tb,to'+jj,none⟩=some (.slice (sp jj) (L jj) (Cp jj)):=(zq14 (HR.out.old tb htb)).trans hcj;obtain⟨l1,l2,l3⟩:=HLL.out jj (by have:=HN.out;omega);have hws:=HR.out.size;have hlt':(jj:Int)<(N:Int):=by omega
      have hj0:(0:Int)<=jj:=by omega
      obtain⟨sj,hsj⟩:∃x,sp jj=x:=⟨_,rfl⟩;obtain⟨Lj,hLj⟩:∃x,L jj=x:=⟨_,rfl⟩;obtain⟨Cj,hCj⟩:∃x,Cp jj=x:=⟨_,rfl⟩;rw[hsj,hLj,hCj]at c1;have HX:=Lib.hid (And.intro hsj (And.intro hLj hCj));rw[hsj,hLj,hCj]at l3;rw[hLj,hCj]at l1;rw[hLj]at l2;have hjn:(jj:Int)<(n:Int):=by have:=HN.out;omega
      have HT:=Lib.hid (And.intro htb hws);have HL3:=Lib.hid l3;clear hc hcj hsj hLj hCj l3 htb hws;have C1:=Lib.hid c1;clear c1
      go_wp2_with (fail)
      have hcl:∀W,W=(wr.alloc (.cells #[.int .i64 jj] 3)).drewN 1\/W=((wr.alloc (.cells #[.int .i64 jj] 3)).drewN 1).alloc (.cells #[.slice none 0 0] 32)->W.cell? ⟨tb,to'+jj,none⟩=some (.slice sj Lj Cj)/\W.cell? ⟨wr.heap.size,0,none⟩=some (.int .i64 jj):=by
       have htw:tb<wr.heap.size:=by have:=HT.out;omega
       have k1:((wr.alloc (.cells #[.int .i64 jj] 3)).drewN 1).cell? ⟨tb,to'+jj,none⟩=some (.slice sj Lj Cj):=(zq14 (by show(wr.alloc _).heap[tb]?=_;rw[zqd,if_neg (by omega)])).trans C1.out;have k2:((wr.alloc (.cells #[.int .i64 jj] 3)).drewN 1).heap[wr.heap.size]?=some (.cells #[.int .i64 jj] 3):=zq10 wr _;rintro W (rfl |rfl)
       . exact⟨k1,(zq0 k2).trans rfl⟩
       . exact⟨(zq14 (by rw[zqd,if_neg (by show tb≠(wr.alloc _).heap.size;rw[zqh];omega)])).trans k1,(zq0 (zqk k2)).trans rfl⟩
      have HCL:=Lib.hid hcl;clear hcl;refine zqao (k:=12) (s:=11) (W0:=(wr.alloc (.cells #[.int .i64 jj] 3)).drewN 1) (W1:=((wr.alloc (.cells #[.int .i64 jj] 3)).drewN 1).alloc (.cells #[.slice none 0 0] 32)) (by kernel_rfl) (by kernel_rfl) (by kernel_rfl) (by kernel_rfl) (by decide) [.slice (some ⟨tb,to',none⟩) n Cn,.int .i64 jj,.pointer (some ⟨tb,to'+jj,none⟩),.slice sj Lj Cj,.slice (some ⟨tb,to',none⟩) n Cn,.int .i64 jj,.pointer (some ⟨tb,to'+jj,none⟩),.slice sj Lj Cj,.int .i64 Lj,.int .i64 ((min Lj 65536:Nat):Int),.slice sj (min Lj 65536) Cj,.pointer (some ⟨wr.heap.size+1,0,none⟩)] rfl rfl ?_ ?_ ?_
      . intro i o hi his ho W hWW;obtain⟨q1,q2⟩:=HCL.out W hWW;clear hWW;simp only[putv,dstOf,al_gl,al_g0,al_g1,al_ob,al_g2,List.set_cons_succ,List.set_cons_zero];obtain rfl |rfl |rfl |rfl |rfl |rfl |rfl |rfl |rfl |rfl |rfl:i=0\/i=1\/i=2\/i=3\/i=4\/i=5\/i=6\/i=7\/i=8\/i=9\/i=10:=by omega
        all_goals(simp only[al_gl,al_g0,al_g1,al_oi]at ho;subst ho;refine .inl ?_)
        all_goals(simp only[execOp,Act.eval,al_gd,al_gl,al_g0,al_g1,al_od])
        all_goals(try go_simp)
        . split<;>omega
        . intro h;exfalso;omega
      . intro o ho;simp only[putv,dstOf,al_gl,al_g0,al_g1,al_ob,al_g2,List.set_cons_succ,List.set_cons_zero];simp only[al_gl,al_g0,al_g1,al_oi]at ho;subst ho;refine .inl ?_;simp only[execOp,Act.eval,al_gd,al_gl,al_g0,al_g1,al_od];go_simp
      simp only[putv,dstOf,al_gl,al_g0,al_g1,al_ob,al_g2,List.set_cons_succ,List.set_cons_zero];have hs1:((wr.alloc (.cells #[.int .i64 jj] 3)).drewN 1).heap.size=wr.heap.size+1:=by show(wr.alloc _).heap.size=_;rw[zqh]
      have kb:(((wr.alloc (.cells #[.int .i64 jj] 3)).drewN 1).alloc (.cells #[.slice none 0 0] 32)).heap[wr.heap.size+1]?=some (.cells #[.slice none 0 0] 32):=by rw[zqd,if_pos hs1.symm]
      have d1:=(zq0 (off:=0) kb).trans rfl;have d2:=zqf (off:=0) kb;have hwm:((((wr.alloc (.cells #[.int .i64 jj] 3)).drewN 1).alloc (.cells #[.slice none 0 0] 32)).setCell ⟨wr.heap.size+1,0,none⟩ (.slice sj (min Lj 65536) Cj)).heap=((wr.alloc (.cells #[.int .i64 jj] 3)).alloc (.cells #[cutV sp L Cp jj] 32)).heap:=by
       obtain⟨r1,r2,r3⟩:=HX.out;unfold cutV;rw[r1,r2,r3];apply Array.ext_getElem?;intro b
       by_cases e:b=wr.heap.size+1
       . subst e;rw[zqu _ _ _ _ kb,zqd,if_pos (by rw[zqh])];rfl
       . rw[zqn _ _ _ _ e,zqd,zqd,if_neg (by rw[hs1];exact e),if_neg (by rw[zqh];exact e)];rfl
      clear kb hs1;generalize (((wr.alloc (.cells #[.int .i64 jj] 3)).drewN 1).alloc (.cells #[.slice none 0 0] 32))=wk at d1 d2 hwm |-;have HWM:=Lib.hid hwm;clear hwm;refine zq66 (i:=12) (by kernel_rfl) ?_;simp only[wpOp,al_gl,al_g0,al_g1];rw[if_pos (by rfl)];refine .inl ?_;go_simp;refine zq65 (by kernel_rfl) ?_;obtain⟨wm,hwm⟩:∃wm,wk.setCell ⟨wr.heap.size+1,0,none⟩ (.slice sj (min Lj 65536) Cj)=wm:=⟨_,rfl⟩;have HWM2:=Lib.hid (HWM.out);rw[hwm]at HWM2 |-;clear d1 d2 HWM hwm;obtain⟨tj,htj,hy0,hy1,hy2⟩:∃ti,Try.prog.info? 68=some ti/\ti.zero=some .nilFunc/\ti.size=1/\ti.bytes=8:=⟨_,rfl,rfl,rfl,rfl⟩;have TJ:=Lib.hid (And.intro htj (And.intro hy0 (And.intro hy1 hy2)));clear htj hy0 hy1 hy2;have hrow:wm.ownsRow (w.heap.size+3) 68 1 fv jj (clsD w.heap.size ob ib jj):=zq24 HR.out.frow λg hg=>by
       rw[HWM2.out,zqd,if_neg (by rw[zqh];have:=(own_lt HR.out.frow hg).2.2;omega),zqd,if_neg (by have:=(own_lt HR.out.frow hg).2.2;omega)]
      have HRW:=Lib.hid hrow;clear hrow
      go_wp2_with (at_builtin;go_loud (refine wpList_append_lies _ rfl (.tmp 31) (.tmp 33) 63 rfl (w.heap.size+3) 68 tj .nilFunc 1 8 (by kernel_rfl) TJ.out.1 TJ.out.2.1 TJ.out.2.2.1 TJ.out.2.2.2 rfl (by decide) _ jj (clsD w.heap.size ob ib jj) rfl (zq3r HRW.out _) _ 1 1 [.func (.func 84) #[] #[.pointer (some ⟨wr.heap.size+1,0,none⟩),.pointer (some ⟨H,0,none⟩),.pointer (some ⟨wr.heap.size,0,none⟩),.pointer (some ⟨H2,0,none⟩)]] rfl rfl (zq5i rfl) (by simp[Value.oneCell']) (by decide) (by simp only[maxLen];omega) (by omega) (by rw[zqh,HWM2.out];simp only[zqh];have:=HT.out;omega) _ rfl ?next))
      case next=>
       intro g7 cap7 w7 hown7 hgrow7 hat7 hlt7;have L7:=Lib.hid (And.intro hown7 (And.intro hgrow7 hat7));clear hown7 hgrow7 hat7 hlt7;go_wp2;go_roundg (N - (jj+1))
       case measure=>omega
       case rel=>
        obtain⟨rfl,rfl,rfl⟩:=HB.out;obtain⟨o7,q7,a7⟩:=L7.out;exact⟨jj+1,_,_,_,rfl,rfl,by omega,rfl,HR.out.next HWM2.out o7 q7⟩
    . obtain rfl:jj=N:=by omega
      have ch:=(zq0 (off:=0) HR.out.hb).trans rfl;rw[<-HB.out.2.2,<-HB.out.2.1]at ch
      go_wp2_with (fail)
      go_quiet (fail)
      go_wp2
      go_ret2
      obtain⟨rfl,rfl,rfl⟩:=HB.out;exact⟨ob,ib,fv,rfl,HR.out.of_heap rfl⟩
end Go.Proofs
namespace Go.Car
open Go Go.RowKit
section
variable {P:Program} {st:Bool}
theorem zqhl(t:Extern.Atomic.T)(a:Addr):tame P st (Extern.Atomic.read t a):=by
 unfold Extern.Atomic.read
 repeat' (first|with_reducible (first|exact Tm.out|exact zqc _ (λ_=>zq1 (zqa _) λ_=>zq8 _) _|refine zq4 ?_|refine zq1 ?_ (λ_=>?_))|split|simp only[])
instance (t:Extern.Atomic.T) (a:Addr):Tm P st (Extern.Atomic.read t a):=⟨zqhl t a⟩
theorem zq5y(t:Extern.Atomic.T)(x:Array Value):tame P true (Extern.Atomic.loadT t x):=by
 unfold Extern.Atomic.loadT;rcases x with⟨_|⟨a,_|⟨b,l⟩⟩⟩
 . exact zq16 _
 rotate_left
 . exact zq16 _
 change tame P true (do Extern.Atomic.read t (<-asAddr a))
 repeat' (first|with_reducible (first|exact Tm.out|exact zqc _ (λ_=>zq1 (zqa _) λ_=>zq8 _) _|refine zq4 ?_|refine zq1 ?_ (λ_=>?_))|split|simp only[])
theorem zqa7(x:Array Value):tame P true (Extern.Atomic.storeT x):=by
 unfold Extern.Atomic.storeT;rcases x with⟨_|⟨a,_|⟨b,_|⟨c,l⟩⟩⟩⟩
 . exact zq16 _
 . exact zq16 _
 rotate_left
 . exact zq16 _
 change tame P true (do store (<-asAddr a) b .atomic;pure Extern.Atomic.none_)
 repeat' (first|with_reducible (first|exact Tm.out|exact zqc _ (λ_=>zq1 (zqa _) λ_=>zq8 _) _|refine zq4 ?_|refine zq1 ?_ (λ_=>?_))|split|simp only[])
theorem zqae(k:IntKind)(b:Bool)(x:Array Value):tame P true (Extern.Atomic.update (Op.intArith .add) k b x):=by
 unfold Extern.Atomic.update;rcases x with⟨_|⟨a,_|⟨y,_|⟨c,l⟩⟩⟩⟩
 . exact zq16 _
 . exact zq16 _
 rotate_left
 . exact zq16 _
 change tame P true (do let a<-asAddr a;let old<-Extern.Atomic.read (.int k) a;let new<-Op.intArith .add k (<-asInt old) (<-asInt y);store a new .atomic;pure (if b then new else old))
 repeat' (first|with_reducible (first|exact Tm.out|exact zqc _ (λ_=>zq1 (zqa _) λ_=>zq8 _) _|refine zq4 ?_|refine zq1 ?_ (λ_=>?_))|split|simp only[])
theorem zqhj{α:Type}(f:α->Sem Bool)(h:∀a,tame P st (f a))(l:List α):tame P st (l.anyM f):=by
 induction l with
 |nil=>exact zq8 _
 |cons a l ih=>
  rw[List.anyM];refine zq1 (h a) λb=>?_;cases b
  . exact ih
  . exact zq8 _
theorem zqjf(a:Addr):tame P st (Extern.Atomic.touchesFrozen a):=by
 unfold Extern.Atomic.touchesFrozen;refine zq1 (zqaf _) λv=>?_;split
 . exact zq5x _
 . refine zq1 (zqaa _) λi=>?_;simp only[];split
   . exact zqab _
   . exact zqhj _ (λ_=>zq5x _) _
instance (a:Addr):Tm P st (Extern.Atomic.touchesFrozen a):=⟨zqjf a⟩
theorem zq5w(t:Extern.Atomic.T)(x:Array Value):tame P true (Extern.Atomic.casT t x):=by
 unfold Extern.Atomic.casT;rcases x with⟨_|⟨a,_|⟨b,_|⟨c,_|⟨d,l⟩⟩⟩⟩⟩
 . exact zq16 _
 . exact zq16 _
 . exact zq16 _
 rotate_left
 . exact zq16 _
 change tame P true (asAddr a>>= _)
 repeat' (first|with_reducible (first|exact Tm.out|exact zqc _ (λ_=>zq1 (zqa _) λ_=>zq8 _) _|refine zq4 ?_|refine zq1 ?_ (λ_=>?_))|split|simp only[])
instance (t:Extern.Atomic.T) (a:Addr):Stdy P (Extern.Atomic.read t a):=⟨by
 unfold Extern.Atomic.read
 repeat' (first|with_reducible (first|exact Stdy.out|refine zq6 ?_|refine zq7 ?_ (λ_=>?_)|refine zq3 ?_ (λ_=>?_))|exact λ_ _=>rfl |split|simp only[])⟩
theorem zq5t(t:Extern.Atomic.T)(x:Array Value):zq2 P (Extern.Atomic.loadT t x):=by
 unfold Extern.Atomic.loadT;rcases x with⟨_|⟨a,_|⟨b,l⟩⟩⟩
 . exact zq12 _
 rotate_left
 . exact zq12 _
 change zq2 P (do Extern.Atomic.read t (<-asAddr a))
 repeat' (first|with_reducible (first|exact Stdy.out|refine zq6 ?_|refine zq7 ?_ (λ_=>?_)|refine zq3 ?_ (λ_=>?_))|exact λ_ _=>rfl |split|simp only[])
theorem zq8x(x:Array Value):zq2 P (Extern.Atomic.storeT x):=by
 unfold Extern.Atomic.storeT;rcases x with⟨_|⟨a,_|⟨b,_|⟨c,l⟩⟩⟩⟩
 . exact zq12 _
 . exact zq12 _
 rotate_left
 . exact zq12 _
 change zq2 P (do store (<-asAddr a) b .atomic;pure Extern.Atomic.none_)
 repeat' (first|with_reducible (first|exact Stdy.out|refine zq6 ?_|refine zq7 ?_ (λ_=>?_)|refine zq3 ?_ (λ_=>?_))|exact λ_ _=>rfl |split|simp only[])
theorem zq90(k:IntKind)(b:Bool)(x:Array Value):zq2 P (Extern.Atomic.update (Op.intArith .add) k b x):=by
 unfold Extern.Atomic.update;rcases x with⟨_|⟨a,_|⟨y,_|⟨c,l⟩⟩⟩⟩
 . exact zq12 _
 . exact zq12 _
 rotate_left
 . exact zq12 _
 change zq2 P (do let a<-asAddr a;let old<-Extern.Atomic.read (.int k) a;let new<-Op.intArith .add k (<-asInt old) (<-asInt y);store a new .atomic;pure (if b then new else old))
 repeat' (first|with_reducible (first|exact Stdy.out|refine zq6 ?_|refine zq7 ?_ (λ_=>?_)|refine zq3 ?_ (λ_=>?_))|exact λ_ _=>rfl |split|simp only[])
theorem zqer{α:Type}(f:α->Sem Bool)(h:∀a,zq2 P (f a))(l:List α):zq2 P (l.anyM f):=by
 induction l with
 |nil=>exact zq19 _
 |cons a l ih=>
  rw[List.anyM];refine zq3 (h a) λb=>?_;cases b
  . exact ih
  . exact zq19 _
theorem zqh1(a:Addr):zq2 P (Extern.Atomic.touchesFrozen a):=by
 unfold Extern.Atomic.touchesFrozen;refine zq3 (zq91 _) λv=>?_;split
 . exact zq5s _
 . refine zq3 (zq8z _) λi=>?_;simp only[];split
   . exact zq12 _
   . exact zqer _ (λ_=>zq5s _) _
instance (a:Addr):Stdy P (Extern.Atomic.touchesFrozen a):=⟨zqh1 a⟩
instance (a b:Option Addr):Stdy P (samePointer a b):=⟨zq8s a b⟩
theorem zq5r(t:Extern.Atomic.T)(x:Array Value):zq2 P (Extern.Atomic.casT t x):=by
 unfold Extern.Atomic.casT;rcases x with⟨_|⟨a,_|⟨b,_|⟨c,_|⟨d,l⟩⟩⟩⟩⟩
 . exact zq12 _
 . exact zq12 _
 . exact zq12 _
 rotate_left
 . exact zq12 _
 change zq2 P (asAddr a>>= _)
 repeat' (first|with_reducible (first|exact Stdy.out|refine zq6 ?_|refine zq7 ?_ (λ_=>?_)|refine zq3 ?_ (λ_=>?_))|exact λ_ _=>rfl |split|simp only[])
end
def okTxt(P:Program)(A:FuncId->Bool)(f:FuncId):Bool:=
 match P.funcs[f]? with
 |some fn=>(match fn.body with|some c=>(fn.name== "runtime.NumGoroutine")==false&&zqp P A c|none=>false)
 |none=>false
theorem zq7r{P:Program}{A:FuncId->Bool}{f:FuncId}(h:okTxt P A f=true):okFn P A f/\∃fn c,P.funcs[f]?=some fn/\fn.body=some c:=by
 unfold okTxt at h;cases h1:P.funcs[f]? with
 |none=>rw[h1]at h;cases h
 |some fn=>
  rw[h1]at h;cases h2:fn.body with
  |none=>simp only[h2]at h;cases h
  |some c=>
   simp only[h2,Bool.and_eq_true,beq_iff_eq]at h;exact⟨.text fn c h1 h2 h.1 h.2,fn,c,rfl,h2⟩
def okRow(P:Program)(f:FuncId):Prop:=∃fn e,P.funcs[f]?=some fn/\fn.body=none/\(fn.name== "runtime.NumGoroutine")=false/\Extern.findNext fn=none/\Extern.find fn=some e/\(∀args,tame P true (e args))/\∀args,zq2 P (e args)
def noRdy(P:Program):Bool:=P.funcs.toList.all λf=>match f.body with|some c=>(readies c).isEmpty|none=>true
theorem zqcw{P:Program}(h:noRdy P=true)(g:Nat):P.stepOf g=none:=by
 unfold Program.stepOf;rw[Array.findIdx?_eq_none_iff];intro f hf;unfold noRdy at h;rw[List.all_eq_true]at h;have:=h f (by simpa using hf);cases hb:f.body with
 |none=>rfl
 |some c=>rw[hb]at this;simp only[List.isEmpty_iff]at this;simp[this]
theorem zq4l{P:Program}{L R:List FuncId}(h:L.all (okTxt P (λf=>L.contains f || R.contains f))=true)(hR:∀f,f∈R->okRow P f)(he:P.follows .staticDataAhead=true)(hn:noRdy P=true):
 Plain P (λf=>L.contains f || R.contains f)/\RowsS P (λf=>L.contains f || R.contains f):=by
 rw[List.all_eq_true]at h;refine⟨⟨λf hf=>?_,he,zqcw hn⟩,λf hf fn e h1 h2 h3 args=>?_⟩
 . simp only[Bool.or_eq_true,List.contains_iff_mem]at hf;rcases hf with hf|hf
   . exact(zq7r (h f hf)).1
   . obtain⟨fn,e,k1,k2,k3,k4,k5,k6,_⟩:=hR f hf;exact .row fn e k1 k2 k3 k4 k5 k6
 . simp only[Bool.or_eq_true,List.contains_iff_mem]at hf;rcases hf with hf|hf
   . obtain⟨_,fn',c,k1,k2⟩:=zq7r (h f hf);rw[k1]at h1;cases h1;rw[k2]at h2;cases h2
   . obtain⟨fn',e',k1,k2,k3,k4,k5,k6,k7⟩:=hR f hf;rw[k1]at h1;cases h1;rw[k5]at h3;cases h3;exact k7 args
end Go.Car
namespace Go.Proofs
open Go Go.Conc Go.RowKit Go.Car
def aLD:List FuncId:=[65]
def aRD:List FuncId:=[]
def aMD(f:FuncId):Bool:=aLD.contains f || aRD.contains f
theorem plain_rowsD:Plain Try.prog aMD/\RowsS Try.prog aMD:=by
 refine zq4l (by kernel_rfl) (λf hf=>?_) (by kernel_rfl) (by kernel_rfl);exact absurd hf (List.not_mem_nil)
theorem zq5k:Plain Try.prog aMD:=plain_rowsD.1
end Go.Proofs
namespace Go.Proofs
open Go Go.Conc Go.RowKit Go.Car
open Go.ConcN (upd upd_ne upd_same)
@[go_sem] theorem buildE (w : World) : (Instr.build 37 #[]).run Try.prog w = .ok (.agg #[]) w := run_build w 37 _ _ (by kernel_rfl)
structure StepW(st bT back pass:Nat)(w:World):Prop where
 gate:w.cell? ⟨st,0,none⟩=some (.pointer (some ⟨bT,0,none⟩))
 back:w.cell? ⟨bT,0,none⟩=some (.chan (some back))
 pass:w.cell? ⟨st,1,none⟩=some (.chan (some pass))
def bN(f:FuncId):Frame:={(default:Frame)with fn:=f,kind:=.normal}
def zq3u(st bT back pass:Nat)(c:Frame)(cs:List Frame)(g:Goroutine):Prop:=
 ∀(p:Bool)(Kc:Addr->Option Value)(J:Goroutine->World->Prop),JX Try.prog Kc J->∀w,StepW st bT back pass w->
  J (if p=true then G (c.finish (.tuple #[])) cs else G (c.raise [{v:=.iface 188 (.agg #[.iface 136 (.pointer (some ⟨bT,0,none⟩))]),recovered:=false}]) cs) w->J (Conc.served g (.bool p)) w
theorem zqha{Fin:Machine->Trace->Prop}(hFin:Back Try.prog Fin){Kc:Addr->Option Value}{Inb:Nat->Option Seat}{j n:Nat}{st bT back pass:Nat}{c:Frame}{cs:List Frame}{w:World}(hw:StepW st bT back pass w)
 (hj:0≠j) (hn:0<n) {zb:Value} {okb:Bool} {homeb:Goroutine->Prop} (h0:Inb 0=some (Seat.one back zb okb homeb))
 (hKp:Kc ⟨st,1,none⟩=some (.chan (some pass))) (hfresh:∀i s,i≠j->Inb i=some s->¬s.has pass) (hpass:∃cap k,w.heap[pass]?=some (.chan cap #[] false k k false))
 (hnext:∀g₂ k cap,homeb g₂->w.heap[back]?=some (.chan cap #[] false k k false)->
  HoldR Try.prog Fin Kc (upd Inb j (some (Seat.one pass (.bool false) false (zq3u st bT back pass c cs)))) 0 n (Conc.served g₂ (recvd okb (.agg #[]) true)) (w.setChan back cap #[] false (k+1) (k+1) false)):
 HoldR Try.prog Fin Kc Inb j n (G (Frame.enter Try.prog 130 #[.pointer (some ⟨st,0,none⟩)] .normal) (c::cs)) w:=by
 have hJ:=zq32 hFin Kc Inb j n;have e:Frame.enter Try.prog 130 #[.pointer (some ⟨st,0,none⟩)] .normal=(bN 130).at (zqg Try.f130 #[.pointer (some ⟨st,0,none⟩)]) [.code ((Try.f130.body).getD .skip)]:=rfl;rw[e];simp only[Try.f130,zqg,al_od,List.size_toArray,List.length_cons,List.length_nil,Nat.reduceAdd,Nat.reduceSub,Array.replicate_succ,Array.replicate_zero,List.push_toArray,List.append_toArray,List.nil_append,List.cons_append];refine hJ.ctl (s:=()) (λw=>stepG_seq) ?_;refine hJ.ctl (s:=()) (λw=>stepG_region) ?_;refine at_mid (J:=λ(_:Unit)=>HoldR Try.prog Fin Kc Inb j n) (s:=()) (by decide) hJ (zq9 _) true (.inl rfl) 0 8 1 rfl (by rfl) ?_;intro τ d;obtain⟨h1,h2,h3⟩:=hw;simp only[List.drop_zero,List.take_succ_cons,List.take_zero];go_wp2;simp only[zq5];refine hJ.re' () _ w τ d ?_;refine zq56 hFin hj hn h0 rfl (zq5n (c:=back) (v:=.agg #[]) (z':=.tuple #[]) rfl rfl (by decide) (λw=>by simp[execOp,scase,Act.eval]) (λw=>by simp[go_sem,execOp,Act.eval]) w) (by simp)
  (.sits pass (.bool false) false (zq3u st bT back pass c cs) hfresh hpass ⟨st+1,10,.inl ⟨9,w,rfl,?_⟩⟩) hnext
 rw[served_fr,Frame.finish_at]
 walk_nrm
 simp only[List.range'_zero]
 k_c stepG_region_end
 k_c stepG_seq
 k_reg
 iterate 3 (k_in;refine goes_oper_k rfl rfl (by decide) (λK hK=>?_);go_simp;refine hK _ _ ⟨⟨rfl,λe he=>by(have hm:=mem_listed he;simp[go_sem]at hm)⟩,?_⟩;clear hK K)
 k_ld [(h₁ _ _ hKp).1,(h₁ _ _ hKp).2] ⟨_,_,rfl,hKp⟩
 refine Goes.stop λ_ _=>⟨_,atIn_of (s:=Seat.one pass (.bool false) false (zq3u st bT back pass c cs)) rfl rfl (by decide) (λw=>by simp[go_sem,execOp,rcase,Act.eval,Seat.one]) (λw=>by simp[go_sem,execOp,Act.eval]) ?_⟩;intro p Kc' J hJ' w hw hgo;obtain⟨h1,h2,h3⟩:=hw;rw[served_fr,Frame.finish_at]
 walk_nrm
 refine zqb (J:=λ(_:Unit)=>J) (s:=()) (by decide) hJ' (zq9 _) true (.inl rfl) 5 1 0 rfl rfl rfl (by rfl) ?_;intro τ d;simp only[List.drop_zero,List.drop_succ_cons,List.take_succ_cons,List.take_zero];go_wp2;simp only[zq5];refine hJ'.re' () _ w τ d ?_;simp only[List.range'_zero];refine hJ'.ctl (s:=()) (λw=>stepG_region_end) ?_;refine hJ'.ctl (s:=()) (λw=>stepG_cond (t:=!p) rfl) ?_;cases p with
 |true=>
  simp only[Bool.not_true,Bool.false_eq_true,if_false,if_true]at hgo |-;refine hJ'.ctl (s:=()) (λw=>stepG_skip) ?_;refine hJ'.ctl (s:=()) (λw=>stepG_end) ?_;exact zq22 (s:=()) hJ' rfl rfl Try.func130 (λτ d=>by simp[results,Try.f130]) hgo
 |false=>
  simp only[Bool.not_false,if_true,Bool.false_eq_true,if_false]at hgo |-;refine hJ'.ctl (s:=()) (λw=>stepG_region) ?_;refine zqb (J:=λ(_:Unit)=>J) (s:=()) (by decide) hJ' (zq9 _) true (.inl rfl) 0 7 1 rfl rfl rfl (by rfl) ?_;intro τ d;simp only[List.drop_zero,List.drop_succ_cons,List.take_succ_cons,List.take_zero];go_wp2;simp only[zq5];refine hJ'.re' () _ w τ d ?_;refine at_panic (J:=λ(_:Unit)=>J) (s:=()) (by decide) hJ' rfl rfl (v:=.iface 188 (.agg #[.iface 136 (.pointer (some ⟨bT,0,none⟩))])) (λw=>?_) (λw=>?_) λtodo=>raiseJ (s:=()) hJ' (b:=bN 130) rfl Try.func130 hgo
  . simp[go_sem,execOp,Act.eval,Instr.panic]
  . simp[go_sem,execOp,Act.eval,Instr.panic]
@[go_sem] theorem zeroE (w : World) : (zeroValue 37).run Try.prog w = .ok (.agg #[]) w := by kernel_rfl
def JM(P:Program)(Kc:Addr->Option Value)(J:Goroutine->World->Prop):Prop:=JS P true Kc (λ(_:Unit)=>J)
def AtLet(c:Frame)(cs:List Frame)(g:Goroutine):Prop:=
 ∀(Kc:Addr->Option Value)(J:Goroutine->World->Prop),JM Try.prog Kc J->∀w,J (G (c.finish (.tuple #[])) cs) w->J (Conc.served g (.agg #[])) w
theorem zq7f{Fin:Machine->Trace->Prop}(hFin:Back Try.prog Fin){Kc:Addr->Option Value}{Inb:Nat->Option Seat}{j n:Nat}{bT bS N cap i st back pass:Nat}{p:Bool}{c:Frame}{cs:List Frame}{w:World}
 (h1:w.cell? ⟨bT,1,none⟩=some (.slice (some ⟨bS,0,none⟩) N cap)) (hi:i<N) (h2:w.cell? ⟨bS,i,none⟩=some (.pointer (some ⟨st,0,none⟩))) (h3:w.cell? ⟨st,1,none⟩=some (.chan (some pass)))
 (hj:j≠0) (hn:j<n) {homej:Goroutine->Prop} (h0:Inb j=some (Seat.one pass (.bool false) false homej))
 (hKb:Kc ⟨bT,0,none⟩=some (.chan (some back))) (hfresh:∀i s,i≠0->Inb i=some s->¬s.has back) (hback:∃cap k,w.heap[back]?=some (.chan cap #[] false k k false))
 (hnext:∀g₂ k cap,homej g₂->w.heap[pass]?=some (.chan cap #[] false k k false)->
  HoldR Try.prog Fin Kc (upd Inb 0 (some (Seat.one back (.agg #[]) false (AtLet c cs)))) j n (Conc.served g₂ (.bool p)) (w.setChan pass cap #[] false (k+1) (k+1) false)):
 HoldR Try.prog Fin Kc Inb 0 n (G (Frame.enter Try.prog 54 #[.pointer (some ⟨bT,0,none⟩),.int .i64 i,.bool p] .normal) (c::cs)) w:=by
 have hJ:=zq32 hFin Kc Inb 0 n;have e:Frame.enter Try.prog 54 #[.pointer (some ⟨bT,0,none⟩),.int .i64 i,.bool p] .normal=(bN 54).at (zqg Try.f54 #[.pointer (some ⟨bT,0,none⟩),.int .i64 i,.bool p]) [.code ((Try.f54.body).getD .skip)]:=rfl;rw[e];simp only[Try.f54,zqg,al_od,List.size_toArray,List.length_cons,List.length_nil,Nat.reduceAdd,Nat.reduceSub,Array.replicate_succ,Array.replicate_zero,List.push_toArray,List.append_toArray,List.nil_append,List.cons_append];refine hJ.ctl (s:=()) (λw=>stepG_seq) ?_;refine hJ.ctl (s:=()) (λw=>stepG_region) ?_;refine zqb (J:=λ(_:Unit)=>HoldR Try.prog Fin Kc Inb 0 n) (s:=()) (by decide) hJ (zq9 _) true (.inl rfl) 0 11 1 rfl rfl rfl (by rfl) ?_;intro τ d;simp only[List.drop_zero,List.take_succ_cons,List.take_zero];have hi':(i:Int)<N:=by omega
 have hi0:(0:Int)<=i:=by omega
 go_wp2;simp only[zq5];refine hJ.re' () _ w τ d ?_;refine zq56 hFin hj hn h0 rfl (zq5n (c:=pass) (v:=.bool p) (z':=.tuple #[]) rfl rfl (by decide) (λw=>by simp[execOp,scase,Act.eval]) (λw=>by simp[go_sem,execOp,Act.eval]) w) (by simp)
  (.sits back (.agg #[]) false (AtLet c cs) hfresh hback ⟨bT+1,10,.inl ⟨9,w,rfl,?_⟩⟩) hnext
 rw[served_fr,Frame.finish_at]
 walk_nrm
 simp only[List.range'_zero]
 k_c stepG_region_end
 k_reg
 iterate 3 (k_in;refine goes_oper_k rfl rfl (by decide) (λK hK=>?_);go_simp;refine hK _ _ ⟨⟨rfl,λe he=>by(have hm:=mem_listed he;simp[go_sem]at hm)⟩,?_⟩;clear hK K)
 k_ld [(h₁ _ _ hKb).1,(h₁ _ _ hKb).2] ⟨_,_,rfl,hKb⟩
 refine Goes.stop λ_ _=>⟨_,atIn_of (s:=Seat.one back (.agg #[]) false (AtLet c cs)) rfl rfl (by decide) (λw=>by simp[go_sem,execOp,rcase,Act.eval,Seat.one]) (λw=>by simp[go_sem,execOp,Act.eval]) ?_⟩;intro Kc' J hJ' w hgo;rw[served_fr,Frame.finish_at]
 walk_nrm
 refine hJ'.ctl (s:=()) (λw=>stepG_region_end) ?_;refine hJ'.ctl (s:=()) (λw=>stepG_end) ?_;exact zq22 (s:=()) hJ' rfl rfl Try.func54 (λτ d=>by simp[results,Try.f54]) hgo
noncomputable def bot:Frame:=botF Try.prog
def zq2n(bT i:Nat)(tv:Value):Deferred:={target:=.fn (.func 52) #[],args:=#[.pointer (some ⟨bT,0,none⟩),.int .i64 i,tv]}
theorem born_run(bT i:Nat)(tv:Value)(w:World):stepG Try.prog false (born Try.prog (zq2n bT i tv)) w=
 .go (G ((baseD 52).at (zqg Try.f52 #[.pointer (some ⟨bT,0,none⟩),.int .i64 i,tv]) [.code (Try.f52.body.getD .skip)]) [bot]) w #[]:=by
 simp[born,zq2n,stepG,unwind,callDeferred,invoke,callFunc,Try.func52,Try.f52,seen,GStep.after,G,Frame.enter,Frame.at,baseD,bot,botF,zqg]
structure RunW(n bT i:Nat)(whole:Bool)(w:World):Prop where
 t:w.heap[n]?=some (.cells #[.pointer (some ⟨bT,0,none⟩)] 136)
 i:w.heap[n+1]?=some (.cells #[.int .i64 i] 3)
 whole:w.heap[n+2]?=some (.cells #[.bool whole] 4)
def run1(n:Nat):Deferred:={target:=.fn (.func 74) #[.pointer (some ⟨n,0,none⟩),.pointer (some ⟨n+2,0,none⟩),.pointer (some ⟨n+1,0,none⟩)],args:=#[]}
noncomputable def runAt(n bT i:Nat)(tv:Value)(todo:List Item):Frame:=
 (baseD 52).at ⟨#[.pointer (some ⟨bT,0,none⟩),.int .i64 i,tv,.pointer (some ⟨n,0,none⟩),.pointer (some ⟨n+1,0,none⟩),undef,.pointer (some ⟨n+2,0,none⟩),.func (.func 74) #[] #[.pointer (some ⟨n,0,none⟩),.pointer (some ⟨n+2,0,none⟩),.pointer (some ⟨n+1,0,none⟩)],undef,undef,undef,undef,undef,undef,undef,undef,undef,undef,undef,undef],[run1 n]⟩ todo
noncomputable def zq3s:Code:=match Try.f52.body with|some (.seq _ (.seq _ (.seq _ c)))=>c|_=>.skip
theorem zqea{Kc:Addr->Option Value}{J:Goroutine->World->Prop}(hJ:JX Try.prog Kc J){bT i:Nat}{tv:Value}{w:World}
 (hK:∀a v,Kc a=some v->a.block<w.heap.size)
 (hnext:∀w',RunW w.heap.size bT i false w'->w'.heap.size=w.heap.size+3->(∀b,b<w.heap.size->w'.heap[b]?=w.heap[b]?)->J (G (runAt w.heap.size bT i tv [.code zq3s]) [bot]) w'):J (born Try.prog (zq2n bT i tv)) w:=by
 refine hJ.step () _ w rfl λτ d=>⟨_,_,#[],born_run bT i tv _,OkD.refl _ _ _,by simp,?_⟩;refine hJ.re' () _ w τ d ?_;simp only[Try.f52,zqg,al_od,List.size_toArray,List.length_cons,List.length_nil,Nat.reduceAdd,Nat.reduceSub,Array.replicate_succ,Array.replicate_zero,List.push_toArray,List.append_toArray,List.nil_append,List.cons_append];refine hJ.ctl (s:=()) (λw=>stepG_seq) ?_;refine hJ.ctl (s:=()) (λw=>stepG_region) ?_;refine zqb (J:=λ(_:Unit)=>J) (s:=()) (by decide) hJ (zq9 _) true (.inl rfl) 0 2 0 rfl rfl rfl (by rfl) ?_;intro τ d;simp only[List.drop_zero,List.drop_succ_cons,List.take_succ_cons,List.take_zero];go_wp2;simp only[zq5,zq3m];refine hJ.re' () _ _ τ d ?_;simp only[List.range'_zero];refine hJ.ctl (s:=()) (λw=>stepG_region_end) ?_;refine hJ.ctl (s:=()) (λw=>stepG_seq) ?_;refine hJ.ctl (s:=()) (λw=>stepG_region) ?_;refine zqb (J:=λ(_:Unit)=>J) (s:=()) (by decide) hJ (zq9 _) true (.inl rfl) 0 1 1 rfl rfl rfl (by rfl) ?_;intro τ d;simp only[List.drop_zero,List.drop_succ_cons,List.take_succ_cons,List.take_zero];go_wp2;simp only[zq5,zq3m];refine hJ.re' () _ _ τ d ?_;generalize hw1:(((w.alloc (Obj.cells #[Value.pointer (some {block:=bT,off:=0})] 136)).alloc (Obj.cells #[Value.int IntKind.i64 i] 3))).alloc (Obj.cells #[Value.bool false] 4)=w1;have f0:w1.heap[w.heap.size]?=some (.cells #[.pointer (some ⟨bT,0,none⟩)] 136):=by subst hw1;simp only[zqd,zqh];rw[if_neg (by omega),if_neg (by omega),if_pos trivial]
 have f1:w1.heap[w.heap.size+1]?=some (.cells #[.int .i64 i] 3):=by subst hw1;simp only[zqd,zqh];rw[if_neg (by omega),if_pos trivial]
 have f2:w1.heap[w.heap.size+1+1]?=some (.cells #[.bool false] 4):=by subst hw1;simp only[zqd,zqh];rw[if_pos trivial]
 have f3:w1.heap.size=w.heap.size+3:=by subst hw1;simp only[zqh]
 have f4:∀b,b<w.heap.size->w1.heap[b]?=w.heap[b]?:=λb hb=>by subst hw1;simp only[zqd,zqh];rw[if_neg (by omega),if_neg (by omega),if_neg (by omega)]
 refine zq2a (J:=λ(_:Unit)=>J) (s:=()) (i:=1) (rest:=[]) (by decide) hJ rfl rfl (ad:=⟨w.heap.size+1+1,0,none⟩) rfl (λj _=>zq49 (λy hy=>?_) j) ⟨_,_,_,f2⟩ ?_
 . cases hky:Kc y with
   |none=>rfl
   |some v=>have:=hK y v hky;have hy':y.block=w.heap.size+1+1:=hy;omega
 intro τ d;have g1:w1.cell? ⟨w.heap.size+1+1,0,none⟩=some (.bool false):=by exact(zq0 f2).trans rfl
 have g2:w1.frozen? ⟨w.heap.size+1+1,0,none⟩=false:=zqf f2;go_wp2;simp only[zq5,zq1l];refine hJ.re' () _ _ τ d ?_;have g3:=zqu w1 (w.heap.size+1+1) 0 (Value.bool false) f2;have g4:∀b,b≠w.heap.size+1+1->(w1.setCell ⟨w.heap.size+1+1,0,none⟩ (.bool false)).heap[b]?=w1.heap[b]?:=λb hb=>zqn _ _ _ _ hb;have g5:(w1.setCell ⟨w.heap.size+1+1,0,none⟩ (.bool false)).heap.size=w.heap.size+3:=by rw[zq11,f3]
 generalize w1.setCell ⟨w.heap.size+1+1,0,none⟩ (.bool false)=w2 at g3 g4 g5 |-;refine hJ.ctl (s:=()) (λw=>stepG_region_end) ?_;refine hJ.ctl (s:=()) (λw=>stepG_seq) ?_;refine hJ.ctl (s:=()) (λw=>stepG_region) ?_;refine zqb (J:=λ(_:Unit)=>J) (s:=()) (by decide) hJ (zq9 _) true (.inl rfl) 0 1 1 rfl rfl rfl (by rfl) ?_;intro τ d;simp only[List.drop_zero,List.drop_succ_cons,List.take_succ_cons,List.take_zero];go_wp2;simp only[zq5,zq3m];refine hJ.re' () _ _ τ d ?_;refine zq4w (J:=λ(_:Unit)=>J) (s:=()) (i:=1) (rest:=[]) (d:=run1 w.heap.size) (by decide) hJ rfl rfl (λw=>by simp[go_sem,execOp,Act.eval,run1]) (λw=>by simp[go_sem,execOp,Act.eval]) ?_;refine hJ.ctl (s:=()) (λw=>stepG_region_end) ?_;refine hnext w2 ⟨?_,?_,g3⟩ g5 λb hb=>?_
 . rw[g4 _ (by omega)];exact f0
 . rw[g4 _ (by omega)];exact f1
 . rw[g4 _ (by omega)];exact f4 b hb
@[go_sem] theorem neq_func (f : Fn) (a b : Array Value) (w : World) : (binOp .neq 68 (.func f a b) .nilFunc).run Try.prog w = .ok (.bool true) w := by rfl
@[go_sem] theorem neq_nil (w : World) : (binOp .neq 68 .nilFunc .nilFunc).run Try.prog w = .ok (.bool false) w := by rfl
structure StandW(bT bS N cap i st:Nat)(w:World):Prop where
 stands:w.cell? ⟨bT,1,none⟩=some (.slice (some ⟨bS,0,none⟩) N cap)
 lt:i<N
 stand:w.cell? ⟨bS,i,none⟩=some (.pointer (some ⟨st,0,none⟩))
noncomputable def zq2t(n bT bS N cap i st:Nat)(tv:Value)(todo:List Item):Frame:=
 (baseD 52).at ⟨#[.pointer (some ⟨bT,0,none⟩),.int .i64 i,tv,.pointer (some ⟨n,0,none⟩),.pointer (some ⟨n+1,0,none⟩),undef,.pointer (some ⟨n+2,0,none⟩),.func (.func 74) #[] #[.pointer (some ⟨n,0,none⟩),.pointer (some ⟨n+2,0,none⟩),.pointer (some ⟨n+1,0,none⟩)],
  tv,.bool true,tv,.pointer (some ⟨bT,0,none⟩),.pointer (some ⟨bT,0,none⟩),.pointer (some ⟨bT,1,none⟩),.slice (some ⟨bS,0,none⟩) N cap,.int .i64 i,.pointer (some ⟨bS,i,none⟩),.pointer (some ⟨st,0,none⟩),.iface 141 (.pointer (some ⟨st,0,none⟩)),undef],[run1 n]⟩ todo
noncomputable def ops4:Array Oper:=match Try.f52.body with|some (.seq _ (.seq _ (.seq _ (.seq (.seq _ (.cond _ (.region _ ops _) _)) _))))=>ops|_=>#[]
noncomputable def code5:Code:=match Try.f52.body with|some (.seq _ (.seq _ (.seq _ (.seq _ c))))=>c|_=>.skip
theorem zqe9{Kc:Addr->Option Value}{J:Goroutine->World->Prop}(hJ:JX Try.prog Kc J){n bT bS N cap i st:Nat}{f:FuncId}{fn:Func}{c:Code}{first caps:Array Value}{w:World}
 (hf:Try.prog.funcs[f]?=some fn) (hb:fn.body=some c) (hnm:(fn.name== "runtime.NumGoroutine")=false)
 (hR:RunW n bT i false w) (hS:StandW bT bS N cap i st w)
 (hnext:J (G (Frame.enter Try.prog f (first++#[.iface 141 (.pointer (some ⟨st,0,none⟩))]++caps) .normal) [zq2t n bT bS N cap i st (.func (.func f) first caps) [.inRegion ops4 [9],.code code5],bot]) w):
 J (G (runAt n bT i (.func (.func f) first caps) [.code zq3s]) [bot]) w:=by
 obtain⟨r1,r2,r3⟩:=hR;obtain⟨s1,s2,s3⟩:=hS;simp only[runAt,zq3s,Try.f52];refine hJ.ctl (s:=()) (λw=>stepG_seq) ?_;refine hJ.ctl (s:=()) (λw=>stepG_seq) ?_;refine hJ.ctl (s:=()) (λw=>stepG_region) ?_;refine zqb (J:=λ(_:Unit)=>J) (s:=()) (by decide) hJ (zq9 _) true (.inl rfl) 0 2 0 rfl rfl rfl (by rfl) ?_;intro τ d;simp only[List.drop_zero,List.drop_succ_cons,List.take_succ_cons,List.take_zero];go_wp2;simp only[zq5];refine hJ.re' () _ _ τ d ?_;refine hJ.ctl (s:=()) (λw=>stepG_region_end) ?_;refine hJ.ctl (s:=()) (λw=>stepG_cond (t:=true) rfl) ?_;simp only[if_true];refine zq40 (J:=λ(_:Unit)=>J) (s:=()) hJ (by decide) (by rfl) [.func (.func f) first caps,.pointer (some ⟨bT,0,none⟩),.pointer (some ⟨bT,0,none⟩),.pointer (some ⟨bT,1,none⟩),.slice (some ⟨bS,0,none⟩) N cap,.int .i64 i,.pointer (some ⟨bS,i,none⟩),.pointer (some ⟨st,0,none⟩),.iface 141 (.pointer (some ⟨st,0,none⟩))] (by kernel_rfl) ?_ ?_
 . intro τ d;have hi':(i:Int)<N:=by omega
   have hi0:(0:Int)<=i:=by omega
   have c1:=(zq0 (off:=0) r1).trans rfl;have c2:=(zq0 (off:=0) r2).trans rfl;have z1:w.frozen? ⟨n,0,none⟩=false:=zqf r1;simp only[evals,putv,dstOf,al_gl,al_g0,al_g1,al_ob,al_g2,List.set_cons_succ,List.set_cons_zero];refine⟨?_,?_,?_,?_,?_,?_,?_,?_,?_,trivial⟩<;>(intro o ho;simp only[al_oi]at ho;subst ho)
   all_goals(simp only[execOp,Act.eval,al_gd,al_gl,al_g0,al_g1,al_od])
   all_goals(try go_simp)
 . simp only[putv,dstOf,al_gl,al_g0,al_g1,al_ob,al_g2,List.set_cons_succ,List.set_cons_zero,Nat.reduceAdd,Nat.zero_add,List.length_cons,List.length_nil];refine zqy (J:=λ(_:Unit)=>J) (s:=()) (by decide) hJ rfl rfl (f:=f) (args:=first++#[.iface 141 (.pointer (some ⟨st,0,none⟩))]++caps) (λτ d=>?_) (λτ d=>?_) ?_
   . have hnm':¬fn.name= "runtime.NumGoroutine" :=by simpa using hnm
     simp[go_sem,execOp,Act.eval,resolve,Deferred.ofValue,invoke,callFunc,hf,hb,hnm']
   . have hnm':¬fn.name= "runtime.NumGoroutine" :=by simpa using hnm
     intro e he;simp[go_sem,execOp,Act.eval,resolve,Deferred.ofValue,invoke,callFunc,hf,hb,hnm',Sem.runT_eq]at he
   . exact hnext
theorem zqaq(w:World):(Instr.typeAssert .nilIface 20 188 true).run Try.prog w=.ok (.tuple #[.agg #[.nilIface],.bool false]) w:=by kernel_rfl
theorem zqap(x:Value)(w:World):(Instr.typeAssert (.iface 188 x) 20 188 true).run Try.prog w=.ok (.tuple #[x,.bool true]) w:=by rfl
@[go_sem] theorem neq_same (a : Addr) (w : World) : (binOp .neq 20 (.iface 136 (.pointer (some a))) (.iface 136 (.pointer (some a)))).run Try.prog w = .ok (.bool false) w := by
 simp only[binOp];simp[Op.equal,Op.maxDepth,run_equalIn_iface_ptr_same (P:=Try.prog) w 9998 a (ti:=20) (tp:=136) rfl rfl rfl rfl rfl]
structure TW(bT bS bB N cap capB i st back pass:Nat)(sr br:Array Value)(ov:Bool)(w:World):Prop where
 ts:w.heap[bT]?=some (.cells #[.chan (some back),.slice (some ⟨bS,0,none⟩) N cap,.slice (some ⟨bB,0,none⟩) N capB] 140)
 sts:w.heap[bS]?=some (.cells sr 141)
 brs:w.heap[bB]?=some (.cells br 4)
 std:w.heap[st]?=some (.cells #[.pointer (some ⟨bT,0,none⟩),.chan (some pass),.bool ov] 144)
 lt:i<N
 s:sr[i]?=some (.pointer (some ⟨st,0,none⟩))
 b:∃x,br[i]?=some (.bool x)
theorem zq81{Kc:Addr->Option Value}{J:Goroutine->World->Prop}(hJ:JX Try.prog Kc J){n bT i:Nat}{whole:Bool}{c:Frame}{cs:List Frame}{w:World}{x3 x4 x5 x6 x7 x8 x9 x10 x11 x12 x13 x14 x15 x16 x17 x18 x19 x20 x21 x22 x23 x24 x25 x26 x27 x28 x29 x30 x31 x32 x33 x34 x35 x36 x37 x38 x39 x40 x41 x42:Value}
 (hR:RunW n bT i whole w) {bS bB N cap capB st back pass:Nat} {sr br:Array Value} {ov:Bool} (hT:TW bT bS bB N cap capB i st back pass sr br ov w) (hne:bT≠st/\n≠st)
 (hKs:Kc ⟨st,2,none⟩=none)
 (hnext:∀T w',T[41]?=some (.chan (some back))->T[42]?=some (.agg #[])->w'.heap.size=w.heap.size->(∀b,b≠st->w'.heap[b]?=w.heap[b]?)->
  w'.heap[st]?=some (.cells #[.pointer (some ⟨bT,0,none⟩),.chan (some pass),.bool true] 144)->
  J (G ((baseD 74).at ⟨T,[]⟩ [.inRegion (match Try.f74.body with|some (.seq _ (.seq _ (.seq _ (.region _ ops _))))=>ops|_=>#[]) [5]]) (c::cs)) w'):
 J (G ((baseD 74).at ⟨#[.pointer (some ⟨n,0,none⟩),.pointer (some ⟨n+2,0,none⟩),.pointer (some ⟨n+1,0,none⟩),x3,x4,x5,x6,x7,x8,x9,x10,x11,x12,x13,x14,x15,x16,x17,x18,x19,x20,x21,x22,x23,x24,x25,x26,x27,x28,x29,x30,x31,x32,x33,x34,x35,x36,x37,x38,x39,x40,x41,x42],[]⟩ [.code (match Try.f74.body with|some (.seq _ (.seq _ c))=>c|_=>.skip)]) (c::cs)) w:=by
 obtain⟨r1,r2,r3⟩:=hR;obtain⟨t1,t2,t3,t4,t5,t6,t7⟩:=hT;have c1:=(zq0 (off:=0) r1).trans rfl;have c2:=(zq0 (off:=0) r2).trans rfl;have z1:w.frozen? ⟨n,0,none⟩=false:=zqf r1;have z2:w.frozen? ⟨n+1,0,none⟩=false:=zqf r2;have d1:=(zq0 (off:=1) t1).trans rfl;have d2:=(zq0 (off:=i) t2).trans t6;have d4:=(zq0 (off:=2) t4).trans rfl;have y4:w.frozen? ⟨st,2,none⟩=false:=zqf t4;have hi':(i:Int)<N:=by omega
 have hi0:(0:Int)<=i:=by omega
 simp only[Try.f74];refine hJ.ctl (s:=()) (λw=>stepG_seq) ?_;refine zq40 (J:=λ(_:Unit)=>J) (s:=()) hJ (by decide) (by rfl) [.pointer (some ⟨bT,0,none⟩),.pointer (some ⟨bT,0,none⟩),.pointer (some ⟨bT,1,none⟩),.slice (some ⟨bS,0,none⟩) N cap,.int .i64 i,.pointer (some ⟨bS,i,none⟩),.pointer (some ⟨st,0,none⟩),.pointer (some ⟨st,0,none⟩),.pointer (some ⟨st,2,none⟩)] (by kernel_rfl) ?_ ?_
 . intro τ d;simp only[evals,putv,dstOf,al_gl,al_g0,al_g1,al_ob,al_g2,List.set_cons_succ,List.set_cons_zero];refine⟨?_,?_,?_,?_,?_,?_,?_,?_,?_,trivial⟩<;>(intro o ho;simp only[al_oi]at ho;subst ho)
   all_goals(simp only[execOp,Act.eval,al_gd,al_gl,al_g0,al_g1,al_od])
   all_goals(try go_simp)
 . simp only[putv,dstOf,al_gl,al_g0,al_g1,al_ob,al_g2,List.set_cons_succ,List.set_cons_zero,Nat.reduceAdd,Nat.zero_add,List.length_cons,List.length_nil];refine zq2a (J:=λ(_:Unit)=>J) (s:=()) (i:=9) (rest:=[]) (by decide) hJ rfl rfl (ad:=⟨st,2,none⟩) rfl (λj hj=>zq4a hKs hj) ⟨_,_,_,t4⟩ ?_;intro τ d;go_wp2;simp only[zq5,zq1l];refine hJ.re' () _ _ τ d ?_;have g3:=zqu w st 2 (Value.bool true) t4;have g4:∀b,b≠st->(w.setCell ⟨st,2,none⟩ (Value.bool true)).heap[b]?=w.heap[b]?:=λb hb=>zqn _ _ _ _ hb;have g5:(w.setCell ⟨st,2,none⟩ (Value.bool true)).heap.size=w.heap.size:=zq11 _ _ _;generalize w.setCell ⟨st,2,none⟩ (Value.bool true)=w2 at g3 g4 g5 |-;refine hJ.ctl (s:=()) (λw=>stepG_region_end) ?_;refine hJ.ctl (s:=()) (λw=>stepG_region) ?_;refine zqb (J:=λ(_:Unit)=>J) (s:=()) (by decide) hJ (zq9 _) true (.inl rfl) 0 5 1 rfl rfl rfl (by rfl) ?_;intro τ d;have e1:w2.cell? ⟨n,0,none⟩=some (.pointer (some ⟨bT,0,none⟩)):=(zq14 (g4 n hne.2)).trans c1;have e2:w2.cell? ⟨bT,0,none⟩=some (.chan (some back)):=(zq14 (g4 bT hne.1)).trans ((zq0 (off:=0) t1).trans rfl);simp only[List.drop_zero,List.drop_succ_cons,List.take_succ_cons,List.take_zero];go_wp2;simp only[zq5];refine hJ.re' () _ _ τ d ?_;refine hnext _ w2 (by rfl) (by rfl) g5 g4 (g3.trans (by rfl))
theorem zqe8{Kc:Addr->Option Value}{J:Goroutine->World->Prop}(hJ:JX Try.prog Kc J){n bT i:Nat}{whole ok:Bool}{r x:Value}{c:Frame}{cs:List Frame}{w:World}{a:Act}
 (ha:a=⟨#[.pointer (some ⟨n,0,none⟩),.pointer (some ⟨n+2,0,none⟩),.pointer (some ⟨n+1,0,none⟩),r,undef,undef,r,undef,undef,undef,undef,undef,undef,undef,undef,undef,undef,undef,undef,undef,undef,undef,undef,undef,undef,undef,undef,undef,undef,undef,undef,undef,undef,undef,undef,undef,undef,undef,undef,undef,undef,undef,undef],[]⟩)
 (hassert:∀w,(Instr.typeAssert r 20 188 true).run Try.prog w=.ok (.tuple #[.agg #[x],.bool ok]) w) (hcase:(ok=false/\x=.nilIface)\/(ok=true/\x=.iface 136 (.pointer (some ⟨bT,0,none⟩))))
 (hR:RunW n bT i whole w) (hK:∀a v,Kc a=some v->a.block<w.heap.size)
 {bS bB N cap capB st back pass:Nat} {sr br:Array Value} {ov:Bool} (hT:TW bT bS bB N cap capB i st back pass sr br ov w) (hlt:bT<n/\bS<n/\bB<n/\st<n) (hne:bT≠bB/\bS≠bB/\st≠bB/\bT≠st/\bS≠st)
 (hKB:∀y:Addr,y.block=bB->Kc y=none) (hKs:Kc ⟨st,2,none⟩=none)
 (hnext:∀T w',T[41]?=some (.chan (some back))->T[42]?=some (.agg #[])->w'.heap.size=w.heap.size+1->(∀b,b<w.heap.size->b≠bB->b≠st->w'.heap[b]?=w.heap[b]?)->
  w'.heap[st]?=some (.cells #[.pointer (some ⟨bT,0,none⟩),.chan (some pass),.bool true] 144)->w'.heap[bB]?=some (.cells (if ok=true then br else br.setIfInBounds i (.bool (!whole))) 4)->
  J (G ((baseD 74).at ⟨T,[]⟩ [.inRegion (match Try.f74.body with|some (.seq _ (.seq _ (.seq _ (.region _ ops _))))=>ops|_=>#[]) [5]]) (c::cs)) w'):
 J (G ((baseD 74).at a [.code (match Try.f74.body with|some (.seq _ c)=>c|_=>.skip)]) (c::cs)) w:=by
 obtain⟨r1,r2,r3⟩:=hR;have c1:=(zq0 (off:=0) r1).trans rfl;have c2:=(zq0 (off:=0) r2).trans rfl;have c3:=(zq0 (off:=0) r3).trans rfl;have z1:w.frozen? ⟨n,0,none⟩=false:=zqf r1;have z2:w.frozen? ⟨n+1,0,none⟩=false:=zqf r2;have z3:w.frozen? ⟨n+2,0,none⟩=false:=zqf r3;subst ha;simp only[Try.f74];refine hJ.ctl (s:=()) (λw=>stepG_seq) ?_;refine hJ.ctl (s:=()) (λw=>stepG_seq) ?_;refine hJ.ctl (s:=()) (λw=>stepG_region) ?_;refine zqb (J:=λ(_:Unit)=>J) (s:=()) (by decide) hJ (zq9 _) true (.inl rfl) 0 6 2 rfl rfl rfl (by rfl) ?_;intro τ d;simp only[List.drop_zero,List.drop_succ_cons,List.take_succ_cons,List.take_zero];go_wp2;simp only[zq5,zq3m];refine hJ.re' () _ _ τ d ?_;generalize hw1:w.alloc (Obj.cells #[Value.nilIface] 188)=w1;have f0:w1.heap[w.heap.size]?=some (.cells #[.nilIface] 188):=by subst hw1;rw[zqd,if_pos rfl]
 have f1:∀b,b≠w.heap.size->w1.heap[b]?=w.heap[b]?:=λb hb=>by subst hw1;rw[zqd,if_neg hb]
 have hfree:∀y:Addr,y.block=w.heap.size->Kc y=none:=λy hy=>by
  cases hky:Kc y with
  |none=>rfl
  |some v=>have:=hK y v hky;omega
 have g1:w1.cell? ⟨w.heap.size,0,none⟩=some .nilIface:=(zq0 f0).trans rfl;have g2:w1.frozen? ⟨w.heap.size,0,none⟩=false:=zqf f0;refine zq2a (J:=λ(_:Unit)=>J) (s:=()) (i:=6) (rest:=[7]) (by decide) hJ rfl rfl (ad:=⟨w.heap.size,0,none⟩) rfl (λj _=>zq49 hfree j) ⟨_,_,_,f0⟩ ?_;intro τ d;rcases hcase with⟨rfl,rfl⟩|⟨rfl,rfl⟩
 . go_wp2;simp only[zq5,zq1l];refine hJ.re' () _ _ τ d ?_;have g3:=zqu w1 w.heap.size 0 Value.nilIface f0;have g4:∀b,b≠w.heap.size->(w1.setCell ⟨w.heap.size,0,none⟩ Value.nilIface).heap[b]?=w1.heap[b]?:=λb hb=>zqn _ _ _ _ hb;have g5:(w1.setCell ⟨w.heap.size,0,none⟩ Value.nilIface).heap.size=w.heap.size+1:=by rw[zq11,<-hw1,zqh]
   generalize w1.setCell ⟨w.heap.size,0,none⟩ Value.nilIface=w2 at g3 g4 g5 |-;refine zqb (J:=λ(_:Unit)=>J) (s:=()) (by decide) hJ (zq9 _) true (.inl rfl) 7 1 0 rfl rfl rfl (by rfl) ?_;intro τ d;simp only[List.drop_zero,List.drop_succ_cons,List.take_succ_cons,List.take_zero];go_wp2;simp only[zq5];refine hJ.re' () _ _ τ d ?_;refine hJ.ctl (s:=()) (λw=>stepG_region_end) ?_;refine hJ.ctl (s:=()) (λw=>stepG_seq) ?_;refine hJ.ctl (s:=()) (λw=>stepG_region) ?_;refine zqb (J:=λ(_:Unit)=>J) (s:=()) (by decide) hJ (zq9 _) true (.inl rfl) 0 9 0 rfl rfl rfl (by rfl) ?_;intro τ d;simp only[List.drop_zero,List.drop_succ_cons,List.take_succ_cons,List.take_zero];go_wp2;simp only[zq5];refine hJ.re' () _ _ τ d ?_;refine hJ.ctl (s:=()) (λw=>stepG_region_end) ?_;refine hJ.ctl (s:=()) (λw=>stepG_cond (t:=true) rfl) ?_;simp only[if_true];obtain⟨t1,t2,t3,t4,t5,t6,⟨bx,t7⟩⟩:=hT;have lt1:=zqe t1;have lt2:=zqe t2;have lt3:=zqe t3;have lt4:=zqe t4;have lt5:=zqe r1;have lt6:=zqe r2;have lt7:=zqe r3;have o:∀b,b<w.heap.size->w2.heap[b]?=w.heap[b]?:=λb hb=>(g4 b (by omega)).trans (f1 b (by omega));have k1:w2.cell? ⟨n,0,none⟩=some (.pointer (some ⟨bT,0,none⟩)):=(zq0 ((o n lt5).trans r1)).trans rfl;have k2:w2.cell? ⟨n+1,0,none⟩=some (.int .i64 i):=(zq0 ((o (n+1) lt6).trans r2)).trans rfl;have k3:w2.cell? ⟨n+2,0,none⟩=some (.bool whole):=(zq0 ((o (n+2) lt7).trans r3)).trans rfl;have k4:w2.cell? ⟨bT,2,none⟩=some (.slice (some ⟨bB,0,none⟩) N capB):=(zq0 ((o bT lt1).trans t1)).trans rfl;have k5:w2.cell? ⟨bB,i,none⟩=some (.bool bx):=(zq0 ((o bB lt3).trans t3)).trans t7;have k6:w2.frozen? ⟨bB,i,none⟩=false:=zqf ((o bB lt3).trans t3);have hi':(i:Int)<N:=by omega
   have hi0:(0:Int)<=i:=by omega
   refine zq40 (J:=λ(_:Unit)=>J) (s:=()) hJ (by decide) (by rfl) [.pointer (some ⟨bT,0,none⟩),.pointer (some ⟨bT,0,none⟩),.pointer (some ⟨bT,2,none⟩),.slice (some ⟨bB,0,none⟩) N capB,.int .i64 i,.bool whole,.bool (!whole),.pointer (some ⟨bB,i,none⟩)] (by kernel_rfl) ?_ ?_
   . intro τ d;simp only[evals,putv,dstOf,al_gl,al_g0,al_g1,al_ob,al_g2,List.set_cons_succ,List.set_cons_zero];refine⟨?_,?_,?_,?_,?_,?_,?_,?_,trivial⟩<;>(intro o ho;simp only[al_oi]at ho;subst ho)
     all_goals(simp only[execOp,Act.eval,al_gd,al_gl,al_g0,al_g1,al_od])
     all_goals(try go_simp)
   . simp only[putv,dstOf,al_gl,al_g0,al_g1,al_ob,al_g2,List.set_cons_succ,List.set_cons_zero,Nat.reduceAdd,Nat.zero_add,List.length_cons,List.length_nil];refine zq2a (J:=λ(_:Unit)=>J) (s:=()) (i:=8) (rest:=[]) (by decide) hJ rfl rfl (ad:=⟨bB,i,none⟩) rfl (λj _=>zq49 hKB j) ⟨_,_,_,(o bB lt3).trans t3⟩ ?_;intro τ d;go_wp2;simp only[zq5,zq1l];refine hJ.re' () _ _ τ d ?_;have m3:=zqu w2 bB i (Value.bool (!whole)) ((o bB lt3).trans t3);have m4:∀b,b≠bB->(w2.setCell ⟨bB,i,none⟩ (Value.bool (!whole))).heap[b]?=w2.heap[b]?:=λb hb=>zqn _ _ _ _ hb;have m5:(w2.setCell ⟨bB,i,none⟩ (Value.bool (!whole))).heap.size=w2.heap.size:=zq11 _ _ _;generalize w2.setCell ⟨bB,i,none⟩ (Value.bool (!whole))=w3 at m3 m4 m5 |-;refine hJ.ctl (s:=()) (λw=>stepG_region_end) ?_;have o3:∀b,b<w.heap.size->b≠bB->w3.heap[b]?=w.heap[b]?:=λb hb h=>(m4 b h).trans (o b hb);have hbi:i<br.size:=(Array.getElem?_eq_some_iff.1 t7).1;refine zq81 hJ (n:=n) (i:=i) (whole:=whole) ⟨(o3 n lt5 (by omega)).trans r1,(o3 (n+1) lt6 (by omega)).trans r2,(o3 (n+2) lt7 (by omega)).trans r3⟩
      (bB:=bB) (br:=br.setIfInBounds i (.bool (!whole))) ⟨(o3 bT lt1 hne.1).trans t1,(o3 bS lt2 hne.2.1).trans t2,m3,(o3 st lt4 hne.2.2.1).trans t4,t5,t6,⟨!whole,by simp[hbi]⟩⟩ ⟨hne.2.2.2.1,by omega⟩ hKs ?_
     intro T w' hT1 hT2 hsz hold hst;refine hnext T w' hT1 hT2 (by rw[hsz,m5,g5]) (λb hb h1 h2=>(hold b h2).trans (o3 b hb h1)) hst ?_;rw[hold bB hne.2.2.1.symm,m3];simp
 . go_wp2;simp only[zq5,zq1l];refine hJ.re' () _ _ τ d ?_;have g3:=zqu w1 w.heap.size 0 (Value.iface 136 (.pointer (some ⟨bT,0,none⟩))) f0;have g4:∀b,b≠w.heap.size->(w1.setCell ⟨w.heap.size,0,none⟩ (Value.iface 136 (.pointer (some ⟨bT,0,none⟩)))).heap[b]?=w1.heap[b]?:=λb hb=>zqn _ _ _ _ hb;have g5:(w1.setCell ⟨w.heap.size,0,none⟩ (Value.iface 136 (.pointer (some ⟨bT,0,none⟩)))).heap.size=w.heap.size+1:=by rw[zq11,<-hw1,zqh]
   generalize w1.setCell ⟨w.heap.size,0,none⟩ (Value.iface 136 (.pointer (some ⟨bT,0,none⟩)))=w2 at g3 g4 g5 |-;obtain⟨t1,t2,t3,t4,t5,t6,⟨bx,t7⟩⟩:=hT;have lt1:=zqe t1;have lt2:=zqe t2;have lt3:=zqe t3;have lt4:=zqe t4;have lt5:=zqe r1;have lt6:=zqe r2;have lt7:=zqe r3;have o:∀b,b<w.heap.size->w2.heap[b]?=w.heap[b]?:=λb hb=>(g4 b (by omega)).trans (f1 b (by omega));have k0:w2.cell? ⟨w.heap.size,0,none⟩=some (Value.iface 136 (.pointer (some ⟨bT,0,none⟩))):=(zq0 g3).trans rfl;have k1:w2.cell? ⟨n,0,none⟩=some (.pointer (some ⟨bT,0,none⟩)):=(zq0 ((o n lt5).trans r1)).trans rfl;refine zqb (J:=λ(_:Unit)=>J) (s:=()) (by decide) hJ (zq9 _) true (.inl rfl) 7 1 0 rfl rfl rfl (by rfl) ?_;intro τ d;simp only[List.drop_zero,List.drop_succ_cons,List.take_succ_cons,List.take_zero];go_wp2;simp only[zq5];refine hJ.re' () _ _ τ d ?_;refine hJ.ctl (s:=()) (λw=>stepG_region_end) ?_;refine hJ.ctl (s:=()) (λw=>stepG_seq) ?_;refine hJ.ctl (s:=()) (λw=>stepG_region) ?_;refine zqb (J:=λ(_:Unit)=>J) (s:=()) (by decide) hJ (zq9 _) true (.inl rfl) 0 9 0 rfl rfl rfl (by rfl) ?_;intro τ d;simp only[List.drop_zero,List.drop_succ_cons,List.take_succ_cons,List.take_zero];go_wp2;simp only[zq5];refine hJ.re' () _ _ τ d ?_;refine hJ.ctl (s:=()) (λw=>stepG_region_end) ?_;refine hJ.ctl (s:=()) (λw=>stepG_cond (t:=false) rfl) ?_;simp only[Bool.false_eq_true,if_false];refine hJ.ctl (s:=()) (λw=>stepG_skip) ?_;refine zq81 hJ (n:=n) (i:=i) (whole:=whole) ⟨(o n lt5).trans r1,(o (n+1) lt6).trans r2,(o (n+2) lt7).trans r3⟩
    (bB:=bB) (br:=br) ⟨(o bT lt1).trans t1,(o bS lt2).trans t2,(o bB lt3).trans t3,(o st lt4).trans t4,t5,t6,⟨_,t7⟩⟩ ⟨hne.2.2.2.1,by omega⟩ hKs ?_
   intro T w' hT1 hT2 hsz hold hst;refine hnext T w' hT1 hT2 (by rw[hsz,g5]) (λb hb h1 h2=>(hold b h2).trans (o b hb)) hst ?_;rw[hold bB hne.2.2.1.symm,o bB lt3,t3];simp
def zq1x(c:Frame):Prop:=c.fn=52/\c.defers=[]/\c.kind=.deferred/\(c.mode=.returning\/∃v,c.mode=.panicking [{v,recovered:=true}])
noncomputable def zq1w(T:Array Value):Frame:=(baseD 74).at ⟨T,[]⟩ [.inRegion (match Try.f74.body with|some (.seq _ (.seq _ (.seq _ (.region _ ops _))))=>ops|_=>#[]) [5]]
theorem zqe1:QuitsD Try.prog 1 0 (G bot []):=by
 refine QuitsD.ctl (g':={G bot []with status:=.finished}) rfl (λw=>?_) ⟨rfl,rfl⟩;simp[G,bot,botF,stepG,unwind,goexitEntry,Frame.catches];rfl
theorem zqe2(c:Frame)(h1:c.fn=52)(h2:c.defers=[])(h3:c.kind=.deferred)(h4:c.mode=.returning):QuitsD Try.prog 2 0 (G c [bot]):=by
 refine QuitsD.ctl (g':=G bot []) rfl (λw=>?_) zqe1;have hr:(results Try.f52 c.tmps).run Try.prog w=.ok (.tuple #[]) w:=by simp[results,Try.f52]
 have he:(results Try.f52 c.tmps).events Try.prog w #[]=#[]:=by simp[results,Try.f52]
 simp[G,stepG,unwind,h1,h2,h3,h4,Try.func52,Sem.runT_eq,hr,he,seen,GStep.after,doReturn,bot,botF,goexitEntry]
theorem leaves(T:Array Value)(c:Frame)(hc:zq1x c):QuitsD Try.prog 5 0 (Conc.served (G (zq1w T) [c,bot]) undef):=by
 obtain⟨h1,h2,h3,h4⟩:=hc;simp only[zq1w,Try.f74];rw[served_fr,Frame.finish_at];have ep:∀a:Act,a.put none undef=a:=λa=>rfl;simp only[al_gl,al_g0,al_g1,al_ob,ep];refine QuitsD.ctl rfl (λw=>stepG_region_end) ?_;refine QuitsD.ctl rfl (λw=>stepG_end) ?_;refine QuitsD.ctl (g':=G {c with mode:=.returning} [bot]) rfl (λw=>?_) (zqe2 _ h1 h2 h3 rfl);have hr:∀t,(results Try.f74 t).run Try.prog w=.ok (.tuple #[]) w:=λt=>by simp[results,Try.f74]
 have he:∀t,(results Try.f74 t).events Try.prog w #[]=#[]:=λt=>by simp[results,Try.f74]
 rcases h4 with h4|⟨v,h4⟩
 . have e:{c with mode:=.returning}=c:=by cases c;simp only at h4;subst h4;rfl
   rw[e];simp[G,stepG,unwind,Frame.at,baseD,Try.func74,Sem.runT_eq,hr,he,seen,GStep.after,doReturn,h4]
 . simp[G,stepG,unwind,Frame.at,baseD,Try.func74,Sem.runT_eq,hr,he,seen,GStep.after,doReturn,h4]
theorem zqef{Fin:Machine->Trace->Prop}(hFin:Back Try.prog Fin){Kc:Addr->Option Value}{Inb:Nat->Option Seat}{j n back:Nat}{T:Array Value}{c:Frame}{w:World}(hj:0<j)(hn:0<n)
 {zb:Value} {okb:Bool} {homeb:Goroutine->Prop} (h0:Inb 0=some (Seat.one back zb okb homeb)) (h1:T[41]?=some (.chan (some back))) (h2:T[42]?=some (.agg #[])) (hc:zq1x c)
 (hnext:∀g₂ k cap,homeb g₂->w.heap[back]?=some (.chan cap #[] false k k false)->HoldR Try.prog Fin Kc (upd Inb j none) 0 n (Conc.served g₂ (recvd okb (.agg #[]) true)) (w.setChan back cap #[] false (k+1) (k+1) false)):
 HoldR Try.prog Fin Kc Inb j n (G (zq1w T) [c,bot]) w:=by
 have hl:=leaves T c hc;simp only[zq1w,Try.f74]at hl |-;refine zq56 hFin (by omega) hn h0 rfl (zq5n (c:=back) (v:=.agg #[]) (z':=.tuple #[]) rfl rfl (by decide) (λw=>?_) (λw=>?_) w) (by simp) (.leaves hj ⟨5,hl⟩) hnext
 . simp[execOp,scase,Act.eval,al_gd,h1,h2]
 . simp[go_sem,execOp,Act.eval]
structure EndIn(Kc:Addr->Option Value)(n bT bS bB N cap capB i st back pass:Nat)(sr br:Array Value)(ov:Bool)(w:World):Prop where
 kept:∀a v,Kc a=some v->a.block<w.heap.size
 tw:TW bT bS bB N cap capB i st back pass sr br ov w
 lt:bT<n/\bS<n/\bB<n/\st<n
 ne:bT≠bB/\bS≠bB/\st≠bB/\bT≠st/\bS≠st
 kb:∀y:Addr,y.block=bB->Kc y=none
 ks:Kc ⟨st,2,none⟩=none
structure EndOut(bB st bT pass i:Nat)(br:Array Value)(brk:Option Bool)(w w':World):Prop where
 size:w.heap.size<=w'.heap.size
 old:∀b,b<w.heap.size->b≠bB->b≠st->w'.heap[b]?=w.heap[b]?
 std:w'.heap[st]?=some (.cells #[.pointer (some ⟨bT,0,none⟩),.chan (some pass),.bool true] 144)
 brs:w'.heap[bB]?=some (.cells (match brk with|some x=>br.setIfInBounds i (.bool x)|none=>br) 4)
theorem zq80{Kc:Addr->Option Value}{J:Goroutine->World->Prop}(hJ:JX Try.prog Kc J){n bT bS bB N cap capB i st back pass:Nat}{sr br:Array Value}{ov whole:Bool}{w:World}{b:Frame}{a:Act}{todo:List Item}{md:FrameMode}{r:Value}{ok:Bool}{x:Value}
 (hb:b=baseD 52) (hd:a.defers=[run1 n]) (hmd:(md=.returning/\r=.nilIface)\/md=.panicking [{v:=r,recovered:=false}])
 (hassert:∀w,(Instr.typeAssert r 20 188 true).run Try.prog w=.ok (.tuple #[.agg #[x],.bool ok]) w) (hcase:(ok=false/\x=.nilIface)\/(ok=true/\x=.iface 136 (.pointer (some ⟨bT,0,none⟩))))
 (hR:RunW n bT i whole w) (hE:EndIn Kc n bT bS bB N cap capB i st back pass sr br ov w)
 (hnext:∀T c w',zq1x c->T[41]?=some (.chan (some back))->T[42]?=some (.agg #[])->EndOut bB st bT pass i br (if ok=true then none else some (!whole)) w w'->J (G (zq1w T) [c,bot]) w'):
 J (G {b.at a todo with mode:=md} [bot]) w:=by
 subst hb;refine zq4z (J:=λ(_:Unit)=>J) (s:=()) (f:=74) (fn:=Try.f74) (c:=Try.f74.body.getD .skip) (args:=#[]) (caps:=#[.pointer (some ⟨n,0,none⟩),.pointer (some ⟨n+2,0,none⟩),.pointer (some ⟨n+1,0,none⟩)]) (ds:=[]) hJ ?_ hd Try.func74 rfl rfl ?_
 . rcases hmd with⟨h,_⟩|h
   . exact .inl h
   . exact .inr ⟨_,h⟩
 have body:∀(c:Frame),zq1x c->J (G ((baseD 74).at ⟨#[.pointer (some ⟨n,0,none⟩),.pointer (some ⟨n+2,0,none⟩),.pointer (some ⟨n+1,0,none⟩),r,undef,undef,r,undef,undef,undef,undef,undef,undef,undef,undef,undef,undef,undef,undef,undef,undef,undef,undef,undef,undef,undef,undef,undef,undef,undef,undef,undef,undef,undef,undef,undef,undef,undef,undef,undef,undef,undef,undef],[]⟩ [.code (match Try.f74.body with|some (.seq _ c)=>c|_=>.skip)]) [c,bot]) w:=by
  intro c hc;refine zqe8 hJ rfl hassert hcase hR hE.kept hE.tw hE.lt hE.ne hE.kb hE.ks ?_;intro T w' h1 h2 h3 h4 h5 h6;refine hnext T c w' hc h1 h2 ⟨by omega,h4,h5,?_⟩;rw[h6];cases ok<;>rfl
 simp only[Try.f74,zqg,al_od,List.size_toArray,List.length_cons,List.length_nil,Nat.reduceAdd,Nat.reduceSub,Array.replicate_succ,Array.replicate_zero,List.push_toArray,List.append_toArray,List.nil_append,List.cons_append]at body |-;refine hJ.ctl (s:=()) (λw=>stepG_seq) ?_;refine hJ.ctl (s:=()) (λw=>stepG_region) ?_;rcases hmd with⟨rfl,rfl⟩|rfl
 . refine zqau (J:=λ(_:Unit)=>J) (s:=()) (i:=0) (rest:=[1]) rfl rfl hJ rfl rfl (λw=>by simp[go_sem,execOp,Act.eval]) (λw=>by simp[go_sem,execOp,Act.eval]) ?_
   walk_nrm
   refine zqb (J:=λ(_:Unit)=>J) (s:=()) (by decide) hJ (zq9 _) true (.inl rfl) 1 1 0 rfl rfl rfl (by rfl) ?_;intro τ d;simp only[List.drop_zero,List.drop_succ_cons,List.take_succ_cons,List.take_zero];go_wp2;simp only[zq5];refine hJ.re' () _ _ τ d ?_;refine hJ.ctl (s:=()) (λw=>stepG_region_end) ?_;exact body _ ⟨rfl,rfl,rfl,.inl rfl⟩
 . refine zqav (J:=λ(_:Unit)=>J) (s:=()) (i:=0) (rest:=[1]) (v:=r) (older:=[]) rfl rfl hJ rfl rfl (λw=>by simp[go_sem,execOp,Act.eval]) (λw=>by simp[go_sem,execOp,Act.eval]) ?_
   walk_nrm
   refine zqb (J:=λ(_:Unit)=>J) (s:=()) (by decide) hJ (zq9 _) true (.inl rfl) 1 1 0 rfl rfl rfl (by rfl) ?_;intro τ d;simp only[List.drop_zero,List.drop_succ_cons,List.take_succ_cons,List.take_zero];go_wp2;simp only[zq5];refine hJ.re' () _ _ τ d ?_;refine hJ.ctl (s:=()) (λw=>stepG_region_end) ?_;exact body _ ⟨rfl,rfl,rfl,.inr ⟨r,rfl⟩⟩
theorem TW.of_same {bT bS bB N cap capB i st back pass:Nat}{sr br:Array Value}{ov:Bool}{w w':World}(h:TW bT bS bB N cap capB i st back pass sr br ov w)
 (h1:w'.heap[bT]?=w.heap[bT]?) (h2:w'.heap[bS]?=w.heap[bS]?) (h3:w'.heap[bB]?=w.heap[bB]?) (h4:w'.heap[st]?=w.heap[st]?):TW bT bS bB N cap capB i st back pass sr br ov w':=
 ⟨h1.trans h.ts,h2.trans h.sts,h3.trans h.brs,h4.trans h.std,h.lt,h.s,h.b⟩
theorem zq86{Kc:Addr->Option Value}{J:Goroutine->World->Prop}(hJ:JX Try.prog Kc J){n bT bS bB N cap capB i st back pass:Nat}{sr br:Array Value}{ov:Bool}{w:World}{T:Array Value}
 (hT6:T[6]?=some (.pointer (some ⟨n+2,0,none⟩))) (hR:RunW n bT i false w) (hE:EndIn Kc n bT bS bB N cap capB i st back pass sr br ov w) (hKn:∀y:Addr,y.block=n+2->Kc y=none)
 (hnext:∀T c w',zq1x c->T[41]?=some (.chan (some back))->T[42]?=some (.agg #[])->w.heap.size<=w'.heap.size->(∀b,b<w.heap.size->b≠bB->b≠st->b≠n+2->w'.heap[b]?=w.heap[b]?)->
  w'.heap[st]?=some (.cells #[.pointer (some ⟨bT,0,none⟩),.chan (some pass),.bool true] 144)->w'.heap[bB]?=some (.cells (br.setIfInBounds i (.bool false)) 4)->J (G (zq1w T) [c,bot]) w'):
 J (G ((baseD 52).at ⟨T,[run1 n]⟩ [.code code5]) [bot]) w:=by
 simp only[code5,Try.f52];have l1:=hE.lt;refine hJ.ctl (s:=()) (λw=>stepG_region) ?_;have k1:w.cell? ⟨n+2,0,none⟩=some (.bool false):=(zq0 hR.whole).trans rfl;have k2:w.frozen? ⟨n+2,0,none⟩=false:=zqf hR.whole;refine zq2a (J:=λ(_:Unit)=>J) (s:=()) (i:=0) (rest:=[]) (by decide) hJ rfl rfl (ad:=⟨n+2,0,none⟩) (by simp[Act.eval,al_gd,hT6]) (λj _=>zq49 hKn j) ⟨_,_,_,hR.whole⟩ ?_;intro τ d;go_wp2;simp only[zq5,zq1l];refine hJ.re' () _ _ τ d ?_;have m3:=zqu w (n+2) 0 (Value.bool true) hR.whole;have m4:∀b,b≠n+2->(w.setCell ⟨n+2,0,none⟩ (Value.bool true)).heap[b]?=w.heap[b]?:=λb hb=>zqn _ _ _ _ hb;have m5:(w.setCell ⟨n+2,0,none⟩ (Value.bool true)).heap.size=w.heap.size:=zq11 _ _ _;generalize w.setCell ⟨n+2,0,none⟩ (Value.bool true)=w3 at m3 m4 m5 |-;refine hJ.ctl (s:=()) (λw=>stepG_region_end) ?_;refine hJ.ctl (s:=()) (λw=>stepG_end) ?_;refine zq80 hJ (whole:=true) (r:=.nilIface) (ok:=false) (x:=.nilIface) (md:=.returning) rfl rfl (.inl ⟨rfl,rfl⟩) zqaq (.inl ⟨rfl,rfl⟩) ⟨(m4 n (by omega)).trans hR.t,(m4 (n+1) (by omega)).trans hR.i,m3⟩
  ⟨λa v h=>by rw[m5];exact hE.kept a v h,hE.tw.of_same (m4 _ (by omega)) (m4 _ (by omega)) (m4 _ (by omega)) (m4 _ (by omega)),hE.lt,hE.ne,hE.kb,hE.ks⟩ ?_
 intro T c w' hc h1 h2 ho;refine hnext T c w' hc h1 h2 (by have:=ho.size;omega) (λb hb h3 h4 h5=>(ho.old b (by omega) h3 h4).trans (m4 b h5)) ho.std ho.brs
theorem run_back{Kc:Addr->Option Value}{J:Goroutine->World->Prop}(hJ:JX Try.prog Kc J){n bT bS bB N cap capB i st back pass:Nat}{sr br:Array Value}{ov:Bool}{w:World}{tv v:Value}
 (hR:RunW n bT i false w) (hE:EndIn Kc n bT bS bB N cap capB i st back pass sr br ov w) (hKn:∀y:Addr,y.block=n+2->Kc y=none)
 (hnext:∀T c w',zq1x c->T[41]?=some (.chan (some back))->T[42]?=some (.agg #[])->w.heap.size<=w'.heap.size->(∀b,b<w.heap.size->b≠bB->b≠st->b≠n+2->w'.heap[b]?=w.heap[b]?)->
  w'.heap[st]?=some (.cells #[.pointer (some ⟨bT,0,none⟩),.chan (some pass),.bool true] 144)->w'.heap[bB]?=some (.cells (br.setIfInBounds i (.bool false)) 4)->J (G (zq1w T) [c,bot]) w'):
 J (G ((zq2t n bT bS N cap i st tv [.inRegion ops4 [9],.code code5]).finish v) [bot]) w:=by
 simp only[zq2t];rw[Frame.finish_at];refine hJ.ctl (s:=()) (λw=>stepG_region_end) ?_;refine zq86 hJ (by simp[Act.put,ops4,Try.f52]) hR hE hKn hnext
theorem run_nil{Kc:Addr->Option Value}{J:Goroutine->World->Prop}(hJ:JX Try.prog Kc J){n bT bS bB N cap capB i st back pass:Nat}{sr br:Array Value}{ov:Bool}{w:World}
 (hR:RunW n bT i false w) (hE:EndIn Kc n bT bS bB N cap capB i st back pass sr br ov w) (hKn:∀y:Addr,y.block=n+2->Kc y=none)
 (hnext:∀T c w',zq1x c->T[41]?=some (.chan (some back))->T[42]?=some (.agg #[])->w.heap.size<=w'.heap.size->(∀b,b<w.heap.size->b≠bB->b≠st->b≠n+2->w'.heap[b]?=w.heap[b]?)->
  w'.heap[st]?=some (.cells #[.pointer (some ⟨bT,0,none⟩),.chan (some pass),.bool true] 144)->w'.heap[bB]?=some (.cells (br.setIfInBounds i (.bool false)) 4)->J (G (zq1w T) [c,bot]) w'):
 J (G (runAt n bT i .nilFunc [.code zq3s]) [bot]) w:=by
 simp only[runAt,zq3s,Try.f52];refine hJ.ctl (s:=()) (λw=>stepG_seq) ?_;refine hJ.ctl (s:=()) (λw=>stepG_seq) ?_;refine hJ.ctl (s:=()) (λw=>stepG_region) ?_;refine zqb (J:=λ(_:Unit)=>J) (s:=()) (by decide) hJ (zq9 _) true (.inl rfl) 0 2 0 rfl rfl rfl (by rfl) ?_;intro τ d;simp only[List.drop_zero,List.drop_succ_cons,List.take_succ_cons,List.take_zero];go_wp2;simp only[zq5];refine hJ.re' () _ _ τ d ?_;refine hJ.ctl (s:=()) (λw=>stepG_region_end) ?_;refine hJ.ctl (s:=()) (λw=>stepG_cond (t:=false) rfl) ?_;simp only[Bool.false_eq_true,if_false];refine hJ.ctl (s:=()) (λw=>stepG_skip) ?_;have:= @zq86 Kc J hJ n bT bS bB N cap capB i st back pass sr br ov w;refine this (T:=_) ?_ hR hE hKn hnext;rfl
theorem zq85{Kc:Addr->Option Value}{J:Goroutine->World->Prop}(hJ:JX Try.prog Kc J){n bT bS bB N cap capB i st back pass:Nat}{sr br:Array Value}{ov:Bool}{w:World}{tv r x:Value}{ok:Bool}
 (hassert:∀w,(Instr.typeAssert r 20 188 true).run Try.prog w=.ok (.tuple #[.agg #[x],.bool ok]) w) (hcase:(ok=false/\x=.nilIface)\/(ok=true/\x=.iface 136 (.pointer (some ⟨bT,0,none⟩))))
 (hR:RunW n bT i false w) (hE:EndIn Kc n bT bS bB N cap capB i st back pass sr br ov w)
 (hnext:∀T c w',zq1x c->T[41]?=some (.chan (some back))->T[42]?=some (.agg #[])->EndOut bB st bT pass i br (if ok=true then none else some true) w w'->J (G (zq1w T) [c,bot]) w'):
 J (G ((zq2t n bT bS N cap i st tv [.inRegion ops4 [9],.code code5]).raise [{v:=r,recovered:=false}]) [bot]) w:=by
 simp only[zq2t];rw[Frame.raise_at];exact zq80 hJ (whole:=false) rfl rfl (.inr rfl) hassert hcase hR hE hnext
structure OA where
 n0:Nat
 N:Nat
 cap:Nat
 capB:Nat
 bT:Nat
 bS:Nat
 sp:Option Addr
 bB:Nat
 bX:Nat
 back:Nat
 row:Array Value
 st:Nat->Nat
 pass:Nat->Nat
 rb:Nat->Nat
 tv:Nat->Value
def OA.own (A:OA)(b:Nat):Prop:=b=A.bT\/(0<A.N/\b=A.bS)\/b=A.bB\/b=A.bX\/b=A.back\/∃i,i<A.N/\(b=A.st i\/b=A.pass i)
def OA.box (A:OA)(i b:Nat):Prop:=b=A.rb i\/b=A.rb i+1\/b=A.rb i+2
structure OA.Ok (A:OA):Prop where
 n0:0<A.n0
 sp:0<A.N->A.sp=some ⟨A.bS,0,none⟩
 row:∀i,i<A.N->A.row[i]?=some (.pointer (some ⟨A.st i,0,none⟩))
 inj:∀i j,i<A.N->j<A.N->A.st i=A.st j->i=j
 pb:∀i,i<A.N->A.pass i≠A.back
 injp:∀i j,i<A.N->j<A.N->A.pass i=A.pass j->i=j
 ne:A.bT≠A.bS/\A.bT≠A.bB/\A.bS≠A.bB/\A.bX≠A.bT/\A.bX≠A.bS/\A.bX≠A.bB
 st:∀i,i<A.N->A.st i≠A.bT/\A.st i≠A.bS/\A.st i≠A.bB/\A.st i≠A.bX
structure OverW(A:OA)(ov brk:Nat->Bool)(w:World):Prop where
 ts:w.heap[A.bT]?=some (.cells #[.chan (some A.back),.slice A.sp A.N A.cap,.slice (some ⟨A.bB,0,none⟩) A.N A.capB] 140)
 box:w.heap[A.bX]?=some (.cells #[.pointer (some ⟨A.bT,0,none⟩)] 136)
 sts:0<A.N->w.heap[A.bS]?=some (.cells A.row 141)
 brs:∃br,w.heap[A.bB]?=some (.cells br 4)/\∀i,i<A.N->br[i]?=some (.bool (brk i))
 std:∀i,i<A.N->w.heap[A.st i]?=some (.cells #[.pointer (some ⟨A.bT,0,none⟩),.chan (some (A.pass i)),.bool (ov i)] 144)
 bk:∃cap k,w.heap[A.back]?=some (.chan cap #[] false k k false)
 ps:∀i,i<A.N->∃cap k,w.heap[A.pass i]?=some (.chan cap #[] false k k false)
structure Kept(A:OA)(Kc:Addr->Option Value):Prop where
 t:Kc ⟨A.bT,0,none⟩=some (.chan (some A.back))
 x:Kc ⟨A.bX,0,none⟩=some (.pointer (some ⟨A.bT,0,none⟩))
 p:∀i,i<A.N->Kc ⟨A.st i,1,none⟩=some (.chan (some (A.pass i)))
 only:∀a v,Kc a=some v->a=⟨A.bT,0,none⟩\/a=⟨A.bX,0,none⟩\/∃i,i<A.N/\a=⟨A.st i,1,none⟩
theorem OverW.own_lt {A:OA}{ov brk:Nat->Bool}{w:World}(h:OverW A ov brk w){b:Nat}(hb:A.own b):b<w.heap.size:=by
 rcases hb with rfl |⟨hN,rfl⟩|rfl |rfl |rfl |⟨i,hi,rfl |rfl⟩
 . exact zqe h.ts
 . exact zqe (h.sts hN)
 . obtain⟨br,h1,_⟩:=h.brs;exact zqe h1
 . exact zqe h.box
 . obtain⟨c,k,h1⟩:=h.bk;exact zqe h1
 . exact zqe (h.std i hi)
 . obtain⟨c,k,h1⟩:=h.ps i hi;exact zqe h1
theorem OverW.of_same {A:OA}{ov brk:Nat->Bool}{w w':World}(h:OverW A ov brk w)(hs:∀b,A.own b->w'.heap[b]?=w.heap[b]?):OverW A ov brk w':=by
 have o1:A.own A.bT:=.inl rfl;have o2:0<A.N->A.own A.bS:=λhN=>.inr (.inl ⟨hN,rfl⟩);have o3:A.own A.bB:=.inr (.inr (.inl rfl));have o4:A.own A.bX:=.inr (.inr (.inr (.inl rfl)));have o5:A.own A.back:=.inr (.inr (.inr (.inr (.inl rfl))));have o6:∀i,i<A.N->A.own (A.st i):=λi hi=>.inr (.inr (.inr (.inr (.inr ⟨i,hi,.inl rfl⟩))));have o7:∀i,i<A.N->A.own (A.pass i):=λi hi=>.inr (.inr (.inr (.inr (.inr ⟨i,hi,.inr rfl⟩))));obtain⟨br,b1,b2⟩:=h.brs;obtain⟨c,k,hk⟩:=h.bk;exact⟨(hs _ o1).trans h.ts,(hs _ o4).trans h.box,λhN=>(hs _ (o2 hN)).trans (h.sts hN),⟨br,(hs _ o3).trans b1,b2⟩,λi hi=>(hs _ (o6 i hi)).trans (h.std i hi),⟨c,k,(hs _ o5).trans hk⟩,
  λi hi=>by obtain⟨c,k,hk⟩:=h.ps i hi;exact⟨c,k,(hs _ (o7 i hi)).trans hk⟩⟩
theorem zq2j{w:World}{c cap k cap₀ k₀:Nat}(hck:w.heap[c]?=some (.chan cap₀ #[] false k₀ k₀ false)){b:Nat}{x:Array Value}{e:TypeId}{f:Nat×Nat}(hb:w.heap[b]?=some (.cells x e f)):
 (w.setChan c cap #[] false (k+1) (k+1) false).heap[b]?=some (.cells x e f):=by
 rw[zq3g _ _ _ _ _ _ _ _ _ (λe=>by subst e;rw[hck]at hb;cases hb)];exact hb
theorem zq89{w:World}{c cap k cap₀ k₀:Nat}(hck:w.heap[c]?=some (.chan cap₀ #[] false k₀ k₀ false)){d:Nat}(hd:∃cap k,w.heap[d]?=some (.chan cap #[] false k k false)):
 ∃cap' k',(w.setChan c cap #[] false (k+1) (k+1) false).heap[d]?=some (.chan cap' #[] false k' k' false):=by
 by_cases e:d=c
 . subst e;refine⟨cap,k+1,?_⟩;show(w.heap.setIfInBounds d _)[d]?=_;rw[Array.getElem?_setIfInBounds_self_of_lt (zqe hck)]
 . obtain⟨a,b,h⟩:=hd;exact⟨a,b,by rw[zq3g _ _ _ _ _ _ _ _ _ e];exact h⟩
theorem OverW.chan {A:OA}{ov brk:Nat->Bool}{w:World}(h:OverW A ov brk w){c cap k:Nat}(hc:c=A.back\/∃i,i<A.N/\c=A.pass i):OverW A ov brk (w.setChan c cap #[] false (k+1) (k+1) false):=by
 obtain⟨cap₀,k₀,hck⟩:∃cap k,w.heap[c]?=some (.chan cap #[] false k k false):=by
  rcases hc with rfl |⟨i,hi,rfl⟩
  . exact h.bk
  . exact h.ps i hi
 obtain⟨br,b1,b2⟩:=h.brs;exact⟨zq2j hck h.ts,zq2j hck h.box,λhN=>zq2j hck (h.sts hN),⟨br,zq2j hck b1,b2⟩,λi hi=>zq2j hck (h.std i hi),zq89 hck h.bk,λi hi=>zq89 hck (h.ps i hi)⟩
theorem OverW.stepW {A:OA}{ov brk:Nat->Bool}{w:World}(h:OverW A ov brk w){i:Nat}(hi:i<A.N):StepW (A.st i) A.bT A.back (A.pass i) w:=
 ⟨(zq0 (h.std i hi)).trans rfl,(zq0 h.ts).trans rfl,(zq0 (h.std i hi)).trans rfl⟩
theorem OverW.tsS {A:OA}(hA:A.Ok){ov brk:Nat->Bool}{w:World}(h:OverW A ov brk w)(hN:0<A.N):w.heap[A.bT]?=some (.cells #[.chan (some A.back),.slice (some ⟨A.bS,0,none⟩) A.N A.cap,.slice (some ⟨A.bB,0,none⟩) A.N A.capB] 140):=by
 rw[<-hA.sp hN];exact h.ts
theorem OverW.tw {A:OA}(hA:A.Ok){ov brk:Nat->Bool}{w:World}(h:OverW A ov brk w){i:Nat}(hi:i<A.N):
 ∃br,TW A.bT A.bS A.bB A.N A.cap A.capB i (A.st i) A.back (A.pass i) A.row br (ov i) w/\∀j,j<A.N->br[j]?=some (.bool (brk j)):=by
 obtain⟨br,b1,b2⟩:=h.brs;exact⟨br,⟨h.tsS hA (by omega),h.sts (by omega),b1,h.std i hi,hi,hA.row i hi,⟨_,b2 i hi⟩⟩,b2⟩
def NEnd(ch:List PanicEntry):Prop:=∃r,ch=[{v:=r,recovered:=false}]/\∀w,(Instr.typeAssert r 20 188 true).run Try.prog w=.ok (.tuple #[.agg #[.nilIface],.bool false]) w
def TEnd(A:OA)(ch:List PanicEntry):Prop:=ch=[{v:=.iface 188 (.agg #[.iface 136 (.pointer (some ⟨A.bT,0,none⟩))]),recovered:=false}]
noncomputable def OA.cr (A:OA)(i:Nat):Frame:=zq2t (A.rb i) A.bT A.bS A.N A.cap i (A.st i) (A.tv i) [.inRegion ops4 [9],.code code5]
def OA.sx (A:OA)(i:Nat):Value:=.pointer (some ⟨A.st i,0,none⟩)
def OA.seat (A:OA)(i:Nat)(c:Frame)(cs:List Frame):Seat:=Seat.one (A.pass i) (.bool false) false (zq3u (A.st i) A.bT A.back (A.pass i) c cs)
section
variable {M:Type}
structure Cf(T:Thr M)(A:OA)(Kc:Addr->Option Value)(E:Nat->Option Obj)(k s:Nat)(ov brk:Nat->Bool)(m:M)(inb:Nat->Option Seat)(w:World):Prop where
 ow:OverW A ov brk w
 rep:T.Rep m w
 free:∀b,A.own b->¬T.foot m b
 le:s<=A.N
 run:∀i,i<s->ov i=false->RunW (A.rb i) A.bT i false w
 above:∀i b,i<s->A.own b->b<A.rb i
 boxes:∀i j,i<s->j<s->i≠j->A.rb i+3<=A.rb j\/A.rb j+3<=A.rb i
 boxfree:∀i b,i<s->A.box i b->¬T.foot m b
 boxlt:∀i b,i<s->A.box i b->b<w.heap.size
 seat:∀i,i<s->ov i=false->∃c cs,inb (A.n0+i)=some (A.seat i c cs)/\Susp Try.prog T 130 (A.sx i) (A.cr i) [bot] NEnd (TEnd A) i k c cs m
 gone:∀j,j≠0->(∀i,i<s->ov i=false->j≠A.n0+i)->inb j=none
 ext:∀b o,E b=some o->w.heap[b]?=some o
 extfree:∀b o,E b=some o->¬A.own b/\¬T.foot m b/\∀i,i<s->¬A.box i b
 lft:k<=T.left m
theorem Kept.lt {A:OA}{Kc:Addr->Option Value}(hK:Kept A Kc){ov brk:Nat->Bool}{w:World}(h:OverW A ov brk w):∀a v,Kc a=some v->a.block<w.heap.size:=by
 intro a v hv;rcases hK.only a v hv with rfl |rfl |⟨i,hi,rfl⟩
 . exact zqe h.ts
 . exact zqe h.box
 . exact zqe (h.std i hi)
theorem Kept.own {A:OA}{Kc:Addr->Option Value}(hK:Kept A Kc):∀a v,Kc a=some v->A.own a.block:=by
 intro a v hv;rcases hK.only a v hv with rfl |rfl |⟨i,hi,rfl⟩
 . exact .inl rfl
 . exact .inr (.inr (.inr (.inl rfl)))
 . exact .inr (.inr (.inr (.inr (.inr ⟨i,hi,.inl rfl⟩))))
theorem Kept.endIn {A:OA}(hA:A.Ok){Kc:Addr->Option Value}(hK:Kept A Kc){ov brk:Nat->Bool}{w:World}(h:OverW A ov brk w){i:Nat}(hi:i<A.N)(habove:∀b,A.own b->b<A.rb i):
 ∃br,EndIn Kc (A.rb i) A.bT A.bS A.bB A.N A.cap A.capB i (A.st i) A.back (A.pass i) A.row br (ov i) w/\∀j,j<A.N->br[j]?=some (.bool (brk j)):=by
 obtain⟨br,h1,h2⟩:=h.tw hA hi;have hs:=hA.st i hi;refine⟨br,⟨hK.lt h,h1,⟨habove _ (.inl rfl),habove _ (.inr (.inl ⟨by omega,rfl⟩)),habove _ (.inr (.inr (.inl rfl))),habove _ (.inr (.inr (.inr (.inr (.inr ⟨i,hi,.inl rfl⟩)))))⟩,
  ⟨hA.ne.2.1,hA.ne.2.2.1,hs.2.2.1,λe=>hs.1 e.symm,λe=>hs.2.1 e.symm⟩,λy hy=>?_,?_⟩,h2⟩
 . cases hky:Kc y with
   |none=>rfl
   |some v=>
    exfalso;rcases hK.only y v hky with rfl |rfl |⟨j,hj,rfl⟩
    . exact hA.ne.2.1 hy
    . exact hA.ne.2.2.2.2.2 hy
    . exact(hA.st j hj).2.2.1 hy
 . cases hky:Kc ⟨A.st i,2,none⟩with
   |none=>rfl
   |some v=>
    exfalso;rcases hK.only _ v hky with h|h|⟨j,hj,h⟩<;>(have:=congrArg Addr.off h;simp at this)
end
section
variable {M:Type}
structure Held(T:Thr M)(A:OA)(Kc:Addr->Option Value)(E:Nat->Option Obj)(k s i:Nat)(ov brk:Nat->Bool)(m:M)(inb:Nat->Option Seat)(w:World):Prop where
 ow:OverW A ov brk w
 rep:T.Rep m w
 free:∀b,A.own b->¬T.foot m b
 le:s<=A.N
 is:i<s
 ovi:ov i=false
 run:∀j,j<s->ov j=false->RunW (A.rb j) A.bT j false w
 above:∀j b,j<s->A.own b->b<A.rb j
 boxes:∀i j,i<s->j<s->i≠j->A.rb i+3<=A.rb j\/A.rb j+3<=A.rb i
 boxfree:∀i b,i<s->A.box i b->¬T.foot m b
 boxlt:∀i b,i<s->A.box i b->b<w.heap.size
 seat:∀j,j<s->j≠i->ov j=false->∃c cs,inb (A.n0+j)=some (A.seat j c cs)/\Susp Try.prog T 130 (A.sx j) (A.cr j) [bot] NEnd (TEnd A) j k c cs m
 gone:∀j,j≠0->j≠A.n0+i->(∀i,i<s->ov i=false->j≠A.n0+i)->inb j=none
 ext:∀b o,E b=some o->w.heap[b]?=some o
 extfree:∀b o,E b=some o->¬A.own b/\¬T.foot m b/\∀i,i<s->¬A.box i b
theorem RunW.of_same {n bT i:Nat}{whole:Bool}{w w':World}(h:RunW n bT i whole w)(h1:w'.heap[n]?=w.heap[n]?)(h2:w'.heap[n+1]?=w.heap[n+1]?)(h3:w'.heap[n+2]?=w.heap[n+2]?):RunW n bT i whole w':=
 ⟨h1.trans h.t,h2.trans h.i,h3.trans h.whole⟩
theorem Held.grow {T:Thr M}{A:OA}{Kc:Addr->Option Value}{E:Nat->Option Obj}{k s i:Nat}{ov brk:Nat->Bool}{m m':M}{inb:Nat->Option Seat}{w w':World}(h:Held T A Kc E k s i ov brk m inb w)(hg:Grow T m w m' w')(hr:T.Rep m' w')(hsame:∀j,j≠i->T.Same j m m'):Held T A Kc E k s i ov brk m' inb w':=by
 have hboxlt:=h.boxlt;have hown:∀b,A.own b->w'.heap[b]?=w.heap[b]?:=λb hb=>hg.old b (h.ow.own_lt hb) (h.free b hb);have hbox:∀j b,j<s->A.box j b->w'.heap[b]?=w.heap[b]?:=λj b hj hb=>hg.old b (hboxlt j b hj hb) (h.boxfree j b hj hb);refine⟨h.ow.of_same hown,hr,λb hb hf=>?_,h.le,h.is,h.ovi,λj hj ho=>?_,h.above,h.boxes,λj b hj hb hf=>?_,λj b hj hb=>Nat.lt_of_lt_of_le (hboxlt j b hj hb) hg.size,λj hj hne ho=>?_,h.gone,λb o hb=>?_,λb o hb=>?_⟩
 . rcases hg.grow b hf with x|x
   . exact h.free b hb x
   . have:=h.ow.own_lt hb;omega
 . exact(h.run j hj ho).of_same (hbox j _ hj (.inl rfl)) (hbox j _ hj (.inr (.inl rfl))) (hbox j _ hj (.inr (.inr rfl)))
 . rcases hg.grow b hf with x|x
   . exact h.boxfree j b hj hb x
   . have:=hboxlt j b hj hb;omega
 . obtain⟨c,cs,h1,h2⟩:=h.seat j hj hne ho;exact⟨c,cs,h1,h2.same (hsame j hne)⟩
 . have h1:=h.ext b o hb;rw[hg.old b (zqe h1) (h.extfree b o hb).2.1];exact h1
 . obtain⟨e1,e2,e3⟩:=h.extfree b o hb;refine⟨e1,λhf=>?_,e3⟩;rcases hg.grow b hf with x|x
   . exact e2 x
   . have:=zqe (h.ext b o hb);omega
theorem turn_yield{Fin:Machine->Trace->Prop}(hFin:Back Try.prog Fin){T:Thr M}{A:OA}(hA:A.Ok){Kc:Addr->Option Value}{E:Nat->Option Obj}(hK:Kept A Kc){k s i n:Nat}{ov brk:Nat->Bool}{m:M}{inb:Nat->Option Seat}{w:World}(h:Held T A Kc E k s i ov brk m inb w)(hn:0<n)
 {homeb:Goroutine->Prop} (h0:inb 0=some (Seat.one A.back (.agg #[]) false homeb)) {c:Frame} {cs:List Frame} (hS:Susp Try.prog T 130 (A.sx i) (A.cr i) [bot] NEnd (TEnd A) i k c cs m) (hl:k<=T.left m)
 (hmain:∀inb' w' g₂,Cf T A Kc E k s ov brk m inb' w'->homeb g₂->HoldR Try.prog Fin Kc inb' 0 n (Conc.served g₂ (.agg #[])) w'):
 HoldR Try.prog Fin Kc inb (A.n0+i) n (G (Frame.enter Try.prog 130 #[A.sx i] .normal) (c::cs)) w:=by
 have hiN:i<A.N:=Nat.lt_of_lt_of_le h.is h.le;have hn0:=hA.n0;refine zqha hFin (h.ow.stepW hiN) (by omega) hn h0 (hK.p i hiN) (λj s' hj hs' hh=>?_) (h.ow.ps i hiN) ?_
 . by_cases hj0:j=0
   . subst hj0;rw[h0]at hs';cases hs';rw[Seat.one_has]at hh;exact hA.pb i hiN hh
   . by_cases hex:∃i',i'<s/\ov i'=false/\j=A.n0+i'
     . obtain⟨i',h1,h2,rfl⟩:=hex;obtain⟨c',cs',h3,_⟩:=h.seat i' h1 (λe=>hj (by rw[e])) h2;rw[h3]at hs';cases hs';unfold OA.seat at hh;rw[Seat.one_has]at hh;have:=hA.injp i i' hiN (Nat.lt_of_lt_of_le h1 h.le) hh;exact hj (by rw[this])
     . have:=h.gone j hj0 hj (λi' h1 h2 e=>hex ⟨i',h1,h2,e⟩);rw[this]at hs';cases hs'
 . intro g₂ kk cap hg hck;refine hmain _ _ g₂ ?_ hg;have hne:∀(b:Nat),(∃x e f,w.heap[b]?=some (Obj.cells x e f))->(w.setChan A.back cap #[] false (kk+1) (kk+1) false).heap[b]?=w.heap[b]?:=by
    rintro b ⟨x,e,f,hb⟩;rw[hb];exact zq2j hck hb
   have hnb:∀b,b≠A.back->(w.setChan A.back cap #[] false (kk+1) (kk+1) false).heap[b]?=w.heap[b]?:=λb hb=>zq3g _ _ _ _ _ _ _ _ _ hb;refine⟨h.ow.chan (.inl rfl),T.frame _ _ _ h.rep (λb hb=>hnb b (λe=>h.free b (by subst e;exact .inr (.inr (.inr (.inr (.inl rfl))))) hb)),h.free,h.le,λj hj ho=>?_,h.above,h.boxes,h.boxfree,λj b hj hb=>by rw[Car.size_setChan];exact h.boxlt j b hj hb,λj hj ho=>?_,λj hj hall=>?_,λb o hb=>?_,h.extfree,hl⟩
   . have r:=h.run j hj ho;exact r.of_same (hne _ ⟨_,_,_,r.t⟩) (hne _ ⟨_,_,_,r.i⟩) (hne _ ⟨_,_,_,r.whole⟩)
   . by_cases hji:j=i
     . subst hji;exact⟨c,cs,by rw[upd_same];rfl,hS⟩
     . obtain⟨c',cs',h1,h2⟩:=h.seat j hj hji ho;exact⟨c',cs',by rw[upd_ne _ _ (by omega)];exact h1,h2⟩
   . by_cases hji:j=A.n0+i
     . exact absurd hji (hall i h.is h.ovi)
     . rw[upd_ne _ _ hji];exact h.gone j hj hji hall
   . rw[hnb b (λe=>(h.extfree b o hb).1 (by subst e;exact .inr (.inr (.inr (.inr (.inl rfl))))))];exact h.ext b o hb
end
section
variable {M:Type}
theorem turn_sent{Fin:Machine->Trace->Prop}(hFin:Back Try.prog Fin){T:Thr M}{A:OA}(hA:A.Ok){Kc:Addr->Option Value}{E:Nat->Option Obj}(hK:Kept A Kc){k s i n:Nat}{ov brk:Nat->Bool}{m:M}{inb:Nat->Option Seat}{w w':World}(h:Held T A Kc E k s i ov brk m inb w)(hn:0<n)
 {homeb:Goroutine->Prop} (h0:inb 0=some (Seat.one A.back (.agg #[]) false homeb)) {X:Array Value} {c:Frame} (hc:zq1x c) (hX1:X[41]?=some (.chan (some A.back))) (hX2:X[42]?=some (.agg #[]))
 {br:Array Value} (hbr:w.heap[A.bB]?=some (.cells br 4)) (hbr':∀j,j<A.N->br[j]?=some (.bool (brk j))) (x:Bool)
 (hsz:w.heap.size<=w'.heap.size) (hold:∀b,b<w.heap.size->b≠A.bB->b≠A.st i->b≠A.rb i+2->w'.heap[b]?=w.heap[b]?)
 (hst:w'.heap[A.st i]?=some (.cells #[.pointer (some ⟨A.bT,0,none⟩),.chan (some (A.pass i)),.bool true] 144)) (hbB:w'.heap[A.bB]?=some (.cells (br.setIfInBounds i (.bool x)) 4)) (hl:k<=T.left m)
 (hmain:∀inb' w'' g₂,Cf T A Kc E k s (λj=>if j=i then true else ov j) (λj=>if j=i then x else brk j) m inb' w''->homeb g₂->HoldR Try.prog Fin Kc inb' 0 n (Conc.served g₂ (.agg #[])) w''):
 HoldR Try.prog Fin Kc inb (A.n0+i) n (G (zq1w X) [c,bot]) w':=by
 have hiN:i<A.N:=Nat.lt_of_lt_of_le h.is h.le;have hn0:=hA.n0;have hab:=h.above i;have own':∀b,A.own b->b≠A.bB->b≠A.st i->w'.heap[b]?=w.heap[b]?:=λb hb h1 h2=>hold b (h.ow.own_lt hb) h1 h2 (by have:=hab b h.is hb;omega);have hstA:=hA.st i hiN;have ow':OverW A (λj=>if j=i then true else ov j) (λj=>if j=i then x else brk j) w':=by
  refine⟨(own' _ (.inl rfl) hA.ne.2.1 hstA.1.symm).trans h.ow.ts,(own' _ (.inr (.inr (.inr (.inl rfl)))) hA.ne.2.2.2.2.2 hstA.2.2.2.symm).trans h.ow.box,λhN=>(own' _ (.inr (.inl ⟨hN,rfl⟩)) hA.ne.2.2.1 hstA.2.1.symm).trans (h.ow.sts hN),
   ⟨_,hbB,λj hj=>?_⟩,λj hj=>?_,?_,λj hj=>?_⟩
  . have hlt:j<br.size:=(Array.getElem?_eq_some_iff.1 (hbr' j hj)).1
    by_cases hji:j=i
    . subst hji;simp[hlt]
    . simp only[hji,if_false];rw[al_gn (λe=>hji e.symm)];exact hbr' j hj
  . by_cases hji:j=i
    . subst hji;simpa using hst
    . simp only[hji,if_false];exact(own' _ (.inr (.inr (.inr (.inr (.inr ⟨j,hj,.inl rfl⟩))))) (hA.st j hj).2.2.1 (λe=>hji (hA.inj j i hj hiN e))).trans (h.ow.std j hj)
  . obtain⟨a,b,hb⟩:=h.ow.bk;refine⟨a,b,(own' _ (.inr (.inr (.inr (.inr (.inl rfl))))) (λe=>?_) (λe=>?_)).trans hb⟩
    . rw[e,hbr]at hb;cases hb
    . rw[e,h.ow.std i hiN]at hb;cases hb
  . obtain⟨a,b,hb⟩:=h.ow.ps j hj;refine⟨a,b,(own' _ (.inr (.inr (.inr (.inr (.inr ⟨j,hj,.inr rfl⟩))))) (λe=>?_) (λe=>?_)).trans hb⟩
    . rw[e,hbr]at hb;cases hb
    . rw[e,h.ow.std i hiN]at hb;cases hb
 refine zqef hFin (by omega) hn h0 hX1 hX2 hc ?_;intro g₂ kk cap hg hck;refine hmain _ _ g₂ ?_ hg;have hne:∀(b:Nat),(∃x e f,w'.heap[b]?=some (Obj.cells x e f))->(w'.setChan A.back cap #[] false (kk+1) (kk+1) false).heap[b]?=w'.heap[b]?:=by
  rintro b ⟨x,e,f,hb⟩;rw[hb];exact zq2j hck hb
 have hnb:∀b,b≠A.back->(w'.setChan A.back cap #[] false (kk+1) (kk+1) false).heap[b]?=w'.heap[b]?:=λb hb=>zq3g _ _ _ _ _ _ _ _ _ hb;have oback:A.own A.back:=.inr (.inr (.inr (.inr (.inl rfl))));have obB:A.own A.bB:=.inr (.inr (.inl rfl));have ost:A.own (A.st i):=.inr (.inr (.inr (.inr (.inr ⟨i,hiN,.inl rfl⟩))));refine⟨ow'.chan (.inl rfl),T.frame _ _ _ h.rep (λb hb=>(hnb b (λe=>h.free b (e▸oback) hb)).trans (hold b (T.lt _ _ _ h.rep hb) (λe=>h.free b (e▸obB) hb) (λe=>h.free b (e▸ost) hb) (λe=>h.boxfree i b h.is (.inr (.inr e)) hb))),
  h.free,h.le,λj hj ho=>?_,h.above,h.boxes,h.boxfree,λj b hj hb=>by rw[Car.size_setChan];exact Nat.lt_of_lt_of_le (h.boxlt j b hj hb) hsz,λj hj ho=>?_,λj hj hall=>?_,λb o hb=>?_,h.extfree,hl⟩
 . have hji:j≠i:=λe=>by subst e;simp at ho
   simp only[hji,if_false]at ho;have r:=h.run j hj ho;have hbx:=h.boxes i j h.is hj (λe=>hji e.symm);have hlt:∀b,A.box j b->w'.heap[b]?=w.heap[b]?:=λb hb=>by
    have h1:=h.above j A.bB hj obB;have h2:=h.above j (A.st i) hj ost;have hb':b=A.rb j\/b=A.rb j+1\/b=A.rb j+2:=hb;exact hold b (h.boxlt j b hj hb) (by omega) (by omega) (by omega)
   have r':=r.of_same (hlt _ (.inl rfl)) (hlt _ (.inr (.inl rfl))) (hlt _ (.inr (.inr rfl)));exact r'.of_same (hne _ ⟨_,_,_,r'.t⟩) (hne _ ⟨_,_,_,r'.i⟩) (hne _ ⟨_,_,_,r'.whole⟩)
 . have hji:j≠i:=λe=>by subst e;simp at ho
   simp only[hji,if_false]at ho;obtain⟨c',cs',h1,h2⟩:=h.seat j hj hji ho;exact⟨c',cs',by rw[upd_ne _ _ (by omega)];exact h1,h2⟩
 . by_cases hji:j=A.n0+i
   . rw[hji,upd_same]
   . rw[upd_ne _ _ hji];refine h.gone j hj hji λi' h1 h2=>?_
     by_cases hii:i'=i
     . subst hii;exact hji
     . exact hall i' h1 (by simp[hii,h2])
 . obtain⟨e1,e2,e3⟩:=h.extfree b o hb;have h1:=h.ext b o hb;rw[hnb b (λe=>e1 (e▸oback)),hold b (zqe h1) (λe=>e1 (e▸obB)) (λe=>e1 (e▸ost)) (λe=>e3 i h.is (.inr (.inr e)))];exact h1
end
section
variable {M:Type}
theorem zq3h{Fin:Machine->Trace->Prop}(hFin:Back Try.prog Fin)(Kc:Addr->Option Value)(inb:Nat->Option Seat)(j n:Nat)(hj:0<j):JX Try.prog Kc (HoldR Try.prog Fin Kc inb j n):=by
 have:=zq32 hFin Kc inb j n;have e:(j==0)=false:=by simp;omega
 rw[e]at this;exact this
theorem turn_conts{Fin:Machine->Trace->Prop}(hFin:Back Try.prog Fin){T:Thr M}{A:OA}(hA:A.Ok){Kc:Addr->Option Value}{E:Nat->Option Obj}(hK:Kept A Kc){k s i n:Nat}{ov brk:Nat->Bool}{m:M}{inb:Nat->Option Seat}{w:World}{R:M->Out M->Prop}(h:Held T A Kc E k s i ov brk m inb w)(hn:0<n)
 {homeb:Goroutine->Prop} (h0:inb 0=some (Seat.one A.back (.agg #[]) false homeb)) (hsame:∀o,R m o->∀j,j≠i->T.Same j m o.mem) {l:Nat} (hkl:k<=l)
 (hmain:∀m' ov' brk' inb' w' g₂,zq1o R i m ov brk m' ov' brk'->Cf T A Kc E k s ov' brk' m' inb' w'->homeb g₂->HoldR Try.prog Fin Kc inb' 0 n (Conc.served g₂ (.agg #[])) w'):
 Conts Try.prog T 130 (A.sx i) (A.cr i) [bot] NEnd (Susp Try.prog T 130 (A.sx i) (A.cr i) [bot] NEnd (TEnd A) i k) R l (HoldR Try.prog Fin Kc inb (A.n0+i) n) m w:=by
 have hiN:i<A.N:=Nat.lt_of_lt_of_le h.is h.le;have hn0:=hA.n0;have hJ:=zq3h hFin Kc inb (A.n0+i) n (by omega);have hKn:∀y:Addr,y.block=A.rb i+2->Kc y=none:=λy hy=>by
  cases hky:Kc y with
  |none=>rfl
  |some v=>have:=h.above i _ h.is (hK.own y v hky);omega
 refine⟨λm' c cs w' hR hg hr hl hS=>?_,λm' v w' hR hg hr hl=>?_,λm' ch w' hR hch hg hr hl=>?_⟩
 . exact turn_yield hFin hA hK (h.grow hg hr (hsame _ hR)) hn h0 hS (Nat.le_trans hkl hl) λinb' w'' g₂ hc hh=>hmain _ _ _ _ _ _ (.yield m' hR) hc hh
 . have h':=h.grow hg hr (hsame _ hR);obtain⟨br,hE,hbr⟩:=hK.endIn hA h'.ow hiN (λb hb=>h.above i b h.is hb);refine run_back hJ (h'.run i h.is h.ovi) hE hKn λX c w'' hc hX1 hX2 hsz hold hst hbB=>?_;exact turn_sent hFin hA hK h' hn h0 hc hX1 hX2 hE.tw.brs hbr false hsz hold hst hbB (Nat.le_trans hkl hl) λinb' w3 g₂ hc hh=>hmain _ _ _ _ _ _ (.done m' hR) hc hh
 . obtain⟨r,rfl,hassert⟩:=hch;have h':=h.grow hg hr (hsame _ hR);obtain⟨br,hE,hbr⟩:=hK.endIn hA h'.ow hiN (λb hb=>h.above i b h.is hb);refine zq85 hJ (ok:=false) hassert (.inl ⟨rfl,rfl⟩) (h'.run i h.is h.ovi) hE λX c w'' hc hX1 hX2 ho=>?_;exact turn_sent hFin hA hK h' hn h0 hc hX1 hX2 hE.tw.brs hbr true ho.size (λb hb h1 h2 _=>ho.old b hb h1 h2) ho.std ho.brs (Nat.le_trans hkl hl) λinb' w3 g₂ hc hh=>hmain _ _ _ _ _ _ (.broke m' hR) hc hh
end
end Go.Proofs
