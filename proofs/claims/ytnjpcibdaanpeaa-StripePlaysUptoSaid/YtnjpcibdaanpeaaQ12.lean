/- YtnjpcibdaanpeaaSPlays4: part 12 of the proof (the texts behind it, in order). -/
import Derived.Test.YtnjpcibdaanpeaaQ11
set_option linter.unusedSimpArgs false
set_option linter.unusedVariables false
set_option linter.unusedSectionVars false
set_option linter.unnecessarySimpa false
set_option maxHeartbeats 4000000
set_option maxRecDepth 100000
namespace Go.Proofs
open Go Go.Conc Go.RowKit Go.Car
section
variable {mb B n:Nat} {opv:Nat->Value} {C:List Int} {T:Nat->RT} {cv tv:Value} {av sv:Nat->Value} {w w':World}
theorem step2e_lone{i:Nat}{ops:List OpX}{oa ob oc:Int}(hx:(T i).pc=C.length)(h:RefRep mb B n opv C T cv tv av sv w)(hi:i<n)(hn:n<=64)(hops:OpsB B w (opv i) ops)(hlen:ops.length<=65536)(hfit:FitT ops (T i))(hok:OkT C.length ops (T i))(hpc:(T i).pc≠0)(hop:ops[(T i).at']?=some (⟨2,oa,ob,oc⟩:OpX))(hC0:0<C.length)(hC1:C.length<=64):
 Calls Try.prog 40 #[.pointer (some ⟨mb,0,none⟩),.int .i64 i] w λe w'=>e=.returned (.tuple #[])/\RefPost mb B n opv (stepR C.length (⟨2,oa,ob,oc⟩:OpX) C (T i)).1 (upd' T i (stepR C.length (⟨2,oa,ob,oc⟩:OpX) C (T i)).2) cv tv w w':=by
 have HX:=Lib.hid hx
 clear hx
 obtain⟨g,Ct,rfl,hgB⟩:=h.thr (by omega)
 obtain⟨gc,Cc,rfl,hcB⟩:=h.str hC0
 obtain⟨N,hN⟩:∃N,C.length=N:=⟨_,rfl⟩
 have hmg:=h.mach_ne
 obtain⟨sp,cap,hopv,hrd⟩:=hops
 obtain⟨at0,hat0⟩:∃p,(T i).at'=p:=⟨_,rfl⟩
 obtain⟨pc0,hpc0⟩:∃p,(T i).pc=p+1:=⟨(T i).pc - 1,by omega⟩
 obtain⟨L,hL⟩:∃p,ops.length=p:=⟨_,rfl⟩
 rw[hat0]at hop
 obtain⟨go,off,rfl,hgo,c0',c1',c2',c3'⟩:=hrd at0 _ hop
 have c0:w.cell? ⟨go,off+at0*4,none⟩=some (.int .i64 2):=c0'
 have c1:w.cell? ⟨go,off+at0*4+1,none⟩=some (.int .i64 oa):=c1'
 have c2:w.cell? ⟨go,off+at0*4+2,none⟩=some (.int .i64 ob):=c2'
 have c3:w.cell? ⟨go,off+at0*4+3,none⟩=some (.int .i64 oc):=c3'
 clear c0' c1' c2' c3'
 have hlt:at0<L:=by rw[←hL];exact(List.getElem?_eq_some_iff.1 hop).1
 have hB:B<=w.heap.size:=Nat.le_trans h.lo (Nat.le_of_lt (zqa h.mach))
 obtain⟨H,hH⟩:∃H,w.heap.size=H:=⟨_,rfl⟩
 have m:w.cell? ⟨mb,1,none⟩=some (.slice (some ⟨g,0,none⟩) n Ct):=(zq0 (off:=1) h.mach).trans rfl
 have t3:w.cell? ⟨g,i*7+3,none⟩=some (.int .i64 (at0:Nat)):=by
  rw[(h.trow.cell hi (show 3<7 by decide)).1];simp only[thF];rw[hat0]
 have t0:w.cell? ⟨g,i*7,none⟩=some (.slice (some ⟨go,off,none⟩) L cap):=by
  have:=(h.trow.cell hi (show 0<7 by decide)).1
  exact this.trans (by show some (opv i)=_;rw[hopv,hL])
 have hsame:∀W,W=w.drewN 1\/W=(w.drewN 1).alloc (.cells #[.int .i64 0,.int .i64 0,.int .i64 0,.int .i64 0] 46)->∀b,b<H->W.heap[b]?=w.heap[b]?:=λW hW b hb=>by
  rcases hW with rfl |rfl
  · rfl
  · rw[zq8,if_neg (by show b≠w.heap.size;omega)];rfl
 have hmH:mb<H:=by rw[←hH];exact zqa h.mach
 have hgH:g<H:=by rw[←hH];exact(h.trow.lt (show(Value.slice (some ⟨g,0,none⟩) n Ct).ownBlock=some g from rfl)).2.2
 have hcH:gc<H:=by rw[←hH];exact(own_lt h.crow (show(Value.slice (some ⟨gc,0,none⟩) C.length Cc).ownBlock=some gc from rfl)).2.2
 have hfacts:∀W,W=w.drewN 1\/W=(w.drewN 1).alloc (.cells #[.int .i64 0,.int .i64 0,.int .i64 0,.int .i64 0] 46)->W.cell? ⟨mb,1,none⟩=some (.slice (some ⟨g,0,none⟩) n Ct)/\W.cell? ⟨g,i*7+3,none⟩=some (.int .i64 (at0:Nat))/\W.cell? ⟨g,i*7,none⟩=some (.slice (some ⟨go,off,none⟩) L cap)/\W.cell? ⟨go,off+at0*4,none⟩=some (.int .i64 2)/\W.cell? ⟨go,off+at0*4+1,none⟩=some (.int .i64 oa)/\W.cell? ⟨go,off+at0*4+2,none⟩=some (.int .i64 ob)/\W.cell? ⟨go,off+at0*4+3,none⟩=some (.int .i64 oc):=λW hW=>
  ⟨(zq4 (hsame W hW mb hmH)).trans m,(zq4 (hsame W hW g hgH)).trans t3,(zq4 (hsame W hW g hgH)).trans t0,(zq4 (hsame W hW go (by omega))).trans c0,(zq4 (hsame W hW go (by omega))).trans c1,(zq4 (hsame W hW go (by omega))).trans c2,(zq4 (hsame W hW go (by omega))).trans c3⟩
 have hi0:(0:Int)<=(i:Int):=by omega
 have hin:(i:Int)<(n:Int):=by omega
 have ha0:(0:Int)<=(at0:Int):=by omega
 have hal:(at0:Int)<(L:Int):=by omega
 rw[hN]at hok hC0 hC1 h ⊢
 have HF:=Lib.hid hfacts
 have HH:=Lib.hid (And.intro hH (And.intro hmH (And.intro hgH hcH)))
 have HALL:=Lib.hid (And.intro h (And.intro hi (And.intro hn (And.intro hlen (And.intro hfit (And.intro hok (And.intro hC0 (And.intro hC1 hN))))))))
 have HOP:=Lib.hid (And.intro hop (And.intro hat0 (And.intro hpc0 (And.intro hL (And.intro hlt hB)))))
 clear hfacts hsame hmH hgH hcH hH h hi hn hlen hfit hok hpc hC0 hC1 hN hop hat0 hpc0 hL hlt hB m t3 t0 c0 c1 c2 c3 hrd hopv
 go_enter Try.func40,Try.ntmps40
 go_wp2_with (fail)
 refine zq1h (k:=19) (s:=18) (W0:=w.drewN 1) (W1:=(w.drewN 1).alloc (.cells #[.int .i64 0,.int .i64 0,.int .i64 0,.int .i64 0] 46)) (by kernel_rfl) (by kernel_rfl) (by kernel_rfl) (by kernel_rfl) (by decide)
  [.pointer (some ⟨mb,0,none⟩),.pointer (some ⟨mb,0,none⟩),.pointer (some ⟨mb,1,none⟩),.slice (some ⟨g,0,none⟩) n Ct,.int .i64 i,.pointer (some ⟨g,i*7,none⟩),.pointer (some ⟨g,i*7,none⟩),.slice (some ⟨go,off,none⟩) L cap,.pointer (some ⟨mb,0,none⟩),.pointer (some ⟨mb,0,none⟩),.pointer (some ⟨mb,1,none⟩),.slice (some ⟨g,0,none⟩) n Ct,.int .i64 i,.pointer (some ⟨g,i*7,none⟩),.pointer (some ⟨g,i*7+3,none⟩),.int .i64 at0,.pointer (some ⟨go,off+at0*4,none⟩),.agg #[.int .i64 2,.int .i64 oa,.int .i64 ob,.int .i64 oc],.pointer (some ⟨H,0,none⟩)] rfl rfl ?_ ?_ ?_
 · intro jj oo hjj h18 hoo W hWW
   obtain⟨d1,d2,d3,d4,d5,d6,d7⟩:=HF.out W hWW
   clear hWW
   simp only[putv,dstOf,al_gl,al_g0,al_g1,al_ob,al_g2,List.set_cons_succ,List.set_cons_zero]
   obtain rfl |rfl |rfl |rfl |rfl |rfl |rfl |rfl |rfl |rfl |rfl |rfl |rfl |rfl |rfl |rfl |rfl |rfl:jj=0\/jj=1\/jj=2\/jj=3\/jj=4\/jj=5\/jj=6\/jj=7\/jj=8\/jj=9\/jj=10\/jj=11\/jj=12\/jj=13\/jj=14\/jj=15\/jj=16\/jj=17:=by omega
   all_goals(simp only[al_gl,al_g0,al_g1,al_oi]at hoo;subst hoo;refine .inl ?_)
   all_goals(simp only[execOp,Act.eval,al_gd,al_gl,al_g0,al_g1,al_od])
   all_goals(try go_simp)
 · intro oo hoo
   simp only[putv,dstOf,al_gl,al_g0,al_g1,al_ob,al_g2,List.set_cons_succ,List.set_cons_zero]
   simp only[al_gl,al_g0,al_g1,al_oi]at hoo
   subst hoo
   refine .inl ?_
   have hs0:(w.drewN 1).heap.size=H:=HH.out.1
   generalize w.drewN 1=W0 at hs0 ⊢
   simp only[execOp,Act.eval,al_gd,al_gl,al_g0,al_g1,al_od]
   go_simp
 simp only[putv,dstOf,al_gl,al_g0,al_g1,al_ob,al_g2,List.set_cons_succ,List.set_cons_zero]
 refine zq13 (i:=19) (by kernel_rfl) ?_
 simp only[wpOp,al_gl,al_g0,al_g1]
 rw[if_pos (by rfl)]
 refine .inl ?_
 have hnb:((w.drewN 1).alloc (.cells #[.int .i64 0,.int .i64 0,.int .i64 0,.int .i64 0] 46)).heap[H]?=some (.cells #[.int .i64 0,.int .i64 0,.int .i64 0,.int .i64 0] 46):=by rw[←HH.out.1];exact zqq (w.drewN 1) _
 have hold:∀b o,w.heap[b]?=some o->((w.drewN 1).alloc (.cells #[.int .i64 0,.int .i64 0,.int .i64 0,.int .i64 0] 46)).heap[b]?=some o:=λb o hb=>zqk (w:=w.drewN 1) hb
 have hsz:w.heap.size<=((w.drewN 1).alloc (.cells #[.int .i64 0,.int .i64 0,.int .i64 0,.int .i64 0] 46)).heap.size:=by rw[zqc];exact Nat.le_succ _
 have a0:=(zq0 (off:=0) hnb).trans rfl
 have a1:=(zq0 (off:=1) hnb).trans rfl
 have a2:=(zq0 (off:=2) hnb).trans rfl
 have a3:=(zq0 (off:=3) hnb).trans rfl
 have fz:∀off,((w.drewN 1).alloc (.cells #[.int .i64 0,.int .i64 0,.int .i64 0,.int .i64 0] 46)).frozen? ⟨H,off,none⟩=false:=λoff=>zqe hnb
 have f0:=fz 0
 have f1:=fz 1
 have f2:=fz 2
 have f3:=fz 3
 have HNB:=Lib.hid (And.intro hnb (And.intro hold hsz))
 clear hnb fz hold hsz
 generalize (w.drewN 1).alloc (.cells #[.int .i64 0,.int .i64 0,.int .i64 0,.int .i64 0] 46)=w1 at a0 a1 a2 a3 f0 f1 f2 f3 HNB ⊢
 go_simp
 refine zq12 (by kernel_rfl) ?_
 clear a0 a1 a2 a3 f0 f1 f2 f3 HF
 obtain⟨w2,hw2⟩:∃w2,((((w1.setCell ⟨H,0,none⟩ (.int .i64 2)).setCell ⟨H,1,none⟩ (.int .i64 oa)).setCell ⟨H,2,none⟩ (.int .i64 ob)).setCell ⟨H,3,none⟩ (.int .i64 oc))=w2:=⟨_,rfl⟩
 have hb2:w2.heap[H]?=some (.cells #[.int .i64 2,.int .i64 oa,.int .i64 ob,.int .i64 oc] 46):=by
  rw[←hw2]
  exact(zqb _ _ 3 _ (zqb _ _ 2 _ (zqb _ _ 1 _ (zqb w1 H 0 _ HNB.out.1)))).trans rfl
 have ho2:∀b o,w.heap[b]?=some o->w2.heap[b]?=some o:=λb o hb=>by
  have hbH:b≠H:=by have:=zqa hb;have:=HH.out.1;omega
  rw[←hw2,zq3 _ _ _ _ hbH,zq3 _ _ _ _ hbH,zq3 _ _ _ _ hbH,zq3 _ _ _ _ hbH]
  exact HNB.out.2.1 b o hb
 have hs2:w.heap.size<=w2.heap.size:=by
  rw[←hw2,zqh,zqh,zqh,zqh]
  exact HNB.out.2.2
 rw[hw2]
 clear hw2 HNB
 have hR2:=HALL.out.1.of ho2
 have hk2:KeepB B w w2:=⟨hs2,λb hb=>by
  have hlt:b<w.heap.size:=Nat.lt_of_lt_of_le hb HOP.out.2.2.2.2.2
  have e:w.heap[b]?=some w.heap[b]:=Array.getElem?_eq_getElem hlt
  rw[e];exact ho2 b _ e,λb c T2 f hb _=>ho2 b _ hb⟩
 have hpb:(pc0:Int)<=200:=by
  obtain⟨op',e,hg,o1,o2,o4,o5⟩:=HALL.out.2.2.2.2.2.1.stand (by rw[HOP.out.2.2.1];exact Nat.succ_ne_zero _)
  rw[HOP.out.2.1,HOP.out.1]at e
  obtain rfl:=Option.some.inj e
  rw[HOP.out.2.2.1]at o1 o2 o4 o5
  have hN:=HALL.out.2.2.2.2.2.2.2.1
  first|(have:=o1 rfl;omega)|(have:=o2 (.inl rfl);omega)|(have:=o2 (.inr rfl);omega)|(have:=o4 rfl;omega)|(have:=(o5 rfl).1;omega)
 have hp0:(0:Int)<=(pc0:Int):=by omega
 have m:w2.cell? ⟨mb,1,none⟩=some (.slice (some ⟨g,0,none⟩) n Ct):=(zq0 (off:=1) hR2.mach).trans rfl
 have mc:w2.cell? ⟨mb,0,none⟩=some (.slice (some ⟨gc,0,none⟩) N Cc):=(zq0 (off:=0) hR2.mach).trans rfl
 have t4:w2.cell? ⟨g,i*7+4,none⟩=some (.int .i64 ((pc0:Int)+1)):=by
  rw[(hR2.trow.cell HALL.out.2.1 (show 4<7 by decide)).1];simp only[thF];rw[HOP.out.2.2.1];rfl
 have f4:=(hR2.trow.cell HALL.out.2.1 (show 4<7 by decide)).2
 have HR:=Lib.hid (And.intro hR2 (And.intro hk2 hb2))
 clear hR2 hk2 hb2 ho2 hs2
 go_upto_region 4 with(fail)
 have hR3:=HR.out.1.setN (j:=4) HALL.out.2.1 (.inr (.inl rfl)) (x:=.int .i64 ((pc0:Int)+2)) (t':={T i with pc:=pc0+2}) (by simp only[thF,upd'_same];rfl) rfl rfl (.inr rfl) (.inl rfl) (.inr rfl)
 have hk3:=HR.out.2.1.trans (KeepB.set hgB HR.out.1.inT (i*7+4) (.int .i64 ((pc0:Int)+2)))
 have hb3:(w2.setCell ⟨g,i*7+4,none⟩ (.int .i64 ((pc0:Int)+2))).heap[H]?=some (.cells #[.int .i64 2,.int .i64 oa,.int .i64 ob,.int .i64 oc] 46):=(zq3 _ _ _ _ (show H≠g by have:=HH.out.2.2.1;omega)).trans HR.out.2.2
 have H3:=Lib.hid (And.intro hR3 (And.intro hk3 hb3))
 clear m mc t4 f4 HR hR3 hk3 hb3
 generalize w2.setCell ⟨g,i*7+4,none⟩ (.int .i64 ((pc0:Int)+2))=w3 at H3 ⊢
 have m:w3.cell? ⟨mb,1,none⟩=some (.slice (some ⟨g,0,none⟩) n Ct):=(zq0 (off:=1) H3.out.1.mach).trans rfl
 have mc:w3.cell? ⟨mb,0,none⟩=some (.slice (some ⟨gc,0,none⟩) N Cc):=(zq0 (off:=0) H3.out.1.mach).trans rfl
 have b0:w3.cell? ⟨H,0,none⟩=some (.int .i64 2):=(zq0 (off:=0) H3.out.2.2).trans rfl
 have b1:w3.cell? ⟨H,1,none⟩=some (.int .i64 oa):=(zq0 (off:=1) H3.out.2.2).trans rfl
 have b2:w3.cell? ⟨H,2,none⟩=some (.int .i64 ob):=(zq0 (off:=2) H3.out.2.2).trans rfl
 have b3:w3.cell? ⟨H,3,none⟩=some (.int .i64 oc):=(zq0 (off:=3) H3.out.2.2).trans rfl
 obtain⟨sm,hsm⟩:∃y,(T i).sum=y:=⟨_,rfl⟩
 obtain⟨y,hy⟩:∃y,C.getD pc0 0=y:=⟨_,rfl⟩
 have hkN:pc0<N:=by
  obtain⟨op',e,hg,o1,o2,o4,o5⟩:=HALL.out.2.2.2.2.2.1.stand (by rw[HOP.out.2.2.1];exact Nat.succ_ne_zero _)
  rw[HOP.out.2.1,HOP.out.1]at e
  obtain rfl:=Option.some.inj e
  have:=o2 (.inl rfl)
  have:=HOP.out.2.2.1
  omega
 have t5:w3.cell? ⟨g,i*7+5,none⟩=some (.int .i64 sm):=by
  rw[(H3.out.1.trow.cell HALL.out.2.1 (show 5<7 by decide)).1];simp only[thF,upd'_same];rw[hsm]
 have f5:=(H3.out.1.trow.cell HALL.out.2.1 (show 5<7 by decide)).2
 obtain⟨ck,fk⟩:=H3.out.1.strCell' HALL.out.2.2.2.2.2.2.2.2 hkN
 rw[hy]at ck
 have hkN':(pc0:Int)<(N:Int):=by omega
 have hN64:(N:Int)<=64:=by have:=HALL.out.2.2.2.2.2.2.2.1;omega
 have hq:((pc0:Int)==(N:Int) - 1)=true:=by have:=HX.out;have:=HOP.out.2.2.1;have:=HALL.out.2.2.2.2.2.2.2.2;simp;omega
 have HS:=Lib.hid (And.intro hsm (And.intro hy hkN))
 clear hsm hy hkN
 go_wp2_with (fail)
 refine zq1i (k:=23) (C:=λw'=>∃n,w'=w3.drewN n) (by kernel_rfl) (by kernel_rfl) (by kernel_rfl) (by kernel_rfl) (by kernel_rfl) ⟨1,rfl⟩ ?_
 simp only[List.take_succ_cons,List.take_zero]
 repeat (quiet_step (fail))
 refine wpQuiet_nil ?_
 rintro w' ⟨nq,rfl⟩
 refine zq13 (i:=23) (by kernel_rfl) ?_
 simp only[wpOp,al_gl,al_g0,al_g1]
 rw[if_pos (by rfl)]
 refine .inl ?_
 have t5':(w3.drewN nq).cell? ⟨g,i*7+5,none⟩=some (.int .i64 sm):=t5
 have f5':(w3.drewN nq).frozen? ⟨g,i*7+5,none⟩=false:=f5
 clear t5 f5 ck fk m mc b0 b1 b2 b3
 go_simp
 refine zq12 (by kernel_rfl) ?_
 have hR4:=(H3.out.1.drew nq).setN (j:=5) HALL.out.2.1 (.inr (.inr rfl)) (x:=.int .i64 (IntKind.i64.wrap (sm+y))) (t':={T i with pc:=pc0+2,sum:=IntKind.i64.wrap (sm+y)}) (by simp only[thF,upd'_same]) (by rw[upd'_same]) (by rw[upd'_same]) (.inr (by rw[upd'_same])) (.inr (by rw[upd'_same])) (.inl rfl)
 rw[zq18]at hR4
 have hk4:=H3.out.2.1.trans ((KeepB.drew nq).trans (KeepB.set (w:=w3.drewN nq) hgB (H3.out.1.drew nq).inT (i*7+5) (.int .i64 (IntKind.i64.wrap (sm+y)))))
 have hb4:((w3.drewN nq).setCell ⟨g,i*7+5,none⟩ (.int .i64 (IntKind.i64.wrap (sm+y)))).heap[H]?=some (.cells #[.int .i64 2,.int .i64 oa,.int .i64 ob,.int .i64 oc] 46):=(zq3 _ _ _ _ (show H≠g by have:=HH.out.2.2.1;omega)).trans H3.out.2.2
 obtain⟨v,hv⟩:∃v,IntKind.i64.wrap (sm+y)=v:=⟨_,rfl⟩
 rw[hv]at hR4 hk4 hb4
 clear t5' f5'
 try rw[hv]
 have H4:=Lib.hid (And.intro hR4 (And.intro hk4 (And.intro hb4 hv)))
 clear hR4 hk4 hb4 hv
 generalize (w3.drewN nq).setCell ⟨g,i*7+5,none⟩ (.int .i64 v)=w4 at H4 ⊢
 have m:w4.cell? ⟨mb,1,none⟩=some (.slice (some ⟨g,0,none⟩) n Ct):=(zq0 (off:=1) H4.out.1.mach).trans rfl
 have mc:w4.cell? ⟨mb,0,none⟩=some (.slice (some ⟨gc,0,none⟩) N Cc):=(zq0 (off:=0) H4.out.1.mach).trans rfl
 have b0:w4.cell? ⟨H,0,none⟩=some (.int .i64 2):=(zq0 (off:=0) H4.out.2.2.1).trans rfl
 have t5:w4.cell? ⟨g,i*7+5,none⟩=some (.int .i64 v):=by
  rw[(H4.out.1.trow.cell HALL.out.2.1 (show 5<7 by decide)).1];simp only[thF,upd'_same]
 have he:=end_lone (i:=i) (a:=⟨true,v,[]⟩) H4.out.1 HALL.out.2.1 HALL.out.2.2.1 (by rw[upd'_same];show(T i).ans.length<=_;rw[HALL.out.2.2.2.2.1.ans];have:=HALL.out.2.2.2.2.1.le;have:=HALL.out.2.2.2.1;omega) (by rw[upd'_same];show(T i).at'<=_;have:=HALL.out.2.2.2.2.1.le;have:=HALL.out.2.2.2.1;omega)
 have hst:stepR N (⟨2,oa,ob,oc⟩:OpX) C (T i)=(C,endR {T i with pc:=pc0+2,sum:=v} ⟨true,v,[]⟩):=by
  unfold stepR
  have hp:=HX.out
  rw[HALL.out.2.2.2.2.2.2.2.2,HOP.out.2.2.1]at hp
  have h4:wrap64 (sm+y)=v:=by
   have:=H4.out.2.2.2
   rw[IntKind.wrap_i64]at this
   rw[←this]
   simp only[wrap64]<;>omega
  have n1:¬(⟨2,oa,ob,oc⟩:OpX).k=1:=by show ¬(2:Int)=1;decide
  have p2:(⟨2,oa,ob,oc⟩:OpX).k=2\/(⟨2,oa,ob,oc⟩:OpX).k=3:=.inl rfl
  have p3:¬(⟨2,oa,ob,oc⟩:OpX).k=3:=by show ¬(2:Int)=3;decide
  rw[if_neg n1,if_pos p2]
  simp only[if_neg p3,HOP.out.2.2.1,Nat.add_sub_cancel]
  rw[HS.out.1,HS.out.2.1,h4]
  rw[if_pos hp]
  try rfl
 have HE:=Lib.hid he
 have HE2:=Lib.hid (And.intro H4.out.2.1 hst)
 clear he hst
 go_wp2_with (fail)
 refine Calls.mono HE.out ?_
 rintro e w5 ⟨rfl,⟨av',hR5⟩,hk5⟩
 go_wp2_with (fail)
 go_end0
 refine⟨rfl,⟨av',sv,?_⟩,HE2.out.1.trans hk5⟩
 rw[HE2.out.2]
 rw[zq18,upd'_same]at hR5
 exact hR5
end
section
variable {mb B n:Nat} {opv:Nat->Value} {C:List Int} {T:Nat->RT} {cv tv:Value} {av sv:Nat->Value} {w w':World}
theorem step2m_lone{i:Nat}{ops:List OpX}{oa ob oc:Int}(hx:(T i).pc≠C.length)(h:RefRep mb B n opv C T cv tv av sv w)(hi:i<n)(hn:n<=64)(hops:OpsB B w (opv i) ops)(hlen:ops.length<=65536)(hfit:FitT ops (T i))(hok:OkT C.length ops (T i))(hpc:(T i).pc≠0)(hop:ops[(T i).at']?=some (⟨2,oa,ob,oc⟩:OpX))(hC0:0<C.length)(hC1:C.length<=64):
 Calls Try.prog 40 #[.pointer (some ⟨mb,0,none⟩),.int .i64 i] w λe w'=>e=.returned (.tuple #[])/\RefPost mb B n opv (stepR C.length (⟨2,oa,ob,oc⟩:OpX) C (T i)).1 (upd' T i (stepR C.length (⟨2,oa,ob,oc⟩:OpX) C (T i)).2) cv tv w w':=by
 have HX:=Lib.hid hx
 clear hx
 obtain⟨g,Ct,rfl,hgB⟩:=h.thr (by omega)
 obtain⟨gc,Cc,rfl,hcB⟩:=h.str hC0
 obtain⟨N,hN⟩:∃N,C.length=N:=⟨_,rfl⟩
 have hmg:=h.mach_ne
 obtain⟨sp,cap,hopv,hrd⟩:=hops
 obtain⟨at0,hat0⟩:∃p,(T i).at'=p:=⟨_,rfl⟩
 obtain⟨pc0,hpc0⟩:∃p,(T i).pc=p+1:=⟨(T i).pc - 1,by omega⟩
 obtain⟨L,hL⟩:∃p,ops.length=p:=⟨_,rfl⟩
 rw[hat0]at hop
 obtain⟨go,off,rfl,hgo,c0',c1',c2',c3'⟩:=hrd at0 _ hop
 have c0:w.cell? ⟨go,off+at0*4,none⟩=some (.int .i64 2):=c0'
 have c1:w.cell? ⟨go,off+at0*4+1,none⟩=some (.int .i64 oa):=c1'
 have c2:w.cell? ⟨go,off+at0*4+2,none⟩=some (.int .i64 ob):=c2'
 have c3:w.cell? ⟨go,off+at0*4+3,none⟩=some (.int .i64 oc):=c3'
 clear c0' c1' c2' c3'
 have hlt:at0<L:=by rw[←hL];exact(List.getElem?_eq_some_iff.1 hop).1
 have hB:B<=w.heap.size:=Nat.le_trans h.lo (Nat.le_of_lt (zqa h.mach))
 obtain⟨H,hH⟩:∃H,w.heap.size=H:=⟨_,rfl⟩
 have m:w.cell? ⟨mb,1,none⟩=some (.slice (some ⟨g,0,none⟩) n Ct):=(zq0 (off:=1) h.mach).trans rfl
 have t3:w.cell? ⟨g,i*7+3,none⟩=some (.int .i64 (at0:Nat)):=by
  rw[(h.trow.cell hi (show 3<7 by decide)).1];simp only[thF];rw[hat0]
 have t0:w.cell? ⟨g,i*7,none⟩=some (.slice (some ⟨go,off,none⟩) L cap):=by
  have:=(h.trow.cell hi (show 0<7 by decide)).1
  exact this.trans (by show some (opv i)=_;rw[hopv,hL])
 have hsame:∀W,W=w.drewN 1\/W=(w.drewN 1).alloc (.cells #[.int .i64 0,.int .i64 0,.int .i64 0,.int .i64 0] 46)->∀b,b<H->W.heap[b]?=w.heap[b]?:=λW hW b hb=>by
  rcases hW with rfl |rfl
  · rfl
  · rw[zq8,if_neg (by show b≠w.heap.size;omega)];rfl
 have hmH:mb<H:=by rw[←hH];exact zqa h.mach
 have hgH:g<H:=by rw[←hH];exact(h.trow.lt (show(Value.slice (some ⟨g,0,none⟩) n Ct).ownBlock=some g from rfl)).2.2
 have hcH:gc<H:=by rw[←hH];exact(own_lt h.crow (show(Value.slice (some ⟨gc,0,none⟩) C.length Cc).ownBlock=some gc from rfl)).2.2
 have hfacts:∀W,W=w.drewN 1\/W=(w.drewN 1).alloc (.cells #[.int .i64 0,.int .i64 0,.int .i64 0,.int .i64 0] 46)->W.cell? ⟨mb,1,none⟩=some (.slice (some ⟨g,0,none⟩) n Ct)/\W.cell? ⟨g,i*7+3,none⟩=some (.int .i64 (at0:Nat))/\W.cell? ⟨g,i*7,none⟩=some (.slice (some ⟨go,off,none⟩) L cap)/\W.cell? ⟨go,off+at0*4,none⟩=some (.int .i64 2)/\W.cell? ⟨go,off+at0*4+1,none⟩=some (.int .i64 oa)/\W.cell? ⟨go,off+at0*4+2,none⟩=some (.int .i64 ob)/\W.cell? ⟨go,off+at0*4+3,none⟩=some (.int .i64 oc):=λW hW=>
  ⟨(zq4 (hsame W hW mb hmH)).trans m,(zq4 (hsame W hW g hgH)).trans t3,(zq4 (hsame W hW g hgH)).trans t0,(zq4 (hsame W hW go (by omega))).trans c0,(zq4 (hsame W hW go (by omega))).trans c1,(zq4 (hsame W hW go (by omega))).trans c2,(zq4 (hsame W hW go (by omega))).trans c3⟩
 have hi0:(0:Int)<=(i:Int):=by omega
 have hin:(i:Int)<(n:Int):=by omega
 have ha0:(0:Int)<=(at0:Int):=by omega
 have hal:(at0:Int)<(L:Int):=by omega
 rw[hN]at hok hC0 hC1 h ⊢
 have HF:=Lib.hid hfacts
 have HH:=Lib.hid (And.intro hH (And.intro hmH (And.intro hgH hcH)))
 have HALL:=Lib.hid (And.intro h (And.intro hi (And.intro hn (And.intro hlen (And.intro hfit (And.intro hok (And.intro hC0 (And.intro hC1 hN))))))))
 have HOP:=Lib.hid (And.intro hop (And.intro hat0 (And.intro hpc0 (And.intro hL (And.intro hlt hB)))))
 clear hfacts hsame hmH hgH hcH hH h hi hn hlen hfit hok hpc hC0 hC1 hN hop hat0 hpc0 hL hlt hB m t3 t0 c0 c1 c2 c3 hrd hopv
 go_enter Try.func40,Try.ntmps40
 go_wp2_with (fail)
 refine zq1h (k:=19) (s:=18) (W0:=w.drewN 1) (W1:=(w.drewN 1).alloc (.cells #[.int .i64 0,.int .i64 0,.int .i64 0,.int .i64 0] 46)) (by kernel_rfl) (by kernel_rfl) (by kernel_rfl) (by kernel_rfl) (by decide)
  [.pointer (some ⟨mb,0,none⟩),.pointer (some ⟨mb,0,none⟩),.pointer (some ⟨mb,1,none⟩),.slice (some ⟨g,0,none⟩) n Ct,.int .i64 i,.pointer (some ⟨g,i*7,none⟩),.pointer (some ⟨g,i*7,none⟩),.slice (some ⟨go,off,none⟩) L cap,.pointer (some ⟨mb,0,none⟩),.pointer (some ⟨mb,0,none⟩),.pointer (some ⟨mb,1,none⟩),.slice (some ⟨g,0,none⟩) n Ct,.int .i64 i,.pointer (some ⟨g,i*7,none⟩),.pointer (some ⟨g,i*7+3,none⟩),.int .i64 at0,.pointer (some ⟨go,off+at0*4,none⟩),.agg #[.int .i64 2,.int .i64 oa,.int .i64 ob,.int .i64 oc],.pointer (some ⟨H,0,none⟩)] rfl rfl ?_ ?_ ?_
 · intro jj oo hjj h18 hoo W hWW
   obtain⟨d1,d2,d3,d4,d5,d6,d7⟩:=HF.out W hWW
   clear hWW
   simp only[putv,dstOf,al_gl,al_g0,al_g1,al_ob,al_g2,List.set_cons_succ,List.set_cons_zero]
   obtain rfl |rfl |rfl |rfl |rfl |rfl |rfl |rfl |rfl |rfl |rfl |rfl |rfl |rfl |rfl |rfl |rfl |rfl:jj=0\/jj=1\/jj=2\/jj=3\/jj=4\/jj=5\/jj=6\/jj=7\/jj=8\/jj=9\/jj=10\/jj=11\/jj=12\/jj=13\/jj=14\/jj=15\/jj=16\/jj=17:=by omega
   all_goals(simp only[al_gl,al_g0,al_g1,al_oi]at hoo;subst hoo;refine .inl ?_)
   all_goals(simp only[execOp,Act.eval,al_gd,al_gl,al_g0,al_g1,al_od])
   all_goals(try go_simp)
 · intro oo hoo
   simp only[putv,dstOf,al_gl,al_g0,al_g1,al_ob,al_g2,List.set_cons_succ,List.set_cons_zero]
   simp only[al_gl,al_g0,al_g1,al_oi]at hoo
   subst hoo
   refine .inl ?_
   have hs0:(w.drewN 1).heap.size=H:=HH.out.1
   generalize w.drewN 1=W0 at hs0 ⊢
   simp only[execOp,Act.eval,al_gd,al_gl,al_g0,al_g1,al_od]
   go_simp
 simp only[putv,dstOf,al_gl,al_g0,al_g1,al_ob,al_g2,List.set_cons_succ,List.set_cons_zero]
 refine zq13 (i:=19) (by kernel_rfl) ?_
 simp only[wpOp,al_gl,al_g0,al_g1]
 rw[if_pos (by rfl)]
 refine .inl ?_
 have hnb:((w.drewN 1).alloc (.cells #[.int .i64 0,.int .i64 0,.int .i64 0,.int .i64 0] 46)).heap[H]?=some (.cells #[.int .i64 0,.int .i64 0,.int .i64 0,.int .i64 0] 46):=by rw[←HH.out.1];exact zqq (w.drewN 1) _
 have hold:∀b o,w.heap[b]?=some o->((w.drewN 1).alloc (.cells #[.int .i64 0,.int .i64 0,.int .i64 0,.int .i64 0] 46)).heap[b]?=some o:=λb o hb=>zqk (w:=w.drewN 1) hb
 have hsz:w.heap.size<=((w.drewN 1).alloc (.cells #[.int .i64 0,.int .i64 0,.int .i64 0,.int .i64 0] 46)).heap.size:=by rw[zqc];exact Nat.le_succ _
 have a0:=(zq0 (off:=0) hnb).trans rfl
 have a1:=(zq0 (off:=1) hnb).trans rfl
 have a2:=(zq0 (off:=2) hnb).trans rfl
 have a3:=(zq0 (off:=3) hnb).trans rfl
 have fz:∀off,((w.drewN 1).alloc (.cells #[.int .i64 0,.int .i64 0,.int .i64 0,.int .i64 0] 46)).frozen? ⟨H,off,none⟩=false:=λoff=>zqe hnb
 have f0:=fz 0
 have f1:=fz 1
 have f2:=fz 2
 have f3:=fz 3
 have HNB:=Lib.hid (And.intro hnb (And.intro hold hsz))
 clear hnb fz hold hsz
 generalize (w.drewN 1).alloc (.cells #[.int .i64 0,.int .i64 0,.int .i64 0,.int .i64 0] 46)=w1 at a0 a1 a2 a3 f0 f1 f2 f3 HNB ⊢
 go_simp
 refine zq12 (by kernel_rfl) ?_
 clear a0 a1 a2 a3 f0 f1 f2 f3 HF
 obtain⟨w2,hw2⟩:∃w2,((((w1.setCell ⟨H,0,none⟩ (.int .i64 2)).setCell ⟨H,1,none⟩ (.int .i64 oa)).setCell ⟨H,2,none⟩ (.int .i64 ob)).setCell ⟨H,3,none⟩ (.int .i64 oc))=w2:=⟨_,rfl⟩
 have hb2:w2.heap[H]?=some (.cells #[.int .i64 2,.int .i64 oa,.int .i64 ob,.int .i64 oc] 46):=by
  rw[←hw2]
  exact(zqb _ _ 3 _ (zqb _ _ 2 _ (zqb _ _ 1 _ (zqb w1 H 0 _ HNB.out.1)))).trans rfl
 have ho2:∀b o,w.heap[b]?=some o->w2.heap[b]?=some o:=λb o hb=>by
  have hbH:b≠H:=by have:=zqa hb;have:=HH.out.1;omega
  rw[←hw2,zq3 _ _ _ _ hbH,zq3 _ _ _ _ hbH,zq3 _ _ _ _ hbH,zq3 _ _ _ _ hbH]
  exact HNB.out.2.1 b o hb
 have hs2:w.heap.size<=w2.heap.size:=by
  rw[←hw2,zqh,zqh,zqh,zqh]
  exact HNB.out.2.2
 rw[hw2]
 clear hw2 HNB
 have hR2:=HALL.out.1.of ho2
 have hk2:KeepB B w w2:=⟨hs2,λb hb=>by
  have hlt:b<w.heap.size:=Nat.lt_of_lt_of_le hb HOP.out.2.2.2.2.2
  have e:w.heap[b]?=some w.heap[b]:=Array.getElem?_eq_getElem hlt
  rw[e];exact ho2 b _ e,λb c T2 f hb _=>ho2 b _ hb⟩
 have hpb:(pc0:Int)<=200:=by
  obtain⟨op',e,hg,o1,o2,o4,o5⟩:=HALL.out.2.2.2.2.2.1.stand (by rw[HOP.out.2.2.1];exact Nat.succ_ne_zero _)
  rw[HOP.out.2.1,HOP.out.1]at e
  obtain rfl:=Option.some.inj e
  rw[HOP.out.2.2.1]at o1 o2 o4 o5
  have hN:=HALL.out.2.2.2.2.2.2.2.1
  first|(have:=o1 rfl;omega)|(have:=o2 (.inl rfl);omega)|(have:=o2 (.inr rfl);omega)|(have:=o4 rfl;omega)|(have:=(o5 rfl).1;omega)
 have hp0:(0:Int)<=(pc0:Int):=by omega
 have m:w2.cell? ⟨mb,1,none⟩=some (.slice (some ⟨g,0,none⟩) n Ct):=(zq0 (off:=1) hR2.mach).trans rfl
 have mc:w2.cell? ⟨mb,0,none⟩=some (.slice (some ⟨gc,0,none⟩) N Cc):=(zq0 (off:=0) hR2.mach).trans rfl
 have t4:w2.cell? ⟨g,i*7+4,none⟩=some (.int .i64 ((pc0:Int)+1)):=by
  rw[(hR2.trow.cell HALL.out.2.1 (show 4<7 by decide)).1];simp only[thF];rw[HOP.out.2.2.1];rfl
 have f4:=(hR2.trow.cell HALL.out.2.1 (show 4<7 by decide)).2
 have HR:=Lib.hid (And.intro hR2 (And.intro hk2 hb2))
 clear hR2 hk2 hb2 ho2 hs2
 go_upto_region 4 with(fail)
 have hR3:=HR.out.1.setN (j:=4) HALL.out.2.1 (.inr (.inl rfl)) (x:=.int .i64 ((pc0:Int)+2)) (t':={T i with pc:=pc0+2}) (by simp only[thF,upd'_same];rfl) rfl rfl (.inr rfl) (.inl rfl) (.inr rfl)
 have hk3:=HR.out.2.1.trans (KeepB.set hgB HR.out.1.inT (i*7+4) (.int .i64 ((pc0:Int)+2)))
 have hb3:(w2.setCell ⟨g,i*7+4,none⟩ (.int .i64 ((pc0:Int)+2))).heap[H]?=some (.cells #[.int .i64 2,.int .i64 oa,.int .i64 ob,.int .i64 oc] 46):=(zq3 _ _ _ _ (show H≠g by have:=HH.out.2.2.1;omega)).trans HR.out.2.2
 have H3:=Lib.hid (And.intro hR3 (And.intro hk3 hb3))
 clear m mc t4 f4 HR hR3 hk3 hb3
 generalize w2.setCell ⟨g,i*7+4,none⟩ (.int .i64 ((pc0:Int)+2))=w3 at H3 ⊢
 have m:w3.cell? ⟨mb,1,none⟩=some (.slice (some ⟨g,0,none⟩) n Ct):=(zq0 (off:=1) H3.out.1.mach).trans rfl
 have mc:w3.cell? ⟨mb,0,none⟩=some (.slice (some ⟨gc,0,none⟩) N Cc):=(zq0 (off:=0) H3.out.1.mach).trans rfl
 have b0:w3.cell? ⟨H,0,none⟩=some (.int .i64 2):=(zq0 (off:=0) H3.out.2.2).trans rfl
 have b1:w3.cell? ⟨H,1,none⟩=some (.int .i64 oa):=(zq0 (off:=1) H3.out.2.2).trans rfl
 have b2:w3.cell? ⟨H,2,none⟩=some (.int .i64 ob):=(zq0 (off:=2) H3.out.2.2).trans rfl
 have b3:w3.cell? ⟨H,3,none⟩=some (.int .i64 oc):=(zq0 (off:=3) H3.out.2.2).trans rfl
 obtain⟨sm,hsm⟩:∃y,(T i).sum=y:=⟨_,rfl⟩
 obtain⟨y,hy⟩:∃y,C.getD pc0 0=y:=⟨_,rfl⟩
 have hkN:pc0<N:=by
  obtain⟨op',e,hg,o1,o2,o4,o5⟩:=HALL.out.2.2.2.2.2.1.stand (by rw[HOP.out.2.2.1];exact Nat.succ_ne_zero _)
  rw[HOP.out.2.1,HOP.out.1]at e
  obtain rfl:=Option.some.inj e
  have:=o2 (.inl rfl)
  have:=HOP.out.2.2.1
  omega
 have t5:w3.cell? ⟨g,i*7+5,none⟩=some (.int .i64 sm):=by
  rw[(H3.out.1.trow.cell HALL.out.2.1 (show 5<7 by decide)).1];simp only[thF,upd'_same];rw[hsm]
 have f5:=(H3.out.1.trow.cell HALL.out.2.1 (show 5<7 by decide)).2
 obtain⟨ck,fk⟩:=H3.out.1.strCell' HALL.out.2.2.2.2.2.2.2.2 hkN
 rw[hy]at ck
 have hkN':(pc0:Int)<(N:Int):=by omega
 have hN64:(N:Int)<=64:=by have:=HALL.out.2.2.2.2.2.2.2.1;omega
 have hq:((pc0:Int)==(N:Int) - 1)=false:=by have:=HX.out;have:=HOP.out.2.2.1;have:=HALL.out.2.2.2.2.2.2.2.2;simp;omega
 have HS:=Lib.hid (And.intro hsm (And.intro hy hkN))
 clear hsm hy hkN
 go_wp2_with (fail)
 refine zq1i (k:=23) (C:=λw'=>∃n,w'=w3.drewN n) (by kernel_rfl) (by kernel_rfl) (by kernel_rfl) (by kernel_rfl) (by kernel_rfl) ⟨1,rfl⟩ ?_
 simp only[List.take_succ_cons,List.take_zero]
 repeat (quiet_step (fail))
 refine wpQuiet_nil ?_
 rintro w' ⟨nq,rfl⟩
 refine zq13 (i:=23) (by kernel_rfl) ?_
 simp only[wpOp,al_gl,al_g0,al_g1]
 rw[if_pos (by rfl)]
 refine .inl ?_
 have t5':(w3.drewN nq).cell? ⟨g,i*7+5,none⟩=some (.int .i64 sm):=t5
 have f5':(w3.drewN nq).frozen? ⟨g,i*7+5,none⟩=false:=f5
 clear t5 f5 ck fk m mc b0 b1 b2 b3
 go_simp
 refine zq12 (by kernel_rfl) ?_
 have hR4:=(H3.out.1.drew nq).setN (j:=5) HALL.out.2.1 (.inr (.inr rfl)) (x:=.int .i64 (IntKind.i64.wrap (sm+y))) (t':={T i with pc:=pc0+2,sum:=IntKind.i64.wrap (sm+y)}) (by simp only[thF,upd'_same]) (by rw[upd'_same]) (by rw[upd'_same]) (.inr (by rw[upd'_same])) (.inr (by rw[upd'_same])) (.inl rfl)
 rw[zq18]at hR4
 have hk4:=H3.out.2.1.trans ((KeepB.drew nq).trans (KeepB.set (w:=w3.drewN nq) hgB (H3.out.1.drew nq).inT (i*7+5) (.int .i64 (IntKind.i64.wrap (sm+y)))))
 have hb4:((w3.drewN nq).setCell ⟨g,i*7+5,none⟩ (.int .i64 (IntKind.i64.wrap (sm+y)))).heap[H]?=some (.cells #[.int .i64 2,.int .i64 oa,.int .i64 ob,.int .i64 oc] 46):=(zq3 _ _ _ _ (show H≠g by have:=HH.out.2.2.1;omega)).trans H3.out.2.2
 obtain⟨v,hv⟩:∃v,IntKind.i64.wrap (sm+y)=v:=⟨_,rfl⟩
 rw[hv]at hR4 hk4 hb4
 clear t5' f5'
 try rw[hv]
 have H4:=Lib.hid (And.intro hR4 (And.intro hk4 (And.intro hb4 hv)))
 clear hR4 hk4 hb4 hv
 generalize (w3.drewN nq).setCell ⟨g,i*7+5,none⟩ (.int .i64 v)=w4 at H4 ⊢
 have m:w4.cell? ⟨mb,1,none⟩=some (.slice (some ⟨g,0,none⟩) n Ct):=(zq0 (off:=1) H4.out.1.mach).trans rfl
 have mc:w4.cell? ⟨mb,0,none⟩=some (.slice (some ⟨gc,0,none⟩) N Cc):=(zq0 (off:=0) H4.out.1.mach).trans rfl
 have b0:w4.cell? ⟨H,0,none⟩=some (.int .i64 2):=(zq0 (off:=0) H4.out.2.2.1).trans rfl
 have t5:w4.cell? ⟨g,i*7+5,none⟩=some (.int .i64 v):=by
  rw[(H4.out.1.trow.cell HALL.out.2.1 (show 5<7 by decide)).1];simp only[thF,upd'_same]
 have hst:stepR N (⟨2,oa,ob,oc⟩:OpX) C (T i)=(C,{T i with pc:=pc0+2,sum:=v}):=by
  unfold stepR
  have hp:=HX.out
  rw[HALL.out.2.2.2.2.2.2.2.2,HOP.out.2.2.1]at hp
  have h4:wrap64 (sm+y)=v:=by
   have:=H4.out.2.2.2
   rw[IntKind.wrap_i64]at this
   rw[←this]
   simp only[wrap64]<;>omega
  have n1:¬(⟨2,oa,ob,oc⟩:OpX).k=1:=by show ¬(2:Int)=1;decide
  have p2:(⟨2,oa,ob,oc⟩:OpX).k=2\/(⟨2,oa,ob,oc⟩:OpX).k=3:=.inl rfl
  have p3:¬(⟨2,oa,ob,oc⟩:OpX).k=3:=by show ¬(2:Int)=3;decide
  rw[if_neg n1,if_pos p2]
  simp only[if_neg p3,HOP.out.2.2.1,Nat.add_sub_cancel]
  rw[HS.out.1,HS.out.2.1,h4]
  rw[if_neg hp]
  try rfl
 have HE2:=Lib.hid (And.intro H4.out.2.1 hst)
 clear hst
 go_wp2_with (fail)
 go_end0
 refine⟨rfl,⟨av,sv,?_⟩,HE2.out.1⟩
 rw[HE2.out.2]
 exact H4.out.1
end
section
variable {mb B n:Nat} {opv:Nat->Value} {C:List Int} {T:Nat->RT} {cv tv:Value} {av sv:Nat->Value} {w w':World}
theorem step3e_lone{i:Nat}{ops:List OpX}{oa ob oc:Int}(hx:(T i).pc=C.length)(h:RefRep mb B n opv C T cv tv av sv w)(hi:i<n)(hn:n<=64)(hops:OpsB B w (opv i) ops)(hlen:ops.length<=65536)(hfit:FitT ops (T i))(hok:OkT C.length ops (T i))(hpc:(T i).pc≠0)(hop:ops[(T i).at']?=some (⟨3,oa,ob,oc⟩:OpX))(hC0:0<C.length)(hC1:C.length<=64):
 Calls Try.prog 40 #[.pointer (some ⟨mb,0,none⟩),.int .i64 i] w λe w'=>e=.returned (.tuple #[])/\RefPost mb B n opv (stepR C.length (⟨3,oa,ob,oc⟩:OpX) C (T i)).1 (upd' T i (stepR C.length (⟨3,oa,ob,oc⟩:OpX) C (T i)).2) cv tv w w':=by
 have HX:=Lib.hid hx
 clear hx
 obtain⟨g,Ct,rfl,hgB⟩:=h.thr (by omega)
 obtain⟨gc,Cc,rfl,hcB⟩:=h.str hC0
 obtain⟨N,hN⟩:∃N,C.length=N:=⟨_,rfl⟩
 have hmg:=h.mach_ne
 obtain⟨sp,cap,hopv,hrd⟩:=hops
 obtain⟨at0,hat0⟩:∃p,(T i).at'=p:=⟨_,rfl⟩
 obtain⟨pc0,hpc0⟩:∃p,(T i).pc=p+1:=⟨(T i).pc - 1,by omega⟩
 obtain⟨L,hL⟩:∃p,ops.length=p:=⟨_,rfl⟩
 rw[hat0]at hop
 obtain⟨go,off,rfl,hgo,c0',c1',c2',c3'⟩:=hrd at0 _ hop
 have c0:w.cell? ⟨go,off+at0*4,none⟩=some (.int .i64 3):=c0'
 have c1:w.cell? ⟨go,off+at0*4+1,none⟩=some (.int .i64 oa):=c1'
 have c2:w.cell? ⟨go,off+at0*4+2,none⟩=some (.int .i64 ob):=c2'
 have c3:w.cell? ⟨go,off+at0*4+3,none⟩=some (.int .i64 oc):=c3'
 clear c0' c1' c2' c3'
 have hlt:at0<L:=by rw[←hL];exact(List.getElem?_eq_some_iff.1 hop).1
 have hB:B<=w.heap.size:=Nat.le_trans h.lo (Nat.le_of_lt (zqa h.mach))
 obtain⟨H,hH⟩:∃H,w.heap.size=H:=⟨_,rfl⟩
 have m:w.cell? ⟨mb,1,none⟩=some (.slice (some ⟨g,0,none⟩) n Ct):=(zq0 (off:=1) h.mach).trans rfl
 have t3:w.cell? ⟨g,i*7+3,none⟩=some (.int .i64 (at0:Nat)):=by
  rw[(h.trow.cell hi (show 3<7 by decide)).1];simp only[thF];rw[hat0]
 have t0:w.cell? ⟨g,i*7,none⟩=some (.slice (some ⟨go,off,none⟩) L cap):=by
  have:=(h.trow.cell hi (show 0<7 by decide)).1
  exact this.trans (by show some (opv i)=_;rw[hopv,hL])
 have hsame:∀W,W=w.drewN 1\/W=(w.drewN 1).alloc (.cells #[.int .i64 0,.int .i64 0,.int .i64 0,.int .i64 0] 46)->∀b,b<H->W.heap[b]?=w.heap[b]?:=λW hW b hb=>by
  rcases hW with rfl |rfl
  · rfl
  · rw[zq8,if_neg (by show b≠w.heap.size;omega)];rfl
 have hmH:mb<H:=by rw[←hH];exact zqa h.mach
 have hgH:g<H:=by rw[←hH];exact(h.trow.lt (show(Value.slice (some ⟨g,0,none⟩) n Ct).ownBlock=some g from rfl)).2.2
 have hcH:gc<H:=by rw[←hH];exact(own_lt h.crow (show(Value.slice (some ⟨gc,0,none⟩) C.length Cc).ownBlock=some gc from rfl)).2.2
 have hfacts:∀W,W=w.drewN 1\/W=(w.drewN 1).alloc (.cells #[.int .i64 0,.int .i64 0,.int .i64 0,.int .i64 0] 46)->W.cell? ⟨mb,1,none⟩=some (.slice (some ⟨g,0,none⟩) n Ct)/\W.cell? ⟨g,i*7+3,none⟩=some (.int .i64 (at0:Nat))/\W.cell? ⟨g,i*7,none⟩=some (.slice (some ⟨go,off,none⟩) L cap)/\W.cell? ⟨go,off+at0*4,none⟩=some (.int .i64 3)/\W.cell? ⟨go,off+at0*4+1,none⟩=some (.int .i64 oa)/\W.cell? ⟨go,off+at0*4+2,none⟩=some (.int .i64 ob)/\W.cell? ⟨go,off+at0*4+3,none⟩=some (.int .i64 oc):=λW hW=>
  ⟨(zq4 (hsame W hW mb hmH)).trans m,(zq4 (hsame W hW g hgH)).trans t3,(zq4 (hsame W hW g hgH)).trans t0,(zq4 (hsame W hW go (by omega))).trans c0,(zq4 (hsame W hW go (by omega))).trans c1,(zq4 (hsame W hW go (by omega))).trans c2,(zq4 (hsame W hW go (by omega))).trans c3⟩
 have hi0:(0:Int)<=(i:Int):=by omega
 have hin:(i:Int)<(n:Int):=by omega
 have ha0:(0:Int)<=(at0:Int):=by omega
 have hal:(at0:Int)<(L:Int):=by omega
 rw[hN]at hok hC0 hC1 h ⊢
 have HF:=Lib.hid hfacts
 have HH:=Lib.hid (And.intro hH (And.intro hmH (And.intro hgH hcH)))
 have HALL:=Lib.hid (And.intro h (And.intro hi (And.intro hn (And.intro hlen (And.intro hfit (And.intro hok (And.intro hC0 (And.intro hC1 hN))))))))
 have HOP:=Lib.hid (And.intro hop (And.intro hat0 (And.intro hpc0 (And.intro hL (And.intro hlt hB)))))
 clear hfacts hsame hmH hgH hcH hH h hi hn hlen hfit hok hpc hC0 hC1 hN hop hat0 hpc0 hL hlt hB m t3 t0 c0 c1 c2 c3 hrd hopv
 go_enter Try.func40,Try.ntmps40
 go_wp2_with (fail)
 refine zq1h (k:=19) (s:=18) (W0:=w.drewN 1) (W1:=(w.drewN 1).alloc (.cells #[.int .i64 0,.int .i64 0,.int .i64 0,.int .i64 0] 46)) (by kernel_rfl) (by kernel_rfl) (by kernel_rfl) (by kernel_rfl) (by decide)
  [.pointer (some ⟨mb,0,none⟩),.pointer (some ⟨mb,0,none⟩),.pointer (some ⟨mb,1,none⟩),.slice (some ⟨g,0,none⟩) n Ct,.int .i64 i,.pointer (some ⟨g,i*7,none⟩),.pointer (some ⟨g,i*7,none⟩),.slice (some ⟨go,off,none⟩) L cap,.pointer (some ⟨mb,0,none⟩),.pointer (some ⟨mb,0,none⟩),.pointer (some ⟨mb,1,none⟩),.slice (some ⟨g,0,none⟩) n Ct,.int .i64 i,.pointer (some ⟨g,i*7,none⟩),.pointer (some ⟨g,i*7+3,none⟩),.int .i64 at0,.pointer (some ⟨go,off+at0*4,none⟩),.agg #[.int .i64 3,.int .i64 oa,.int .i64 ob,.int .i64 oc],.pointer (some ⟨H,0,none⟩)] rfl rfl ?_ ?_ ?_
 · intro jj oo hjj h18 hoo W hWW
   obtain⟨d1,d2,d3,d4,d5,d6,d7⟩:=HF.out W hWW
   clear hWW
   simp only[putv,dstOf,al_gl,al_g0,al_g1,al_ob,al_g2,List.set_cons_succ,List.set_cons_zero]
   obtain rfl |rfl |rfl |rfl |rfl |rfl |rfl |rfl |rfl |rfl |rfl |rfl |rfl |rfl |rfl |rfl |rfl |rfl:jj=0\/jj=1\/jj=2\/jj=3\/jj=4\/jj=5\/jj=6\/jj=7\/jj=8\/jj=9\/jj=10\/jj=11\/jj=12\/jj=13\/jj=14\/jj=15\/jj=16\/jj=17:=by omega
   all_goals(simp only[al_gl,al_g0,al_g1,al_oi]at hoo;subst hoo;refine .inl ?_)
   all_goals(simp only[execOp,Act.eval,al_gd,al_gl,al_g0,al_g1,al_od])
   all_goals(try go_simp)
 · intro oo hoo
   simp only[putv,dstOf,al_gl,al_g0,al_g1,al_ob,al_g2,List.set_cons_succ,List.set_cons_zero]
   simp only[al_gl,al_g0,al_g1,al_oi]at hoo
   subst hoo
   refine .inl ?_
   have hs0:(w.drewN 1).heap.size=H:=HH.out.1
   generalize w.drewN 1=W0 at hs0 ⊢
   simp only[execOp,Act.eval,al_gd,al_gl,al_g0,al_g1,al_od]
   go_simp
 simp only[putv,dstOf,al_gl,al_g0,al_g1,al_ob,al_g2,List.set_cons_succ,List.set_cons_zero]
 refine zq13 (i:=19) (by kernel_rfl) ?_
 simp only[wpOp,al_gl,al_g0,al_g1]
 rw[if_pos (by rfl)]
 refine .inl ?_
 have hnb:((w.drewN 1).alloc (.cells #[.int .i64 0,.int .i64 0,.int .i64 0,.int .i64 0] 46)).heap[H]?=some (.cells #[.int .i64 0,.int .i64 0,.int .i64 0,.int .i64 0] 46):=by rw[←HH.out.1];exact zqq (w.drewN 1) _
 have hold:∀b o,w.heap[b]?=some o->((w.drewN 1).alloc (.cells #[.int .i64 0,.int .i64 0,.int .i64 0,.int .i64 0] 46)).heap[b]?=some o:=λb o hb=>zqk (w:=w.drewN 1) hb
 have hsz:w.heap.size<=((w.drewN 1).alloc (.cells #[.int .i64 0,.int .i64 0,.int .i64 0,.int .i64 0] 46)).heap.size:=by rw[zqc];exact Nat.le_succ _
 have a0:=(zq0 (off:=0) hnb).trans rfl
 have a1:=(zq0 (off:=1) hnb).trans rfl
 have a2:=(zq0 (off:=2) hnb).trans rfl
 have a3:=(zq0 (off:=3) hnb).trans rfl
 have fz:∀off,((w.drewN 1).alloc (.cells #[.int .i64 0,.int .i64 0,.int .i64 0,.int .i64 0] 46)).frozen? ⟨H,off,none⟩=false:=λoff=>zqe hnb
 have f0:=fz 0
 have f1:=fz 1
 have f2:=fz 2
 have f3:=fz 3
 have HNB:=Lib.hid (And.intro hnb (And.intro hold hsz))
 clear hnb fz hold hsz
 generalize (w.drewN 1).alloc (.cells #[.int .i64 0,.int .i64 0,.int .i64 0,.int .i64 0] 46)=w1 at a0 a1 a2 a3 f0 f1 f2 f3 HNB ⊢
 go_simp
 refine zq12 (by kernel_rfl) ?_
 clear a0 a1 a2 a3 f0 f1 f2 f3 HF
 obtain⟨w2,hw2⟩:∃w2,((((w1.setCell ⟨H,0,none⟩ (.int .i64 3)).setCell ⟨H,1,none⟩ (.int .i64 oa)).setCell ⟨H,2,none⟩ (.int .i64 ob)).setCell ⟨H,3,none⟩ (.int .i64 oc))=w2:=⟨_,rfl⟩
 have hb2:w2.heap[H]?=some (.cells #[.int .i64 3,.int .i64 oa,.int .i64 ob,.int .i64 oc] 46):=by
  rw[←hw2]
  exact(zqb _ _ 3 _ (zqb _ _ 2 _ (zqb _ _ 1 _ (zqb w1 H 0 _ HNB.out.1)))).trans rfl
 have ho2:∀b o,w.heap[b]?=some o->w2.heap[b]?=some o:=λb o hb=>by
  have hbH:b≠H:=by have:=zqa hb;have:=HH.out.1;omega
  rw[←hw2,zq3 _ _ _ _ hbH,zq3 _ _ _ _ hbH,zq3 _ _ _ _ hbH,zq3 _ _ _ _ hbH]
  exact HNB.out.2.1 b o hb
 have hs2:w.heap.size<=w2.heap.size:=by
  rw[←hw2,zqh,zqh,zqh,zqh]
  exact HNB.out.2.2
 rw[hw2]
 clear hw2 HNB
 have hR2:=HALL.out.1.of ho2
 have hk2:KeepB B w w2:=⟨hs2,λb hb=>by
  have hlt:b<w.heap.size:=Nat.lt_of_lt_of_le hb HOP.out.2.2.2.2.2
  have e:w.heap[b]?=some w.heap[b]:=Array.getElem?_eq_getElem hlt
  rw[e];exact ho2 b _ e,λb c T2 f hb _=>ho2 b _ hb⟩
 have hpb:(pc0:Int)<=200:=by
  obtain⟨op',e,hg,o1,o2,o4,o5⟩:=HALL.out.2.2.2.2.2.1.stand (by rw[HOP.out.2.2.1];exact Nat.succ_ne_zero _)
  rw[HOP.out.2.1,HOP.out.1]at e
  obtain rfl:=Option.some.inj e
  rw[HOP.out.2.2.1]at o1 o2 o4 o5
  have hN:=HALL.out.2.2.2.2.2.2.2.1
  first|(have:=o1 rfl;omega)|(have:=o2 (.inl rfl);omega)|(have:=o2 (.inr rfl);omega)|(have:=o4 rfl;omega)|(have:=(o5 rfl).1;omega)
 have hp0:(0:Int)<=(pc0:Int):=by omega
 have m:w2.cell? ⟨mb,1,none⟩=some (.slice (some ⟨g,0,none⟩) n Ct):=(zq0 (off:=1) hR2.mach).trans rfl
 have mc:w2.cell? ⟨mb,0,none⟩=some (.slice (some ⟨gc,0,none⟩) N Cc):=(zq0 (off:=0) hR2.mach).trans rfl
 have t4:w2.cell? ⟨g,i*7+4,none⟩=some (.int .i64 ((pc0:Int)+1)):=by
  rw[(hR2.trow.cell HALL.out.2.1 (show 4<7 by decide)).1];simp only[thF];rw[HOP.out.2.2.1];rfl
 have f4:=(hR2.trow.cell HALL.out.2.1 (show 4<7 by decide)).2
 have HR:=Lib.hid (And.intro hR2 (And.intro hk2 hb2))
 clear hR2 hk2 hb2 ho2 hs2
 go_upto_region 4 with(fail)
 have hR3:=HR.out.1.setN (j:=4) HALL.out.2.1 (.inr (.inl rfl)) (x:=.int .i64 ((pc0:Int)+2)) (t':={T i with pc:=pc0+2}) (by simp only[thF,upd'_same];rfl) rfl rfl (.inr rfl) (.inl rfl) (.inr rfl)
 have hk3:=HR.out.2.1.trans (KeepB.set hgB HR.out.1.inT (i*7+4) (.int .i64 ((pc0:Int)+2)))
 have hb3:(w2.setCell ⟨g,i*7+4,none⟩ (.int .i64 ((pc0:Int)+2))).heap[H]?=some (.cells #[.int .i64 3,.int .i64 oa,.int .i64 ob,.int .i64 oc] 46):=(zq3 _ _ _ _ (show H≠g by have:=HH.out.2.2.1;omega)).trans HR.out.2.2
 have H3:=Lib.hid (And.intro hR3 (And.intro hk3 hb3))
 clear m mc t4 f4 HR hR3 hk3 hb3
 generalize w2.setCell ⟨g,i*7+4,none⟩ (.int .i64 ((pc0:Int)+2))=w3 at H3 ⊢
 have m:w3.cell? ⟨mb,1,none⟩=some (.slice (some ⟨g,0,none⟩) n Ct):=(zq0 (off:=1) H3.out.1.mach).trans rfl
 have mc:w3.cell? ⟨mb,0,none⟩=some (.slice (some ⟨gc,0,none⟩) N Cc):=(zq0 (off:=0) H3.out.1.mach).trans rfl
 have b0:w3.cell? ⟨H,0,none⟩=some (.int .i64 3):=(zq0 (off:=0) H3.out.2.2).trans rfl
 have b1:w3.cell? ⟨H,1,none⟩=some (.int .i64 oa):=(zq0 (off:=1) H3.out.2.2).trans rfl
 have b2:w3.cell? ⟨H,2,none⟩=some (.int .i64 ob):=(zq0 (off:=2) H3.out.2.2).trans rfl
 have b3:w3.cell? ⟨H,3,none⟩=some (.int .i64 oc):=(zq0 (off:=3) H3.out.2.2).trans rfl
 obtain⟨sm,hsm⟩:∃y,(T i).sum=y:=⟨_,rfl⟩
 obtain⟨y,hy⟩:∃y,C.getD pc0 0=y:=⟨_,rfl⟩
 have hkN:pc0<N:=by
  obtain⟨op',e,hg,o1,o2,o4,o5⟩:=HALL.out.2.2.2.2.2.1.stand (by rw[HOP.out.2.2.1];exact Nat.succ_ne_zero _)
  rw[HOP.out.2.1,HOP.out.1]at e
  obtain rfl:=Option.some.inj e
  have:=o2 (.inr rfl)
  have:=HOP.out.2.2.1
  omega
 have t5:w3.cell? ⟨g,i*7+5,none⟩=some (.int .i64 sm):=by
  rw[(H3.out.1.trow.cell HALL.out.2.1 (show 5<7 by decide)).1];simp only[thF,upd'_same];rw[hsm]
 have f5:=(H3.out.1.trow.cell HALL.out.2.1 (show 5<7 by decide)).2
 obtain⟨ck,fk⟩:=H3.out.1.strCell' HALL.out.2.2.2.2.2.2.2.2 hkN
 rw[hy]at ck
 have hkN':(pc0:Int)<(N:Int):=by omega
 have hN64:(N:Int)<=64:=by have:=HALL.out.2.2.2.2.2.2.2.1;omega
 have hq:((pc0:Int)==(N:Int) - 1)=true:=by have:=HX.out;have:=HOP.out.2.2.1;have:=HALL.out.2.2.2.2.2.2.2.2;simp;omega
 have HS:=Lib.hid (And.intro hsm (And.intro hy hkN))
 clear hsm hy hkN
 go_wp2_with (fail)
 refine zq1i (k:=23) (C:=λw'=>∃n,w'=w3.drewN n) (by kernel_rfl) (by kernel_rfl) (by kernel_rfl) (by kernel_rfl) (by kernel_rfl) ⟨1,rfl⟩ ?_
 simp only[List.take_succ_cons,List.take_zero]
 repeat (quiet_step (fail))
 refine wpQuiet_nil ?_
 rintro w' ⟨nq,rfl⟩
 refine zq13 (i:=23) (by kernel_rfl) ?_
 simp only[wpOp,al_gl,al_g0,al_g1]
 rw[if_pos (by rfl)]
 refine .inl ?_
 have t5':(w3.drewN nq).cell? ⟨g,i*7+5,none⟩=some (.int .i64 sm):=t5
 have f5':(w3.drewN nq).frozen? ⟨g,i*7+5,none⟩=false:=f5
 clear t5 f5 ck fk m mc b0 b1 b2 b3
 go_simp
 refine zq12 (by kernel_rfl) ?_
 have hR4:=(H3.out.1.drew nq).setN (j:=5) HALL.out.2.1 (.inr (.inr rfl)) (x:=.int .i64 (IntKind.i64.wrap (sm+y))) (t':={T i with pc:=pc0+2,sum:=IntKind.i64.wrap (sm+y)}) (by simp only[thF,upd'_same]) (by rw[upd'_same]) (by rw[upd'_same]) (.inr (by rw[upd'_same])) (.inr (by rw[upd'_same])) (.inl rfl)
 rw[zq18]at hR4
 have hk4:=H3.out.2.1.trans ((KeepB.drew nq).trans (KeepB.set (w:=w3.drewN nq) hgB (H3.out.1.drew nq).inT (i*7+5) (.int .i64 (IntKind.i64.wrap (sm+y)))))
 have hb4:((w3.drewN nq).setCell ⟨g,i*7+5,none⟩ (.int .i64 (IntKind.i64.wrap (sm+y)))).heap[H]?=some (.cells #[.int .i64 3,.int .i64 oa,.int .i64 ob,.int .i64 oc] 46):=(zq3 _ _ _ _ (show H≠g by have:=HH.out.2.2.1;omega)).trans H3.out.2.2
 obtain⟨v,hv⟩:∃v,IntKind.i64.wrap (sm+y)=v:=⟨_,rfl⟩
 rw[hv]at hR4 hk4 hb4
 clear t5' f5'
 try rw[hv]
 have H4:=Lib.hid (And.intro hR4 (And.intro hk4 (And.intro hb4 hv)))
 clear hR4 hk4 hb4 hv
 generalize (w3.drewN nq).setCell ⟨g,i*7+5,none⟩ (.int .i64 v)=w4 at H4 ⊢
 have m:w4.cell? ⟨mb,1,none⟩=some (.slice (some ⟨g,0,none⟩) n Ct):=(zq0 (off:=1) H4.out.1.mach).trans rfl
 have mc:w4.cell? ⟨mb,0,none⟩=some (.slice (some ⟨gc,0,none⟩) N Cc):=(zq0 (off:=0) H4.out.1.mach).trans rfl
 have b0:w4.cell? ⟨H,0,none⟩=some (.int .i64 3):=(zq0 (off:=0) H4.out.2.2.1).trans rfl
 have t5:w4.cell? ⟨g,i*7+5,none⟩=some (.int .i64 v):=by
  rw[(H4.out.1.trow.cell HALL.out.2.1 (show 5<7 by decide)).1];simp only[thF,upd'_same]
 obtain⟨ck,fk⟩:=H4.out.1.strCell' HALL.out.2.2.2.2.2.2.2.2 HS.out.2.2
 have hgcg:gc≠g:=by
  intro e
  obtain⟨⟨c1,hc1⟩,_⟩:=H4.out.1.trow.lt (show(Value.slice (some ⟨g,0,none⟩) n Ct).ownBlock=some g from rfl)
  exact own_ne H4.out.1.crow hc1 (by decide) (by rw[←e];rfl)
 have hgcg2:g≠gc:=λe=>hgcg e.symm
 have hmgc:mb≠gc:=λe=>own_ne H4.out.1.crow H4.out.1.mach (by decide) (by rw[e];rfl)
 have hR5:=H4.out.1.setC' HALL.out.2.2.2.2.2.2.2.2 HS.out.2.2 0
 have hk5:=H4.out.2.1.trans (KeepB.set hcB H4.out.1.inC pc0 (.int .i64 0))
 have HZ:=Lib.hid (And.intro hR5 hk5)
 clear hR5 hk5
 have he:=end_lone (i:=i) (a:=⟨true,v,[]⟩) HZ.out.1 HALL.out.2.1 HALL.out.2.2.1 (by rw[upd'_same];show(T i).ans.length<=_;rw[HALL.out.2.2.2.2.1.ans];have:=HALL.out.2.2.2.2.1.le;have:=HALL.out.2.2.2.1;omega) (by rw[upd'_same];show(T i).at'<=_;have:=HALL.out.2.2.2.2.1.le;have:=HALL.out.2.2.2.1;omega)
 have hst:stepR N (⟨3,oa,ob,oc⟩:OpX) C (T i)=((C.set pc0 0),endR {T i with pc:=pc0+2,sum:=v} ⟨true,v,[]⟩):=by
  unfold stepR
  have hp:=HX.out
  rw[HALL.out.2.2.2.2.2.2.2.2,HOP.out.2.2.1]at hp
  have h4:wrap64 (sm+y)=v:=by
   have:=H4.out.2.2.2
   rw[IntKind.wrap_i64]at this
   rw[←this]
   simp only[wrap64]<;>omega
  have n1:¬(⟨3,oa,ob,oc⟩:OpX).k=1:=by show ¬(3:Int)=1;decide
  have p2:(⟨3,oa,ob,oc⟩:OpX).k=2\/(⟨3,oa,ob,oc⟩:OpX).k=3:=.inr rfl
  have p3:(⟨3,oa,ob,oc⟩:OpX).k=3:=by show(3:Int)=3;decide
  rw[if_neg n1,if_pos p2]
  simp only[if_pos p3,HOP.out.2.2.1,Nat.add_sub_cancel]
  rw[HS.out.1,HS.out.2.1,h4]
  rw[if_pos hp]
  try rfl
 have HE:=Lib.hid he
 have HE2:=Lib.hid (And.intro HZ.out.2 hst)
 clear he hst
 go_wp2_with (fail)
 refine Calls.mono HE.out ?_
 rintro e w5 ⟨rfl,⟨av',hR5⟩,hk5⟩
 go_wp2_with (fail)
 go_end0
 refine⟨rfl,⟨av',sv,?_⟩,HE2.out.1.trans hk5⟩
 rw[HE2.out.2]
 rw[zq18,upd'_same]at hR5
 exact hR5
end
section
variable {mb B n:Nat} {opv:Nat->Value} {C:List Int} {T:Nat->RT} {cv tv:Value} {av sv:Nat->Value} {w w':World}
theorem step3m_lone{i:Nat}{ops:List OpX}{oa ob oc:Int}(hx:(T i).pc≠C.length)(h:RefRep mb B n opv C T cv tv av sv w)(hi:i<n)(hn:n<=64)(hops:OpsB B w (opv i) ops)(hlen:ops.length<=65536)(hfit:FitT ops (T i))(hok:OkT C.length ops (T i))(hpc:(T i).pc≠0)(hop:ops[(T i).at']?=some (⟨3,oa,ob,oc⟩:OpX))(hC0:0<C.length)(hC1:C.length<=64):
 Calls Try.prog 40 #[.pointer (some ⟨mb,0,none⟩),.int .i64 i] w λe w'=>e=.returned (.tuple #[])/\RefPost mb B n opv (stepR C.length (⟨3,oa,ob,oc⟩:OpX) C (T i)).1 (upd' T i (stepR C.length (⟨3,oa,ob,oc⟩:OpX) C (T i)).2) cv tv w w':=by
 have HX:=Lib.hid hx
 clear hx
 obtain⟨g,Ct,rfl,hgB⟩:=h.thr (by omega)
 obtain⟨gc,Cc,rfl,hcB⟩:=h.str hC0
 obtain⟨N,hN⟩:∃N,C.length=N:=⟨_,rfl⟩
 have hmg:=h.mach_ne
 obtain⟨sp,cap,hopv,hrd⟩:=hops
 obtain⟨at0,hat0⟩:∃p,(T i).at'=p:=⟨_,rfl⟩
 obtain⟨pc0,hpc0⟩:∃p,(T i).pc=p+1:=⟨(T i).pc - 1,by omega⟩
 obtain⟨L,hL⟩:∃p,ops.length=p:=⟨_,rfl⟩
 rw[hat0]at hop
 obtain⟨go,off,rfl,hgo,c0',c1',c2',c3'⟩:=hrd at0 _ hop
 have c0:w.cell? ⟨go,off+at0*4,none⟩=some (.int .i64 3):=c0'
 have c1:w.cell? ⟨go,off+at0*4+1,none⟩=some (.int .i64 oa):=c1'
 have c2:w.cell? ⟨go,off+at0*4+2,none⟩=some (.int .i64 ob):=c2'
 have c3:w.cell? ⟨go,off+at0*4+3,none⟩=some (.int .i64 oc):=c3'
 clear c0' c1' c2' c3'
 have hlt:at0<L:=by rw[←hL];exact(List.getElem?_eq_some_iff.1 hop).1
 have hB:B<=w.heap.size:=Nat.le_trans h.lo (Nat.le_of_lt (zqa h.mach))
 obtain⟨H,hH⟩:∃H,w.heap.size=H:=⟨_,rfl⟩
 have m:w.cell? ⟨mb,1,none⟩=some (.slice (some ⟨g,0,none⟩) n Ct):=(zq0 (off:=1) h.mach).trans rfl
 have t3:w.cell? ⟨g,i*7+3,none⟩=some (.int .i64 (at0:Nat)):=by
  rw[(h.trow.cell hi (show 3<7 by decide)).1];simp only[thF];rw[hat0]
 have t0:w.cell? ⟨g,i*7,none⟩=some (.slice (some ⟨go,off,none⟩) L cap):=by
  have:=(h.trow.cell hi (show 0<7 by decide)).1
  exact this.trans (by show some (opv i)=_;rw[hopv,hL])
 have hsame:∀W,W=w.drewN 1\/W=(w.drewN 1).alloc (.cells #[.int .i64 0,.int .i64 0,.int .i64 0,.int .i64 0] 46)->∀b,b<H->W.heap[b]?=w.heap[b]?:=λW hW b hb=>by
  rcases hW with rfl |rfl
  · rfl
  · rw[zq8,if_neg (by show b≠w.heap.size;omega)];rfl
 have hmH:mb<H:=by rw[←hH];exact zqa h.mach
 have hgH:g<H:=by rw[←hH];exact(h.trow.lt (show(Value.slice (some ⟨g,0,none⟩) n Ct).ownBlock=some g from rfl)).2.2
 have hcH:gc<H:=by rw[←hH];exact(own_lt h.crow (show(Value.slice (some ⟨gc,0,none⟩) C.length Cc).ownBlock=some gc from rfl)).2.2
 have hfacts:∀W,W=w.drewN 1\/W=(w.drewN 1).alloc (.cells #[.int .i64 0,.int .i64 0,.int .i64 0,.int .i64 0] 46)->W.cell? ⟨mb,1,none⟩=some (.slice (some ⟨g,0,none⟩) n Ct)/\W.cell? ⟨g,i*7+3,none⟩=some (.int .i64 (at0:Nat))/\W.cell? ⟨g,i*7,none⟩=some (.slice (some ⟨go,off,none⟩) L cap)/\W.cell? ⟨go,off+at0*4,none⟩=some (.int .i64 3)/\W.cell? ⟨go,off+at0*4+1,none⟩=some (.int .i64 oa)/\W.cell? ⟨go,off+at0*4+2,none⟩=some (.int .i64 ob)/\W.cell? ⟨go,off+at0*4+3,none⟩=some (.int .i64 oc):=λW hW=>
  ⟨(zq4 (hsame W hW mb hmH)).trans m,(zq4 (hsame W hW g hgH)).trans t3,(zq4 (hsame W hW g hgH)).trans t0,(zq4 (hsame W hW go (by omega))).trans c0,(zq4 (hsame W hW go (by omega))).trans c1,(zq4 (hsame W hW go (by omega))).trans c2,(zq4 (hsame W hW go (by omega))).trans c3⟩
 have hi0:(0:Int)<=(i:Int):=by omega
 have hin:(i:Int)<(n:Int):=by omega
 have ha0:(0:Int)<=(at0:Int):=by omega
 have hal:(at0:Int)<(L:Int):=by omega
 rw[hN]at hok hC0 hC1 h ⊢
 have HF:=Lib.hid hfacts
 have HH:=Lib.hid (And.intro hH (And.intro hmH (And.intro hgH hcH)))
 have HALL:=Lib.hid (And.intro h (And.intro hi (And.intro hn (And.intro hlen (And.intro hfit (And.intro hok (And.intro hC0 (And.intro hC1 hN))))))))
 have HOP:=Lib.hid (And.intro hop (And.intro hat0 (And.intro hpc0 (And.intro hL (And.intro hlt hB)))))
 clear hfacts hsame hmH hgH hcH hH h hi hn hlen hfit hok hpc hC0 hC1 hN hop hat0 hpc0 hL hlt hB m t3 t0 c0 c1 c2 c3 hrd hopv
 go_enter Try.func40,Try.ntmps40
 go_wp2_with (fail)
 refine zq1h (k:=19) (s:=18) (W0:=w.drewN 1) (W1:=(w.drewN 1).alloc (.cells #[.int .i64 0,.int .i64 0,.int .i64 0,.int .i64 0] 46)) (by kernel_rfl) (by kernel_rfl) (by kernel_rfl) (by kernel_rfl) (by decide)
  [.pointer (some ⟨mb,0,none⟩),.pointer (some ⟨mb,0,none⟩),.pointer (some ⟨mb,1,none⟩),.slice (some ⟨g,0,none⟩) n Ct,.int .i64 i,.pointer (some ⟨g,i*7,none⟩),.pointer (some ⟨g,i*7,none⟩),.slice (some ⟨go,off,none⟩) L cap,.pointer (some ⟨mb,0,none⟩),.pointer (some ⟨mb,0,none⟩),.pointer (some ⟨mb,1,none⟩),.slice (some ⟨g,0,none⟩) n Ct,.int .i64 i,.pointer (some ⟨g,i*7,none⟩),.pointer (some ⟨g,i*7+3,none⟩),.int .i64 at0,.pointer (some ⟨go,off+at0*4,none⟩),.agg #[.int .i64 3,.int .i64 oa,.int .i64 ob,.int .i64 oc],.pointer (some ⟨H,0,none⟩)] rfl rfl ?_ ?_ ?_
 · intro jj oo hjj h18 hoo W hWW
   obtain⟨d1,d2,d3,d4,d5,d6,d7⟩:=HF.out W hWW
   clear hWW
   simp only[putv,dstOf,al_gl,al_g0,al_g1,al_ob,al_g2,List.set_cons_succ,List.set_cons_zero]
   obtain rfl |rfl |rfl |rfl |rfl |rfl |rfl |rfl |rfl |rfl |rfl |rfl |rfl |rfl |rfl |rfl |rfl |rfl:jj=0\/jj=1\/jj=2\/jj=3\/jj=4\/jj=5\/jj=6\/jj=7\/jj=8\/jj=9\/jj=10\/jj=11\/jj=12\/jj=13\/jj=14\/jj=15\/jj=16\/jj=17:=by omega
   all_goals(simp only[al_gl,al_g0,al_g1,al_oi]at hoo;subst hoo;refine .inl ?_)
   all_goals(simp only[execOp,Act.eval,al_gd,al_gl,al_g0,al_g1,al_od])
   all_goals(try go_simp)
 · intro oo hoo
   simp only[putv,dstOf,al_gl,al_g0,al_g1,al_ob,al_g2,List.set_cons_succ,List.set_cons_zero]
   simp only[al_gl,al_g0,al_g1,al_oi]at hoo
   subst hoo
   refine .inl ?_
   have hs0:(w.drewN 1).heap.size=H:=HH.out.1
   generalize w.drewN 1=W0 at hs0 ⊢
   simp only[execOp,Act.eval,al_gd,al_gl,al_g0,al_g1,al_od]
   go_simp
 simp only[putv,dstOf,al_gl,al_g0,al_g1,al_ob,al_g2,List.set_cons_succ,List.set_cons_zero]
 refine zq13 (i:=19) (by kernel_rfl) ?_
 simp only[wpOp,al_gl,al_g0,al_g1]
 rw[if_pos (by rfl)]
 refine .inl ?_
 have hnb:((w.drewN 1).alloc (.cells #[.int .i64 0,.int .i64 0,.int .i64 0,.int .i64 0] 46)).heap[H]?=some (.cells #[.int .i64 0,.int .i64 0,.int .i64 0,.int .i64 0] 46):=by rw[←HH.out.1];exact zqq (w.drewN 1) _
 have hold:∀b o,w.heap[b]?=some o->((w.drewN 1).alloc (.cells #[.int .i64 0,.int .i64 0,.int .i64 0,.int .i64 0] 46)).heap[b]?=some o:=λb o hb=>zqk (w:=w.drewN 1) hb
 have hsz:w.heap.size<=((w.drewN 1).alloc (.cells #[.int .i64 0,.int .i64 0,.int .i64 0,.int .i64 0] 46)).heap.size:=by rw[zqc];exact Nat.le_succ _
 have a0:=(zq0 (off:=0) hnb).trans rfl
 have a1:=(zq0 (off:=1) hnb).trans rfl
 have a2:=(zq0 (off:=2) hnb).trans rfl
 have a3:=(zq0 (off:=3) hnb).trans rfl
 have fz:∀off,((w.drewN 1).alloc (.cells #[.int .i64 0,.int .i64 0,.int .i64 0,.int .i64 0] 46)).frozen? ⟨H,off,none⟩=false:=λoff=>zqe hnb
 have f0:=fz 0
 have f1:=fz 1
 have f2:=fz 2
 have f3:=fz 3
 have HNB:=Lib.hid (And.intro hnb (And.intro hold hsz))
 clear hnb fz hold hsz
 generalize (w.drewN 1).alloc (.cells #[.int .i64 0,.int .i64 0,.int .i64 0,.int .i64 0] 46)=w1 at a0 a1 a2 a3 f0 f1 f2 f3 HNB ⊢
 go_simp
 refine zq12 (by kernel_rfl) ?_
 clear a0 a1 a2 a3 f0 f1 f2 f3 HF
 obtain⟨w2,hw2⟩:∃w2,((((w1.setCell ⟨H,0,none⟩ (.int .i64 3)).setCell ⟨H,1,none⟩ (.int .i64 oa)).setCell ⟨H,2,none⟩ (.int .i64 ob)).setCell ⟨H,3,none⟩ (.int .i64 oc))=w2:=⟨_,rfl⟩
 have hb2:w2.heap[H]?=some (.cells #[.int .i64 3,.int .i64 oa,.int .i64 ob,.int .i64 oc] 46):=by
  rw[←hw2]
  exact(zqb _ _ 3 _ (zqb _ _ 2 _ (zqb _ _ 1 _ (zqb w1 H 0 _ HNB.out.1)))).trans rfl
 have ho2:∀b o,w.heap[b]?=some o->w2.heap[b]?=some o:=λb o hb=>by
  have hbH:b≠H:=by have:=zqa hb;have:=HH.out.1;omega
  rw[←hw2,zq3 _ _ _ _ hbH,zq3 _ _ _ _ hbH,zq3 _ _ _ _ hbH,zq3 _ _ _ _ hbH]
  exact HNB.out.2.1 b o hb
 have hs2:w.heap.size<=w2.heap.size:=by
  rw[←hw2,zqh,zqh,zqh,zqh]
  exact HNB.out.2.2
 rw[hw2]
 clear hw2 HNB
 have hR2:=HALL.out.1.of ho2
 have hk2:KeepB B w w2:=⟨hs2,λb hb=>by
  have hlt:b<w.heap.size:=Nat.lt_of_lt_of_le hb HOP.out.2.2.2.2.2
  have e:w.heap[b]?=some w.heap[b]:=Array.getElem?_eq_getElem hlt
  rw[e];exact ho2 b _ e,λb c T2 f hb _=>ho2 b _ hb⟩
 have hpb:(pc0:Int)<=200:=by
  obtain⟨op',e,hg,o1,o2,o4,o5⟩:=HALL.out.2.2.2.2.2.1.stand (by rw[HOP.out.2.2.1];exact Nat.succ_ne_zero _)
  rw[HOP.out.2.1,HOP.out.1]at e
  obtain rfl:=Option.some.inj e
  rw[HOP.out.2.2.1]at o1 o2 o4 o5
  have hN:=HALL.out.2.2.2.2.2.2.2.1
  first|(have:=o1 rfl;omega)|(have:=o2 (.inl rfl);omega)|(have:=o2 (.inr rfl);omega)|(have:=o4 rfl;omega)|(have:=(o5 rfl).1;omega)
 have hp0:(0:Int)<=(pc0:Int):=by omega
 have m:w2.cell? ⟨mb,1,none⟩=some (.slice (some ⟨g,0,none⟩) n Ct):=(zq0 (off:=1) hR2.mach).trans rfl
 have mc:w2.cell? ⟨mb,0,none⟩=some (.slice (some ⟨gc,0,none⟩) N Cc):=(zq0 (off:=0) hR2.mach).trans rfl
 have t4:w2.cell? ⟨g,i*7+4,none⟩=some (.int .i64 ((pc0:Int)+1)):=by
  rw[(hR2.trow.cell HALL.out.2.1 (show 4<7 by decide)).1];simp only[thF];rw[HOP.out.2.2.1];rfl
 have f4:=(hR2.trow.cell HALL.out.2.1 (show 4<7 by decide)).2
 have HR:=Lib.hid (And.intro hR2 (And.intro hk2 hb2))
 clear hR2 hk2 hb2 ho2 hs2
 go_upto_region 4 with(fail)
 have hR3:=HR.out.1.setN (j:=4) HALL.out.2.1 (.inr (.inl rfl)) (x:=.int .i64 ((pc0:Int)+2)) (t':={T i with pc:=pc0+2}) (by simp only[thF,upd'_same];rfl) rfl rfl (.inr rfl) (.inl rfl) (.inr rfl)
 have hk3:=HR.out.2.1.trans (KeepB.set hgB HR.out.1.inT (i*7+4) (.int .i64 ((pc0:Int)+2)))
 have hb3:(w2.setCell ⟨g,i*7+4,none⟩ (.int .i64 ((pc0:Int)+2))).heap[H]?=some (.cells #[.int .i64 3,.int .i64 oa,.int .i64 ob,.int .i64 oc] 46):=(zq3 _ _ _ _ (show H≠g by have:=HH.out.2.2.1;omega)).trans HR.out.2.2
 have H3:=Lib.hid (And.intro hR3 (And.intro hk3 hb3))
 clear m mc t4 f4 HR hR3 hk3 hb3
 generalize w2.setCell ⟨g,i*7+4,none⟩ (.int .i64 ((pc0:Int)+2))=w3 at H3 ⊢
 have m:w3.cell? ⟨mb,1,none⟩=some (.slice (some ⟨g,0,none⟩) n Ct):=(zq0 (off:=1) H3.out.1.mach).trans rfl
 have mc:w3.cell? ⟨mb,0,none⟩=some (.slice (some ⟨gc,0,none⟩) N Cc):=(zq0 (off:=0) H3.out.1.mach).trans rfl
 have b0:w3.cell? ⟨H,0,none⟩=some (.int .i64 3):=(zq0 (off:=0) H3.out.2.2).trans rfl
 have b1:w3.cell? ⟨H,1,none⟩=some (.int .i64 oa):=(zq0 (off:=1) H3.out.2.2).trans rfl
 have b2:w3.cell? ⟨H,2,none⟩=some (.int .i64 ob):=(zq0 (off:=2) H3.out.2.2).trans rfl
 have b3:w3.cell? ⟨H,3,none⟩=some (.int .i64 oc):=(zq0 (off:=3) H3.out.2.2).trans rfl
 obtain⟨sm,hsm⟩:∃y,(T i).sum=y:=⟨_,rfl⟩
 obtain⟨y,hy⟩:∃y,C.getD pc0 0=y:=⟨_,rfl⟩
 have hkN:pc0<N:=by
  obtain⟨op',e,hg,o1,o2,o4,o5⟩:=HALL.out.2.2.2.2.2.1.stand (by rw[HOP.out.2.2.1];exact Nat.succ_ne_zero _)
  rw[HOP.out.2.1,HOP.out.1]at e
  obtain rfl:=Option.some.inj e
  have:=o2 (.inr rfl)
  have:=HOP.out.2.2.1
  omega
 have t5:w3.cell? ⟨g,i*7+5,none⟩=some (.int .i64 sm):=by
  rw[(H3.out.1.trow.cell HALL.out.2.1 (show 5<7 by decide)).1];simp only[thF,upd'_same];rw[hsm]
 have f5:=(H3.out.1.trow.cell HALL.out.2.1 (show 5<7 by decide)).2
 obtain⟨ck,fk⟩:=H3.out.1.strCell' HALL.out.2.2.2.2.2.2.2.2 hkN
 rw[hy]at ck
 have hkN':(pc0:Int)<(N:Int):=by omega
 have hN64:(N:Int)<=64:=by have:=HALL.out.2.2.2.2.2.2.2.1;omega
 have hq:((pc0:Int)==(N:Int) - 1)=false:=by have:=HX.out;have:=HOP.out.2.2.1;have:=HALL.out.2.2.2.2.2.2.2.2;simp;omega
 have HS:=Lib.hid (And.intro hsm (And.intro hy hkN))
 clear hsm hy hkN
 go_wp2_with (fail)
 refine zq1i (k:=23) (C:=λw'=>∃n,w'=w3.drewN n) (by kernel_rfl) (by kernel_rfl) (by kernel_rfl) (by kernel_rfl) (by kernel_rfl) ⟨1,rfl⟩ ?_
 simp only[List.take_succ_cons,List.take_zero]
 repeat (quiet_step (fail))
 refine wpQuiet_nil ?_
 rintro w' ⟨nq,rfl⟩
 refine zq13 (i:=23) (by kernel_rfl) ?_
 simp only[wpOp,al_gl,al_g0,al_g1]
 rw[if_pos (by rfl)]
 refine .inl ?_
 have t5':(w3.drewN nq).cell? ⟨g,i*7+5,none⟩=some (.int .i64 sm):=t5
 have f5':(w3.drewN nq).frozen? ⟨g,i*7+5,none⟩=false:=f5
 clear t5 f5 ck fk m mc b0 b1 b2 b3
 go_simp
 refine zq12 (by kernel_rfl) ?_
 have hR4:=(H3.out.1.drew nq).setN (j:=5) HALL.out.2.1 (.inr (.inr rfl)) (x:=.int .i64 (IntKind.i64.wrap (sm+y))) (t':={T i with pc:=pc0+2,sum:=IntKind.i64.wrap (sm+y)}) (by simp only[thF,upd'_same]) (by rw[upd'_same]) (by rw[upd'_same]) (.inr (by rw[upd'_same])) (.inr (by rw[upd'_same])) (.inl rfl)
 rw[zq18]at hR4
 have hk4:=H3.out.2.1.trans ((KeepB.drew nq).trans (KeepB.set (w:=w3.drewN nq) hgB (H3.out.1.drew nq).inT (i*7+5) (.int .i64 (IntKind.i64.wrap (sm+y)))))
 have hb4:((w3.drewN nq).setCell ⟨g,i*7+5,none⟩ (.int .i64 (IntKind.i64.wrap (sm+y)))).heap[H]?=some (.cells #[.int .i64 3,.int .i64 oa,.int .i64 ob,.int .i64 oc] 46):=(zq3 _ _ _ _ (show H≠g by have:=HH.out.2.2.1;omega)).trans H3.out.2.2
 obtain⟨v,hv⟩:∃v,IntKind.i64.wrap (sm+y)=v:=⟨_,rfl⟩
 rw[hv]at hR4 hk4 hb4
 clear t5' f5'
 try rw[hv]
 have H4:=Lib.hid (And.intro hR4 (And.intro hk4 (And.intro hb4 hv)))
 clear hR4 hk4 hb4 hv
 generalize (w3.drewN nq).setCell ⟨g,i*7+5,none⟩ (.int .i64 v)=w4 at H4 ⊢
 have m:w4.cell? ⟨mb,1,none⟩=some (.slice (some ⟨g,0,none⟩) n Ct):=(zq0 (off:=1) H4.out.1.mach).trans rfl
 have mc:w4.cell? ⟨mb,0,none⟩=some (.slice (some ⟨gc,0,none⟩) N Cc):=(zq0 (off:=0) H4.out.1.mach).trans rfl
 have b0:w4.cell? ⟨H,0,none⟩=some (.int .i64 3):=(zq0 (off:=0) H4.out.2.2.1).trans rfl
 have t5:w4.cell? ⟨g,i*7+5,none⟩=some (.int .i64 v):=by
  rw[(H4.out.1.trow.cell HALL.out.2.1 (show 5<7 by decide)).1];simp only[thF,upd'_same]
 obtain⟨ck,fk⟩:=H4.out.1.strCell' HALL.out.2.2.2.2.2.2.2.2 HS.out.2.2
 have hgcg:gc≠g:=by
  intro e
  obtain⟨⟨c1,hc1⟩,_⟩:=H4.out.1.trow.lt (show(Value.slice (some ⟨g,0,none⟩) n Ct).ownBlock=some g from rfl)
  exact own_ne H4.out.1.crow hc1 (by decide) (by rw[←e];rfl)
 have hgcg2:g≠gc:=λe=>hgcg e.symm
 have hmgc:mb≠gc:=λe=>own_ne H4.out.1.crow H4.out.1.mach (by decide) (by rw[e];rfl)
 have hR5:=H4.out.1.setC' HALL.out.2.2.2.2.2.2.2.2 HS.out.2.2 0
 have hk5:=H4.out.2.1.trans (KeepB.set hcB H4.out.1.inC pc0 (.int .i64 0))
 have HZ:=Lib.hid (And.intro hR5 hk5)
 clear hR5 hk5
 have hst:stepR N (⟨3,oa,ob,oc⟩:OpX) C (T i)=((C.set pc0 0),{T i with pc:=pc0+2,sum:=v}):=by
  unfold stepR
  have hp:=HX.out
  rw[HALL.out.2.2.2.2.2.2.2.2,HOP.out.2.2.1]at hp
  have h4:wrap64 (sm+y)=v:=by
   have:=H4.out.2.2.2
   rw[IntKind.wrap_i64]at this
   rw[←this]
   simp only[wrap64]<;>omega
  have n1:¬(⟨3,oa,ob,oc⟩:OpX).k=1:=by show ¬(3:Int)=1;decide
  have p2:(⟨3,oa,ob,oc⟩:OpX).k=2\/(⟨3,oa,ob,oc⟩:OpX).k=3:=.inr rfl
  have p3:(⟨3,oa,ob,oc⟩:OpX).k=3:=by show(3:Int)=3;decide
  rw[if_neg n1,if_pos p2]
  simp only[if_pos p3,HOP.out.2.2.1,Nat.add_sub_cancel]
  rw[HS.out.1,HS.out.2.1,h4]
  rw[if_neg hp]
  try rfl
 have HE2:=Lib.hid (And.intro HZ.out.2 hst)
 clear hst
 go_wp2_with (fail)
 go_end0
 refine⟨rfl,⟨av,sv,?_⟩,HE2.out.1⟩
 rw[HE2.out.2]
 exact HZ.out.1
end
section
variable {mb B n:Nat} {opv:Nat->Value} {C:List Int} {T:Nat->RT} {cv tv:Value} {av sv:Nat->Value} {w w':World}
theorem step4a_lone{i:Nat}{ops:List OpX}{oa ob oc:Int}(hx:(T i).pc=1)(h:RefRep mb B n opv C T cv tv av sv w)(hi:i<n)(hn:n<=64)(hops:OpsB B w (opv i) ops)(hlen:ops.length<=65536)(hfit:FitT ops (T i))(hok:OkT C.length ops (T i))(hpc:(T i).pc≠0)(hop:ops[(T i).at']?=some (⟨4,oa,ob,oc⟩:OpX))(hC0:0<C.length)(hC1:C.length<=64):
 Calls Try.prog 40 #[.pointer (some ⟨mb,0,none⟩),.int .i64 i] w λe w'=>e=.returned (.tuple #[])/\RefPost mb B n opv (stepR C.length (⟨4,oa,ob,oc⟩:OpX) C (T i)).1 (upd' T i (stepR C.length (⟨4,oa,ob,oc⟩:OpX) C (T i)).2) cv tv w w':=by
 have HX:=Lib.hid hx
 clear hx
 obtain⟨g,Ct,rfl,hgB⟩:=h.thr (by omega)
 obtain⟨gc,Cc,rfl,hcB⟩:=h.str hC0
 obtain⟨N,hN⟩:∃N,C.length=N:=⟨_,rfl⟩
 have hmg:=h.mach_ne
 obtain⟨sp,cap,hopv,hrd⟩:=hops
 obtain⟨at0,hat0⟩:∃p,(T i).at'=p:=⟨_,rfl⟩
 obtain⟨pc0,hpc0⟩:∃p,(T i).pc=p+1:=⟨(T i).pc - 1,by omega⟩
 obtain⟨L,hL⟩:∃p,ops.length=p:=⟨_,rfl⟩
 rw[hat0]at hop
 obtain⟨go,off,rfl,hgo,c0',c1',c2',c3'⟩:=hrd at0 _ hop
 have c0:w.cell? ⟨go,off+at0*4,none⟩=some (.int .i64 4):=c0'
 have c1:w.cell? ⟨go,off+at0*4+1,none⟩=some (.int .i64 oa):=c1'
 have c2:w.cell? ⟨go,off+at0*4+2,none⟩=some (.int .i64 ob):=c2'
 have c3:w.cell? ⟨go,off+at0*4+3,none⟩=some (.int .i64 oc):=c3'
 clear c0' c1' c2' c3'
 have hlt:at0<L:=by rw[←hL];exact(List.getElem?_eq_some_iff.1 hop).1
 have hB:B<=w.heap.size:=Nat.le_trans h.lo (Nat.le_of_lt (zqa h.mach))
 obtain⟨H,hH⟩:∃H,w.heap.size=H:=⟨_,rfl⟩
 have m:w.cell? ⟨mb,1,none⟩=some (.slice (some ⟨g,0,none⟩) n Ct):=(zq0 (off:=1) h.mach).trans rfl
 have t3:w.cell? ⟨g,i*7+3,none⟩=some (.int .i64 (at0:Nat)):=by
  rw[(h.trow.cell hi (show 3<7 by decide)).1];simp only[thF];rw[hat0]
 have t0:w.cell? ⟨g,i*7,none⟩=some (.slice (some ⟨go,off,none⟩) L cap):=by
  have:=(h.trow.cell hi (show 0<7 by decide)).1
  exact this.trans (by show some (opv i)=_;rw[hopv,hL])
 have hsame:∀W,W=w.drewN 1\/W=(w.drewN 1).alloc (.cells #[.int .i64 0,.int .i64 0,.int .i64 0,.int .i64 0] 46)->∀b,b<H->W.heap[b]?=w.heap[b]?:=λW hW b hb=>by
  rcases hW with rfl |rfl
  · rfl
  · rw[zq8,if_neg (by show b≠w.heap.size;omega)];rfl
 have hmH:mb<H:=by rw[←hH];exact zqa h.mach
 have hgH:g<H:=by rw[←hH];exact(h.trow.lt (show(Value.slice (some ⟨g,0,none⟩) n Ct).ownBlock=some g from rfl)).2.2
 have hcH:gc<H:=by rw[←hH];exact(own_lt h.crow (show(Value.slice (some ⟨gc,0,none⟩) C.length Cc).ownBlock=some gc from rfl)).2.2
 have hfacts:∀W,W=w.drewN 1\/W=(w.drewN 1).alloc (.cells #[.int .i64 0,.int .i64 0,.int .i64 0,.int .i64 0] 46)->W.cell? ⟨mb,1,none⟩=some (.slice (some ⟨g,0,none⟩) n Ct)/\W.cell? ⟨g,i*7+3,none⟩=some (.int .i64 (at0:Nat))/\W.cell? ⟨g,i*7,none⟩=some (.slice (some ⟨go,off,none⟩) L cap)/\W.cell? ⟨go,off+at0*4,none⟩=some (.int .i64 4)/\W.cell? ⟨go,off+at0*4+1,none⟩=some (.int .i64 oa)/\W.cell? ⟨go,off+at0*4+2,none⟩=some (.int .i64 ob)/\W.cell? ⟨go,off+at0*4+3,none⟩=some (.int .i64 oc):=λW hW=>
  ⟨(zq4 (hsame W hW mb hmH)).trans m,(zq4 (hsame W hW g hgH)).trans t3,(zq4 (hsame W hW g hgH)).trans t0,(zq4 (hsame W hW go (by omega))).trans c0,(zq4 (hsame W hW go (by omega))).trans c1,(zq4 (hsame W hW go (by omega))).trans c2,(zq4 (hsame W hW go (by omega))).trans c3⟩
 have hi0:(0:Int)<=(i:Int):=by omega
 have hin:(i:Int)<(n:Int):=by omega
 have ha0:(0:Int)<=(at0:Int):=by omega
 have hal:(at0:Int)<(L:Int):=by omega
 rw[hN]at hok hC0 hC1 h ⊢
 have HF:=Lib.hid hfacts
 have HH:=Lib.hid (And.intro hH (And.intro hmH (And.intro hgH hcH)))
 have HALL:=Lib.hid (And.intro h (And.intro hi (And.intro hn (And.intro hlen (And.intro hfit (And.intro hok (And.intro hC0 (And.intro hC1 hN))))))))
 have HOP:=Lib.hid (And.intro hop (And.intro hat0 (And.intro hpc0 (And.intro hL (And.intro hlt hB)))))
 clear hfacts hsame hmH hgH hcH hH h hi hn hlen hfit hok hpc hC0 hC1 hN hop hat0 hpc0 hL hlt hB m t3 t0 c0 c1 c2 c3 hrd hopv
 go_enter Try.func40,Try.ntmps40
 go_wp2_with (fail)
 refine zq1h (k:=19) (s:=18) (W0:=w.drewN 1) (W1:=(w.drewN 1).alloc (.cells #[.int .i64 0,.int .i64 0,.int .i64 0,.int .i64 0] 46)) (by kernel_rfl) (by kernel_rfl) (by kernel_rfl) (by kernel_rfl) (by decide)
  [.pointer (some ⟨mb,0,none⟩),.pointer (some ⟨mb,0,none⟩),.pointer (some ⟨mb,1,none⟩),.slice (some ⟨g,0,none⟩) n Ct,.int .i64 i,.pointer (some ⟨g,i*7,none⟩),.pointer (some ⟨g,i*7,none⟩),.slice (some ⟨go,off,none⟩) L cap,.pointer (some ⟨mb,0,none⟩),.pointer (some ⟨mb,0,none⟩),.pointer (some ⟨mb,1,none⟩),.slice (some ⟨g,0,none⟩) n Ct,.int .i64 i,.pointer (some ⟨g,i*7,none⟩),.pointer (some ⟨g,i*7+3,none⟩),.int .i64 at0,.pointer (some ⟨go,off+at0*4,none⟩),.agg #[.int .i64 4,.int .i64 oa,.int .i64 ob,.int .i64 oc],.pointer (some ⟨H,0,none⟩)] rfl rfl ?_ ?_ ?_
 · intro jj oo hjj h18 hoo W hWW
   obtain⟨d1,d2,d3,d4,d5,d6,d7⟩:=HF.out W hWW
   clear hWW
   simp only[putv,dstOf,al_gl,al_g0,al_g1,al_ob,al_g2,List.set_cons_succ,List.set_cons_zero]
   obtain rfl |rfl |rfl |rfl |rfl |rfl |rfl |rfl |rfl |rfl |rfl |rfl |rfl |rfl |rfl |rfl |rfl |rfl:jj=0\/jj=1\/jj=2\/jj=3\/jj=4\/jj=5\/jj=6\/jj=7\/jj=8\/jj=9\/jj=10\/jj=11\/jj=12\/jj=13\/jj=14\/jj=15\/jj=16\/jj=17:=by omega
   all_goals(simp only[al_gl,al_g0,al_g1,al_oi]at hoo;subst hoo;refine .inl ?_)
   all_goals(simp only[execOp,Act.eval,al_gd,al_gl,al_g0,al_g1,al_od])
   all_goals(try go_simp)
 · intro oo hoo
   simp only[putv,dstOf,al_gl,al_g0,al_g1,al_ob,al_g2,List.set_cons_succ,List.set_cons_zero]
   simp only[al_gl,al_g0,al_g1,al_oi]at hoo
   subst hoo
   refine .inl ?_
   have hs0:(w.drewN 1).heap.size=H:=HH.out.1
   generalize w.drewN 1=W0 at hs0 ⊢
   simp only[execOp,Act.eval,al_gd,al_gl,al_g0,al_g1,al_od]
   go_simp
 simp only[putv,dstOf,al_gl,al_g0,al_g1,al_ob,al_g2,List.set_cons_succ,List.set_cons_zero]
 refine zq13 (i:=19) (by kernel_rfl) ?_
 simp only[wpOp,al_gl,al_g0,al_g1]
 rw[if_pos (by rfl)]
 refine .inl ?_
 have hnb:((w.drewN 1).alloc (.cells #[.int .i64 0,.int .i64 0,.int .i64 0,.int .i64 0] 46)).heap[H]?=some (.cells #[.int .i64 0,.int .i64 0,.int .i64 0,.int .i64 0] 46):=by rw[←HH.out.1];exact zqq (w.drewN 1) _
 have hold:∀b o,w.heap[b]?=some o->((w.drewN 1).alloc (.cells #[.int .i64 0,.int .i64 0,.int .i64 0,.int .i64 0] 46)).heap[b]?=some o:=λb o hb=>zqk (w:=w.drewN 1) hb
 have hsz:w.heap.size<=((w.drewN 1).alloc (.cells #[.int .i64 0,.int .i64 0,.int .i64 0,.int .i64 0] 46)).heap.size:=by rw[zqc];exact Nat.le_succ _
 have a0:=(zq0 (off:=0) hnb).trans rfl
 have a1:=(zq0 (off:=1) hnb).trans rfl
 have a2:=(zq0 (off:=2) hnb).trans rfl
 have a3:=(zq0 (off:=3) hnb).trans rfl
 have fz:∀off,((w.drewN 1).alloc (.cells #[.int .i64 0,.int .i64 0,.int .i64 0,.int .i64 0] 46)).frozen? ⟨H,off,none⟩=false:=λoff=>zqe hnb
 have f0:=fz 0
 have f1:=fz 1
 have f2:=fz 2
 have f3:=fz 3
 have HNB:=Lib.hid (And.intro hnb (And.intro hold hsz))
 clear hnb fz hold hsz
 generalize (w.drewN 1).alloc (.cells #[.int .i64 0,.int .i64 0,.int .i64 0,.int .i64 0] 46)=w1 at a0 a1 a2 a3 f0 f1 f2 f3 HNB ⊢
 go_simp
 refine zq12 (by kernel_rfl) ?_
 clear a0 a1 a2 a3 f0 f1 f2 f3 HF
 obtain⟨w2,hw2⟩:∃w2,((((w1.setCell ⟨H,0,none⟩ (.int .i64 4)).setCell ⟨H,1,none⟩ (.int .i64 oa)).setCell ⟨H,2,none⟩ (.int .i64 ob)).setCell ⟨H,3,none⟩ (.int .i64 oc))=w2:=⟨_,rfl⟩
 have hb2:w2.heap[H]?=some (.cells #[.int .i64 4,.int .i64 oa,.int .i64 ob,.int .i64 oc] 46):=by
  rw[←hw2]
  exact(zqb _ _ 3 _ (zqb _ _ 2 _ (zqb _ _ 1 _ (zqb w1 H 0 _ HNB.out.1)))).trans rfl
 have ho2:∀b o,w.heap[b]?=some o->w2.heap[b]?=some o:=λb o hb=>by
  have hbH:b≠H:=by have:=zqa hb;have:=HH.out.1;omega
  rw[←hw2,zq3 _ _ _ _ hbH,zq3 _ _ _ _ hbH,zq3 _ _ _ _ hbH,zq3 _ _ _ _ hbH]
  exact HNB.out.2.1 b o hb
 have hs2:w.heap.size<=w2.heap.size:=by
  rw[←hw2,zqh,zqh,zqh,zqh]
  exact HNB.out.2.2
 rw[hw2]
 clear hw2 HNB
 have hR2:=HALL.out.1.of ho2
 have hk2:KeepB B w w2:=⟨hs2,λb hb=>by
  have hlt:b<w.heap.size:=Nat.lt_of_lt_of_le hb HOP.out.2.2.2.2.2
  have e:w.heap[b]?=some w.heap[b]:=Array.getElem?_eq_getElem hlt
  rw[e];exact ho2 b _ e,λb c T2 f hb _=>ho2 b _ hb⟩
 have hpb:(pc0:Int)<=200:=by
  obtain⟨op',e,hg,o1,o2,o4,o5⟩:=HALL.out.2.2.2.2.2.1.stand (by rw[HOP.out.2.2.1];exact Nat.succ_ne_zero _)
  rw[HOP.out.2.1,HOP.out.1]at e
  obtain rfl:=Option.some.inj e
  rw[HOP.out.2.2.1]at o1 o2 o4 o5
  have hN:=HALL.out.2.2.2.2.2.2.2.1
  first|(have:=o1 rfl;omega)|(have:=o2 (.inl rfl);omega)|(have:=o2 (.inr rfl);omega)|(have:=o4 rfl;omega)|(have:=(o5 rfl).1;omega)
 have hp0:(0:Int)<=(pc0:Int):=by omega
 have m:w2.cell? ⟨mb,1,none⟩=some (.slice (some ⟨g,0,none⟩) n Ct):=(zq0 (off:=1) hR2.mach).trans rfl
 have mc:w2.cell? ⟨mb,0,none⟩=some (.slice (some ⟨gc,0,none⟩) N Cc):=(zq0 (off:=0) hR2.mach).trans rfl
 have t4:w2.cell? ⟨g,i*7+4,none⟩=some (.int .i64 ((pc0:Int)+1)):=by
  rw[(hR2.trow.cell HALL.out.2.1 (show 4<7 by decide)).1];simp only[thF];rw[HOP.out.2.2.1];rfl
 have f4:=(hR2.trow.cell HALL.out.2.1 (show 4<7 by decide)).2
 have HR:=Lib.hid (And.intro hR2 (And.intro hk2 hb2))
 clear hR2 hk2 hb2 ho2 hs2
 go_upto_region 4 with(fail)
 have hR3:=HR.out.1.setN (j:=4) HALL.out.2.1 (.inr (.inl rfl)) (x:=.int .i64 ((pc0:Int)+2)) (t':={T i with pc:=pc0+2}) (by simp only[thF,upd'_same];rfl) rfl rfl (.inr rfl) (.inl rfl) (.inr rfl)
 have hk3:=HR.out.2.1.trans (KeepB.set hgB HR.out.1.inT (i*7+4) (.int .i64 ((pc0:Int)+2)))
 have hb3:(w2.setCell ⟨g,i*7+4,none⟩ (.int .i64 ((pc0:Int)+2))).heap[H]?=some (.cells #[.int .i64 4,.int .i64 oa,.int .i64 ob,.int .i64 oc] 46):=(zq3 _ _ _ _ (show H≠g by have:=HH.out.2.2.1;omega)).trans HR.out.2.2
 have H3:=Lib.hid (And.intro hR3 (And.intro hk3 hb3))
 clear m mc t4 f4 HR hR3 hk3 hb3
 generalize w2.setCell ⟨g,i*7+4,none⟩ (.int .i64 ((pc0:Int)+2))=w3 at H3 ⊢
 have m:w3.cell? ⟨mb,1,none⟩=some (.slice (some ⟨g,0,none⟩) n Ct):=(zq0 (off:=1) H3.out.1.mach).trans rfl
 have mc:w3.cell? ⟨mb,0,none⟩=some (.slice (some ⟨gc,0,none⟩) N Cc):=(zq0 (off:=0) H3.out.1.mach).trans rfl
 have b0:w3.cell? ⟨H,0,none⟩=some (.int .i64 4):=(zq0 (off:=0) H3.out.2.2).trans rfl
 have b1:w3.cell? ⟨H,1,none⟩=some (.int .i64 oa):=(zq0 (off:=1) H3.out.2.2).trans rfl
 have b2:w3.cell? ⟨H,2,none⟩=some (.int .i64 ob):=(zq0 (off:=2) H3.out.2.2).trans rfl
 have b3:w3.cell? ⟨H,3,none⟩=some (.int .i64 oc):=(zq0 (off:=3) H3.out.2.2).trans rfl
 obtain⟨s,hs⟩:∃s,idx oa N=s:=⟨_,rfl⟩
 have hsN:s<N:=by rw[←hs];exact idx_lt oa HALL.out.2.2.2.2.2.2.1
 obtain⟨cs,fs⟩:=H3.out.1.strCell' HALL.out.2.2.2.2.2.2.2.2 hsN
 obtain⟨y,hy⟩:∃y,C.getD s 0=y:=⟨_,rfl⟩
 rw[hy]at cs
 have hsN':(s:Int)<(N:Int):=by omega
 have hs0:(0:Int)<=(s:Int):=by omega
 have hq:((pc0:Int)==0)=true:=by have:=HX.out;have:=HOP.out.2.2.1;simp;omega
 have hAt:=at_lone' oa HALL.out.2.2.2.2.2.2.1 HALL.out.2.2.2.2.2.2.2.1 w3
 rw[hs]at hAt
 have HS:=Lib.hid (And.intro hs (And.intro hsN hy))
 have HAT:=Lib.hid hAt
 clear hs hsN hy hAt
 go_wp2_with (fail)
 refine Calls.mono HAT.out ?_
 rintro e wq ⟨rfl,rfl⟩
 go_wp2_with (fail)
 refine zq1i (k:=16) (C:=λw'=>∃n,w'=wq.drewN n) (by kernel_rfl) (by kernel_rfl) (by kernel_rfl) (by kernel_rfl) (by kernel_rfl) ⟨1,rfl⟩ ?_
 simp only[List.take_succ_cons,List.take_zero]
 repeat (quiet_step (fail))
 refine wpQuiet_nil ?_
 rintro w4 ⟨nq,rfl⟩
 refine zq13 (i:=16) (by kernel_rfl) ?_
 simp only[wpOp,al_gl,al_g0,al_g1]
 rw[if_pos (by rfl)]
 refine .inl ?_
 have fs':(wq.drewN nq).frozen? ⟨gc,s,none⟩=false:=fs
 have cs':(wq.drewN nq).cell? ⟨gc,s,none⟩=some (.int .i64 y):=cs
 clear cs fs m mc b0 b1 b2 b3
 go_simp
 refine zq12 (by kernel_rfl) ?_
 have hR4:=(H3.out.1.drew nq).setC' HALL.out.2.2.2.2.2.2.2.2 HS.out.2.1 (IntKind.i64.wrap (y - oc))
 have hk4:=H3.out.2.1.trans ((KeepB.drew nq).trans (KeepB.set (w:=wq.drewN nq) hcB (H3.out.1.drew nq).inC s (.int .i64 (IntKind.i64.wrap (y - oc)))))
 obtain⟨v,hv⟩:∃v,IntKind.i64.wrap (y - oc)=v:=⟨_,rfl⟩
 rw[hv]at hR4 hk4
 clear cs' fs'
 try rw[hv]
 have H4:=Lib.hid (And.intro hR4 (And.intro hk4 hv))
 clear hR4 hk4 hv
 generalize (wq.drewN nq).setCell ⟨gc,s,none⟩ (.int .i64 v)=w4 at H4 ⊢
 have hst:stepR N (⟨4,oa,ob,oc⟩:OpX) C (T i)=(C.set s v,{T i with pc:=pc0+2}):=by
  unfold stepR
  have n1:¬(⟨4,oa,ob,oc⟩:OpX).k=1:=by show ¬(4:Int)=1;decide
  have n2:¬((⟨4,oa,ob,oc⟩:OpX).k=2\/(⟨4,oa,ob,oc⟩:OpX).k=3):=by show ¬((4:Int)=2\/(4:Int)=3);decide
  rw[if_neg n1,if_neg n2,if_pos rfl]
  have hp:pc0=0:=by have:=HX.out;have:=HOP.out.2.2.1;omega
  have hv:=H4.out.2.2
  rw[←HS.out.2.2]at hv
  simp only[HOP.out.2.2.1,Nat.add_sub_cancel,HS.out.1,hv,if_pos hp]
 have HE2:=Lib.hid (And.intro H4.out.2.1 hst)
 clear hst
 go_wp2_with (fail)
 try simp only[Exit.inBlock,Exit.then]
 refine bodyPost_ret (results_none rfl _ _ _) rfl ?_
 refine⟨rfl,⟨av,sv,?_⟩,HE2.out.1⟩
 rw[HE2.out.2]
 exact H4.out.1
end
section
variable {mb B n:Nat} {opv:Nat->Value} {C:List Int} {T:Nat->RT} {cv tv:Value} {av sv:Nat->Value} {w w':World}
theorem step4b_lone{i:Nat}{ops:List OpX}{oa ob oc:Int}(hx:(T i).pc≠1)(h:RefRep mb B n opv C T cv tv av sv w)(hi:i<n)(hn:n<=64)(hops:OpsB B w (opv i) ops)(hlen:ops.length<=65536)(hfit:FitT ops (T i))(hok:OkT C.length ops (T i))(hpc:(T i).pc≠0)(hop:ops[(T i).at']?=some (⟨4,oa,ob,oc⟩:OpX))(hC0:0<C.length)(hC1:C.length<=64):
 Calls Try.prog 40 #[.pointer (some ⟨mb,0,none⟩),.int .i64 i] w λe w'=>e=.returned (.tuple #[])/\RefPost mb B n opv (stepR C.length (⟨4,oa,ob,oc⟩:OpX) C (T i)).1 (upd' T i (stepR C.length (⟨4,oa,ob,oc⟩:OpX) C (T i)).2) cv tv w w':=by
 have HX:=Lib.hid hx
 clear hx
 obtain⟨g,Ct,rfl,hgB⟩:=h.thr (by omega)
 obtain⟨gc,Cc,rfl,hcB⟩:=h.str hC0
 obtain⟨N,hN⟩:∃N,C.length=N:=⟨_,rfl⟩
 have hmg:=h.mach_ne
 obtain⟨sp,cap,hopv,hrd⟩:=hops
 obtain⟨at0,hat0⟩:∃p,(T i).at'=p:=⟨_,rfl⟩
 obtain⟨pc0,hpc0⟩:∃p,(T i).pc=p+1:=⟨(T i).pc - 1,by omega⟩
 obtain⟨L,hL⟩:∃p,ops.length=p:=⟨_,rfl⟩
 rw[hat0]at hop
 obtain⟨go,off,rfl,hgo,c0',c1',c2',c3'⟩:=hrd at0 _ hop
 have c0:w.cell? ⟨go,off+at0*4,none⟩=some (.int .i64 4):=c0'
 have c1:w.cell? ⟨go,off+at0*4+1,none⟩=some (.int .i64 oa):=c1'
 have c2:w.cell? ⟨go,off+at0*4+2,none⟩=some (.int .i64 ob):=c2'
 have c3:w.cell? ⟨go,off+at0*4+3,none⟩=some (.int .i64 oc):=c3'
 clear c0' c1' c2' c3'
 have hlt:at0<L:=by rw[←hL];exact(List.getElem?_eq_some_iff.1 hop).1
 have hB:B<=w.heap.size:=Nat.le_trans h.lo (Nat.le_of_lt (zqa h.mach))
 obtain⟨H,hH⟩:∃H,w.heap.size=H:=⟨_,rfl⟩
 have m:w.cell? ⟨mb,1,none⟩=some (.slice (some ⟨g,0,none⟩) n Ct):=(zq0 (off:=1) h.mach).trans rfl
 have t3:w.cell? ⟨g,i*7+3,none⟩=some (.int .i64 (at0:Nat)):=by
  rw[(h.trow.cell hi (show 3<7 by decide)).1];simp only[thF];rw[hat0]
 have t0:w.cell? ⟨g,i*7,none⟩=some (.slice (some ⟨go,off,none⟩) L cap):=by
  have:=(h.trow.cell hi (show 0<7 by decide)).1
  exact this.trans (by show some (opv i)=_;rw[hopv,hL])
 have hsame:∀W,W=w.drewN 1\/W=(w.drewN 1).alloc (.cells #[.int .i64 0,.int .i64 0,.int .i64 0,.int .i64 0] 46)->∀b,b<H->W.heap[b]?=w.heap[b]?:=λW hW b hb=>by
  rcases hW with rfl |rfl
  · rfl
  · rw[zq8,if_neg (by show b≠w.heap.size;omega)];rfl
 have hmH:mb<H:=by rw[←hH];exact zqa h.mach
 have hgH:g<H:=by rw[←hH];exact(h.trow.lt (show(Value.slice (some ⟨g,0,none⟩) n Ct).ownBlock=some g from rfl)).2.2
 have hcH:gc<H:=by rw[←hH];exact(own_lt h.crow (show(Value.slice (some ⟨gc,0,none⟩) C.length Cc).ownBlock=some gc from rfl)).2.2
 have hfacts:∀W,W=w.drewN 1\/W=(w.drewN 1).alloc (.cells #[.int .i64 0,.int .i64 0,.int .i64 0,.int .i64 0] 46)->W.cell? ⟨mb,1,none⟩=some (.slice (some ⟨g,0,none⟩) n Ct)/\W.cell? ⟨g,i*7+3,none⟩=some (.int .i64 (at0:Nat))/\W.cell? ⟨g,i*7,none⟩=some (.slice (some ⟨go,off,none⟩) L cap)/\W.cell? ⟨go,off+at0*4,none⟩=some (.int .i64 4)/\W.cell? ⟨go,off+at0*4+1,none⟩=some (.int .i64 oa)/\W.cell? ⟨go,off+at0*4+2,none⟩=some (.int .i64 ob)/\W.cell? ⟨go,off+at0*4+3,none⟩=some (.int .i64 oc):=λW hW=>
  ⟨(zq4 (hsame W hW mb hmH)).trans m,(zq4 (hsame W hW g hgH)).trans t3,(zq4 (hsame W hW g hgH)).trans t0,(zq4 (hsame W hW go (by omega))).trans c0,(zq4 (hsame W hW go (by omega))).trans c1,(zq4 (hsame W hW go (by omega))).trans c2,(zq4 (hsame W hW go (by omega))).trans c3⟩
 have hi0:(0:Int)<=(i:Int):=by omega
 have hin:(i:Int)<(n:Int):=by omega
 have ha0:(0:Int)<=(at0:Int):=by omega
 have hal:(at0:Int)<(L:Int):=by omega
 rw[hN]at hok hC0 hC1 h ⊢
 have HF:=Lib.hid hfacts
 have HH:=Lib.hid (And.intro hH (And.intro hmH (And.intro hgH hcH)))
 have HALL:=Lib.hid (And.intro h (And.intro hi (And.intro hn (And.intro hlen (And.intro hfit (And.intro hok (And.intro hC0 (And.intro hC1 hN))))))))
 have HOP:=Lib.hid (And.intro hop (And.intro hat0 (And.intro hpc0 (And.intro hL (And.intro hlt hB)))))
 clear hfacts hsame hmH hgH hcH hH h hi hn hlen hfit hok hpc hC0 hC1 hN hop hat0 hpc0 hL hlt hB m t3 t0 c0 c1 c2 c3 hrd hopv
 go_enter Try.func40,Try.ntmps40
 go_wp2_with (fail)
 refine zq1h (k:=19) (s:=18) (W0:=w.drewN 1) (W1:=(w.drewN 1).alloc (.cells #[.int .i64 0,.int .i64 0,.int .i64 0,.int .i64 0] 46)) (by kernel_rfl) (by kernel_rfl) (by kernel_rfl) (by kernel_rfl) (by decide)
  [.pointer (some ⟨mb,0,none⟩),.pointer (some ⟨mb,0,none⟩),.pointer (some ⟨mb,1,none⟩),.slice (some ⟨g,0,none⟩) n Ct,.int .i64 i,.pointer (some ⟨g,i*7,none⟩),.pointer (some ⟨g,i*7,none⟩),.slice (some ⟨go,off,none⟩) L cap,.pointer (some ⟨mb,0,none⟩),.pointer (some ⟨mb,0,none⟩),.pointer (some ⟨mb,1,none⟩),.slice (some ⟨g,0,none⟩) n Ct,.int .i64 i,.pointer (some ⟨g,i*7,none⟩),.pointer (some ⟨g,i*7+3,none⟩),.int .i64 at0,.pointer (some ⟨go,off+at0*4,none⟩),.agg #[.int .i64 4,.int .i64 oa,.int .i64 ob,.int .i64 oc],.pointer (some ⟨H,0,none⟩)] rfl rfl ?_ ?_ ?_
 · intro jj oo hjj h18 hoo W hWW
   obtain⟨d1,d2,d3,d4,d5,d6,d7⟩:=HF.out W hWW
   clear hWW
   simp only[putv,dstOf,al_gl,al_g0,al_g1,al_ob,al_g2,List.set_cons_succ,List.set_cons_zero]
   obtain rfl |rfl |rfl |rfl |rfl |rfl |rfl |rfl |rfl |rfl |rfl |rfl |rfl |rfl |rfl |rfl |rfl |rfl:jj=0\/jj=1\/jj=2\/jj=3\/jj=4\/jj=5\/jj=6\/jj=7\/jj=8\/jj=9\/jj=10\/jj=11\/jj=12\/jj=13\/jj=14\/jj=15\/jj=16\/jj=17:=by omega
   all_goals(simp only[al_gl,al_g0,al_g1,al_oi]at hoo;subst hoo;refine .inl ?_)
   all_goals(simp only[execOp,Act.eval,al_gd,al_gl,al_g0,al_g1,al_od])
   all_goals(try go_simp)
 · intro oo hoo
   simp only[putv,dstOf,al_gl,al_g0,al_g1,al_ob,al_g2,List.set_cons_succ,List.set_cons_zero]
   simp only[al_gl,al_g0,al_g1,al_oi]at hoo
   subst hoo
   refine .inl ?_
   have hs0:(w.drewN 1).heap.size=H:=HH.out.1
   generalize w.drewN 1=W0 at hs0 ⊢
   simp only[execOp,Act.eval,al_gd,al_gl,al_g0,al_g1,al_od]
   go_simp
 simp only[putv,dstOf,al_gl,al_g0,al_g1,al_ob,al_g2,List.set_cons_succ,List.set_cons_zero]
 refine zq13 (i:=19) (by kernel_rfl) ?_
 simp only[wpOp,al_gl,al_g0,al_g1]
 rw[if_pos (by rfl)]
 refine .inl ?_
 have hnb:((w.drewN 1).alloc (.cells #[.int .i64 0,.int .i64 0,.int .i64 0,.int .i64 0] 46)).heap[H]?=some (.cells #[.int .i64 0,.int .i64 0,.int .i64 0,.int .i64 0] 46):=by rw[←HH.out.1];exact zqq (w.drewN 1) _
 have hold:∀b o,w.heap[b]?=some o->((w.drewN 1).alloc (.cells #[.int .i64 0,.int .i64 0,.int .i64 0,.int .i64 0] 46)).heap[b]?=some o:=λb o hb=>zqk (w:=w.drewN 1) hb
 have hsz:w.heap.size<=((w.drewN 1).alloc (.cells #[.int .i64 0,.int .i64 0,.int .i64 0,.int .i64 0] 46)).heap.size:=by rw[zqc];exact Nat.le_succ _
 have a0:=(zq0 (off:=0) hnb).trans rfl
 have a1:=(zq0 (off:=1) hnb).trans rfl
 have a2:=(zq0 (off:=2) hnb).trans rfl
 have a3:=(zq0 (off:=3) hnb).trans rfl
 have fz:∀off,((w.drewN 1).alloc (.cells #[.int .i64 0,.int .i64 0,.int .i64 0,.int .i64 0] 46)).frozen? ⟨H,off,none⟩=false:=λoff=>zqe hnb
 have f0:=fz 0
 have f1:=fz 1
 have f2:=fz 2
 have f3:=fz 3
 have HNB:=Lib.hid (And.intro hnb (And.intro hold hsz))
 clear hnb fz hold hsz
 generalize (w.drewN 1).alloc (.cells #[.int .i64 0,.int .i64 0,.int .i64 0,.int .i64 0] 46)=w1 at a0 a1 a2 a3 f0 f1 f2 f3 HNB ⊢
 go_simp
 refine zq12 (by kernel_rfl) ?_
 clear a0 a1 a2 a3 f0 f1 f2 f3 HF
 obtain⟨w2,hw2⟩:∃w2,((((w1.setCell ⟨H,0,none⟩ (.int .i64 4)).setCell ⟨H,1,none⟩ (.int .i64 oa)).setCell ⟨H,2,none⟩ (.int .i64 ob)).setCell ⟨H,3,none⟩ (.int .i64 oc))=w2:=⟨_,rfl⟩
 have hb2:w2.heap[H]?=some (.cells #[.int .i64 4,.int .i64 oa,.int .i64 ob,.int .i64 oc] 46):=by
  rw[←hw2]
  exact(zqb _ _ 3 _ (zqb _ _ 2 _ (zqb _ _ 1 _ (zqb w1 H 0 _ HNB.out.1)))).trans rfl
 have ho2:∀b o,w.heap[b]?=some o->w2.heap[b]?=some o:=λb o hb=>by
  have hbH:b≠H:=by have:=zqa hb;have:=HH.out.1;omega
  rw[←hw2,zq3 _ _ _ _ hbH,zq3 _ _ _ _ hbH,zq3 _ _ _ _ hbH,zq3 _ _ _ _ hbH]
  exact HNB.out.2.1 b o hb
 have hs2:w.heap.size<=w2.heap.size:=by
  rw[←hw2,zqh,zqh,zqh,zqh]
  exact HNB.out.2.2
 rw[hw2]
 clear hw2 HNB
 have hR2:=HALL.out.1.of ho2
 have hk2:KeepB B w w2:=⟨hs2,λb hb=>by
  have hlt:b<w.heap.size:=Nat.lt_of_lt_of_le hb HOP.out.2.2.2.2.2
  have e:w.heap[b]?=some w.heap[b]:=Array.getElem?_eq_getElem hlt
  rw[e];exact ho2 b _ e,λb c T2 f hb _=>ho2 b _ hb⟩
 have hpb:(pc0:Int)<=200:=by
  obtain⟨op',e,hg,o1,o2,o4,o5⟩:=HALL.out.2.2.2.2.2.1.stand (by rw[HOP.out.2.2.1];exact Nat.succ_ne_zero _)
  rw[HOP.out.2.1,HOP.out.1]at e
  obtain rfl:=Option.some.inj e
  rw[HOP.out.2.2.1]at o1 o2 o4 o5
  have hN:=HALL.out.2.2.2.2.2.2.2.1
  first|(have:=o1 rfl;omega)|(have:=o2 (.inl rfl);omega)|(have:=o2 (.inr rfl);omega)|(have:=o4 rfl;omega)|(have:=(o5 rfl).1;omega)
 have hp0:(0:Int)<=(pc0:Int):=by omega
 have m:w2.cell? ⟨mb,1,none⟩=some (.slice (some ⟨g,0,none⟩) n Ct):=(zq0 (off:=1) hR2.mach).trans rfl
 have mc:w2.cell? ⟨mb,0,none⟩=some (.slice (some ⟨gc,0,none⟩) N Cc):=(zq0 (off:=0) hR2.mach).trans rfl
 have t4:w2.cell? ⟨g,i*7+4,none⟩=some (.int .i64 ((pc0:Int)+1)):=by
  rw[(hR2.trow.cell HALL.out.2.1 (show 4<7 by decide)).1];simp only[thF];rw[HOP.out.2.2.1];rfl
 have f4:=(hR2.trow.cell HALL.out.2.1 (show 4<7 by decide)).2
 have HR:=Lib.hid (And.intro hR2 (And.intro hk2 hb2))
 clear hR2 hk2 hb2 ho2 hs2
 go_upto_region 4 with(fail)
 have hR3:=HR.out.1.setN (j:=4) HALL.out.2.1 (.inr (.inl rfl)) (x:=.int .i64 ((pc0:Int)+2)) (t':={T i with pc:=pc0+2}) (by simp only[thF,upd'_same];rfl) rfl rfl (.inr rfl) (.inl rfl) (.inr rfl)
 have hk3:=HR.out.2.1.trans (KeepB.set hgB HR.out.1.inT (i*7+4) (.int .i64 ((pc0:Int)+2)))
 have hb3:(w2.setCell ⟨g,i*7+4,none⟩ (.int .i64 ((pc0:Int)+2))).heap[H]?=some (.cells #[.int .i64 4,.int .i64 oa,.int .i64 ob,.int .i64 oc] 46):=(zq3 _ _ _ _ (show H≠g by have:=HH.out.2.2.1;omega)).trans HR.out.2.2
 have H3:=Lib.hid (And.intro hR3 (And.intro hk3 hb3))
 clear m mc t4 f4 HR hR3 hk3 hb3
 generalize w2.setCell ⟨g,i*7+4,none⟩ (.int .i64 ((pc0:Int)+2))=w3 at H3 ⊢
 have m:w3.cell? ⟨mb,1,none⟩=some (.slice (some ⟨g,0,none⟩) n Ct):=(zq0 (off:=1) H3.out.1.mach).trans rfl
 have mc:w3.cell? ⟨mb,0,none⟩=some (.slice (some ⟨gc,0,none⟩) N Cc):=(zq0 (off:=0) H3.out.1.mach).trans rfl
 have b0:w3.cell? ⟨H,0,none⟩=some (.int .i64 4):=(zq0 (off:=0) H3.out.2.2).trans rfl
 have b1:w3.cell? ⟨H,1,none⟩=some (.int .i64 oa):=(zq0 (off:=1) H3.out.2.2).trans rfl
 have b2:w3.cell? ⟨H,2,none⟩=some (.int .i64 ob):=(zq0 (off:=2) H3.out.2.2).trans rfl
 have b3:w3.cell? ⟨H,3,none⟩=some (.int .i64 oc):=(zq0 (off:=3) H3.out.2.2).trans rfl
 obtain⟨s,hs⟩:∃s,idx ob N=s:=⟨_,rfl⟩
 have hsN:s<N:=by rw[←hs];exact idx_lt ob HALL.out.2.2.2.2.2.2.1
 obtain⟨cs,fs⟩:=H3.out.1.strCell' HALL.out.2.2.2.2.2.2.2.2 hsN
 obtain⟨y,hy⟩:∃y,C.getD s 0=y:=⟨_,rfl⟩
 rw[hy]at cs
 have hsN':(s:Int)<(N:Int):=by omega
 have hs0:(0:Int)<=(s:Int):=by omega
 have hq:((pc0:Int)==0)=false:=by have:=HX.out;have:=HOP.out.2.2.1;simp;omega
 have hAt:=at_lone' ob HALL.out.2.2.2.2.2.2.1 HALL.out.2.2.2.2.2.2.2.1 w3
 rw[hs]at hAt
 have HS:=Lib.hid (And.intro hs (And.intro hsN hy))
 have HAT:=Lib.hid hAt
 clear hs hsN hy hAt
 go_wp2_with (fail)
 refine Calls.mono HAT.out ?_
 rintro e wq ⟨rfl,rfl⟩
 go_wp2_with (fail)
 refine zq1i (k:=16) (C:=λw'=>∃n,w'=wq.drewN n) (by kernel_rfl) (by kernel_rfl) (by kernel_rfl) (by kernel_rfl) (by kernel_rfl) ⟨1,rfl⟩ ?_
 simp only[List.take_succ_cons,List.take_zero]
 repeat (quiet_step (fail))
 refine wpQuiet_nil ?_
 rintro w4 ⟨nq,rfl⟩
 refine zq13 (i:=16) (by kernel_rfl) ?_
 simp only[wpOp,al_gl,al_g0,al_g1]
 rw[if_pos (by rfl)]
 refine .inl ?_
 have fs':(wq.drewN nq).frozen? ⟨gc,s,none⟩=false:=fs
 have cs':(wq.drewN nq).cell? ⟨gc,s,none⟩=some (.int .i64 y):=cs
 clear cs fs m mc b0 b1 b2 b3
 go_simp
 refine zq12 (by kernel_rfl) ?_
 have hR4:=(H3.out.1.drew nq).setC' HALL.out.2.2.2.2.2.2.2.2 HS.out.2.1 (IntKind.i64.wrap (y+oc))
 have hk4:=H3.out.2.1.trans ((KeepB.drew nq).trans (KeepB.set (w:=wq.drewN nq) hcB (H3.out.1.drew nq).inC s (.int .i64 (IntKind.i64.wrap (y+oc)))))
 obtain⟨v,hv⟩:∃v,IntKind.i64.wrap (y+oc)=v:=⟨_,rfl⟩
 rw[hv]at hR4 hk4
 clear cs' fs'
 try rw[hv]
 have H4:=Lib.hid (And.intro hR4 (And.intro hk4 hv))
 clear hR4 hk4 hv
 generalize (wq.drewN nq).setCell ⟨gc,s,none⟩ (.int .i64 v)=w4 at H4 ⊢
 have m:w4.cell? ⟨mb,1,none⟩=some (.slice (some ⟨g,0,none⟩) n Ct):=(zq0 (off:=1) H4.out.1.mach).trans rfl
 have mc:w4.cell? ⟨mb,0,none⟩=some (.slice (some ⟨gc,0,none⟩) N Cc):=(zq0 (off:=0) H4.out.1.mach).trans rfl
 have he:=end_lone (i:=i) (a:=⟨true,0,[]⟩) H4.out.1 HALL.out.2.1 HALL.out.2.2.1 (by rw[upd'_same];show(T i).ans.length<=_;rw[HALL.out.2.2.2.2.1.ans];have:=HALL.out.2.2.2.2.1.le;have:=HALL.out.2.2.2.1;omega) (by rw[upd'_same];show(T i).at'<=_;have:=HALL.out.2.2.2.2.1.le;have:=HALL.out.2.2.2.1;omega)
 have hst:stepR N (⟨4,oa,ob,oc⟩:OpX) C (T i)=(C.set s v,endR {T i with pc:=pc0+2} ⟨true,0,[]⟩):=by
  unfold stepR
  have n1:¬(⟨4,oa,ob,oc⟩:OpX).k=1:=by show ¬(4:Int)=1;decide
  have n2:¬((⟨4,oa,ob,oc⟩:OpX).k=2\/(⟨4,oa,ob,oc⟩:OpX).k=3):=by show ¬((4:Int)=2\/(4:Int)=3);decide
  rw[if_neg n1,if_neg n2,if_pos rfl]
  have hp:¬pc0=0:=by have:=HX.out;have:=HOP.out.2.2.1;omega
  have hv:=H4.out.2.2
  rw[←HS.out.2.2]at hv
  simp only[HOP.out.2.2.1,Nat.add_sub_cancel,HS.out.1,hv,if_neg hp]
 have HE:=Lib.hid he
 have HE2:=Lib.hid (And.intro H4.out.2.1 hst)
 clear he hst
 go_wp2_with (fail)
 refine Calls.mono HE.out ?_
 rintro e w5 ⟨rfl,⟨av',hR5⟩,hk5⟩
 go_wp2_with (fail)
 go_end0
 refine⟨rfl,⟨av',sv,?_⟩,HE2.out.1.trans hk5⟩
 rw[HE2.out.2]
 rw[zq18,upd'_same]at hR5
 exact hR5
end
end Go.Proofs
