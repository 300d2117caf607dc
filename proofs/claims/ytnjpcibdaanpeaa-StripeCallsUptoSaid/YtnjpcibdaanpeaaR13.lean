/- YtnjpcibdaanpeaaSCalls11: part 13 of the proof (the texts behind it, in order). -/
import Derived.Test.YtnjpcibdaanpeaaR12
set_option linter.unusedSimpArgs false
set_option linter.unusedVariables false
set_option linter.unusedSectionVars false
set_option linter.unnecessarySimpa false
set_option maxHeartbeats 4000000
set_option maxRecDepth 100000
namespace Go.Proofs
open Go Go.Conc Go.RowKit Go.Car
section
variable {mb B n:Nat} {opv:Nat->Value} {C:List Int} {T:Nat->RT} {cv tv:Value} {av sv:Nat->Value} {w w':World}
theorem step2e_lone{i:Nat}{ops:List OpX}{oa ob oc:Int}(hx:(T i).pc=C.length)(h:RefRep mb B n opv C T cv tv av sv w)(hi:i<n)(hn:n<=64)(hops:OpsB B w (opv i) ops)(hlen:ops.length<=65536)(hfit:FitT ops (T i))(hok:OkT C.length ops (T i))(hpc:(T i).pc≠0)(hop:ops[(T i).at']?=some (⟨2,oa,ob,oc⟩:OpX))(hC0:0<C.length)(hC1:C.length<=64):
 Calls Try.prog 40 #[.pointer (some ⟨mb,0,none⟩),.int .i64 i] w λe w'=>e=.returned (.tuple #[])/\zq1a mb B n opv (stepR C.length (⟨2,oa,ob,oc⟩:OpX) C (T i)).1 (upd' T i (stepR C.length (⟨2,oa,ob,oc⟩:OpX) C (T i)).2) cv tv w w':=by
 have HX:=Lib.hid hx;clear hx;refine zq28 h hi hn hops hlen hfit hok hpc hop hC0 hC1 ?_;clear h hops hlen hfit hok hpc hop hC0 hC1;intro g Ct gc Cc N at0 pc0 L H w3 x hcv htv H3 HALL HOP HH hgB hcB hmg hpb m mc b0 b1 b2 b3;subst hcv htv;rw[HALL.out.2.2.2.2.2.2.2.2];have hp0:(0:Int)<=(pc0:Int):=by omega
 have hi0:(0:Int)<=(i:Int):=by omega
 have hin:(i:Int)<(n:Int):=by omega
 clear hi hn;obtain⟨u,hu⟩:∃c,hdC (stpT 4)=c:=⟨_,rfl⟩;obtain⟨u5,hu5⟩:∃c,stpT 5=c:=⟨_,rfl⟩;have eu:=hu;have eu5:=hu5;rw[hu,hu5];simp only[stpT,tlN,hdC,Try.f40,al_od]at eu eu5;subst eu eu5;clear hu hu5;obtain⟨sm,hsm⟩:∃y,(T i).sum=y:=⟨_,rfl⟩;obtain⟨y,hy⟩:∃y,C.getD pc0 0=y:=⟨_,rfl⟩;have hkN:pc0<N:=by
  obtain⟨op',e,hg,o1,o2,o4,o5⟩:=HALL.out.2.2.2.2.2.1.stand (by rw[HOP.out.2.2.1];exact Nat.succ_ne_zero _);rw[HOP.out.2.1,HOP.out.1]at e;obtain rfl:=Option.some.inj e;have:=o2 (.inl rfl);have:=HOP.out.2.2.1;omega
 have t5:w3.cell? ⟨g,i*7+5,none⟩=some (.int .i64 sm):=by
  rw[(H3.out.1.trow.cell HALL.out.2.1 (show 5<7 by decide)).1];simp only[thF,upd'_same];rw[hsm]
 have f5:=(H3.out.1.trow.cell HALL.out.2.1 (show 5<7 by decide)).2;obtain⟨ck,fk⟩:=H3.out.1.strCell' HALL.out.2.2.2.2.2.2.2.2 hkN;rw[hy]at ck;have hkN':(pc0:Int)<(N:Int):=by omega
 have hN64:(N:Int)<=64:=by have:=HALL.out.2.2.2.2.2.2.2.1;omega
 have hq:((pc0:Int)==(N:Int) - 1)=true:=by have:=HX.out;have:=HOP.out.2.2.1;have:=HALL.out.2.2.2.2.2.2.2.2;simp;omega
 have HS:=Lib.hid (And.intro hsm (And.intro hy hkN));clear hsm hy hkN
 go_wp2_with (fail)
 refine zq23 (k:=23) (C:=λw'=>∃n,w'=w3.drewN n) (by kernel_rfl) (by kernel_rfl) (by kernel_rfl) (by kernel_rfl) (by kernel_rfl) ⟨1,rfl⟩ ?_;simp only[List.take_succ_cons,List.take_zero]
 repeat (quiet_step (fail))
 refine wpQuiet_nil ?_;rintro w' ⟨nq,rfl⟩;refine zq19 (i:=23) (by kernel_rfl) ?_;simp only[wpOp,al_gl,al_g0,al_g1];rw[if_pos (by rfl)];refine .inl ?_;have t5':(w3.drewN nq).cell? ⟨g,i*7+5,none⟩=some (.int .i64 sm):=t5;have f5':(w3.drewN nq).frozen? ⟨g,i*7+5,none⟩=false:=f5;clear t5 f5 ck fk m mc b0 b1 b2 b3;go_simp;refine zq18 (by kernel_rfl) ?_;have hR4:=(H3.out.1.drew nq).setN (j:=5) HALL.out.2.1 (.inr (.inr rfl)) (x:=.int .i64 (IntKind.i64.wrap (sm+y))) (t':={T i with pc:=pc0+2,sum:=IntKind.i64.wrap (sm+y)}) (by simp only[thF,upd'_same]) (by rw[upd'_same]) (by rw[upd'_same]) (.inr (by rw[upd'_same])) (.inr (by rw[upd'_same])) (.inl rfl);rw[zq17]at hR4;have hk4:=H3.out.2.1.trans ((KeepB.drew nq).trans (KeepB.set (w:=w3.drewN nq) hgB (H3.out.1.drew nq).inT (i*7+5) (.int .i64 (IntKind.i64.wrap (sm+y)))));have hb4:((w3.drewN nq).setCell ⟨g,i*7+5,none⟩ (.int .i64 (IntKind.i64.wrap (sm+y)))).heap[H]?=some (.cells #[.int .i64 2,.int .i64 oa,.int .i64 ob,.int .i64 oc] 46):=(zq4 _ _ _ _ (show H≠g by have:=HH.out.2.2.1;omega)).trans H3.out.2.2;obtain⟨v,hv⟩:∃v,IntKind.i64.wrap (sm+y)=v:=⟨_,rfl⟩;rw[hv]at hR4 hk4 hb4;clear t5' f5'
 try rw[hv]
 have H4:=Lib.hid (And.intro hR4 (And.intro hk4 (And.intro hb4 hv)));clear hR4 hk4 hb4 hv;generalize (w3.drewN nq).setCell ⟨g,i*7+5,none⟩ (.int .i64 v)=w4 at H4 ⊢;have m:w4.cell? ⟨mb,1,none⟩=some (.slice (some ⟨g,0,none⟩) n Ct):=(zq0 (off:=1) H4.out.1.mach).trans rfl;have mc:w4.cell? ⟨mb,0,none⟩=some (.slice (some ⟨gc,0,none⟩) N Cc):=(zq0 (off:=0) H4.out.1.mach).trans rfl;have b0:w4.cell? ⟨H,0,none⟩=some (.int .i64 2):=(zq0 (off:=0) H4.out.2.2.1).trans rfl;have t5:w4.cell? ⟨g,i*7+5,none⟩=some (.int .i64 v):=by
  rw[(H4.out.1.trow.cell HALL.out.2.1 (show 5<7 by decide)).1];simp only[thF,upd'_same]
 have he:=zq2t (i:=i) (a:=⟨true,v,[]⟩) H4.out.1 HALL.out.2.1 HALL.out.2.2.1 (by rw[upd'_same];show(T i).ans.length<=_;rw[HALL.out.2.2.2.2.1.ans];have:=HALL.out.2.2.2.2.1.le;have:=HALL.out.2.2.2.1;omega) (by rw[upd'_same];show(T i).at'<=_;have:=HALL.out.2.2.2.2.1.le;have:=HALL.out.2.2.2.1;omega);have hst:stepR N (⟨2,oa,ob,oc⟩:OpX) C (T i)=(C,endR {T i with pc:=pc0+2,sum:=v} ⟨true,v,[]⟩):=by
  unfold stepR;have hp:=HX.out;rw[HALL.out.2.2.2.2.2.2.2.2,HOP.out.2.2.1]at hp;have h4:wrap64 (sm+y)=v:=by
   have:=H4.out.2.2.2;rw[IntKind.wrap_i64]at this;rw[←this];simp only[wrap64]<;>omega
  have n1:¬(⟨2,oa,ob,oc⟩:OpX).k=1:=by show ¬(2:Int)=1;decide
  have p2:(⟨2,oa,ob,oc⟩:OpX).k=2\/(⟨2,oa,ob,oc⟩:OpX).k=3:=.inl rfl;have p3:¬(⟨2,oa,ob,oc⟩:OpX).k=3:=by show ¬(2:Int)=3;decide
  rw[if_neg n1,if_pos p2];simp only[if_neg p3,HOP.out.2.2.1,Nat.add_sub_cancel];rw[HS.out.1,HS.out.2.1,h4];rw[if_pos hp]
  try rfl
 have HE:=Lib.hid he;have HE2:=Lib.hid (And.intro H4.out.2.1 hst);clear he hst
 go_wp2_with (fail)
 refine Calls.mono HE.out ?_;rintro e w5 ⟨rfl,⟨av',hR5⟩,hk5⟩
 go_wp2_with (fail)
 go_end0
 refine⟨rfl,⟨av',sv,?_⟩,HE2.out.1.trans hk5⟩;rw[HE2.out.2];rw[zq17,upd'_same]at hR5;exact hR5
end
section
variable {mb B n:Nat} {opv:Nat->Value} {C:List Int} {T:Nat->RT} {cv tv:Value} {av sv:Nat->Value} {w w':World}
theorem step2m_lone{i:Nat}{ops:List OpX}{oa ob oc:Int}(hx:(T i).pc≠C.length)(h:RefRep mb B n opv C T cv tv av sv w)(hi:i<n)(hn:n<=64)(hops:OpsB B w (opv i) ops)(hlen:ops.length<=65536)(hfit:FitT ops (T i))(hok:OkT C.length ops (T i))(hpc:(T i).pc≠0)(hop:ops[(T i).at']?=some (⟨2,oa,ob,oc⟩:OpX))(hC0:0<C.length)(hC1:C.length<=64):
 Calls Try.prog 40 #[.pointer (some ⟨mb,0,none⟩),.int .i64 i] w λe w'=>e=.returned (.tuple #[])/\zq1a mb B n opv (stepR C.length (⟨2,oa,ob,oc⟩:OpX) C (T i)).1 (upd' T i (stepR C.length (⟨2,oa,ob,oc⟩:OpX) C (T i)).2) cv tv w w':=by
 have HX:=Lib.hid hx;clear hx;refine zq28 h hi hn hops hlen hfit hok hpc hop hC0 hC1 ?_;clear h hops hlen hfit hok hpc hop hC0 hC1;intro g Ct gc Cc N at0 pc0 L H w3 x hcv htv H3 HALL HOP HH hgB hcB hmg hpb m mc b0 b1 b2 b3;subst hcv htv;rw[HALL.out.2.2.2.2.2.2.2.2];have hp0:(0:Int)<=(pc0:Int):=by omega
 have hi0:(0:Int)<=(i:Int):=by omega
 have hin:(i:Int)<(n:Int):=by omega
 clear hi hn;obtain⟨u,hu⟩:∃c,hdC (stpT 4)=c:=⟨_,rfl⟩;obtain⟨u5,hu5⟩:∃c,stpT 5=c:=⟨_,rfl⟩;have eu:=hu;have eu5:=hu5;rw[hu,hu5];simp only[stpT,tlN,hdC,Try.f40,al_od]at eu eu5;subst eu eu5;clear hu hu5;obtain⟨sm,hsm⟩:∃y,(T i).sum=y:=⟨_,rfl⟩;obtain⟨y,hy⟩:∃y,C.getD pc0 0=y:=⟨_,rfl⟩;have hkN:pc0<N:=by
  obtain⟨op',e,hg,o1,o2,o4,o5⟩:=HALL.out.2.2.2.2.2.1.stand (by rw[HOP.out.2.2.1];exact Nat.succ_ne_zero _);rw[HOP.out.2.1,HOP.out.1]at e;obtain rfl:=Option.some.inj e;have:=o2 (.inl rfl);have:=HOP.out.2.2.1;omega
 have t5:w3.cell? ⟨g,i*7+5,none⟩=some (.int .i64 sm):=by
  rw[(H3.out.1.trow.cell HALL.out.2.1 (show 5<7 by decide)).1];simp only[thF,upd'_same];rw[hsm]
 have f5:=(H3.out.1.trow.cell HALL.out.2.1 (show 5<7 by decide)).2;obtain⟨ck,fk⟩:=H3.out.1.strCell' HALL.out.2.2.2.2.2.2.2.2 hkN;rw[hy]at ck;have hkN':(pc0:Int)<(N:Int):=by omega
 have hN64:(N:Int)<=64:=by have:=HALL.out.2.2.2.2.2.2.2.1;omega
 have hq:((pc0:Int)==(N:Int) - 1)=false:=by have:=HX.out;have:=HOP.out.2.2.1;have:=HALL.out.2.2.2.2.2.2.2.2;simp;omega
 have HS:=Lib.hid (And.intro hsm (And.intro hy hkN));clear hsm hy hkN
 go_wp2_with (fail)
 refine zq23 (k:=23) (C:=λw'=>∃n,w'=w3.drewN n) (by kernel_rfl) (by kernel_rfl) (by kernel_rfl) (by kernel_rfl) (by kernel_rfl) ⟨1,rfl⟩ ?_;simp only[List.take_succ_cons,List.take_zero]
 repeat (quiet_step (fail))
 refine wpQuiet_nil ?_;rintro w' ⟨nq,rfl⟩;refine zq19 (i:=23) (by kernel_rfl) ?_;simp only[wpOp,al_gl,al_g0,al_g1];rw[if_pos (by rfl)];refine .inl ?_;have t5':(w3.drewN nq).cell? ⟨g,i*7+5,none⟩=some (.int .i64 sm):=t5;have f5':(w3.drewN nq).frozen? ⟨g,i*7+5,none⟩=false:=f5;clear t5 f5 ck fk m mc b0 b1 b2 b3;go_simp;refine zq18 (by kernel_rfl) ?_;have hR4:=(H3.out.1.drew nq).setN (j:=5) HALL.out.2.1 (.inr (.inr rfl)) (x:=.int .i64 (IntKind.i64.wrap (sm+y))) (t':={T i with pc:=pc0+2,sum:=IntKind.i64.wrap (sm+y)}) (by simp only[thF,upd'_same]) (by rw[upd'_same]) (by rw[upd'_same]) (.inr (by rw[upd'_same])) (.inr (by rw[upd'_same])) (.inl rfl);rw[zq17]at hR4;have hk4:=H3.out.2.1.trans ((KeepB.drew nq).trans (KeepB.set (w:=w3.drewN nq) hgB (H3.out.1.drew nq).inT (i*7+5) (.int .i64 (IntKind.i64.wrap (sm+y)))));have hb4:((w3.drewN nq).setCell ⟨g,i*7+5,none⟩ (.int .i64 (IntKind.i64.wrap (sm+y)))).heap[H]?=some (.cells #[.int .i64 2,.int .i64 oa,.int .i64 ob,.int .i64 oc] 46):=(zq4 _ _ _ _ (show H≠g by have:=HH.out.2.2.1;omega)).trans H3.out.2.2;obtain⟨v,hv⟩:∃v,IntKind.i64.wrap (sm+y)=v:=⟨_,rfl⟩;rw[hv]at hR4 hk4 hb4;clear t5' f5'
 try rw[hv]
 have H4:=Lib.hid (And.intro hR4 (And.intro hk4 (And.intro hb4 hv)));clear hR4 hk4 hb4 hv;generalize (w3.drewN nq).setCell ⟨g,i*7+5,none⟩ (.int .i64 v)=w4 at H4 ⊢;have m:w4.cell? ⟨mb,1,none⟩=some (.slice (some ⟨g,0,none⟩) n Ct):=(zq0 (off:=1) H4.out.1.mach).trans rfl;have mc:w4.cell? ⟨mb,0,none⟩=some (.slice (some ⟨gc,0,none⟩) N Cc):=(zq0 (off:=0) H4.out.1.mach).trans rfl;have b0:w4.cell? ⟨H,0,none⟩=some (.int .i64 2):=(zq0 (off:=0) H4.out.2.2.1).trans rfl;have t5:w4.cell? ⟨g,i*7+5,none⟩=some (.int .i64 v):=by
  rw[(H4.out.1.trow.cell HALL.out.2.1 (show 5<7 by decide)).1];simp only[thF,upd'_same]
 have hst:stepR N (⟨2,oa,ob,oc⟩:OpX) C (T i)=(C,{T i with pc:=pc0+2,sum:=v}):=by
  unfold stepR;have hp:=HX.out;rw[HALL.out.2.2.2.2.2.2.2.2,HOP.out.2.2.1]at hp;have h4:wrap64 (sm+y)=v:=by
   have:=H4.out.2.2.2;rw[IntKind.wrap_i64]at this;rw[←this];simp only[wrap64]<;>omega
  have n1:¬(⟨2,oa,ob,oc⟩:OpX).k=1:=by show ¬(2:Int)=1;decide
  have p2:(⟨2,oa,ob,oc⟩:OpX).k=2\/(⟨2,oa,ob,oc⟩:OpX).k=3:=.inl rfl;have p3:¬(⟨2,oa,ob,oc⟩:OpX).k=3:=by show ¬(2:Int)=3;decide
  rw[if_neg n1,if_pos p2];simp only[if_neg p3,HOP.out.2.2.1,Nat.add_sub_cancel];rw[HS.out.1,HS.out.2.1,h4];rw[if_neg hp]
  try rfl
 have HE2:=Lib.hid (And.intro H4.out.2.1 hst);clear hst
 go_wp2_with (fail)
 go_end0
 refine⟨rfl,⟨av,sv,?_⟩,HE2.out.1⟩;rw[HE2.out.2];exact H4.out.1
end
section
variable {mb B n:Nat} {opv:Nat->Value} {C:List Int} {T:Nat->RT} {cv tv:Value} {av sv:Nat->Value} {w w':World}
theorem step3e_lone{i:Nat}{ops:List OpX}{oa ob oc:Int}(hx:(T i).pc=C.length)(h:RefRep mb B n opv C T cv tv av sv w)(hi:i<n)(hn:n<=64)(hops:OpsB B w (opv i) ops)(hlen:ops.length<=65536)(hfit:FitT ops (T i))(hok:OkT C.length ops (T i))(hpc:(T i).pc≠0)(hop:ops[(T i).at']?=some (⟨3,oa,ob,oc⟩:OpX))(hC0:0<C.length)(hC1:C.length<=64):
 Calls Try.prog 40 #[.pointer (some ⟨mb,0,none⟩),.int .i64 i] w λe w'=>e=.returned (.tuple #[])/\zq1a mb B n opv (stepR C.length (⟨3,oa,ob,oc⟩:OpX) C (T i)).1 (upd' T i (stepR C.length (⟨3,oa,ob,oc⟩:OpX) C (T i)).2) cv tv w w':=by
 have HX:=Lib.hid hx;clear hx;refine zq28 h hi hn hops hlen hfit hok hpc hop hC0 hC1 ?_;clear h hops hlen hfit hok hpc hop hC0 hC1;intro g Ct gc Cc N at0 pc0 L H w3 x hcv htv H3 HALL HOP HH hgB hcB hmg hpb m mc b0 b1 b2 b3;subst hcv htv;rw[HALL.out.2.2.2.2.2.2.2.2];have hp0:(0:Int)<=(pc0:Int):=by omega
 have hi0:(0:Int)<=(i:Int):=by omega
 have hin:(i:Int)<(n:Int):=by omega
 clear hi hn;obtain⟨u,hu⟩:∃c,hdC (stpT 4)=c:=⟨_,rfl⟩;obtain⟨u5,hu5⟩:∃c,stpT 5=c:=⟨_,rfl⟩;have eu:=hu;have eu5:=hu5;rw[hu,hu5];simp only[stpT,tlN,hdC,Try.f40,al_od]at eu eu5;subst eu eu5;clear hu hu5;obtain⟨sm,hsm⟩:∃y,(T i).sum=y:=⟨_,rfl⟩;obtain⟨y,hy⟩:∃y,C.getD pc0 0=y:=⟨_,rfl⟩;have hkN:pc0<N:=by
  obtain⟨op',e,hg,o1,o2,o4,o5⟩:=HALL.out.2.2.2.2.2.1.stand (by rw[HOP.out.2.2.1];exact Nat.succ_ne_zero _);rw[HOP.out.2.1,HOP.out.1]at e;obtain rfl:=Option.some.inj e;have:=o2 (.inr rfl);have:=HOP.out.2.2.1;omega
 have t5:w3.cell? ⟨g,i*7+5,none⟩=some (.int .i64 sm):=by
  rw[(H3.out.1.trow.cell HALL.out.2.1 (show 5<7 by decide)).1];simp only[thF,upd'_same];rw[hsm]
 have f5:=(H3.out.1.trow.cell HALL.out.2.1 (show 5<7 by decide)).2;obtain⟨ck,fk⟩:=H3.out.1.strCell' HALL.out.2.2.2.2.2.2.2.2 hkN;rw[hy]at ck;have hkN':(pc0:Int)<(N:Int):=by omega
 have hN64:(N:Int)<=64:=by have:=HALL.out.2.2.2.2.2.2.2.1;omega
 have hq:((pc0:Int)==(N:Int) - 1)=true:=by have:=HX.out;have:=HOP.out.2.2.1;have:=HALL.out.2.2.2.2.2.2.2.2;simp;omega
 have HS:=Lib.hid (And.intro hsm (And.intro hy hkN));clear hsm hy hkN
 go_wp2_with (fail)
 refine zq23 (k:=23) (C:=λw'=>∃n,w'=w3.drewN n) (by kernel_rfl) (by kernel_rfl) (by kernel_rfl) (by kernel_rfl) (by kernel_rfl) ⟨1,rfl⟩ ?_;simp only[List.take_succ_cons,List.take_zero]
 repeat (quiet_step (fail))
 refine wpQuiet_nil ?_;rintro w' ⟨nq,rfl⟩;refine zq19 (i:=23) (by kernel_rfl) ?_;simp only[wpOp,al_gl,al_g0,al_g1];rw[if_pos (by rfl)];refine .inl ?_;have t5':(w3.drewN nq).cell? ⟨g,i*7+5,none⟩=some (.int .i64 sm):=t5;have f5':(w3.drewN nq).frozen? ⟨g,i*7+5,none⟩=false:=f5;clear t5 f5 ck fk m mc b0 b1 b2 b3;go_simp;refine zq18 (by kernel_rfl) ?_;have hR4:=(H3.out.1.drew nq).setN (j:=5) HALL.out.2.1 (.inr (.inr rfl)) (x:=.int .i64 (IntKind.i64.wrap (sm+y))) (t':={T i with pc:=pc0+2,sum:=IntKind.i64.wrap (sm+y)}) (by simp only[thF,upd'_same]) (by rw[upd'_same]) (by rw[upd'_same]) (.inr (by rw[upd'_same])) (.inr (by rw[upd'_same])) (.inl rfl);rw[zq17]at hR4;have hk4:=H3.out.2.1.trans ((KeepB.drew nq).trans (KeepB.set (w:=w3.drewN nq) hgB (H3.out.1.drew nq).inT (i*7+5) (.int .i64 (IntKind.i64.wrap (sm+y)))));have hb4:((w3.drewN nq).setCell ⟨g,i*7+5,none⟩ (.int .i64 (IntKind.i64.wrap (sm+y)))).heap[H]?=some (.cells #[.int .i64 3,.int .i64 oa,.int .i64 ob,.int .i64 oc] 46):=(zq4 _ _ _ _ (show H≠g by have:=HH.out.2.2.1;omega)).trans H3.out.2.2;obtain⟨v,hv⟩:∃v,IntKind.i64.wrap (sm+y)=v:=⟨_,rfl⟩;rw[hv]at hR4 hk4 hb4;clear t5' f5'
 try rw[hv]
 have H4:=Lib.hid (And.intro hR4 (And.intro hk4 (And.intro hb4 hv)));clear hR4 hk4 hb4 hv;generalize (w3.drewN nq).setCell ⟨g,i*7+5,none⟩ (.int .i64 v)=w4 at H4 ⊢;have m:w4.cell? ⟨mb,1,none⟩=some (.slice (some ⟨g,0,none⟩) n Ct):=(zq0 (off:=1) H4.out.1.mach).trans rfl;have mc:w4.cell? ⟨mb,0,none⟩=some (.slice (some ⟨gc,0,none⟩) N Cc):=(zq0 (off:=0) H4.out.1.mach).trans rfl;have b0:w4.cell? ⟨H,0,none⟩=some (.int .i64 3):=(zq0 (off:=0) H4.out.2.2.1).trans rfl;have t5:w4.cell? ⟨g,i*7+5,none⟩=some (.int .i64 v):=by
  rw[(H4.out.1.trow.cell HALL.out.2.1 (show 5<7 by decide)).1];simp only[thF,upd'_same]
 obtain⟨ck,fk⟩:=H4.out.1.strCell' HALL.out.2.2.2.2.2.2.2.2 HS.out.2.2;have hgcg:gc≠g:=by
  intro e;obtain⟨⟨c1,hc1⟩,_⟩:=H4.out.1.trow.lt (show(Value.slice (some ⟨g,0,none⟩) n Ct).ownBlock=some g from rfl);exact zqw H4.out.1.crow hc1 (by decide) (by rw[←e];rfl)
 have hgcg2:g≠gc:=λe=>hgcg e.symm;have hmgc:mb≠gc:=λe=>zqw H4.out.1.crow H4.out.1.mach (by decide) (by rw[e];rfl);have hR5:=H4.out.1.setC' HALL.out.2.2.2.2.2.2.2.2 HS.out.2.2 0;have hk5:=H4.out.2.1.trans (KeepB.set hcB H4.out.1.inC pc0 (.int .i64 0));have HZ:=Lib.hid (And.intro hR5 hk5);clear hR5 hk5;have he:=zq2t (i:=i) (a:=⟨true,v,[]⟩) HZ.out.1 HALL.out.2.1 HALL.out.2.2.1 (by rw[upd'_same];show(T i).ans.length<=_;rw[HALL.out.2.2.2.2.1.ans];have:=HALL.out.2.2.2.2.1.le;have:=HALL.out.2.2.2.1;omega) (by rw[upd'_same];show(T i).at'<=_;have:=HALL.out.2.2.2.2.1.le;have:=HALL.out.2.2.2.1;omega);have hst:stepR N (⟨3,oa,ob,oc⟩:OpX) C (T i)=((C.set pc0 0),endR {T i with pc:=pc0+2,sum:=v} ⟨true,v,[]⟩):=by
  unfold stepR;have hp:=HX.out;rw[HALL.out.2.2.2.2.2.2.2.2,HOP.out.2.2.1]at hp;have h4:wrap64 (sm+y)=v:=by
   have:=H4.out.2.2.2;rw[IntKind.wrap_i64]at this;rw[←this];simp only[wrap64]<;>omega
  have n1:¬(⟨3,oa,ob,oc⟩:OpX).k=1:=by show ¬(3:Int)=1;decide
  have p2:(⟨3,oa,ob,oc⟩:OpX).k=2\/(⟨3,oa,ob,oc⟩:OpX).k=3:=.inr rfl;have p3:(⟨3,oa,ob,oc⟩:OpX).k=3:=by show(3:Int)=3;decide
  rw[if_neg n1,if_pos p2];simp only[if_pos p3,HOP.out.2.2.1,Nat.add_sub_cancel];rw[HS.out.1,HS.out.2.1,h4];rw[if_pos hp]
  try rfl
 have HE:=Lib.hid he;have HE2:=Lib.hid (And.intro HZ.out.2 hst);clear he hst
 go_wp2_with (fail)
 refine Calls.mono HE.out ?_;rintro e w5 ⟨rfl,⟨av',hR5⟩,hk5⟩
 go_wp2_with (fail)
 go_end0
 refine⟨rfl,⟨av',sv,?_⟩,HE2.out.1.trans hk5⟩;rw[HE2.out.2];rw[zq17,upd'_same]at hR5;exact hR5
end
section
variable {mb B n:Nat} {opv:Nat->Value} {C:List Int} {T:Nat->RT} {cv tv:Value} {av sv:Nat->Value} {w w':World}
theorem step3m_lone{i:Nat}{ops:List OpX}{oa ob oc:Int}(hx:(T i).pc≠C.length)(h:RefRep mb B n opv C T cv tv av sv w)(hi:i<n)(hn:n<=64)(hops:OpsB B w (opv i) ops)(hlen:ops.length<=65536)(hfit:FitT ops (T i))(hok:OkT C.length ops (T i))(hpc:(T i).pc≠0)(hop:ops[(T i).at']?=some (⟨3,oa,ob,oc⟩:OpX))(hC0:0<C.length)(hC1:C.length<=64):
 Calls Try.prog 40 #[.pointer (some ⟨mb,0,none⟩),.int .i64 i] w λe w'=>e=.returned (.tuple #[])/\zq1a mb B n opv (stepR C.length (⟨3,oa,ob,oc⟩:OpX) C (T i)).1 (upd' T i (stepR C.length (⟨3,oa,ob,oc⟩:OpX) C (T i)).2) cv tv w w':=by
 have HX:=Lib.hid hx;clear hx;refine zq28 h hi hn hops hlen hfit hok hpc hop hC0 hC1 ?_;clear h hops hlen hfit hok hpc hop hC0 hC1;intro g Ct gc Cc N at0 pc0 L H w3 x hcv htv H3 HALL HOP HH hgB hcB hmg hpb m mc b0 b1 b2 b3;subst hcv htv;rw[HALL.out.2.2.2.2.2.2.2.2];have hp0:(0:Int)<=(pc0:Int):=by omega
 have hi0:(0:Int)<=(i:Int):=by omega
 have hin:(i:Int)<(n:Int):=by omega
 clear hi hn;obtain⟨u,hu⟩:∃c,hdC (stpT 4)=c:=⟨_,rfl⟩;obtain⟨u5,hu5⟩:∃c,stpT 5=c:=⟨_,rfl⟩;have eu:=hu;have eu5:=hu5;rw[hu,hu5];simp only[stpT,tlN,hdC,Try.f40,al_od]at eu eu5;subst eu eu5;clear hu hu5;obtain⟨sm,hsm⟩:∃y,(T i).sum=y:=⟨_,rfl⟩;obtain⟨y,hy⟩:∃y,C.getD pc0 0=y:=⟨_,rfl⟩;have hkN:pc0<N:=by
  obtain⟨op',e,hg,o1,o2,o4,o5⟩:=HALL.out.2.2.2.2.2.1.stand (by rw[HOP.out.2.2.1];exact Nat.succ_ne_zero _);rw[HOP.out.2.1,HOP.out.1]at e;obtain rfl:=Option.some.inj e;have:=o2 (.inr rfl);have:=HOP.out.2.2.1;omega
 have t5:w3.cell? ⟨g,i*7+5,none⟩=some (.int .i64 sm):=by
  rw[(H3.out.1.trow.cell HALL.out.2.1 (show 5<7 by decide)).1];simp only[thF,upd'_same];rw[hsm]
 have f5:=(H3.out.1.trow.cell HALL.out.2.1 (show 5<7 by decide)).2;obtain⟨ck,fk⟩:=H3.out.1.strCell' HALL.out.2.2.2.2.2.2.2.2 hkN;rw[hy]at ck;have hkN':(pc0:Int)<(N:Int):=by omega
 have hN64:(N:Int)<=64:=by have:=HALL.out.2.2.2.2.2.2.2.1;omega
 have hq:((pc0:Int)==(N:Int) - 1)=false:=by have:=HX.out;have:=HOP.out.2.2.1;have:=HALL.out.2.2.2.2.2.2.2.2;simp;omega
 have HS:=Lib.hid (And.intro hsm (And.intro hy hkN));clear hsm hy hkN
 go_wp2_with (fail)
 refine zq23 (k:=23) (C:=λw'=>∃n,w'=w3.drewN n) (by kernel_rfl) (by kernel_rfl) (by kernel_rfl) (by kernel_rfl) (by kernel_rfl) ⟨1,rfl⟩ ?_;simp only[List.take_succ_cons,List.take_zero]
 repeat (quiet_step (fail))
 refine wpQuiet_nil ?_;rintro w' ⟨nq,rfl⟩;refine zq19 (i:=23) (by kernel_rfl) ?_;simp only[wpOp,al_gl,al_g0,al_g1];rw[if_pos (by rfl)];refine .inl ?_;have t5':(w3.drewN nq).cell? ⟨g,i*7+5,none⟩=some (.int .i64 sm):=t5;have f5':(w3.drewN nq).frozen? ⟨g,i*7+5,none⟩=false:=f5;clear t5 f5 ck fk m mc b0 b1 b2 b3;go_simp;refine zq18 (by kernel_rfl) ?_;have hR4:=(H3.out.1.drew nq).setN (j:=5) HALL.out.2.1 (.inr (.inr rfl)) (x:=.int .i64 (IntKind.i64.wrap (sm+y))) (t':={T i with pc:=pc0+2,sum:=IntKind.i64.wrap (sm+y)}) (by simp only[thF,upd'_same]) (by rw[upd'_same]) (by rw[upd'_same]) (.inr (by rw[upd'_same])) (.inr (by rw[upd'_same])) (.inl rfl);rw[zq17]at hR4;have hk4:=H3.out.2.1.trans ((KeepB.drew nq).trans (KeepB.set (w:=w3.drewN nq) hgB (H3.out.1.drew nq).inT (i*7+5) (.int .i64 (IntKind.i64.wrap (sm+y)))));have hb4:((w3.drewN nq).setCell ⟨g,i*7+5,none⟩ (.int .i64 (IntKind.i64.wrap (sm+y)))).heap[H]?=some (.cells #[.int .i64 3,.int .i64 oa,.int .i64 ob,.int .i64 oc] 46):=(zq4 _ _ _ _ (show H≠g by have:=HH.out.2.2.1;omega)).trans H3.out.2.2;obtain⟨v,hv⟩:∃v,IntKind.i64.wrap (sm+y)=v:=⟨_,rfl⟩;rw[hv]at hR4 hk4 hb4;clear t5' f5'
 try rw[hv]
 have H4:=Lib.hid (And.intro hR4 (And.intro hk4 (And.intro hb4 hv)));clear hR4 hk4 hb4 hv;generalize (w3.drewN nq).setCell ⟨g,i*7+5,none⟩ (.int .i64 v)=w4 at H4 ⊢;have m:w4.cell? ⟨mb,1,none⟩=some (.slice (some ⟨g,0,none⟩) n Ct):=(zq0 (off:=1) H4.out.1.mach).trans rfl;have mc:w4.cell? ⟨mb,0,none⟩=some (.slice (some ⟨gc,0,none⟩) N Cc):=(zq0 (off:=0) H4.out.1.mach).trans rfl;have b0:w4.cell? ⟨H,0,none⟩=some (.int .i64 3):=(zq0 (off:=0) H4.out.2.2.1).trans rfl;have t5:w4.cell? ⟨g,i*7+5,none⟩=some (.int .i64 v):=by
  rw[(H4.out.1.trow.cell HALL.out.2.1 (show 5<7 by decide)).1];simp only[thF,upd'_same]
 obtain⟨ck,fk⟩:=H4.out.1.strCell' HALL.out.2.2.2.2.2.2.2.2 HS.out.2.2;have hgcg:gc≠g:=by
  intro e;obtain⟨⟨c1,hc1⟩,_⟩:=H4.out.1.trow.lt (show(Value.slice (some ⟨g,0,none⟩) n Ct).ownBlock=some g from rfl);exact zqw H4.out.1.crow hc1 (by decide) (by rw[←e];rfl)
 have hgcg2:g≠gc:=λe=>hgcg e.symm;have hmgc:mb≠gc:=λe=>zqw H4.out.1.crow H4.out.1.mach (by decide) (by rw[e];rfl);have hR5:=H4.out.1.setC' HALL.out.2.2.2.2.2.2.2.2 HS.out.2.2 0;have hk5:=H4.out.2.1.trans (KeepB.set hcB H4.out.1.inC pc0 (.int .i64 0));have HZ:=Lib.hid (And.intro hR5 hk5);clear hR5 hk5;have hst:stepR N (⟨3,oa,ob,oc⟩:OpX) C (T i)=((C.set pc0 0),{T i with pc:=pc0+2,sum:=v}):=by
  unfold stepR;have hp:=HX.out;rw[HALL.out.2.2.2.2.2.2.2.2,HOP.out.2.2.1]at hp;have h4:wrap64 (sm+y)=v:=by
   have:=H4.out.2.2.2;rw[IntKind.wrap_i64]at this;rw[←this];simp only[wrap64]<;>omega
  have n1:¬(⟨3,oa,ob,oc⟩:OpX).k=1:=by show ¬(3:Int)=1;decide
  have p2:(⟨3,oa,ob,oc⟩:OpX).k=2\/(⟨3,oa,ob,oc⟩:OpX).k=3:=.inr rfl;have p3:(⟨3,oa,ob,oc⟩:OpX).k=3:=by show(3:Int)=3;decide
  rw[if_neg n1,if_pos p2];simp only[if_pos p3,HOP.out.2.2.1,Nat.add_sub_cancel];rw[HS.out.1,HS.out.2.1,h4];rw[if_neg hp]
  try rfl
 have HE2:=Lib.hid (And.intro HZ.out.2 hst);clear hst
 go_wp2_with (fail)
 go_end0
 refine⟨rfl,⟨av,sv,?_⟩,HE2.out.1⟩;rw[HE2.out.2];exact HZ.out.1
end
section
variable {mb B n:Nat} {opv:Nat->Value} {C:List Int} {T:Nat->RT} {cv tv:Value} {av sv:Nat->Value} {w w':World}
theorem step4a_lone{i:Nat}{ops:List OpX}{oa ob oc:Int}(hx:(T i).pc=1)(h:RefRep mb B n opv C T cv tv av sv w)(hi:i<n)(hn:n<=64)(hops:OpsB B w (opv i) ops)(hlen:ops.length<=65536)(hfit:FitT ops (T i))(hok:OkT C.length ops (T i))(hpc:(T i).pc≠0)(hop:ops[(T i).at']?=some (⟨4,oa,ob,oc⟩:OpX))(hC0:0<C.length)(hC1:C.length<=64):
 Calls Try.prog 40 #[.pointer (some ⟨mb,0,none⟩),.int .i64 i] w λe w'=>e=.returned (.tuple #[])/\zq1a mb B n opv (stepR C.length (⟨4,oa,ob,oc⟩:OpX) C (T i)).1 (upd' T i (stepR C.length (⟨4,oa,ob,oc⟩:OpX) C (T i)).2) cv tv w w':=by
 have HX:=Lib.hid hx;clear hx;refine zq28 h hi hn hops hlen hfit hok hpc hop hC0 hC1 ?_;clear h hops hlen hfit hok hpc hop hC0 hC1;intro g Ct gc Cc N at0 pc0 L H w3 x hcv htv H3 HALL HOP HH hgB hcB hmg hpb m mc b0 b1 b2 b3;subst hcv htv;rw[HALL.out.2.2.2.2.2.2.2.2];have hp0:(0:Int)<=(pc0:Int):=by omega
 have hi0:(0:Int)<=(i:Int):=by omega
 have hin:(i:Int)<(n:Int):=by omega
 clear hi hn;obtain⟨u,hu⟩:∃c,hdC (stpT 4)=c:=⟨_,rfl⟩;obtain⟨u5,hu5⟩:∃c,stpT 5=c:=⟨_,rfl⟩;have eu:=hu;have eu5:=hu5;rw[hu,hu5];simp only[stpT,tlN,hdC,Try.f40,al_od]at eu eu5;subst eu eu5;clear hu hu5;obtain⟨s,hs⟩:∃s,idx oa N=s:=⟨_,rfl⟩;have hsN:s<N:=by rw[←hs];exact idx_lt oa HALL.out.2.2.2.2.2.2.1
 obtain⟨cs,fs⟩:=H3.out.1.strCell' HALL.out.2.2.2.2.2.2.2.2 hsN;obtain⟨y,hy⟩:∃y,C.getD s 0=y:=⟨_,rfl⟩;rw[hy]at cs;have hsN':(s:Int)<(N:Int):=by omega
 have hs0:(0:Int)<=(s:Int):=by omega
 have hq:((pc0:Int)==0)=true:=by have:=HX.out;have:=HOP.out.2.2.1;simp;omega
 have hAt:=at_lone' oa HALL.out.2.2.2.2.2.2.1 HALL.out.2.2.2.2.2.2.2.1 w3;rw[hs]at hAt;have HS:=Lib.hid (And.intro hs (And.intro hsN hy));have HAT:=Lib.hid hAt;clear hs hsN hy hAt
 go_wp2_with (fail)
 refine Calls.mono HAT.out ?_;rintro e wq ⟨rfl,rfl⟩
 go_wp2_with (fail)
 refine zq23 (k:=16) (C:=λw'=>∃n,w'=wq.drewN n) (by kernel_rfl) (by kernel_rfl) (by kernel_rfl) (by kernel_rfl) (by kernel_rfl) ⟨1,rfl⟩ ?_;simp only[List.take_succ_cons,List.take_zero]
 repeat (quiet_step (fail))
 refine wpQuiet_nil ?_;rintro w4 ⟨nq,rfl⟩;refine zq19 (i:=16) (by kernel_rfl) ?_;simp only[wpOp,al_gl,al_g0,al_g1];rw[if_pos (by rfl)];refine .inl ?_;have fs':(wq.drewN nq).frozen? ⟨gc,s,none⟩=false:=fs;have cs':(wq.drewN nq).cell? ⟨gc,s,none⟩=some (.int .i64 y):=cs;clear cs fs m mc b0 b1 b2 b3;go_simp;refine zq18 (by kernel_rfl) ?_;have hR4:=(H3.out.1.drew nq).setC' HALL.out.2.2.2.2.2.2.2.2 HS.out.2.1 (IntKind.i64.wrap (y - oc));have hk4:=H3.out.2.1.trans ((KeepB.drew nq).trans (KeepB.set (w:=wq.drewN nq) hcB (H3.out.1.drew nq).inC s (.int .i64 (IntKind.i64.wrap (y - oc)))));obtain⟨v,hv⟩:∃v,IntKind.i64.wrap (y - oc)=v:=⟨_,rfl⟩;rw[hv]at hR4 hk4;clear cs' fs'
 try rw[hv]
 have H4:=Lib.hid (And.intro hR4 (And.intro hk4 hv));clear hR4 hk4 hv;generalize (wq.drewN nq).setCell ⟨gc,s,none⟩ (.int .i64 v)=w4 at H4 ⊢;have hst:stepR N (⟨4,oa,ob,oc⟩:OpX) C (T i)=(C.set s v,{T i with pc:=pc0+2}):=by
  unfold stepR;have n1:¬(⟨4,oa,ob,oc⟩:OpX).k=1:=by show ¬(4:Int)=1;decide
  have n2:¬((⟨4,oa,ob,oc⟩:OpX).k=2\/(⟨4,oa,ob,oc⟩:OpX).k=3):=by show ¬((4:Int)=2\/(4:Int)=3);decide
  rw[if_neg n1,if_neg n2,if_pos rfl];have hp:pc0=0:=by have:=HX.out;have:=HOP.out.2.2.1;omega
  have hv:=H4.out.2.2;rw[←HS.out.2.2]at hv;simp only[HOP.out.2.2.1,Nat.add_sub_cancel,HS.out.1,hv,if_pos hp]
 have HE2:=Lib.hid (And.intro H4.out.2.1 hst);clear hst
 go_wp2_with (fail)
 try simp only[Exit.inBlock,Exit.then]
 refine bodyPost_ret (results_none rfl _ _ _) rfl ?_;refine⟨rfl,⟨av,sv,?_⟩,HE2.out.1⟩;rw[HE2.out.2];exact H4.out.1
end
section
variable {mb B n:Nat} {opv:Nat->Value} {C:List Int} {T:Nat->RT} {cv tv:Value} {av sv:Nat->Value} {w w':World}
theorem step4b_lone{i:Nat}{ops:List OpX}{oa ob oc:Int}(hx:(T i).pc≠1)(h:RefRep mb B n opv C T cv tv av sv w)(hi:i<n)(hn:n<=64)(hops:OpsB B w (opv i) ops)(hlen:ops.length<=65536)(hfit:FitT ops (T i))(hok:OkT C.length ops (T i))(hpc:(T i).pc≠0)(hop:ops[(T i).at']?=some (⟨4,oa,ob,oc⟩:OpX))(hC0:0<C.length)(hC1:C.length<=64):
 Calls Try.prog 40 #[.pointer (some ⟨mb,0,none⟩),.int .i64 i] w λe w'=>e=.returned (.tuple #[])/\zq1a mb B n opv (stepR C.length (⟨4,oa,ob,oc⟩:OpX) C (T i)).1 (upd' T i (stepR C.length (⟨4,oa,ob,oc⟩:OpX) C (T i)).2) cv tv w w':=by
 have HX:=Lib.hid hx;clear hx;refine zq28 h hi hn hops hlen hfit hok hpc hop hC0 hC1 ?_;clear h hops hlen hfit hok hpc hop hC0 hC1;intro g Ct gc Cc N at0 pc0 L H w3 x hcv htv H3 HALL HOP HH hgB hcB hmg hpb m mc b0 b1 b2 b3;subst hcv htv;rw[HALL.out.2.2.2.2.2.2.2.2];have hp0:(0:Int)<=(pc0:Int):=by omega
 have hi0:(0:Int)<=(i:Int):=by omega
 have hin:(i:Int)<(n:Int):=by omega
 clear hi hn;obtain⟨u,hu⟩:∃c,hdC (stpT 4)=c:=⟨_,rfl⟩;obtain⟨u5,hu5⟩:∃c,stpT 5=c:=⟨_,rfl⟩;have eu:=hu;have eu5:=hu5;rw[hu,hu5];simp only[stpT,tlN,hdC,Try.f40,al_od]at eu eu5;subst eu eu5;clear hu hu5;obtain⟨s,hs⟩:∃s,idx ob N=s:=⟨_,rfl⟩;have hsN:s<N:=by rw[←hs];exact idx_lt ob HALL.out.2.2.2.2.2.2.1
 obtain⟨cs,fs⟩:=H3.out.1.strCell' HALL.out.2.2.2.2.2.2.2.2 hsN;obtain⟨y,hy⟩:∃y,C.getD s 0=y:=⟨_,rfl⟩;rw[hy]at cs;have hsN':(s:Int)<(N:Int):=by omega
 have hs0:(0:Int)<=(s:Int):=by omega
 have hq:((pc0:Int)==0)=false:=by have:=HX.out;have:=HOP.out.2.2.1;simp;omega
 have hAt:=at_lone' ob HALL.out.2.2.2.2.2.2.1 HALL.out.2.2.2.2.2.2.2.1 w3;rw[hs]at hAt;have HS:=Lib.hid (And.intro hs (And.intro hsN hy));have HAT:=Lib.hid hAt;clear hs hsN hy hAt
 go_wp2_with (fail)
 refine Calls.mono HAT.out ?_;rintro e wq ⟨rfl,rfl⟩
 go_wp2_with (fail)
 refine zq23 (k:=16) (C:=λw'=>∃n,w'=wq.drewN n) (by kernel_rfl) (by kernel_rfl) (by kernel_rfl) (by kernel_rfl) (by kernel_rfl) ⟨1,rfl⟩ ?_;simp only[List.take_succ_cons,List.take_zero]
 repeat (quiet_step (fail))
 refine wpQuiet_nil ?_;rintro w4 ⟨nq,rfl⟩;refine zq19 (i:=16) (by kernel_rfl) ?_;simp only[wpOp,al_gl,al_g0,al_g1];rw[if_pos (by rfl)];refine .inl ?_;have fs':(wq.drewN nq).frozen? ⟨gc,s,none⟩=false:=fs;have cs':(wq.drewN nq).cell? ⟨gc,s,none⟩=some (.int .i64 y):=cs;clear cs fs m mc b0 b1 b2 b3;go_simp;refine zq18 (by kernel_rfl) ?_;have hR4:=(H3.out.1.drew nq).setC' HALL.out.2.2.2.2.2.2.2.2 HS.out.2.1 (IntKind.i64.wrap (y+oc));have hk4:=H3.out.2.1.trans ((KeepB.drew nq).trans (KeepB.set (w:=wq.drewN nq) hcB (H3.out.1.drew nq).inC s (.int .i64 (IntKind.i64.wrap (y+oc)))));obtain⟨v,hv⟩:∃v,IntKind.i64.wrap (y+oc)=v:=⟨_,rfl⟩;rw[hv]at hR4 hk4;clear cs' fs'
 try rw[hv]
 have H4:=Lib.hid (And.intro hR4 (And.intro hk4 hv));clear hR4 hk4 hv;generalize (wq.drewN nq).setCell ⟨gc,s,none⟩ (.int .i64 v)=w4 at H4 ⊢;have m:w4.cell? ⟨mb,1,none⟩=some (.slice (some ⟨g,0,none⟩) n Ct):=(zq0 (off:=1) H4.out.1.mach).trans rfl;have mc:w4.cell? ⟨mb,0,none⟩=some (.slice (some ⟨gc,0,none⟩) N Cc):=(zq0 (off:=0) H4.out.1.mach).trans rfl;have he:=zq2t (i:=i) (a:=⟨true,0,[]⟩) H4.out.1 HALL.out.2.1 HALL.out.2.2.1 (by rw[upd'_same];show(T i).ans.length<=_;rw[HALL.out.2.2.2.2.1.ans];have:=HALL.out.2.2.2.2.1.le;have:=HALL.out.2.2.2.1;omega) (by rw[upd'_same];show(T i).at'<=_;have:=HALL.out.2.2.2.2.1.le;have:=HALL.out.2.2.2.1;omega);have hst:stepR N (⟨4,oa,ob,oc⟩:OpX) C (T i)=(C.set s v,endR {T i with pc:=pc0+2} ⟨true,0,[]⟩):=by
  unfold stepR;have n1:¬(⟨4,oa,ob,oc⟩:OpX).k=1:=by show ¬(4:Int)=1;decide
  have n2:¬((⟨4,oa,ob,oc⟩:OpX).k=2\/(⟨4,oa,ob,oc⟩:OpX).k=3):=by show ¬((4:Int)=2\/(4:Int)=3);decide
  rw[if_neg n1,if_neg n2,if_pos rfl];have hp:¬pc0=0:=by have:=HX.out;have:=HOP.out.2.2.1;omega
  have hv:=H4.out.2.2;rw[←HS.out.2.2]at hv;simp only[HOP.out.2.2.1,Nat.add_sub_cancel,HS.out.1,hv,if_neg hp]
 have HE:=Lib.hid he;have HE2:=Lib.hid (And.intro H4.out.2.1 hst);clear he hst
 go_wp2_with (fail)
 refine Calls.mono HE.out ?_;rintro e w5 ⟨rfl,⟨av',hR5⟩,hk5⟩
 go_wp2_with (fail)
 go_end0
 refine⟨rfl,⟨av',sv,?_⟩,HE2.out.1.trans hk5⟩;rw[HE2.out.2];rw[zq17,upd'_same]at hR5;exact hR5
end
section
variable {mb B n:Nat} {opv:Nat->Value} {C:List Int} {T:Nat->RT} {cv tv:Value} {av sv:Nat->Value} {w w':World}
theorem step5a_lone{i:Nat}{ops:List OpX}{oa ob oc:Int}(hx:(T i).pc<=C.length)(h:RefRep mb B n opv C T cv tv av sv w)(hi:i<n)(hn:n<=64)(hops:OpsB B w (opv i) ops)(hlen:ops.length<=65536)(hfit:FitT ops (T i))(hok:OkT C.length ops (T i))(hpc:(T i).pc≠0)(hop:ops[(T i).at']?=some (⟨5,oa,ob,oc⟩:OpX))(hC0:0<C.length)(hC1:C.length<=64):
 Calls Try.prog 40 #[.pointer (some ⟨mb,0,none⟩),.int .i64 i] w λe w'=>e=.returned (.tuple #[])/\zq1a mb B n opv (stepR C.length (⟨5,oa,ob,oc⟩:OpX) C (T i)).1 (upd' T i (stepR C.length (⟨5,oa,ob,oc⟩:OpX) C (T i)).2) cv tv w w':=by
 have HX:=Lib.hid hx;clear hx;refine zq28 h hi hn hops hlen hfit hok hpc hop hC0 hC1 ?_;clear h hops hlen hfit hok hpc hop hC0 hC1;intro g Ct gc Cc N at0 pc0 L H w3 x hcv htv H3 HALL HOP HH hgB hcB hmg hpb m mc b0 b1 b2 b3;subst hcv htv;rw[HALL.out.2.2.2.2.2.2.2.2];have hp0:(0:Int)<=(pc0:Int):=by omega
 have hi0:(0:Int)<=(i:Int):=by omega
 have hin:(i:Int)<(n:Int):=by omega
 clear hi hn;obtain⟨u,hu⟩:∃c,hdC (stpT 4)=c:=⟨_,rfl⟩;obtain⟨u5,hu5⟩:∃c,stpT 5=c:=⟨_,rfl⟩;have eu:=hu;have eu5:=hu5;rw[hu,hu5];simp only[stpT,tlN,hdC,Try.f40,al_od]at eu eu5;subst eu eu5;clear hu hu5;obtain⟨sm,hsm⟩:∃y,(T i).sum=y:=⟨_,rfl⟩;obtain⟨y,hy⟩:∃y,C.getD pc0 0=y:=⟨_,rfl⟩;have hkN:pc0<N:=by have:=HX.out;have:=HOP.out.2.2.1;have:=HALL.out.2.2.2.2.2.2.2.2;omega
 have hsl:(T i).seen.length=pc0:=by
  obtain⟨op',e,hg,o1,o2,o4,o5⟩:=HALL.out.2.2.2.2.2.1.stand (by rw[HOP.out.2.2.1];exact Nat.succ_ne_zero _);rw[HOP.out.2.1,HOP.out.1]at e;obtain rfl:=Option.some.inj e;have:=(o5 rfl).2;have:=HOP.out.2.2.1;omega
 have hrow:w3.ownsRow B 2 1 (sv i) pc0 ((T i).seen.map (Value.int .i64)):=by
  have:=H3.out.1.srow i HALL.out.2.1;rw[upd'_same]at this;rw[←hsl];exact this
 obtain⟨ps,Cs,hsv,-,-⟩:=zq12 hrow;have t6:w3.cell? ⟨g,i*7+6,none⟩=some (.slice ps pc0 Cs):=by
  rw[(H3.out.1.trow.cell HALL.out.2.1 (show 6<7 by decide)).1,←hsv];rfl
 obtain⟨ck,fk⟩:=H3.out.1.strCell' HALL.out.2.2.2.2.2.2.2.2 hkN;rw[hy]at ck;obtain⟨tj,htj,hy0,hy1,hy2⟩:∃ti,Try.prog.info? 2=some ti/\ti.zero=some (.int .i64 0)/\ti.size=1/\ti.bytes=8:=⟨_,rfl,rfl,rfl,rfl⟩;have hB3:B<=w3.heap.size:=Nat.le_trans HOP.out.2.2.2.2.2 H3.out.2.1.size;obtain⟨g2,cap2,w4,hrun,hown,hsame,hat,hsz⟩:=app_one (P:=Try.prog) 22 22 2 tj (.int .i64 0) 1 8 (by kernel_rfl) htj hy0 hy1 hy2 rfl (by decide) (cs:=[.int .i64 y]) hrow rfl (by simp[Value.oneCell']) (by have:=HALL.out.2.2.2.2.2.2.2.1;simp only[maxLen];omega) (by have:=HALL.out.2.2.2.2.2.2.2.1;omega) hB3;obtain⟨⟨cg,hcg⟩,_,hgl⟩:=H3.out.1.trow.lt (show(Value.slice (some ⟨g,0,none⟩) n Ct).ownBlock=some g from rfl);have hn1:(sv i).ownBlock≠some mb:=zqw hrow H3.out.1.mach (by decide);have hn2:(sv i).ownBlock≠some g:=zqw hrow hcg (by decide);have hn3:(sv i).ownBlock≠some gc:=λe=>H3.out.1.csep i gc HALL.out.2.1 e rfl;have hn4:(sv i).ownBlock≠some H:=zqw hrow H3.out.2.2 (by decide);have hml:mb<w3.heap.size:=zq7 H3.out.1.mach;have hcl:gc<w3.heap.size:=(own_lt H3.out.1.crow rfl).2.2;have hHl:H<w3.heap.size:=zq7 H3.out.2.2;have hfacts:∀W,W=w3.drewN 1\/W=(w3.drewN 1).alloc (.cells #[.int .i64 y] 2)\/W=w4->W.cell? ⟨mb,1,none⟩=some (.slice (some ⟨g,0,none⟩) n Ct)/\W.cell? ⟨mb,0,none⟩=some (.slice (some ⟨gc,0,none⟩) N Cc)/\W.cell? ⟨g,i*7+6,none⟩=some (.slice ps pc0 Cs)/\W.cell? ⟨gc,pc0,none⟩=some (.int .i64 y)/\W.frozen? ⟨g,i*7+6,none⟩=false:=λW hW=>
  ⟨(zqd (hsame W hW mb hml hn1)).trans m,(zqd (hsame W hW mb hml hn1)).trans mc,(zqd (hsame W hW g hgl hn2)).trans t6,(zqd (hsame W hW gc hcl hn3)).trans ck,zq3 ((hsame W hW g hgl hn2).trans hcg)⟩
 have hR4:=H3.out.1.setS (w2:=w4) (v':=.slice (some ⟨g2,0,none⟩) (pc0+1) cap2) HALL.out.2.1 (t':={T i with pc:=pc0+2,seen:=(T i).seen++[y]}) (by rw[upd'_same]) (by rw[upd'_same]) (by rw[upd'_same]) (by rw[upd'_same]) (by
  show w4.ownsRow B _ 1 _ ((T i).seen++[y]).length (((T i).seen++[y]).map _);rw[List.length_append,hsl,List.map_append];exact hown) (λb hb hne=>hsame w4 (.inr (.inr rfl)) b hb hne) (λx hx=>by
   have:g2=x:=Option.some.inj hx;rw[←this];exact hat)
 rw[zq17]at hR4;have hk4:KeepB B w (w4.setCell ⟨g,i*7+6,none⟩ (.slice (some ⟨g2,0,none⟩) (pc0+1) cap2)):=H3.out.2.1.trans (KeepB.trans ⟨hsz,λb hb=>hsame w4 (.inr (.inr rfl)) b (by omega) λe=>by have:=(own_lt hrow e).2.1;omega,λb c T2 f hb hT=>(hsame w4 (.inr (.inr rfl)) b (zq7 hb) (zqw hrow hb hT.1.symm)).trans hb⟩ (KeepB.set hgB ⟨_,_,_,(hsame w4 (.inr (.inr rfl)) g hgl hn2).trans hcg,λh=>h.2.2.1 rfl⟩ _ _));rw[hsv]at hrun;obtain⟨S,hS⟩:∃S,w3.heap.size=S:=⟨_,rfl⟩;rw[hS]at hrun;have hkN':(pc0:Int)<(N:Int):=by omega
 have HF:=Lib.hid hfacts;have HP:=Lib.hid (And.intro hR4 hk4);have HR:=Lib.hid hrun;have HS:=Lib.hid (And.intro hS (And.intro hsm (And.intro hy hkN)));clear hsm hy hkN hsl hrow hsv t6 ck fk htj hy0 hy1 hy2 hB3 hrun hown hsame hat hsz hcg hgl hn1 hn2 hn3 hn4 hml hcl hHl hfacts hR4 hk4 hS b1 b2 b3
 go_wp2_with (fail)
 refine zq3a (k:=24) (s:=20) (t:=21) (W0:=w3.drewN 1) (W1:=(w3.drewN 1).alloc (.cells #[.int .i64 y] 2)) (W2:=w4) (by kernel_rfl) (by kernel_rfl) (by kernel_rfl) (by kernel_rfl) (by decide) (by decide) (by decide) (by kernel_rfl)
  [.pointer (some ⟨mb,0,none⟩),.pointer (some ⟨mb,0,none⟩),.pointer (some ⟨mb,1,none⟩),.slice (some ⟨g,0,none⟩) n Ct,.int .i64 i,.pointer (some ⟨mb,0,none⟩),.pointer (some ⟨mb,0,none⟩),.pointer (some ⟨mb,1,none⟩),.slice (some ⟨g,0,none⟩) n Ct,.int .i64 i,.pointer (some ⟨g,i*7,none⟩),.pointer (some ⟨g,i*7+6,none⟩),.slice ps pc0 Cs,.pointer (some ⟨mb,0,none⟩),.pointer (some ⟨mb,0,none⟩),.pointer (some ⟨mb,0,none⟩),.slice (some ⟨gc,0,none⟩) N Cc,.int .i64 pc0,.pointer (some ⟨gc,pc0,none⟩),.int .i64 y,.slice (some ⟨S,0,none⟩) 1 1,.slice (some ⟨g2,0,none⟩) (pc0+1) cap2,.pointer (some ⟨g,i*7,none⟩),.pointer (some ⟨g,i*7+6,none⟩)] rfl rfl ?_ ?_ ?_ ?_
 · intro jj oo hjj h9 h10 hoo W hWW;obtain⟨d1,d2,d3,d4,_⟩:=HF.out W hWW;clear hWW m mc;simp only[putv,dstOf,al_gl,al_g0,al_g1,al_ob,al_g2,List.set_cons_succ,List.set_cons_zero];obtain rfl |rfl |rfl |rfl |rfl |rfl |rfl |rfl |rfl |rfl |rfl |rfl |rfl |rfl |rfl |rfl |rfl |rfl |rfl |rfl |rfl |rfl:jj=0\/jj=1\/jj=2\/jj=3\/jj=4\/jj=5\/jj=6\/jj=7\/jj=8\/jj=9\/jj=10\/jj=11\/jj=12\/jj=13\/jj=14\/jj=15\/jj=16\/jj=17\/jj=18\/jj=19\/jj=22\/jj=23:=by omega
   all_goals(simp only[al_gl,al_g0,al_g1,al_oi]at hoo;subst hoo;refine .inl ?_)
   all_goals(simp only[execOp,Act.eval,al_gd,al_gl,al_g0,al_g1,al_od])
   all_goals(try go_simp)
 · intro oo hoo;simp only[putv,dstOf,al_gl,al_g0,al_g1,al_ob,al_g2,List.set_cons_succ,List.set_cons_zero];simp only[al_gl,al_g0,al_g1,al_oi]at hoo;subst hoo;refine .inl ?_;have hs0:(w3.drewN 1).heap.size=S:=HS.out.1;clear m mc b0;generalize w3.drewN 1=W0 at hs0 ⊢;simp only[execOp,Act.eval,al_gd,al_gl,al_g0,al_g1,al_od];go_simp
 · intro oo hoo;have hrun:(Builtin.append_ #[22,22] 22 #[Value.slice ps pc0 Cs,.slice (some ⟨S,0,none⟩) 1 1]).run Try.prog ((w3.drewN 1).alloc (.cells #[.int .i64 y] 2))=.ok (.slice (some ⟨g2,0,none⟩) (pc0+1) cap2) w4:=HR.out;simp only[putv,dstOf,al_gl,al_g0,al_g1,al_ob,al_g2,List.set_cons_succ,List.set_cons_zero];simp only[al_gl,al_g0,al_g1,al_oi]at hoo;subst hoo;refine .inl ?_;unfold execOp;simp only[resolve,invoke,builtin,Sem.run_bind,Sem.run_pure,Result.andThen_ok,List.map_toArray,List.map_cons,List.map_nil,Act.eval,al_gd,al_gl,al_g0,al_g1,al_od,hrun];rfl
 simp only[putv,dstOf,al_gl,al_g0,al_g1,al_ob,al_g2,List.set_cons_succ,List.set_cons_zero];obtain⟨_,_,d3,_,d6⟩:=HF.out w4 (.inr (.inr rfl));refine zq19 (i:=24) (by kernel_rfl) ?_;simp only[wpOp,al_gl,al_g0,al_g1];rw[if_pos (by rfl)];refine .inl ?_;clear m mc b0;go_simp;refine zq18 (by kernel_rfl) ?_;clear d3 d6 HF HR;generalize w4.setCell ⟨g,i*7+6,none⟩ (.slice (some ⟨g2,0,none⟩) (pc0+1) cap2)=w5 at HP ⊢;have m:w5.cell? ⟨mb,1,none⟩=some (.slice (some ⟨g,0,none⟩) n Ct):=(zq0 (off:=1) HP.out.1.mach).trans rfl;have mc:w5.cell? ⟨mb,0,none⟩=some (.slice (some ⟨gc,0,none⟩) N Cc):=(zq0 (off:=0) HP.out.1.mach).trans rfl;have t5:w5.cell? ⟨g,i*7+5,none⟩=some (.int .i64 sm):=by
  rw[(HP.out.1.trow.cell HALL.out.2.1 (show 5<7 by decide)).1];simp only[thF,upd'_same];rw[HS.out.2.1]
 have f5:=(HP.out.1.trow.cell HALL.out.2.1 (show 5<7 by decide)).2;obtain⟨ck,fk⟩:=HP.out.1.strCell' HALL.out.2.2.2.2.2.2.2.2 HS.out.2.2.2;rw[HS.out.2.2.1]at ck;clear fk
 go_wp2_with (fail)
 refine zq23 (k:=23) (C:=λw'=>∃n,w'=w5.drewN n) (by kernel_rfl) (by kernel_rfl) (by kernel_rfl) (by kernel_rfl) (by kernel_rfl) ⟨1,rfl⟩ ?_;simp only[List.take_succ_cons,List.take_zero]
 repeat (quiet_step (fail))
 refine wpQuiet_nil ?_;rintro w6 ⟨nq,rfl⟩;refine zq19 (i:=23) (by kernel_rfl) ?_;simp only[wpOp,al_gl,al_g0,al_g1];rw[if_pos (by rfl)];refine .inl ?_;have t5':(w5.drewN nq).cell? ⟨g,i*7+5,none⟩=some (.int .i64 sm):=t5;have f5':(w5.drewN nq).frozen? ⟨g,i*7+5,none⟩=false:=f5;clear t5 f5 ck m mc;go_simp;refine zq18 (by kernel_rfl) ?_;have hR6:=(HP.out.1.drew nq).setN (j:=5) HALL.out.2.1 (.inr (.inr rfl)) (x:=.int .i64 (IntKind.i64.wrap (sm+y))) (t':={T i with pc:=pc0+2,seen:=(T i).seen++[y],sum:=IntKind.i64.wrap (sm+y)}) (by simp only[thF,upd'_same]) (by rw[upd'_same]) (by rw[upd'_same]) (.inr (by rw[upd'_same])) (.inr (by rw[upd'_same])) (.inl rfl);rw[zq17]at hR6;have hk6:=HP.out.2.trans ((KeepB.drew nq).trans (KeepB.set (w:=w5.drewN nq) hgB (HP.out.1.drew nq).inT (i*7+5) (.int .i64 (IntKind.i64.wrap (sm+y)))));have hst:stepR N (⟨5,oa,ob,oc⟩:OpX) C (T i)=(C,{T i with pc:=pc0+2,seen:=(T i).seen++[y],sum:=IntKind.i64.wrap (sm+y)}):=by
  have h4:wrap64 (sm+y)=IntKind.i64.wrap (sm+y):=by
   rw[IntKind.wrap_i64];simp only[wrap64]<;>omega
  unfold stepR;have n1:¬(⟨5,oa,ob,oc⟩:OpX).k=1:=by show ¬(5:Int)=1;decide
  have n2:¬((⟨5,oa,ob,oc⟩:OpX).k=2\/(⟨5,oa,ob,oc⟩:OpX).k=3):=by show ¬((5:Int)=2\/(5:Int)=3);decide
  have n4:¬(⟨5,oa,ob,oc⟩:OpX).k=4:=by show ¬(5:Int)=4;decide
  rw[if_neg n1,if_neg n2,if_neg n4];have hp:=HS.out.2.2.2;simp only[HOP.out.2.2.1,Nat.add_sub_cancel];rw[if_pos hp,HS.out.2.1,HS.out.2.2.1,h4]
 have HE2:=Lib.hid (And.intro hk6 (And.intro hst hR6));clear t5' f5' hk6 hst hR6
 go_wp2_with (fail)
 try simp only[Exit.inBlock,Exit.then]
 refine bodyPost_ret (results_none rfl _ _ _) rfl ?_;refine⟨rfl,⟨av,upd' sv i (.slice (some ⟨g2,0,none⟩) (pc0+1) cap2),?_⟩,HE2.out.1⟩;rw[HE2.out.2.1];exact HE2.out.2.2
end
section
variable {mb B n:Nat} {opv:Nat->Value} {C:List Int} {T:Nat->RT} {cv tv:Value} {av sv:Nat->Value} {w w':World}
theorem step5b_lone{i:Nat}{ops:List OpX}{oa ob oc:Int}(hx:C.length<(T i).pc)(hz:C.getD ((T i).pc - 1 - C.length) 0≠(T i).seen.getD ((T i).pc - 1 - C.length) 0)(h:RefRep mb B n opv C T cv tv av sv w)(hi:i<n)(hn:n<=64)(hops:OpsB B w (opv i) ops)(hlen:ops.length<=65536)(hfit:FitT ops (T i))(hok:OkT C.length ops (T i))(hpc:(T i).pc≠0)(hop:ops[(T i).at']?=some (⟨5,oa,ob,oc⟩:OpX))(hC0:0<C.length)(hC1:C.length<=64):
 Calls Try.prog 40 #[.pointer (some ⟨mb,0,none⟩),.int .i64 i] w λe w'=>e=.returned (.tuple #[])/\zq1a mb B n opv (stepR C.length (⟨5,oa,ob,oc⟩:OpX) C (T i)).1 (upd' T i (stepR C.length (⟨5,oa,ob,oc⟩:OpX) C (T i)).2) cv tv w w':=by
 have HX:=Lib.hid (And.intro hx (And.intro hz trivial));clear hx hz;refine zq28 h hi hn hops hlen hfit hok hpc hop hC0 hC1 ?_;clear h hops hlen hfit hok hpc hop hC0 hC1;intro g Ct gc Cc N at0 pc0 L H w3 x hcv htv H3 HALL HOP HH hgB hcB hmg hpb m mc b0 b1 b2 b3;subst hcv htv;rw[HALL.out.2.2.2.2.2.2.2.2];have hp0:(0:Int)<=(pc0:Int):=by omega
 have hi0:(0:Int)<=(i:Int):=by omega
 have hin:(i:Int)<(n:Int):=by omega
 clear hi hn;obtain⟨u,hu⟩:∃c,hdC (stpT 4)=c:=⟨_,rfl⟩;obtain⟨u5,hu5⟩:∃c,stpT 5=c:=⟨_,rfl⟩;have eu:=hu;have eu5:=hu5;rw[hu,hu5];simp only[stpT,tlN,hdC,Try.f40,al_od]at eu eu5;subst eu eu5;clear hu hu5;obtain⟨q,hq⟩:∃q,pc0=N+q:=⟨pc0 - N,by have:=HX.out.1;have:=HOP.out.2.2.1;have:=HALL.out.2.2.2.2.2.2.2.2;omega⟩;obtain⟨hpN,hsl⟩:pc0<2*N/\(T i).seen.length=N:=by
  obtain⟨op',e,hg,o1,o2,o4,o5⟩:=HALL.out.2.2.2.2.2.1.stand (by rw[HOP.out.2.2.1];exact Nat.succ_ne_zero _);rw[HOP.out.2.1,HOP.out.1]at e;obtain rfl:=Option.some.inj e;have:=o5 rfl;have:=HOP.out.2.2.1;omega
 have hqN:q<N:=by omega
 obtain⟨y,hy⟩:∃y,C.getD q 0=y:=⟨_,rfl⟩;obtain⟨z,hz⟩:∃z,(T i).seen.getD q 0=z:=⟨_,rfl⟩;obtain⟨sm,hsm⟩:∃y,(T i).sum=y:=⟨_,rfl⟩;have hrow:w3.ownsRow B 2 1 (sv i) N ((T i).seen.map (Value.int .i64)):=by
  have:=H3.out.1.srow i HALL.out.2.1;rw[upd'_same]at this;rw[←hsl];exact this
 obtain⟨ps,Cs,hsv,-,-⟩:=zq12 hrow;have t6:w3.cell? ⟨g,i*7+6,none⟩=some (.slice ps N Cs):=by
  rw[(H3.out.1.trow.cell HALL.out.2.1 (show 6<7 by decide)).1,←hsv];rfl
 rw[hsv]at hrow;obtain⟨gs,rfl,_,cz,_⟩:=row_cell hrow (i:=q) (x:=.int .i64 z) (by rw[List.getElem?_map,←hz,List.getD_eq_getElem?_getD,List.getElem?_eq_getElem (by rw[hsl];exact hqN)];rfl);obtain⟨ck,fk⟩:=H3.out.1.strCell' HALL.out.2.2.2.2.2.2.2.2 hqN;rw[hy]at ck;have t5:w3.cell? ⟨g,i*7+5,none⟩=some (.int .i64 sm):=by
  rw[(H3.out.1.trow.cell HALL.out.2.1 (show 5<7 by decide)).1];simp only[thF,upd'_same];rw[hsm]
 have hidx:(T i).pc - 1 - C.length=q:=by have:=HOP.out.2.2.1;have:=HALL.out.2.2.2.2.2.2.2.2;omega
 have hyz:y≠z:=by
  have:=HX.out.2.1;rw[hidx,hy,hz]at this;exact this
 have hsub:(pc0:Int) - (N:Int)=(q:Int):=by omega
 have hnlt:¬(pc0:Int)<(N:Int):=by omega
 have hq0:(0:Int)<=(q:Int):=by omega
 have hqN':(q:Int)<(N:Int):=by omega
 have hN64:(N:Int)<=64:=by have:=HALL.out.2.2.2.2.2.2.2.1;omega
 have hyz2:(y==z)=false:=by simpa using hyz
 have HYZ:=Lib.hid hyz;have HS:=Lib.hid (And.intro hy (And.intro hz (And.intro hq (And.intro hpN (And.intro hsl (And.intro hqN hsm))))));clear hy hz hq hpN hsl hqN hsm hrow hsv fk hidx b1 b2 b3
 go_wp2_with (fail)
 go_quiet (fail)
 have hst:stepR N (⟨5,oa,ob,oc⟩:OpX) C (T i)=(C,endR {T i with pc:=pc0+2} Ans.none):=by
  unfold stepR;have n1:¬(⟨5,oa,ob,oc⟩:OpX).k=1:=by show ¬(5:Int)=1;decide
  have n2:¬((⟨5,oa,ob,oc⟩:OpX).k=2\/(⟨5,oa,ob,oc⟩:OpX).k=3):=by show ¬((5:Int)=2\/(5:Int)=3);decide
  have n4:¬(⟨5,oa,ob,oc⟩:OpX).k=4:=by show ¬(5:Int)=4;decide
  rw[if_neg n1,if_neg n2,if_neg n4];have hp:¬pc0<N:=by have:=HS.out.2.2.1;omega
  have hi:pc0 - N=q:=by have:=HS.out.2.2.1;omega
  simp only[HOP.out.2.2.1,Nat.add_sub_cancel];rw[if_neg hp,hi,HS.out.1,HS.out.2.1];rw[if_pos HYZ.out]
 have he:=zq2t (i:=i) (a:=Ans.none) (H3.out.1.drew nq) HALL.out.2.1 HALL.out.2.2.1 (by rw[upd'_same];show(T i).ans.length<=_;rw[HALL.out.2.2.2.2.1.ans];have:=HALL.out.2.2.2.2.1.le;have:=HALL.out.2.2.2.1;omega) (by rw[upd'_same];show(T i).at'<=_;have:=HALL.out.2.2.2.2.1.le;have:=HALL.out.2.2.2.1;omega);have HE:=Lib.hid he;have HE2:=Lib.hid (And.intro (H3.out.2.1.trans (KeepB.drew nq)) hst);clear he hst
 go_wp2_with (fail)
 refine Calls.mono HE.out ?_;rintro e w5 ⟨rfl,⟨av',hR5⟩,hk5⟩
 go_wp2_with (fail)
 try simp only[Exit.inBlock,Exit.then]
 refine bodyPost_ret (results_none rfl _ _ _) rfl ?_;refine⟨rfl,⟨av',sv,?_⟩,HE2.out.1.trans hk5⟩;rw[HE2.out.2];rw[zq17,upd'_same]at hR5;exact hR5
end
section
variable {mb B n:Nat} {opv:Nat->Value} {C:List Int} {T:Nat->RT} {cv tv:Value} {av sv:Nat->Value} {w w':World}
theorem step5c_lone{i:Nat}{ops:List OpX}{oa ob oc:Int}(hx:C.length<(T i).pc)(hz:C.getD ((T i).pc - 1 - C.length) 0=(T i).seen.getD ((T i).pc - 1 - C.length) 0)(hl:(T i).pc=2*C.length)(h:RefRep mb B n opv C T cv tv av sv w)(hi:i<n)(hn:n<=64)(hops:OpsB B w (opv i) ops)(hlen:ops.length<=65536)(hfit:FitT ops (T i))(hok:OkT C.length ops (T i))(hpc:(T i).pc≠0)(hop:ops[(T i).at']?=some (⟨5,oa,ob,oc⟩:OpX))(hC0:0<C.length)(hC1:C.length<=64):
 Calls Try.prog 40 #[.pointer (some ⟨mb,0,none⟩),.int .i64 i] w λe w'=>e=.returned (.tuple #[])/\zq1a mb B n opv (stepR C.length (⟨5,oa,ob,oc⟩:OpX) C (T i)).1 (upd' T i (stepR C.length (⟨5,oa,ob,oc⟩:OpX) C (T i)).2) cv tv w w':=by
 have HX:=Lib.hid (And.intro hx (And.intro hz hl));clear hx hz hl;refine zq28 h hi hn hops hlen hfit hok hpc hop hC0 hC1 ?_;clear h hops hlen hfit hok hpc hop hC0 hC1;intro g Ct gc Cc N at0 pc0 L H w3 x hcv htv H3 HALL HOP HH hgB hcB hmg hpb m mc b0 b1 b2 b3;subst hcv htv;rw[HALL.out.2.2.2.2.2.2.2.2];have hp0:(0:Int)<=(pc0:Int):=by omega
 have hi0:(0:Int)<=(i:Int):=by omega
 have hin:(i:Int)<(n:Int):=by omega
 clear hi hn;obtain⟨u,hu⟩:∃c,hdC (stpT 4)=c:=⟨_,rfl⟩;obtain⟨u5,hu5⟩:∃c,stpT 5=c:=⟨_,rfl⟩;have eu:=hu;have eu5:=hu5;rw[hu,hu5];simp only[stpT,tlN,hdC,Try.f40,al_od]at eu eu5;subst eu eu5;clear hu hu5;obtain⟨q,hq⟩:∃q,pc0=N+q:=⟨pc0 - N,by have:=HX.out.1;have:=HOP.out.2.2.1;have:=HALL.out.2.2.2.2.2.2.2.2;omega⟩;obtain⟨hpN,hsl⟩:pc0<2*N/\(T i).seen.length=N:=by
  obtain⟨op',e,hg,o1,o2,o4,o5⟩:=HALL.out.2.2.2.2.2.1.stand (by rw[HOP.out.2.2.1];exact Nat.succ_ne_zero _);rw[HOP.out.2.1,HOP.out.1]at e;obtain rfl:=Option.some.inj e;have:=o5 rfl;have:=HOP.out.2.2.1;omega
 have hqN:q<N:=by omega
 obtain⟨y,hy⟩:∃y,C.getD q 0=y:=⟨_,rfl⟩;obtain⟨z,hz⟩:∃z,(T i).seen.getD q 0=z:=⟨_,rfl⟩;obtain⟨sm,hsm⟩:∃y,(T i).sum=y:=⟨_,rfl⟩;have hrow:w3.ownsRow B 2 1 (sv i) N ((T i).seen.map (Value.int .i64)):=by
  have:=H3.out.1.srow i HALL.out.2.1;rw[upd'_same]at this;rw[←hsl];exact this
 obtain⟨ps,Cs,hsv,-,-⟩:=zq12 hrow;have t6:w3.cell? ⟨g,i*7+6,none⟩=some (.slice ps N Cs):=by
  rw[(H3.out.1.trow.cell HALL.out.2.1 (show 6<7 by decide)).1,←hsv];rfl
 rw[hsv]at hrow;obtain⟨gs,rfl,_,cz,_⟩:=row_cell hrow (i:=q) (x:=.int .i64 z) (by rw[List.getElem?_map,←hz,List.getD_eq_getElem?_getD,List.getElem?_eq_getElem (by rw[hsl];exact hqN)];rfl);obtain⟨ck,fk⟩:=H3.out.1.strCell' HALL.out.2.2.2.2.2.2.2.2 hqN;rw[hy]at ck;have t5:w3.cell? ⟨g,i*7+5,none⟩=some (.int .i64 sm):=by
  rw[(H3.out.1.trow.cell HALL.out.2.1 (show 5<7 by decide)).1];simp only[thF,upd'_same];rw[hsm]
 have hidx:(T i).pc - 1 - C.length=q:=by have:=HOP.out.2.2.1;have:=HALL.out.2.2.2.2.2.2.2.2;omega
 have hyz:y=z:=by
  have:=HX.out.2.1;rw[hidx,hy,hz]at this;exact this
 subst hyz;have hsub:(pc0:Int) - (N:Int)=(q:Int):=by omega
 have hnlt:¬(pc0:Int)<(N:Int):=by omega
 have hq0:(0:Int)<=(q:Int):=by omega
 have hqN':(q:Int)<(N:Int):=by omega
 have hN64:(N:Int)<=64:=by have:=HALL.out.2.2.2.2.2.2.2.1;omega
 have hl2:((pc0:Int)==2*(N:Int) - 1)=true:=by have:=HX.out.2.2;have:=HOP.out.2.2.1;have:=HALL.out.2.2.2.2.2.2.2.2;simp;omega
 have HS:=Lib.hid (And.intro hy (And.intro hz (And.intro hq (And.intro hpN (And.intro hsl (And.intro hqN hsm))))));clear hy hz hq hpN hsl hqN hsm hrow hsv fk hidx b1 b2 b3
 go_wp2_with (fail)
 go_quiet (fail)
 have hst:stepR N (⟨5,oa,ob,oc⟩:OpX) C (T i)=(C,endR {T i with pc:=pc0+2} ⟨true,sm,[]⟩):=by
  unfold stepR;have n1:¬(⟨5,oa,ob,oc⟩:OpX).k=1:=by show ¬(5:Int)=1;decide
  have n2:¬((⟨5,oa,ob,oc⟩:OpX).k=2\/(⟨5,oa,ob,oc⟩:OpX).k=3):=by show ¬((5:Int)=2\/(5:Int)=3);decide
  have n4:¬(⟨5,oa,ob,oc⟩:OpX).k=4:=by show ¬(5:Int)=4;decide
  rw[if_neg n1,if_neg n2,if_neg n4];have hp:¬pc0<N:=by have:=HS.out.2.2.1;omega
  have hi:pc0 - N=q:=by have:=HS.out.2.2.1;omega
  simp only[HOP.out.2.2.1,Nat.add_sub_cancel];rw[if_neg hp,hi,HS.out.1,HS.out.2.1];have hl3:pc0+1=2*N:=by have:=HX.out.2.2;have:=HOP.out.2.2.1;have:=HALL.out.2.2.2.2.2.2.2.2;omega
  rw[if_neg (λh=>h rfl),if_pos hl3,HS.out.2.2.2.2.2.2]
 have he:=zq2t (i:=i) (a:=⟨true,sm,[]⟩) (H3.out.1.drew nq) HALL.out.2.1 HALL.out.2.2.1 (by rw[upd'_same];show(T i).ans.length<=_;rw[HALL.out.2.2.2.2.1.ans];have:=HALL.out.2.2.2.2.1.le;have:=HALL.out.2.2.2.1;omega) (by rw[upd'_same];show(T i).at'<=_;have:=HALL.out.2.2.2.2.1.le;have:=HALL.out.2.2.2.1;omega);have HE:=Lib.hid he;have HE2:=Lib.hid (And.intro (H3.out.2.1.trans (KeepB.drew nq)) hst);clear he hst
 go_wp2_with (fail)
 refine Calls.mono HE.out ?_;rintro e w5 ⟨rfl,⟨av',hR5⟩,hk5⟩
 go_wp2_with (fail)
 go_end0
 refine⟨rfl,⟨av',sv,?_⟩,HE2.out.1.trans hk5⟩;rw[HE2.out.2];rw[zq17,upd'_same]at hR5;exact hR5
end
section
variable {mb B n:Nat} {opv:Nat->Value} {C:List Int} {T:Nat->RT} {cv tv:Value} {av sv:Nat->Value} {w w':World}
theorem step5d_lone{i:Nat}{ops:List OpX}{oa ob oc:Int}(hx:C.length<(T i).pc)(hz:C.getD ((T i).pc - 1 - C.length) 0=(T i).seen.getD ((T i).pc - 1 - C.length) 0)(hl:(T i).pc≠2*C.length)(h:RefRep mb B n opv C T cv tv av sv w)(hi:i<n)(hn:n<=64)(hops:OpsB B w (opv i) ops)(hlen:ops.length<=65536)(hfit:FitT ops (T i))(hok:OkT C.length ops (T i))(hpc:(T i).pc≠0)(hop:ops[(T i).at']?=some (⟨5,oa,ob,oc⟩:OpX))(hC0:0<C.length)(hC1:C.length<=64):
 Calls Try.prog 40 #[.pointer (some ⟨mb,0,none⟩),.int .i64 i] w λe w'=>e=.returned (.tuple #[])/\zq1a mb B n opv (stepR C.length (⟨5,oa,ob,oc⟩:OpX) C (T i)).1 (upd' T i (stepR C.length (⟨5,oa,ob,oc⟩:OpX) C (T i)).2) cv tv w w':=by
 have HX:=Lib.hid (And.intro hx (And.intro hz hl));clear hx hz hl;refine zq28 h hi hn hops hlen hfit hok hpc hop hC0 hC1 ?_;clear h hops hlen hfit hok hpc hop hC0 hC1;intro g Ct gc Cc N at0 pc0 L H w3 x hcv htv H3 HALL HOP HH hgB hcB hmg hpb m mc b0 b1 b2 b3;subst hcv htv;rw[HALL.out.2.2.2.2.2.2.2.2];have hp0:(0:Int)<=(pc0:Int):=by omega
 have hi0:(0:Int)<=(i:Int):=by omega
 have hin:(i:Int)<(n:Int):=by omega
 clear hi hn;obtain⟨u,hu⟩:∃c,hdC (stpT 4)=c:=⟨_,rfl⟩;obtain⟨u5,hu5⟩:∃c,stpT 5=c:=⟨_,rfl⟩;have eu:=hu;have eu5:=hu5;rw[hu,hu5];simp only[stpT,tlN,hdC,Try.f40,al_od]at eu eu5;subst eu eu5;clear hu hu5;obtain⟨q,hq⟩:∃q,pc0=N+q:=⟨pc0 - N,by have:=HX.out.1;have:=HOP.out.2.2.1;have:=HALL.out.2.2.2.2.2.2.2.2;omega⟩;obtain⟨hpN,hsl⟩:pc0<2*N/\(T i).seen.length=N:=by
  obtain⟨op',e,hg,o1,o2,o4,o5⟩:=HALL.out.2.2.2.2.2.1.stand (by rw[HOP.out.2.2.1];exact Nat.succ_ne_zero _);rw[HOP.out.2.1,HOP.out.1]at e;obtain rfl:=Option.some.inj e;have:=o5 rfl;have:=HOP.out.2.2.1;omega
 have hqN:q<N:=by omega
 obtain⟨y,hy⟩:∃y,C.getD q 0=y:=⟨_,rfl⟩;obtain⟨z,hz⟩:∃z,(T i).seen.getD q 0=z:=⟨_,rfl⟩;obtain⟨sm,hsm⟩:∃y,(T i).sum=y:=⟨_,rfl⟩;have hrow:w3.ownsRow B 2 1 (sv i) N ((T i).seen.map (Value.int .i64)):=by
  have:=H3.out.1.srow i HALL.out.2.1;rw[upd'_same]at this;rw[←hsl];exact this
 obtain⟨ps,Cs,hsv,-,-⟩:=zq12 hrow;have t6:w3.cell? ⟨g,i*7+6,none⟩=some (.slice ps N Cs):=by
  rw[(H3.out.1.trow.cell HALL.out.2.1 (show 6<7 by decide)).1,←hsv];rfl
 rw[hsv]at hrow;obtain⟨gs,rfl,_,cz,_⟩:=row_cell hrow (i:=q) (x:=.int .i64 z) (by rw[List.getElem?_map,←hz,List.getD_eq_getElem?_getD,List.getElem?_eq_getElem (by rw[hsl];exact hqN)];rfl);obtain⟨ck,fk⟩:=H3.out.1.strCell' HALL.out.2.2.2.2.2.2.2.2 hqN;rw[hy]at ck;have t5:w3.cell? ⟨g,i*7+5,none⟩=some (.int .i64 sm):=by
  rw[(H3.out.1.trow.cell HALL.out.2.1 (show 5<7 by decide)).1];simp only[thF,upd'_same];rw[hsm]
 have hidx:(T i).pc - 1 - C.length=q:=by have:=HOP.out.2.2.1;have:=HALL.out.2.2.2.2.2.2.2.2;omega
 have hyz:y=z:=by
  have:=HX.out.2.1;rw[hidx,hy,hz]at this;exact this
 subst hyz;have hsub:(pc0:Int) - (N:Int)=(q:Int):=by omega
 have hnlt:¬(pc0:Int)<(N:Int):=by omega
 have hq0:(0:Int)<=(q:Int):=by omega
 have hqN':(q:Int)<(N:Int):=by omega
 have hN64:(N:Int)<=64:=by have:=HALL.out.2.2.2.2.2.2.2.1;omega
 have hl2:((pc0:Int)==2*(N:Int) - 1)=false:=by have:=HX.out.2.2;have:=HOP.out.2.2.1;have:=HALL.out.2.2.2.2.2.2.2.2;simp;omega
 have HS:=Lib.hid (And.intro hy (And.intro hz (And.intro hq (And.intro hpN (And.intro hsl (And.intro hqN hsm))))));clear hy hz hq hpN hsl hqN hsm hrow hsv fk hidx b1 b2 b3
 go_wp2_with (fail)
 go_quiet (fail)
 have hst:stepR N (⟨5,oa,ob,oc⟩:OpX) C (T i)=(C,{T i with pc:=pc0+2}):=by
  unfold stepR;have n1:¬(⟨5,oa,ob,oc⟩:OpX).k=1:=by show ¬(5:Int)=1;decide
  have n2:¬((⟨5,oa,ob,oc⟩:OpX).k=2\/(⟨5,oa,ob,oc⟩:OpX).k=3):=by show ¬((5:Int)=2\/(5:Int)=3);decide
  have n4:¬(⟨5,oa,ob,oc⟩:OpX).k=4:=by show ¬(5:Int)=4;decide
  rw[if_neg n1,if_neg n2,if_neg n4];have hp:¬pc0<N:=by have:=HS.out.2.2.1;omega
  have hi:pc0 - N=q:=by have:=HS.out.2.2.1;omega
  simp only[HOP.out.2.2.1,Nat.add_sub_cancel];rw[if_neg hp,hi,HS.out.1,HS.out.2.1];have hl3:¬pc0+1=2*N:=by have:=HX.out.2.2;have:=HOP.out.2.2.1;have:=HALL.out.2.2.2.2.2.2.2.2;omega
  rw[if_neg (λh=>h rfl),if_neg hl3]
 have HE2:=Lib.hid (And.intro (H3.out.2.1.trans (KeepB.drew nq)) hst);clear hst
 go_wp2_with (fail)
 go_end0
 refine⟨rfl,⟨av,sv,?_⟩,HE2.out.1⟩;rw[HE2.out.2];exact H3.out.1.drew nq
end
section
variable {mb B n:Nat} {opv:Nat->Value} {C:List Int} {T:Nat->RT} {cv tv:Value} {av sv:Nat->Value} {w w':World}
theorem step_lone{i:Nat}{ops:List OpX}{op:OpX}(h:RefRep mb B n opv C T cv tv av sv w)(hi:i<n)(hn:n<=64)(hops:OpsB B w (opv i) ops)(hlen:ops.length<=65536)(hfit:FitT ops (T i))(hok:OkT C.length ops (T i))(hpc:(T i).pc≠0)(hop:ops[(T i).at']?=some op)(hC0:0<C.length)(hC1:C.length<=64):
 Calls Try.prog 40 #[.pointer (some ⟨mb,0,none⟩),.int .i64 i] w λe w'=>e=.returned (.tuple #[])/\zq1a mb B n opv (stepR C.length op C (T i)).1 (upd' T i (stepR C.length op C (T i)).2) cv tv w w':=by
 obtain⟨op',e,hg,-⟩:=hok.stand hpc;rw[hop]at e;obtain rfl:=Option.some.inj e;obtain⟨k,a,b,c⟩:=op;unfold goodK at hg;simp only[Bool.and_eq_true,decide_eq_true_eq]at hg;obtain rfl |rfl |rfl |rfl |rfl:k=1\/k=2\/k=3\/k=4\/k=5:=by omega
 · exact step1_lone h hi hn hops hlen hfit hok hpc hop hC0 hC1
 · by_cases hx:(T i).pc=C.length
   · exact step2e_lone hx h hi hn hops hlen hfit hok hpc hop hC0 hC1
   · exact step2m_lone hx h hi hn hops hlen hfit hok hpc hop hC0 hC1
 · by_cases hx:(T i).pc=C.length
   · exact step3e_lone hx h hi hn hops hlen hfit hok hpc hop hC0 hC1
   · exact step3m_lone hx h hi hn hops hlen hfit hok hpc hop hC0 hC1
 · by_cases hx:(T i).pc=1
   · exact step4a_lone hx h hi hn hops hlen hfit hok hpc hop hC0 hC1
   · exact step4b_lone hx h hi hn hops hlen hfit hok hpc hop hC0 hC1
 · by_cases hx:(T i).pc<=C.length
   · exact step5a_lone hx h hi hn hops hlen hfit hok hpc hop hC0 hC1
   · have hx':C.length<(T i).pc:=by omega
     by_cases hz:C.getD ((T i).pc - 1 - C.length) 0=(T i).seen.getD ((T i).pc - 1 - C.length) 0
     · by_cases hl:(T i).pc=2*C.length
       · exact step5c_lone hx' hz hl h hi hn hops hlen hfit hok hpc hop hC0 hC1
       · exact step5d_lone hx' hz hl h hi hn hops hlen hfit hok hpc hop hC0 hC1
     · exact step5b_lone hx' hz h hi hn hops hlen hfit hok hpc hop hC0 hC1
theorem RefRep.keepT (h:RefRep mb B n opv C T cv tv av sv w)(hk:∀(b:Nat)(c:Array Value)(U:TypeId)(f:Nat×Nat),w.heap[b]?=some (.cells c U f)->¬outT U->w'.heap[b]?=some (.cells c U f)):RefRep mb B n opv C T cv tv av sv w':=by
 have kr:∀{T':TypeId}{k m:Nat}{u:Value}{xs:List Value},w.ownsRow B T' k u m xs->¬outT T'->∀q,u.ownBlock=some q->w'.heap[q]?=w.heap[q]?:=λhr hT q hq=>by
  obtain⟨⟨c,hc⟩,_⟩:=own_lt hr hq;rw[hc];exact hk _ _ _ _ hc hT
 refine⟨hk _ _ _ _ h.mach λh=>h.2.2.2 rfl,zqs h.crow (kr h.crow λh=>h.1 rfl),h.trow.of λq hq=>?_,λi hi=>zqs (h.arow i hi) (kr (h.arow i hi) λh=>h.2.1 rfl),λi hi=>zqs (h.srow i hi) (kr (h.srow i hi) λh=>h.1 rfl),h.asep,h.ssep,h.csep,h.lo⟩;obtain⟨⟨c,hc⟩,_⟩:=h.trow.lt hq;rw[hc];exact hk _ _ _ _ hc λh=>h.2.2.1 rfl
theorem own_unique{B' k m:Nat}{U:TypeId}{u:Value}{xs ys:List Value}(h1:w.ownsRow B' U k u m xs)(h2:w.ownsRow B' U k u m ys):xs=ys:=by
 have l1:=h1.1;have l2:=h2.1;rcases h1.2 with⟨hv,h0⟩|⟨g,cap,cur,hv,hB,hh,a1,a2,a3,a4⟩
 · rw[h0]at l1 l2;rw[List.eq_nil_of_length_eq_zero (by omega:xs.length=0),List.eq_nil_of_length_eq_zero (by omega:ys.length=0)]
 · rcases h2.2 with⟨hv',h0⟩|⟨g',cap',cur',hv',hB',hh',b1,b2,b3,b4⟩
   · rw[hv]at hv';cases hv'
   · rw[hv]at hv';cases hv';rw[hh]at hh';cases hh';rw[←a4,←b4]
theorem KeepB.row (hk:KeepB B w w'){B' k m:Nat}{U:TypeId}{u:Value}{xs:List Value}(hr:w.ownsRow B' U k u m xs)(hU:outT U):w'.ownsRow B' U k u m xs:=zqs hr λq hq=>by
 obtain⟨⟨c,hc⟩,_⟩:=own_lt hr hq;rw[hc];exact hk.typ _ _ _ _ hc hU
end
set_option maxHeartbeats 1000000
set_option maxRecDepth 100000
section
variable {NS N most:Nat} {ops:Nat->List OpX}
theorem fit_step{l:List OpX}{op:OpX}{t:RT}{C:List Int}(h:FitT l t)(hop:l[t.at']?=some op):FitT l (stepR NS op C t).2:=by
 have hlt:=(List.getElem?_eq_some_iff.1 hop).1;have he:∀(t1:RT)(a:Ans),t1.at'=t.at'->t1.ans=t.ans->FitT l (endR t1 a):=λt1 a h1 h2=>fit_end ⟨by rw[h1];exact h.le,by rw[h1,h2];exact h.ans⟩ (by rw[h1];exact hlt) a;have hs:∀(t1:RT),t1.at'=t.at'->t1.ans=t.ans->FitT l t1:=λt1 h1 h2=>⟨by rw[h1];exact h.le,by rw[h1,h2];exact h.ans⟩;unfold stepR;simp only
 repeat' split
 all_goals first|exact he _ _ rfl rfl |exact hs _ rfl rfl
theorem fit_setl{l:List OpX}{t:RT}(h:FitT l t):FitT l (setlR l t):=fit_settle _ _ h
structure InvR(NS n:Nat)(ops:Nat->List OpX)(most:Nat)(r:RS):Prop where
 len:r.C.length=NS
 ord:r.ord.length<=most
 thr:∀i,i<n->FitT (ops i) (r.T i)/\OkT NS (ops i) (r.T i)
theorem beginRS_C(C:List Int):∀n,(zq1i ops C n).C=C/\(zq1i ops C n).ord=[]:=by
 intro n
 induction n with
 |zero=>exact⟨rfl,rfl⟩
 |succ n ih=>exact⟨ih.1,ih.2⟩
theorem beginRS_un(C:List Int):∀n i,n<=i->(zq1i ops C n).T i=rt0:=by
 intro n
 induction n with
 |zero=>exact λ_ _=>rfl
 |succ n ih=>
  intro i hi;show upd' _ n _ i=_;rw[zqc _ _ (by omega)];exact ih i (by omega)
theorem fit_rt0(l:List OpX):FitT l rt0:=⟨Nat.zero_le _,rfl⟩
theorem ok_rt0(l:List OpX):OkT NS l rt0:=⟨λh=>absurd rfl h⟩
theorem inv_begin(hN:0<NS){C:List Int}(hC:C.length=NS):∀n,InvR NS n ops most (zq1i ops C n):=by
 intro n
 induction n with
 |zero=>exact⟨hC,Nat.zero_le _,λi hi=>absurd hi (Nat.not_lt_zero _)⟩
 |succ n ih=>
  refine⟨ih.len,ih.ord,λi hi=>?_⟩;show FitT (ops i) (upd' _ n _ i)/\OkT NS (ops i) (upd' _ n _ i)
  by_cases e:i=n
  · subst e;rw[upd'_same];exact⟨fit_setl (fit_rt0 _),ok_settle hN _ _ (ok_rt0 _)⟩
  · rw[zqc _ _ e];exact ih.thr i (by omega)
theorem goR_eq{i:Nat}{r:RS}{op:OpX}(hop:(ops i)[(r.T i).at']?=some op):goR NS ops i r=((stepR NS op r.C (r.T i)).1,setlR (ops i) (stepR NS op r.C (r.T i)).2):=by
 unfold goR;rw[hop]
theorem inv_turn(hN:0<NS){n i:Nat}{r:RS}(h:InvR NS n ops most r)(hi:i<n)(hpc:(r.T i).pc≠0)(hlt:r.ord.length<most):InvR NS n ops most (turnR i (goR NS ops i r) r (r.ord++[i])):=by
 obtain⟨hf,hk⟩:=h.thr i hi;obtain⟨op,hop,-⟩:=hk.stand hpc;rw[goR_eq hop];refine⟨by show(stepR NS op r.C (r.T i)).1.length=NS;rw[stepR_len];exact h.len,by show(r.ord++[i]).length<=most;rw[List.length_append];exact hlt,λj hj=>?_⟩;show FitT (ops j) (upd' _ i _ j)/\OkT NS (ops j) (upd' _ i _ j)
 by_cases e:j=i
 · subst e;rw[upd'_same];exact⟨fit_setl (fit_step hf hop),ok_settle hN _ _ (ok_step hN hk hpc hop)⟩
 · rw[zqc _ _ e];exact h.thr j hj
theorem step1R_go{x:Int}{r:RS}(h0:0<=x)(h1:x<N)(hp:(r.T x.toNat).pc≠0)(hm:r.ord.length<most):zq16 NS ops N most x r=turnR x.toNat (goR NS ops x.toNat r) r (r.ord++[x.toNat]):=by
 unfold zq16;rw[if_neg];rintro(h|h|h|h)
 · omega
 · omega
 · exact hp h
 · omega
theorem zq39{x:Int}{r:RS}(h:x<0\/(N:Int)<=x\/(r.T x.toNat).pc=0\/r.ord.length=most):zq16 NS ops N most x r=r:=by
 unfold zq16;rw[if_pos h]
theorem stepsR_full:∀(l:List Int){r:RS},r.ord.length=most->zqx NS ops N most l r=r:=by
 intro l
 induction l with
 |nil=>exact λ_=>rfl
 |cons x l ih=>
  intro r h;show zqx NS ops N most l (zq16 NS ops N most x r)=r;rw[zq39 (.inr (.inr (.inr h)))];exact ih h
theorem step1R_ord(x:Int)(r:RS):zq16 NS ops N most x r=r\/(zq16 NS ops N most x r).ord.length=r.ord.length+1:=by
 unfold zq16;split
 · exact .inl rfl
 · refine .inr ?_;show(r.ord++[x.toNat]).length=_;rw[List.length_append];rfl
theorem stepsR_ord:∀(l:List Int)(r:RS),r.ord.length<=(zqx NS ops N most l r).ord.length:=by
 intro l
 induction l with
 |nil=>exact λ_=>Nat.le_refl _
 |cons x l ih=>
  intro r;refine Nat.le_trans ?_ (ih (zq16 NS ops N most x r));rcases step1R_ord (NS:=NS) (ops:=ops) (N:=N) (most:=most) x r with h|h
  · rw[h];exact Nat.le_refl _
  · omega
theorem stepsR_still:∀(l:List Int)(r:RS),(zqx NS ops N most l r).ord.length=r.ord.length->∀x∈l,zq16 NS ops N most x r=r:=by
 intro l
 induction l with
 |nil=>intro r _ x hx;cases hx
 |cons y l ih=>
  intro r h x hx;have h':(zqx NS ops N most l (zq16 NS ops N most y r)).ord.length=r.ord.length:=h;rcases step1R_ord (NS:=NS) (ops:=ops) (N:=N) (most:=most) y r with e|e
  · rw[e]at h';rcases List.mem_cons.1 hx with rfl |hx
    · exact e
    · exact ih r h' x hx
  · have:=stepsR_ord (NS:=NS) (ops:=ops) (N:=N) (most:=most) l (zq16 NS ops N most y r);omega
theorem leftN_some{ov:Nat->Bool}{n:Nat}(h:0<leftN ov n):∃i,i<n/\ov i=false:=by
 induction n with
 |zero=>unfold leftN at h;omega
 |succ n ih=>
  unfold leftN at h
  by_cases e:ov n=false
  · exact⟨n,Nat.lt_succ_self _,e⟩
  · rw[if_pos (by simpa using e)]at h;obtain⟨i,hi,hv⟩:=ih (by omega);exact⟨i,by omega,hv⟩
theorem round_grows{r:RS}(hl:0<leftN (ovR r) N)(hm:r.ord.length<most):r.ord.length<(zqx NS ops N most (upto N) r).ord.length:=by
 rcases Nat.lt_or_ge r.ord.length (zqx NS ops N most (upto N) r).ord.length with h|h
 · exact h
 · exfalso;have e:=Nat.le_antisymm h (stepsR_ord (upto N) r);obtain⟨i,hi,hv⟩:=leftN_some hl;have hs:=stepsR_still (upto N) r e (i:Int) (List.mem_map.2 ⟨i,List.mem_range.2 hi,rfl⟩);have hp:(r.T i).pc≠0:=by unfold ovR at hv;simpa using hv
   rw[step1R_go (by omega) (by omega) hp hm]at hs;have:(r.ord++[(i:Int).toNat]).length=r.ord.length:=congrArg (λr=>r.ord.length) hs;rw[List.length_append]at this;simp at this
theorem roundsR_go{f:Nat}{r:RS}(hl:0<leftN (ovR r) N)(hm:r.ord.length<most):zq1v NS ops N most (f+1) r=zq1v NS ops N most f (zqx NS ops N most (upto N) r):=by
 conv=>lhs;unfold zq1v
 rw[if_pos ⟨hl,hm⟩]
theorem roundsR_stop{f:Nat}{r:RS}(h:¬(0<leftN (ovR r) N/\r.ord.length<most)):zq1v NS ops N most f r=r:=by
 cases f with
 |zero=>rfl
 |succ f=>unfold zq1v;rw[if_neg h]
theorem zq33{l:List Int}{j:Nat}{x:Int}(h:l[j]?=some x)(r:RS):zqx NS ops N most (l.drop j) r=zqx NS ops N most (l.drop (j+1)) (zq16 NS ops N most x r):=by
 rw[List.drop_eq_getElem_cons (List.getElem?_eq_some_iff.1 h).1,(List.getElem?_eq_some_iff.1 h).2];rfl
theorem upto_get{N j:Nat}(h:j<N):(upto N)[j]?=some (j:Int):=by
 unfold upto;rw[List.getElem?_map,List.getElem?_range h];rfl
theorem upto_len(N:Nat):(upto N).length=N:=by unfold upto;simp
end
end Go.Proofs
