/- YtkdlklpffdlglaaBox15: part 7 of the proof (the texts behind it, in order). -/
import Derived.Test.YtkdlklpffdlglaaW06
set_option maxHeartbeats 4000000
set_option maxRecDepth 100000
set_option linter.all false
namespace Go.Proofs
open Go Go.Conc Go.RowKit Go.Car
open Go.ConcN (upd upd_ne upd_same)
section
variable {M:Type}
theorem zq8g{Fin:Machine->Trace->Prop}(hFin:Back Try.prog Fin){A:OA}{B:Bx}{Kc:Addr->Option Value}{n:Nat}{inb:Nat->Option Seat}{w:World}{thr sch:Value}{L:Nat}{Ts:Array Value}(hF:Fr A B thr sch Ts)(t77:Ts[77]?=some (.int .i64 L))(t78:Ts[78]?=some (.int .i64 L))
 {b:Frame} (hb:b.kind≠.early) {ds:List Deferred} {K:List Item} {cs:List Frame} (hmain:∀Ts',Fr A B thr sch Ts'->HoldR Try.prog Fin Kc inb 0 n (G (b.at ⟨Ts',ds⟩ K) cs) w):
 HoldR Try.prog Fin Kc inb 0 n (G (b.at ⟨Ts,ds⟩ (.code lpC::.inLoop lpC::.inBlock 4::K)) cs) w:=by
 have hJ:=zq11 hFin Kc inb n;obtain⟨hsz,f2,f3,f4,f5,f6,f7,f8,f9⟩:=hF;have hm:=Lib.hid hmain;clear hmain;have elp:lpC=match headC (tailN 8 (Try.f22.body.getD .skip))with|.seq _ (.block _ (.loop c))=>c|_=>.skip:=rfl
 simp only[headC,tailN,Try.f22,al_od]at elp;generalize hlp:lpC=lp at elp |- hm;subst elp;refine hJ.ctl (s:=()) (λw=>stepG_seq) ?_;refine hJ.ctl (s:=()) (λw=>stepG_region) ?_;refine zqp (J:=λ(_:Unit)=>HoldR Try.prog Fin Kc inb 0 n) (s:=()) hJ hb 0 [.bool false] [] rfl (by simp) (by rfl) ?_ ?_
 . intro τ d;simp only[zqm,dstOf,al_gl,al_g0,al_g1,al_ob];refine⟨?_,trivial⟩<;>(intro o ho;simp only[al_oi]at ho;subst ho)
   all_goals(try simp only[execOp,Act.eval,al_gd])
   all_goals(try simp only[al_gs,al_gz,hsz,f2,f3,f4,f5,f6,f7,f8,f9,t77,t78,Nat.reduceEqDiff,Nat.reduceLT,↓reduceIte,al_od])
   all_goals(have hlt:∀i,i<129->i<(Ts).size:=λi hi=>(by rw[hsz];exact hi))
   all_goals(clear hsz f2 f3 f4 f5 f6 f7 f8 f9 t77 t78)
   all_goals(try go_simp)
   all_goals(try omega)
 simp only[putv,dstOf,al_gl,al_g0,al_g1,al_ob];obtain⟨T1,hT⟩:∃X,X=(Ts).setIfInBounds 79 (.bool false):=⟨_,rfl⟩;rw[<-hT];have hT1:T1.size=129:=by rw[hT];simp[hsz]
 have T1_0:=sg1 hT f2;have T1_1:=sg1 hT f3;have T1_5:=sg1 hT f4;have T1_6:=sg1 hT f5;have T1_9:=sg1 hT f6;have T1_10:=sg1 hT f7;have T1_11:=sg1 hT f8;have T1_13:T1[13]?=some (stepV A B):=sg1 hT f9;have T1_77:=sg1 hT t77;have T1_78:=sg1 hT t78;have T1_79:T1[79]?=some (.bool false):=by rw[hT];simp[al_gs,hsz]
 clear hT f2 f3 f4 f5 f6 f7 f8 f9 t77 t78 hsz;refine hJ.ctl (s:=()) (λw=>stepG_region_end) ?_;refine hJ.ctl (s:=()) (λw=>stepG_seq) ?_;refine hJ.ctl (s:=()) (λw=>stepG_cond (t:=false) (by simp[Act.eval,al_gd,T1_79])) ?_;simp only[Bool.false_eq_true,if_false];refine hJ.ctl (s:=()) (λw=>stepG_exit (k':=K) rfl) ?_;exact hm.out _ ⟨hT1,T1_0,T1_1,T1_5,T1_6,T1_9,T1_10,T1_11,T1_13⟩
theorem zq84{T:Thr M}{A:OA}{B:Bx}{Kc:Addr->Option Value}{w₀:World}{m₀:M}{most s:Nat}{E:Nat->Option Obj}{k:Nat}{a:OSt M}{left:Nat}{v:Value}{inb:Nat->Option Seat}{w:World}(h:Inv T A B Kc w₀ m₀ most s E k a left v inb w){ad:Addr}{x:Value}(hc:w₀.cell? ad=some x)(hb:ad.block<B.B0)(hf:¬T.foot m₀ ad.block):w.cell? ad=some x:=by
 have hlt:=Go.Car.cell_lt hc;have h1:w₀.heap[ad.block]?=some w₀.heap[ad.block]:=Array.getElem?_eq_getElem hlt;rw[<-hc];exact zq16 ((h.heap_old hb hf h1).trans h1.symm)
theorem zqen{Fin:Machine->Trace->Prop}(hFin:Back Try.prog Fin){T:Thr M}{A:OA}{B:Bx}{Kc:Addr->Option Value}{w₀:World}{m₀:M}{most n:Nat}(hn:A.n0+A.N<=n){thr sch:Value}{sb off C:Nat}{sched:List Int}(hL:sched.length<=4611686018427387904)
 (hmem:∀j x,sched[j]?=some x->(w₀.cell? ⟨sb,off+j,none⟩=some (.int .i64 x)/\sb<B.B0/\¬T.foot m₀ sb)\/∀m w,T.Rep m w->w.cell? ⟨sb,off+j,none⟩=some (.int .i64 x)) {b:Frame} (hb:b.kind≠.early) {ds:List Deferred} {K:List Item} {cs:List Frame}:
 ∀(r j:Nat),j+r=sched.length->∀{E:Nat->Option Obj}{k:Nat}{a:OSt M}{v:Value}{inb:Nat->Option Seat}{w:World}{Ts:Array Value},Inv T A B Kc w₀ m₀ most A.N E k a (leftN a.ov A.N) v inb w->most+100<=k+a.ord.length->Fr A B thr sch Ts->
  Ts[76]?=some (.slice (some ⟨sb,off,none⟩) sched.length C)->Ts[77]?=some (.int .i64 sched.length)->Ts[78]?=some (.int .i64 j)->
  (∀a' E' k' v' inb' w' Ts',StepsR T A.N most (sched.drop j) a a'->most+100<=k'+a'.ord.length->Inv T A B Kc w₀ m₀ most A.N E' k' a' (leftN a'.ov A.N) v' inb' w'->Fr A B thr sch Ts'->HoldR Try.prog Fin Kc inb' 0 n (G (b.at ⟨Ts',ds⟩ K) cs) w')->
  HoldR Try.prog Fin Kc inb 0 n (G (b.at ⟨Ts,ds⟩ (.code lpC::.inLoop lpC::.inBlock 4::K)) cs) w:=by
 intro r
 induction r with
 |zero=>
  intro j hj E k a v inb w Ts hI hk hF t76 t77 t78 hmain;have e:j=sched.length:=by omega
  subst e;refine zq8g hFin (B:=B) (A:=A) hF t77 t78 hb λTs' hF'=>?_;exact hmain a E k v inb w Ts' (by rw[List.drop_length];exact .nil a) hk hI hF'
 |succ r ih=>
  intro j hj E k a v inb w Ts hI hk hF t76 t77 t78 hmain;have hjl:j<sched.length:=by omega
  have hx:sched[j]?=some sched[j]:=List.getElem?_eq_getElem hjl;obtain⟨k,rfl⟩:∃k',k=k'+1:=⟨k - 1,by have:=hI.len;omega⟩;refine zqeo hFin hI hn hF hjl hL t76 t77 t78 ((hmem j _ hx).elim (λh=>zq84 hI h.1 h.2.1 h.2.2) λh=>h _ _ hI.cf.rep) hb λa' E' k' v' inb' w' Ts' hst hk' hI' hF' u76 u77 u78=>?_;have hJ':=zq11 hFin Kc inb' n;refine hJ'.ctl (s:=()) (λw=>stepG_inLoop) ?_;refine ih (j+1) (by omega) hI' (by omega) hF' u76 u77 u78 λa'' E'' k'' v'' inb'' w'' Ts'' hss hk'' hI'' hF''=>?_;refine hmain a'' E'' k'' v'' inb'' w'' Ts'' ?_ hk'' hI'' hF'';rw[List.drop_eq_getElem_cons hjl];exact .cons hst hss
noncomputable def lpD:Code:=match headC (tailN 9 (Try.f22.body.getD .skip))with|.block _ (.loop c)=>c|_=>.skip
noncomputable def lpE:Code:=match lpD with|.seq _ (.block _ (.seq _ (.block _ (.loop c))))=>c|_=>.skip
theorem zqcu{Fin:Machine->Trace->Prop}(hFin:Back Try.prog Fin){T:Thr M}{A:OA}{B:Bx}{Kc:Addr->Option Value}{w₀:World}{m₀:M}{most n:Nat}{E:Nat->Option Obj}{k:Nat}{a:OSt M}{v:Value}{inb:Nat->Option Seat}{w:World}
 (h:Inv T A B Kc w₀ m₀ most A.N E (k+1) a (leftN a.ov A.N) v inb w) (hn:A.n0+A.N<=n) {thr sch:Value} {j:Nat} {Ts:Array Value} (hF:Fr A B thr sch Ts) (hj:j<A.N) (t94:Ts[94]?=some (.int .i64 A.N)) (t95:Ts[95]?=some (.int .i64 j))
 {b:Frame} (hb:b.kind≠.early) {ds:List Deferred} {K:List Item} {cs:List Frame}
 (hmain:∀a' E' k' v' inb' w'(Ts':Array Value),Step1 T A.N most j a a'->k+a.ord.length+1<=k'+a'.ord.length->Inv T A B Kc w₀ m₀ most A.N E' k' a' (leftN a'.ov A.N) v' inb' w'->Fr A B thr sch Ts'->Ts'[94]?=some (.int .i64 A.N)->Ts'[95]?=some (.int .i64 (j+1:Nat))->
  HoldR Try.prog Fin Kc inb' 0 n (G (b.at ⟨Ts',ds⟩ (.inLoop lpE::.inBlock 8::K)) cs) w'):
 HoldR Try.prog Fin Kc inb 0 n (G (b.at ⟨Ts,ds⟩ (.code lpE::.inLoop lpE::.inBlock 8::K)) cs) w:=by
 have hJ:=zq11 hFin Kc inb n;have hN64:=h.N;obtain⟨hsz,f2,f3,f4,f5,f6,f7,f8,f9⟩:=hF;have hm:=Lib.hid hmain;clear hmain;have elp:lpE=match lpD with|.seq _ (.block _ (.seq _ (.block _ (.loop c))))=>c|_=>.skip:=rfl
 simp only[lpD,headC,tailN,Try.f22,al_od]at elp;generalize hlp:lpE=lp at elp |- hm;subst elp;have hjL:(j:Int)<A.N:=by omega
 have hj0:(0:Int)<=j:=by omega
 refine hJ.ctl (s:=()) (λw=>stepG_seq) ?_;refine hJ.ctl (s:=()) (λw=>stepG_region) ?_;refine zqp (J:=λ(_:Unit)=>HoldR Try.prog Fin Kc inb 0 n) (s:=()) hJ hb 0 [.bool true] [] rfl (by simp) (by rfl) ?_ ?_
 . intro τ d;simp only[zqm,dstOf,al_gl,al_g0,al_g1,al_ob];refine⟨?_,trivial⟩<;>(intro o ho;simp only[al_oi]at ho;subst ho)
   all_goals(try simp only[execOp,Act.eval,al_gd])
   all_goals(try simp only[al_gs,al_gz,hsz,f2,f3,f4,f5,f6,f7,f8,f9,t94,t95,Nat.reduceEqDiff,Nat.reduceLT,↓reduceIte,al_od])
   all_goals(have hlt:∀i,i<129->i<(Ts).size:=λi hi=>(by rw[hsz];exact hi))
   all_goals(clear hsz f2 f3 f4 f5 f6 f7 f8 f9 t94 t95)
   all_goals(try go_simp)
   all_goals(try omega)
 simp only[putv,dstOf,al_gl,al_g0,al_g1,al_ob];obtain⟨T1,hT⟩:∃X,X=(Ts).setIfInBounds 96 (.bool true):=⟨_,rfl⟩;rw[<-hT];have hT1:T1.size=129:=by rw[hT];simp[hsz]
 have T1_0:=sg1 hT f2;have T1_1:=sg1 hT f3;have T1_5:=sg1 hT f4;have T1_6:=sg1 hT f5;have T1_9:=sg1 hT f6;have T1_10:=sg1 hT f7;have T1_11:=sg1 hT f8;have T1_13:T1[13]?=some (stepV A B):=sg1 hT f9;have T1_94:=sg1 hT t94;have T1_95:=sg1 hT t95;have T1_96:T1[96]?=some (.bool true):=by rw[hT];simp[al_gs,hsz]
 clear hT f2 f3 f4 f5 f6 f7 f8 f9 t94 t95 hsz;refine hJ.ctl (s:=()) (λw=>stepG_region_end) ?_;refine hJ.ctl (s:=()) (λw=>stepG_seq) ?_;refine hJ.ctl (s:=()) (λw=>stepG_cond (t:=true) (by simp[Act.eval,al_gd,T1_96])) ?_;simp only[if_true];refine hJ.ctl (s:=()) (λw=>stepG_skip) ?_;refine hJ.ctl (s:=()) (λw=>stepG_seq) ?_;refine hJ.ctl (s:=()) (λw=>stepG_block) ?_;refine hJ.ctl (s:=()) (λw=>stepG_seq) ?_;refine hJ.ctl (s:=()) (λw=>stepG_region) ?_;refine zqp (J:=λ(_:Unit)=>HoldR Try.prog Fin Kc inb 0 n) (s:=()) hJ hb 0 [.int .i64 j,.int .i64 j] [] rfl (by simp) (by rfl) ?_ ?_
 . intro τ d;simp only[zqm,dstOf,al_gl,al_g0,al_g1,al_ob];refine⟨?_,?_,trivial⟩<;>(intro o ho;simp only[al_oi]at ho;subst ho)
   all_goals(try simp only[execOp,Act.eval,al_gd])
   all_goals(try simp only[al_gs,al_gz,hT1,T1_0,T1_1,T1_5,T1_6,T1_9,T1_10,T1_11,T1_13,T1_94,T1_95,T1_96,Nat.reduceEqDiff,Nat.reduceLT,↓reduceIte,al_od])
   all_goals(have hlt:∀i,i<129->i<(T1).size:=λi hi=>(by rw[hT1];exact hi))
   all_goals(clear hT1 T1_0 T1_1 T1_5 T1_6 T1_9 T1_10 T1_11 T1_13 T1_94 T1_95 T1_96)
   all_goals(try go_simp)
   all_goals(try omega)
 simp only[putv,dstOf,al_gl,al_g0,al_g1,al_ob];obtain⟨T2,hT⟩:∃X,X=((T1).setIfInBounds 97 (.int .i64 j)).setIfInBounds 16 (.int .i64 j):=⟨_,rfl⟩;rw[<-hT];have hT2:T2.size=129:=by rw[hT];simp[hT1]
 have T2_0:=sg2 hT T1_0;have T2_1:=sg2 hT T1_1;have T2_5:=sg2 hT T1_5;have T2_6:=sg2 hT T1_6;have T2_9:=sg2 hT T1_9;have T2_10:=sg2 hT T1_10;have T2_11:=sg2 hT T1_11;have T2_13:T2[13]?=some (stepV A B):=sg2 hT T1_13;have T2_94:=sg2 hT T1_94;have T2_95:=sg2 hT T1_95;have T2_96:=sg2 hT T1_96;have T2_97:T2[97]?=some (.int .i64 j):=by rw[hT];simp[al_gs,hT1]
 have T2_16:T2[16]?=some (.int .i64 j):=by rw[hT];simp[al_gs,hT1]
 clear hT T1_0 T1_1 T1_5 T1_6 T1_9 T1_10 T1_11 T1_13 T1_94 T1_95 T1_96 hT1;refine hJ.ctl (s:=()) (λw=>stepG_region_end) ?_;refine hJ.ctl (s:=()) (λw=>stepG_region) ?_;refine zqp (J:=λ(_:Unit)=>HoldR Try.prog Fin Kc inb 0 n) (s:=()) hJ hb 0 [stepV A B,.int .i64 j] [2] rfl (by simp) (by rfl) ?_ ?_
 . intro τ d;simp only[zqm,dstOf,al_gl,al_g0,al_g1,al_ob];refine⟨?_,?_,trivial⟩<;>(intro o ho;simp only[al_oi]at ho;subst ho)
   all_goals(try simp only[execOp,Act.eval,al_gd])
   all_goals(try simp only[al_gs,al_gz,hT2,T2_0,T2_1,T2_5,T2_6,T2_9,T2_10,T2_11,T2_13,T2_94,T2_95,T2_96,T2_97,T2_16,Nat.reduceEqDiff,Nat.reduceLT,↓reduceIte,al_od])
   all_goals(have hlt:∀i,i<129->i<(T2).size:=λi hi=>(by rw[hT2];exact hi))
   all_goals(clear hT2 T2_0 T2_1 T2_5 T2_6 T2_9 T2_10 T2_11 T2_13 T2_94 T2_95 T2_96 T2_97 T2_16)
   all_goals(try go_simp)
   all_goals(try omega)
 simp only[putv,dstOf,al_gl,al_g0,al_g1,al_ob];obtain⟨T3,hT⟩:∃X,X=((T2).setIfInBounds 98 (stepV A B)).setIfInBounds 99 (.int .i64 j):=⟨_,rfl⟩;rw[<-hT];have hT3:T3.size=129:=by rw[hT];simp[hT2]
 have T3_0:=sg2 hT T2_0;have T3_1:=sg2 hT T2_1;have T3_5:=sg2 hT T2_5;have T3_6:=sg2 hT T2_6;have T3_9:=sg2 hT T2_9;have T3_10:=sg2 hT T2_10;have T3_11:=sg2 hT T2_11;have T3_13:T3[13]?=some (stepV A B):=sg2 hT T2_13;have T3_94:=sg2 hT T2_94;have T3_95:=sg2 hT T2_95;have T3_96:=sg2 hT T2_96;have T3_97:=sg2 hT T2_97;have T3_16:=sg2 hT T2_16;have T3_98:T3[98]?=some (stepV A B):=by rw[hT];simp[al_gs,hT2]
 have T3_99:T3[99]?=some (.int .i64 j):=by rw[hT];simp[al_gs,hT2]
 clear hT T2_0 T2_1 T2_5 T2_6 T2_9 T2_10 T2_11 T2_13 T2_94 T2_95 T2_96 T2_97 T2_16 hT2;refine zq1q (J:=λ(_:Unit)=>HoldR Try.prog Fin Kc inb 0 n) (s:=()) hb hJ rfl (by simp[Region.wanted]) (f:=53) (args:=#[.int .i64 j,.pointer (some ⟨B.bN,0,none⟩),.pointer (some ⟨A.bX,0,none⟩),.pointer (some ⟨B.bO,0,none⟩),.pointer (some ⟨B.bM,0,none⟩),.pointer (some ⟨B.bL,0,none⟩)]) (λτ d=>?_) (λτ d=>?_) ?_
 . simp[go_sem,execOp,Act.eval,resolve,Deferred.ofValue,invoke,callFunc,Try.func53,Try.f53,stepV,al_gd,T3_98,T3_99]
 . intro e he;simp[go_sem,execOp,Act.eval,resolve,Deferred.ofValue,invoke,callFunc,Try.func53,Try.f53,Sem.runT_eq,stepV,al_gd,T3_98,T3_99]at he
 refine zq9d hFin h (j:Int) hn λa' E' k' v' inb' w' hst hk hI=>?_;have hJ3:=zq11 hFin Kc inb' n;rw[Frame.finish_at]
 try walk_nrm
 obtain⟨T4,hT⟩:∃X,X=(T3).setIfInBounds 100 (.tuple #[]):=⟨_,rfl⟩;rw[<-hT];have hT4:T4.size=129:=by rw[hT];simp[hT3]
 have T4_0:=sg1 hT T3_0;have T4_1:=sg1 hT T3_1;have T4_5:=sg1 hT T3_5;have T4_6:=sg1 hT T3_6;have T4_9:=sg1 hT T3_9;have T4_10:=sg1 hT T3_10;have T4_11:=sg1 hT T3_11;have T4_13:T4[13]?=some (stepV A B):=sg1 hT T3_13;have T4_94:=sg1 hT T3_94;have T4_95:=sg1 hT T3_95;have T4_96:=sg1 hT T3_96;have T4_97:=sg1 hT T3_97;have T4_16:=sg1 hT T3_16;have T4_98:T4[98]?=some (stepV A B):=sg1 hT T3_98;have T4_99:=sg1 hT T3_99;have T4_100:T4[100]?=some (.tuple #[]):=by rw[hT];simp[al_gs,hT3]
 clear hT T3_0 T3_1 T3_5 T3_6 T3_9 T3_10 T3_11 T3_13 T3_94 T3_95 T3_96 T3_97 T3_16 T3_98 T3_99 hT3;refine hJ3.ctl (s:=()) (λw=>stepG_region_end) ?_;refine hJ3.ctl (s:=()) (λw=>stepG_inBlock) ?_;refine hJ3.ctl (s:=()) (λw=>stepG_region) ?_;have hwr:IntKind.i64.wrap ((j:Int)+1)=((j+1:Nat):Int):=by
  rw[show(j:Int)+1=((j+1:Nat):Int)by omega];exact IntWalk.i64_in _ (by omega)
 refine zqp (J:=λ(_:Unit)=>HoldR Try.prog Fin Kc inb' 0 n) (s:=()) hJ3 hb 0 [.int .i64 ((j+1:Nat):Int),.int .i64 ((j+1:Nat):Int)] [] rfl (by simp) (by rfl) ?_ ?_
 . intro τ d;simp only[zqm,dstOf,al_gl,al_g0,al_g1,al_ob];refine⟨?_,?_,trivial⟩<;>(intro o ho;simp only[al_oi]at ho;subst ho)
   all_goals(try simp only[execOp,Act.eval,al_gd])
   all_goals(try simp only[al_gs,al_gz,hT4,T4_0,T4_1,T4_5,T4_6,T4_9,T4_10,T4_11,T4_13,T4_94,T4_95,T4_96,T4_97,T4_16,T4_98,T4_99,T4_100,Nat.reduceEqDiff,Nat.reduceLT,↓reduceIte,al_od])
   all_goals(have hlt:∀i,i<129->i<(T4).size:=λi hi=>(by rw[hT4];exact hi))
   all_goals(clear hT4 T4_0 T4_1 T4_5 T4_6 T4_9 T4_10 T4_11 T4_13 T4_94 T4_95 T4_96 T4_97 T4_16 T4_98 T4_99 T4_100)
   all_goals(try go_simp)
   all_goals(try omega)
 simp only[putv,dstOf,al_gl,al_g0,al_g1,al_ob];obtain⟨T5,hT⟩:∃X,X=((T4).setIfInBounds 101 (.int .i64 ((j+1:Nat):Int))).setIfInBounds 95 (.int .i64 ((j+1:Nat):Int)):=⟨_,rfl⟩;rw[<-hT];have hT5:T5.size=129:=by rw[hT];simp[hT4]
 have T5_0:=sg2 hT T4_0;have T5_1:=sg2 hT T4_1;have T5_5:=sg2 hT T4_5;have T5_6:=sg2 hT T4_6;have T5_9:=sg2 hT T4_9;have T5_10:=sg2 hT T4_10;have T5_11:=sg2 hT T4_11;have T5_13:T5[13]?=some (stepV A B):=sg2 hT T4_13;have T5_94:=sg2 hT T4_94;have T5_96:=sg2 hT T4_96;have T5_97:=sg2 hT T4_97;have T5_16:=sg2 hT T4_16;have T5_98:T5[98]?=some (stepV A B):=sg2 hT T4_98;have T5_99:=sg2 hT T4_99;have T5_100:=sg2 hT T4_100;have T5_101:T5[101]?=some (.int .i64 ((j+1:Nat):Int)):=by rw[hT];simp[al_gs,hT4]
 have T5_95:T5[95]?=some (.int .i64 ((j+1:Nat):Int)):=by rw[hT];simp[al_gs,hT4]
 clear hT T4_0 T4_1 T4_5 T4_6 T4_9 T4_10 T4_11 T4_13 T4_94 T4_95 T4_96 T4_97 T4_16 T4_98 T4_99 T4_100 hT4;refine hJ3.ctl (s:=()) (λw=>stepG_region_end) ?_;exact hm.out _ E' k' v' inb' w' _ hst hk hI ⟨hT5,T5_0,T5_1,T5_5,T5_6,T5_9,T5_10,T5_11,T5_13⟩ T5_94 T5_95
theorem zqcs{Fin:Machine->Trace->Prop}(hFin:Back Try.prog Fin){A:OA}{B:Bx}{Kc:Addr->Option Value}{n:Nat}{inb:Nat->Option Seat}{w:World}{thr sch:Value}{Ts:Array Value}(hF:Fr A B thr sch Ts)(t94:Ts[94]?=some (.int .i64 A.N))(t95:Ts[95]?=some (.int .i64 A.N))
 {b:Frame} (hb:b.kind≠.early) {ds:List Deferred} {K:List Item} {cs:List Frame} (hmain:∀Ts',Fr A B thr sch Ts'->HoldR Try.prog Fin Kc inb 0 n (G (b.at ⟨Ts',ds⟩ K) cs) w):
 HoldR Try.prog Fin Kc inb 0 n (G (b.at ⟨Ts,ds⟩ (.code lpE::.inLoop lpE::.inBlock 8::K)) cs) w:=by
 have hJ:=zq11 hFin Kc inb n;obtain⟨hsz,f2,f3,f4,f5,f6,f7,f8,f9⟩:=hF;have hm:=Lib.hid hmain;clear hmain;have elp:lpE=match lpD with|.seq _ (.block _ (.seq _ (.block _ (.loop c))))=>c|_=>.skip:=rfl
 simp only[lpD,headC,tailN,Try.f22,al_od]at elp;generalize hlp:lpE=lp at elp |- hm;subst elp;refine hJ.ctl (s:=()) (λw=>stepG_seq) ?_;refine hJ.ctl (s:=()) (λw=>stepG_region) ?_;refine zqp (J:=λ(_:Unit)=>HoldR Try.prog Fin Kc inb 0 n) (s:=()) hJ hb 0 [.bool false] [] rfl (by simp) (by rfl) ?_ ?_
 . intro τ d;simp only[zqm,dstOf,al_gl,al_g0,al_g1,al_ob];refine⟨?_,trivial⟩<;>(intro o ho;simp only[al_oi]at ho;subst ho)
   all_goals(try simp only[execOp,Act.eval,al_gd])
   all_goals(try simp only[al_gs,al_gz,hsz,f2,f3,f4,f5,f6,f7,f8,f9,t94,t95,Nat.reduceEqDiff,Nat.reduceLT,↓reduceIte,al_od])
   all_goals(have hlt:∀i,i<129->i<(Ts).size:=λi hi=>(by rw[hsz];exact hi))
   all_goals(clear hsz f2 f3 f4 f5 f6 f7 f8 f9 t94 t95)
   all_goals(try go_simp)
   all_goals(try omega)
 simp only[putv,dstOf,al_gl,al_g0,al_g1,al_ob];obtain⟨T1,hT⟩:∃X,X=(Ts).setIfInBounds 96 (.bool false):=⟨_,rfl⟩;rw[<-hT];have hT1:T1.size=129:=by rw[hT];simp[hsz]
 have T1_0:=sg1 hT f2;have T1_1:=sg1 hT f3;have T1_5:=sg1 hT f4;have T1_6:=sg1 hT f5;have T1_9:=sg1 hT f6;have T1_10:=sg1 hT f7;have T1_11:=sg1 hT f8;have T1_13:T1[13]?=some (stepV A B):=sg1 hT f9;have T1_94:=sg1 hT t94;have T1_95:=sg1 hT t95;have T1_96:T1[96]?=some (.bool false):=by rw[hT];simp[al_gs,hsz]
 clear hT f2 f3 f4 f5 f6 f7 f8 f9 t94 t95 hsz;refine hJ.ctl (s:=()) (λw=>stepG_region_end) ?_;refine hJ.ctl (s:=()) (λw=>stepG_seq) ?_;refine hJ.ctl (s:=()) (λw=>stepG_cond (t:=false) (by simp[Act.eval,al_gd,T1_96])) ?_;simp only[Bool.false_eq_true,if_false];refine hJ.ctl (s:=()) (λw=>stepG_exit (k':=K) rfl) ?_;exact hm.out _ ⟨hT1,T1_0,T1_1,T1_5,T1_6,T1_9,T1_10,T1_11,T1_13⟩
theorem zqct{Fin:Machine->Trace->Prop}(hFin:Back Try.prog Fin){T:Thr M}{A:OA}{B:Bx}{Kc:Addr->Option Value}{w₀:World}{m₀:M}{most n:Nat}(hn:A.n0+A.N<=n){thr sch:Value}{b:Frame}(hb:b.kind≠.early){ds:List Deferred}{K:List Item}{cs:List Frame}:
 ∀(r j:Nat),j+r=A.N->∀{E:Nat->Option Obj}{k:Nat}{a:OSt M}{v:Value}{inb:Nat->Option Seat}{w:World}{Ts:Array Value},Inv T A B Kc w₀ m₀ most A.N E k a (leftN a.ov A.N) v inb w->most+100<=k+a.ord.length->Fr A B thr sch Ts->
  Ts[94]?=some (.int .i64 A.N)->Ts[95]?=some (.int .i64 j)->
  (∀a' E' k' v' inb' w' Ts',StepsR T A.N most ((upto A.N).drop j) a a'->most+100<=k'+a'.ord.length->Inv T A B Kc w₀ m₀ most A.N E' k' a' (leftN a'.ov A.N) v' inb' w'->Fr A B thr sch Ts'->HoldR Try.prog Fin Kc inb' 0 n (G (b.at ⟨Ts',ds⟩ K) cs) w')->
  HoldR Try.prog Fin Kc inb 0 n (G (b.at ⟨Ts,ds⟩ (.code lpE::.inLoop lpE::.inBlock 8::K)) cs) w:=by
 intro r
 induction r with
 |zero=>
  intro j hj E k a v inb w Ts hI hk hF t94 t95 hmain;have e:j=A.N:=by omega
  subst e;refine zqcs hFin (B:=B) (A:=A) hF t94 t95 hb λTs' hF'=>?_;exact hmain a E k v inb w Ts' (by rw[List.drop_of_length_le (by rw[zqas];exact Nat.le_refl _)];exact .nil a) hk hI hF'
 |succ r ih=>
  intro j hj E k a v inb w Ts hI hk hF t94 t95 hmain;have hjl:j<(upto A.N).length:=by rw[zqas];omega
  obtain⟨k,rfl⟩:∃k',k=k'+1:=⟨k - 1,by have:=hI.len;omega⟩;refine zqcu hFin hI hn hF (by omega) t94 t95 hb λa' E' k' v' inb' w' Ts' hst hk' hI' hF' u94 u95=>?_;have hJ':=zq11 hFin Kc inb' n;refine hJ'.ctl (s:=()) (λw=>stepG_inLoop) ?_;refine ih (j+1) (by omega) hI' (by omega) hF' u94 u95 λa'' E'' k'' v'' inb'' w'' Ts'' hss hk'' hI'' hF''=>?_;refine hmain a'' E'' k'' v'' inb'' w'' Ts'' ?_ hk'' hI'' hF'';have hg:(upto A.N)[j]'hjl=(j:Int):=by
   have:=upto_get (N:=A.N) (j:=j) (by omega);rw[List.getElem?_eq_getElem hjl]at this;exact Option.some.inj this
  rw[List.drop_eq_getElem_cons hjl,hg];exact .cons hst hss
end
section
variable {M:Type}
theorem zq88{Kc:Addr->Option Value}{J:Goroutine->World->Prop}(hJ:JM Try.prog Kc J){A:OA}{B:Bx}{w:World}{thr sch:Value}{L len cap most:Nat}{p:Option Addr}{Ts:Array Value}(hF:Fr A B thr sch Ts)
 (cL:w.cell? ⟨B.bL,0,none⟩=some (.int .i64 L)) (cO:w.cell? ⟨B.bO,0,none⟩=some (.slice p len cap)) (cM:w.cell? ⟨B.bM,0,none⟩=some (.int .i64 most))
 {b:Frame} (hb:b.kind≠.early) {ds:List Deferred} {K:List Item} {cs:List Frame}
 (hno:¬(0<L/\len<most)->∀Ts',Fr A B thr sch Ts'->J (G (b.at ⟨Ts',ds⟩ K) cs) w)
 (hgo:0<L/\len<most->∀Ts',Fr A B thr sch Ts'->J (G (b.at ⟨Ts',ds⟩ (.code (match lpD with|.seq _ c=>c|_=>.skip)::.inLoop lpD::.inBlock 6::K)) cs) w):
 J (G (b.at ⟨Ts,ds⟩ (.code lpD::.inLoop lpD::.inBlock 6::K)) cs) w:=by
 obtain⟨hsz,f2,f3,f4,f5,f6,f7,f8,f9⟩:=hF;have elp:lpD=match headC (tailN 9 (Try.f22.body.getD .skip))with|.block _ (.loop c)=>c|_=>.skip:=rfl
 simp only[headC,tailN,Try.f22,al_od]at elp;have hgo':Hid (0<L/\len<most->∀Ts',Fr A B thr sch Ts'->J (G (b.at ⟨Ts',ds⟩ (.code (match lpD with|.seq _ c=>c|_=>.skip)::.inLoop lpD::.inBlock 6::K)) cs) w):=Lib.hid hgo;have hno':=Lib.hid hno;clear hgo hno;generalize hlp:lpD=lp at elp |- hgo';subst elp;simp only[]at hgo'
 by_cases h0:L=0
 . subst h0;refine hJ.ctl (s:=()) (λw=>stepG_seq) ?_;refine hJ.ctl (s:=()) (λw=>stepG_seq) ?_;refine hJ.ctl (s:=()) (λw=>stepG_region) ?_;refine zq57 (J:=λ(_:Unit)=>J) (s:=()) hJ hb 0 [some (.int .i64 (0:Nat)),some (.bool false),some (.bool false),none,none,none,none,some (.bool false)] [] rfl (by simp) (by rfl) ?_ ?_
   . intro τ d;simp only[zq2x,dstOf,al_gl,al_g0,al_g1,al_ob];refine⟨?_,?_,?_,?_,?_,?_,?_,?_,trivial⟩<;>(intro o ho;simp only[al_oi]at ho;subst ho)
     all_goals(first|refine⟨by simp[Region.wanted,yielded,al_gs,hsz,f2,f3,f4,f5,f6,f7,f8,f9],?_⟩|(simp[Region.wanted,yielded,al_gs,hsz,f2,f3,f4,f5,f6,f7,f8,f9];done))
     all_goals(try simp only[execOp,Act.eval,al_gd])
     all_goals(try simp only[al_gs,al_gz,hsz,f2,f3,f4,f5,f6,f7,f8,f9,Nat.reduceEqDiff,Nat.reduceLT,↓reduceIte,al_od])
     all_goals(have hlt:∀i,i<129->i<(Ts).size:=λi hi=>(by rw[hsz];exact hi))
     all_goals(clear hsz f2 f3 f4 f5 f6 f7 f8 f9)
     all_goals(try go_simp)
     all_goals(try omega)
   simp only[putG,dstOf,al_gl,al_g0,al_g1,al_ob,al_od,Option.getD_none];obtain⟨T1,hT⟩:∃X,X=((((((((Ts).setIfInBounds 86 (.int .i64 (0:Nat))).setIfInBounds 87 (.bool false)).setIfInBounds 88 (.bool false)).setIfInBounds 89 (undef)).setIfInBounds 90 (undef)).setIfInBounds 91 (undef)).setIfInBounds 92 (undef)).setIfInBounds 93 (.bool false):=⟨_,rfl⟩;rw[<-hT];have hT1:T1.size=129:=by rw[hT];simp[hsz]
   have T1_0:=sg8 hT f2;have T1_1:=sg8 hT f3;have T1_5:=sg8 hT f4;have T1_6:=sg8 hT f5;have T1_9:=sg8 hT f6;have T1_10:=sg8 hT f7;have T1_11:=sg8 hT f8;have T1_13:T1[13]?=some (stepV A B):=sg8 hT f9;have T1_86:T1[86]?=some (.int .i64 (0:Nat)):=by rw[hT];simp[al_gs,hsz]
   have T1_87:T1[87]?=some (.bool false):=by rw[hT];simp[al_gs,hsz]
   have T1_88:T1[88]?=some (.bool false):=by rw[hT];simp[al_gs,hsz]
   have T1_89:T1[89]?=some (undef):=by rw[hT];simp[al_gs,hsz]
   have T1_90:T1[90]?=some (undef):=by rw[hT];simp[al_gs,hsz]
   have T1_91:T1[91]?=some (undef):=by rw[hT];simp[al_gs,hsz]
   have T1_92:T1[92]?=some (undef):=by rw[hT];simp[al_gs,hsz]
   have T1_93:T1[93]?=some (.bool false):=by rw[hT];simp[al_gs,hsz]
   clear hT f2 f3 f4 f5 f6 f7 f8 f9 hsz;refine hJ.ctl (s:=()) (λw=>stepG_region_end) ?_;refine hJ.ctl (s:=()) (λw=>stepG_cond (t:=false) (by simp[Act.eval,al_gd,T1_93])) ?_;simp only[Bool.false_eq_true,if_false];refine hJ.ctl (s:=()) (λw=>stepG_exit (k':=K) rfl) ?_;exact hno'.out (by omega) _ ⟨hT1,T1_0,T1_1,T1_5,T1_6,T1_9,T1_10,T1_11,T1_13⟩
 have h0i:(0:Int)<L:=by omega
 by_cases h1:len<most
 . have h1i:(len:Int)<most:=by omega
   refine hJ.ctl (s:=()) (λw=>stepG_seq) ?_;refine hJ.ctl (s:=()) (λw=>stepG_seq) ?_;refine hJ.ctl (s:=()) (λw=>stepG_region) ?_;refine zq57 (J:=λ(_:Unit)=>J) (s:=()) hJ hb 0 [some (.int .i64 L),some (.bool true),some (.bool true),some (.slice p len cap),some (.int .i64 len),some (.int .i64 most),some (.bool true),some (.bool true)] [] rfl (by simp) (by rfl) ?_ ?_
   . intro τ d;simp only[zq2x,dstOf,al_gl,al_g0,al_g1,al_ob];refine⟨?_,?_,?_,?_,?_,?_,?_,?_,trivial⟩<;>(intro o ho;simp only[al_oi]at ho;subst ho)
     all_goals(first|refine⟨by simp[Region.wanted,yielded,al_gs,hsz,f2,f3,f4,f5,f6,f7,f8,f9],?_⟩|(simp[Region.wanted,yielded,al_gs,hsz,f2,f3,f4,f5,f6,f7,f8,f9];done))
     all_goals(try simp only[execOp,Act.eval,al_gd])
     all_goals(try simp only[al_gs,al_gz,hsz,f2,f3,f4,f5,f6,f7,f8,f9,Nat.reduceEqDiff,Nat.reduceLT,↓reduceIte,al_od])
     all_goals(have hlt:∀i,i<129->i<(Ts).size:=λi hi=>(by rw[hsz];exact hi))
     all_goals(clear hsz f2 f3 f4 f5 f6 f7 f8 f9)
     all_goals(try go_simp)
     all_goals(try omega)
   simp only[putG,dstOf,al_gl,al_g0,al_g1,al_ob,al_od,Option.getD_none];obtain⟨T1,hT⟩:∃X,X=((((((((Ts).setIfInBounds 86 (.int .i64 L)).setIfInBounds 87 (.bool true)).setIfInBounds 88 (.bool true)).setIfInBounds 89 (.slice p len cap)).setIfInBounds 90 (.int .i64 len)).setIfInBounds 91 (.int .i64 most)).setIfInBounds 92 (.bool true)).setIfInBounds 93 (.bool true):=⟨_,rfl⟩;rw[<-hT];have hT1:T1.size=129:=by rw[hT];simp[hsz]
   have T1_0:=sg8 hT f2;have T1_1:=sg8 hT f3;have T1_5:=sg8 hT f4;have T1_6:=sg8 hT f5;have T1_9:=sg8 hT f6;have T1_10:=sg8 hT f7;have T1_11:=sg8 hT f8;have T1_13:T1[13]?=some (stepV A B):=sg8 hT f9;have T1_86:T1[86]?=some (.int .i64 L):=by rw[hT];simp[al_gs,hsz]
   have T1_87:T1[87]?=some (.bool true):=by rw[hT];simp[al_gs,hsz]
   have T1_88:T1[88]?=some (.bool true):=by rw[hT];simp[al_gs,hsz]
   have T1_89:T1[89]?=some (.slice p len cap):=by rw[hT];simp[al_gs,hsz]
   have T1_90:T1[90]?=some (.int .i64 len):=by rw[hT];simp[al_gs,hsz]
   have T1_91:T1[91]?=some (.int .i64 most):=by rw[hT];simp[al_gs,hsz]
   have T1_92:T1[92]?=some (.bool true):=by rw[hT];simp[al_gs,hsz]
   have T1_93:T1[93]?=some (.bool true):=by rw[hT];simp[al_gs,hsz]
   clear hT f2 f3 f4 f5 f6 f7 f8 f9 hsz;refine hJ.ctl (s:=()) (λw=>stepG_region_end) ?_;refine hJ.ctl (s:=()) (λw=>stepG_cond (t:=true) (by simp[Act.eval,al_gd,T1_93])) ?_;simp only[if_true];refine hJ.ctl (s:=()) (λw=>stepG_skip) ?_;exact hgo'.out ⟨by omega,by omega⟩ _ ⟨hT1,T1_0,T1_1,T1_5,T1_6,T1_9,T1_10,T1_11,T1_13⟩
 . have h1i:decide ((len:Int)<most)=false:=by simp;omega
   have h1n:decide (len<most)=false:=by simp;omega
   refine hJ.ctl (s:=()) (λw=>stepG_seq) ?_;refine hJ.ctl (s:=()) (λw=>stepG_seq) ?_;refine hJ.ctl (s:=()) (λw=>stepG_region) ?_;refine zq57 (J:=λ(_:Unit)=>J) (s:=()) hJ hb 0 [some (.int .i64 L),some (.bool true),some (.bool true),some (.slice p len cap),some (.int .i64 len),some (.int .i64 most),some (.bool false),some (.bool false)] [] rfl (by simp) (by rfl) ?_ ?_
   . intro τ d;simp only[zq2x,dstOf,al_gl,al_g0,al_g1,al_ob];refine⟨?_,?_,?_,?_,?_,?_,?_,?_,trivial⟩<;>(intro o ho;simp only[al_oi]at ho;subst ho)
     all_goals(first|refine⟨by simp[Region.wanted,yielded,al_gs,hsz,f2,f3,f4,f5,f6,f7,f8,f9],?_⟩|(simp[Region.wanted,yielded,al_gs,hsz,f2,f3,f4,f5,f6,f7,f8,f9];done))
     all_goals(try simp only[execOp,Act.eval,al_gd])
     all_goals(try simp only[al_gs,al_gz,hsz,f2,f3,f4,f5,f6,f7,f8,f9,Nat.reduceEqDiff,Nat.reduceLT,↓reduceIte,al_od])
     all_goals(have hlt:∀i,i<129->i<(Ts).size:=λi hi=>(by rw[hsz];exact hi))
     all_goals(clear hsz f2 f3 f4 f5 f6 f7 f8 f9)
     all_goals(try go_simp)
     all_goals(try omega)
   simp only[putG,dstOf,al_gl,al_g0,al_g1,al_ob,al_od,Option.getD_none];obtain⟨T1,hT⟩:∃X,X=((((((((Ts).setIfInBounds 86 (.int .i64 L)).setIfInBounds 87 (.bool true)).setIfInBounds 88 (.bool true)).setIfInBounds 89 (.slice p len cap)).setIfInBounds 90 (.int .i64 len)).setIfInBounds 91 (.int .i64 most)).setIfInBounds 92 (.bool false)).setIfInBounds 93 (.bool false):=⟨_,rfl⟩;rw[<-hT];have hT1:T1.size=129:=by rw[hT];simp[hsz]
   have T1_0:=sg8 hT f2;have T1_1:=sg8 hT f3;have T1_5:=sg8 hT f4;have T1_6:=sg8 hT f5;have T1_9:=sg8 hT f6;have T1_10:=sg8 hT f7;have T1_11:=sg8 hT f8;have T1_13:T1[13]?=some (stepV A B):=sg8 hT f9;have T1_86:T1[86]?=some (.int .i64 L):=by rw[hT];simp[al_gs,hsz]
   have T1_87:T1[87]?=some (.bool true):=by rw[hT];simp[al_gs,hsz]
   have T1_88:T1[88]?=some (.bool true):=by rw[hT];simp[al_gs,hsz]
   have T1_89:T1[89]?=some (.slice p len cap):=by rw[hT];simp[al_gs,hsz]
   have T1_90:T1[90]?=some (.int .i64 len):=by rw[hT];simp[al_gs,hsz]
   have T1_91:T1[91]?=some (.int .i64 most):=by rw[hT];simp[al_gs,hsz]
   have T1_92:T1[92]?=some (.bool false):=by rw[hT];simp[al_gs,hsz]
   have T1_93:T1[93]?=some (.bool false):=by rw[hT];simp[al_gs,hsz]
   clear hT f2 f3 f4 f5 f6 f7 f8 f9 hsz;refine hJ.ctl (s:=()) (λw=>stepG_region_end) ?_;refine hJ.ctl (s:=()) (λw=>stepG_cond (t:=false) (by simp[Act.eval,al_gd,T1_93])) ?_;simp only[Bool.false_eq_true,if_false];refine hJ.ctl (s:=()) (λw=>stepG_exit (k':=K) rfl) ?_;exact hno'.out (by omega) _ ⟨hT1,T1_0,T1_1,T1_5,T1_6,T1_9,T1_10,T1_11,T1_13⟩
theorem zqef{Fin:Machine->Trace->Prop}(hFin:Back Try.prog Fin){A:OA}{B:Bx}{Kc:Addr->Option Value}{n:Nat}{inb:Nat->Option Seat}{w:World}{thr sch:Value}{Ts:Array Value}(hF:Fr A B thr sch Ts)(cN:w.cell? ⟨B.bN,0,none⟩=some (.int .i64 A.N))
 {b:Frame} (hb:b.kind≠.early) {ds:List Deferred} {K:List Item} {cs:List Frame}
 (hmain:∀Ts',Fr A B thr sch Ts'->Ts'[94]?=some (.int .i64 A.N)->Ts'[95]?=some (.int .i64 (0:Nat))->HoldR Try.prog Fin Kc inb 0 n (G (b.at ⟨Ts',ds⟩ (.code lpE::.inLoop lpE::.inBlock 8::.inBlock 7::K)) cs) w):
 HoldR Try.prog Fin Kc inb 0 n (G (b.at ⟨Ts,ds⟩ (.code (match lpD with|.seq _ c=>c|_=>.skip)::K)) cs) w:=by
 have hJ:=zq11 hFin Kc inb n;obtain⟨hsz,f2,f3,f4,f5,f6,f7,f8,f9⟩:=hF;have hm:=Lib.hid hmain;clear hmain;have elp:(match lpD with|.seq _ c=>c|_=>.skip:Code)=(match (match headC (tailN 9 (Try.f22.body.getD .skip))with|.block _ (.loop c)=>c|_=>.skip:Code)with|.seq _ c=>c|_=>.skip):=rfl;simp only[headC,tailN,Try.f22,al_od]at elp;have ele:lpE=match lpD with|.seq _ (.block _ (.seq _ (.block _ (.loop c))))=>c|_=>.skip:=rfl
 simp only[lpD,headC,tailN,Try.f22,al_od]at ele;generalize hlp:(match lpD with|.seq _ c=>c|_=>.skip:Code)=lp at elp |-;generalize hle:lpE=le at ele hm;subst elp ele;refine hJ.ctl (s:=()) (λw=>stepG_block) ?_;refine hJ.ctl (s:=()) (λw=>stepG_seq) ?_;refine hJ.ctl (s:=()) (λw=>stepG_region) ?_;refine zqp (J:=λ(_:Unit)=>HoldR Try.prog Fin Kc inb 0 n) (s:=()) hJ hb 0 [.int .i64 A.N,.int .i64 (0:Nat)] [] rfl (by simp) (by rfl) ?_ ?_
 . intro τ d;simp only[zqm,dstOf,al_gl,al_g0,al_g1,al_ob];refine⟨?_,?_,trivial⟩<;>(intro o ho;simp only[al_oi]at ho;subst ho)
   all_goals(try simp only[execOp,Act.eval,al_gd])
   all_goals(try simp only[al_gs,al_gz,hsz,f2,f3,f4,f5,f6,f7,f8,f9,Nat.reduceEqDiff,Nat.reduceLT,↓reduceIte,al_od])
   all_goals(have hlt:∀i,i<129->i<(Ts).size:=λi hi=>(by rw[hsz];exact hi))
   all_goals(clear hsz f2 f3 f4 f5 f6 f7 f8 f9)
   all_goals(try go_simp)
   all_goals(try omega)
 simp only[putv,dstOf,al_gl,al_g0,al_g1,al_ob];obtain⟨T1,hT⟩:∃X,X=((Ts).setIfInBounds 94 (.int .i64 A.N)).setIfInBounds 95 (.int .i64 (0:Nat)):=⟨_,rfl⟩;rw[<-hT];have hT1:T1.size=129:=by rw[hT];simp[hsz]
 have T1_0:=sg2 hT f2;have T1_1:=sg2 hT f3;have T1_5:=sg2 hT f4;have T1_6:=sg2 hT f5;have T1_9:=sg2 hT f6;have T1_10:=sg2 hT f7;have T1_11:=sg2 hT f8;have T1_13:T1[13]?=some (stepV A B):=sg2 hT f9;have T1_94:T1[94]?=some (.int .i64 A.N):=by rw[hT];simp[al_gs,hsz]
 have T1_95:T1[95]?=some (.int .i64 (0:Nat)):=by rw[hT];simp[al_gs,hsz]
 clear hT f2 f3 f4 f5 f6 f7 f8 f9 hsz;refine hJ.ctl (s:=()) (λw=>stepG_region_end) ?_;refine hJ.ctl (s:=()) (λw=>stepG_block) ?_;refine hJ.ctl (s:=()) (λw=>stepG_loop) ?_;exact hm.out _ ⟨hT1,T1_0,T1_1,T1_5,T1_6,T1_9,T1_10,T1_11,T1_13⟩ T1_94 T1_95
theorem zqee{Fin:Machine->Trace->Prop}(hFin:Back Try.prog Fin){T:Thr M}{A:OA}{B:Bx}{Kc:Addr->Option Value}{w₀:World}{m₀:M}{most n:Nat}(hn:A.n0+A.N<=n){thr sch:Value}{b:Frame}(hb:b.kind≠.early){ds:List Deferred}{K:List Item}{cs:List Frame}:
 ∀(f:Nat){E:Nat->Option Obj}{k:Nat}{a:OSt M}{v:Value}{inb:Nat->Option Seat}{w:World}{Ts:Array Value},most - a.ord.length<=f->Inv T A B Kc w₀ m₀ most A.N E k a (leftN a.ov A.N) v inb w->most+100<=k+a.ord.length->Fr A B thr sch Ts->
  (∀a' E' k' v' inb' w' Ts',zq39 T A.N most a a'->most+100<=k'+a'.ord.length->Inv T A B Kc w₀ m₀ most A.N E' k' a' (leftN a'.ov A.N) v' inb' w'->Fr A B thr sch Ts'->HoldR Try.prog Fin Kc inb' 0 n (G (b.at ⟨Ts',ds⟩ K) cs) w')->
  HoldR Try.prog Fin Kc inb 0 n (G (b.at ⟨Ts,ds⟩ (.code lpD::.inLoop lpD::.inBlock 6::K)) cs) w:=by
 intro f
 induction f with
 |zero=>
  intro E k a v inb w Ts hf hI hk hF hmain;obtain⟨p,cap,hv,hd⟩:=hI.head;refine zq88 (zq11 hFin Kc inb n) hF (hI.cell hI.eL).1 hd.cO hd.cM hb (λhno Ts' hF'=>hmain a E k v inb w Ts' (.stop a hno) hk hI hF') (λhgo=>by omega)
 |succ f ih=>
  intro E k a v inb w Ts hf hI hk hF hmain;obtain⟨p,cap,hv,hd⟩:=hI.head;refine zq88 (zq11 hFin Kc inb n) hF (hI.cell hI.eL).1 hd.cO hd.cM hb (λhno Ts' hF'=>hmain a E k v inb w Ts' (.stop a hno) hk hI hF') (λhgo Ts' hF'=>?_);refine zqef hFin (A:=A) (B:=B) hF' hd.cN hb λTs2 hF2 u94 u95=>?_;refine zqct hFin hn hb A.N 0 (by omega) hI hk hF2 u94 u95 λa' E' k' v' inb' w' Ts3 hss hk' hI' hF3=>?_;have hJ':=zq11 hFin Kc inb' n;refine hJ'.ctl (s:=()) (λw=>stepG_inBlock) ?_;refine hJ'.ctl (s:=()) (λw=>stepG_inLoop) ?_;have hss':StepsR T A.N most (upto A.N) a a':=by simpa using hss
  obtain⟨i,hi,ho⟩:=zq4o hgo.1;have hp:=hss'.progress hi (mem_upto hi) ho hgo.2;refine ih (by omega) hI' hk' hF3 λa'' E'' k'' v'' inb'' w'' Ts'' hr hk'' hI'' hF''=>?_;exact hmain a'' E'' k'' v'' inb'' w'' Ts'' (.more hgo hss' hr) hk'' hI'' hF''
end
section
variable {M:Type}
noncomputable def lpF:Code:=match headC (tailN 11 (Try.f22.body.getD .skip))with|.seq _ (.block _ (.loop c))=>c|_=>.skip
theorem zqd3{Fin:Machine->Trace->Prop}(hFin:Back Try.prog Fin){A:OA}{B:Bx}{Kc:Addr->Option Value}{n:Nat}{inb:Nat->Option Seat}{w:World}{thr sch:Value}{stuck:Bool}{j:Nat}{Ts:Array Value}(hF:Fr A B thr sch Ts)(f10:Ts[7]?=some (.bool stuck))(t107:Ts[107]?=some (.slice (some ⟨A.bS,0,none⟩) A.N A.cap))(t108:Ts[108]?=some (.int .i64 A.N))(t109:Ts[109]?=some (.int .i64 j))(hj:j<A.N)(hN:A.N<=64)
 (cs':w.cell? ⟨A.bS,j,none⟩=some (.pointer (some ⟨A.st j,0,none⟩))) (cv:w.cell? ⟨A.st j,2,none⟩=some (.bool true))
 {b:Frame} (hb:b.kind≠.early) {ds:List Deferred} {K:List Item} {cs:List Frame}
 (hmain:∀Ts',Fr A B thr sch Ts'->Ts'[7]?=some (.bool stuck)->Ts'[107]?=some (.slice (some ⟨A.bS,0,none⟩) A.N A.cap)->Ts'[108]?=some (.int .i64 A.N)->Ts'[109]?=some (.int .i64 (j+1:Nat))->HoldR Try.prog Fin Kc inb 0 n (G (b.at ⟨Ts',ds⟩ (.code lpF::.inLoop lpF::.inBlock 10::K)) cs) w):
 HoldR Try.prog Fin Kc inb 0 n (G (b.at ⟨Ts,ds⟩ (.code lpF::.inLoop lpF::.inBlock 10::K)) cs) w:=by
 have hJ:=zq11 hFin Kc inb n;obtain⟨hsz,f2,f3,f4,f5,f6,f7,f8,f9⟩:=hF;have hm:=Lib.hid hmain;clear hmain;have elp:lpF=match headC (tailN 11 (Try.f22.body.getD .skip))with|.seq _ (.block _ (.loop c))=>c|_=>.skip:=rfl
 simp only[headC,tailN,Try.f22,al_od]at elp;generalize hlp:lpF=lp at elp |- hm;subst elp;have hjL:(j:Int)<A.N:=by omega
 have hj0:(0:Int)<=j:=by omega
 refine hJ.ctl (s:=()) (λw=>stepG_seq) ?_;refine hJ.ctl (s:=()) (λw=>stepG_region) ?_;refine zqp (J:=λ(_:Unit)=>HoldR Try.prog Fin Kc inb 0 n) (s:=()) hJ hb 0 [.bool true] [] rfl (by simp) (by rfl) ?_ ?_
 . intro τ d;simp only[zqm,dstOf,al_gl,al_g0,al_g1,al_ob];refine⟨?_,trivial⟩<;>(intro o ho;simp only[al_oi]at ho;subst ho)
   all_goals(try simp only[execOp,Act.eval,List.map_toArray,List.map_cons,List.map_nil,al_gd])
   all_goals(try simp only[al_gs,al_gz,hsz,f2,f3,f4,f5,f6,f7,f8,f9,f10,t107,t108,t109,Nat.reduceEqDiff,Nat.reduceLT,↓reduceIte,al_od])
   all_goals(have hlt:∀i,i<129->i<(Ts).size:=λi hi=>(by rw[hsz];exact hi))
   all_goals(clear hsz f2 f3 f4 f5 f6 f7 f8 f9 f10 t107 t108 t109)
   all_goals(try go_simp)
   all_goals(try omega)
 simp only[putv,dstOf,al_gl,al_g0,al_g1,al_ob];obtain⟨T1,hT⟩:∃X,X=(Ts).setIfInBounds 110 (.bool true):=⟨_,rfl⟩;rw[<-hT];have hT1:T1.size=129:=by rw[hT];simp[hsz]
 have T1_0:=sg1 hT f2;have T1_1:=sg1 hT f3;have T1_5:=sg1 hT f4;have T1_6:=sg1 hT f5;have T1_9:=sg1 hT f6;have T1_10:=sg1 hT f7;have T1_11:=sg1 hT f8;have T1_13:T1[13]?=some (stepV A B):=sg1 hT f9;have T1_7:=sg1 hT f10;have T1_107:=sg1 hT t107;have T1_108:=sg1 hT t108;have T1_109:=sg1 hT t109;have T1_110:T1[110]?=some (.bool true):=by rw[hT];simp[al_gs,hsz]
 clear hT f2 f3 f4 f5 f6 f7 f8 f9 f10 t107 t108 t109 hsz;refine hJ.ctl (s:=()) (λw=>stepG_region_end) ?_;refine hJ.ctl (s:=()) (λw=>stepG_seq) ?_;refine hJ.ctl (s:=()) (λw=>stepG_cond (t:=true) (by simp[Act.eval,al_gd,T1_110])) ?_;simp only[if_true];refine hJ.ctl (s:=()) (λw=>stepG_skip) ?_;refine hJ.ctl (s:=()) (λw=>stepG_seq) ?_;refine hJ.ctl (s:=()) (λw=>stepG_block) ?_;refine hJ.ctl (s:=()) (λw=>stepG_seq) ?_;refine hJ.ctl (s:=()) (λw=>stepG_region) ?_;refine zqp (J:=λ(_:Unit)=>HoldR Try.prog Fin Kc inb 0 n) (s:=()) hJ hb 0 [.int .i64 j,.pointer (some ⟨A.bS,j,none⟩),.pointer (some ⟨A.st j,0,none⟩),.int .i64 j,.pointer (some ⟨A.st j,0,none⟩)] [] rfl (by simp) (by rfl) ?_ ?_
 . intro τ d;simp only[zqm,dstOf,al_gl,al_g0,al_g1,al_ob];refine⟨?_,?_,?_,?_,?_,trivial⟩<;>(intro o ho;simp only[al_oi]at ho;subst ho)
   all_goals(try simp only[execOp,Act.eval,List.map_toArray,List.map_cons,List.map_nil,al_gd])
   all_goals(try simp only[al_gs,al_gz,hT1,T1_0,T1_1,T1_5,T1_6,T1_9,T1_10,T1_11,T1_13,T1_7,T1_107,T1_108,T1_109,T1_110,Nat.reduceEqDiff,Nat.reduceLT,↓reduceIte,al_od])
   all_goals(have hlt:∀i,i<129->i<(T1).size:=λi hi=>(by rw[hT1];exact hi))
   all_goals(clear hT1 T1_0 T1_1 T1_5 T1_6 T1_9 T1_10 T1_11 T1_13 T1_7 T1_107 T1_108 T1_109 T1_110)
   all_goals(try go_simp)
   all_goals(try omega)
 simp only[putv,dstOf,al_gl,al_g0,al_g1,al_ob];obtain⟨T2,hT⟩:∃X,X=(((((T1).setIfInBounds 111 (.int .i64 j)).setIfInBounds 112 (.pointer (some ⟨A.bS,j,none⟩))).setIfInBounds 113 (.pointer (some ⟨A.st j,0,none⟩))).setIfInBounds 17 (.int .i64 j)).setIfInBounds 18 (.pointer (some ⟨A.st j,0,none⟩)):=⟨_,rfl⟩;rw[<-hT];have hT2:T2.size=129:=by rw[hT];simp[hT1]
 have T2_0:=sg5 hT T1_0;have T2_1:=sg5 hT T1_1;have T2_5:=sg5 hT T1_5;have T2_6:=sg5 hT T1_6;have T2_9:=sg5 hT T1_9;have T2_10:=sg5 hT T1_10;have T2_11:=sg5 hT T1_11;have T2_13:T2[13]?=some (stepV A B):=sg5 hT T1_13;have T2_7:=sg5 hT T1_7;have T2_107:=sg5 hT T1_107;have T2_108:=sg5 hT T1_108;have T2_109:=sg5 hT T1_109;have T2_110:=sg5 hT T1_110;have T2_111:T2[111]?=some (.int .i64 j):=by rw[hT];simp[al_gs,hT1]
 have T2_112:T2[112]?=some (.pointer (some ⟨A.bS,j,none⟩)):=by rw[hT];simp[al_gs,hT1]
 have T2_113:T2[113]?=some (.pointer (some ⟨A.st j,0,none⟩)):=by rw[hT];simp[al_gs,hT1]
 have T2_17:T2[17]?=some (.int .i64 j):=by rw[hT];simp[al_gs,hT1]
 have T2_18:T2[18]?=some (.pointer (some ⟨A.st j,0,none⟩)):=by rw[hT];simp[al_gs,hT1]
 clear hT T1_0 T1_1 T1_5 T1_6 T1_9 T1_10 T1_11 T1_13 T1_7 T1_107 T1_108 T1_109 T1_110 hT1;refine hJ.ctl (s:=()) (λw=>stepG_region_end) ?_;refine hJ.ctl (s:=()) (λw=>stepG_seq) ?_;refine hJ.ctl (s:=()) (λw=>stepG_region) ?_;refine zqp (J:=λ(_:Unit)=>HoldR Try.prog Fin Kc inb 0 n) (s:=()) hJ hb 0 [.pointer (some ⟨A.st j,0,none⟩),.pointer (some ⟨A.st j,0,none⟩),.pointer (some ⟨A.st j,2,none⟩),.bool true,.bool false] [] rfl (by simp) (by rfl) ?_ ?_
 . intro τ d;simp only[zqm,dstOf,al_gl,al_g0,al_g1,al_ob];refine⟨?_,?_,?_,?_,?_,trivial⟩<;>(intro o ho;simp only[al_oi]at ho;subst ho)
   all_goals(try simp only[execOp,Act.eval,List.map_toArray,List.map_cons,List.map_nil,al_gd])
   all_goals(try simp only[al_gs,al_gz,hT2,T2_0,T2_1,T2_5,T2_6,T2_9,T2_10,T2_11,T2_13,T2_7,T2_107,T2_108,T2_109,T2_110,T2_111,T2_112,T2_113,T2_17,T2_18,Nat.reduceEqDiff,Nat.reduceLT,↓reduceIte,al_od])
   all_goals(have hlt:∀i,i<129->i<(T2).size:=λi hi=>(by rw[hT2];exact hi))
   all_goals(clear hT2 T2_0 T2_1 T2_5 T2_6 T2_9 T2_10 T2_11 T2_13 T2_7 T2_107 T2_108 T2_109 T2_110 T2_111 T2_112 T2_113 T2_17 T2_18)
   all_goals(try go_simp)
   all_goals(try omega)
 simp only[putv,dstOf,al_gl,al_g0,al_g1,al_ob];obtain⟨T3,hT⟩:∃X,X=(((((T2).setIfInBounds 114 (.pointer (some ⟨A.st j,0,none⟩))).setIfInBounds 115 (.pointer (some ⟨A.st j,0,none⟩))).setIfInBounds 116 (.pointer (some ⟨A.st j,2,none⟩))).setIfInBounds 117 (.bool true)).setIfInBounds 118 (.bool false):=⟨_,rfl⟩;rw[<-hT];have hT3:T3.size=129:=by rw[hT];simp[hT2]
 have T3_0:=sg5 hT T2_0;have T3_1:=sg5 hT T2_1;have T3_5:=sg5 hT T2_5;have T3_6:=sg5 hT T2_6;have T3_9:=sg5 hT T2_9;have T3_10:=sg5 hT T2_10;have T3_11:=sg5 hT T2_11;have T3_13:T3[13]?=some (stepV A B):=sg5 hT T2_13;have T3_7:=sg5 hT T2_7;have T3_107:=sg5 hT T2_107;have T3_108:=sg5 hT T2_108;have T3_109:=sg5 hT T2_109;have T3_110:=sg5 hT T2_110;have T3_111:=sg5 hT T2_111;have T3_112:=sg5 hT T2_112;have T3_113:=sg5 hT T2_113;have T3_17:=sg5 hT T2_17;have T3_18:=sg5 hT T2_18;have T3_114:T3[114]?=some (.pointer (some ⟨A.st j,0,none⟩)):=by rw[hT];simp[al_gs,hT2]
 have T3_115:T3[115]?=some (.pointer (some ⟨A.st j,0,none⟩)):=by rw[hT];simp[al_gs,hT2]
 have T3_116:T3[116]?=some (.pointer (some ⟨A.st j,2,none⟩)):=by rw[hT];simp[al_gs,hT2]
 have T3_117:T3[117]?=some (.bool true):=by rw[hT];simp[al_gs,hT2]
 have T3_118:T3[118]?=some (.bool false):=by rw[hT];simp[al_gs,hT2]
 clear hT T2_0 T2_1 T2_5 T2_6 T2_9 T2_10 T2_11 T2_13 T2_7 T2_107 T2_108 T2_109 T2_110 T2_111 T2_112 T2_113 T2_17 T2_18 hT2;refine hJ.ctl (s:=()) (λw=>stepG_region_end) ?_;refine hJ.ctl (s:=()) (λw=>stepG_cond (t:=false) (by simp[Act.eval,al_gd,T3_118])) ?_;simp only[Bool.false_eq_true,if_false];refine hJ.ctl (s:=()) (λw=>stepG_skip) ?_;refine hJ.ctl (s:=()) (λw=>stepG_inBlock) ?_;refine hJ.ctl (s:=()) (λw=>stepG_region) ?_;have hwr:IntKind.i64.wrap ((j:Int)+1)=((j+1:Nat):Int):=by
  rw[show(j:Int)+1=((j+1:Nat):Int)by omega];exact IntWalk.i64_in _ (by omega)
 refine zqp (J:=λ(_:Unit)=>HoldR Try.prog Fin Kc inb 0 n) (s:=()) hJ hb 0 [.int .i64 ((j+1:Nat):Int),.int .i64 ((j+1:Nat):Int)] [] rfl (by simp) (by rfl) ?_ ?_
 . intro τ d;simp only[zqm,dstOf,al_gl,al_g0,al_g1,al_ob];refine⟨?_,?_,trivial⟩<;>(intro o ho;simp only[al_oi]at ho;subst ho)
   all_goals(try simp only[execOp,Act.eval,List.map_toArray,List.map_cons,List.map_nil,al_gd])
   all_goals(try simp only[al_gs,al_gz,hT3,T3_0,T3_1,T3_5,T3_6,T3_9,T3_10,T3_11,T3_13,T3_7,T3_107,T3_108,T3_109,T3_110,T3_111,T3_112,T3_113,T3_17,T3_18,T3_114,T3_115,T3_116,T3_117,T3_118,Nat.reduceEqDiff,Nat.reduceLT,↓reduceIte,al_od])
   all_goals(have hlt:∀i,i<129->i<(T3).size:=λi hi=>(by rw[hT3];exact hi))
   all_goals(clear hT3 T3_0 T3_1 T3_5 T3_6 T3_9 T3_10 T3_11 T3_13 T3_7 T3_107 T3_108 T3_109 T3_110 T3_111 T3_112 T3_113 T3_17 T3_18 T3_114 T3_115 T3_116 T3_117 T3_118)
   all_goals(try go_simp)
   all_goals(try omega)
 simp only[putv,dstOf,al_gl,al_g0,al_g1,al_ob];obtain⟨T4,hT⟩:∃X,X=((T3).setIfInBounds 122 (.int .i64 ((j+1:Nat):Int))).setIfInBounds 109 (.int .i64 ((j+1:Nat):Int)):=⟨_,rfl⟩;rw[<-hT];have hT4:T4.size=129:=by rw[hT];simp[hT3]
 have T4_0:=sg2 hT T3_0;have T4_1:=sg2 hT T3_1;have T4_5:=sg2 hT T3_5;have T4_6:=sg2 hT T3_6;have T4_9:=sg2 hT T3_9;have T4_10:=sg2 hT T3_10;have T4_11:=sg2 hT T3_11;have T4_13:T4[13]?=some (stepV A B):=sg2 hT T3_13;have T4_7:=sg2 hT T3_7;have T4_107:=sg2 hT T3_107;have T4_108:=sg2 hT T3_108;have T4_110:=sg2 hT T3_110;have T4_111:=sg2 hT T3_111;have T4_112:=sg2 hT T3_112;have T4_113:=sg2 hT T3_113;have T4_17:=sg2 hT T3_17;have T4_18:=sg2 hT T3_18;have T4_114:=sg2 hT T3_114;have T4_115:=sg2 hT T3_115;have T4_116:=sg2 hT T3_116;have T4_117:=sg2 hT T3_117;have T4_118:=sg2 hT T3_118;have T4_122:T4[122]?=some (.int .i64 ((j+1:Nat):Int)):=by rw[hT];simp[al_gs,hT3]
 have T4_109:T4[109]?=some (.int .i64 ((j+1:Nat):Int)):=by rw[hT];simp[al_gs,hT3]
 clear hT T3_0 T3_1 T3_5 T3_6 T3_9 T3_10 T3_11 T3_13 T3_7 T3_107 T3_108 T3_109 T3_110 T3_111 T3_112 T3_113 T3_17 T3_18 T3_114 T3_115 T3_116 T3_117 T3_118 hT3;refine hJ.ctl (s:=()) (λw=>stepG_region_end) ?_;refine hJ.ctl (s:=()) (λw=>stepG_inLoop) ?_;exact hm.out _ ⟨hT4,T4_0,T4_1,T4_5,T4_6,T4_9,T4_10,T4_11,T4_13⟩ T4_7 T4_107 T4_108 T4_109
theorem kill_one{Fin:Machine->Trace->Prop}(hFin:Back Try.prog Fin){T:Thr M}{A:OA}{B:Bx}{Kc:Addr->Option Value}{w₀:World}{m₀:M}{most n:Nat}{E:Nat->Option Obj}{k:Nat}{a:OSt M}{left:Nat}{v:Value}{inb:Nat->Option Seat}{w:World}(hI:Inv T A B Kc w₀ m₀ most A.N E (k+1) a left v inb w)(hn:A.n0+A.N<=n){thr sch:Value}{stuck:Bool}{j:Nat}{Ts:Array Value}(hF:Fr A B thr sch Ts)(f10:Ts[7]?=some (.bool stuck))(t107:Ts[107]?=some (.slice (some ⟨A.bS,0,none⟩) A.N A.cap))(t108:Ts[108]?=some (.int .i64 A.N))(t109:Ts[109]?=some (.int .i64 j))(hj:j<A.N)(ho:a.ov j=false)
 {b:Frame} (hb:b.kind≠.early) {ds:List Deferred} {K:List Item} {cs:List Frame}
 (hmain:∀m' inb' w',T.Kill j a.m m'->Inv T A B Kc w₀ m₀ most A.N E k ⟨m',λi=>if i=j then true else a.ov i,a.brk,a.ord⟩ left v inb' w'->(∀Ts',Fr A B thr sch Ts'->Ts'[7]?=some (.bool stuck)->Ts'[107]?=some (.slice (some ⟨A.bS,0,none⟩) A.N A.cap)->Ts'[108]?=some (.int .i64 A.N)->Ts'[109]?=some (.int .i64 (j+1:Nat))->HoldR Try.prog Fin Kc inb' 0 n (G (b.at ⟨Ts',ds⟩ (.code lpF::.inLoop lpF::.inBlock 10::K)) cs) w')):
 HoldR Try.prog Fin Kc inb 0 n (G (b.at ⟨Ts,ds⟩ (.code lpF::.inLoop lpF::.inBlock 10::K)) cs) w:=by
 obtain⟨p,cap,hv,hd⟩:=hI.head;have cs':=hd.cs j hj;have cv:=hd.cv j hj;have cX:=hd.cX;rw[ho]at cv;have hN:=hI.N;clear hd;have hJ:=zq11 hFin Kc inb n;obtain⟨hsz,f2,f3,f4,f5,f6,f7,f8,f9⟩:=hF;have hm:=Lib.hid hmain;clear hmain;have elp:lpF=match headC (tailN 11 (Try.f22.body.getD .skip))with|.seq _ (.block _ (.loop c))=>c|_=>.skip:=rfl
 simp only[headC,tailN,Try.f22,al_od]at elp;generalize hlp:lpF=lp at elp |- hm;subst elp;have hjL:(j:Int)<A.N:=by omega
 have hj0:(0:Int)<=j:=by omega
 refine hJ.ctl (s:=()) (λw=>stepG_seq) ?_;refine hJ.ctl (s:=()) (λw=>stepG_region) ?_;refine zqp (J:=λ(_:Unit)=>HoldR Try.prog Fin Kc inb 0 n) (s:=()) hJ hb 0 [.bool true] [] rfl (by simp) (by rfl) ?_ ?_
 . intro τ d;simp only[zqm,dstOf,al_gl,al_g0,al_g1,al_ob];refine⟨?_,trivial⟩<;>(intro o ho;simp only[al_oi]at ho;subst ho)
   all_goals(try simp only[execOp,Act.eval,List.map_toArray,List.map_cons,List.map_nil,al_gd])
   all_goals(try simp only[al_gs,al_gz,hsz,f2,f3,f4,f5,f6,f7,f8,f9,f10,t107,t108,t109,Nat.reduceEqDiff,Nat.reduceLT,↓reduceIte,al_od])
   all_goals(have hlt:∀i,i<129->i<(Ts).size:=λi hi=>(by rw[hsz];exact hi))
   all_goals(clear hsz f2 f3 f4 f5 f6 f7 f8 f9 f10 t107 t108 t109)
   all_goals(try go_simp)
   all_goals(try omega)
 simp only[putv,dstOf,al_gl,al_g0,al_g1,al_ob];obtain⟨T1,hT⟩:∃X,X=(Ts).setIfInBounds 110 (.bool true):=⟨_,rfl⟩;rw[<-hT];have hT1:T1.size=129:=by rw[hT];simp[hsz]
 have T1_0:=sg1 hT f2;have T1_1:=sg1 hT f3;have T1_5:=sg1 hT f4;have T1_6:=sg1 hT f5;have T1_9:=sg1 hT f6;have T1_10:=sg1 hT f7;have T1_11:=sg1 hT f8;have T1_13:T1[13]?=some (stepV A B):=sg1 hT f9;have T1_7:=sg1 hT f10;have T1_107:=sg1 hT t107;have T1_108:=sg1 hT t108;have T1_109:=sg1 hT t109;have T1_110:T1[110]?=some (.bool true):=by rw[hT];simp[al_gs,hsz]
 clear hT f2 f3 f4 f5 f6 f7 f8 f9 f10 t107 t108 t109 hsz;refine hJ.ctl (s:=()) (λw=>stepG_region_end) ?_;refine hJ.ctl (s:=()) (λw=>stepG_seq) ?_;refine hJ.ctl (s:=()) (λw=>stepG_cond (t:=true) (by simp[Act.eval,al_gd,T1_110])) ?_;simp only[if_true];refine hJ.ctl (s:=()) (λw=>stepG_skip) ?_;refine hJ.ctl (s:=()) (λw=>stepG_seq) ?_;refine hJ.ctl (s:=()) (λw=>stepG_block) ?_;refine hJ.ctl (s:=()) (λw=>stepG_seq) ?_;refine hJ.ctl (s:=()) (λw=>stepG_region) ?_;refine zqp (J:=λ(_:Unit)=>HoldR Try.prog Fin Kc inb 0 n) (s:=()) hJ hb 0 [.int .i64 j,.pointer (some ⟨A.bS,j,none⟩),.pointer (some ⟨A.st j,0,none⟩),.int .i64 j,.pointer (some ⟨A.st j,0,none⟩)] [] rfl (by simp) (by rfl) ?_ ?_
 . intro τ d;simp only[zqm,dstOf,al_gl,al_g0,al_g1,al_ob];refine⟨?_,?_,?_,?_,?_,trivial⟩<;>(intro o ho;simp only[al_oi]at ho;subst ho)
   all_goals(try simp only[execOp,Act.eval,List.map_toArray,List.map_cons,List.map_nil,al_gd])
   all_goals(try simp only[al_gs,al_gz,hT1,T1_0,T1_1,T1_5,T1_6,T1_9,T1_10,T1_11,T1_13,T1_7,T1_107,T1_108,T1_109,T1_110,Nat.reduceEqDiff,Nat.reduceLT,↓reduceIte,al_od])
   all_goals(have hlt:∀i,i<129->i<(T1).size:=λi hi=>(by rw[hT1];exact hi))
   all_goals(clear hT1 T1_0 T1_1 T1_5 T1_6 T1_9 T1_10 T1_11 T1_13 T1_7 T1_107 T1_108 T1_109 T1_110)
   all_goals(try go_simp)
   all_goals(try omega)
 simp only[putv,dstOf,al_gl,al_g0,al_g1,al_ob];obtain⟨T2,hT⟩:∃X,X=(((((T1).setIfInBounds 111 (.int .i64 j)).setIfInBounds 112 (.pointer (some ⟨A.bS,j,none⟩))).setIfInBounds 113 (.pointer (some ⟨A.st j,0,none⟩))).setIfInBounds 17 (.int .i64 j)).setIfInBounds 18 (.pointer (some ⟨A.st j,0,none⟩)):=⟨_,rfl⟩;rw[<-hT];have hT2:T2.size=129:=by rw[hT];simp[hT1]
 have T2_0:=sg5 hT T1_0;have T2_1:=sg5 hT T1_1;have T2_5:=sg5 hT T1_5;have T2_6:=sg5 hT T1_6;have T2_9:=sg5 hT T1_9;have T2_10:=sg5 hT T1_10;have T2_11:=sg5 hT T1_11;have T2_13:T2[13]?=some (stepV A B):=sg5 hT T1_13;have T2_7:=sg5 hT T1_7;have T2_107:=sg5 hT T1_107;have T2_108:=sg5 hT T1_108;have T2_109:=sg5 hT T1_109;have T2_110:=sg5 hT T1_110;have T2_111:T2[111]?=some (.int .i64 j):=by rw[hT];simp[al_gs,hT1]
 have T2_112:T2[112]?=some (.pointer (some ⟨A.bS,j,none⟩)):=by rw[hT];simp[al_gs,hT1]
 have T2_113:T2[113]?=some (.pointer (some ⟨A.st j,0,none⟩)):=by rw[hT];simp[al_gs,hT1]
 have T2_17:T2[17]?=some (.int .i64 j):=by rw[hT];simp[al_gs,hT1]
 have T2_18:T2[18]?=some (.pointer (some ⟨A.st j,0,none⟩)):=by rw[hT];simp[al_gs,hT1]
 clear hT T1_0 T1_1 T1_5 T1_6 T1_9 T1_10 T1_11 T1_13 T1_7 T1_107 T1_108 T1_109 T1_110 hT1;refine hJ.ctl (s:=()) (λw=>stepG_region_end) ?_;refine hJ.ctl (s:=()) (λw=>stepG_seq) ?_;refine hJ.ctl (s:=()) (λw=>stepG_region) ?_;refine zqp (J:=λ(_:Unit)=>HoldR Try.prog Fin Kc inb 0 n) (s:=()) hJ hb 0 [.pointer (some ⟨A.st j,0,none⟩),.pointer (some ⟨A.st j,0,none⟩),.pointer (some ⟨A.st j,2,none⟩),.bool false,.bool true] [] rfl (by simp) (by rfl) ?_ ?_
 . intro τ d;simp only[zqm,dstOf,al_gl,al_g0,al_g1,al_ob];refine⟨?_,?_,?_,?_,?_,trivial⟩<;>(intro o ho;simp only[al_oi]at ho;subst ho)
   all_goals(try simp only[execOp,Act.eval,List.map_toArray,List.map_cons,List.map_nil,al_gd])
   all_goals(try simp only[al_gs,al_gz,hT2,T2_0,T2_1,T2_5,T2_6,T2_9,T2_10,T2_11,T2_13,T2_7,T2_107,T2_108,T2_109,T2_110,T2_111,T2_112,T2_113,T2_17,T2_18,Nat.reduceEqDiff,Nat.reduceLT,↓reduceIte,al_od])
   all_goals(have hlt:∀i,i<129->i<(T2).size:=λi hi=>(by rw[hT2];exact hi))
   all_goals(clear hT2 T2_0 T2_1 T2_5 T2_6 T2_9 T2_10 T2_11 T2_13 T2_7 T2_107 T2_108 T2_109 T2_110 T2_111 T2_112 T2_113 T2_17 T2_18)
   all_goals(try go_simp)
   all_goals(try omega)
 simp only[putv,dstOf,al_gl,al_g0,al_g1,al_ob];obtain⟨T3,hT⟩:∃X,X=(((((T2).setIfInBounds 114 (.pointer (some ⟨A.st j,0,none⟩))).setIfInBounds 115 (.pointer (some ⟨A.st j,0,none⟩))).setIfInBounds 116 (.pointer (some ⟨A.st j,2,none⟩))).setIfInBounds 117 (.bool false)).setIfInBounds 118 (.bool true):=⟨_,rfl⟩;rw[<-hT];have hT3:T3.size=129:=by rw[hT];simp[hT2]
 have T3_0:=sg5 hT T2_0;have T3_1:=sg5 hT T2_1;have T3_5:=sg5 hT T2_5;have T3_6:=sg5 hT T2_6;have T3_9:=sg5 hT T2_9;have T3_10:=sg5 hT T2_10;have T3_11:=sg5 hT T2_11;have T3_13:T3[13]?=some (stepV A B):=sg5 hT T2_13;have T3_7:=sg5 hT T2_7;have T3_107:=sg5 hT T2_107;have T3_108:=sg5 hT T2_108;have T3_109:=sg5 hT T2_109;have T3_110:=sg5 hT T2_110;have T3_111:=sg5 hT T2_111;have T3_112:=sg5 hT T2_112;have T3_113:=sg5 hT T2_113;have T3_17:=sg5 hT T2_17;have T3_18:=sg5 hT T2_18;have T3_114:T3[114]?=some (.pointer (some ⟨A.st j,0,none⟩)):=by rw[hT];simp[al_gs,hT2]
 have T3_115:T3[115]?=some (.pointer (some ⟨A.st j,0,none⟩)):=by rw[hT];simp[al_gs,hT2]
 have T3_116:T3[116]?=some (.pointer (some ⟨A.st j,2,none⟩)):=by rw[hT];simp[al_gs,hT2]
 have T3_117:T3[117]?=some (.bool false):=by rw[hT];simp[al_gs,hT2]
 have T3_118:T3[118]?=some (.bool true):=by rw[hT];simp[al_gs,hT2]
 clear hT T2_0 T2_1 T2_5 T2_6 T2_9 T2_10 T2_11 T2_13 T2_7 T2_107 T2_108 T2_109 T2_110 T2_111 T2_112 T2_113 T2_17 T2_18 hT2;refine hJ.ctl (s:=()) (λw=>stepG_region_end) ?_;refine hJ.ctl (s:=()) (λw=>stepG_cond (t:=true) (by simp[Act.eval,al_gd,T3_118])) ?_;simp only[if_true];refine hJ.ctl (s:=()) (λw=>stepG_region) ?_;refine zqp (J:=λ(_:Unit)=>HoldR Try.prog Fin Kc inb 0 n) (s:=()) hJ hb 0 [.pointer (some ⟨A.bT,0,none⟩),.int .i64 j] [2] rfl (by simp) (by rfl) ?_ ?_
 . intro τ d;simp only[zqm,dstOf,al_gl,al_g0,al_g1,al_ob];refine⟨?_,?_,trivial⟩<;>(intro o ho;simp only[al_oi]at ho;subst ho)
   all_goals(try simp only[execOp,Act.eval,List.map_toArray,List.map_cons,List.map_nil,al_gd])
   all_goals(try simp only[al_gs,al_gz,hT3,T3_0,T3_1,T3_5,T3_6,T3_9,T3_10,T3_11,T3_13,T3_7,T3_107,T3_108,T3_109,T3_110,T3_111,T3_112,T3_113,T3_17,T3_18,T3_114,T3_115,T3_116,T3_117,T3_118,Nat.reduceEqDiff,Nat.reduceLT,↓reduceIte,al_od])
   all_goals(have hlt:∀i,i<129->i<(T3).size:=λi hi=>(by rw[hT3];exact hi))
   all_goals(clear hT3 T3_0 T3_1 T3_5 T3_6 T3_9 T3_10 T3_11 T3_13 T3_7 T3_107 T3_108 T3_109 T3_110 T3_111 T3_112 T3_113 T3_17 T3_18 T3_114 T3_115 T3_116 T3_117 T3_118)
   all_goals(try go_simp)
   all_goals(try omega)
 simp only[putv,dstOf,al_gl,al_g0,al_g1,al_ob];obtain⟨T4,hT⟩:∃X,X=((T3).setIfInBounds 119 (.pointer (some ⟨A.bT,0,none⟩))).setIfInBounds 120 (.int .i64 j):=⟨_,rfl⟩;rw[<-hT];have hT4:T4.size=129:=by rw[hT];simp[hT3]
 have T4_0:=sg2 hT T3_0;have T4_1:=sg2 hT T3_1;have T4_5:=sg2 hT T3_5;have T4_6:=sg2 hT T3_6;have T4_9:=sg2 hT T3_9;have T4_10:=sg2 hT T3_10;have T4_11:=sg2 hT T3_11;have T4_13:T4[13]?=some (stepV A B):=sg2 hT T3_13;have T4_7:=sg2 hT T3_7;have T4_107:=sg2 hT T3_107;have T4_108:=sg2 hT T3_108;have T4_109:=sg2 hT T3_109;have T4_110:=sg2 hT T3_110;have T4_111:=sg2 hT T3_111;have T4_112:=sg2 hT T3_112;have T4_113:=sg2 hT T3_113;have T4_17:=sg2 hT T3_17;have T4_18:=sg2 hT T3_18;have T4_114:=sg2 hT T3_114;have T4_115:=sg2 hT T3_115;have T4_116:=sg2 hT T3_116;have T4_117:=sg2 hT T3_117;have T4_118:=sg2 hT T3_118;have T4_119:T4[119]?=some (.pointer (some ⟨A.bT,0,none⟩)):=by rw[hT];simp[al_gs,hT3]
 have T4_120:T4[120]?=some (.int .i64 j):=by rw[hT];simp[al_gs,hT3]
 clear hT T3_0 T3_1 T3_5 T3_6 T3_9 T3_10 T3_11 T3_13 T3_7 T3_107 T3_108 T3_109 T3_110 T3_111 T3_112 T3_113 T3_17 T3_18 T3_114 T3_115 T3_116 T3_117 T3_118 hT3;refine zq1q (J:=λ(_:Unit)=>HoldR Try.prog Fin Kc inb 0 n) (s:=()) hb hJ rfl (by simp[Region.wanted]) (f:=54) (args:=#[.pointer (some ⟨A.bT,0,none⟩),.int .i64 j,.bool false]) (λτ d=>?_) (λτ d=>?_) ?_
 . simp[go_sem,execOp,Act.eval,resolve,Deferred.ofValue,invoke,callFunc,Try.func54,Try.f54,al_gd,T4_119,T4_120]
 . intro e he;simp[go_sem,execOp,Act.eval,resolve,Deferred.ofValue,invoke,callFunc,Try.func54,Try.f54,Sem.runT_eq,al_gd,T4_119,T4_120]at he
 refine let_kill hFin hI.ok hI.kept hI.cf hj ho hn λm' inb' w' hkl hC=>?_;have hI':=hI.turned hC;have hJ3:=zq11 hFin Kc inb' n;rw[Frame.finish_at]
 try walk_nrm
 obtain⟨T5,hT⟩:∃X,X=(T4).setIfInBounds 121 (.tuple #[]):=⟨_,rfl⟩;rw[<-hT];have hT5:T5.size=129:=by rw[hT];simp[hT4]
 have T5_0:=sg1 hT T4_0;have T5_1:=sg1 hT T4_1;have T5_5:=sg1 hT T4_5;have T5_6:=sg1 hT T4_6;have T5_9:=sg1 hT T4_9;have T5_10:=sg1 hT T4_10;have T5_11:=sg1 hT T4_11;have T5_13:T5[13]?=some (stepV A B):=sg1 hT T4_13;have T5_7:=sg1 hT T4_7;have T5_107:=sg1 hT T4_107;have T5_108:=sg1 hT T4_108;have T5_109:=sg1 hT T4_109;have T5_110:=sg1 hT T4_110;have T5_111:=sg1 hT T4_111;have T5_112:=sg1 hT T4_112;have T5_113:=sg1 hT T4_113;have T5_17:=sg1 hT T4_17;have T5_18:=sg1 hT T4_18;have T5_114:=sg1 hT T4_114;have T5_115:=sg1 hT T4_115;have T5_116:=sg1 hT T4_116;have T5_117:=sg1 hT T4_117;have T5_118:=sg1 hT T4_118;have T5_119:=sg1 hT T4_119;have T5_120:=sg1 hT T4_120;have T5_121:T5[121]?=some (.tuple #[]):=by rw[hT];simp[al_gs,hT4]
 clear hT T4_0 T4_1 T4_5 T4_6 T4_9 T4_10 T4_11 T4_13 T4_7 T4_107 T4_108 T4_109 T4_110 T4_111 T4_112 T4_113 T4_17 T4_18 T4_114 T4_115 T4_116 T4_117 T4_118 T4_119 T4_120 hT4;refine hJ3.ctl (s:=()) (λw=>stepG_region_end) ?_;refine hJ3.ctl (s:=()) (λw=>stepG_inBlock) ?_;refine hJ3.ctl (s:=()) (λw=>stepG_region) ?_;have hwr:IntKind.i64.wrap ((j:Int)+1)=((j+1:Nat):Int):=by
  rw[show(j:Int)+1=((j+1:Nat):Int)by omega];exact IntWalk.i64_in _ (by omega)
 clear cs' cv cX;refine zqp (J:=λ(_:Unit)=>HoldR Try.prog Fin Kc inb' 0 n) (s:=()) hJ3 hb 0 [.int .i64 ((j+1:Nat):Int),.int .i64 ((j+1:Nat):Int)] [] rfl (by simp) (by rfl) ?_ ?_
 . intro τ d;simp only[zqm,dstOf,al_gl,al_g0,al_g1,al_ob];refine⟨?_,?_,trivial⟩<;>(intro o ho;simp only[al_oi]at ho;subst ho)
   all_goals(try simp only[execOp,Act.eval,List.map_toArray,List.map_cons,List.map_nil,al_gd])
   all_goals(try simp only[al_gs,al_gz,hT5,T5_0,T5_1,T5_5,T5_6,T5_9,T5_10,T5_11,T5_13,T5_7,T5_107,T5_108,T5_109,T5_110,T5_111,T5_112,T5_113,T5_17,T5_18,T5_114,T5_115,T5_116,T5_117,T5_118,T5_119,T5_120,T5_121,Nat.reduceEqDiff,Nat.reduceLT,↓reduceIte,al_od])
   all_goals(have hlt:∀i,i<129->i<(T5).size:=λi hi=>(by rw[hT5];exact hi))
   all_goals(clear hT5 T5_0 T5_1 T5_5 T5_6 T5_9 T5_10 T5_11 T5_13 T5_7 T5_107 T5_108 T5_109 T5_110 T5_111 T5_112 T5_113 T5_17 T5_18 T5_114 T5_115 T5_116 T5_117 T5_118 T5_119 T5_120 T5_121)
   all_goals(try go_simp)
   all_goals(try omega)
 simp only[putv,dstOf,al_gl,al_g0,al_g1,al_ob];obtain⟨T6,hT⟩:∃X,X=((T5).setIfInBounds 122 (.int .i64 ((j+1:Nat):Int))).setIfInBounds 109 (.int .i64 ((j+1:Nat):Int)):=⟨_,rfl⟩;rw[<-hT];have hT6:T6.size=129:=by rw[hT];simp[hT5]
 have T6_0:=sg2 hT T5_0;have T6_1:=sg2 hT T5_1;have T6_5:=sg2 hT T5_5;have T6_6:=sg2 hT T5_6;have T6_9:=sg2 hT T5_9;have T6_10:=sg2 hT T5_10;have T6_11:=sg2 hT T5_11;have T6_13:T6[13]?=some (stepV A B):=sg2 hT T5_13;have T6_7:=sg2 hT T5_7;have T6_107:=sg2 hT T5_107;have T6_108:=sg2 hT T5_108;have T6_110:=sg2 hT T5_110;have T6_111:=sg2 hT T5_111;have T6_112:=sg2 hT T5_112;have T6_113:=sg2 hT T5_113;have T6_17:=sg2 hT T5_17;have T6_18:=sg2 hT T5_18;have T6_114:=sg2 hT T5_114;have T6_115:=sg2 hT T5_115;have T6_116:=sg2 hT T5_116;have T6_117:=sg2 hT T5_117;have T6_118:=sg2 hT T5_118;have T6_119:=sg2 hT T5_119;have T6_120:=sg2 hT T5_120;have T6_121:=sg2 hT T5_121;have T6_122:T6[122]?=some (.int .i64 ((j+1:Nat):Int)):=by rw[hT];simp[al_gs,hT5]
 have T6_109:T6[109]?=some (.int .i64 ((j+1:Nat):Int)):=by rw[hT];simp[al_gs,hT5]
 clear hT T5_0 T5_1 T5_5 T5_6 T5_9 T5_10 T5_11 T5_13 T5_7 T5_107 T5_108 T5_109 T5_110 T5_111 T5_112 T5_113 T5_17 T5_18 T5_114 T5_115 T5_116 T5_117 T5_118 T5_119 T5_120 T5_121 hT5;refine hJ3.ctl (s:=()) (λw=>stepG_region_end) ?_;refine hJ3.ctl (s:=()) (λw=>stepG_inLoop) ?_;exact hm.out _ _ _ hkl hI' _ ⟨hT6,T6_0,T6_1,T6_5,T6_6,T6_9,T6_10,T6_11,T6_13⟩ T6_7 T6_107 T6_108 T6_109
theorem zqd1{Fin:Machine->Trace->Prop}(hFin:Back Try.prog Fin){A:OA}{B:Bx}{Kc:Addr->Option Value}{n:Nat}{inb:Nat->Option Seat}{w:World}{thr sch:Value}{stuck:Bool}{Ts:Array Value}(hF:Fr A B thr sch Ts)(f10:Ts[7]?=some (.bool stuck))(t107:Ts[107]?=some (.slice A.sp A.N A.cap))(t108:Ts[108]?=some (.int .i64 A.N))(t109:Ts[109]?=some (.int .i64 A.N))
 {b:Frame} (hb:b.kind≠.early) {ds:List Deferred} {K:List Item} {cs:List Frame}
 (hmain:∀Ts',Fr A B thr sch Ts'->Ts'[7]?=some (.bool stuck)->HoldR Try.prog Fin Kc inb 0 n (G (b.at ⟨Ts',ds⟩ K) cs) w):
 HoldR Try.prog Fin Kc inb 0 n (G (b.at ⟨Ts,ds⟩ (.code lpF::.inLoop lpF::.inBlock 10::K)) cs) w:=by
 have hJ:=zq11 hFin Kc inb n;obtain⟨hsz,f2,f3,f4,f5,f6,f7,f8,f9⟩:=hF;have hm:=Lib.hid hmain;clear hmain;have elp:lpF=match headC (tailN 11 (Try.f22.body.getD .skip))with|.seq _ (.block _ (.loop c))=>c|_=>.skip:=rfl
 simp only[headC,tailN,Try.f22,al_od]at elp;generalize hlp:lpF=lp at elp |- hm;subst elp;refine hJ.ctl (s:=()) (λw=>stepG_seq) ?_;refine hJ.ctl (s:=()) (λw=>stepG_region) ?_;refine zqp (J:=λ(_:Unit)=>HoldR Try.prog Fin Kc inb 0 n) (s:=()) hJ hb 0 [.bool false] [] rfl (by simp) (by rfl) ?_ ?_
 . intro τ d;simp only[zqm,dstOf,al_gl,al_g0,al_g1,al_ob];refine⟨?_,trivial⟩<;>(intro o ho;simp only[al_oi]at ho;subst ho)
   all_goals(try simp only[execOp,Act.eval,List.map_toArray,List.map_cons,List.map_nil,al_gd])
   all_goals(try simp only[al_gs,al_gz,hsz,f2,f3,f4,f5,f6,f7,f8,f9,f10,t107,t108,t109,Nat.reduceEqDiff,Nat.reduceLT,↓reduceIte,al_od])
   all_goals(have hlt:∀i,i<129->i<(Ts).size:=λi hi=>(by rw[hsz];exact hi))
   all_goals(clear hsz f2 f3 f4 f5 f6 f7 f8 f9 f10 t107 t108 t109)
   all_goals(try go_simp)
   all_goals(try omega)
 simp only[putv,dstOf,al_gl,al_g0,al_g1,al_ob];obtain⟨T1,hT⟩:∃X,X=(Ts).setIfInBounds 110 (.bool false):=⟨_,rfl⟩;rw[<-hT];have hT1:T1.size=129:=by rw[hT];simp[hsz]
 have T1_0:=sg1 hT f2;have T1_1:=sg1 hT f3;have T1_5:=sg1 hT f4;have T1_6:=sg1 hT f5;have T1_9:=sg1 hT f6;have T1_10:=sg1 hT f7;have T1_11:=sg1 hT f8;have T1_13:T1[13]?=some (stepV A B):=sg1 hT f9;have T1_7:=sg1 hT f10;have T1_107:=sg1 hT t107;have T1_108:=sg1 hT t108;have T1_109:=sg1 hT t109;have T1_110:T1[110]?=some (.bool false):=by rw[hT];simp[al_gs,hsz]
 clear hT f2 f3 f4 f5 f6 f7 f8 f9 f10 t107 t108 t109 hsz;refine hJ.ctl (s:=()) (λw=>stepG_region_end) ?_;refine hJ.ctl (s:=()) (λw=>stepG_seq) ?_;refine hJ.ctl (s:=()) (λw=>stepG_cond (t:=false) (by simp[Act.eval,al_gd,T1_110])) ?_;simp only[Bool.false_eq_true,if_false];refine hJ.ctl (s:=()) (λw=>stepG_exit (k':=K) rfl) ?_;exact hm.out _ ⟨hT1,T1_0,T1_1,T1_5,T1_6,T1_9,T1_10,T1_11,T1_13⟩ T1_7
theorem zqd2{Fin:Machine->Trace->Prop}(hFin:Back Try.prog Fin){T:Thr M}{A:OA}{B:Bx}{Kc:Addr->Option Value}{w₀:World}{m₀:M}{most n:Nat}(hn:A.n0+A.N<=n){thr sch:Value}{stuck:Bool}{b:Frame}(hb:b.kind≠.early){ds:List Deferred}{K:List Item}{cs:List Frame}{b₀:OSt M}{left:Nat}{v:Value}:
 ∀(r j:Nat),j+r=A.N->∀{E:Nat->Option Obj}{k:Nat}{a:OSt M}{inb:Nat->Option Seat}{w:World}{Ts:Array Value},Inv T A B Kc w₀ m₀ most A.N E k a left v inb w->100<=k+j->Go.Car.Ends T b₀.ov b₀.m j a.m->a.brk=b₀.brk->a.ord=b₀.ord->(∀i,i<j->a.ov i=true)->(∀i,j<=i->a.ov i=b₀.ov i)->
  Fr A B thr sch Ts->Ts[7]?=some (.bool stuck)->Ts[107]?=some (.slice A.sp A.N A.cap)->Ts[108]?=some (.int .i64 A.N)->Ts[109]?=some (.int .i64 j)->
  (∀a' E' k' inb' w' Ts',Inv T A B Kc w₀ m₀ most A.N E' k' a' left v inb' w'->Go.Car.Ends T b₀.ov b₀.m A.N a'.m->a'.brk=b₀.brk->a'.ord=b₀.ord->(∀i,i<A.N->a'.ov i=true)->Fr A B thr sch Ts'->Ts'[7]?=some (.bool stuck)->HoldR Try.prog Fin Kc inb' 0 n (G (b.at ⟨Ts',ds⟩ K) cs) w')->
  HoldR Try.prog Fin Kc inb 0 n (G (b.at ⟨Ts,ds⟩ (.code lpF::.inLoop lpF::.inBlock 10::K)) cs) w:=by
 intro r
 induction r with
 |zero=>
  intro j hj E k a inb w Ts hI hk hE hbr hor hov hov' hF f10 t107 t108 t109 hmain;have e:j=A.N:=by omega
  subst e;exact zqd1 hFin hF f10 t107 t108 t109 hb λTs' hF' g10=>hmain a E k inb w Ts' hI hE hbr hor hov hF' g10
 |succ r ih=>
  intro j hj E k a inb w Ts hI hk hE hbr hor hov hov' hF f10 t107 t108 t109 hmain;have hN:=hI.N;have hsp:=hI.ok.sp (by omega);rw[hsp]at t107;cases ho:a.ov j with
  |true=>
   obtain⟨p,cap,hv,hd⟩:=hI.head;have cv:=hd.cv j (by omega);rw[ho]at cv;refine zqd3 hFin hF f10 t107 t108 t109 (by omega) hN (hd.cs j (by omega)) cv hb λTs' hF' g10 u107 u108 u109=>?_;rw[<-hsp]at u107;refine ih (j+1) (by omega) hI (by omega) (.over hE (by rw[<-hov' j (Nat.le_refl _)];exact ho)) hbr hor (λi hi=>?_) (λi hi=>hov' i (by omega)) hF' g10 u107 u108 u109 hmain
   by_cases e:i=j
   . rw[e];exact ho
   . exact hov i (by omega)
  |false=>
   obtain⟨k,rfl⟩:∃k',k=k'+1:=⟨k - 1,by omega⟩;refine kill_one hFin hI hn hF f10 t107 t108 t109 (by omega) ho hb λm' inb' w' hkl hI' Ts' hF' g10 u107 u108 u109=>?_;rw[<-hsp]at u107;refine ih (j+1) (by omega) hI' (by omega) (.kill hE (by rw[<-hov' j (Nat.le_refl _)];exact ho) hkl) hbr hor (λi hi=>?_) (λi hi=>?_) hF' g10 u107 u108 u109 hmain
   . show(if i=j then true else a.ov i)=true;split
     . rfl
     . exact hov i (by omega)
   . show(if i=j then true else a.ov i)=b₀.ov i;rw[if_neg (by omega)];exact hov' i (by omega)
end
section
variable {M:Type}
structure Fr0(A:OA)(B:Bx)(thr sch:Value)(T:Array Value):Prop where
 size:T.size=129
 t0:T[0]?=some thr
 t1:T[1]?=some sch
 t5:T[5]?=some (.pointer (some ⟨B.bM,0,none⟩))
 t6:T[6]?=some (.pointer (some ⟨B.bO,0,none⟩))
 t9:T[9]?=some (.pointer (some ⟨B.bN,0,none⟩))
 t10:T[10]?=some (.pointer (some ⟨A.bX,0,none⟩))
 t11:T[11]?=some (.pointer (some ⟨B.bL,0,none⟩))
theorem Inv.started {T:Thr M}{A:OA}{B:Bx}{Kc:Addr->Option Value}{w₀:World}{m₀:M}{most s:Nat}{E:Nat->Option Obj}{k k':Nat}{a:OSt M}{left:Nat}{v:Value}{inb inb':Nat->Option Seat}{w w':World}(h:Inv T A B Kc w₀ m₀ most s E k a left v inb w){m':M}{ov' brk':Nat->Bool}{bb:Nat}
 (hc:Cf T (A.lay s bb) Kc E k' (s+1) ov' brk' m' inb' w'):Inv T (A.lay s bb) B Kc w₀ m₀ most (s+1) E k' ⟨m',ov',brk',a.ord⟩ left v inb' w':=by
 have hg:∀g,v.ownBlock=some g->w'.heap[g]?=w.heap[g]?:=λg hg=>by
  rcases h.row.2 with⟨hv,_⟩|⟨g2,cap,cur,hv,h1,h2,h3⟩
  . rw[hv]at hg;cases hg
  . rw[hv]at hg;simp only[Value.ownBlock,al_oi]at hg;subst hg;rw[h2];exact hc.ext _ _ ((h.erow _ (by rw[hv];rfl)).1.trans h2)
 refine⟨h.ok.lay _ _,h.bok,h.kept.lay _ _,hc,h.eN,h.eM,h.eO,h.eL,h.own,⟨h.row.1,?_⟩,λg hgv=>⟨by rw[hg g hgv];exact(h.erow g hgv).1,(h.erow g hgv).2⟩,h.old,h.len,h.most,h.N,?_,h.lft⟩
 . rcases h.row.2 with hv|⟨g,cap,cur,hv,h1,h2,h3⟩
   . exact .inl hv
   . exact .inr ⟨g,cap,cur,hv,h1,by rw[hg g (by rw[hv];rfl)];exact h2,h3⟩
 . have:=zqe (hc.ext _ _ h.eN);have:=h.bok.ge;omega
noncomputable def lpB:Code:=match headC (tailN 6 (Try.f22.body.getD .skip))with|.seq _ (.block _ (.loop c))=>c|_=>.skip
theorem zq7h{Fin:Machine->Trace->Prop}(hFin:Back Try.prog Fin){A:OA}{B:Bx}{Kc:Addr->Option Value}{n:Nat}{inb:Nat->Option Seat}{w:World}{thr sch:Value}{Ts:Array Value}(hF:Fr0 A B thr sch Ts)(t46:Ts[46]?=some (.int .i64 A.N))(t47:Ts[47]?=some (.int .i64 A.N))
 {b:Frame} (hb:b.kind≠.early) {ds:List Deferred} {K:List Item} {cs:List Frame}
 (hmain:∀Ts',Fr0 A B thr sch Ts'->HoldR Try.prog Fin Kc inb 0 n (G (b.at ⟨Ts',ds⟩ K) cs) w):
 HoldR Try.prog Fin Kc inb 0 n (G (b.at ⟨Ts,ds⟩ (.code lpB::.inLoop lpB::.inBlock 2::K)) cs) w:=by
 have hJ:=zq11 hFin Kc inb n;obtain⟨hsz,f2,f3,f4,f5,f6,f7,f8⟩:=hF;have hm:=Lib.hid hmain;clear hmain;have elp:lpB=match headC (tailN 6 (Try.f22.body.getD .skip))with|.seq _ (.block _ (.loop c))=>c|_=>.skip:=rfl
 simp only[headC,tailN,Try.f22,al_od]at elp;generalize hlp:lpB=lp at elp |- hm;subst elp;refine hJ.ctl (s:=()) (λw=>stepG_seq) ?_;refine hJ.ctl (s:=()) (λw=>stepG_region) ?_;refine zqp (J:=λ(_:Unit)=>HoldR Try.prog Fin Kc inb 0 n) (s:=()) hJ hb 0 [.bool false] [] rfl (by simp) (by rfl) ?_ ?_
 . intro τ d;simp only[zqm,dstOf,al_gl,al_g0,al_g1,al_ob];refine⟨?_,trivial⟩<;>(intro o ho;simp only[al_oi]at ho;subst ho)
   all_goals(try simp only[execOp,Act.eval,List.map_toArray,List.map_cons,List.map_nil,al_gd])
   all_goals(try simp only[al_gs,al_gz,hsz,f2,f3,f4,f5,f6,f7,f8,t46,t47,Nat.reduceEqDiff,Nat.reduceLT,↓reduceIte,al_od])
   all_goals(have hlt:∀i,i<129->i<(Ts).size:=λi hi=>(by rw[hsz];exact hi))
   all_goals(clear hsz f2 f3 f4 f5 f6 f7 f8 t46 t47)
   all_goals(try go_simp)
   all_goals(try omega)
 simp only[putv,dstOf,al_gl,al_g0,al_g1,al_ob];obtain⟨T1,hT⟩:∃X,X=(Ts).setIfInBounds 48 (.bool false):=⟨_,rfl⟩;rw[<-hT];have hT1:T1.size=129:=by rw[hT];simp[hsz]
 have T1_0:=sg1 hT f2;have T1_1:=sg1 hT f3;have T1_5:=sg1 hT f4;have T1_6:=sg1 hT f5;have T1_9:=sg1 hT f6;have T1_10:=sg1 hT f7;have T1_11:=sg1 hT f8;have T1_46:=sg1 hT t46;have T1_47:=sg1 hT t47;have T1_48:T1[48]?=some (.bool false):=by rw[hT];simp[al_gs,hsz]
 clear hT f2 f3 f4 f5 f6 f7 f8 t46 t47 hsz;refine hJ.ctl (s:=()) (λw=>stepG_region_end) ?_;refine hJ.ctl (s:=()) (λw=>stepG_seq) ?_;refine hJ.ctl (s:=()) (λw=>stepG_cond (t:=false) (by simp[Act.eval,al_gd,T1_48])) ?_;simp only[Bool.false_eq_true,if_false];refine hJ.ctl (s:=()) (λw=>stepG_exit (k':=K) rfl) ?_;exact hm.out _ ⟨hT1,T1_0,T1_1,T1_5,T1_6,T1_9,T1_10,T1_11⟩
noncomputable def lpB2:Code:=match lpB with|.seq _ (.seq _ (.seq (.block _ (.seq _ (.seq _ (.seq _ c)))) _))=>c|_=>.skip
noncomputable def lpB3:Code:=match lpB with|.seq _ (.seq _ (.seq _ c))=>c|_=>.skip
theorem go_first{Fin:Machine->Trace->Prop}(hFin:Back Try.prog Fin){T:Thr M}{A:OA}{B:Bx}{Kc:Addr->Option Value}{w₀:World}{m₀:M}{most n s:Nat}{E:Nat->Option Obj}{k:Nat}{a:OSt M}{left:Nat}{v:Value}{inb:Nat->Option Seat}{w:World}(h:Inv T A B Kc w₀ m₀ most s E k a left v inb w)(hs:s<A.N)(ho:a.ov s=false)(hn:n=A.n0+s)
 (hms:T.Same s m₀ a.m) (hr:Runs Try.prog T 130 141 NEnd m₀ s (A.tv s)) {tb L C:Nat} {sch:Value} {Ts:Array Value} (hF:Fr0 A B (.slice (some ⟨tb,0,none⟩) L C) sch Ts) (t46:Ts[46]?=some (.int .i64 A.N)) (t47:Ts[47]?=some (.int .i64 s)) (hsL:s<L) (hv:w.cell? ⟨tb,s,none⟩=some (A.tv s))
 {b:Frame} (hb:b.kind≠.early) {ds:List Deferred} {K:List Item} {cs:List Frame}
 (hmain:∀m' ov' brk' inb' w'(Ts':Array Value),zq1t (T.Start s) s a.m a.ov a.brk m' ov' brk'->Inv T (A.lay s w.heap.size) B Kc w₀ m₀ most (s+1) E k ⟨m',ov',brk',a.ord⟩ left v inb' w'->Fr0 A B (.slice (some ⟨tb,0,none⟩) L C) sch Ts'->Ts'[12]?=some (.int .i64 s)->Ts'[46]?=some (.int .i64 A.N)->Ts'[47]?=some (.int .i64 s)->
  HoldR Try.prog Fin Kc inb' 0 (n+1) (G (b.at ⟨Ts',ds⟩ (.code lpB2::.inBlock 3::.code lpB3::.inLoop lpB::.inBlock 2::K)) cs) w'):
 HoldR Try.prog Fin Kc inb 0 n (G (b.at ⟨Ts,ds⟩ (.code lpB::.inLoop lpB::.inBlock 2::K)) cs) w:=by
 have hJ:=zq11 hFin Kc inb n;have hN64:=h.N;obtain⟨hsz,f2,f3,f4,f5,f6,f7,f8⟩:=hF;have hm:=Lib.hid hmain;clear hmain;have elp:lpB=match headC (tailN 6 (Try.f22.body.getD .skip))with|.seq _ (.block _ (.loop c))=>c|_=>.skip:=rfl
 simp only[headC,tailN,Try.f22,al_od]at elp;unfold lpB2 lpB3 at hm;generalize hlp:lpB=lp at elp |- hm;subst elp;simp only[]at hm;have hsN:(s:Int)<A.N:=by omega
 refine hJ.ctl (s:=()) (λw=>stepG_seq) ?_;refine hJ.ctl (s:=()) (λw=>stepG_region) ?_;refine zqp (J:=λ(_:Unit)=>HoldR Try.prog Fin Kc inb 0 n) (s:=()) hJ hb 0 [.bool true] [] rfl (by simp) (by rfl) ?_ ?_
 . intro τ d;simp only[zqm,dstOf,al_gl,al_g0,al_g1,al_ob];refine⟨?_,trivial⟩<;>(intro o ho;simp only[al_oi]at ho;subst ho)
   all_goals(try simp only[execOp,Act.eval,List.map_toArray,List.map_cons,List.map_nil,al_gd])
   all_goals(try simp only[al_gs,al_gz,hsz,f2,f3,f4,f5,f6,f7,f8,t46,t47,Nat.reduceEqDiff,Nat.reduceLT,↓reduceIte,al_od])
   all_goals(have hlt:∀i,i<129->i<(Ts).size:=λi hi=>(by rw[hsz];exact hi))
   all_goals(clear hsz f2 f3 f4 f5 f6 f7 f8 t46 t47)
   all_goals(try go_simp)
   all_goals(try omega)
 simp only[putv,dstOf,al_gl,al_g0,al_g1,al_ob];obtain⟨T1,hT⟩:∃X,X=(Ts).setIfInBounds 48 (.bool true):=⟨_,rfl⟩;rw[<-hT];have hT1:T1.size=129:=by rw[hT];simp[hsz]
 have T1_0:=sg1 hT f2;have T1_1:=sg1 hT f3;have T1_5:=sg1 hT f4;have T1_6:=sg1 hT f5;have T1_9:=sg1 hT f6;have T1_10:=sg1 hT f7;have T1_11:=sg1 hT f8;have T1_46:=sg1 hT t46;have T1_47:=sg1 hT t47;have T1_48:T1[48]?=some (.bool true):=by rw[hT];simp[al_gs,hsz]
 clear hT f2 f3 f4 f5 f6 f7 f8 t46 t47 hsz;refine hJ.ctl (s:=()) (λw=>stepG_region_end) ?_;refine hJ.ctl (s:=()) (λw=>stepG_seq) ?_;refine hJ.ctl (s:=()) (λw=>stepG_cond (t:=true) (by simp[Act.eval,al_gd,T1_48])) ?_;simp only[if_true];refine hJ.ctl (s:=()) (λw=>stepG_skip) ?_;refine hJ.ctl (s:=()) (λw=>stepG_seq) ?_;refine hJ.ctl (s:=()) (λw=>stepG_block) ?_;refine hJ.ctl (s:=()) (λw=>stepG_seq) ?_;refine hJ.ctl (s:=()) (λw=>stepG_region) ?_;refine zqp (J:=λ(_:Unit)=>HoldR Try.prog Fin Kc inb 0 n) (s:=()) hJ hb 0 [.int .i64 s,.int .i64 s] [] rfl (by simp) (by rfl) ?_ ?_
 . intro τ d;simp only[zqm,dstOf,al_gl,al_g0,al_g1,al_ob];refine⟨?_,?_,trivial⟩<;>(intro o ho;simp only[al_oi]at ho;subst ho)
   all_goals(try simp only[execOp,Act.eval,List.map_toArray,List.map_cons,List.map_nil,al_gd])
   all_goals(try simp only[al_gs,al_gz,hT1,T1_0,T1_1,T1_5,T1_6,T1_9,T1_10,T1_11,T1_46,T1_47,T1_48,Nat.reduceEqDiff,Nat.reduceLT,↓reduceIte,al_od])
   all_goals(have hlt:∀i,i<129->i<(T1).size:=λi hi=>(by rw[hT1];exact hi))
   all_goals(clear hT1 T1_0 T1_1 T1_5 T1_6 T1_9 T1_10 T1_11 T1_46 T1_47 T1_48)
   all_goals(try go_simp)
   all_goals(try omega)
 simp only[putv,dstOf,al_gl,al_g0,al_g1,al_ob];obtain⟨T2,hT⟩:∃X,X=((T1).setIfInBounds 49 (.int .i64 s)).setIfInBounds 12 (.int .i64 s):=⟨_,rfl⟩;rw[<-hT];have hT2:T2.size=129:=by rw[hT];simp[hT1]
 have T2_0:=sg2 hT T1_0;have T2_1:=sg2 hT T1_1;have T2_5:=sg2 hT T1_5;have T2_6:=sg2 hT T1_6;have T2_9:=sg2 hT T1_9;have T2_10:=sg2 hT T1_10;have T2_11:=sg2 hT T1_11;have T2_46:=sg2 hT T1_46;have T2_47:=sg2 hT T1_47;have T2_48:=sg2 hT T1_48;have T2_49:T2[49]?=some (.int .i64 s):=by rw[hT];simp[al_gs,hT1]
 have T2_12:T2[12]?=some (.int .i64 s):=by rw[hT];simp[al_gs,hT1]
 clear hT T1_0 T1_1 T1_5 T1_6 T1_9 T1_10 T1_11 T1_46 T1_47 T1_48 hT1;refine hJ.ctl (s:=()) (λw=>stepG_region_end) ?_;refine hJ.ctl (s:=()) (λw=>stepG_seq) ?_;refine go_turn hFin h.ok h.kept h.cf hs ho hn hms hr hb hT2 T2_0 T2_10 T2_12 hsL hv λA' m' ov' brk' inb' w' T' eA hT hC hsz' hkeep=>?_;subst eA;have U0:=(hkeep 0 (by omega)).trans T2_0;have U1:=(hkeep 1 (by omega)).trans T2_1;have U5:=(hkeep 5 (by omega)).trans T2_5;have U6:=(hkeep 6 (by omega)).trans T2_6;have U9:=(hkeep 9 (by omega)).trans T2_9;have U10:=(hkeep 10 (by omega)).trans T2_10;have U11:=(hkeep 11 (by omega)).trans T2_11;have U12:=(hkeep 12 (by omega)).trans T2_12;have U46:=(hkeep 46 (by omega)).trans T2_46;have U47:=(hkeep 47 (by omega)).trans T2_47;have hI':=h.started hC;exact hm.out m' ov' brk' inb' w' T' hT hI' ⟨hsz',U0,U1,U5,U6,U9,U10,U11⟩ U12 U46 U47
theorem zqcg{Fin:Machine->Trace->Prop}(hFin:Back Try.prog Fin){T:Thr M}{A:OA}{B:Bx}{Kc:Addr->Option Value}{w₀:World}{m₀:M}{most n s:Nat}{E:Nat->Option Obj}{k:Nat}{a:OSt M}{left:Nat}{v:Value}{inb:Nat->Option Seat}{w:World}(hI:Inv T A B Kc w₀ m₀ most (s+1) E k a left v inb w)(hs:s<A.N)(hl:left<=s)
 {thr sch:Value} {Ts:Array Value} (hF:Fr0 A B thr sch Ts) (t12:Ts[12]?=some (.int .i64 s)) (t46:Ts[46]?=some (.int .i64 A.N)) (t47:Ts[47]?=some (.int .i64 s))
 {b:Frame} (hb:b.kind≠.early) {ds:List Deferred} {K:List Item} {cs:List Frame}
 (hmain:∀E' left' w'(Ts':Array Value),left'=left+(if a.ov s=true then 0 else 1)->Inv T A B Kc w₀ m₀ most (s+1) E' k a left' v inb w'->Fr0 A B thr sch Ts'->Ts'[46]?=some (.int .i64 A.N)->Ts'[47]?=some (.int .i64 (s+1:Nat))->
  HoldR Try.prog Fin Kc inb 0 n (G (b.at ⟨Ts',ds⟩ (.code lpB::.inLoop lpB::.inBlock 2::K)) cs) w'):
 HoldR Try.prog Fin Kc inb 0 n (G (b.at ⟨Ts,ds⟩ (.code lpB2::.inBlock 3::.code lpB3::.inLoop lpB::.inBlock 2::K)) cs) w:=by
 have hJ:=zq11 hFin Kc inb n;have hN64:=hI.N;obtain⟨hsz,f2,f3,f4,f5,f6,f7,f8⟩:=hF;have hm:=Lib.hid hmain;clear hmain;have elp:lpB=match headC (tailN 6 (Try.f22.body.getD .skip))with|.seq _ (.block _ (.loop c))=>c|_=>.skip:=rfl
 simp only[headC,tailN,Try.f22,al_od]at elp;unfold lpB2 lpB3;generalize hlp:lpB=lp at elp |- hm;subst elp;simp only[];obtain⟨p,cap,hv,hd⟩:=hI.head;have cX:=hd.cX;have cS:=hd.cS (by omega);have cs':=hd.cs s hs;have cv:=hd.cv s hs;have cL:=(hI.cell hI.eL).1;have zL:=(hI.cell hI.eL).2.1;have kL:=(hI.cell hI.eL).2.2.1;have qL:=(hI.cell hI.eL).2.2.2;clear hd;have hsN:(s:Int)<A.N:=by omega
 have hs0:(0:Int)<=s:=by omega
 cases hov:a.ov s with
 |true=>
  rw[hov]at cv;refine hJ.ctl (s:=()) (λw=>stepG_seq) ?_;refine hJ.ctl (s:=()) (λw=>stepG_region) ?_;refine zqp (J:=λ(_:Unit)=>HoldR Try.prog Fin Kc inb 0 n) (s:=()) hJ hb 0 [.pointer (some ⟨A.bT,0,none⟩),.pointer (some ⟨A.bT,0,none⟩),.pointer (some ⟨A.bT,1,none⟩),.slice (some ⟨A.bS,0,none⟩) A.N A.cap,.int .i64 s,.pointer (some ⟨A.bS,s,none⟩),.pointer (some ⟨A.st s,0,none⟩),.pointer (some ⟨A.st s,0,none⟩),.pointer (some ⟨A.st s,2,none⟩),.bool true,.bool false] [] rfl (by simp) (by rfl) ?_ ?_
  . intro τ d;simp only[zqm,dstOf,al_gl,al_g0,al_g1,al_ob];refine⟨?_,?_,?_,?_,?_,?_,?_,?_,?_,?_,?_,trivial⟩<;>(intro o ho;simp only[al_oi]at ho;subst ho)
    all_goals(try simp only[execOp,Act.eval,List.map_toArray,List.map_cons,List.map_nil,al_gd])
    all_goals(try simp only[al_gs,al_gz,hsz,f2,f3,f4,f5,f6,f7,f8,t12,t46,t47,Nat.reduceEqDiff,Nat.reduceLT,↓reduceIte,al_od])
    all_goals(have hlt:∀i,i<129->i<(Ts).size:=λi hi=>(by rw[hsz];exact hi))
    all_goals(clear hsz f2 f3 f4 f5 f6 f7 f8 t12 t46 t47)
    all_goals(try go_simp)
    all_goals(try omega)
  simp only[putv,dstOf,al_gl,al_g0,al_g1,al_ob];obtain⟨T1,hT⟩:∃X,X=(((((((((((Ts).setIfInBounds 61 (.pointer (some ⟨A.bT,0,none⟩))).setIfInBounds 62 (.pointer (some ⟨A.bT,0,none⟩))).setIfInBounds 63 (.pointer (some ⟨A.bT,1,none⟩))).setIfInBounds 64 (.slice (some ⟨A.bS,0,none⟩) A.N A.cap)).setIfInBounds 65 (.int .i64 s)).setIfInBounds 66 (.pointer (some ⟨A.bS,s,none⟩))).setIfInBounds 67 (.pointer (some ⟨A.st s,0,none⟩))).setIfInBounds 68 (.pointer (some ⟨A.st s,0,none⟩))).setIfInBounds 69 (.pointer (some ⟨A.st s,2,none⟩))).setIfInBounds 70 (.bool true)).setIfInBounds 71 (.bool false):=⟨_,rfl⟩;rw[<-hT];have hT1:T1.size=129:=by rw[hT];simp[hsz]
  have T1_0:=sg11 hT f2;have T1_1:=sg11 hT f3;have T1_5:=sg11 hT f4;have T1_6:=sg11 hT f5;have T1_9:=sg11 hT f6;have T1_10:=sg11 hT f7;have T1_11:=sg11 hT f8;have T1_46:=sg11 hT t46;have T1_47:=sg11 hT t47;have T1_71:T1[71]?=some (.bool false):=by rw[hT];simp[al_gs,hsz]
  clear hT f2 f3 f4 f5 f6 f7 f8 t12 t46 t47 hsz;refine hJ.ctl (s:=()) (λw=>stepG_region_end) ?_;refine hJ.ctl (s:=()) (λw=>stepG_cond (t:=false) (by simp[Act.eval,al_gd,T1_71])) ?_;simp only[Bool.false_eq_true,if_false];refine hJ.ctl (s:=()) (λw=>stepG_skip) ?_;refine hJ.ctl (s:=()) (λw=>stepG_inBlock) ?_;refine hJ.ctl (s:=()) (λw=>stepG_region) ?_;have hwr:IntKind.i64.wrap ((s:Int)+1)=((s+1:Nat):Int):=by
   rw[show(s:Int)+1=((s+1:Nat):Int)by omega];exact IntWalk.i64_in _ (by omega)
  clear cX cS cs' cv cL zL kL qL;refine zqp (J:=λ(_:Unit)=>HoldR Try.prog Fin Kc inb 0 n) (s:=()) hJ hb 0 [.int .i64 ((s+1:Nat):Int),.int .i64 ((s+1:Nat):Int)] [] rfl (by simp) (by rfl) ?_ ?_
  . intro τ d;simp only[zqm,dstOf,al_gl,al_g0,al_g1,al_ob];refine⟨?_,?_,trivial⟩<;>(intro o ho;simp only[al_oi]at ho;subst ho)
    all_goals(try simp only[execOp,Act.eval,List.map_toArray,List.map_cons,List.map_nil,al_gd])
    all_goals(try simp only[al_gs,al_gz,hT1,T1_0,T1_1,T1_5,T1_6,T1_9,T1_10,T1_11,T1_46,T1_47,T1_71,Nat.reduceEqDiff,Nat.reduceLT,↓reduceIte,al_od])
    all_goals(have hlt:∀i,i<129->i<(T1).size:=λi hi=>(by rw[hT1];exact hi))
    all_goals(clear hT1 T1_0 T1_1 T1_5 T1_6 T1_9 T1_10 T1_11 T1_46 T1_47 T1_71)
    all_goals(try go_simp)
    all_goals(try omega)
  simp only[putv,dstOf,al_gl,al_g0,al_g1,al_ob];obtain⟨T2,hT⟩:∃X,X=((T1).setIfInBounds 74 (.int .i64 ((s+1:Nat):Int))).setIfInBounds 47 (.int .i64 ((s+1:Nat):Int)):=⟨_,rfl⟩;rw[<-hT];have hT2:T2.size=129:=by rw[hT];simp[hT1]
  have T2_0:=sg2 hT T1_0;have T2_1:=sg2 hT T1_1;have T2_5:=sg2 hT T1_5;have T2_6:=sg2 hT T1_6;have T2_9:=sg2 hT T1_9;have T2_10:=sg2 hT T1_10;have T2_11:=sg2 hT T1_11;have T2_46:=sg2 hT T1_46;have T2_71:=sg2 hT T1_71;have T2_74:T2[74]?=some (.int .i64 ((s+1:Nat):Int)):=by rw[hT];simp[al_gs,hT1]
  have T2_47:T2[47]?=some (.int .i64 ((s+1:Nat):Int)):=by rw[hT];simp[al_gs,hT1]
  clear hT T1_0 T1_1 T1_5 T1_6 T1_9 T1_10 T1_11 T1_46 T1_47 T1_71 hT1;refine hJ.ctl (s:=()) (λw=>stepG_region_end) ?_;refine hJ.ctl (s:=()) (λw=>stepG_inLoop) ?_;have hi2:=hm.out E left w _ (by simp[hov]) hI ⟨hT2,T2_0,T2_1,T2_5,T2_6,T2_9,T2_10,T2_11⟩ T2_46 T2_47;exact hi2
 |false=>
  rw[hov]at cv;refine hJ.ctl (s:=()) (λw=>stepG_seq) ?_;refine hJ.ctl (s:=()) (λw=>stepG_region) ?_;refine zqp (J:=λ(_:Unit)=>HoldR Try.prog Fin Kc inb 0 n) (s:=()) hJ hb 0 [.pointer (some ⟨A.bT,0,none⟩),.pointer (some ⟨A.bT,0,none⟩),.pointer (some ⟨A.bT,1,none⟩),.slice (some ⟨A.bS,0,none⟩) A.N A.cap,.int .i64 s,.pointer (some ⟨A.bS,s,none⟩),.pointer (some ⟨A.st s,0,none⟩),.pointer (some ⟨A.st s,0,none⟩),.pointer (some ⟨A.st s,2,none⟩),.bool false,.bool true] [] rfl (by simp) (by rfl) ?_ ?_
  . intro τ d;simp only[zqm,dstOf,al_gl,al_g0,al_g1,al_ob];refine⟨?_,?_,?_,?_,?_,?_,?_,?_,?_,?_,?_,trivial⟩<;>(intro o ho;simp only[al_oi]at ho;subst ho)
    all_goals(try simp only[execOp,Act.eval,List.map_toArray,List.map_cons,List.map_nil,al_gd])
    all_goals(try simp only[al_gs,al_gz,hsz,f2,f3,f4,f5,f6,f7,f8,t12,t46,t47,Nat.reduceEqDiff,Nat.reduceLT,↓reduceIte,al_od])
    all_goals(have hlt:∀i,i<129->i<(Ts).size:=λi hi=>(by rw[hsz];exact hi))
    all_goals(clear hsz f2 f3 f4 f5 f6 f7 f8 t12 t46 t47)
    all_goals(try go_simp)
    all_goals(try omega)
  simp only[putv,dstOf,al_gl,al_g0,al_g1,al_ob];obtain⟨T1,hT⟩:∃X,X=(((((((((((Ts).setIfInBounds 61 (.pointer (some ⟨A.bT,0,none⟩))).setIfInBounds 62 (.pointer (some ⟨A.bT,0,none⟩))).setIfInBounds 63 (.pointer (some ⟨A.bT,1,none⟩))).setIfInBounds 64 (.slice (some ⟨A.bS,0,none⟩) A.N A.cap)).setIfInBounds 65 (.int .i64 s)).setIfInBounds 66 (.pointer (some ⟨A.bS,s,none⟩))).setIfInBounds 67 (.pointer (some ⟨A.st s,0,none⟩))).setIfInBounds 68 (.pointer (some ⟨A.st s,0,none⟩))).setIfInBounds 69 (.pointer (some ⟨A.st s,2,none⟩))).setIfInBounds 70 (.bool false)).setIfInBounds 71 (.bool true):=⟨_,rfl⟩;rw[<-hT];have hT1:T1.size=129:=by rw[hT];simp[hsz]
  have T1_0:=sg11 hT f2;have T1_1:=sg11 hT f3;have T1_5:=sg11 hT f4;have T1_6:=sg11 hT f5;have T1_9:=sg11 hT f6;have T1_10:=sg11 hT f7;have T1_11:=sg11 hT f8;have T1_46:=sg11 hT t46;have T1_47:=sg11 hT t47;have T1_71:T1[71]?=some (.bool true):=by rw[hT];simp[al_gs,hsz]
  clear hT f2 f3 f4 f5 f6 f7 f8 t12 t46 t47 hsz;refine hJ.ctl (s:=()) (λw=>stepG_region_end) ?_;refine hJ.ctl (s:=()) (λw=>stepG_cond (t:=true) (by simp[Act.eval,al_gd,T1_71])) ?_;simp only[if_true];refine hJ.ctl (s:=()) (λw=>stepG_region) ?_;have hwl:IntKind.i64.wrap ((left:Int)+1)=((left+1:Nat):Int):=by
   rw[show(left:Int)+1=((left+1:Nat):Int)by omega];exact IntWalk.i64_in _ (by omega)
  refine zqp (J:=λ(_:Unit)=>HoldR Try.prog Fin Kc inb 0 n) (s:=()) hJ hb 0 [.int .i64 left,.int .i64 ((left+1:Nat):Int)] [2] rfl (by simp) (by rfl) ?_ ?_
  . intro τ d;simp only[zqm,dstOf,al_gl,al_g0,al_g1,al_ob];refine⟨?_,?_,trivial⟩<;>(intro o ho;simp only[al_oi]at ho;subst ho)
    all_goals(try simp only[execOp,Act.eval,List.map_toArray,List.map_cons,List.map_nil,al_gd])
    all_goals(try simp only[al_gs,al_gz,hT1,T1_0,T1_1,T1_5,T1_6,T1_9,T1_10,T1_11,T1_46,T1_47,T1_71,Nat.reduceEqDiff,Nat.reduceLT,↓reduceIte,al_od])
    all_goals(have hlt:∀i,i<129->i<(T1).size:=λi hi=>(by rw[hT1];exact hi))
    all_goals(clear hT1 T1_0 T1_1 T1_5 T1_6 T1_9 T1_10 T1_11 T1_46 T1_47 T1_71)
    all_goals(try go_simp)
    all_goals(try omega)
  simp only[putv,dstOf,al_gl,al_g0,al_g1,al_ob];obtain⟨T2,hT⟩:∃X,X=((T1).setIfInBounds 72 (.int .i64 left)).setIfInBounds 73 (.int .i64 ((left+1:Nat):Int)):=⟨_,rfl⟩;rw[<-hT];have hT2:T2.size=129:=by rw[hT];simp[hT1]
  have T2_0:=sg2 hT T1_0;have T2_1:=sg2 hT T1_1;have T2_5:=sg2 hT T1_5;have T2_6:=sg2 hT T1_6;have T2_9:=sg2 hT T1_9;have T2_10:=sg2 hT T1_10;have T2_11:=sg2 hT T1_11;have T2_46:=sg2 hT T1_46;have T2_47:=sg2 hT T1_47;have T2_71:=sg2 hT T1_71;have T2_72:T2[72]?=some (.int .i64 left):=by rw[hT];simp[al_gs,hT1]
  have T2_73:T2[73]?=some (.int .i64 ((left+1:Nat):Int)):=by rw[hT];simp[al_gs,hT1]
  clear hT T1_0 T1_1 T1_5 T1_6 T1_9 T1_10 T1_11 T1_46 T1_47 T1_71 hT1;refine zq2g (J:=λ(_:Unit)=>HoldR Try.prog Fin Kc inb 0 n) (s:=()) (i:=2) (rest:=[]) hb hJ rfl rfl (ad:=⟨B.bL,0,none⟩) (by simp[Act.eval,al_gd,T2_11]) (λj hj=>zq4n kL (by simpa[Act.eval,al_gd,T2_73,Value.cells]using hj)) ⟨_,_,_,qL⟩ ?_;intro τ d;clear hwl;have t11':Hid (T2.size=129/\T2[0]?=some thr/\T2[1]?=some sch/\T2[5]?=some (.pointer (some ⟨B.bM,0,none⟩))/\T2[6]?=some (.pointer (some ⟨B.bO,0,none⟩))/\T2[9]?=some (.pointer (some ⟨B.bN,0,none⟩))/\T2[10]?=some (.pointer (some ⟨A.bX,0,none⟩))/\T2[46]?=some (.int .i64 A.N)/\T2[47]?=some (.int .i64 s)):=Lib.hid ⟨hT2,T2_0,T2_1,T2_5,T2_6,T2_9,T2_10,T2_46,T2_47⟩;clear hT2 T2_0 T2_1 T2_5 T2_6 T2_9 T2_10 T2_46 T2_47 T2_71 T2_72;go_wp2;simp only[zqg,zq21];refine hJ.re' () _ _ τ d ?_;have hI2:=hI.setL (left+1) (by omega);obtain⟨hT2,T2_0,T2_1,T2_5,T2_6,T2_9,T2_10,T2_46,T2_47⟩:=t11'.out;refine hJ.ctl (s:=()) (λw=>stepG_region_end) ?_;refine hJ.ctl (s:=()) (λw=>stepG_inBlock) ?_;refine hJ.ctl (s:=()) (λw=>stepG_region) ?_;have hwr:IntKind.i64.wrap ((s:Int)+1)=((s+1:Nat):Int):=by
   rw[show(s:Int)+1=((s+1:Nat):Int)by omega];exact IntWalk.i64_in _ (by omega)
  clear cX cS cs' cv cL zL kL qL;refine zqp (J:=λ(_:Unit)=>HoldR Try.prog Fin Kc inb 0 n) (s:=()) hJ hb 0 [.int .i64 ((s+1:Nat):Int),.int .i64 ((s+1:Nat):Int)] [] rfl (by simp) (by rfl) ?_ ?_
  . intro τ d;simp only[zqm,dstOf,al_gl,al_g0,al_g1,al_ob];refine⟨?_,?_,trivial⟩<;>(intro o ho;simp only[al_oi]at ho;subst ho)
    all_goals(try simp only[execOp,Act.eval,List.map_toArray,List.map_cons,List.map_nil,al_gd])
    all_goals(try simp only[al_gs,al_gz,hT2,T2_0,T2_1,T2_5,T2_6,T2_9,T2_10,T2_11,T2_46,T2_47,Nat.reduceEqDiff,Nat.reduceLT,↓reduceIte,al_od])
    all_goals(have hlt:∀i,i<129->i<(T2).size:=λi hi=>(by rw[hT2];exact hi))
    all_goals(clear hT2 T2_0 T2_1 T2_5 T2_6 T2_9 T2_10 T2_11 T2_46 T2_47)
    all_goals(try go_simp)
    all_goals(try omega)
  simp only[putv,dstOf,al_gl,al_g0,al_g1,al_ob];obtain⟨T3,hT⟩:∃X,X=((T2).setIfInBounds 74 (.int .i64 ((s+1:Nat):Int))).setIfInBounds 47 (.int .i64 ((s+1:Nat):Int)):=⟨_,rfl⟩;rw[<-hT];have hT3:T3.size=129:=by rw[hT];simp[hT2]
  have T3_0:=sg2 hT T2_0;have T3_1:=sg2 hT T2_1;have T3_5:=sg2 hT T2_5;have T3_6:=sg2 hT T2_6;have T3_9:=sg2 hT T2_9;have T3_10:=sg2 hT T2_10;have T3_11:=sg2 hT T2_11;have T3_46:=sg2 hT T2_46;have T3_74:T3[74]?=some (.int .i64 ((s+1:Nat):Int)):=by rw[hT];simp[al_gs,hT2]
  have T3_47:T3[47]?=some (.int .i64 ((s+1:Nat):Int)):=by rw[hT];simp[al_gs,hT2]
  clear hT T2_0 T2_1 T2_5 T2_6 T2_9 T2_10 T2_11 T2_46 T2_47 hT2;refine hJ.ctl (s:=()) (λw=>stepG_region_end) ?_;refine hJ.ctl (s:=()) (λw=>stepG_inLoop) ?_;have hi2:=hm.out _ (left+1) _ _ (by simp[hov]) hI2 ⟨hT3,T3_0,T3_1,T3_5,T3_6,T3_9,T3_10,T3_11⟩ T3_46 T3_47;exact hi2
end
end Go.Proofs
