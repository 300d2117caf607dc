/- YtkdlklpffdlglaaBox15: part 8 of the proof (the texts behind it, in order). -/
import Derived.Test.YtkdlklpffdlglaaW07
set_option maxHeartbeats 4000000
set_option maxRecDepth 100000
set_option linter.all false
namespace Go.Proofs
open Go Go.Conc Go.RowKit Go.Car
open Go.ConcN (upd upd_ne upd_same)
noncomputable def overT(n:Nat):Code:=tailN n (Try.f22.body.getD .skip)
theorem over6:overT 6=.seq (.seq (headC (headC (overT 6))) (.block 2 (.loop lpB))) (overT 7):=by kernel_rfl
theorem over7:overT 7=.seq (headC (overT 7)) (overT 8):=by kernel_rfl
theorem over8:overT 8=.seq (.seq (headC (headC (overT 8))) (.block 4 (.loop lpC))) (overT 9):=by kernel_rfl
theorem over9:overT 9=.seq (.block 6 (.loop lpD)) (overT 10):=by kernel_rfl
theorem over10:overT 10=.seq (headC (overT 10)) (overT 11):=by kernel_rfl
theorem over11:overT 11=.seq (.seq (headC (headC (overT 11))) (.block 10 (.loop lpF))) (overT 12):=by kernel_rfl
theorem over12:overT 12=.seq (headC (overT 12)) .ret:=by kernel_rfl
theorem Fr0.lay {A:OA}{B:Bx}{thr sch:Value}{T:Array Value}(h:Fr0 A B thr sch T)(s b:Nat):Fr0 (A.lay s b) B thr sch T:=⟨h.size,h.t0,h.t1,h.t5,h.t6,h.t9,h.t10,h.t11⟩
section
variable {M:Type}
theorem go_loop{Fin:Machine->Trace->Prop}(hFin:Back Try.prog Fin){T:Thr M}{B:Bx}{Kc:Addr->Option Value}{w₀:World}{m₀:M}{most:Nat}{tb L C:Nat}{sch:Value}{tv:Nat->Value}(hsb:tb<B.B0)(hsf:¬T.foot m₀ tb){b:Frame}(hb:b.kind≠.early){ds:List Deferred}{K:List Item}{cs:List Frame}{v:Value}{N n0:Nat}(hNL:N<=L)
 (hr:∀i,i<N->Runs Try.prog T 130 141 NEnd m₀ i (tv i)) (hv:∀i,i<N->w₀.cell? ⟨tb,i,none⟩=some (tv i)):
 ∀(r s:Nat),s+r=N->∀{A:OA}{n:Nat}{E:Nat->Option Obj}{k:Nat}{a:OSt M}{left:Nat}{inb:Nat->Option Seat}{w:World}{Ts:Array Value},A.N=N->A.n0=n0->A.tv=tv->n=n0+s->Inv T A B Kc w₀ m₀ most s E k a left v inb w->left=leftN a.ov s->(∀i,s<=i->a.ov i=false)->Begun T m₀ s a.m a.ov a.brk->
  Fr0 A B (.slice (some ⟨tb,0,none⟩) L C) sch Ts->Ts[46]?=some (.int .i64 N)->Ts[47]?=some (.int .i64 s)->
  (∀A' a' E' inb' w' Ts',A'.N=N->A'.n0=n0->a'.ord=a.ord->Begun T m₀ N a'.m a'.ov a'.brk->Inv T A' B Kc w₀ m₀ most N E' k a' (leftN a'.ov N) v inb' w'->Fr0 A' B (.slice (some ⟨tb,0,none⟩) L C) sch Ts'->HoldR Try.prog Fin Kc inb' 0 (n0+N) (G (b.at ⟨Ts',ds⟩ K) cs) w')->
  HoldR Try.prog Fin Kc inb 0 n (G (b.at ⟨Ts,ds⟩ (.code lpB::.inLoop lpB::.inBlock 2::K)) cs) w:=by
 intro r
 induction r with
 |zero=>
  intro s hs A n E k a left inb w Ts hAN hA0 hAt hn hI hl hov hbg hF t46 t47 hmain;have e:s=N:=by omega
  subst e;subst hn hl;refine zq7h hFin hF (by rw[hAN];exact t46) (by rw[hAN];exact t47) hb λTs' hF'=>?_;exact hmain A a E inb w Ts' hAN hA0 rfl hbg hI hF'
 |succ r ih=>
  intro s hs A n E k a left inb w Ts hAN hA0 hAt hn hI hl hov hbg hF t46 t47 hmain;have hsN:s<A.N:=by omega
  refine go_first hFin hI hsN (hov s (Nat.le_refl _)) (by omega) (hbg.same s (Nat.le_refl _)) (by rw[hAt];exact hr s (by omega)) hF (by rw[hAN];exact t46) t47 (by omega) (by rw[hAt];exact zq84 hI (hv s (by omega)) hsb hsf) hb λm' ov' brk' inb' w' Ts' hT hI' hF' u12 u46 u47=>?_;have hlt:leftN ov' s=leftN a.ov s:=by
   refine zq7l λi hi=>?_;cases hT with
   |yield h=>rfl
   |done h=>simp;omega
   |broke h=>simp;omega
  have hle:=zq7m a.ov s;refine zqcg hFin hI' hsN (by omega) (hF'.lay s w.heap.size) u12 u46 u47 hb λE' left' w2 Ts2 hleft hI2 hF2 z46 z47=>?_;refine ih (s+1) (by omega) (A:=A.lay s w.heap.size) hAN hA0 hAt (by omega) hI2 ?_ (λi hi=>?_) (.succ hbg hT) hF2 (by rw[<-hAN];exact z46) z47 ?_
  . show left'=leftN ov' s+(if ov' s=true then 0 else 1);rw[hleft,hl,hlt]
  . have h1:=hov i (by omega);cases hT with
    |yield h=>exact h1
    |done h=>show(if i=s then true else a.ov i)=false;rw[if_neg (by omega)];exact h1
    |broke h=>show(if i=s then true else a.ov i)=false;rw[if_neg (by omega)];exact h1
  . exact hmain
theorem glue9{Fin:Machine->Trace->Prop}(hFin:Back Try.prog Fin){A:OA}{B:Bx}{Kc:Addr->Option Value}{n:Nat}{inb:Nat->Option Seat}{w:World}{thr sch:Value}{Ts:Array Value}(hF:Fr0 A B thr sch Ts)(cN:w.cell? ⟨B.bN,0,none⟩=some (.int .i64 A.N))
 {b:Frame} (hb:b.kind≠.early) {ds:List Deferred} {K:List Item} {cs:List Frame}
 (hmain:∀Ts',Fr0 A B thr sch Ts'->Ts'[46]?=some (.int .i64 A.N)->Ts'[47]?=some (.int .i64 (0:Nat))->HoldR Try.prog Fin Kc inb 0 n (G (b.at ⟨Ts',ds⟩ (.code lpB::.inLoop lpB::.inBlock 2::.code (overT 7)::K)) cs) w):
 HoldR Try.prog Fin Kc inb 0 n (G (b.at ⟨Ts,ds⟩ (.code (overT 6)::K)) cs) w:=by
 have hJ:=zq11 hFin Kc inb n;obtain⟨hsz,f2,f3,f4,f5,f6,f7,f8⟩:=hF;have hm:=Lib.hid hmain;clear hmain;rw[over6];generalize overT 7=rest at hm |-;obtain⟨c0,hc0⟩:∃c,headC (headC (overT 6))=c:=⟨_,rfl⟩;have ec:=hc0;rw[hc0];simp only[overT,headC,tailN,Try.f22,al_od]at ec;subst ec;clear hc0;refine hJ.ctl (s:=()) (λw=>stepG_seq) ?_;refine hJ.ctl (s:=()) (λw=>stepG_seq) ?_;refine hJ.ctl (s:=()) (λw=>stepG_region) ?_;refine zqp (J:=λ(_:Unit)=>HoldR Try.prog Fin Kc inb 0 n) (s:=()) hJ hb 0 [.int .i64 A.N,.int .i64 (0:Nat)] [] rfl (by simp) (by rfl) ?_ ?_
 . intro τ d;simp only[zqm,dstOf,al_gl,al_g0,al_g1,al_ob];refine⟨?_,?_,trivial⟩<;>(intro o ho;simp only[al_oi]at ho;subst ho)
   all_goals(try simp only[execOp,Act.eval,List.map_toArray,List.map_cons,List.map_nil,al_gd])
   all_goals(try simp only[al_gs,al_gz,hsz,f2,f3,f4,f5,f6,f7,f8,Nat.reduceEqDiff,Nat.reduceLT,↓reduceIte,al_od])
   all_goals(have hlt:∀i,i<129->i<(Ts).size:=λi hi=>(by rw[hsz];exact hi))
   all_goals(clear hsz f2 f3 f4 f5 f6 f7 f8)
   all_goals(try go_simp)
   all_goals(try omega)
 simp only[putv,dstOf,al_gl,al_g0,al_g1,al_ob];obtain⟨T1,hT⟩:∃X,X=((Ts).setIfInBounds 46 (.int .i64 A.N)).setIfInBounds 47 (.int .i64 (0:Nat)):=⟨_,rfl⟩;rw[<-hT];have hT1:T1.size=129:=by rw[hT];simp[hsz]
 have T1_0:=sg2 hT f2;have T1_1:=sg2 hT f3;have T1_5:=sg2 hT f4;have T1_6:=sg2 hT f5;have T1_9:=sg2 hT f6;have T1_10:=sg2 hT f7;have T1_11:=sg2 hT f8;have T1_46:T1[46]?=some (.int .i64 A.N):=by rw[hT];simp[al_gs,hsz]
 have T1_47:T1[47]?=some (.int .i64 (0:Nat)):=by rw[hT];simp[al_gs,hsz]
 clear hT f2 f3 f4 f5 f6 f7 f8 hsz;refine hJ.ctl (s:=()) (λw=>stepG_region_end) ?_;refine hJ.ctl (s:=()) (λw=>stepG_block) ?_;refine hJ.ctl (s:=()) (λw=>stepG_loop) ?_;exact hm.out _ ⟨hT1,T1_0,T1_1,T1_5,T1_6,T1_9,T1_10,T1_11⟩ T1_46 T1_47
theorem glue17{Fin:Machine->Trace->Prop}(hFin:Back Try.prog Fin){A:OA}{B:Bx}{Kc:Addr->Option Value}{n:Nat}{inb:Nat->Option Seat}{w:World}{thr:Value}{p:Option Addr}{L C:Nat}{Ts:Array Value}(hF:Fr0 A B thr (.slice p L C) Ts)
 {b:Frame} (hb:b.kind≠.early) {ds:List Deferred} {K:List Item} {cs:List Frame}
 (hmain:∀Ts',Fr A B thr (.slice p L C) Ts'->Ts'[76]?=some (.slice p L C)->Ts'[77]?=some (.int .i64 L)->Ts'[78]?=some (.int .i64 (0:Nat))->HoldR Try.prog Fin Kc inb 0 n (G (b.at ⟨Ts',ds⟩ (.code lpC::.inLoop lpC::.inBlock 4::.code (overT 9)::K)) cs) w):
 HoldR Try.prog Fin Kc inb 0 n (G (b.at ⟨Ts,ds⟩ (.code (overT 7)::K)) cs) w:=by
 have hJ:=zq11 hFin Kc inb n;obtain⟨hsz,f2,f3,f4,f5,f6,f7,f8⟩:=hF;have hm:=Lib.hid hmain;clear hmain;rw[over7,over8];generalize overT 9=rest at hm |-;obtain⟨c1,hc1⟩:∃c,headC (headC (overT 8))=c:=⟨_,rfl⟩;have ed:=hc1;rw[hc1];simp only[overT,headC,tailN,Try.f22,al_od]at ed;subst ed;clear hc1;obtain⟨c0,hc0⟩:∃c,headC (overT 7)=c:=⟨_,rfl⟩;have ec:=hc0;rw[hc0];simp only[overT,headC,tailN,Try.f22,al_od]at ec;subst ec;clear hc0;refine hJ.ctl (s:=()) (λw=>stepG_seq) ?_;refine hJ.ctl (s:=()) (λw=>stepG_region) ?_;refine zqp (J:=λ(_:Unit)=>HoldR Try.prog Fin Kc inb 0 n) (s:=()) hJ hb 0 [stepV A B,stepV A B] [] rfl (by simp) (by rfl) ?_ ?_
 . intro τ d;simp only[zqm,dstOf,al_gl,al_g0,al_g1,al_ob];refine⟨?_,?_,trivial⟩<;>(intro o ho;simp only[al_oi]at ho;subst ho)
   all_goals(try simp only[execOp,Act.eval,Instr.makeFunc,stepV,List.map_toArray,List.map_cons,List.map_nil,al_gd])
   all_goals(try simp only[al_gs,al_gz,hsz,f2,f3,f4,f5,f6,f7,f8,Nat.reduceEqDiff,Nat.reduceLT,↓reduceIte,al_od])
   all_goals(have hlt:∀i,i<129->i<(Ts).size:=λi hi=>(by rw[hsz];exact hi))
   all_goals(clear hsz f2 f3 f4 f5 f6 f7 f8)
   all_goals(try go_simp)
   all_goals(try omega)
 simp only[putv,dstOf,al_gl,al_g0,al_g1,al_ob];obtain⟨T1,hT⟩:∃X,X=((Ts).setIfInBounds 75 (stepV A B)).setIfInBounds 13 (stepV A B):=⟨_,rfl⟩;rw[<-hT];have hT1:T1.size=129:=by rw[hT];simp[hsz]
 have T1_0:=sg2 hT f2;have T1_1:=sg2 hT f3;have T1_5:=sg2 hT f4;have T1_6:=sg2 hT f5;have T1_9:=sg2 hT f6;have T1_10:=sg2 hT f7;have T1_11:=sg2 hT f8;have T1_75:T1[75]?=some (stepV A B):=by rw[hT];simp[al_gs,hsz]
 have T1_13:T1[13]?=some (stepV A B):=by rw[hT];simp[al_gs,hsz]
 clear hT f2 f3 f4 f5 f6 f7 f8 hsz;refine hJ.ctl (s:=()) (λw=>stepG_region_end) ?_;refine hJ.ctl (s:=()) (λw=>stepG_seq) ?_;refine hJ.ctl (s:=()) (λw=>stepG_seq) ?_;refine hJ.ctl (s:=()) (λw=>stepG_region) ?_;refine zqp (J:=λ(_:Unit)=>HoldR Try.prog Fin Kc inb 0 n) (s:=()) hJ hb 0 [.slice p L C,.int .i64 L,.int .i64 (0:Nat)] [] rfl (by simp) (by rfl) ?_ ?_
 . intro τ d;simp only[zqm,dstOf,al_gl,al_g0,al_g1,al_ob];refine⟨?_,?_,?_,trivial⟩<;>(intro o ho;simp only[al_oi]at ho;subst ho)
   all_goals(try simp only[execOp,Act.eval,Instr.makeFunc,stepV,List.map_toArray,List.map_cons,List.map_nil,al_gd])
   all_goals(try simp only[al_gs,al_gz,hT1,T1_0,T1_1,T1_5,T1_6,T1_9,T1_10,T1_11,T1_75,T1_13,Nat.reduceEqDiff,Nat.reduceLT,↓reduceIte,al_od])
   all_goals(have hlt:∀i,i<129->i<(T1).size:=λi hi=>(by rw[hT1];exact hi))
   all_goals(clear hT1 T1_0 T1_1 T1_5 T1_6 T1_9 T1_10 T1_11 T1_75 T1_13)
   all_goals(try go_simp)
   all_goals(try omega)
 simp only[putv,dstOf,al_gl,al_g0,al_g1,al_ob];obtain⟨T2,hT⟩:∃X,X=(((T1).setIfInBounds 76 (.slice p L C)).setIfInBounds 77 (.int .i64 L)).setIfInBounds 78 (.int .i64 (0:Nat)):=⟨_,rfl⟩;rw[<-hT];have hT2:T2.size=129:=by rw[hT];simp[hT1]
 have T2_0:=sg3 hT T1_0;have T2_1:=sg3 hT T1_1;have T2_5:=sg3 hT T1_5;have T2_6:=sg3 hT T1_6;have T2_9:=sg3 hT T1_9;have T2_10:=sg3 hT T1_10;have T2_11:=sg3 hT T1_11;have T2_75:T2[75]?=some (stepV A B):=sg3 hT T1_75;have T2_13:T2[13]?=some (stepV A B):=sg3 hT T1_13;have T2_76:T2[76]?=some (.slice p L C):=by rw[hT];simp[al_gs,hT1]
 have T2_77:T2[77]?=some (.int .i64 L):=by rw[hT];simp[al_gs,hT1]
 have T2_78:T2[78]?=some (.int .i64 (0:Nat)):=by rw[hT];simp[al_gs,hT1]
 clear hT T1_0 T1_1 T1_5 T1_6 T1_9 T1_10 T1_11 T1_75 T1_13 hT1;refine hJ.ctl (s:=()) (λw=>stepG_region_end) ?_;refine hJ.ctl (s:=()) (λw=>stepG_block) ?_;refine hJ.ctl (s:=()) (λw=>stepG_loop) ?_;exact hm.out _ ⟨hT2,T2_0,T2_1,T2_5,T2_6,T2_9,T2_10,T2_11,T2_13⟩ T2_76 T2_77 T2_78
theorem glue29{Fin:Machine->Trace->Prop}(hFin:Back Try.prog Fin){A:OA}{B:Bx}{Kc:Addr->Option Value}{n:Nat}{inb:Nat->Option Seat}{w:World}{thr sch:Value}{left:Nat}{Ts:Array Value}(hF:Fr A B thr sch Ts)
 (cL:w.cell? ⟨B.bL,0,none⟩=some (.int .i64 left)) (cX:w.cell? ⟨A.bX,0,none⟩=some (.pointer (some ⟨A.bT,0,none⟩))) (cS:w.cell? ⟨A.bT,1,none⟩=some (.slice A.sp A.N A.cap))
 {b:Frame} (hb:b.kind≠.early) {ds:List Deferred} {K:List Item} {cs:List Frame}
 (hmain:∀Ts',Fr A B thr sch Ts'->Ts'[7]?=some (.bool (decide (0<left)))->Ts'[107]?=some (.slice A.sp A.N A.cap)->Ts'[108]?=some (.int .i64 A.N)->Ts'[109]?=some (.int .i64 (0:Nat))->HoldR Try.prog Fin Kc inb 0 n (G (b.at ⟨Ts',ds⟩ (.code lpF::.inLoop lpF::.inBlock 10::.code (overT 12)::K)) cs) w):
 HoldR Try.prog Fin Kc inb 0 n (G (b.at ⟨Ts,ds⟩ (.code (overT 10)::K)) cs) w:=by
 have hJ:=zq11 hFin Kc inb n;obtain⟨hsz,f2,f3,f4,f5,f6,f7,f8,f9⟩:=hF;have hm:=Lib.hid hmain;clear hmain;rw[over10,over11];generalize overT 12=rest at hm |-;obtain⟨c1,hc1⟩:∃c,headC (headC (overT 11))=c:=⟨_,rfl⟩;have ed:=hc1;rw[hc1];simp only[overT,headC,tailN,Try.f22,al_od]at ed;subst ed;clear hc1;obtain⟨c0,hc0⟩:∃c,headC (overT 10)=c:=⟨_,rfl⟩;have ec:=hc0;rw[hc0];simp only[overT,headC,tailN,Try.f22,al_od]at ec;subst ec;clear hc0;refine hJ.ctl (s:=()) (λw=>stepG_seq) ?_;refine hJ.ctl (s:=()) (λw=>stepG_region) ?_;refine zqp (J:=λ(_:Unit)=>HoldR Try.prog Fin Kc inb 0 n) (s:=()) hJ hb 0 [.int .i64 left,.bool (decide (0<left)),.bool (decide (0<left))] [] rfl (by simp) (by rfl) ?_ ?_
 . intro τ d;simp only[zqm,dstOf,al_gl,al_g0,al_g1,al_ob];refine⟨?_,?_,?_,trivial⟩<;>(intro o ho;simp only[al_oi]at ho;subst ho)
   all_goals(try simp only[execOp,Act.eval,List.map_toArray,List.map_cons,List.map_nil,al_gd])
   all_goals(try simp only[al_gs,al_gz,hsz,f2,f3,f4,f5,f6,f7,f8,f9,Nat.reduceEqDiff,Nat.reduceLT,↓reduceIte,al_od])
   all_goals(have hlt:∀i,i<129->i<(Ts).size:=λi hi=>(by rw[hsz];exact hi))
   all_goals(clear hsz f2 f3 f4 f5 f6 f7 f8 f9)
   all_goals(try go_simp)
   all_goals(try omega)
 simp only[putv,dstOf,al_gl,al_g0,al_g1,al_ob];obtain⟨T1,hT⟩:∃X,X=(((Ts).setIfInBounds 102 (.int .i64 left)).setIfInBounds 103 (.bool (decide (0<left)))).setIfInBounds 7 (.bool (decide (0<left))):=⟨_,rfl⟩;rw[<-hT];have hT1:T1.size=129:=by rw[hT];simp[hsz]
 have T1_0:=sg3 hT f2;have T1_1:=sg3 hT f3;have T1_5:=sg3 hT f4;have T1_6:=sg3 hT f5;have T1_9:=sg3 hT f6;have T1_10:=sg3 hT f7;have T1_11:=sg3 hT f8;have T1_13:T1[13]?=some (stepV A B):=sg3 hT f9;have T1_102:T1[102]?=some (.int .i64 left):=by rw[hT];simp[al_gs,hsz]
 have T1_103:T1[103]?=some (.bool (decide (0<left))):=by rw[hT];simp[al_gs,hsz]
 have T1_7:T1[7]?=some (.bool (decide (0<left))):=by rw[hT];simp[al_gs,hsz]
 clear hT f2 f3 f4 f5 f6 f7 f8 f9 hsz;refine hJ.ctl (s:=()) (λw=>stepG_region_end) ?_;refine hJ.ctl (s:=()) (λw=>stepG_seq) ?_;refine hJ.ctl (s:=()) (λw=>stepG_seq) ?_;refine hJ.ctl (s:=()) (λw=>stepG_region) ?_;clear cL;generalize decide (0<left)=stk at T1_7 T1_103 hm;refine zqp (J:=λ(_:Unit)=>HoldR Try.prog Fin Kc inb 0 n) (s:=()) hJ hb 0 [.pointer (some ⟨A.bT,0,none⟩),.pointer (some ⟨A.bT,0,none⟩),.pointer (some ⟨A.bT,1,none⟩),.slice A.sp A.N A.cap,.int .i64 A.N,.int .i64 (0:Nat)] [] rfl (by simp) (by rfl) ?_ ?_
 . intro τ d;simp only[zqm,dstOf,al_gl,al_g0,al_g1,al_ob];refine⟨?_,?_,?_,?_,?_,?_,trivial⟩<;>(intro o ho;simp only[al_oi]at ho;subst ho)
   all_goals(try simp only[execOp,Act.eval,List.map_toArray,List.map_cons,List.map_nil,al_gd])
   all_goals(try simp only[al_gs,al_gz,hT1,T1_0,T1_1,T1_5,T1_6,T1_9,T1_10,T1_11,T1_13,T1_102,T1_103,T1_7,Nat.reduceEqDiff,Nat.reduceLT,↓reduceIte,al_od])
   all_goals(have hlt:∀i,i<129->i<(T1).size:=λi hi=>(by rw[hT1];exact hi))
   all_goals(clear hT1 T1_0 T1_1 T1_5 T1_6 T1_9 T1_10 T1_11 T1_13 T1_102 T1_103 T1_7)
   all_goals(try go_simp)
   all_goals(try omega)
 simp only[putv,dstOf,al_gl,al_g0,al_g1,al_ob];obtain⟨T2,hT⟩:∃X,X=((((((T1).setIfInBounds 104 (.pointer (some ⟨A.bT,0,none⟩))).setIfInBounds 105 (.pointer (some ⟨A.bT,0,none⟩))).setIfInBounds 106 (.pointer (some ⟨A.bT,1,none⟩))).setIfInBounds 107 (.slice A.sp A.N A.cap)).setIfInBounds 108 (.int .i64 A.N)).setIfInBounds 109 (.int .i64 (0:Nat)):=⟨_,rfl⟩;rw[<-hT];have hT2:T2.size=129:=by rw[hT];simp[hT1]
 have T2_0:=sg6 hT T1_0;have T2_1:=sg6 hT T1_1;have T2_5:=sg6 hT T1_5;have T2_6:=sg6 hT T1_6;have T2_9:=sg6 hT T1_9;have T2_10:=sg6 hT T1_10;have T2_11:=sg6 hT T1_11;have T2_13:T2[13]?=some (stepV A B):=sg6 hT T1_13;have T2_102:=sg6 hT T1_102;have T2_103:=sg6 hT T1_103;have T2_7:=sg6 hT T1_7;have T2_104:T2[104]?=some (.pointer (some ⟨A.bT,0,none⟩)):=by rw[hT];simp[al_gs,hT1]
 have T2_105:T2[105]?=some (.pointer (some ⟨A.bT,0,none⟩)):=by rw[hT];simp[al_gs,hT1]
 have T2_106:T2[106]?=some (.pointer (some ⟨A.bT,1,none⟩)):=by rw[hT];simp[al_gs,hT1]
 have T2_107:T2[107]?=some (.slice A.sp A.N A.cap):=by rw[hT];simp[al_gs,hT1]
 have T2_108:T2[108]?=some (.int .i64 A.N):=by rw[hT];simp[al_gs,hT1]
 have T2_109:T2[109]?=some (.int .i64 (0:Nat)):=by rw[hT];simp[al_gs,hT1]
 clear hT T1_0 T1_1 T1_5 T1_6 T1_9 T1_10 T1_11 T1_13 T1_102 T1_103 T1_7 hT1;refine hJ.ctl (s:=()) (λw=>stepG_region_end) ?_;refine hJ.ctl (s:=()) (λw=>stepG_block) ?_;refine hJ.ctl (s:=()) (λw=>stepG_loop) ?_;exact hm.out _ ⟨hT2,T2_0,T2_1,T2_5,T2_6,T2_9,T2_10,T2_11,T2_13⟩ T2_7 T2_107 T2_108 T2_109
theorem glue19{Fin:Machine->Trace->Prop}(hFin:Back Try.prog Fin){A:OA}{B:Bx}{Kc:Addr->Option Value}{n:Nat}{inb:Nat->Option Seat}{w:World}{Ts:Array Value}{b:Frame}{ds:List Deferred}{K:List Item}{cs:List Frame}
 (hmain:HoldR Try.prog Fin Kc inb 0 n (G (b.at ⟨Ts,ds⟩ (.code lpD::.inLoop lpD::.inBlock 6::.code (overT 10)::K)) cs) w):
 HoldR Try.prog Fin Kc inb 0 n (G (b.at ⟨Ts,ds⟩ (.code (overT 9)::K)) cs) w:=by
 have hJ:=zq11 hFin Kc inb n;rw[over9];refine hJ.ctl (s:=()) (λw=>stepG_seq) ?_;refine hJ.ctl (s:=()) (λw=>stepG_block) ?_;exact hJ.ctl (s:=()) (λw=>stepG_loop) hmain
end
end Go.Proofs
namespace Go.Proofs
open Go Go.Conc Go.RowKit Go.Car
theorem zqeu{w:World}{b off:Nat}{v:Value}(h:w.cell? ⟨b,off,none⟩=some v):w.setCell ⟨b,off,none⟩ v=w:=by
 obtain⟨heap,tape,drawn,os,output⟩:=w;simp only[World.setCell,World.mk.injEq,and_true];apply Array.ext_getElem?;intro x;rw[Array.getElem?_modify];split
 . rename_i e;subst e;simp only[World.cell?]at h;cases hb:heap[b]? with
   |none=>rfl
   |some o=>
    rw[hb]at h;cases o<;>simp only[reduceCtorEq,Option.isSome_none,Bool.false_eq_true,if_false]at h;rename_i c t f;simp only[Option.map_some,Option.isSome_none,Bool.false_eq_true,if_false];rw[show c.setIfInBounds off v=c from ?_];apply Array.ext_getElem?;intro y;rw[al_gs];split
    . rename_i e;subst e;rw[h];split
      . rfl
      . rename_i hlt;rw[Array.getElem?_eq_none (by omega)]at h;cases h
    . rfl
 . rfl
theorem over_end{Fin:Machine->Trace->Prop}(hFin:Back Try.prog Fin){n:Nat}{A:OA}{B:Bx}{thr sch:Value}{stuck:Bool}{p:Option Addr}{len cap:Nat}{w:World}{Ts:Array Value}(hF:Fr A B thr sch Ts)(f10:Ts[7]?=some (.bool stuck))
 (cO:w.cell? ⟨B.bO,0,none⟩=some (.slice p len cap)) (zO:w.frozen? ⟨B.bO,0,none⟩=false) (cX:w.cell? ⟨A.bX,0,none⟩=some (.pointer (some ⟨A.bT,0,none⟩))) (cB:w.cell? ⟨A.bT,2,none⟩=some (.slice (some ⟨A.bB,0,none⟩) A.N A.capB)) {c:Frame} {cs:List Frame}
 (hmain:J0 Try.prog Fin n (G (c.finish (.tuple #[.slice p len cap,.bool stuck,.slice (some ⟨A.bB,0,none⟩) A.N A.capB])) cs) w):
 J0 Try.prog Fin n (G ((bN 22).at ⟨Ts,[]⟩ [.code (overT 12)]) (c::cs)) w:=by
 have hJ:=j0_JS hFin;have hb:(bN 22).kind≠.early:=by decide
 have hsame:∀τ d,(re w τ d).setCell ⟨B.bO,0,none⟩ (.slice p len cap)=re w τ d:=λτ d=>by rw[zq21,zqeu cO]
 obtain⟨hsz,f2,f3,f4,f5,f6,f7,f8,f9⟩:=hF;have hT:∃T,T=((((((Ts.setIfInBounds 123 (.slice p len cap)).setIfInBounds 124 (.bool stuck)).setIfInBounds 125 (.pointer (some ⟨A.bT,0,none⟩))).setIfInBounds 126 (.pointer (some ⟨A.bT,0,none⟩))).setIfInBounds 127 (.pointer (some ⟨A.bT,2,none⟩))).setIfInBounds 128 (.slice (some ⟨A.bB,0,none⟩) A.N A.capB)).setIfInBounds 8 (.slice (some ⟨A.bB,0,none⟩) A.N A.capB):=⟨_,rfl⟩;obtain⟨T,hT⟩:=hT;have hTs:T.size=129:=by rw[hT];simp[hsz]
 have g0:∀t,t≠123->t≠124->t≠125->t≠126->t≠127->t≠128->t≠8->T[t]?=Ts[t]?:=λt h1 h2 h3 h4 h5 h6 h7=>by rw[hT];simp only[al_gs];repeat (first|rw[if_neg (by omega)]|rfl)
 have g123:T[123]?=some (.slice p len cap):=by rw[hT];simp[al_gs,hsz]
 have g124:T[124]?=some (.bool stuck):=by rw[hT];simp[al_gs,hsz]
 have g125:T[125]?=some (.pointer (some ⟨A.bT,0,none⟩)):=by rw[hT];simp[al_gs,hsz]
 have g126:T[126]?=some (.pointer (some ⟨A.bT,0,none⟩)):=by rw[hT];simp[al_gs,hsz]
 have g127:T[127]?=some (.pointer (some ⟨A.bT,2,none⟩)):=by rw[hT];simp[al_gs,hsz]
 have g128:T[128]?=some (.slice (some ⟨A.bB,0,none⟩) A.N A.capB):=by rw[hT];simp[al_gs,hsz]
 have g8:T[8]?=some (.slice (some ⟨A.bB,0,none⟩) A.N A.capB):=by rw[hT];simp[al_gs,hsz]
 have g6:T[6]?=some (.pointer (some ⟨B.bO,0,none⟩)):=(g0 6 (by omega) (by omega) (by omega) (by omega) (by omega) (by omega) (by omega)).trans f5;have g7:T[7]?=some (.bool stuck):=(g0 7 (by omega) (by omega) (by omega) (by omega) (by omega) (by omega) (by omega)).trans f10;have g10:T[10]?=some (.pointer (some ⟨A.bX,0,none⟩)):=(g0 10 (by omega) (by omega) (by omega) (by omega) (by omega) (by omega) (by omega)).trans f7;clear hT;rw[over12];obtain⟨c0,hc0⟩:∃c,headC (overT 12)=c:=⟨_,rfl⟩;have ec:=hc0;rw[hc0];simp only[overT,headC,tailN,Try.f22,al_od]at ec;subst ec;clear hc0;refine hJ.ctl (s:=n) (λw=>stepG_seq) ?_;refine at_idle hJ hb (by rfl) [7] T (by rw[hsz];kernel_rfl) (hTs.trans hsz.symm) (λt ht=>?_) (λt ht=>?_) ?_ ?_
 . simp only[List.mem_singleton]at ht;subst ht;exact f10.trans g7.symm
 . have d:∀i x,i<9->dstOf _ i=some x->t≠x:=λi x hi hd e=>ht i hi (by rw[e];exact hd);exact g0 t (d 0 123 (by omega) rfl) (d 1 124 (by omega) rfl) (d 2 125 (by omega) rfl) (d 3 126 (by omega) rfl) (d 4 127 (by omega) rfl) (d 5 128 (by omega) rfl) (d 8 8 (by omega) rfl)
 . intro i o hi ho;have hi9:i=0\/i=1\/i=2\/i=3\/i=4\/i=5\/i=6\/i=7\/i=8:=by have:i<9:=hi;omega
   rcases hi9 with rfl |rfl |rfl |rfl |rfl |rfl |rfl |rfl |rfl<;>(simp only[al_gl,al_g0,al_g1,al_oi]at ho;subst ho)
   case inr.inr.inr.inr.inr.inr.inl=>
    refine .inr ⟨rfl,λτ dd=>?_⟩;have hs:=hsame τ dd;simp only[execOp,Act.eval,al_gd,g123,g6,al_od];clear hmain hsame;go_simp
   . exact .inl ⟨_,_,rfl,g123,λτ dd=>by simp only[execOp,Act.eval,al_gd,g6,al_od];clear hmain hsame;go_simp⟩
   . exact .inl ⟨_,_,rfl,g124,λτ dd=>by simp only[execOp,Act.eval,al_gd,g7,al_od];clear hmain hsame;go_simp⟩
   . exact .inl ⟨_,_,rfl,g125,λτ dd=>by simp only[execOp,Act.eval,al_gd,g10,al_od];clear hmain hsame;go_simp⟩
   . exact .inl ⟨_,_,rfl,g126,λτ dd=>by simp only[execOp,Act.eval,al_gd,g125,al_od];clear hmain hsame;go_simp⟩
   . exact .inl ⟨_,_,rfl,g127,λτ dd=>by simp only[execOp,Act.eval,al_gd,g126,al_od];clear hmain hsame;go_simp⟩
   . exact .inl ⟨_,_,rfl,g128,λτ dd=>by simp only[execOp,Act.eval,al_gd,g127,al_od];clear hmain hsame;go_simp⟩
   . exact .inl ⟨_,_,rfl,g7,λτ dd=>by simp only[execOp,Act.eval,al_gd,g124,al_od];clear hmain hsame;go_simp⟩
   . exact .inl ⟨_,_,rfl,g8,λτ dd=>by simp only[execOp,Act.eval,al_gd,g128,al_od];clear hmain hsame;go_simp⟩
 refine hJ.ctl (s:=n) (λw=>stepG_region_end) ?_;refine hJ.ctl (s:=n) (λw=>stepG_ret') ?_;refine zq1v hJ (b:=bN 22) rfl rfl Try.func22 (λτ d=>?_) hmain;simp only[results,Try.f22];have k1:(re w τ d).cell? ⟨B.bO,0,none⟩=some (.slice p len cap):=cO;simp[go_sem,al_gd,g6,g7,g8,k1]
end Go.Proofs
namespace Go.Proofs
open Go Go.Conc Go.RowKit Go.Car
open Go.ConcN (upd upd_ne upd_same)
def heldI(x m:Int):Int:=if m<(if x<0 then 0 else x)then m else(if x<0 then 0 else x)
theorem zqcj(x:Int)(m:Nat):heldI x m=((min x.toNat m:Nat):Int):=by
 unfold heldI;split<;>split at * <;>omega
section
variable {Kc:Addr->Option Value} {γ:Type} {J:γ->Goroutine->World->Prop}
theorem zqck{main:Bool}(hJ:JS Try.prog main Kc J){s:γ}{w:World}{x m:Int}{c:Frame}{cs:List Frame}(hmain:J s (G (c.finish (.int .i64 (heldI x m))) cs) w):
 J s (G (Frame.enter Try.prog 51 #[.int .i64 x,.int .i64 m] .normal) (c::cs)) w:=by
 have e:Frame.enter Try.prog 51 #[.int .i64 x,.int .i64 m] .normal=(bN 51).at (zqk Try.f51 #[.int .i64 x,.int .i64 m]) [.code ((Try.f51.body).getD .skip)]:=rfl;rw[e];have hm:=Lib.hid hmain;clear hmain;obtain⟨Ts,hT⟩:∃X,X=(zqk Try.f51 #[.int .i64 x,.int .i64 m]).tmps:=⟨_,rfl⟩;have hsz:Ts.size=9:=by rw[hT];rfl
 have f0:Ts[0]?=some (.int .i64 x):=by rw[hT];rfl
 have f1:Ts[1]?=some (.int .i64 m):=by rw[hT];rfl
 have eA:zqk Try.f51 #[.int .i64 x,.int .i64 m]=⟨Ts,[]⟩:=by rw[hT];rfl
 rw[eA];clear eA hT;simp only[Try.f51,al_od];refine hJ.ctl (s:=s) (λw=>stepG_seq) ?_;refine hJ.ctl (s:=s) (λw=>stepG_region) ?_;refine zqp (J:=J) (s:=s) hJ (by decide) 0 [.int .i64 0] [] rfl (by simp) (by rfl) ?_ ?_
 . intro τ d;simp only[zqm,dstOf,al_gl,al_g0,al_g1,al_ob];refine⟨?_,trivial⟩<;>(intro o ho;simp only[al_oi]at ho;subst ho)
   all_goals(try simp only[execOp,Act.eval,List.map_toArray,List.map_cons,List.map_nil,al_gd])
   all_goals(try simp only[al_gs,al_gz,hsz,f0,f1,Nat.reduceEqDiff,Nat.reduceLT,↓reduceIte,al_od])
   all_goals(have hlt:∀i,i<9->i<(Ts).size:=λi hi=>(by rw[hsz];exact hi))
   all_goals(clear hsz f0 f1)
   all_goals(try go_simp)
   all_goals(try omega)
 simp only[putv,dstOf,al_gl,al_g0,al_g1,al_ob];obtain⟨T1,hT⟩:∃X,X=(Ts).setIfInBounds 4 (.int .i64 0):=⟨_,rfl⟩;rw[<-hT];have hT1:T1.size=9:=by rw[hT];simp[hsz]
 have T1_0:=sg1 hT f0;have T1_1:=sg1 hT f1;have T1_4:T1[4]?=some (.int .i64 0):=by rw[hT];simp[al_gs,hsz]
 clear hT f0 f1 hsz;refine hJ.ctl (s:=s) (λw=>stepG_region_end) ?_;refine hJ.ctl (s:=s) (λw=>stepG_seq) ?_;refine hJ.ctl (s:=s) (λw=>stepG_region) ?_;refine zqp (J:=J) (s:=s) hJ (by decide) 0 [.int .i64 x,.int .i64 (if x<0 then 0 else x),.int .i64 m,.int .i64 (if m<(if x<0 then 0 else x)then m else(if x<0 then 0 else x)),.int .i64 (if m<(if x<0 then 0 else x)then m else(if x<0 then 0 else x))] [] rfl (by simp) (by rfl) ?_ ?_
 . intro τ d;simp only[zqm,dstOf,al_gl,al_g0,al_g1,al_ob];refine⟨?_,?_,?_,?_,?_,trivial⟩<;>(intro o ho;simp only[al_oi]at ho;subst ho)
   all_goals(try simp only[execOp,Act.eval,List.map_toArray,List.map_cons,List.map_nil,al_gd])
   all_goals(try simp only[al_gs,al_gz,hT1,T1_0,T1_1,T1_4,Nat.reduceEqDiff,Nat.reduceLT,↓reduceIte,al_od])
   all_goals(have hlt:∀i,i<9->i<(T1).size:=λi hi=>(by rw[hT1];exact hi))
   all_goals(clear hT1 T1_0 T1_1 T1_4)
   all_goals(try go_simp)
   all_goals(try omega)
 simp only[putv,dstOf,al_gl,al_g0,al_g1,al_ob];obtain⟨T2,hT⟩:∃X,X=(((((T1).setIfInBounds 5 (.int .i64 x)).setIfInBounds 6 (.int .i64 (if x<0 then 0 else x))).setIfInBounds 7 (.int .i64 m)).setIfInBounds 8 (.int .i64 (if m<(if x<0 then 0 else x)then m else(if x<0 then 0 else x)))).setIfInBounds 4 (.int .i64 (if m<(if x<0 then 0 else x)then m else(if x<0 then 0 else x))):=⟨_,rfl⟩;rw[<-hT];have hT2:T2.size=9:=by rw[hT];simp[hT1]
 have T2_0:=sg5 hT T1_0;have T2_1:=sg5 hT T1_1;have T2_5:T2[5]?=some (.int .i64 x):=by rw[hT];simp[al_gs,hT1]
 have T2_6:T2[6]?=some (.int .i64 (if x<0 then 0 else x)):=by rw[hT];simp[al_gs,hT1]
 have T2_7:T2[7]?=some (.int .i64 m):=by rw[hT];simp[al_gs,hT1]
 have T2_8:T2[8]?=some (.int .i64 (if m<(if x<0 then 0 else x)then m else(if x<0 then 0 else x))):=by rw[hT];simp[al_gs,hT1]
 have T2_4:T2[4]?=some (.int .i64 (if m<(if x<0 then 0 else x)then m else(if x<0 then 0 else x))):=by rw[hT];simp[al_gs,hT1]
 clear hT T1_0 T1_1 T1_4 hT1;refine hJ.ctl (s:=s) (λw=>stepG_region_end) ?_;refine hJ.ctl (s:=s) (λw=>stepG_ret') ?_;refine zq1v hJ (b:=bN 51) rfl rfl Try.func51 (λτ d=>?_) hm.out;simp[results,Try.f51,al_gd,T2_4,heldI]
end
theorem over0:Try.f22.body=some (.seq (headC (overT 0)) (.seq (headC (overT 1)) (.seq (headC (overT 2)) (overT 3)))):=by kernel_rfl
theorem zqdz{Fin:Machine->Trace->Prop}(hFin:Back Try.prog Fin){n:Nat}{p:Option Addr}{L C:Nat}{sch:Value}{mo:Int}{w:World}{c:Frame}{cs:List Frame}
 (hmain:∀(T:Array Value)(w':World),T.size=129->T[0]?=some (.slice p L C)->T[1]?=some sch->T[5]?=some (.pointer (some ⟨w.heap.size,0,none⟩))->T[6]?=some (.pointer (some ⟨w.heap.size+1,0,none⟩))->T[7]?=some (.bool false)->T[9]?=some (.pointer (some ⟨w.heap.size+2,0,none⟩))->
  w'.heap.size=w.heap.size+3->(∀b,b<w.heap.size->w'.heap[b]?=w.heap[b]?)->w'.heap[w.heap.size]?=some (.cells #[.int .i64 (heldI mo 1048576)] 3)->w'.heap[w.heap.size+1]?=some (.cells #[.slice none 0 0] 23)->w'.heap[w.heap.size+2]?=some (.cells #[.int .i64 (if(64:Int)<(L:Int)then 64 else(L:Int))] 3)->
  J0 Try.prog Fin n (G ((bN 22).at ⟨T,[]⟩ [.code (overT 3)]) (c::cs)) w'):
 J0 Try.prog Fin n (G (Frame.enter Try.prog 22 #[.slice p L C,sch,.int .i64 mo] .normal) (c::cs)) w:=by
 have hJ:=j0_JS hFin;have e:Frame.enter Try.prog 22 #[.slice p L C,sch,.int .i64 mo] .normal=(bN 22).at (zqk Try.f22 #[.slice p L C,sch,.int .i64 mo]) [.code ((Try.f22.body).getD .skip)]:=rfl;rw[e];obtain⟨B0,hs⟩:∃B0,w.heap.size=B0:=⟨_,rfl⟩;have hs':w.heap.size=B0:=hs;rw[hs']at hmain;have hm:=Lib.hid hmain;clear hmain hs';obtain⟨Ts,hT⟩:∃X,X=(zqk Try.f22 #[.slice p L C,sch,.int .i64 mo]).tmps:=⟨_,rfl⟩;have hsz:Ts.size=129:=by rw[hT];kernel_rfl
 have f0:Ts[0]?=some (.slice p L C):=by rw[hT];kernel_rfl
 have f1:Ts[1]?=some sch:=by rw[hT];kernel_rfl
 have f2:Ts[2]?=some (.int .i64 mo):=by rw[hT];kernel_rfl
 have eA:zqk Try.f22 #[.slice p L C,sch,.int .i64 mo]=⟨Ts,[]⟩:=by rw[hT];kernel_rfl
 rw[eA,over0,al_od];clear eA hT e;have ho:∀b,b<B0->w.heap[b]?=w.heap[b]?:=λ_ _=>rfl;generalize overT 3=rest at hm |-;obtain⟨c0,hc0⟩:∃c,headC (overT 0)=c:=⟨_,rfl⟩;obtain⟨c1,hc1⟩:∃c,headC (overT 1)=c:=⟨_,rfl⟩;obtain⟨c2,hc2⟩:∃c,headC (overT 2)=c:=⟨_,rfl⟩;have ec0:=hc0;have ec1:=hc1;have ec2:=hc2;rw[hc0,hc1,hc2];simp only[overT,headC,tailN,Try.f22,al_od]at ec0 ec1 ec2;subst ec0 ec1 ec2;clear hc0 hc1 hc2;refine hJ.ctl (s:=n) (λw=>stepG_seq) ?_;refine hJ.ctl (s:=n) (λw=>stepG_region) ?_;refine zq2u hJ (by decide) (s:=n) (i:=0) (rest:=[1,2,3]) rfl rfl rfl rfl λτ dd=>?_;refine⟨.pointer (some ⟨B0,0,none⟩),re (w.alloc (.cells #[.int .i64 mo] 3)) τ dd,?_,?_⟩
 . simp only[List.getElem_toArray,List.getElem_cons_zero,List.getElem_cons_succ,execOp,Act.eval,List.map_toArray,List.map_cons,List.map_nil,al_gd,hsz,f0,f1,f2,al_od];clear hsz f0 f1 f2
   (go_simp)
   all_goals(first|rfl |(simp[hs];done)|skip)
 refine hJ.re' _ _ _ τ dd ?_;generalize hw:w.alloc (.cells #[.int .i64 mo] 3)=w1;have hsw1:w1.heap.size=B0+1:=by rw[<-hw,zqd,hs]
 have how1:∀b,b<B0->w1.heap[b]?=w.heap[b]?:=λb hb=>by rw[<-hw,zqa,if_neg (by omega)];try exact ho b hb
 have b0w1:w1.heap[B0]?=some (.cells #[.int .i64 mo] 3):=by rw[<-hw,zqa,if_pos (by omega)]
 clear hw hs ho;obtain⟨T1,hT⟩:∃X,X=(Ts).setIfInBounds 5 (.pointer (some ⟨B0,0,none⟩)):=⟨_,rfl⟩;rw[<-hT];have hT1:T1.size=129:=by rw[hT];simp[hsz]
 have T1_0:=sg1 hT f0;have T1_1:=sg1 hT f1;have T1_2:=sg1 hT f2;have T1_5:T1[5]?=some (.pointer (some ⟨B0,0,none⟩)):=by rw[hT];simp[al_gs,hsz]
 clear hT f0 f1 f2 hsz;refine zq2u hJ (by decide) (s:=n) (i:=1) (rest:=[2,3]) rfl rfl rfl rfl λτ dd=>?_;refine⟨.pointer (some ⟨B0+1,0,none⟩),re (w1.alloc (.cells #[.slice none 0 0] 23)) τ dd,?_,?_⟩
 . simp only[List.getElem_toArray,List.getElem_cons_zero,List.getElem_cons_succ,execOp,Act.eval,List.map_toArray,List.map_cons,List.map_nil,al_gd,hT1,T1_0,T1_1,T1_2,T1_5,al_od];clear hT1 T1_0 T1_1 T1_2 T1_5
   (go_simp)
   all_goals(first|rfl |(simp[hsw1];done)|skip)
 refine hJ.re' _ _ _ τ dd ?_;generalize hw:w1.alloc (.cells #[.slice none 0 0] 23)=w2;have hsw2:w2.heap.size=B0+2:=by rw[<-hw,zqd,hsw1]
 have how2:∀b,b<B0->w2.heap[b]?=w.heap[b]?:=λb hb=>by rw[<-hw,zqa,if_neg (by omega)];try exact how1 b hb
 have b0w2:w2.heap[B0]?=some (.cells #[.int .i64 mo] 3):=by rw[<-hw,zqa,if_neg (by omega)];exact b0w1
 have b1w2:w2.heap[B0+1]?=some (.cells #[.slice none 0 0] 23):=by rw[<-hw,zqa,if_pos (by omega)]
 clear hw b0w1 hsw1 how1;obtain⟨T2,hT⟩:∃X,X=(T1).setIfInBounds 6 (.pointer (some ⟨B0+1,0,none⟩)):=⟨_,rfl⟩;rw[<-hT];have hT2:T2.size=129:=by rw[hT];simp[hT1]
 have T2_0:=sg1 hT T1_0;have T2_1:=sg1 hT T1_1;have T2_2:=sg1 hT T1_2;have T2_5:=sg1 hT T1_5;have T2_6:T2[6]?=some (.pointer (some ⟨B0+1,0,none⟩)):=by rw[hT];simp[al_gs,hT1]
 clear hT T1_0 T1_1 T1_2 T1_5 hT1;refine zq2u hJ (by decide) (s:=n) (i:=2) (rest:=[3]) rfl rfl rfl rfl λτ dd=>?_;refine⟨.bool false,re w2 τ dd,?_,?_⟩
 . simp only[List.getElem_toArray,List.getElem_cons_zero,List.getElem_cons_succ,execOp,Act.eval,List.map_toArray,List.map_cons,List.map_nil,al_gd,hT2,T2_0,T2_1,T2_2,T2_5,T2_6,al_od];clear hT2 T2_0 T2_1 T2_2 T2_5 T2_6
   (go_simp)
   all_goals(first|rfl |(simp[hsw2];done)|skip)
 refine hJ.re' _ _ _ τ dd ?_;obtain⟨T3,hT⟩:∃X,X=(T2).setIfInBounds 7 (.bool false):=⟨_,rfl⟩;rw[<-hT];have hT3:T3.size=129:=by rw[hT];simp[hT2]
 have T3_0:=sg1 hT T2_0;have T3_1:=sg1 hT T2_1;have T3_2:=sg1 hT T2_2;have T3_5:=sg1 hT T2_5;have T3_6:=sg1 hT T2_6;have T3_7:T3[7]?=some (.bool false):=by rw[hT];simp[al_gs,hT2]
 clear hT T2_0 T2_1 T2_2 T2_5 T2_6 hT2;refine zq2u hJ (by decide) (s:=n) (i:=3) (rest:=[]) rfl rfl rfl rfl λτ dd=>?_;refine⟨.slice none 0 0,re w2 τ dd,?_,?_⟩
 . simp only[List.getElem_toArray,List.getElem_cons_zero,List.getElem_cons_succ,execOp,Act.eval,List.map_toArray,List.map_cons,List.map_nil,al_gd,hT3,T3_0,T3_1,T3_2,T3_5,T3_6,T3_7,al_od];clear hT3 T3_0 T3_1 T3_2 T3_5 T3_6 T3_7
   (go_simp)
   all_goals(first|rfl |(simp[hsw2];done)|skip)
 refine hJ.re' _ _ _ τ dd ?_;obtain⟨T4,hT⟩:∃X,X=(T3).setIfInBounds 8 (.slice none 0 0):=⟨_,rfl⟩;rw[<-hT];have hT4:T4.size=129:=by rw[hT];simp[hT3]
 have T4_0:=sg1 hT T3_0;have T4_1:=sg1 hT T3_1;have T4_2:=sg1 hT T3_2;have T4_5:=sg1 hT T3_5;have T4_6:=sg1 hT T3_6;have T4_7:=sg1 hT T3_7;have T4_8:T4[8]?=some (.slice none 0 0):=by rw[hT];simp[al_gs,hT3]
 clear hT T3_0 T3_1 T3_2 T3_5 T3_6 T3_7 hT3;refine hJ.ctl (s:=n) (λw=>stepG_region_end) ?_;refine hJ.ctl (s:=n) (λw=>stepG_seq) ?_;refine hJ.ctl (s:=n) (λw=>stepG_region) ?_;refine zqp (s:=n) hJ (by decide) 0 [.slice p L C,.int .i64 L,.int .i64 (if(64:Int)<(L:Int)then 64 else(L:Int))] [3,4] rfl (by simp) (by rfl) ?_ ?_
 . intro τ d;simp only[zqm,dstOf,al_gl,al_g0,al_g1,al_ob];refine⟨?_,?_,?_,trivial⟩<;>(intro o ho;simp only[al_oi]at ho;subst ho)
   all_goals(try simp only[execOp,Act.eval,List.map_toArray,List.map_cons,List.map_nil,al_gd])
   all_goals(try simp only[al_gs,al_gz,hT4,T4_0,T4_1,T4_2,T4_5,T4_6,T4_7,Nat.reduceEqDiff,Nat.reduceLT,↓reduceIte,al_od])
   all_goals(have hlt:∀i,i<129->i<(T4).size:=λi hi=>(by rw[hT4];exact hi))
   all_goals(clear hT4 T4_0 T4_1 T4_2 T4_5 T4_6 T4_7)
   all_goals(try go_simp)
   all_goals(try omega)
 simp only[putv,dstOf,al_gl,al_g0,al_g1,al_ob];obtain⟨T5,hT⟩:∃X,X=(((T4).setIfInBounds 19 (.slice p L C)).setIfInBounds 20 (.int .i64 L)).setIfInBounds 21 (.int .i64 (if(64:Int)<(L:Int)then 64 else(L:Int))):=⟨_,rfl⟩;rw[<-hT];have hT5:T5.size=129:=by rw[hT];simp[hT4]
 have T5_0:=sg3 hT T4_0;have T5_1:=sg3 hT T4_1;have T5_2:=sg3 hT T4_2;have T5_5:=sg3 hT T4_5;have T5_6:=sg3 hT T4_6;have T5_7:=sg3 hT T4_7;have T5_19:T5[19]?=some (.slice p L C):=by rw[hT];simp[al_gs,hT4]
 have T5_20:T5[20]?=some (.int .i64 L):=by rw[hT];simp[al_gs,hT4]
 have T5_21:T5[21]?=some (.int .i64 (if(64:Int)<(L:Int)then 64 else(L:Int))):=by rw[hT];simp[al_gs,hT4]
 clear hT T4_0 T4_1 T4_2 T4_5 T4_6 T4_7 hT4;refine zq2u hJ (by decide) (s:=n) (i:=3) (rest:=[4]) rfl rfl rfl rfl λτ dd=>?_;refine⟨.pointer (some ⟨B0+2,0,none⟩),re (w2.alloc (.cells #[.int .i64 0] 3)) τ dd,?_,?_⟩
 . simp only[List.getElem_toArray,List.getElem_cons_zero,List.getElem_cons_succ,execOp,Act.eval,List.map_toArray,List.map_cons,List.map_nil,al_gd,hT5,T5_0,T5_1,T5_2,T5_5,T5_6,T5_7,T5_19,T5_20,T5_21,al_od];clear hT5 T5_0 T5_1 T5_2 T5_5 T5_6 T5_7 T5_19 T5_20 T5_21
   (go_simp)
   all_goals(first|rfl |(simp[hsw2];done)|skip)
 refine hJ.re' _ _ _ τ dd ?_;generalize hw:w2.alloc (.cells #[.int .i64 0] 3)=w3;have hsw3:w3.heap.size=B0+3:=by rw[<-hw,zqd,hsw2]
 have how3:∀b,b<B0->w3.heap[b]?=w.heap[b]?:=λb hb=>by rw[<-hw,zqa,if_neg (by omega)];try exact how2 b hb
 have b0w3:w3.heap[B0]?=some (.cells #[.int .i64 mo] 3):=by rw[<-hw,zqa,if_neg (by omega)];exact b0w2
 have b1w3:w3.heap[B0+1]?=some (.cells #[.slice none 0 0] 23):=by rw[<-hw,zqa,if_neg (by omega)];exact b1w2
 have b2w3:w3.heap[B0+2]?=some (.cells #[.int .i64 0] 3):=by rw[<-hw,zqa,if_pos (by omega)]
 clear hw b0w2 b1w2 hsw2 how2;obtain⟨T6,hT⟩:∃X,X=(T5).setIfInBounds 9 (.pointer (some ⟨B0+2,0,none⟩)):=⟨_,rfl⟩;rw[<-hT];have hT6:T6.size=129:=by rw[hT];simp[hT5]
 have T6_0:=sg1 hT T5_0;have T6_1:=sg1 hT T5_1;have T6_5:=sg1 hT T5_5;have T6_6:=sg1 hT T5_6;have T6_7:=sg1 hT T5_7;have T6_21:=sg1 hT T5_21;have T6_9:T6[9]?=some (.pointer (some ⟨B0+2,0,none⟩)):=by rw[hT];simp[al_gs,hT5]
 clear hT T5_0 T5_1 T5_2 T5_5 T5_6 T5_7 T5_19 T5_20 T5_21 hT5;have cS:=(zq0 (off:=0) b2w3).trans rfl;have zS:=zqc (off:=0) b2w3;refine zq4d hJ (by decide) (s:=n) (i:=4) (rest:=[]) rfl rfl rfl rfl λτ dd=>?_;refine⟨re (w3.setCell ⟨B0+2,0,none⟩ (.int .i64 (if(64:Int)<(L:Int)then 64 else(L:Int)))) τ dd,?_,?_⟩
 . simp only[List.getElem_toArray,List.getElem_cons_zero,List.getElem_cons_succ,execOp,Act.eval,List.map_toArray,List.map_cons,List.map_nil,al_gd,hT6,T6_0,T6_1,T6_5,T6_6,T6_7,T6_21,T6_9,al_od];clear hT6 T6_0 T6_1 T6_5 T6_6 T6_7 T6_21 T6_9
   (go_simp)
   all_goals(first|rfl |(simp[hsw3];done)|skip)
 refine hJ.re' _ _ _ τ dd ?_;have hq:=zqy w3 (B0+2) 0 (.int .i64 (if(64:Int)<(L:Int)then 64 else(L:Int))) b2w3;generalize hw:w3.setCell ⟨B0+2,0,none⟩ (.int .i64 (if(64:Int)<(L:Int)then 64 else(L:Int)))=w4 at hq;have hsw4:w4.heap.size=B0+3:=by rw[<-hw,zq13,hsw3]
 have how4:∀b,b<B0->w4.heap[b]?=w.heap[b]?:=λb hb=>by rw[<-hw,zqi _ _ _ _ (by show b≠B0+2;omega)];exact how3 b hb
 have b0w4:w4.heap[B0]?=some (.cells #[.int .i64 mo] 3):=by rw[<-hw,zqi _ _ _ _ (by show B0≠B0+2;omega)];exact b0w3
 have b1w4:w4.heap[B0+1]?=some (.cells #[.slice none 0 0] 23):=by rw[<-hw,zqi _ _ _ _ (by show B0+1≠B0+2;omega)];exact b1w3
 have b2w4:w4.heap[B0+2]?=some (.cells #[.int .i64 (if(64:Int)<(L:Int)then 64 else(L:Int))] 3):=hq.trans (by rfl);clear hw hq cS zS b0w3 b1w3 b2w3 hsw3 how3;refine hJ.ctl (s:=n) (λw=>stepG_region_end) ?_;refine hJ.ctl (s:=n) (λw=>stepG_seq) ?_;refine hJ.ctl (s:=n) (λw=>stepG_region) ?_;have cb0w4:=(zq0 (off:=0) b0w4).trans rfl;have zb0w4:=zqc (off:=0) b0w4;have cb1w4:=(zq0 (off:=0) b1w4).trans rfl;have zb1w4:=zqc (off:=0) b1w4;have cb2w4:=(zq0 (off:=0) b2w4).trans rfl;have zb2w4:=zqc (off:=0) b2w4;refine zqp (s:=n) hJ (by decide) 0 [.int .i64 mo] [1,2] rfl (by simp) (by rfl) ?_ ?_
 . intro τ d;simp only[zqm,dstOf,al_gl,al_g0,al_g1,al_ob];refine⟨?_,trivial⟩<;>(intro o ho;simp only[al_oi]at ho;subst ho)
   all_goals(try simp only[execOp,Act.eval,List.map_toArray,List.map_cons,List.map_nil,al_gd])
   all_goals(try simp only[al_gs,al_gz,hT6,T6_0,T6_1,T6_5,T6_6,T6_7,T6_9,Nat.reduceEqDiff,Nat.reduceLT,↓reduceIte,al_od])
   all_goals(have hlt:∀i,i<129->i<(T6).size:=λi hi=>(by rw[hT6];exact hi))
   all_goals(clear hT6 T6_0 T6_1 T6_5 T6_6 T6_7 T6_9)
   all_goals(try go_simp)
   all_goals(try omega)
 simp only[putv,dstOf,al_gl,al_g0,al_g1,al_ob];obtain⟨T7,hT⟩:∃X,X=(T6).setIfInBounds 22 (.int .i64 mo):=⟨_,rfl⟩;rw[<-hT];have hT7:T7.size=129:=by rw[hT];simp[hT6]
 have T7_0:=sg1 hT T6_0;have T7_1:=sg1 hT T6_1;have T7_5:=sg1 hT T6_5;have T7_6:=sg1 hT T6_6;have T7_7:=sg1 hT T6_7;have T7_9:=sg1 hT T6_9;have T7_22:T7[22]?=some (.int .i64 mo):=by rw[hT];simp[al_gs,hT6]
 clear hT T6_0 T6_1 T6_5 T6_6 T6_7 T6_9 hT6;clear cb0w4 zb0w4 cb1w4 zb1w4 cb2w4 zb2w4;refine zq1q (by decide) hJ (s:=n) rfl rfl (f:=51) (args:=#[.int .i64 mo,.int .i64 1048576]) (λτ d=>?_) (λτ d=>?_) ?_
 . simp[go_sem,execOp,Act.eval,resolve,Deferred.ofValue,invoke,callFunc,Try.func51,Try.f51,al_gd,T7_22]
 . intro e he;simp[go_sem,execOp,Act.eval,resolve,Deferred.ofValue,invoke,callFunc,Try.func51,Try.f51,Sem.runT_eq,al_gd,T7_22]at he
 refine zqck hJ ?_;rw[Frame.finish_at]
 try walk_nrm
 obtain⟨T8,hT⟩:∃X,X=(T7).setIfInBounds 23 (.int .i64 (heldI mo 1048576)):=⟨_,rfl⟩;rw[<-hT];have hT8:T8.size=129:=by rw[hT];simp[hT7]
 have T8_0:=sg1 hT T7_0;have T8_1:=sg1 hT T7_1;have T8_5:=sg1 hT T7_5;have T8_6:=sg1 hT T7_6;have T8_7:=sg1 hT T7_7;have T8_9:=sg1 hT T7_9;have T8_23:T8[23]?=some (.int .i64 (heldI mo 1048576)):=by rw[hT];simp[al_gs,hT7]
 clear hT T7_0 T7_1 T7_5 T7_6 T7_7 T7_9 T7_22 hT7;have cS:=(zq0 (off:=0) b0w4).trans rfl;have zS:=zqc (off:=0) b0w4;refine zq4d hJ (by decide) (s:=n) (i:=2) (rest:=[]) rfl rfl rfl rfl λτ dd=>?_;refine⟨re (w4.setCell ⟨B0,0,none⟩ (.int .i64 (heldI mo 1048576))) τ dd,?_,?_⟩
 . simp only[List.getElem_toArray,List.getElem_cons_zero,List.getElem_cons_succ,execOp,Act.eval,List.map_toArray,List.map_cons,List.map_nil,al_gd,hT8,T8_0,T8_1,T8_5,T8_6,T8_7,T8_9,T8_23,al_od];clear hT8 T8_0 T8_1 T8_5 T8_6 T8_7 T8_9 T8_23
   (go_simp)
   all_goals(first|rfl |(simp[hsw4];done)|skip)
 refine hJ.re' _ _ _ τ dd ?_;have hq:=zqy w4 (B0) 0 (.int .i64 (heldI mo 1048576)) b0w4;generalize hw:w4.setCell ⟨B0,0,none⟩ (.int .i64 (heldI mo 1048576))=w5 at hq;have hsw5:w5.heap.size=B0+3:=by rw[<-hw,zq13,hsw4]
 have how5:∀b,b<B0->w5.heap[b]?=w.heap[b]?:=λb hb=>by rw[<-hw,zqi _ _ _ _ (by show b≠B0;omega)];exact how4 b hb
 have b1w5:w5.heap[B0+1]?=some (.cells #[.slice none 0 0] 23):=by rw[<-hw,zqi _ _ _ _ (by show B0+1≠B0;omega)];exact b1w4
 have b2w5:w5.heap[B0+2]?=some (.cells #[.int .i64 (if(64:Int)<(L:Int)then 64 else(L:Int))] 3):=by rw[<-hw,zqi _ _ _ _ (by show B0+2≠B0;omega)];exact b2w4
 have b0w5:w5.heap[B0]?=some (.cells #[.int .i64 (heldI mo 1048576)] 3):=hq.trans (by rfl);clear hw hq cS zS b0w4 b1w4 b2w4 hsw4 how4;refine hJ.ctl (s:=n) (λw=>stepG_region_end) ?_;exact hm.out _ w5 hT8 T8_0 T8_1 T8_5 T8_6 T8_7 T8_9 hsw5 how5 b0w5 b1w5 b2w5
theorem zq7z(t:TypeId)(w:World)(h:t=137\/t=142):(Instr.makeChan t (.int .i64 0)).run Try.prog w=.ok (.chan (some w.heap.size)) (w.alloc (.chan 0 #[] false 0 0 false)):=by
 rcases h with rfl |rfl
 . obtain⟨i,hi⟩:∃i,Try.prog.info? 37=some i:=⟨_,rfl⟩;exact run_makeChan (P:=Try.prog) (w:=w) (dir:=_) (show Try.prog.underlying _=some (.chan .both _)from by kernel_rfl) hi .i64 0 (by omega) (by omega)
 . obtain⟨i,hi⟩:∃i,Try.prog.info? 4=some i:=⟨_,rfl⟩;exact run_makeChan (P:=Try.prog) (w:=w) (dir:=_) (show Try.prog.underlying _=some (.chan .both _)from by kernel_rfl) hi .i64 0 (by omega) (by omega)
theorem mk_bools(w:World)(N:Nat)(hN:N<=64):∃br,(Instr.makeSlice 62 (.int .i64 N) (.int .i64 N)).run Try.prog w=.ok (.slice (some ⟨w.heap.size,0,none⟩) N N) (w.alloc (.cells br 4))/\∀i,i<N->br[i]?=some (.bool false):=by
 obtain⟨ti,hti,hz0,hz1,hz2⟩:∃ti,Try.prog.info? 4=some ti/\ti.zero=some (.bool false)/\ti.size=1/\ti.bytes=1:=⟨_,rfl,rfl,rfl,rfl⟩;have:=run_makeSlice (P:=Try.prog) w 62 4 ti (.bool false) (by kernel_rfl) hti hz0 .i64 .i64 N N (by omega) (Int.le_refl _) (by rw[hz1];simp;omega) (by rw[hz2];omega) (by omega);simp only[Int.toNat_natCast,hz1,Nat.mul_one]at this;refine⟨_,this,λi hi=>?_⟩;simp only[madeCells,Value.cells,Array.getElem?_map];simp[hi,Nat.mod_one]
theorem mk_turn(w:World)(c g N:Nat):(Instr.build 140 #[(0,.chan (some c)),(2,.slice (some ⟨g,0,none⟩) N N)]).run Try.prog w=.ok (.agg #[.chan (some c),.slice none 0 0,.slice (some ⟨g,0,none⟩) N N]) w:=run_build w _ _ _ (by kernel_rfl)
structure I3(B1 N:Nat)(T₀:Array Value)(w₀:World)(c g p x:Nat)(L:Nat->Bool)(T:Array Value)(w:World):Prop where
 size:T.size=129
 keep:∀t,t≠24->t≠25->t≠26->t≠27->t≠28->t≠10->T[t]?=T₀[t]?
 ge:B1<=w.heap.size
 old:∀b,b<B1->w.heap[b]?=w₀.heap[b]?
 l3:L 3=true->L 0=true/\L 2=true
 l4:L 4=true->L 3=true
 l6:L 6=true->L 4=true/\L 5=true
 h0:L 0=true->T[24]?=some (.chan (some c))/\w.heap[c]?=some (.chan 0 #[] false 0 0 false)/\B1<=c
 h1:L 1=true->T[25]?=some (.int .i64 N)
 h2:L 2=true->T[26]?=some (.slice (some ⟨g,0,none⟩) N N)/\(∃br,w.heap[g]?=some (.cells br 4)/\∀i,i<N->br[i]?=some (.bool false))/\B1<=g
 h3:L 3=true->T[27]?=some (.agg #[.chan (some c),.slice none 0 0,.slice (some ⟨g,0,none⟩) N N])
 h4:L 4=true->T[28]?=some (.pointer (some ⟨p,0,none⟩))/\w.heap[p]?=some (.cells #[.chan (some c),.slice none 0 0,.slice (some ⟨g,0,none⟩) N N] 140)/\B1<=p
 h5:L 5=true->T[10]?=some (.pointer (some ⟨x,0,none⟩))/\w.heap[x]?=some (.cells #[if L 6=true then .pointer (some ⟨p,0,none⟩)else .pointer none] 136)/\B1<=x
theorem zqf{w:World}{o:Obj}{b:Nat}{y:Obj}(h:w.heap[b]?=some y):(w.alloc o).heap[b]?=some y:=by
 rw[zqa,if_neg (by have:=zqe h;omega)];exact h
theorem zq12(w:World)(o:Obj):(w.alloc o).heap[w.heap.size]?=some o:=by rw[zqa,if_pos rfl]
theorem zqe3{Fin:Machine->Trace->Prop}(hFin:Back Try.prog Fin){n N bn:Nat}{T₀:Array Value}{w:World}{rest:Code}{cs:List Frame}(hN:N<=64)(hsz:T₀.size=129)(f9:T₀[9]?=some (.pointer (some ⟨bn,0,none⟩)))(hn:w.cell? ⟨bn,0,none⟩=some (.int .i64 N))
 (hmain:∀(T:Array Value)(w':World)(c g p x:Nat),T.size=129->(∀t,t≠24->t≠25->t≠26->t≠27->t≠28->t≠10->T[t]?=T₀[t]?)->w.heap.size<=w'.heap.size->(∀b,b<w.heap.size->w'.heap[b]?=w.heap[b]?)->
  w.heap.size<=c->w.heap.size<=g->w.heap.size<=p->w.heap.size<=x->w'.heap[c]?=some (.chan 0 #[] false 0 0 false)->(∃br,w'.heap[g]?=some (.cells br 4)/\∀i,i<N->br[i]?=some (.bool false))->
  w'.heap[p]?=some (.cells #[.chan (some c),.slice none 0 0,.slice (some ⟨g,0,none⟩) N N] 140)->w'.heap[x]?=some (.cells #[.pointer (some ⟨p,0,none⟩)] 136)->T[10]?=some (.pointer (some ⟨x,0,none⟩))->
  J0 Try.prog Fin n (G ((bN 22).at ⟨T,[]⟩ [.code rest]) cs) w'):
 J0 Try.prog Fin n (G ((bN 22).at ⟨T₀,[]⟩ [.code (headC (overT 3)),.code rest]) cs) w:=by
 have hJ:=j0_JS hFin;obtain⟨c3,hc3⟩:∃c,headC (overT 3)=c:=⟨_,rfl⟩;have ec:=hc3;rw[hc3];simp only[overT,headC,tailN,Try.f22,al_od]at ec;subst ec;clear hc3;have hm:=Lib.hid hmain;clear hmain;refine zq6o hJ (by decide) (s:=n) (by rfl) (λL T w'=>∃c g p x,I3 w.heap.size N T₀ w c g p x L T w') (by kernel_rfl) ?_ ?_ ?_ ?_
 . rintro L T w' τ d ⟨c,g,p,x,h⟩;exact⟨c,g,p,x,⟨h.size,h.keep,h.ge,h.old,h.l3,h.l4,h.l6,h.h0,h.h1,h.h2,h.h3,h.h4,h.h5⟩⟩
 . exact⟨0,0,0,0,hsz,λ_ _ _ _ _ _ _=>rfl,Nat.le_refl _,λ_ _=>rfl,by simp,by simp,by simp,by simp,by simp,by simp,by simp,by simp,by simp⟩
 . rintro L T w' i o ⟨c,g,p,x,h⟩ hL ho hall;have hlt:i=0\/i=1\/i=2\/i=3\/i=4\/i=5\/i=6:=by have:i<7:=(Array.getElem?_eq_some_iff.1 ho).1;omega
   have hcN:w'.cell? ⟨bn,0,none⟩=some (.int .i64 N):=by rw[<-hn];exact zq16 (h.old bn (Go.Car.cell_lt hn))
   have f9':=(h.keep 9 (by omega) (by omega) (by omega) (by omega) (by omega) (by omega)).trans f9;have hs:=h.size;rcases hlt with rfl |rfl |rfl |rfl |rfl |rfl |rfl<;>(simp only[al_gl,al_g0,al_g1,al_oi]at ho;subst ho)
   ·
    have u:∀j,j≠0->upd L 0 true j=L j:=λj hj=>upd_ne _ _ hj;refine .inl ⟨24,rfl,.chan (some w'.heap.size),w'.alloc (.chan 0 #[] false 0 0 false),?_,w'.heap.size,g,p,x,by simp[hs],λt a1 a2 a3 a4 a5 a6=>(by rw[al_gn (by omega)];exact h.keep t a1 a2 a3 a4 a5 a6),(by rw[zqd];exact Nat.le_succ_of_le h.ge),λb hb=>(by rw[zqa,if_neg (by have:=h.ge;omega)];exact h.old b hb),λhh=>(by rw[u 3 (by omega)]at hh;have:=(h.l3 hh).1;rw[hL]at this;cases this),λhh=>(by rw[u 4 (by omega)]at hh;rw[u 3 (by omega)];exact h.l4 hh),λhh=>(by rw[u 6 (by omega)]at hh;rw[u 4 (by omega),u 5 (by omega)];exact h.l6 hh),
     λ_=>⟨by simp[hs],zq12 _ _,h.ge⟩,
     λhh=>(by rw[u 1 (by omega)]at hh;rw[al_gn (by omega)];exact h.h1 hh),
     λhh=>(by rw[u 2 (by omega)]at hh;obtain⟨q1,⟨br,q2,q4⟩,q3⟩:=h.h2 hh;exact⟨by rw[al_gn (by omega)];exact q1,⟨br,zqf q2,q4⟩,q3⟩),
     λhh=>(by rw[u 3 (by omega)]at hh;have:=(h.l3 hh).1;rw[hL]at this;cases this),
     λhh=>(by rw[u 4 (by omega)]at hh;have:=(h.l3 (h.l4 hh)).1;rw[hL]at this;cases this),
     λhh=>(by rw[u 5 (by omega)]at hh;obtain⟨q1,q2,q3⟩:=h.h5 hh;exact⟨by rw[al_gn (by omega)];exact q1,by rw[u 6 (by omega)];exact zqf q2,q3⟩)⟩
    simp only[execOp,Act.eval,Sem.run_bind,zq7z _ w' (.inl rfl)];rfl
   ·
    have u:∀j,j≠1->upd L 1 true j=L j:=λj hj=>upd_ne _ _ hj;refine .inl ⟨25,rfl,.int .i64 N,w',?_,c,g,p,x,by simp[hs],λt a1 a2 a3 a4 a5 a6=>(by rw[al_gn (by omega)];exact h.keep t a1 a2 a3 a4 a5 a6),h.ge,h.old,λhh=>(by rw[u 3 (by omega)]at hh;rw[u 0 (by omega),u 2 (by omega)];exact h.l3 hh),λhh=>(by rw[u 4 (by omega)]at hh;rw[u 3 (by omega)];exact h.l4 hh),λhh=>(by rw[u 6 (by omega)]at hh;rw[u 4 (by omega),u 5 (by omega)];exact h.l6 hh),
     λhh=>(by rw[u 0 (by omega)]at hh;obtain⟨q1,q2,q3⟩:=h.h0 hh;exact⟨by rw[al_gn (by omega)];exact q1,id q2,q3⟩),
     λ_=>(by simp[hs]),
     λhh=>(by rw[u 2 (by omega)]at hh;obtain⟨q1,⟨br,q2,q4⟩,q3⟩:=h.h2 hh;exact⟨by rw[al_gn (by omega)];exact q1,⟨br,id q2,q4⟩,q3⟩),
     λhh=>(by rw[u 3 (by omega)]at hh;rw[al_gn (by omega)];exact h.h3 hh),
     λhh=>(by rw[u 4 (by omega)]at hh;obtain⟨q1,q2,q3⟩:=h.h4 hh;exact⟨by rw[al_gn (by omega)];exact q1,id q2,q3⟩),
     λhh=>(by rw[u 5 (by omega)]at hh;obtain⟨q1,q2,q3⟩:=h.h5 hh;exact⟨by rw[al_gn (by omega)];exact q1,by rw[u 6 (by omega)];exact id q2,q3⟩)⟩
    simp only[execOp,Act.eval,al_gd,f9',al_od];clear hm;go_simp
   ·
    have a1:L 1=true:=hall ⟨1,.data⟩ (by simp) rfl;obtain⟨br,hbr,hbr2⟩:=mk_bools w' N hN;have u:∀j,j≠2->upd L 2 true j=L j:=λj hj=>upd_ne _ _ hj;refine .inl ⟨26,rfl,.slice (some ⟨w'.heap.size,0,none⟩) N N,w'.alloc (.cells br 4),?_,c,w'.heap.size,p,x,by simp[hs],λt a1 a2 a3 a4 a5 a6=>(by rw[al_gn (by omega)];exact h.keep t a1 a2 a3 a4 a5 a6),(by rw[zqd];exact Nat.le_succ_of_le h.ge),λb hb=>(by rw[zqa,if_neg (by have:=h.ge;omega)];exact h.old b hb),λhh=>(by rw[u 3 (by omega)]at hh;have:=(h.l3 hh).2;rw[hL]at this;cases this),λhh=>(by rw[u 4 (by omega)]at hh;rw[u 3 (by omega)];exact h.l4 hh),λhh=>(by rw[u 6 (by omega)]at hh;rw[u 4 (by omega),u 5 (by omega)];exact h.l6 hh),
     λhh=>(by rw[u 0 (by omega)]at hh;obtain⟨q1,q2,q3⟩:=h.h0 hh;exact⟨by rw[al_gn (by omega)];exact q1,zqf q2,q3⟩),
     λhh=>(by rw[u 1 (by omega)]at hh;rw[al_gn (by omega)];exact h.h1 hh),
     λ_=>⟨by simp[hs],⟨br,zq12 _ _,hbr2⟩,h.ge⟩,
     λhh=>(by rw[u 3 (by omega)]at hh;have:=(h.l3 hh).2;rw[hL]at this;cases this),
     λhh=>(by rw[u 4 (by omega)]at hh;have:=(h.l3 (h.l4 hh)).2;rw[hL]at this;cases this),
     λhh=>(by rw[u 5 (by omega)]at hh;obtain⟨q1,q2,q3⟩:=h.h5 hh;exact⟨by rw[al_gn (by omega)];exact q1,by rw[u 6 (by omega)];exact zqf q2,q3⟩)⟩
    simp only[execOp,Act.eval,al_gd,h.h1 a1,al_od,Sem.run_bind,hbr];rfl
   ·
    have a0:L 0=true:=hall ⟨0,.data⟩ (by simp) rfl;have a2:L 2=true:=hall ⟨2,.data⟩ (by simp) rfl;have u:∀j,j≠3->upd L 3 true j=L j:=λj hj=>upd_ne _ _ hj;refine .inl ⟨27,rfl,.agg #[.chan (some c),.slice none 0 0,.slice (some ⟨g,0,none⟩) N N],w',?_,c,g,p,x,by simp[hs],λt a1 a2 a3 a4 a5 a6=>(by rw[al_gn (by omega)];exact h.keep t a1 a2 a3 a4 a5 a6),h.ge,h.old,λ_=>⟨by rw[u 0 (by omega)];exact a0,by rw[u 2 (by omega)];exact a2⟩,λ_=>upd_same _ _ _,λhh=>(by rw[u 6 (by omega)]at hh;rw[u 4 (by omega),u 5 (by omega)];exact h.l6 hh),
     λhh=>(by rw[u 0 (by omega)]at hh;obtain⟨q1,q2,q3⟩:=h.h0 hh;exact⟨by rw[al_gn (by omega)];exact q1,id q2,q3⟩),
     λhh=>(by rw[u 1 (by omega)]at hh;rw[al_gn (by omega)];exact h.h1 hh),
     λhh=>(by rw[u 2 (by omega)]at hh;obtain⟨q1,⟨br,q2,q4⟩,q3⟩:=h.h2 hh;exact⟨by rw[al_gn (by omega)];exact q1,⟨br,id q2,q4⟩,q3⟩),
     λ_=>(by simp[hs]),
     λhh=>(by rw[u 4 (by omega)]at hh;obtain⟨q1,q2,q3⟩:=h.h4 hh;exact⟨by rw[al_gn (by omega)];exact q1,id q2,q3⟩),
     λhh=>(by rw[u 5 (by omega)]at hh;obtain⟨q1,q2,q3⟩:=h.h5 hh;exact⟨by rw[al_gn (by omega)];exact q1,by rw[u 6 (by omega)];exact id q2,q3⟩)⟩
    simp only[execOp,Act.eval,List.map_toArray,List.map_cons,List.map_nil,al_gd,(h.h0 a0).1,(h.h2 a2).1,al_od,Sem.run_bind,mk_turn];rfl
   ·
    have a3:L 3=true:=hall ⟨3,.data⟩ (by simp) rfl;have u:∀j,j≠4->upd L 4 true j=L j:=λj hj=>upd_ne _ _ hj;refine .inl ⟨28,rfl,.pointer (some ⟨w'.heap.size,0,none⟩),w'.alloc (.cells #[.chan (some c),.slice none 0 0,.slice (some ⟨g,0,none⟩) N N] 140),?_,c,g,w'.heap.size,x,by simp[hs],λt a1 a2 a3 a4 a5 a6=>(by rw[al_gn (by omega)];exact h.keep t a1 a2 a3 a4 a5 a6),(by rw[zqd];exact Nat.le_succ_of_le h.ge),λb hb=>(by rw[zqa,if_neg (by have:=h.ge;omega)];exact h.old b hb),λhh=>(by rw[u 3 (by omega)]at hh;rw[u 0 (by omega),u 2 (by omega)];exact h.l3 hh),λ_=>(by rw[u 3 (by omega)];exact a3),λhh=>(by rw[u 6 (by omega)]at hh;exact⟨upd_same _ _ _,by rw[u 5 (by omega)];exact(h.l6 hh).2⟩),
     λhh=>(by rw[u 0 (by omega)]at hh;obtain⟨q1,q2,q3⟩:=h.h0 hh;exact⟨by rw[al_gn (by omega)];exact q1,zqf q2,q3⟩),
     λhh=>(by rw[u 1 (by omega)]at hh;rw[al_gn (by omega)];exact h.h1 hh),
     λhh=>(by rw[u 2 (by omega)]at hh;obtain⟨q1,⟨br,q2,q4⟩,q3⟩:=h.h2 hh;exact⟨by rw[al_gn (by omega)];exact q1,⟨br,zqf q2,q4⟩,q3⟩),
     λhh=>(by rw[u 3 (by omega)]at hh;rw[al_gn (by omega)];exact h.h3 hh),
     λ_=>⟨by simp[hs],zq12 _ _,h.ge⟩,
     λhh=>(by rw[u 5 (by omega)]at hh;obtain⟨q1,q2,q3⟩:=h.h5 hh;have l6:L 6=false:=(by cases e:L 6 with|false=>rfl |true=>(have:=(h.l6 e).1;rw[hL]at this;cases this));rw[l6]at q2;exact⟨by rw[al_gn (by omega)];exact q1,by rw[u 6 (by omega),l6];exact zqf q2,q3⟩)⟩
    simp only[execOp,Act.eval,al_gd,h.h3 a3,al_od];clear hm;go_simp
   ·
    have l6:L 6=false:=(by cases e:L 6 with|false=>rfl |true=>(have:=(h.l6 e).2;rw[hL]at this;cases this));have u:∀j,j≠5->upd L 5 true j=L j:=λj hj=>upd_ne _ _ hj;refine .inl ⟨10,rfl,.pointer (some ⟨w'.heap.size,0,none⟩),w'.alloc (.cells #[.pointer none] 136),?_,c,g,p,w'.heap.size,by simp[hs],λt a1 a2 a3 a4 a5 a6=>(by rw[al_gn (by omega)];exact h.keep t a1 a2 a3 a4 a5 a6),(by rw[zqd];exact Nat.le_succ_of_le h.ge),λb hb=>(by rw[zqa,if_neg (by have:=h.ge;omega)];exact h.old b hb),λhh=>(by rw[u 3 (by omega)]at hh;rw[u 0 (by omega),u 2 (by omega)];exact h.l3 hh),λhh=>(by rw[u 4 (by omega)]at hh;rw[u 3 (by omega)];exact h.l4 hh),λhh=>(by rw[u 6 (by omega)]at hh;exact⟨by rw[u 4 (by omega)];exact(h.l6 hh).1,upd_same _ _ _⟩),
     λhh=>(by rw[u 0 (by omega)]at hh;obtain⟨q1,q2,q3⟩:=h.h0 hh;exact⟨by rw[al_gn (by omega)];exact q1,zqf q2,q3⟩),
     λhh=>(by rw[u 1 (by omega)]at hh;rw[al_gn (by omega)];exact h.h1 hh),
     λhh=>(by rw[u 2 (by omega)]at hh;obtain⟨q1,⟨br,q2,q4⟩,q3⟩:=h.h2 hh;exact⟨by rw[al_gn (by omega)];exact q1,⟨br,zqf q2,q4⟩,q3⟩),
     λhh=>(by rw[u 3 (by omega)]at hh;rw[al_gn (by omega)];exact h.h3 hh),
     λhh=>(by rw[u 4 (by omega)]at hh;obtain⟨q1,q2,q3⟩:=h.h4 hh;exact⟨by rw[al_gn (by omega)];exact q1,zqf q2,q3⟩),
     λ_=>⟨by simp[hs],by rw[u 6 (by omega),l6];exact zq12 _ _,h.ge⟩⟩
    simp only[execOp,Act.eval];clear hm;go_simp
   ·
    have a4:L 4=true:=hall ⟨4,.data⟩ (by simp) rfl;have a5:L 5=true:=hall ⟨5,.data⟩ (by simp) rfl;have u:∀j,j≠6->upd L 6 true j=L j:=λj hj=>upd_ne _ _ hj;obtain⟨q1,q2,q3⟩:=h.h5 a5;obtain⟨r1,r2,r3⟩:=h.h4 a4;rw[hL]at q2;have cx:=(zq0 (off:=0) q2).trans (show _=some (.pointer none)from rfl);have zx:=zqc (off:=0) q2;have hst:=zqy w' x 0 (.pointer (some ⟨p,0,none⟩)) q2;have hne:∀b y,w'.heap[b]?=some y->(∀c,y≠Obj.cells c 136)->(w'.setCell ⟨x,0,none⟩ (.pointer (some ⟨p,0,none⟩))).heap[b]?=some y:=λb y hb hy=>by
     rw[zqi _ _ _ _ (λ(e:b=x)=>by subst e;rw[q2]at hb;cases hb;exact hy _ rfl)];exact hb
    refine .inr ⟨rfl,w'.setCell ⟨x,0,none⟩ (.pointer (some ⟨p,0,none⟩)),?_,c,g,p,x,hs,h.keep,(by rw[zq13];exact h.ge),λb hb=>(by rw[zqi _ _ _ _ (by show b≠x;omega)];exact h.old b hb),
     λhh=>(by rw[u 3 (by omega)]at hh;rw[u 0 (by omega),u 2 (by omega)];exact h.l3 hh),λhh=>(by rw[u 4 (by omega)]at hh;rw[u 3 (by omega)];exact h.l4 hh),λ_=>⟨by rw[u 4 (by omega)];exact a4,by rw[u 5 (by omega)];exact a5⟩,
     λhh=>(by rw[u 0 (by omega)]at hh;obtain⟨s1,s2,s3⟩:=h.h0 hh;exact⟨s1,hne _ _ s2 (by intro c e;cases e),s3⟩),
     λhh=>(by rw[u 1 (by omega)]at hh;exact h.h1 hh),
     λhh=>(by rw[u 2 (by omega)]at hh;obtain⟨s1,⟨br,s2,s4⟩,s3⟩:=h.h2 hh;exact⟨s1,⟨br,hne _ _ s2 (by intro c e;cases e),s4⟩,s3⟩),
     λhh=>(by rw[u 3 (by omega)]at hh;exact h.h3 hh),
     λhh=>(by rw[u 4 (by omega)]at hh;exact⟨r1,hne _ _ r2 (by intro c e;cases e),r3⟩),
     λhh=>⟨q1,by rw[upd_same];exact hst.trans (by rfl),q3⟩⟩
    simp only[execOp,Act.eval,al_gd,q1,r1,al_od];clear hm;go_simp
 . rintro L T w' hall ⟨c,g,p,x,h⟩;obtain⟨q1,q2,q3⟩:=h.h5 (hall 5 (by simp));rw[hall 6 (by simp)]at q2;obtain⟨s1,s2,s3⟩:=h.h0 (hall 0 (by simp));obtain⟨v1,v2,v3⟩:=h.h2 (hall 2 (by simp));obtain⟨r1,r2,r3⟩:=h.h4 (hall 4 (by simp));refine hJ.ctl (s:=n) (λw=>stepG_region_end) ?_;exact hm.out T w' c g p x h.size h.keep h.ge h.old s3 v3 r3 q3 s2 v2 r2 q2 q1
theorem mk_stand(w:World)(b c:Nat):(Instr.build 144 #[(0,.pointer (some ⟨b,0,none⟩)),(1,.chan (some c))]).run Try.prog w=.ok (.agg #[.pointer (some ⟨b,0,none⟩),.chan (some c),.bool false]) w:=run_build w _ _ _ (by kernel_rfl)
theorem mk_one(w:World)(s:Nat):(Instr.buildSlice 138 1 #[(0,.pointer (some ⟨s,0,none⟩))]).run Try.prog w=.ok (.slice (some ⟨w.heap.size,0,none⟩) 1 1) (w.alloc (.cells #[.pointer (some ⟨s,0,none⟩)] 141)):=by
 obtain⟨ti,hti,hz0,hz1⟩:∃ti,Try.prog.info? 141=some ti/\ti.zero=some (.pointer none)/\ti.size=1:=⟨_,rfl,rfl,rfl⟩;exact run_buildSlice w 138 141 1 _ _ ti (.pointer none) (by kernel_rfl) hti hz0 (by rw[hz1];decide) (by rw[hz1];decide) (by rw[hz1];kernel_rfl)
structure I6(B1 j N bX bT bB back capB:Nat)(E:Nat->Option Obj)(l:List Value)(sv:Value)(T₀:Array Value)(w₀:World)(c s r:Nat)(v':Value)(L:Nat->Bool)(T:Array Value)(w:World):Prop where
 size:T.size=129
 keep:∀t,t<32\/44<t->T[t]?=T₀[t]?
 ge:w₀.heap.size<=w.heap.size
 ext:∀b o,E b=some o->w.heap[b]?=some o
 bt:w.heap[bT]?=some (.cells #[.chan (some back),if L 13=true then v' else sv,.slice (some ⟨bB,0,none⟩) N capB] 140)
 row:L 10=false->w.ownsRow B1 141 1 sv j l
 k7:L 7=true->L 6=true
 k8:L 8=true->L 7=true
 k9:L 9=true->L 8=true
 k10:L 10=true->L 9=true
 k13:L 13=true->L 10=true
 k4:L 10=true->L 4=true
 h0:L 0=true->T[32]?=some (.pointer (some ⟨bT,0,none⟩))
 h1:L 1=true->T[33]?=some (.pointer (some ⟨bT,0,none⟩))
 h2:L 2=true->T[34]?=some (.pointer (some ⟨bT,0,none⟩))
 h3:L 3=true->T[35]?=some (.pointer (some ⟨bT,1,none⟩))
 h4:L 4=true->T[36]?=some sv
 h5:L 5=true->T[37]?=some (.pointer (some ⟨bT,0,none⟩))
 h6:L 6=true->T[38]?=some (.chan (some c))/\w.heap[c]?=some (.chan 0 #[] false 0 0 false)/\w₀.heap.size<=c
 h7:L 7=true->T[39]?=some (.agg #[.pointer (some ⟨bT,0,none⟩),.chan (some c),.bool false])
 h8:L 8=true->T[40]?=some (.pointer (some ⟨s,0,none⟩))/\w.heap[s]?=some (.cells #[.pointer (some ⟨bT,0,none⟩),.chan (some c),.bool false] 144)/\c<s
 h9:L 9=true->L 10=false->T[41]?=some (.slice (some ⟨r,0,none⟩) 1 1)/\w.heap[r]?=some (.cells #[.pointer (some ⟨s,0,none⟩)] 141)
 h10:L 10=true->T[42]?=some v'/\w.ownsRow B1 141 1 v' (j+1) (l++[.pointer (some ⟨s,0,none⟩)])
 h11:L 11=true->T[43]?=some (.pointer (some ⟨bT,0,none⟩))
 h12:L 12=true->T[44]?=some (.pointer (some ⟨bT,1,none⟩))
theorem zq42{w:World}{B:Nat}{e:TypeId}{v:Value}{n:Nat}{xs:List Value}(h:w.ownsRow B e 1 v n xs)(o:Obj):(w.alloc o).ownsRow B e 1 v n xs:=by
 refine⟨h.1,?_⟩;rcases h.2 with hv|⟨g,cap,cur,hv,h1,h2,h3⟩
 . exact .inl hv
 . exact .inr ⟨g,cap,cur,hv,h1,zqf h2,h3⟩
noncomputable def r6c:Code:=match headC (tailN 4 (Try.f22.body.getD .skip))with|.seq _ (.block _ (.loop (.seq _ (.seq _ (.seq (.block _ c) _)))))=>c|_=>.skip
theorem zqe2{Fin:Machine->Trace->Prop}(hFin:Back Try.prog Fin){n B1 j N bX bT bB back capB:Nat}{E:Nat->Option Obj}{l:List Value}{sv:Value}{T₀:Array Value}{w:World}{K:List Item}{cs:List Frame}(hj:j<64)(hsz:T₀.size=129)(f10:T₀[10]?=some (.pointer (some ⟨bX,0,none⟩)))
 (hEX:E bX=some (.cells #[.pointer (some ⟨bT,0,none⟩)] 136)) (hET:E bT=none) (hEg:∀g,sv.ownBlock=some g->E g=none) (hext:∀b o,E b=some o->w.heap[b]?=some o)
 (hbt:w.heap[bT]?=some (.cells #[.chan (some back),sv,.slice (some ⟨bB,0,none⟩) N capB] 140)) (hrow:w.ownsRow B1 141 1 sv j l) (hB1:B1<=w.heap.size)
 (hmain:∀(T:Array Value)(w':World)(c s:Nat)(v':Value),T.size=129->(∀t,t<32\/44<t->T[t]?=T₀[t]?)->w.heap.size<=w'.heap.size->(∀b o,E b=some o->w'.heap[b]?=some o)->w'.heap[bT]?=some (.cells #[.chan (some back),v',.slice (some ⟨bB,0,none⟩) N capB] 140)->
  w'.ownsRow B1 141 1 v' (j+1) (l++[.pointer (some ⟨s,0,none⟩)])->w'.heap[c]?=some (.chan 0 #[] false 0 0 false)->w.heap.size<=c->w'.heap[s]?=some (.cells #[.pointer (some ⟨bT,0,none⟩),.chan (some c),.bool false] 144)->c<s->
  J0 Try.prog Fin n (G ((bN 22).at ⟨T,[]⟩ K) cs) w'):
 J0 Try.prog Fin n (G ((bN 22).at ⟨T₀,[]⟩ (.code r6c::K)) cs) w:=by
 have hJ:=j0_JS hFin;simp only[r6c,Try.f22];have hm:=Lib.hid hmain;clear hmain;refine zq6o hJ (by decide) (s:=n) (by rfl) (λL T w'=>∃c s r v',I6 B1 j N bX bT bB back capB E l sv T₀ w c s r v' L T w') (by kernel_rfl) ?_ ?_ ?_ ?_
 . rintro L T w' τ d ⟨c,s,r,v',h⟩;exact⟨c,s,r,v',⟨h.size,h.keep,h.ge,h.ext,h.bt,h.row,h.k7,h.k8,h.k9,h.k10,h.k13,h.k4,h.h0,h.h1,h.h2,h.h3,h.h4,h.h5,h.h6,h.h7,h.h8,h.h9,h.h10,h.h11,h.h12⟩⟩
 . exact⟨0,0,0,.nilFunc,hsz,λ_ _=>rfl,Nat.le_refl _,hext,hbt,λ_=>hrow,by simp,by simp,by simp,by simp,by simp,by simp,by simp,by simp,by simp,by simp,by simp,by simp,by simp,by simp,by simp,by simp,by simp,by simp,by simp⟩
 . rintro L T w' i o ⟨c,s,r,v',h⟩ hL ho hall;have hlt:i=0\/i=1\/i=2\/i=3\/i=4\/i=5\/i=6\/i=7\/i=8\/i=9\/i=10\/i=11\/i=12\/i=13:=by have:i<14:=(Array.getElem?_eq_some_iff.1 ho).1;omega
   have hcX:w'.cell? ⟨bX,0,none⟩=some (.pointer (some ⟨bT,0,none⟩)):=(zq0 (h.ext _ _ hEX)).trans rfl;have hcT:w'.cell? ⟨bT,1,none⟩=some (if L 13=true then v' else sv):=(zq0 h.bt).trans rfl;have f10':=(h.keep 10 (by omega)).trans f10;have hs:=h.size;have n13:L 10=false->L 13=false:=λe=>(by cases e':L 13 with|false=>rfl |true=>(have:=h.k13 e';rw[e]at this;cases this));rcases hlt with rfl |rfl |rfl |rfl |rfl |rfl |rfl |rfl |rfl |rfl |rfl |rfl |rfl |rfl<;>(simp only[al_gl,al_g0,al_g1,al_oi]at ho;subst ho)
   ·
    have u:∀j,j≠0->upd L 0 true j=L j:=λj hj=>upd_ne _ _ hj;refine .inl ⟨32,rfl,.pointer (some ⟨bT,0,none⟩),w',?_,c,s,r,v',by simp[hs],λt ht=>(by rw[al_gn (by omega)];exact h.keep t ht),h.ge,h.ext,(by rw[u 13 (by omega)];exact h.bt),(λhh=>by rw[u 10 (by omega)]at hh;exact h.row hh),λhh=>(by rw[u 7 (by omega)]at hh;rw[u 6 (by omega)];exact h.k7 hh),λhh=>(by rw[u 8 (by omega)]at hh;rw[u 7 (by omega)];exact h.k8 hh),λhh=>(by rw[u 9 (by omega)]at hh;rw[u 8 (by omega)];exact h.k9 hh),λhh=>(by rw[u 10 (by omega)]at hh;rw[u 9 (by omega)];exact h.k10 hh),λhh=>(by rw[u 13 (by omega)]at hh;rw[u 10 (by omega)];exact h.k13 hh),(λhh=>by rw[u 10 (by omega)]at hh;rw[u 4 (by omega)];exact h.k4 hh),
     λ_=>by simp[hs],
     λhh=>(by rw[u 1 (by omega)]at hh;rw[al_gn (by omega)];exact h.h1 hh),
     λhh=>(by rw[u 2 (by omega)]at hh;rw[al_gn (by omega)];exact h.h2 hh),
     λhh=>(by rw[u 3 (by omega)]at hh;rw[al_gn (by omega)];exact h.h3 hh),
     λhh=>(by rw[u 4 (by omega)]at hh;rw[al_gn (by omega)];exact h.h4 hh),
     λhh=>(by rw[u 5 (by omega)]at hh;rw[al_gn (by omega)];exact h.h5 hh),
     λhh=>(by rw[u 6 (by omega)]at hh;obtain⟨q1,q2,q3⟩:=h.h6 hh;exact⟨(by rw[al_gn (by omega)];exact q1),q2,q3⟩),
     λhh=>(by rw[u 7 (by omega)]at hh;rw[al_gn (by omega)];exact h.h7 hh),
     λhh=>(by rw[u 8 (by omega)]at hh;obtain⟨q1,q2,q3⟩:=h.h8 hh;exact⟨(by rw[al_gn (by omega)];exact q1),q2,q3⟩),
     λhh h10=>(by rw[u 9 (by omega)]at hh;rw[u 10 (by omega)]at h10;obtain⟨q1,q2⟩:=h.h9 hh h10;exact⟨(by rw[al_gn (by omega)];exact q1),q2⟩),
     λhh=>(by rw[u 10 (by omega)]at hh;obtain⟨q1,q2⟩:=h.h10 hh;exact⟨(by rw[al_gn (by omega)];exact q1),q2⟩),
     λhh=>(by rw[u 11 (by omega)]at hh;rw[al_gn (by omega)];exact h.h11 hh),
     λhh=>(by rw[u 12 (by omega)]at hh;rw[al_gn (by omega)];exact h.h12 hh)⟩
    simp only[execOp,Act.eval,List.map_toArray,List.map_cons,List.map_nil,al_gd,f10',al_od];clear hm;go_simp
   ·
    have u:∀j,j≠1->upd L 1 true j=L j:=λj hj=>upd_ne _ _ hj;refine .inl ⟨33,rfl,.pointer (some ⟨bT,0,none⟩),w',?_,c,s,r,v',by simp[hs],λt ht=>(by rw[al_gn (by omega)];exact h.keep t ht),h.ge,h.ext,(by rw[u 13 (by omega)];exact h.bt),(λhh=>by rw[u 10 (by omega)]at hh;exact h.row hh),λhh=>(by rw[u 7 (by omega)]at hh;rw[u 6 (by omega)];exact h.k7 hh),λhh=>(by rw[u 8 (by omega)]at hh;rw[u 7 (by omega)];exact h.k8 hh),λhh=>(by rw[u 9 (by omega)]at hh;rw[u 8 (by omega)];exact h.k9 hh),λhh=>(by rw[u 10 (by omega)]at hh;rw[u 9 (by omega)];exact h.k10 hh),λhh=>(by rw[u 13 (by omega)]at hh;rw[u 10 (by omega)];exact h.k13 hh),(λhh=>by rw[u 10 (by omega)]at hh;rw[u 4 (by omega)];exact h.k4 hh),
     λhh=>(by rw[u 0 (by omega)]at hh;rw[al_gn (by omega)];exact h.h0 hh),
     λ_=>by simp[hs],
     λhh=>(by rw[u 2 (by omega)]at hh;rw[al_gn (by omega)];exact h.h2 hh),
     λhh=>(by rw[u 3 (by omega)]at hh;rw[al_gn (by omega)];exact h.h3 hh),
     λhh=>(by rw[u 4 (by omega)]at hh;rw[al_gn (by omega)];exact h.h4 hh),
     λhh=>(by rw[u 5 (by omega)]at hh;rw[al_gn (by omega)];exact h.h5 hh),
     λhh=>(by rw[u 6 (by omega)]at hh;obtain⟨q1,q2,q3⟩:=h.h6 hh;exact⟨(by rw[al_gn (by omega)];exact q1),q2,q3⟩),
     λhh=>(by rw[u 7 (by omega)]at hh;rw[al_gn (by omega)];exact h.h7 hh),
     λhh=>(by rw[u 8 (by omega)]at hh;obtain⟨q1,q2,q3⟩:=h.h8 hh;exact⟨(by rw[al_gn (by omega)];exact q1),q2,q3⟩),
     λhh h10=>(by rw[u 9 (by omega)]at hh;rw[u 10 (by omega)]at h10;obtain⟨q1,q2⟩:=h.h9 hh h10;exact⟨(by rw[al_gn (by omega)];exact q1),q2⟩),
     λhh=>(by rw[u 10 (by omega)]at hh;obtain⟨q1,q2⟩:=h.h10 hh;exact⟨(by rw[al_gn (by omega)];exact q1),q2⟩),
     λhh=>(by rw[u 11 (by omega)]at hh;rw[al_gn (by omega)];exact h.h11 hh),
     λhh=>(by rw[u 12 (by omega)]at hh;rw[al_gn (by omega)];exact h.h12 hh)⟩
    simp only[execOp,Act.eval,List.map_toArray,List.map_cons,List.map_nil,al_gd,f10',al_od];clear hm;go_simp
   ·
    have a1:L 1=true:=hall ⟨1,.data⟩ (by simp) rfl;have u:∀j,j≠2->upd L 2 true j=L j:=λj hj=>upd_ne _ _ hj;refine .inl ⟨34,rfl,.pointer (some ⟨bT,0,none⟩),w',?_,c,s,r,v',by simp[hs],λt ht=>(by rw[al_gn (by omega)];exact h.keep t ht),h.ge,h.ext,(by rw[u 13 (by omega)];exact h.bt),(λhh=>by rw[u 10 (by omega)]at hh;exact h.row hh),λhh=>(by rw[u 7 (by omega)]at hh;rw[u 6 (by omega)];exact h.k7 hh),λhh=>(by rw[u 8 (by omega)]at hh;rw[u 7 (by omega)];exact h.k8 hh),λhh=>(by rw[u 9 (by omega)]at hh;rw[u 8 (by omega)];exact h.k9 hh),λhh=>(by rw[u 10 (by omega)]at hh;rw[u 9 (by omega)];exact h.k10 hh),λhh=>(by rw[u 13 (by omega)]at hh;rw[u 10 (by omega)];exact h.k13 hh),(λhh=>by rw[u 10 (by omega)]at hh;rw[u 4 (by omega)];exact h.k4 hh),
     λhh=>(by rw[u 0 (by omega)]at hh;rw[al_gn (by omega)];exact h.h0 hh),
     λhh=>(by rw[u 1 (by omega)]at hh;rw[al_gn (by omega)];exact h.h1 hh),
     λ_=>by simp[hs],
     λhh=>(by rw[u 3 (by omega)]at hh;rw[al_gn (by omega)];exact h.h3 hh),
     λhh=>(by rw[u 4 (by omega)]at hh;rw[al_gn (by omega)];exact h.h4 hh),
     λhh=>(by rw[u 5 (by omega)]at hh;rw[al_gn (by omega)];exact h.h5 hh),
     λhh=>(by rw[u 6 (by omega)]at hh;obtain⟨q1,q2,q3⟩:=h.h6 hh;exact⟨(by rw[al_gn (by omega)];exact q1),q2,q3⟩),
     λhh=>(by rw[u 7 (by omega)]at hh;rw[al_gn (by omega)];exact h.h7 hh),
     λhh=>(by rw[u 8 (by omega)]at hh;obtain⟨q1,q2,q3⟩:=h.h8 hh;exact⟨(by rw[al_gn (by omega)];exact q1),q2,q3⟩),
     λhh h10=>(by rw[u 9 (by omega)]at hh;rw[u 10 (by omega)]at h10;obtain⟨q1,q2⟩:=h.h9 hh h10;exact⟨(by rw[al_gn (by omega)];exact q1),q2⟩),
     λhh=>(by rw[u 10 (by omega)]at hh;obtain⟨q1,q2⟩:=h.h10 hh;exact⟨(by rw[al_gn (by omega)];exact q1),q2⟩),
     λhh=>(by rw[u 11 (by omega)]at hh;rw[al_gn (by omega)];exact h.h11 hh),
     λhh=>(by rw[u 12 (by omega)]at hh;rw[al_gn (by omega)];exact h.h12 hh)⟩
    simp only[execOp,Act.eval,List.map_toArray,List.map_cons,List.map_nil,al_gd,h.h1 a1,al_od];clear hm;go_simp
   ·
    have a2:L 2=true:=hall ⟨2,.data⟩ (by simp) rfl;have u:∀j,j≠3->upd L 3 true j=L j:=λj hj=>upd_ne _ _ hj;refine .inl ⟨35,rfl,.pointer (some ⟨bT,1,none⟩),w',?_,c,s,r,v',by simp[hs],λt ht=>(by rw[al_gn (by omega)];exact h.keep t ht),h.ge,h.ext,(by rw[u 13 (by omega)];exact h.bt),(λhh=>by rw[u 10 (by omega)]at hh;exact h.row hh),λhh=>(by rw[u 7 (by omega)]at hh;rw[u 6 (by omega)];exact h.k7 hh),λhh=>(by rw[u 8 (by omega)]at hh;rw[u 7 (by omega)];exact h.k8 hh),λhh=>(by rw[u 9 (by omega)]at hh;rw[u 8 (by omega)];exact h.k9 hh),λhh=>(by rw[u 10 (by omega)]at hh;rw[u 9 (by omega)];exact h.k10 hh),λhh=>(by rw[u 13 (by omega)]at hh;rw[u 10 (by omega)];exact h.k13 hh),(λhh=>by rw[u 10 (by omega)]at hh;rw[u 4 (by omega)];exact h.k4 hh),
     λhh=>(by rw[u 0 (by omega)]at hh;rw[al_gn (by omega)];exact h.h0 hh),
     λhh=>(by rw[u 1 (by omega)]at hh;rw[al_gn (by omega)];exact h.h1 hh),
     λhh=>(by rw[u 2 (by omega)]at hh;rw[al_gn (by omega)];exact h.h2 hh),
     λ_=>by simp[hs],
     λhh=>(by rw[u 4 (by omega)]at hh;rw[al_gn (by omega)];exact h.h4 hh),
     λhh=>(by rw[u 5 (by omega)]at hh;rw[al_gn (by omega)];exact h.h5 hh),
     λhh=>(by rw[u 6 (by omega)]at hh;obtain⟨q1,q2,q3⟩:=h.h6 hh;exact⟨(by rw[al_gn (by omega)];exact q1),q2,q3⟩),
     λhh=>(by rw[u 7 (by omega)]at hh;rw[al_gn (by omega)];exact h.h7 hh),
     λhh=>(by rw[u 8 (by omega)]at hh;obtain⟨q1,q2,q3⟩:=h.h8 hh;exact⟨(by rw[al_gn (by omega)];exact q1),q2,q3⟩),
     λhh h10=>(by rw[u 9 (by omega)]at hh;rw[u 10 (by omega)]at h10;obtain⟨q1,q2⟩:=h.h9 hh h10;exact⟨(by rw[al_gn (by omega)];exact q1),q2⟩),
     λhh=>(by rw[u 10 (by omega)]at hh;obtain⟨q1,q2⟩:=h.h10 hh;exact⟨(by rw[al_gn (by omega)];exact q1),q2⟩),
     λhh=>(by rw[u 11 (by omega)]at hh;rw[al_gn (by omega)];exact h.h11 hh),
     λhh=>(by rw[u 12 (by omega)]at hh;rw[al_gn (by omega)];exact h.h12 hh)⟩
    simp only[execOp,Act.eval,List.map_toArray,List.map_cons,List.map_nil,al_gd,h.h2 a2,al_od];clear hm;go_simp
   ·
    have a3:L 3=true:=hall ⟨3,.data⟩ (by simp) rfl;have l10:L 10=false:=(by cases e:L 10 with|false=>rfl |true=>(have:=h.k4 e;rw[hL]at this;cases this));have u:∀j,j≠4->upd L 4 true j=L j:=λj hj=>upd_ne _ _ hj;refine .inl ⟨36,rfl,sv,w',?_,c,s,r,v',by simp[hs],λt ht=>(by rw[al_gn (by omega)];exact h.keep t ht),h.ge,h.ext,(by rw[u 13 (by omega)];exact h.bt),(λhh=>by rw[u 10 (by omega)]at hh;exact h.row hh),λhh=>(by rw[u 7 (by omega)]at hh;rw[u 6 (by omega)];exact h.k7 hh),λhh=>(by rw[u 8 (by omega)]at hh;rw[u 7 (by omega)];exact h.k8 hh),λhh=>(by rw[u 9 (by omega)]at hh;rw[u 8 (by omega)];exact h.k9 hh),λhh=>(by rw[u 10 (by omega)]at hh;rw[u 9 (by omega)];exact h.k10 hh),λhh=>(by rw[u 13 (by omega)]at hh;rw[u 10 (by omega)];exact h.k13 hh),(λ_=>upd_same _ _ _),
     λhh=>(by rw[u 0 (by omega)]at hh;rw[al_gn (by omega)];exact h.h0 hh),
     λhh=>(by rw[u 1 (by omega)]at hh;rw[al_gn (by omega)];exact h.h1 hh),
     λhh=>(by rw[u 2 (by omega)]at hh;rw[al_gn (by omega)];exact h.h2 hh),
     λhh=>(by rw[u 3 (by omega)]at hh;rw[al_gn (by omega)];exact h.h3 hh),
     λ_=>by simp[hs],
     λhh=>(by rw[u 5 (by omega)]at hh;rw[al_gn (by omega)];exact h.h5 hh),
     λhh=>(by rw[u 6 (by omega)]at hh;obtain⟨q1,q2,q3⟩:=h.h6 hh;exact⟨(by rw[al_gn (by omega)];exact q1),q2,q3⟩),
     λhh=>(by rw[u 7 (by omega)]at hh;rw[al_gn (by omega)];exact h.h7 hh),
     λhh=>(by rw[u 8 (by omega)]at hh;obtain⟨q1,q2,q3⟩:=h.h8 hh;exact⟨(by rw[al_gn (by omega)];exact q1),q2,q3⟩),
     λhh h10=>(by rw[u 9 (by omega)]at hh;rw[u 10 (by omega)]at h10;obtain⟨q1,q2⟩:=h.h9 hh h10;exact⟨(by rw[al_gn (by omega)];exact q1),q2⟩),
     λhh=>(by rw[u 10 (by omega)]at hh;obtain⟨q1,q2⟩:=h.h10 hh;exact⟨(by rw[al_gn (by omega)];exact q1),q2⟩),
     λhh=>(by rw[u 11 (by omega)]at hh;rw[al_gn (by omega)];exact h.h11 hh),
     λhh=>(by rw[u 12 (by omega)]at hh;rw[al_gn (by omega)];exact h.h12 hh)⟩
    rw[n13 l10]at hcT;simp only[Bool.false_eq_true,if_false]at hcT;simp only[execOp,Act.eval,List.map_toArray,List.map_cons,List.map_nil,al_gd,h.h3 a3,al_od];clear hm;go_simp
   ·
    have u:∀j,j≠5->upd L 5 true j=L j:=λj hj=>upd_ne _ _ hj;refine .inl ⟨37,rfl,.pointer (some ⟨bT,0,none⟩),w',?_,c,s,r,v',by simp[hs],λt ht=>(by rw[al_gn (by omega)];exact h.keep t ht),h.ge,h.ext,(by rw[u 13 (by omega)];exact h.bt),(λhh=>by rw[u 10 (by omega)]at hh;exact h.row hh),λhh=>(by rw[u 7 (by omega)]at hh;rw[u 6 (by omega)];exact h.k7 hh),λhh=>(by rw[u 8 (by omega)]at hh;rw[u 7 (by omega)];exact h.k8 hh),λhh=>(by rw[u 9 (by omega)]at hh;rw[u 8 (by omega)];exact h.k9 hh),λhh=>(by rw[u 10 (by omega)]at hh;rw[u 9 (by omega)];exact h.k10 hh),λhh=>(by rw[u 13 (by omega)]at hh;rw[u 10 (by omega)];exact h.k13 hh),(λhh=>by rw[u 10 (by omega)]at hh;rw[u 4 (by omega)];exact h.k4 hh),
     λhh=>(by rw[u 0 (by omega)]at hh;rw[al_gn (by omega)];exact h.h0 hh),
     λhh=>(by rw[u 1 (by omega)]at hh;rw[al_gn (by omega)];exact h.h1 hh),
     λhh=>(by rw[u 2 (by omega)]at hh;rw[al_gn (by omega)];exact h.h2 hh),
     λhh=>(by rw[u 3 (by omega)]at hh;rw[al_gn (by omega)];exact h.h3 hh),
     λhh=>(by rw[u 4 (by omega)]at hh;rw[al_gn (by omega)];exact h.h4 hh),
     λ_=>by simp[hs],
     λhh=>(by rw[u 6 (by omega)]at hh;obtain⟨q1,q2,q3⟩:=h.h6 hh;exact⟨(by rw[al_gn (by omega)];exact q1),q2,q3⟩),
     λhh=>(by rw[u 7 (by omega)]at hh;rw[al_gn (by omega)];exact h.h7 hh),
     λhh=>(by rw[u 8 (by omega)]at hh;obtain⟨q1,q2,q3⟩:=h.h8 hh;exact⟨(by rw[al_gn (by omega)];exact q1),q2,q3⟩),
     λhh h10=>(by rw[u 9 (by omega)]at hh;rw[u 10 (by omega)]at h10;obtain⟨q1,q2⟩:=h.h9 hh h10;exact⟨(by rw[al_gn (by omega)];exact q1),q2⟩),
     λhh=>(by rw[u 10 (by omega)]at hh;obtain⟨q1,q2⟩:=h.h10 hh;exact⟨(by rw[al_gn (by omega)];exact q1),q2⟩),
     λhh=>(by rw[u 11 (by omega)]at hh;rw[al_gn (by omega)];exact h.h11 hh),
     λhh=>(by rw[u 12 (by omega)]at hh;rw[al_gn (by omega)];exact h.h12 hh)⟩
    simp only[execOp,Act.eval,List.map_toArray,List.map_cons,List.map_nil,al_gd,f10',al_od];clear hm;go_simp
   ·
    have u:∀j,j≠6->upd L 6 true j=L j:=λj hj=>upd_ne _ _ hj;refine .inl ⟨38,rfl,.chan (some w'.heap.size),w'.alloc (.chan 0 #[] false 0 0 false),?_,w'.heap.size,s,r,v',by simp[hs],λt ht=>(by rw[al_gn (by omega)];exact h.keep t ht),(by rw[zqd];exact Nat.le_succ_of_le h.ge),(λb o hb=>zqf (h.ext b o hb)),(by rw[u 13 (by omega)];exact zqf h.bt),(λhh=>by rw[u 10 (by omega)]at hh;exact zq42 (h.row hh) _),λ_=>upd_same _ _ _,λhh=>(by rw[u 8 (by omega)]at hh;rw[u 7 (by omega)];exact h.k8 hh),λhh=>(by rw[u 9 (by omega)]at hh;rw[u 8 (by omega)];exact h.k9 hh),λhh=>(by rw[u 10 (by omega)]at hh;rw[u 9 (by omega)];exact h.k10 hh),λhh=>(by rw[u 13 (by omega)]at hh;rw[u 10 (by omega)];exact h.k13 hh),(λhh=>by rw[u 10 (by omega)]at hh;rw[u 4 (by omega)];exact h.k4 hh),
     λhh=>(by rw[u 0 (by omega)]at hh;rw[al_gn (by omega)];exact h.h0 hh),
     λhh=>(by rw[u 1 (by omega)]at hh;rw[al_gn (by omega)];exact h.h1 hh),
     λhh=>(by rw[u 2 (by omega)]at hh;rw[al_gn (by omega)];exact h.h2 hh),
     λhh=>(by rw[u 3 (by omega)]at hh;rw[al_gn (by omega)];exact h.h3 hh),
     λhh=>(by rw[u 4 (by omega)]at hh;rw[al_gn (by omega)];exact h.h4 hh),
     λhh=>(by rw[u 5 (by omega)]at hh;rw[al_gn (by omega)];exact h.h5 hh),
     λ_=>⟨by simp[hs],zq12 _ _,h.ge⟩,
     λhh=>(by rw[u 7 (by omega)]at hh;have:=(h.k7 hh);rw[hL]at this;cases this),
     λhh=>(by rw[u 8 (by omega)]at hh;have:=(h.k7 (h.k8 hh));rw[hL]at this;cases this),
     λhh h10=>(by rw[u 9 (by omega)]at hh;rw[u 10 (by omega)]at h10;obtain⟨q1,q2⟩:=h.h9 hh h10;exact⟨(by rw[al_gn (by omega)];exact q1),zqf q2⟩),
     λhh=>(by rw[u 10 (by omega)]at hh;obtain⟨q1,q2⟩:=h.h10 hh;exact⟨(by rw[al_gn (by omega)];exact q1),zq42 q2 _⟩),
     λhh=>(by rw[u 11 (by omega)]at hh;rw[al_gn (by omega)];exact h.h11 hh),
     λhh=>(by rw[u 12 (by omega)]at hh;rw[al_gn (by omega)];exact h.h12 hh)⟩
    simp only[execOp,Act.eval,Sem.run_bind,zq7z _ w' (.inr rfl)];rfl
   ·
    have a5:L 5=true:=hall ⟨5,.data⟩ (by simp) rfl;have a6:L 6=true:=hall ⟨6,.data⟩ (by simp) rfl;have u:∀j,j≠7->upd L 7 true j=L j:=λj hj=>upd_ne _ _ hj;refine .inl ⟨39,rfl,.agg #[.pointer (some ⟨bT,0,none⟩),.chan (some c),.bool false],w',?_,c,s,r,v',by simp[hs],λt ht=>(by rw[al_gn (by omega)];exact h.keep t ht),h.ge,h.ext,(by rw[u 13 (by omega)];exact h.bt),(λhh=>by rw[u 10 (by omega)]at hh;exact h.row hh),λ_=>(by rw[u 6 (by omega)];exact a6),λ_=>upd_same _ _ _,λhh=>(by rw[u 9 (by omega)]at hh;rw[u 8 (by omega)];exact h.k9 hh),λhh=>(by rw[u 10 (by omega)]at hh;rw[u 9 (by omega)];exact h.k10 hh),λhh=>(by rw[u 13 (by omega)]at hh;rw[u 10 (by omega)];exact h.k13 hh),(λhh=>by rw[u 10 (by omega)]at hh;rw[u 4 (by omega)];exact h.k4 hh),
     λhh=>(by rw[u 0 (by omega)]at hh;rw[al_gn (by omega)];exact h.h0 hh),
     λhh=>(by rw[u 1 (by omega)]at hh;rw[al_gn (by omega)];exact h.h1 hh),
     λhh=>(by rw[u 2 (by omega)]at hh;rw[al_gn (by omega)];exact h.h2 hh),
     λhh=>(by rw[u 3 (by omega)]at hh;rw[al_gn (by omega)];exact h.h3 hh),
     λhh=>(by rw[u 4 (by omega)]at hh;rw[al_gn (by omega)];exact h.h4 hh),
     λhh=>(by rw[u 5 (by omega)]at hh;rw[al_gn (by omega)];exact h.h5 hh),
     λhh=>(by rw[u 6 (by omega)]at hh;obtain⟨q1,q2,q3⟩:=h.h6 hh;exact⟨(by rw[al_gn (by omega)];exact q1),q2,q3⟩),
     λ_=>by simp[hs],
     λhh=>(by rw[u 8 (by omega)]at hh;obtain⟨q1,q2,q3⟩:=h.h8 hh;exact⟨(by rw[al_gn (by omega)];exact q1),q2,q3⟩),
     λhh h10=>(by rw[u 9 (by omega)]at hh;rw[u 10 (by omega)]at h10;obtain⟨q1,q2⟩:=h.h9 hh h10;exact⟨(by rw[al_gn (by omega)];exact q1),q2⟩),
     λhh=>(by rw[u 10 (by omega)]at hh;obtain⟨q1,q2⟩:=h.h10 hh;exact⟨(by rw[al_gn (by omega)];exact q1),q2⟩),
     λhh=>(by rw[u 11 (by omega)]at hh;rw[al_gn (by omega)];exact h.h11 hh),
     λhh=>(by rw[u 12 (by omega)]at hh;rw[al_gn (by omega)];exact h.h12 hh)⟩
    simp only[execOp,Act.eval,List.map_toArray,List.map_cons,List.map_nil,al_gd,h.h5 a5,(h.h6 a6).1,al_od,Sem.run_bind,mk_stand];rfl
   ·
    have a7:L 7=true:=hall ⟨7,.data⟩ (by simp) rfl;have u:∀j,j≠8->upd L 8 true j=L j:=λj hj=>upd_ne _ _ hj;refine .inl ⟨40,rfl,.pointer (some ⟨w'.heap.size,0,none⟩),w'.alloc (.cells #[.pointer (some ⟨bT,0,none⟩),.chan (some c),.bool false] 144),?_,c,w'.heap.size,r,v',by simp[hs],λt ht=>(by rw[al_gn (by omega)];exact h.keep t ht),(by rw[zqd];exact Nat.le_succ_of_le h.ge),(λb o hb=>zqf (h.ext b o hb)),(by rw[u 13 (by omega)];exact zqf h.bt),(λhh=>by rw[u 10 (by omega)]at hh;exact zq42 (h.row hh) _),λhh=>(by rw[u 7 (by omega)]at hh;rw[u 6 (by omega)];exact h.k7 hh),λ_=>(by rw[u 7 (by omega)];exact a7),λ_=>upd_same _ _ _,λhh=>(by rw[u 10 (by omega)]at hh;rw[u 9 (by omega)];exact h.k10 hh),λhh=>(by rw[u 13 (by omega)]at hh;rw[u 10 (by omega)];exact h.k13 hh),(λhh=>by rw[u 10 (by omega)]at hh;rw[u 4 (by omega)];exact h.k4 hh),
     λhh=>(by rw[u 0 (by omega)]at hh;rw[al_gn (by omega)];exact h.h0 hh),
     λhh=>(by rw[u 1 (by omega)]at hh;rw[al_gn (by omega)];exact h.h1 hh),
     λhh=>(by rw[u 2 (by omega)]at hh;rw[al_gn (by omega)];exact h.h2 hh),
     λhh=>(by rw[u 3 (by omega)]at hh;rw[al_gn (by omega)];exact h.h3 hh),
     λhh=>(by rw[u 4 (by omega)]at hh;rw[al_gn (by omega)];exact h.h4 hh),
     λhh=>(by rw[u 5 (by omega)]at hh;rw[al_gn (by omega)];exact h.h5 hh),
     λhh=>(by rw[u 6 (by omega)]at hh;obtain⟨q1,q2,q3⟩:=h.h6 hh;exact⟨(by rw[al_gn (by omega)];exact q1),zqf q2,q3⟩),
     λhh=>(by rw[u 7 (by omega)]at hh;rw[al_gn (by omega)];exact h.h7 hh),
     λ_=>⟨by simp[hs],zq12 _ _,zqe (h.h6 (h.k7 a7)).2.1⟩,
     λhh h10=>(by rw[u 9 (by omega)]at hh;have:=(h.k9 hh);rw[hL]at this;cases this),
     λhh=>(by rw[u 10 (by omega)]at hh;have:=(h.k9 (h.k10 hh));rw[hL]at this;cases this),
     λhh=>(by rw[u 11 (by omega)]at hh;rw[al_gn (by omega)];exact h.h11 hh),
     λhh=>(by rw[u 12 (by omega)]at hh;rw[al_gn (by omega)];exact h.h12 hh)⟩
    simp only[execOp,Act.eval,List.map_toArray,List.map_cons,List.map_nil,al_gd,h.h7 a7,al_od];clear hm;go_simp
   ·
    have a8:L 8=true:=hall ⟨8,.data⟩ (by simp) rfl;have u:∀j,j≠9->upd L 9 true j=L j:=λj hj=>upd_ne _ _ hj;refine .inl ⟨41,rfl,.slice (some ⟨w'.heap.size,0,none⟩) 1 1,w'.alloc (.cells #[.pointer (some ⟨s,0,none⟩)] 141),?_,c,s,w'.heap.size,v',by simp[hs],λt ht=>(by rw[al_gn (by omega)];exact h.keep t ht),(by rw[zqd];exact Nat.le_succ_of_le h.ge),(λb o hb=>zqf (h.ext b o hb)),(by rw[u 13 (by omega)];exact zqf h.bt),(λhh=>by rw[u 10 (by omega)]at hh;exact zq42 (h.row hh) _),λhh=>(by rw[u 7 (by omega)]at hh;rw[u 6 (by omega)];exact h.k7 hh),λhh=>(by rw[u 8 (by omega)]at hh;rw[u 7 (by omega)];exact h.k8 hh),λ_=>(by rw[u 8 (by omega)];exact a8),λ_=>upd_same _ _ _,λhh=>(by rw[u 13 (by omega)]at hh;rw[u 10 (by omega)];exact h.k13 hh),(λhh=>by rw[u 10 (by omega)]at hh;rw[u 4 (by omega)];exact h.k4 hh),
     λhh=>(by rw[u 0 (by omega)]at hh;rw[al_gn (by omega)];exact h.h0 hh),
     λhh=>(by rw[u 1 (by omega)]at hh;rw[al_gn (by omega)];exact h.h1 hh),
     λhh=>(by rw[u 2 (by omega)]at hh;rw[al_gn (by omega)];exact h.h2 hh),
     λhh=>(by rw[u 3 (by omega)]at hh;rw[al_gn (by omega)];exact h.h3 hh),
     λhh=>(by rw[u 4 (by omega)]at hh;rw[al_gn (by omega)];exact h.h4 hh),
     λhh=>(by rw[u 5 (by omega)]at hh;rw[al_gn (by omega)];exact h.h5 hh),
     λhh=>(by rw[u 6 (by omega)]at hh;obtain⟨q1,q2,q3⟩:=h.h6 hh;exact⟨(by rw[al_gn (by omega)];exact q1),zqf q2,q3⟩),
     λhh=>(by rw[u 7 (by omega)]at hh;rw[al_gn (by omega)];exact h.h7 hh),
     λhh=>(by rw[u 8 (by omega)]at hh;obtain⟨q1,q2,q3⟩:=h.h8 hh;exact⟨(by rw[al_gn (by omega)];exact q1),zqf q2,q3⟩),
     λ_ _=>⟨by simp[hs],zq12 _ _⟩,
     λhh=>(by rw[u 10 (by omega)]at hh;obtain⟨q1,q2⟩:=h.h10 hh;exact⟨(by rw[al_gn (by omega)];exact q1),zq42 q2 _⟩),
     λhh=>(by rw[u 11 (by omega)]at hh;rw[al_gn (by omega)];exact h.h11 hh),
     λhh=>(by rw[u 12 (by omega)]at hh;rw[al_gn (by omega)];exact h.h12 hh)⟩
    simp only[execOp,Act.eval,List.map_toArray,List.map_cons,List.map_nil,al_gd,(h.h8 a8).1,al_od,Sem.run_bind,mk_one];rfl
   ·
    have a4:L 4=true:=hall ⟨4,.data⟩ (by simp) rfl;have a9:L 9=true:=hall ⟨9,.data⟩ (by simp) rfl;have u:∀j,j≠10->upd L 10 true j=L j:=λj hj=>upd_ne _ _ hj;have l13:=n13 hL;obtain⟨r1,r2⟩:=h.h9 a9 hL;have hrow':=h.row hL;obtain⟨ti,hti,hz0,hz1,hz2⟩:∃ti,Try.prog.info? 141=some ti/\ti.zero=some (.pointer none)/\ti.size=1/\ti.bytes=8:=⟨_,rfl,rfl,rfl,rfl⟩;obtain⟨v2,w2,hr,hown,hgr,_,hob⟩:=run_append_own_at (P:=Try.prog) w' B1 138 138 141 ti (.pointer none) 1 8 (by kernel_rfl) hti hz0 hz1 hz2 rfl (by decide) sv j l hrow' ⟨r,0,none⟩ 1 1 [.pointer (some ⟨s,0,none⟩)] rfl
     (λj u hu=>by cases j with|zero=>(cases hu;exact(zq0 r2).trans rfl)|succ j=>cases hu) (λu hu=>by simp at hu;subst hu;rfl) (by unfold maxLen;omega) (by omega) (by have:=h.ge;omega)
    have hold:∀b y,w'.heap[b]?=some y->some b≠sv.ownBlock->w2.heap[b]?=some y:=λb y hb hne=>by rw[hgr.block b (zqe hb) hne];exact hb
    have hne:∀b y,w'.heap[b]?=some y->(∀c,y≠Obj.cells c 141)->some b≠sv.ownBlock:=λb y hb hy e=>by
     rcases hrow'.2 with⟨hv,_⟩|⟨g,cap,cur,hv,_,hg,_⟩
     . rw[hv]at e;cases e
     . rw[hv]at e;simp only[Value.ownBlock,al_oi]at e;subst e;rw[hg]at hb;cases hb;exact hy _ rfl
    refine .inl ⟨42,rfl,v2,w2,?_,c,s,r,v2,by simp[hs],λt ht=>(by rw[al_gn (by omega)];exact h.keep t ht),Nat.le_trans h.ge hgr.size,(λb o hb=>hold b o (h.ext b o hb) (λe=>by rw[hEg b e.symm]at hb;cases hb)),(by have hb:=h.bt;rw[u 13 (by omega)];rw[l13]at hb |-;exact hold _ _ hb (hne _ _ hb (by intro c e;cases e))),(λhh=>by rw[upd_same]at hh;cases hh),
     (λhh=>by rw[u 7 (by omega)]at hh;rw[u 6 (by omega)];exact h.k7 hh),(λhh=>by rw[u 8 (by omega)]at hh;rw[u 7 (by omega)];exact h.k8 hh),(λhh=>by rw[u 9 (by omega)]at hh;rw[u 8 (by omega)];exact h.k9 hh),(λ_=>by rw[u 9 (by omega)];exact a9),(λ_=>upd_same _ _ _),(λ_=>by rw[u 4 (by omega)];exact a4),
     (λhh=>by rw[u 0 (by omega)]at hh;rw[al_gn (by omega)];exact h.h0 hh),
     (λhh=>by rw[u 1 (by omega)]at hh;rw[al_gn (by omega)];exact h.h1 hh),
     (λhh=>by rw[u 2 (by omega)]at hh;rw[al_gn (by omega)];exact h.h2 hh),
     (λhh=>by rw[u 3 (by omega)]at hh;rw[al_gn (by omega)];exact h.h3 hh),
     (λhh=>by rw[u 4 (by omega)]at hh;rw[al_gn (by omega)];exact h.h4 hh),
     (λhh=>by rw[u 5 (by omega)]at hh;rw[al_gn (by omega)];exact h.h5 hh),
     (λhh=>by rw[u 6 (by omega)]at hh;obtain⟨q1,q2,q3⟩:=h.h6 hh;exact⟨(by rw[al_gn (by omega)];exact q1),hold _ _ q2 (hne _ _ q2 (by intro c e;cases e)),q3⟩),
     (λhh=>by rw[u 7 (by omega)]at hh;rw[al_gn (by omega)];exact h.h7 hh),
     (λhh=>by rw[u 8 (by omega)]at hh;obtain⟨q1,q2,q3⟩:=h.h8 hh;exact⟨(by rw[al_gn (by omega)];exact q1),hold _ _ q2 (hne _ _ q2 (by intro c e;cases e)),q3⟩),
     (λ_ hh=>by rw[upd_same]at hh;cases hh),
     (λ_=>⟨by simp[hs],hown⟩),
     (λhh=>by rw[u 11 (by omega)]at hh;rw[al_gn (by omega)];exact h.h11 hh),
     (λhh=>by rw[u 12 (by omega)]at hh;rw[al_gn (by omega)];exact h.h12 hh)⟩
    simp only[execOp,resolve,invoke,builtin,Sem.run_bind,Sem.run_pure,Result.andThen_ok,Act.eval,List.map_toArray,List.map_cons,List.map_nil,al_gd,h.h4 a4,r1,al_od,hr]
   ·
    have a0:L 0=true:=hall ⟨0,.data⟩ (by simp) rfl;have u:∀j,j≠11->upd L 11 true j=L j:=λj hj=>upd_ne _ _ hj;refine .inl ⟨43,rfl,.pointer (some ⟨bT,0,none⟩),w',?_,c,s,r,v',by simp[hs],λt ht=>(by rw[al_gn (by omega)];exact h.keep t ht),h.ge,h.ext,(by rw[u 13 (by omega)];exact h.bt),(λhh=>by rw[u 10 (by omega)]at hh;exact h.row hh),λhh=>(by rw[u 7 (by omega)]at hh;rw[u 6 (by omega)];exact h.k7 hh),λhh=>(by rw[u 8 (by omega)]at hh;rw[u 7 (by omega)];exact h.k8 hh),λhh=>(by rw[u 9 (by omega)]at hh;rw[u 8 (by omega)];exact h.k9 hh),λhh=>(by rw[u 10 (by omega)]at hh;rw[u 9 (by omega)];exact h.k10 hh),λhh=>(by rw[u 13 (by omega)]at hh;rw[u 10 (by omega)];exact h.k13 hh),(λhh=>by rw[u 10 (by omega)]at hh;rw[u 4 (by omega)];exact h.k4 hh),
     λhh=>(by rw[u 0 (by omega)]at hh;rw[al_gn (by omega)];exact h.h0 hh),
     λhh=>(by rw[u 1 (by omega)]at hh;rw[al_gn (by omega)];exact h.h1 hh),
     λhh=>(by rw[u 2 (by omega)]at hh;rw[al_gn (by omega)];exact h.h2 hh),
     λhh=>(by rw[u 3 (by omega)]at hh;rw[al_gn (by omega)];exact h.h3 hh),
     λhh=>(by rw[u 4 (by omega)]at hh;rw[al_gn (by omega)];exact h.h4 hh),
     λhh=>(by rw[u 5 (by omega)]at hh;rw[al_gn (by omega)];exact h.h5 hh),
     λhh=>(by rw[u 6 (by omega)]at hh;obtain⟨q1,q2,q3⟩:=h.h6 hh;exact⟨(by rw[al_gn (by omega)];exact q1),q2,q3⟩),
     λhh=>(by rw[u 7 (by omega)]at hh;rw[al_gn (by omega)];exact h.h7 hh),
     λhh=>(by rw[u 8 (by omega)]at hh;obtain⟨q1,q2,q3⟩:=h.h8 hh;exact⟨(by rw[al_gn (by omega)];exact q1),q2,q3⟩),
     λhh h10=>(by rw[u 9 (by omega)]at hh;rw[u 10 (by omega)]at h10;obtain⟨q1,q2⟩:=h.h9 hh h10;exact⟨(by rw[al_gn (by omega)];exact q1),q2⟩),
     λhh=>(by rw[u 10 (by omega)]at hh;obtain⟨q1,q2⟩:=h.h10 hh;exact⟨(by rw[al_gn (by omega)];exact q1),q2⟩),
     λ_=>by simp[hs],
     λhh=>(by rw[u 12 (by omega)]at hh;rw[al_gn (by omega)];exact h.h12 hh)⟩
    simp only[execOp,Act.eval,List.map_toArray,List.map_cons,List.map_nil,al_gd,h.h0 a0,al_od];clear hm;go_simp
   ·
    have a11:L 11=true:=hall ⟨11,.data⟩ (by simp) rfl;have u:∀j,j≠12->upd L 12 true j=L j:=λj hj=>upd_ne _ _ hj;refine .inl ⟨44,rfl,.pointer (some ⟨bT,1,none⟩),w',?_,c,s,r,v',by simp[hs],λt ht=>(by rw[al_gn (by omega)];exact h.keep t ht),h.ge,h.ext,(by rw[u 13 (by omega)];exact h.bt),(λhh=>by rw[u 10 (by omega)]at hh;exact h.row hh),λhh=>(by rw[u 7 (by omega)]at hh;rw[u 6 (by omega)];exact h.k7 hh),λhh=>(by rw[u 8 (by omega)]at hh;rw[u 7 (by omega)];exact h.k8 hh),λhh=>(by rw[u 9 (by omega)]at hh;rw[u 8 (by omega)];exact h.k9 hh),λhh=>(by rw[u 10 (by omega)]at hh;rw[u 9 (by omega)];exact h.k10 hh),λhh=>(by rw[u 13 (by omega)]at hh;rw[u 10 (by omega)];exact h.k13 hh),(λhh=>by rw[u 10 (by omega)]at hh;rw[u 4 (by omega)];exact h.k4 hh),
     λhh=>(by rw[u 0 (by omega)]at hh;rw[al_gn (by omega)];exact h.h0 hh),
     λhh=>(by rw[u 1 (by omega)]at hh;rw[al_gn (by omega)];exact h.h1 hh),
     λhh=>(by rw[u 2 (by omega)]at hh;rw[al_gn (by omega)];exact h.h2 hh),
     λhh=>(by rw[u 3 (by omega)]at hh;rw[al_gn (by omega)];exact h.h3 hh),
     λhh=>(by rw[u 4 (by omega)]at hh;rw[al_gn (by omega)];exact h.h4 hh),
     λhh=>(by rw[u 5 (by omega)]at hh;rw[al_gn (by omega)];exact h.h5 hh),
     λhh=>(by rw[u 6 (by omega)]at hh;obtain⟨q1,q2,q3⟩:=h.h6 hh;exact⟨(by rw[al_gn (by omega)];exact q1),q2,q3⟩),
     λhh=>(by rw[u 7 (by omega)]at hh;rw[al_gn (by omega)];exact h.h7 hh),
     λhh=>(by rw[u 8 (by omega)]at hh;obtain⟨q1,q2,q3⟩:=h.h8 hh;exact⟨(by rw[al_gn (by omega)];exact q1),q2,q3⟩),
     λhh h10=>(by rw[u 9 (by omega)]at hh;rw[u 10 (by omega)]at h10;obtain⟨q1,q2⟩:=h.h9 hh h10;exact⟨(by rw[al_gn (by omega)];exact q1),q2⟩),
     λhh=>(by rw[u 10 (by omega)]at hh;obtain⟨q1,q2⟩:=h.h10 hh;exact⟨(by rw[al_gn (by omega)];exact q1),q2⟩),
     λhh=>(by rw[u 11 (by omega)]at hh;rw[al_gn (by omega)];exact h.h11 hh),
     λ_=>by simp[hs]⟩
    simp only[execOp,Act.eval,List.map_toArray,List.map_cons,List.map_nil,al_gd,h.h11 a11,al_od];clear hm;go_simp
   ·
    have a10:L 10=true:=hall ⟨10,.data⟩ (by simp) rfl;have a12:L 12=true:=hall ⟨12,.data⟩ (by simp) rfl;have u:∀j,j≠13->upd L 13 true j=L j:=λj hj=>upd_ne _ _ hj;obtain⟨q1,q2⟩:=h.h10 a10;have hb:=h.bt;rw[hL]at hb hcT;have zT:=zqc (off:=1) hb;have hst:=zqy w' bT 1 v' hb;have hne:∀b y,w'.heap[b]?=some y->(∀c,y≠Obj.cells c 140)->(w'.setCell ⟨bT,1,none⟩ v').heap[b]?=some y:=λb y hb' hy=>by
     rw[zqi _ _ _ _ (λ(e:b=bT)=>by subst e;rw[hb]at hb';cases hb';exact hy _ rfl)];exact hb'
    obtain⟨g,cap,cur,hv,hg1,hg2,hg3⟩:∃g cap cur,v'=.slice (some ⟨g,0,none⟩) (j+1) cap/\B1<=g/\w'.heap[g]?=some (.cells cur 141 (0,0))/\_:=by
     rcases q2.2 with⟨_,hn⟩|hx
     . exact absurd hn (Nat.succ_ne_zero _)
     . exact hx
    refine .inr ⟨rfl,w'.setCell ⟨bT,1,none⟩ v',?_,c,s,r,v',hs,h.keep,(by rw[zq13];exact h.ge),(λb o hbo=>by rw[zqi _ _ _ _ (λ(e:b=bT)=>by rw[e,hET]at hbo;cases hbo)];exact h.ext b o hbo),(by rw[upd_same];exact hst.trans (by rfl)),(λhh=>by rw[u 10 (by omega),a10]at hh;cases hh),
     (λhh=>by rw[u 7 (by omega)]at hh;rw[u 6 (by omega)];exact h.k7 hh),(λhh=>by rw[u 8 (by omega)]at hh;rw[u 7 (by omega)];exact h.k8 hh),(λhh=>by rw[u 9 (by omega)]at hh;rw[u 8 (by omega)];exact h.k9 hh),(λhh=>by rw[u 10 (by omega)]at hh;rw[u 9 (by omega)];exact h.k10 hh),(λ_=>by rw[u 10 (by omega)];exact a10),(λhh=>by rw[u 10 (by omega)]at hh;rw[u 4 (by omega)];exact h.k4 hh),
     (λhh=>by rw[u 0 (by omega)]at hh;exact h.h0 hh),
     (λhh=>by rw[u 1 (by omega)]at hh;exact h.h1 hh),
     (λhh=>by rw[u 2 (by omega)]at hh;exact h.h2 hh),
     (λhh=>by rw[u 3 (by omega)]at hh;exact h.h3 hh),
     (λhh=>by rw[u 4 (by omega)]at hh;exact h.h4 hh),
     (λhh=>by rw[u 5 (by omega)]at hh;exact h.h5 hh),
     (λhh=>by rw[u 6 (by omega)]at hh;obtain⟨q1,q2,q3⟩:=h.h6 hh;exact⟨q1,hne _ _ q2 (by intro c e;cases e),q3⟩),
     (λhh=>by rw[u 7 (by omega)]at hh;exact h.h7 hh),
     (λhh=>by rw[u 8 (by omega)]at hh;obtain⟨q1,q2,q3⟩:=h.h8 hh;exact⟨q1,hne _ _ q2 (by intro c e;cases e),q3⟩),
     (λ_ hh=>by rw[u 10 (by omega),a10]at hh;cases hh),
     (λ_=>⟨q1,q2.1,.inr ⟨g,cap,cur,hv,hg1,hne _ _ hg2 (by intro c e;cases e),hg3⟩⟩),
     (λhh=>by rw[u 11 (by omega)]at hh;exact h.h11 hh),
     (λhh=>by rw[u 12 (by omega)]at hh;exact h.h12 hh)⟩
    clear hst hne;subst hv;simp only[execOp,Act.eval,al_gd,q1,h.h12 a12,al_od];clear hm;go_simp
 . rintro L T w' hall ⟨c,s,r,v',h⟩;have a13:=hall 13 (by simp);have hb:=h.bt;rw[a13]at hb;obtain⟨q1,q2⟩:=h.h10 (hall 10 (by simp));obtain⟨s1,s2,s3⟩:=h.h8 (hall 8 (by simp));obtain⟨c1,c2,c3⟩:=h.h6 (hall 6 (by simp));refine hJ.ctl (s:=n) (λw=>stepG_region_end) ?_;exact hm.out T w' c s v' h.size h.keep h.ge h.ext hb q2 c2 c3 s2 s3
end Go.Proofs
