/- YtmgmbciplfkddaaESaf16: part 7 of the proof (the texts behind it, in order). -/
import Derived.Test.YtmgmbciplfkddaaS06
set_option maxHeartbeats 4000000
set_option maxRecDepth 100000
set_option linter.all false
namespace Go.Proofs
open Go Go.Conc Go.RowKit Go.Car
open Go.ConcN (upd upd_ne upd_same)
section
variable {M:Type}
noncomputable def lpF:Code:=match headC (tailN 11 (Try.f54.body.getD .skip))with|.seq _ (.block _ (.loop c))=>c|_=>.skip
theorem zqd0{Fin:Machine->Trace->Prop}(hFin:Back Try.prog Fin){A:OA}{B:Bx}{Kc:Addr->Option Value}{n:Nat}{inb:Nat->Option Seat}{w:World}{thr sch:Value}{stuck:Bool}{j:Nat}{Ts:Array Value}(hF:Fr A B thr sch Ts)(f10:Ts[7]?=some (.bool stuck))(t107:Ts[107]?=some (.slice (some ⟨A.bS,0,none⟩) A.N A.cap))(t108:Ts[108]?=some (.int .i64 A.N))(t109:Ts[109]?=some (.int .i64 j))(hj:j<A.N)(hN:A.N<=64)
 (cs':w.cell? ⟨A.bS,j,none⟩=some (.pointer (some ⟨A.st j,0,none⟩))) (cv:w.cell? ⟨A.st j,2,none⟩=some (.bool true))
 {b:Frame} (hb:b.kind≠.early) {ds:List Deferred} {K:List Item} {cs:List Frame}
 (hmain:∀Ts',Fr A B thr sch Ts'->Ts'[7]?=some (.bool stuck)->Ts'[107]?=some (.slice (some ⟨A.bS,0,none⟩) A.N A.cap)->Ts'[108]?=some (.int .i64 A.N)->Ts'[109]?=some (.int .i64 (j+1:Nat))->HoldR Try.prog Fin Kc inb 0 n (G (b.at ⟨Ts',ds⟩ (.code lpF::.inLoop lpF::.inBlock 10::K)) cs) w):
 HoldR Try.prog Fin Kc inb 0 n (G (b.at ⟨Ts,ds⟩ (.code lpF::.inLoop lpF::.inBlock 10::K)) cs) w:=by
 have hJ:=zq10 hFin Kc inb n;obtain⟨hsz,f2,f3,f4,f5,f6,f7,f8,f9⟩:=hF;have hm:=Lib.hid hmain;clear hmain;have elp:lpF=match headC (tailN 11 (Try.f54.body.getD .skip))with|.seq _ (.block _ (.loop c))=>c|_=>.skip:=rfl
 simp only[headC,tailN,Try.f54,al_od]at elp;generalize hlp:lpF=lp at elp |- hm;subst elp;have hjL:(j:Int)<A.N:=by omega
 have hj0:(0:Int)<=j:=by omega
 refine hJ.ctl (s:=()) (λw=>stepG_seq) ?_;refine hJ.ctl (s:=()) (λw=>stepG_region) ?_;refine zqr (J:=λ(_:Unit)=>HoldR Try.prog Fin Kc inb 0 n) (s:=()) hJ hb 0 [.bool true] [] rfl (by simp) (by rfl) ?_ ?_
 . intro τ d;simp only[zqo,dstOf,al_gl,al_g0,al_g1,al_ob];refine⟨?_,trivial⟩<;>(intro o ho;simp only[al_oi]at ho;subst ho)
   all_goals(try simp only[execOp,Act.eval,List.map_toArray,List.map_cons,List.map_nil,al_gd])
   all_goals(try simp only[al_gs,al_gz,hsz,f2,f3,f4,f5,f6,f7,f8,f9,f10,t107,t108,t109,Nat.reduceEqDiff,Nat.reduceLT,↓reduceIte,al_od])
   all_goals(have hlt:∀i,i<129->i<(Ts).size:=λi hi=>(by rw[hsz];exact hi))
   all_goals(clear hsz f2 f3 f4 f5 f6 f7 f8 f9 f10 t107 t108 t109)
   all_goals(try go_simp)
   all_goals(try omega)
 simp only[putv,dstOf,al_gl,al_g0,al_g1,al_ob];obtain⟨T1,hT⟩:∃X,X=(Ts).setIfInBounds 110 (.bool true):=⟨_,rfl⟩;rw[<-hT];have hT1:T1.size=129:=by rw[hT];simp[hsz]
 have T1_0:=sg1 hT f2;have T1_1:=sg1 hT f3;have T1_5:=sg1 hT f4;have T1_6:=sg1 hT f5;have T1_9:=sg1 hT f6;have T1_10:=sg1 hT f7;have T1_11:=sg1 hT f8;have T1_13:T1[13]?=some (stepV A B):=sg1 hT f9;have T1_7:=sg1 hT f10;have T1_107:=sg1 hT t107;have T1_108:=sg1 hT t108;have T1_109:=sg1 hT t109;have T1_110:T1[110]?=some (.bool true):=by rw[hT];simp[al_gs,hsz]
 clear hT f2 f3 f4 f5 f6 f7 f8 f9 f10 t107 t108 t109 hsz;refine hJ.ctl (s:=()) (λw=>stepG_region_end) ?_;refine hJ.ctl (s:=()) (λw=>stepG_seq) ?_;refine hJ.ctl (s:=()) (λw=>stepG_cond (t:=true) (by simp[Act.eval,al_gd,T1_110])) ?_;simp only[if_true];refine hJ.ctl (s:=()) (λw=>stepG_skip) ?_;refine hJ.ctl (s:=()) (λw=>stepG_seq) ?_;refine hJ.ctl (s:=()) (λw=>stepG_block) ?_;refine hJ.ctl (s:=()) (λw=>stepG_seq) ?_;refine hJ.ctl (s:=()) (λw=>stepG_region) ?_;refine zqr (J:=λ(_:Unit)=>HoldR Try.prog Fin Kc inb 0 n) (s:=()) hJ hb 0 [.int .i64 j,.pointer (some ⟨A.bS,j,none⟩),.pointer (some ⟨A.st j,0,none⟩),.int .i64 j,.pointer (some ⟨A.st j,0,none⟩)] [] rfl (by simp) (by rfl) ?_ ?_
 . intro τ d;simp only[zqo,dstOf,al_gl,al_g0,al_g1,al_ob];refine⟨?_,?_,?_,?_,?_,trivial⟩<;>(intro o ho;simp only[al_oi]at ho;subst ho)
   all_goals(try simp only[execOp,Act.eval,List.map_toArray,List.map_cons,List.map_nil,al_gd])
   all_goals(try simp only[al_gs,al_gz,hT1,T1_0,T1_1,T1_5,T1_6,T1_9,T1_10,T1_11,T1_13,T1_7,T1_107,T1_108,T1_109,T1_110,Nat.reduceEqDiff,Nat.reduceLT,↓reduceIte,al_od])
   all_goals(have hlt:∀i,i<129->i<(T1).size:=λi hi=>(by rw[hT1];exact hi))
   all_goals(clear hT1 T1_0 T1_1 T1_5 T1_6 T1_9 T1_10 T1_11 T1_13 T1_7 T1_107 T1_108 T1_109 T1_110)
   all_goals(try go_simp)
   all_goals(try omega)
 simp only[putv,dstOf,al_gl,al_g0,al_g1,al_ob];obtain⟨T2,hT⟩:∃X,X=(((((T1).setIfInBounds 111 (.int .i64 j)).setIfInBounds 112 (.pointer (some ⟨A.bS,j,none⟩))).setIfInBounds 113 (.pointer (some ⟨A.st j,0,none⟩))).setIfInBounds 17 (.int .i64 j)).setIfInBounds 18 (.pointer (some ⟨A.st j,0,none⟩)):=⟨_,rfl⟩;rw[<-hT];have hT2:T2.size=129:=by rw[hT];simp[hT1]
 have T2_0:=sg5 hT T1_0;have T2_1:=sg5 hT T1_1;have T2_5:=sg5 hT T1_5;have T2_6:=sg5 hT T1_6;have T2_9:=sg5 hT T1_9;have T2_10:=sg5 hT T1_10;have T2_11:=sg5 hT T1_11;have T2_13:T2[13]?=some (stepV A B):=sg5 hT T1_13;have T2_7:=sg5 hT T1_7;have T2_107:=sg5 hT T1_107;have T2_108:=sg5 hT T1_108;have T2_109:=sg5 hT T1_109;have T2_110:=sg5 hT T1_110;have T2_111:T2[111]?=some (.int .i64 j):=by rw[hT];simp[al_gs,hT1]
 have T2_112:T2[112]?=some (.pointer (some ⟨A.bS,j,none⟩)):=by rw[hT];simp[al_gs,hT1]
 have T2_113:T2[113]?=some (.pointer (some ⟨A.st j,0,none⟩)):=by rw[hT];simp[al_gs,hT1]
 have T2_17:T2[17]?=some (.int .i64 j):=by rw[hT];simp[al_gs,hT1]
 have T2_18:T2[18]?=some (.pointer (some ⟨A.st j,0,none⟩)):=by rw[hT];simp[al_gs,hT1]
 clear hT T1_0 T1_1 T1_5 T1_6 T1_9 T1_10 T1_11 T1_13 T1_7 T1_107 T1_108 T1_109 T1_110 hT1;refine hJ.ctl (s:=()) (λw=>stepG_region_end) ?_;refine hJ.ctl (s:=()) (λw=>stepG_seq) ?_;refine hJ.ctl (s:=()) (λw=>stepG_region) ?_;refine zqr (J:=λ(_:Unit)=>HoldR Try.prog Fin Kc inb 0 n) (s:=()) hJ hb 0 [.pointer (some ⟨A.st j,0,none⟩),.pointer (some ⟨A.st j,0,none⟩),.pointer (some ⟨A.st j,2,none⟩),.bool true,.bool false] [] rfl (by simp) (by rfl) ?_ ?_
 . intro τ d;simp only[zqo,dstOf,al_gl,al_g0,al_g1,al_ob];refine⟨?_,?_,?_,?_,?_,trivial⟩<;>(intro o ho;simp only[al_oi]at ho;subst ho)
   all_goals(try simp only[execOp,Act.eval,List.map_toArray,List.map_cons,List.map_nil,al_gd])
   all_goals(try simp only[al_gs,al_gz,hT2,T2_0,T2_1,T2_5,T2_6,T2_9,T2_10,T2_11,T2_13,T2_7,T2_107,T2_108,T2_109,T2_110,T2_111,T2_112,T2_113,T2_17,T2_18,Nat.reduceEqDiff,Nat.reduceLT,↓reduceIte,al_od])
   all_goals(have hlt:∀i,i<129->i<(T2).size:=λi hi=>(by rw[hT2];exact hi))
   all_goals(clear hT2 T2_0 T2_1 T2_5 T2_6 T2_9 T2_10 T2_11 T2_13 T2_7 T2_107 T2_108 T2_109 T2_110 T2_111 T2_112 T2_113 T2_17 T2_18)
   all_goals(try go_simp)
   all_goals(try omega)
 simp only[putv,dstOf,al_gl,al_g0,al_g1,al_ob];obtain⟨T3,hT⟩:∃X,X=(((((T2).setIfInBounds 114 (.pointer (some ⟨A.st j,0,none⟩))).setIfInBounds 115 (.pointer (some ⟨A.st j,0,none⟩))).setIfInBounds 116 (.pointer (some ⟨A.st j,2,none⟩))).setIfInBounds 117 (.bool true)).setIfInBounds 118 (.bool false):=⟨_,rfl⟩;rw[<-hT];have hT3:T3.size=129:=by rw[hT];simp[hT2]
 have T3_0:=sg5 hT T2_0;have T3_1:=sg5 hT T2_1;have T3_5:=sg5 hT T2_5;have T3_6:=sg5 hT T2_6;have T3_9:=sg5 hT T2_9;have T3_10:=sg5 hT T2_10;have T3_11:=sg5 hT T2_11;have T3_13:T3[13]?=some (stepV A B):=sg5 hT T2_13;have T3_7:=sg5 hT T2_7;have T3_107:=sg5 hT T2_107;have T3_108:=sg5 hT T2_108;have T3_109:=sg5 hT T2_109;have T3_110:=sg5 hT T2_110;have T3_111:=sg5 hT T2_111;have T3_112:=sg5 hT T2_112;have T3_113:=sg5 hT T2_113;have T3_17:=sg5 hT T2_17;have T3_18:=sg5 hT T2_18;have T3_114:T3[114]?=some (.pointer (some ⟨A.st j,0,none⟩)):=by rw[hT];simp[al_gs,hT2]
 have T3_115:T3[115]?=some (.pointer (some ⟨A.st j,0,none⟩)):=by rw[hT];simp[al_gs,hT2]
 have T3_116:T3[116]?=some (.pointer (some ⟨A.st j,2,none⟩)):=by rw[hT];simp[al_gs,hT2]
 have T3_117:T3[117]?=some (.bool true):=by rw[hT];simp[al_gs,hT2]
 have T3_118:T3[118]?=some (.bool false):=by rw[hT];simp[al_gs,hT2]
 clear hT T2_0 T2_1 T2_5 T2_6 T2_9 T2_10 T2_11 T2_13 T2_7 T2_107 T2_108 T2_109 T2_110 T2_111 T2_112 T2_113 T2_17 T2_18 hT2;refine hJ.ctl (s:=()) (λw=>stepG_region_end) ?_;refine hJ.ctl (s:=()) (λw=>stepG_cond (t:=false) (by simp[Act.eval,al_gd,T3_118])) ?_;simp only[Bool.false_eq_true,if_false];refine hJ.ctl (s:=()) (λw=>stepG_skip) ?_;refine hJ.ctl (s:=()) (λw=>stepG_inBlock) ?_;refine hJ.ctl (s:=()) (λw=>stepG_region) ?_;have hwr:IntKind.i64.wrap ((j:Int)+1)=((j+1:Nat):Int):=by
  rw[show(j:Int)+1=((j+1:Nat):Int)by omega];exact IntWalk.i64_in _ (by omega)
 refine zqr (J:=λ(_:Unit)=>HoldR Try.prog Fin Kc inb 0 n) (s:=()) hJ hb 0 [.int .i64 ((j+1:Nat):Int),.int .i64 ((j+1:Nat):Int)] [] rfl (by simp) (by rfl) ?_ ?_
 . intro τ d;simp only[zqo,dstOf,al_gl,al_g0,al_g1,al_ob];refine⟨?_,?_,trivial⟩<;>(intro o ho;simp only[al_oi]at ho;subst ho)
   all_goals(try simp only[execOp,Act.eval,List.map_toArray,List.map_cons,List.map_nil,al_gd])
   all_goals(try simp only[al_gs,al_gz,hT3,T3_0,T3_1,T3_5,T3_6,T3_9,T3_10,T3_11,T3_13,T3_7,T3_107,T3_108,T3_109,T3_110,T3_111,T3_112,T3_113,T3_17,T3_18,T3_114,T3_115,T3_116,T3_117,T3_118,Nat.reduceEqDiff,Nat.reduceLT,↓reduceIte,al_od])
   all_goals(have hlt:∀i,i<129->i<(T3).size:=λi hi=>(by rw[hT3];exact hi))
   all_goals(clear hT3 T3_0 T3_1 T3_5 T3_6 T3_9 T3_10 T3_11 T3_13 T3_7 T3_107 T3_108 T3_109 T3_110 T3_111 T3_112 T3_113 T3_17 T3_18 T3_114 T3_115 T3_116 T3_117 T3_118)
   all_goals(try go_simp)
   all_goals(try omega)
 simp only[putv,dstOf,al_gl,al_g0,al_g1,al_ob];obtain⟨T4,hT⟩:∃X,X=((T3).setIfInBounds 122 (.int .i64 ((j+1:Nat):Int))).setIfInBounds 109 (.int .i64 ((j+1:Nat):Int)):=⟨_,rfl⟩;rw[<-hT];have hT4:T4.size=129:=by rw[hT];simp[hT3]
 have T4_0:=sg2 hT T3_0;have T4_1:=sg2 hT T3_1;have T4_5:=sg2 hT T3_5;have T4_6:=sg2 hT T3_6;have T4_9:=sg2 hT T3_9;have T4_10:=sg2 hT T3_10;have T4_11:=sg2 hT T3_11;have T4_13:T4[13]?=some (stepV A B):=sg2 hT T3_13;have T4_7:=sg2 hT T3_7;have T4_107:=sg2 hT T3_107;have T4_108:=sg2 hT T3_108;have T4_110:=sg2 hT T3_110;have T4_111:=sg2 hT T3_111;have T4_112:=sg2 hT T3_112;have T4_113:=sg2 hT T3_113;have T4_17:=sg2 hT T3_17;have T4_18:=sg2 hT T3_18;have T4_114:=sg2 hT T3_114;have T4_115:=sg2 hT T3_115;have T4_116:=sg2 hT T3_116;have T4_117:=sg2 hT T3_117;have T4_118:=sg2 hT T3_118;have T4_122:T4[122]?=some (.int .i64 ((j+1:Nat):Int)):=by rw[hT];simp[al_gs,hT3]
 have T4_109:T4[109]?=some (.int .i64 ((j+1:Nat):Int)):=by rw[hT];simp[al_gs,hT3]
 clear hT T3_0 T3_1 T3_5 T3_6 T3_9 T3_10 T3_11 T3_13 T3_7 T3_107 T3_108 T3_109 T3_110 T3_111 T3_112 T3_113 T3_17 T3_18 T3_114 T3_115 T3_116 T3_117 T3_118 hT3;refine hJ.ctl (s:=()) (λw=>stepG_region_end) ?_;refine hJ.ctl (s:=()) (λw=>stepG_inLoop) ?_;exact hm.out _ ⟨hT4,T4_0,T4_1,T4_5,T4_6,T4_9,T4_10,T4_11,T4_13⟩ T4_7 T4_107 T4_108 T4_109
theorem kill_one{Fin:Machine->Trace->Prop}(hFin:Back Try.prog Fin){T:Thr M}{A:OA}{B:Bx}{Kc:Addr->Option Value}{w₀:World}{m₀:M}{most n:Nat}{E:Nat->Option Obj}{k:Nat}{a:OSt M}{left:Nat}{v:Value}{inb:Nat->Option Seat}{w:World}(hI:Inv T A B Kc w₀ m₀ most A.N E (k+1) a left v inb w)(hn:A.n0+A.N<=n){thr sch:Value}{stuck:Bool}{j:Nat}{Ts:Array Value}(hF:Fr A B thr sch Ts)(f10:Ts[7]?=some (.bool stuck))(t107:Ts[107]?=some (.slice (some ⟨A.bS,0,none⟩) A.N A.cap))(t108:Ts[108]?=some (.int .i64 A.N))(t109:Ts[109]?=some (.int .i64 j))(hj:j<A.N)(ho:a.ov j=false)
 {b:Frame} (hb:b.kind≠.early) {ds:List Deferred} {K:List Item} {cs:List Frame}
 (hmain:∀m' inb' w',T.Kill j a.m m'->Inv T A B Kc w₀ m₀ most A.N E k ⟨m',λi=>if i=j then true else a.ov i,a.brk,a.ord⟩ left v inb' w'->(∀Ts',Fr A B thr sch Ts'->Ts'[7]?=some (.bool stuck)->Ts'[107]?=some (.slice (some ⟨A.bS,0,none⟩) A.N A.cap)->Ts'[108]?=some (.int .i64 A.N)->Ts'[109]?=some (.int .i64 (j+1:Nat))->HoldR Try.prog Fin Kc inb' 0 n (G (b.at ⟨Ts',ds⟩ (.code lpF::.inLoop lpF::.inBlock 10::K)) cs) w')):
 HoldR Try.prog Fin Kc inb 0 n (G (b.at ⟨Ts,ds⟩ (.code lpF::.inLoop lpF::.inBlock 10::K)) cs) w:=by
 obtain⟨p,cap,hv,hd⟩:=hI.head;have cs':=hd.cs j hj;have cv:=hd.cv j hj;have cX:=hd.cX;rw[ho]at cv;have hN:=hI.N;clear hd;have hJ:=zq10 hFin Kc inb n;obtain⟨hsz,f2,f3,f4,f5,f6,f7,f8,f9⟩:=hF;have hm:=Lib.hid hmain;clear hmain;have elp:lpF=match headC (tailN 11 (Try.f54.body.getD .skip))with|.seq _ (.block _ (.loop c))=>c|_=>.skip:=rfl
 simp only[headC,tailN,Try.f54,al_od]at elp;generalize hlp:lpF=lp at elp |- hm;subst elp;have hjL:(j:Int)<A.N:=by omega
 have hj0:(0:Int)<=j:=by omega
 refine hJ.ctl (s:=()) (λw=>stepG_seq) ?_;refine hJ.ctl (s:=()) (λw=>stepG_region) ?_;refine zqr (J:=λ(_:Unit)=>HoldR Try.prog Fin Kc inb 0 n) (s:=()) hJ hb 0 [.bool true] [] rfl (by simp) (by rfl) ?_ ?_
 . intro τ d;simp only[zqo,dstOf,al_gl,al_g0,al_g1,al_ob];refine⟨?_,trivial⟩<;>(intro o ho;simp only[al_oi]at ho;subst ho)
   all_goals(try simp only[execOp,Act.eval,List.map_toArray,List.map_cons,List.map_nil,al_gd])
   all_goals(try simp only[al_gs,al_gz,hsz,f2,f3,f4,f5,f6,f7,f8,f9,f10,t107,t108,t109,Nat.reduceEqDiff,Nat.reduceLT,↓reduceIte,al_od])
   all_goals(have hlt:∀i,i<129->i<(Ts).size:=λi hi=>(by rw[hsz];exact hi))
   all_goals(clear hsz f2 f3 f4 f5 f6 f7 f8 f9 f10 t107 t108 t109)
   all_goals(try go_simp)
   all_goals(try omega)
 simp only[putv,dstOf,al_gl,al_g0,al_g1,al_ob];obtain⟨T1,hT⟩:∃X,X=(Ts).setIfInBounds 110 (.bool true):=⟨_,rfl⟩;rw[<-hT];have hT1:T1.size=129:=by rw[hT];simp[hsz]
 have T1_0:=sg1 hT f2;have T1_1:=sg1 hT f3;have T1_5:=sg1 hT f4;have T1_6:=sg1 hT f5;have T1_9:=sg1 hT f6;have T1_10:=sg1 hT f7;have T1_11:=sg1 hT f8;have T1_13:T1[13]?=some (stepV A B):=sg1 hT f9;have T1_7:=sg1 hT f10;have T1_107:=sg1 hT t107;have T1_108:=sg1 hT t108;have T1_109:=sg1 hT t109;have T1_110:T1[110]?=some (.bool true):=by rw[hT];simp[al_gs,hsz]
 clear hT f2 f3 f4 f5 f6 f7 f8 f9 f10 t107 t108 t109 hsz;refine hJ.ctl (s:=()) (λw=>stepG_region_end) ?_;refine hJ.ctl (s:=()) (λw=>stepG_seq) ?_;refine hJ.ctl (s:=()) (λw=>stepG_cond (t:=true) (by simp[Act.eval,al_gd,T1_110])) ?_;simp only[if_true];refine hJ.ctl (s:=()) (λw=>stepG_skip) ?_;refine hJ.ctl (s:=()) (λw=>stepG_seq) ?_;refine hJ.ctl (s:=()) (λw=>stepG_block) ?_;refine hJ.ctl (s:=()) (λw=>stepG_seq) ?_;refine hJ.ctl (s:=()) (λw=>stepG_region) ?_;refine zqr (J:=λ(_:Unit)=>HoldR Try.prog Fin Kc inb 0 n) (s:=()) hJ hb 0 [.int .i64 j,.pointer (some ⟨A.bS,j,none⟩),.pointer (some ⟨A.st j,0,none⟩),.int .i64 j,.pointer (some ⟨A.st j,0,none⟩)] [] rfl (by simp) (by rfl) ?_ ?_
 . intro τ d;simp only[zqo,dstOf,al_gl,al_g0,al_g1,al_ob];refine⟨?_,?_,?_,?_,?_,trivial⟩<;>(intro o ho;simp only[al_oi]at ho;subst ho)
   all_goals(try simp only[execOp,Act.eval,List.map_toArray,List.map_cons,List.map_nil,al_gd])
   all_goals(try simp only[al_gs,al_gz,hT1,T1_0,T1_1,T1_5,T1_6,T1_9,T1_10,T1_11,T1_13,T1_7,T1_107,T1_108,T1_109,T1_110,Nat.reduceEqDiff,Nat.reduceLT,↓reduceIte,al_od])
   all_goals(have hlt:∀i,i<129->i<(T1).size:=λi hi=>(by rw[hT1];exact hi))
   all_goals(clear hT1 T1_0 T1_1 T1_5 T1_6 T1_9 T1_10 T1_11 T1_13 T1_7 T1_107 T1_108 T1_109 T1_110)
   all_goals(try go_simp)
   all_goals(try omega)
 simp only[putv,dstOf,al_gl,al_g0,al_g1,al_ob];obtain⟨T2,hT⟩:∃X,X=(((((T1).setIfInBounds 111 (.int .i64 j)).setIfInBounds 112 (.pointer (some ⟨A.bS,j,none⟩))).setIfInBounds 113 (.pointer (some ⟨A.st j,0,none⟩))).setIfInBounds 17 (.int .i64 j)).setIfInBounds 18 (.pointer (some ⟨A.st j,0,none⟩)):=⟨_,rfl⟩;rw[<-hT];have hT2:T2.size=129:=by rw[hT];simp[hT1]
 have T2_0:=sg5 hT T1_0;have T2_1:=sg5 hT T1_1;have T2_5:=sg5 hT T1_5;have T2_6:=sg5 hT T1_6;have T2_9:=sg5 hT T1_9;have T2_10:=sg5 hT T1_10;have T2_11:=sg5 hT T1_11;have T2_13:T2[13]?=some (stepV A B):=sg5 hT T1_13;have T2_7:=sg5 hT T1_7;have T2_107:=sg5 hT T1_107;have T2_108:=sg5 hT T1_108;have T2_109:=sg5 hT T1_109;have T2_110:=sg5 hT T1_110;have T2_111:T2[111]?=some (.int .i64 j):=by rw[hT];simp[al_gs,hT1]
 have T2_112:T2[112]?=some (.pointer (some ⟨A.bS,j,none⟩)):=by rw[hT];simp[al_gs,hT1]
 have T2_113:T2[113]?=some (.pointer (some ⟨A.st j,0,none⟩)):=by rw[hT];simp[al_gs,hT1]
 have T2_17:T2[17]?=some (.int .i64 j):=by rw[hT];simp[al_gs,hT1]
 have T2_18:T2[18]?=some (.pointer (some ⟨A.st j,0,none⟩)):=by rw[hT];simp[al_gs,hT1]
 clear hT T1_0 T1_1 T1_5 T1_6 T1_9 T1_10 T1_11 T1_13 T1_7 T1_107 T1_108 T1_109 T1_110 hT1;refine hJ.ctl (s:=()) (λw=>stepG_region_end) ?_;refine hJ.ctl (s:=()) (λw=>stepG_seq) ?_;refine hJ.ctl (s:=()) (λw=>stepG_region) ?_;refine zqr (J:=λ(_:Unit)=>HoldR Try.prog Fin Kc inb 0 n) (s:=()) hJ hb 0 [.pointer (some ⟨A.st j,0,none⟩),.pointer (some ⟨A.st j,0,none⟩),.pointer (some ⟨A.st j,2,none⟩),.bool false,.bool true] [] rfl (by simp) (by rfl) ?_ ?_
 . intro τ d;simp only[zqo,dstOf,al_gl,al_g0,al_g1,al_ob];refine⟨?_,?_,?_,?_,?_,trivial⟩<;>(intro o ho;simp only[al_oi]at ho;subst ho)
   all_goals(try simp only[execOp,Act.eval,List.map_toArray,List.map_cons,List.map_nil,al_gd])
   all_goals(try simp only[al_gs,al_gz,hT2,T2_0,T2_1,T2_5,T2_6,T2_9,T2_10,T2_11,T2_13,T2_7,T2_107,T2_108,T2_109,T2_110,T2_111,T2_112,T2_113,T2_17,T2_18,Nat.reduceEqDiff,Nat.reduceLT,↓reduceIte,al_od])
   all_goals(have hlt:∀i,i<129->i<(T2).size:=λi hi=>(by rw[hT2];exact hi))
   all_goals(clear hT2 T2_0 T2_1 T2_5 T2_6 T2_9 T2_10 T2_11 T2_13 T2_7 T2_107 T2_108 T2_109 T2_110 T2_111 T2_112 T2_113 T2_17 T2_18)
   all_goals(try go_simp)
   all_goals(try omega)
 simp only[putv,dstOf,al_gl,al_g0,al_g1,al_ob];obtain⟨T3,hT⟩:∃X,X=(((((T2).setIfInBounds 114 (.pointer (some ⟨A.st j,0,none⟩))).setIfInBounds 115 (.pointer (some ⟨A.st j,0,none⟩))).setIfInBounds 116 (.pointer (some ⟨A.st j,2,none⟩))).setIfInBounds 117 (.bool false)).setIfInBounds 118 (.bool true):=⟨_,rfl⟩;rw[<-hT];have hT3:T3.size=129:=by rw[hT];simp[hT2]
 have T3_0:=sg5 hT T2_0;have T3_1:=sg5 hT T2_1;have T3_5:=sg5 hT T2_5;have T3_6:=sg5 hT T2_6;have T3_9:=sg5 hT T2_9;have T3_10:=sg5 hT T2_10;have T3_11:=sg5 hT T2_11;have T3_13:T3[13]?=some (stepV A B):=sg5 hT T2_13;have T3_7:=sg5 hT T2_7;have T3_107:=sg5 hT T2_107;have T3_108:=sg5 hT T2_108;have T3_109:=sg5 hT T2_109;have T3_110:=sg5 hT T2_110;have T3_111:=sg5 hT T2_111;have T3_112:=sg5 hT T2_112;have T3_113:=sg5 hT T2_113;have T3_17:=sg5 hT T2_17;have T3_18:=sg5 hT T2_18;have T3_114:T3[114]?=some (.pointer (some ⟨A.st j,0,none⟩)):=by rw[hT];simp[al_gs,hT2]
 have T3_115:T3[115]?=some (.pointer (some ⟨A.st j,0,none⟩)):=by rw[hT];simp[al_gs,hT2]
 have T3_116:T3[116]?=some (.pointer (some ⟨A.st j,2,none⟩)):=by rw[hT];simp[al_gs,hT2]
 have T3_117:T3[117]?=some (.bool false):=by rw[hT];simp[al_gs,hT2]
 have T3_118:T3[118]?=some (.bool true):=by rw[hT];simp[al_gs,hT2]
 clear hT T2_0 T2_1 T2_5 T2_6 T2_9 T2_10 T2_11 T2_13 T2_7 T2_107 T2_108 T2_109 T2_110 T2_111 T2_112 T2_113 T2_17 T2_18 hT2;refine hJ.ctl (s:=()) (λw=>stepG_region_end) ?_;refine hJ.ctl (s:=()) (λw=>stepG_cond (t:=true) (by simp[Act.eval,al_gd,T3_118])) ?_;simp only[if_true];refine hJ.ctl (s:=()) (λw=>stepG_region) ?_;refine zqr (J:=λ(_:Unit)=>HoldR Try.prog Fin Kc inb 0 n) (s:=()) hJ hb 0 [.pointer (some ⟨A.bT,0,none⟩),.int .i64 j] [2] rfl (by simp) (by rfl) ?_ ?_
 . intro τ d;simp only[zqo,dstOf,al_gl,al_g0,al_g1,al_ob];refine⟨?_,?_,trivial⟩<;>(intro o ho;simp only[al_oi]at ho;subst ho)
   all_goals(try simp only[execOp,Act.eval,List.map_toArray,List.map_cons,List.map_nil,al_gd])
   all_goals(try simp only[al_gs,al_gz,hT3,T3_0,T3_1,T3_5,T3_6,T3_9,T3_10,T3_11,T3_13,T3_7,T3_107,T3_108,T3_109,T3_110,T3_111,T3_112,T3_113,T3_17,T3_18,T3_114,T3_115,T3_116,T3_117,T3_118,Nat.reduceEqDiff,Nat.reduceLT,↓reduceIte,al_od])
   all_goals(have hlt:∀i,i<129->i<(T3).size:=λi hi=>(by rw[hT3];exact hi))
   all_goals(clear hT3 T3_0 T3_1 T3_5 T3_6 T3_9 T3_10 T3_11 T3_13 T3_7 T3_107 T3_108 T3_109 T3_110 T3_111 T3_112 T3_113 T3_17 T3_18 T3_114 T3_115 T3_116 T3_117 T3_118)
   all_goals(try go_simp)
   all_goals(try omega)
 simp only[putv,dstOf,al_gl,al_g0,al_g1,al_ob];obtain⟨T4,hT⟩:∃X,X=((T3).setIfInBounds 119 (.pointer (some ⟨A.bT,0,none⟩))).setIfInBounds 120 (.int .i64 j):=⟨_,rfl⟩;rw[<-hT];have hT4:T4.size=129:=by rw[hT];simp[hT3]
 have T4_0:=sg2 hT T3_0;have T4_1:=sg2 hT T3_1;have T4_5:=sg2 hT T3_5;have T4_6:=sg2 hT T3_6;have T4_9:=sg2 hT T3_9;have T4_10:=sg2 hT T3_10;have T4_11:=sg2 hT T3_11;have T4_13:T4[13]?=some (stepV A B):=sg2 hT T3_13;have T4_7:=sg2 hT T3_7;have T4_107:=sg2 hT T3_107;have T4_108:=sg2 hT T3_108;have T4_109:=sg2 hT T3_109;have T4_110:=sg2 hT T3_110;have T4_111:=sg2 hT T3_111;have T4_112:=sg2 hT T3_112;have T4_113:=sg2 hT T3_113;have T4_17:=sg2 hT T3_17;have T4_18:=sg2 hT T3_18;have T4_114:=sg2 hT T3_114;have T4_115:=sg2 hT T3_115;have T4_116:=sg2 hT T3_116;have T4_117:=sg2 hT T3_117;have T4_118:=sg2 hT T3_118;have T4_119:T4[119]?=some (.pointer (some ⟨A.bT,0,none⟩)):=by rw[hT];simp[al_gs,hT3]
 have T4_120:T4[120]?=some (.int .i64 j):=by rw[hT];simp[al_gs,hT3]
 clear hT T3_0 T3_1 T3_5 T3_6 T3_9 T3_10 T3_11 T3_13 T3_7 T3_107 T3_108 T3_109 T3_110 T3_111 T3_112 T3_113 T3_17 T3_18 T3_114 T3_115 T3_116 T3_117 T3_118 hT3;refine zq14 (J:=λ(_:Unit)=>HoldR Try.prog Fin Kc inb 0 n) (s:=()) hb hJ rfl (by simp[Region.wanted]) (f:=62) (args:=#[.pointer (some ⟨A.bT,0,none⟩),.int .i64 j,.bool false]) (λτ d=>?_) (λτ d=>?_) ?_
 . simp[go_sem,execOp,Act.eval,resolve,Deferred.ofValue,invoke,callFunc,Try.func62,Try.f62,al_gd,T4_119,T4_120]
 . intro e he;simp[go_sem,execOp,Act.eval,resolve,Deferred.ofValue,invoke,callFunc,Try.func62,Try.f62,Sem.runT_eq,al_gd,T4_119,T4_120]at he
 refine let_kill hFin hI.ok hI.kept hI.cf hj ho hn λm' inb' w' hkl hC=>?_;have hI':=hI.turned hC;have hJ3:=zq10 hFin Kc inb' n;rw[Frame.finish_at]
 try walk_nrm
 obtain⟨T5,hT⟩:∃X,X=(T4).setIfInBounds 121 (.tuple #[]):=⟨_,rfl⟩;rw[<-hT];have hT5:T5.size=129:=by rw[hT];simp[hT4]
 have T5_0:=sg1 hT T4_0;have T5_1:=sg1 hT T4_1;have T5_5:=sg1 hT T4_5;have T5_6:=sg1 hT T4_6;have T5_9:=sg1 hT T4_9;have T5_10:=sg1 hT T4_10;have T5_11:=sg1 hT T4_11;have T5_13:T5[13]?=some (stepV A B):=sg1 hT T4_13;have T5_7:=sg1 hT T4_7;have T5_107:=sg1 hT T4_107;have T5_108:=sg1 hT T4_108;have T5_109:=sg1 hT T4_109;have T5_110:=sg1 hT T4_110;have T5_111:=sg1 hT T4_111;have T5_112:=sg1 hT T4_112;have T5_113:=sg1 hT T4_113;have T5_17:=sg1 hT T4_17;have T5_18:=sg1 hT T4_18;have T5_114:=sg1 hT T4_114;have T5_115:=sg1 hT T4_115;have T5_116:=sg1 hT T4_116;have T5_117:=sg1 hT T4_117;have T5_118:=sg1 hT T4_118;have T5_119:=sg1 hT T4_119;have T5_120:=sg1 hT T4_120;have T5_121:T5[121]?=some (.tuple #[]):=by rw[hT];simp[al_gs,hT4]
 clear hT T4_0 T4_1 T4_5 T4_6 T4_9 T4_10 T4_11 T4_13 T4_7 T4_107 T4_108 T4_109 T4_110 T4_111 T4_112 T4_113 T4_17 T4_18 T4_114 T4_115 T4_116 T4_117 T4_118 T4_119 T4_120 hT4;refine hJ3.ctl (s:=()) (λw=>stepG_region_end) ?_;refine hJ3.ctl (s:=()) (λw=>stepG_inBlock) ?_;refine hJ3.ctl (s:=()) (λw=>stepG_region) ?_;have hwr:IntKind.i64.wrap ((j:Int)+1)=((j+1:Nat):Int):=by
  rw[show(j:Int)+1=((j+1:Nat):Int)by omega];exact IntWalk.i64_in _ (by omega)
 clear cs' cv cX;refine zqr (J:=λ(_:Unit)=>HoldR Try.prog Fin Kc inb' 0 n) (s:=()) hJ3 hb 0 [.int .i64 ((j+1:Nat):Int),.int .i64 ((j+1:Nat):Int)] [] rfl (by simp) (by rfl) ?_ ?_
 . intro τ d;simp only[zqo,dstOf,al_gl,al_g0,al_g1,al_ob];refine⟨?_,?_,trivial⟩<;>(intro o ho;simp only[al_oi]at ho;subst ho)
   all_goals(try simp only[execOp,Act.eval,List.map_toArray,List.map_cons,List.map_nil,al_gd])
   all_goals(try simp only[al_gs,al_gz,hT5,T5_0,T5_1,T5_5,T5_6,T5_9,T5_10,T5_11,T5_13,T5_7,T5_107,T5_108,T5_109,T5_110,T5_111,T5_112,T5_113,T5_17,T5_18,T5_114,T5_115,T5_116,T5_117,T5_118,T5_119,T5_120,T5_121,Nat.reduceEqDiff,Nat.reduceLT,↓reduceIte,al_od])
   all_goals(have hlt:∀i,i<129->i<(T5).size:=λi hi=>(by rw[hT5];exact hi))
   all_goals(clear hT5 T5_0 T5_1 T5_5 T5_6 T5_9 T5_10 T5_11 T5_13 T5_7 T5_107 T5_108 T5_109 T5_110 T5_111 T5_112 T5_113 T5_17 T5_18 T5_114 T5_115 T5_116 T5_117 T5_118 T5_119 T5_120 T5_121)
   all_goals(try go_simp)
   all_goals(try omega)
 simp only[putv,dstOf,al_gl,al_g0,al_g1,al_ob];obtain⟨T6,hT⟩:∃X,X=((T5).setIfInBounds 122 (.int .i64 ((j+1:Nat):Int))).setIfInBounds 109 (.int .i64 ((j+1:Nat):Int)):=⟨_,rfl⟩;rw[<-hT];have hT6:T6.size=129:=by rw[hT];simp[hT5]
 have T6_0:=sg2 hT T5_0;have T6_1:=sg2 hT T5_1;have T6_5:=sg2 hT T5_5;have T6_6:=sg2 hT T5_6;have T6_9:=sg2 hT T5_9;have T6_10:=sg2 hT T5_10;have T6_11:=sg2 hT T5_11;have T6_13:T6[13]?=some (stepV A B):=sg2 hT T5_13;have T6_7:=sg2 hT T5_7;have T6_107:=sg2 hT T5_107;have T6_108:=sg2 hT T5_108;have T6_110:=sg2 hT T5_110;have T6_111:=sg2 hT T5_111;have T6_112:=sg2 hT T5_112;have T6_113:=sg2 hT T5_113;have T6_17:=sg2 hT T5_17;have T6_18:=sg2 hT T5_18;have T6_114:=sg2 hT T5_114;have T6_115:=sg2 hT T5_115;have T6_116:=sg2 hT T5_116;have T6_117:=sg2 hT T5_117;have T6_118:=sg2 hT T5_118;have T6_119:=sg2 hT T5_119;have T6_120:=sg2 hT T5_120;have T6_121:=sg2 hT T5_121;have T6_122:T6[122]?=some (.int .i64 ((j+1:Nat):Int)):=by rw[hT];simp[al_gs,hT5]
 have T6_109:T6[109]?=some (.int .i64 ((j+1:Nat):Int)):=by rw[hT];simp[al_gs,hT5]
 clear hT T5_0 T5_1 T5_5 T5_6 T5_9 T5_10 T5_11 T5_13 T5_7 T5_107 T5_108 T5_109 T5_110 T5_111 T5_112 T5_113 T5_17 T5_18 T5_114 T5_115 T5_116 T5_117 T5_118 T5_119 T5_120 T5_121 hT5;refine hJ3.ctl (s:=()) (λw=>stepG_region_end) ?_;refine hJ3.ctl (s:=()) (λw=>stepG_inLoop) ?_;exact hm.out _ _ _ hkl hI' _ ⟨hT6,T6_0,T6_1,T6_5,T6_6,T6_9,T6_10,T6_11,T6_13⟩ T6_7 T6_107 T6_108 T6_109
theorem zqcy{Fin:Machine->Trace->Prop}(hFin:Back Try.prog Fin){A:OA}{B:Bx}{Kc:Addr->Option Value}{n:Nat}{inb:Nat->Option Seat}{w:World}{thr sch:Value}{stuck:Bool}{Ts:Array Value}(hF:Fr A B thr sch Ts)(f10:Ts[7]?=some (.bool stuck))(t107:Ts[107]?=some (.slice A.sp A.N A.cap))(t108:Ts[108]?=some (.int .i64 A.N))(t109:Ts[109]?=some (.int .i64 A.N))
 {b:Frame} (hb:b.kind≠.early) {ds:List Deferred} {K:List Item} {cs:List Frame}
 (hmain:∀Ts',Fr A B thr sch Ts'->Ts'[7]?=some (.bool stuck)->HoldR Try.prog Fin Kc inb 0 n (G (b.at ⟨Ts',ds⟩ K) cs) w):
 HoldR Try.prog Fin Kc inb 0 n (G (b.at ⟨Ts,ds⟩ (.code lpF::.inLoop lpF::.inBlock 10::K)) cs) w:=by
 have hJ:=zq10 hFin Kc inb n;obtain⟨hsz,f2,f3,f4,f5,f6,f7,f8,f9⟩:=hF;have hm:=Lib.hid hmain;clear hmain;have elp:lpF=match headC (tailN 11 (Try.f54.body.getD .skip))with|.seq _ (.block _ (.loop c))=>c|_=>.skip:=rfl
 simp only[headC,tailN,Try.f54,al_od]at elp;generalize hlp:lpF=lp at elp |- hm;subst elp;refine hJ.ctl (s:=()) (λw=>stepG_seq) ?_;refine hJ.ctl (s:=()) (λw=>stepG_region) ?_;refine zqr (J:=λ(_:Unit)=>HoldR Try.prog Fin Kc inb 0 n) (s:=()) hJ hb 0 [.bool false] [] rfl (by simp) (by rfl) ?_ ?_
 . intro τ d;simp only[zqo,dstOf,al_gl,al_g0,al_g1,al_ob];refine⟨?_,trivial⟩<;>(intro o ho;simp only[al_oi]at ho;subst ho)
   all_goals(try simp only[execOp,Act.eval,List.map_toArray,List.map_cons,List.map_nil,al_gd])
   all_goals(try simp only[al_gs,al_gz,hsz,f2,f3,f4,f5,f6,f7,f8,f9,f10,t107,t108,t109,Nat.reduceEqDiff,Nat.reduceLT,↓reduceIte,al_od])
   all_goals(have hlt:∀i,i<129->i<(Ts).size:=λi hi=>(by rw[hsz];exact hi))
   all_goals(clear hsz f2 f3 f4 f5 f6 f7 f8 f9 f10 t107 t108 t109)
   all_goals(try go_simp)
   all_goals(try omega)
 simp only[putv,dstOf,al_gl,al_g0,al_g1,al_ob];obtain⟨T1,hT⟩:∃X,X=(Ts).setIfInBounds 110 (.bool false):=⟨_,rfl⟩;rw[<-hT];have hT1:T1.size=129:=by rw[hT];simp[hsz]
 have T1_0:=sg1 hT f2;have T1_1:=sg1 hT f3;have T1_5:=sg1 hT f4;have T1_6:=sg1 hT f5;have T1_9:=sg1 hT f6;have T1_10:=sg1 hT f7;have T1_11:=sg1 hT f8;have T1_13:T1[13]?=some (stepV A B):=sg1 hT f9;have T1_7:=sg1 hT f10;have T1_107:=sg1 hT t107;have T1_108:=sg1 hT t108;have T1_109:=sg1 hT t109;have T1_110:T1[110]?=some (.bool false):=by rw[hT];simp[al_gs,hsz]
 clear hT f2 f3 f4 f5 f6 f7 f8 f9 f10 t107 t108 t109 hsz;refine hJ.ctl (s:=()) (λw=>stepG_region_end) ?_;refine hJ.ctl (s:=()) (λw=>stepG_seq) ?_;refine hJ.ctl (s:=()) (λw=>stepG_cond (t:=false) (by simp[Act.eval,al_gd,T1_110])) ?_;simp only[Bool.false_eq_true,if_false];refine hJ.ctl (s:=()) (λw=>stepG_exit (k':=K) rfl) ?_;exact hm.out _ ⟨hT1,T1_0,T1_1,T1_5,T1_6,T1_9,T1_10,T1_11,T1_13⟩ T1_7
theorem zqcz{Fin:Machine->Trace->Prop}(hFin:Back Try.prog Fin){T:Thr M}{A:OA}{B:Bx}{Kc:Addr->Option Value}{w₀:World}{m₀:M}{most n:Nat}(hn:A.n0+A.N<=n){thr sch:Value}{stuck:Bool}{b:Frame}(hb:b.kind≠.early){ds:List Deferred}{K:List Item}{cs:List Frame}{b₀:OSt M}{left:Nat}{v:Value}:
 ∀(r j:Nat),j+r=A.N->∀{E:Nat->Option Obj}{k:Nat}{a:OSt M}{inb:Nat->Option Seat}{w:World}{Ts:Array Value},Inv T A B Kc w₀ m₀ most A.N E k a left v inb w->100<=k+j->Go.Car.Ends T b₀.ov b₀.m j a.m->a.brk=b₀.brk->a.ord=b₀.ord->(∀i,i<j->a.ov i=true)->(∀i,j<=i->a.ov i=b₀.ov i)->
  Fr A B thr sch Ts->Ts[7]?=some (.bool stuck)->Ts[107]?=some (.slice A.sp A.N A.cap)->Ts[108]?=some (.int .i64 A.N)->Ts[109]?=some (.int .i64 j)->
  (∀a' E' k' inb' w' Ts',Inv T A B Kc w₀ m₀ most A.N E' k' a' left v inb' w'->Go.Car.Ends T b₀.ov b₀.m A.N a'.m->a'.brk=b₀.brk->a'.ord=b₀.ord->(∀i,i<A.N->a'.ov i=true)->Fr A B thr sch Ts'->Ts'[7]?=some (.bool stuck)->HoldR Try.prog Fin Kc inb' 0 n (G (b.at ⟨Ts',ds⟩ K) cs) w')->
  HoldR Try.prog Fin Kc inb 0 n (G (b.at ⟨Ts,ds⟩ (.code lpF::.inLoop lpF::.inBlock 10::K)) cs) w:=by
 intro r
 induction r with
 |zero=>
  intro j hj E k a inb w Ts hI hk hE hbr hor hov hov' hF f10 t107 t108 t109 hmain;have e:j=A.N:=by omega
  subst e;exact zqcy hFin hF f10 t107 t108 t109 hb λTs' hF' g10=>hmain a E k inb w Ts' hI hE hbr hor hov hF' g10
 |succ r ih=>
  intro j hj E k a inb w Ts hI hk hE hbr hor hov hov' hF f10 t107 t108 t109 hmain;have hN:=hI.N;have hsp:=hI.ok.sp (by omega);rw[hsp]at t107;cases ho:a.ov j with
  |true=>
   obtain⟨p,cap,hv,hd⟩:=hI.head;have cv:=hd.cv j (by omega);rw[ho]at cv;refine zqd0 hFin hF f10 t107 t108 t109 (by omega) hN (hd.cs j (by omega)) cv hb λTs' hF' g10 u107 u108 u109=>?_;rw[<-hsp]at u107;refine ih (j+1) (by omega) hI (by omega) (.over hE (by rw[<-hov' j (Nat.le_refl _)];exact ho)) hbr hor (λi hi=>?_) (λi hi=>hov' i (by omega)) hF' g10 u107 u108 u109 hmain
   by_cases e:i=j
   . rw[e];exact ho
   . exact hov i (by omega)
  |false=>
   obtain⟨k,rfl⟩:∃k',k=k'+1:=⟨k - 1,by omega⟩;refine kill_one hFin hI hn hF f10 t107 t108 t109 (by omega) ho hb λm' inb' w' hkl hI' Ts' hF' g10 u107 u108 u109=>?_;rw[<-hsp]at u107;refine ih (j+1) (by omega) hI' (by omega) (.kill hE (by rw[<-hov' j (Nat.le_refl _)];exact ho) hkl) hbr hor (λi hi=>?_) (λi hi=>?_) hF' g10 u107 u108 u109 hmain
   . show(if i=j then true else a.ov i)=true;split
     . rfl
     . exact hov i (by omega)
   . show(if i=j then true else a.ov i)=b₀.ov i;rw[if_neg (by omega)];exact hov' i (by omega)
end
section
variable {M:Type}
structure Fr0(A:OA)(B:Bx)(thr sch:Value)(T:Array Value):Prop where
 size:T.size=129
 t0:T[0]?=some thr
 t1:T[1]?=some sch
 t5:T[5]?=some (.pointer (some ⟨B.bM,0,none⟩))
 t6:T[6]?=some (.pointer (some ⟨B.bO,0,none⟩))
 t9:T[9]?=some (.pointer (some ⟨B.bN,0,none⟩))
 t10:T[10]?=some (.pointer (some ⟨A.bX,0,none⟩))
 t11:T[11]?=some (.pointer (some ⟨B.bL,0,none⟩))
theorem Inv.started {T:Thr M}{A:OA}{B:Bx}{Kc:Addr->Option Value}{w₀:World}{m₀:M}{most s:Nat}{E:Nat->Option Obj}{k k':Nat}{a:OSt M}{left:Nat}{v:Value}{inb inb':Nat->Option Seat}{w w':World}(h:Inv T A B Kc w₀ m₀ most s E k a left v inb w){m':M}{ov' brk':Nat->Bool}{bb:Nat}
 (hc:Cf T (A.lay s bb) Kc E k' (s+1) ov' brk' m' inb' w'):Inv T (A.lay s bb) B Kc w₀ m₀ most (s+1) E k' ⟨m',ov',brk',a.ord⟩ left v inb' w':=by
 have hg:∀g,v.ownBlock=some g->w'.heap[g]?=w.heap[g]?:=λg hg=>by
  rcases h.row.2 with⟨hv,_⟩|⟨g2,cap,cur,hv,h1,h2,h3⟩
  . rw[hv]at hg;cases hg
  . rw[hv]at hg;simp only[Value.ownBlock,al_oi]at hg;subst hg;rw[h2];exact hc.ext _ _ ((h.erow _ (by rw[hv];rfl)).1.trans h2)
 refine⟨h.ok.lay _ _,h.bok,h.kept.lay _ _,hc,h.eN,h.eM,h.eO,h.eL,h.own,⟨h.row.1,?_⟩,λg hgv=>⟨by rw[hg g hgv];exact(h.erow g hgv).1,(h.erow g hgv).2⟩,h.old,h.len,h.most,h.N,?_,h.lft⟩
 . rcases h.row.2 with hv|⟨g,cap,cur,hv,h1,h2,h3⟩
   . exact .inl hv
   . exact .inr ⟨g,cap,cur,hv,h1,by rw[hg g (by rw[hv];rfl)];exact h2,h3⟩
 . have:=zqi (hc.ext _ _ h.eN);have:=h.bok.ge;omega
noncomputable def lpB:Code:=match headC (tailN 6 (Try.f54.body.getD .skip))with|.seq _ (.block _ (.loop c))=>c|_=>.skip
theorem zq7h{Fin:Machine->Trace->Prop}(hFin:Back Try.prog Fin){A:OA}{B:Bx}{Kc:Addr->Option Value}{n:Nat}{inb:Nat->Option Seat}{w:World}{thr sch:Value}{Ts:Array Value}(hF:Fr0 A B thr sch Ts)(t46:Ts[46]?=some (.int .i64 A.N))(t47:Ts[47]?=some (.int .i64 A.N))
 {b:Frame} (hb:b.kind≠.early) {ds:List Deferred} {K:List Item} {cs:List Frame}
 (hmain:∀Ts',Fr0 A B thr sch Ts'->HoldR Try.prog Fin Kc inb 0 n (G (b.at ⟨Ts',ds⟩ K) cs) w):
 HoldR Try.prog Fin Kc inb 0 n (G (b.at ⟨Ts,ds⟩ (.code lpB::.inLoop lpB::.inBlock 2::K)) cs) w:=by
 have hJ:=zq10 hFin Kc inb n;obtain⟨hsz,f2,f3,f4,f5,f6,f7,f8⟩:=hF;have hm:=Lib.hid hmain;clear hmain;have elp:lpB=match headC (tailN 6 (Try.f54.body.getD .skip))with|.seq _ (.block _ (.loop c))=>c|_=>.skip:=rfl
 simp only[headC,tailN,Try.f54,al_od]at elp;generalize hlp:lpB=lp at elp |- hm;subst elp;refine hJ.ctl (s:=()) (λw=>stepG_seq) ?_;refine hJ.ctl (s:=()) (λw=>stepG_region) ?_;refine zqr (J:=λ(_:Unit)=>HoldR Try.prog Fin Kc inb 0 n) (s:=()) hJ hb 0 [.bool false] [] rfl (by simp) (by rfl) ?_ ?_
 . intro τ d;simp only[zqo,dstOf,al_gl,al_g0,al_g1,al_ob];refine⟨?_,trivial⟩<;>(intro o ho;simp only[al_oi]at ho;subst ho)
   all_goals(try simp only[execOp,Act.eval,List.map_toArray,List.map_cons,List.map_nil,al_gd])
   all_goals(try simp only[al_gs,al_gz,hsz,f2,f3,f4,f5,f6,f7,f8,t46,t47,Nat.reduceEqDiff,Nat.reduceLT,↓reduceIte,al_od])
   all_goals(have hlt:∀i,i<129->i<(Ts).size:=λi hi=>(by rw[hsz];exact hi))
   all_goals(clear hsz f2 f3 f4 f5 f6 f7 f8 t46 t47)
   all_goals(try go_simp)
   all_goals(try omega)
 simp only[putv,dstOf,al_gl,al_g0,al_g1,al_ob];obtain⟨T1,hT⟩:∃X,X=(Ts).setIfInBounds 48 (.bool false):=⟨_,rfl⟩;rw[<-hT];have hT1:T1.size=129:=by rw[hT];simp[hsz]
 have T1_0:=sg1 hT f2;have T1_1:=sg1 hT f3;have T1_5:=sg1 hT f4;have T1_6:=sg1 hT f5;have T1_9:=sg1 hT f6;have T1_10:=sg1 hT f7;have T1_11:=sg1 hT f8;have T1_46:=sg1 hT t46;have T1_47:=sg1 hT t47;have T1_48:T1[48]?=some (.bool false):=by rw[hT];simp[al_gs,hsz]
 clear hT f2 f3 f4 f5 f6 f7 f8 t46 t47 hsz;refine hJ.ctl (s:=()) (λw=>stepG_region_end) ?_;refine hJ.ctl (s:=()) (λw=>stepG_seq) ?_;refine hJ.ctl (s:=()) (λw=>stepG_cond (t:=false) (by simp[Act.eval,al_gd,T1_48])) ?_;simp only[Bool.false_eq_true,if_false];refine hJ.ctl (s:=()) (λw=>stepG_exit (k':=K) rfl) ?_;exact hm.out _ ⟨hT1,T1_0,T1_1,T1_5,T1_6,T1_9,T1_10,T1_11⟩
noncomputable def lpB2:Code:=match lpB with|.seq _ (.seq _ (.seq (.block _ (.seq _ (.seq _ (.seq _ c)))) _))=>c|_=>.skip
noncomputable def lpB3:Code:=match lpB with|.seq _ (.seq _ (.seq _ c))=>c|_=>.skip
theorem go_first{Fin:Machine->Trace->Prop}(hFin:Back Try.prog Fin){T:Thr M}{A:OA}{B:Bx}{Kc:Addr->Option Value}{w₀:World}{m₀:M}{most n s:Nat}{E:Nat->Option Obj}{k:Nat}{a:OSt M}{left:Nat}{v:Value}{inb:Nat->Option Seat}{w:World}(h:Inv T A B Kc w₀ m₀ most s E k a left v inb w)(hs:s<A.N)(ho:a.ov s=false)(hn:n=A.n0+s)
 (hms:T.Same s m₀ a.m) (hr:Runs Try.prog T 81 150 NEnd m₀ s (A.tv s)) {tb L C:Nat} {sch:Value} {Ts:Array Value} (hF:Fr0 A B (.slice (some ⟨tb,0,none⟩) L C) sch Ts) (t46:Ts[46]?=some (.int .i64 A.N)) (t47:Ts[47]?=some (.int .i64 s)) (hsL:s<L) (hv:w.cell? ⟨tb,s,none⟩=some (A.tv s))
 {b:Frame} (hb:b.kind≠.early) {ds:List Deferred} {K:List Item} {cs:List Frame}
 (hmain:∀m' ov' brk' inb' w'(Ts':Array Value),zq1m (T.Start s) s a.m a.ov a.brk m' ov' brk'->Inv T (A.lay s w.heap.size) B Kc w₀ m₀ most (s+1) E k ⟨m',ov',brk',a.ord⟩ left v inb' w'->Fr0 A B (.slice (some ⟨tb,0,none⟩) L C) sch Ts'->Ts'[12]?=some (.int .i64 s)->Ts'[46]?=some (.int .i64 A.N)->Ts'[47]?=some (.int .i64 s)->
  HoldR Try.prog Fin Kc inb' 0 (n+1) (G (b.at ⟨Ts',ds⟩ (.code lpB2::.inBlock 3::.code lpB3::.inLoop lpB::.inBlock 2::K)) cs) w'):
 HoldR Try.prog Fin Kc inb 0 n (G (b.at ⟨Ts,ds⟩ (.code lpB::.inLoop lpB::.inBlock 2::K)) cs) w:=by
 have hJ:=zq10 hFin Kc inb n;have hN64:=h.N;obtain⟨hsz,f2,f3,f4,f5,f6,f7,f8⟩:=hF;have hm:=Lib.hid hmain;clear hmain;have elp:lpB=match headC (tailN 6 (Try.f54.body.getD .skip))with|.seq _ (.block _ (.loop c))=>c|_=>.skip:=rfl
 simp only[headC,tailN,Try.f54,al_od]at elp;unfold lpB2 lpB3 at hm;generalize hlp:lpB=lp at elp |- hm;subst elp;simp only[]at hm;have hsN:(s:Int)<A.N:=by omega
 refine hJ.ctl (s:=()) (λw=>stepG_seq) ?_;refine hJ.ctl (s:=()) (λw=>stepG_region) ?_;refine zqr (J:=λ(_:Unit)=>HoldR Try.prog Fin Kc inb 0 n) (s:=()) hJ hb 0 [.bool true] [] rfl (by simp) (by rfl) ?_ ?_
 . intro τ d;simp only[zqo,dstOf,al_gl,al_g0,al_g1,al_ob];refine⟨?_,trivial⟩<;>(intro o ho;simp only[al_oi]at ho;subst ho)
   all_goals(try simp only[execOp,Act.eval,List.map_toArray,List.map_cons,List.map_nil,al_gd])
   all_goals(try simp only[al_gs,al_gz,hsz,f2,f3,f4,f5,f6,f7,f8,t46,t47,Nat.reduceEqDiff,Nat.reduceLT,↓reduceIte,al_od])
   all_goals(have hlt:∀i,i<129->i<(Ts).size:=λi hi=>(by rw[hsz];exact hi))
   all_goals(clear hsz f2 f3 f4 f5 f6 f7 f8 t46 t47)
   all_goals(try go_simp)
   all_goals(try omega)
 simp only[putv,dstOf,al_gl,al_g0,al_g1,al_ob];obtain⟨T1,hT⟩:∃X,X=(Ts).setIfInBounds 48 (.bool true):=⟨_,rfl⟩;rw[<-hT];have hT1:T1.size=129:=by rw[hT];simp[hsz]
 have T1_0:=sg1 hT f2;have T1_1:=sg1 hT f3;have T1_5:=sg1 hT f4;have T1_6:=sg1 hT f5;have T1_9:=sg1 hT f6;have T1_10:=sg1 hT f7;have T1_11:=sg1 hT f8;have T1_46:=sg1 hT t46;have T1_47:=sg1 hT t47;have T1_48:T1[48]?=some (.bool true):=by rw[hT];simp[al_gs,hsz]
 clear hT f2 f3 f4 f5 f6 f7 f8 t46 t47 hsz;refine hJ.ctl (s:=()) (λw=>stepG_region_end) ?_;refine hJ.ctl (s:=()) (λw=>stepG_seq) ?_;refine hJ.ctl (s:=()) (λw=>stepG_cond (t:=true) (by simp[Act.eval,al_gd,T1_48])) ?_;simp only[if_true];refine hJ.ctl (s:=()) (λw=>stepG_skip) ?_;refine hJ.ctl (s:=()) (λw=>stepG_seq) ?_;refine hJ.ctl (s:=()) (λw=>stepG_block) ?_;refine hJ.ctl (s:=()) (λw=>stepG_seq) ?_;refine hJ.ctl (s:=()) (λw=>stepG_region) ?_;refine zqr (J:=λ(_:Unit)=>HoldR Try.prog Fin Kc inb 0 n) (s:=()) hJ hb 0 [.int .i64 s,.int .i64 s] [] rfl (by simp) (by rfl) ?_ ?_
 . intro τ d;simp only[zqo,dstOf,al_gl,al_g0,al_g1,al_ob];refine⟨?_,?_,trivial⟩<;>(intro o ho;simp only[al_oi]at ho;subst ho)
   all_goals(try simp only[execOp,Act.eval,List.map_toArray,List.map_cons,List.map_nil,al_gd])
   all_goals(try simp only[al_gs,al_gz,hT1,T1_0,T1_1,T1_5,T1_6,T1_9,T1_10,T1_11,T1_46,T1_47,T1_48,Nat.reduceEqDiff,Nat.reduceLT,↓reduceIte,al_od])
   all_goals(have hlt:∀i,i<129->i<(T1).size:=λi hi=>(by rw[hT1];exact hi))
   all_goals(clear hT1 T1_0 T1_1 T1_5 T1_6 T1_9 T1_10 T1_11 T1_46 T1_47 T1_48)
   all_goals(try go_simp)
   all_goals(try omega)
 simp only[putv,dstOf,al_gl,al_g0,al_g1,al_ob];obtain⟨T2,hT⟩:∃X,X=((T1).setIfInBounds 49 (.int .i64 s)).setIfInBounds 12 (.int .i64 s):=⟨_,rfl⟩;rw[<-hT];have hT2:T2.size=129:=by rw[hT];simp[hT1]
 have T2_0:=sg2 hT T1_0;have T2_1:=sg2 hT T1_1;have T2_5:=sg2 hT T1_5;have T2_6:=sg2 hT T1_6;have T2_9:=sg2 hT T1_9;have T2_10:=sg2 hT T1_10;have T2_11:=sg2 hT T1_11;have T2_46:=sg2 hT T1_46;have T2_47:=sg2 hT T1_47;have T2_48:=sg2 hT T1_48;have T2_49:T2[49]?=some (.int .i64 s):=by rw[hT];simp[al_gs,hT1]
 have T2_12:T2[12]?=some (.int .i64 s):=by rw[hT];simp[al_gs,hT1]
 clear hT T1_0 T1_1 T1_5 T1_6 T1_9 T1_10 T1_11 T1_46 T1_47 T1_48 hT1;refine hJ.ctl (s:=()) (λw=>stepG_region_end) ?_;refine hJ.ctl (s:=()) (λw=>stepG_seq) ?_;refine go_turn hFin h.ok h.kept h.cf hs ho hn hms hr hb hT2 T2_0 T2_10 T2_12 hsL hv λA' m' ov' brk' inb' w' T' eA hT hC hsz' hkeep=>?_;subst eA;have U0:=(hkeep 0 (by omega)).trans T2_0;have U1:=(hkeep 1 (by omega)).trans T2_1;have U5:=(hkeep 5 (by omega)).trans T2_5;have U6:=(hkeep 6 (by omega)).trans T2_6;have U9:=(hkeep 9 (by omega)).trans T2_9;have U10:=(hkeep 10 (by omega)).trans T2_10;have U11:=(hkeep 11 (by omega)).trans T2_11;have U12:=(hkeep 12 (by omega)).trans T2_12;have U46:=(hkeep 46 (by omega)).trans T2_46;have U47:=(hkeep 47 (by omega)).trans T2_47;have hI':=h.started hC;exact hm.out m' ov' brk' inb' w' T' hT hI' ⟨hsz',U0,U1,U5,U6,U9,U10,U11⟩ U12 U46 U47
theorem zqcf{Fin:Machine->Trace->Prop}(hFin:Back Try.prog Fin){T:Thr M}{A:OA}{B:Bx}{Kc:Addr->Option Value}{w₀:World}{m₀:M}{most n s:Nat}{E:Nat->Option Obj}{k:Nat}{a:OSt M}{left:Nat}{v:Value}{inb:Nat->Option Seat}{w:World}(hI:Inv T A B Kc w₀ m₀ most (s+1) E k a left v inb w)(hs:s<A.N)(hl:left<=s)
 {thr sch:Value} {Ts:Array Value} (hF:Fr0 A B thr sch Ts) (t12:Ts[12]?=some (.int .i64 s)) (t46:Ts[46]?=some (.int .i64 A.N)) (t47:Ts[47]?=some (.int .i64 s))
 {b:Frame} (hb:b.kind≠.early) {ds:List Deferred} {K:List Item} {cs:List Frame}
 (hmain:∀E' left' w'(Ts':Array Value),left'=left+(if a.ov s=true then 0 else 1)->Inv T A B Kc w₀ m₀ most (s+1) E' k a left' v inb w'->Fr0 A B thr sch Ts'->Ts'[46]?=some (.int .i64 A.N)->Ts'[47]?=some (.int .i64 (s+1:Nat))->
  HoldR Try.prog Fin Kc inb 0 n (G (b.at ⟨Ts',ds⟩ (.code lpB::.inLoop lpB::.inBlock 2::K)) cs) w'):
 HoldR Try.prog Fin Kc inb 0 n (G (b.at ⟨Ts,ds⟩ (.code lpB2::.inBlock 3::.code lpB3::.inLoop lpB::.inBlock 2::K)) cs) w:=by
 have hJ:=zq10 hFin Kc inb n;have hN64:=hI.N;obtain⟨hsz,f2,f3,f4,f5,f6,f7,f8⟩:=hF;have hm:=Lib.hid hmain;clear hmain;have elp:lpB=match headC (tailN 6 (Try.f54.body.getD .skip))with|.seq _ (.block _ (.loop c))=>c|_=>.skip:=rfl
 simp only[headC,tailN,Try.f54,al_od]at elp;unfold lpB2 lpB3;generalize hlp:lpB=lp at elp |- hm;subst elp;simp only[];obtain⟨p,cap,hv,hd⟩:=hI.head;have cX:=hd.cX;have cS:=hd.cS (by omega);have cs':=hd.cs s hs;have cv:=hd.cv s hs;have cL:=(hI.cell hI.eL).1;have zL:=(hI.cell hI.eL).2.1;have kL:=(hI.cell hI.eL).2.2.1;have qL:=(hI.cell hI.eL).2.2.2;clear hd;have hsN:(s:Int)<A.N:=by omega
 have hs0:(0:Int)<=s:=by omega
 cases hov:a.ov s with
 |true=>
  rw[hov]at cv;refine hJ.ctl (s:=()) (λw=>stepG_seq) ?_;refine hJ.ctl (s:=()) (λw=>stepG_region) ?_;refine zqr (J:=λ(_:Unit)=>HoldR Try.prog Fin Kc inb 0 n) (s:=()) hJ hb 0 [.pointer (some ⟨A.bT,0,none⟩),.pointer (some ⟨A.bT,0,none⟩),.pointer (some ⟨A.bT,1,none⟩),.slice (some ⟨A.bS,0,none⟩) A.N A.cap,.int .i64 s,.pointer (some ⟨A.bS,s,none⟩),.pointer (some ⟨A.st s,0,none⟩),.pointer (some ⟨A.st s,0,none⟩),.pointer (some ⟨A.st s,2,none⟩),.bool true,.bool false] [] rfl (by simp) (by rfl) ?_ ?_
  . intro τ d;simp only[zqo,dstOf,al_gl,al_g0,al_g1,al_ob];refine⟨?_,?_,?_,?_,?_,?_,?_,?_,?_,?_,?_,trivial⟩<;>(intro o ho;simp only[al_oi]at ho;subst ho)
    all_goals(try simp only[execOp,Act.eval,List.map_toArray,List.map_cons,List.map_nil,al_gd])
    all_goals(try simp only[al_gs,al_gz,hsz,f2,f3,f4,f5,f6,f7,f8,t12,t46,t47,Nat.reduceEqDiff,Nat.reduceLT,↓reduceIte,al_od])
    all_goals(have hlt:∀i,i<129->i<(Ts).size:=λi hi=>(by rw[hsz];exact hi))
    all_goals(clear hsz f2 f3 f4 f5 f6 f7 f8 t12 t46 t47)
    all_goals(try go_simp)
    all_goals(try omega)
  simp only[putv,dstOf,al_gl,al_g0,al_g1,al_ob];obtain⟨T1,hT⟩:∃X,X=(((((((((((Ts).setIfInBounds 61 (.pointer (some ⟨A.bT,0,none⟩))).setIfInBounds 62 (.pointer (some ⟨A.bT,0,none⟩))).setIfInBounds 63 (.pointer (some ⟨A.bT,1,none⟩))).setIfInBounds 64 (.slice (some ⟨A.bS,0,none⟩) A.N A.cap)).setIfInBounds 65 (.int .i64 s)).setIfInBounds 66 (.pointer (some ⟨A.bS,s,none⟩))).setIfInBounds 67 (.pointer (some ⟨A.st s,0,none⟩))).setIfInBounds 68 (.pointer (some ⟨A.st s,0,none⟩))).setIfInBounds 69 (.pointer (some ⟨A.st s,2,none⟩))).setIfInBounds 70 (.bool true)).setIfInBounds 71 (.bool false):=⟨_,rfl⟩;rw[<-hT];have hT1:T1.size=129:=by rw[hT];simp[hsz]
  have T1_0:=sg11 hT f2;have T1_1:=sg11 hT f3;have T1_5:=sg11 hT f4;have T1_6:=sg11 hT f5;have T1_9:=sg11 hT f6;have T1_10:=sg11 hT f7;have T1_11:=sg11 hT f8;have T1_46:=sg11 hT t46;have T1_47:=sg11 hT t47;have T1_71:T1[71]?=some (.bool false):=by rw[hT];simp[al_gs,hsz]
  clear hT f2 f3 f4 f5 f6 f7 f8 t12 t46 t47 hsz;refine hJ.ctl (s:=()) (λw=>stepG_region_end) ?_;refine hJ.ctl (s:=()) (λw=>stepG_cond (t:=false) (by simp[Act.eval,al_gd,T1_71])) ?_;simp only[Bool.false_eq_true,if_false];refine hJ.ctl (s:=()) (λw=>stepG_skip) ?_;refine hJ.ctl (s:=()) (λw=>stepG_inBlock) ?_;refine hJ.ctl (s:=()) (λw=>stepG_region) ?_;have hwr:IntKind.i64.wrap ((s:Int)+1)=((s+1:Nat):Int):=by
   rw[show(s:Int)+1=((s+1:Nat):Int)by omega];exact IntWalk.i64_in _ (by omega)
  clear cX cS cs' cv cL zL kL qL;refine zqr (J:=λ(_:Unit)=>HoldR Try.prog Fin Kc inb 0 n) (s:=()) hJ hb 0 [.int .i64 ((s+1:Nat):Int),.int .i64 ((s+1:Nat):Int)] [] rfl (by simp) (by rfl) ?_ ?_
  . intro τ d;simp only[zqo,dstOf,al_gl,al_g0,al_g1,al_ob];refine⟨?_,?_,trivial⟩<;>(intro o ho;simp only[al_oi]at ho;subst ho)
    all_goals(try simp only[execOp,Act.eval,List.map_toArray,List.map_cons,List.map_nil,al_gd])
    all_goals(try simp only[al_gs,al_gz,hT1,T1_0,T1_1,T1_5,T1_6,T1_9,T1_10,T1_11,T1_46,T1_47,T1_71,Nat.reduceEqDiff,Nat.reduceLT,↓reduceIte,al_od])
    all_goals(have hlt:∀i,i<129->i<(T1).size:=λi hi=>(by rw[hT1];exact hi))
    all_goals(clear hT1 T1_0 T1_1 T1_5 T1_6 T1_9 T1_10 T1_11 T1_46 T1_47 T1_71)
    all_goals(try go_simp)
    all_goals(try omega)
  simp only[putv,dstOf,al_gl,al_g0,al_g1,al_ob];obtain⟨T2,hT⟩:∃X,X=((T1).setIfInBounds 74 (.int .i64 ((s+1:Nat):Int))).setIfInBounds 47 (.int .i64 ((s+1:Nat):Int)):=⟨_,rfl⟩;rw[<-hT];have hT2:T2.size=129:=by rw[hT];simp[hT1]
  have T2_0:=sg2 hT T1_0;have T2_1:=sg2 hT T1_1;have T2_5:=sg2 hT T1_5;have T2_6:=sg2 hT T1_6;have T2_9:=sg2 hT T1_9;have T2_10:=sg2 hT T1_10;have T2_11:=sg2 hT T1_11;have T2_46:=sg2 hT T1_46;have T2_71:=sg2 hT T1_71;have T2_74:T2[74]?=some (.int .i64 ((s+1:Nat):Int)):=by rw[hT];simp[al_gs,hT1]
  have T2_47:T2[47]?=some (.int .i64 ((s+1:Nat):Int)):=by rw[hT];simp[al_gs,hT1]
  clear hT T1_0 T1_1 T1_5 T1_6 T1_9 T1_10 T1_11 T1_46 T1_47 T1_71 hT1;refine hJ.ctl (s:=()) (λw=>stepG_region_end) ?_;refine hJ.ctl (s:=()) (λw=>stepG_inLoop) ?_;have hi2:=hm.out E left w _ (by simp[hov]) hI ⟨hT2,T2_0,T2_1,T2_5,T2_6,T2_9,T2_10,T2_11⟩ T2_46 T2_47;exact hi2
 |false=>
  rw[hov]at cv;refine hJ.ctl (s:=()) (λw=>stepG_seq) ?_;refine hJ.ctl (s:=()) (λw=>stepG_region) ?_;refine zqr (J:=λ(_:Unit)=>HoldR Try.prog Fin Kc inb 0 n) (s:=()) hJ hb 0 [.pointer (some ⟨A.bT,0,none⟩),.pointer (some ⟨A.bT,0,none⟩),.pointer (some ⟨A.bT,1,none⟩),.slice (some ⟨A.bS,0,none⟩) A.N A.cap,.int .i64 s,.pointer (some ⟨A.bS,s,none⟩),.pointer (some ⟨A.st s,0,none⟩),.pointer (some ⟨A.st s,0,none⟩),.pointer (some ⟨A.st s,2,none⟩),.bool false,.bool true] [] rfl (by simp) (by rfl) ?_ ?_
  . intro τ d;simp only[zqo,dstOf,al_gl,al_g0,al_g1,al_ob];refine⟨?_,?_,?_,?_,?_,?_,?_,?_,?_,?_,?_,trivial⟩<;>(intro o ho;simp only[al_oi]at ho;subst ho)
    all_goals(try simp only[execOp,Act.eval,List.map_toArray,List.map_cons,List.map_nil,al_gd])
    all_goals(try simp only[al_gs,al_gz,hsz,f2,f3,f4,f5,f6,f7,f8,t12,t46,t47,Nat.reduceEqDiff,Nat.reduceLT,↓reduceIte,al_od])
    all_goals(have hlt:∀i,i<129->i<(Ts).size:=λi hi=>(by rw[hsz];exact hi))
    all_goals(clear hsz f2 f3 f4 f5 f6 f7 f8 t12 t46 t47)
    all_goals(try go_simp)
    all_goals(try omega)
  simp only[putv,dstOf,al_gl,al_g0,al_g1,al_ob];obtain⟨T1,hT⟩:∃X,X=(((((((((((Ts).setIfInBounds 61 (.pointer (some ⟨A.bT,0,none⟩))).setIfInBounds 62 (.pointer (some ⟨A.bT,0,none⟩))).setIfInBounds 63 (.pointer (some ⟨A.bT,1,none⟩))).setIfInBounds 64 (.slice (some ⟨A.bS,0,none⟩) A.N A.cap)).setIfInBounds 65 (.int .i64 s)).setIfInBounds 66 (.pointer (some ⟨A.bS,s,none⟩))).setIfInBounds 67 (.pointer (some ⟨A.st s,0,none⟩))).setIfInBounds 68 (.pointer (some ⟨A.st s,0,none⟩))).setIfInBounds 69 (.pointer (some ⟨A.st s,2,none⟩))).setIfInBounds 70 (.bool false)).setIfInBounds 71 (.bool true):=⟨_,rfl⟩;rw[<-hT];have hT1:T1.size=129:=by rw[hT];simp[hsz]
  have T1_0:=sg11 hT f2;have T1_1:=sg11 hT f3;have T1_5:=sg11 hT f4;have T1_6:=sg11 hT f5;have T1_9:=sg11 hT f6;have T1_10:=sg11 hT f7;have T1_11:=sg11 hT f8;have T1_46:=sg11 hT t46;have T1_47:=sg11 hT t47;have T1_71:T1[71]?=some (.bool true):=by rw[hT];simp[al_gs,hsz]
  clear hT f2 f3 f4 f5 f6 f7 f8 t12 t46 t47 hsz;refine hJ.ctl (s:=()) (λw=>stepG_region_end) ?_;refine hJ.ctl (s:=()) (λw=>stepG_cond (t:=true) (by simp[Act.eval,al_gd,T1_71])) ?_;simp only[if_true];refine hJ.ctl (s:=()) (λw=>stepG_region) ?_;have hwl:IntKind.i64.wrap ((left:Int)+1)=((left+1:Nat):Int):=by
   rw[show(left:Int)+1=((left+1:Nat):Int)by omega];exact IntWalk.i64_in _ (by omega)
  refine zqr (J:=λ(_:Unit)=>HoldR Try.prog Fin Kc inb 0 n) (s:=()) hJ hb 0 [.int .i64 left,.int .i64 ((left+1:Nat):Int)] [2] rfl (by simp) (by rfl) ?_ ?_
  . intro τ d;simp only[zqo,dstOf,al_gl,al_g0,al_g1,al_ob];refine⟨?_,?_,trivial⟩<;>(intro o ho;simp only[al_oi]at ho;subst ho)
    all_goals(try simp only[execOp,Act.eval,List.map_toArray,List.map_cons,List.map_nil,al_gd])
    all_goals(try simp only[al_gs,al_gz,hT1,T1_0,T1_1,T1_5,T1_6,T1_9,T1_10,T1_11,T1_46,T1_47,T1_71,Nat.reduceEqDiff,Nat.reduceLT,↓reduceIte,al_od])
    all_goals(have hlt:∀i,i<129->i<(T1).size:=λi hi=>(by rw[hT1];exact hi))
    all_goals(clear hT1 T1_0 T1_1 T1_5 T1_6 T1_9 T1_10 T1_11 T1_46 T1_47 T1_71)
    all_goals(try go_simp)
    all_goals(try omega)
  simp only[putv,dstOf,al_gl,al_g0,al_g1,al_ob];obtain⟨T2,hT⟩:∃X,X=((T1).setIfInBounds 72 (.int .i64 left)).setIfInBounds 73 (.int .i64 ((left+1:Nat):Int)):=⟨_,rfl⟩;rw[<-hT];have hT2:T2.size=129:=by rw[hT];simp[hT1]
  have T2_0:=sg2 hT T1_0;have T2_1:=sg2 hT T1_1;have T2_5:=sg2 hT T1_5;have T2_6:=sg2 hT T1_6;have T2_9:=sg2 hT T1_9;have T2_10:=sg2 hT T1_10;have T2_11:=sg2 hT T1_11;have T2_46:=sg2 hT T1_46;have T2_47:=sg2 hT T1_47;have T2_71:=sg2 hT T1_71;have T2_72:T2[72]?=some (.int .i64 left):=by rw[hT];simp[al_gs,hT1]
  have T2_73:T2[73]?=some (.int .i64 ((left+1:Nat):Int)):=by rw[hT];simp[al_gs,hT1]
  clear hT T1_0 T1_1 T1_5 T1_6 T1_9 T1_10 T1_11 T1_46 T1_47 T1_71 hT1;refine zq29 (J:=λ(_:Unit)=>HoldR Try.prog Fin Kc inb 0 n) (s:=()) (i:=2) (rest:=[]) hb hJ rfl rfl (ad:=⟨B.bL,0,none⟩) (by simp[Act.eval,al_gd,T2_11]) (λj hj=>zq4o kL (by simpa[Act.eval,al_gd,T2_73,Value.cells]using hj)) ⟨_,_,_,qL⟩ ?_;intro τ d;clear hwl;have t11':Hid (T2.size=129/\T2[0]?=some thr/\T2[1]?=some sch/\T2[5]?=some (.pointer (some ⟨B.bM,0,none⟩))/\T2[6]?=some (.pointer (some ⟨B.bO,0,none⟩))/\T2[9]?=some (.pointer (some ⟨B.bN,0,none⟩))/\T2[10]?=some (.pointer (some ⟨A.bX,0,none⟩))/\T2[46]?=some (.int .i64 A.N)/\T2[47]?=some (.int .i64 s)):=Lib.hid ⟨hT2,T2_0,T2_1,T2_5,T2_6,T2_9,T2_10,T2_46,T2_47⟩;clear hT2 T2_0 T2_1 T2_5 T2_6 T2_9 T2_10 T2_46 T2_47 T2_71 T2_72;go_wp2;simp only[zq7,zq1w];refine hJ.re' () _ _ τ d ?_;have hI2:=hI.setL (left+1) (by omega);obtain⟨hT2,T2_0,T2_1,T2_5,T2_6,T2_9,T2_10,T2_46,T2_47⟩:=t11'.out;refine hJ.ctl (s:=()) (λw=>stepG_region_end) ?_;refine hJ.ctl (s:=()) (λw=>stepG_inBlock) ?_;refine hJ.ctl (s:=()) (λw=>stepG_region) ?_;have hwr:IntKind.i64.wrap ((s:Int)+1)=((s+1:Nat):Int):=by
   rw[show(s:Int)+1=((s+1:Nat):Int)by omega];exact IntWalk.i64_in _ (by omega)
  clear cX cS cs' cv cL zL kL qL;refine zqr (J:=λ(_:Unit)=>HoldR Try.prog Fin Kc inb 0 n) (s:=()) hJ hb 0 [.int .i64 ((s+1:Nat):Int),.int .i64 ((s+1:Nat):Int)] [] rfl (by simp) (by rfl) ?_ ?_
  . intro τ d;simp only[zqo,dstOf,al_gl,al_g0,al_g1,al_ob];refine⟨?_,?_,trivial⟩<;>(intro o ho;simp only[al_oi]at ho;subst ho)
    all_goals(try simp only[execOp,Act.eval,List.map_toArray,List.map_cons,List.map_nil,al_gd])
    all_goals(try simp only[al_gs,al_gz,hT2,T2_0,T2_1,T2_5,T2_6,T2_9,T2_10,T2_11,T2_46,T2_47,Nat.reduceEqDiff,Nat.reduceLT,↓reduceIte,al_od])
    all_goals(have hlt:∀i,i<129->i<(T2).size:=λi hi=>(by rw[hT2];exact hi))
    all_goals(clear hT2 T2_0 T2_1 T2_5 T2_6 T2_9 T2_10 T2_11 T2_46 T2_47)
    all_goals(try go_simp)
    all_goals(try omega)
  simp only[putv,dstOf,al_gl,al_g0,al_g1,al_ob];obtain⟨T3,hT⟩:∃X,X=((T2).setIfInBounds 74 (.int .i64 ((s+1:Nat):Int))).setIfInBounds 47 (.int .i64 ((s+1:Nat):Int)):=⟨_,rfl⟩;rw[<-hT];have hT3:T3.size=129:=by rw[hT];simp[hT2]
  have T3_0:=sg2 hT T2_0;have T3_1:=sg2 hT T2_1;have T3_5:=sg2 hT T2_5;have T3_6:=sg2 hT T2_6;have T3_9:=sg2 hT T2_9;have T3_10:=sg2 hT T2_10;have T3_11:=sg2 hT T2_11;have T3_46:=sg2 hT T2_46;have T3_74:T3[74]?=some (.int .i64 ((s+1:Nat):Int)):=by rw[hT];simp[al_gs,hT2]
  have T3_47:T3[47]?=some (.int .i64 ((s+1:Nat):Int)):=by rw[hT];simp[al_gs,hT2]
  clear hT T2_0 T2_1 T2_5 T2_6 T2_9 T2_10 T2_11 T2_46 T2_47 hT2;refine hJ.ctl (s:=()) (λw=>stepG_region_end) ?_;refine hJ.ctl (s:=()) (λw=>stepG_inLoop) ?_;have hi2:=hm.out _ (left+1) _ _ (by simp[hov]) hI2 ⟨hT3,T3_0,T3_1,T3_5,T3_6,T3_9,T3_10,T3_11⟩ T3_46 T3_47;exact hi2
end
noncomputable def overT(n:Nat):Code:=tailN n (Try.f54.body.getD .skip)
theorem over6:overT 6=.seq (.seq (headC (headC (overT 6))) (.block 2 (.loop lpB))) (overT 7):=by kernel_rfl
theorem over7:overT 7=.seq (headC (overT 7)) (overT 8):=by kernel_rfl
theorem over8:overT 8=.seq (.seq (headC (headC (overT 8))) (.block 4 (.loop lpC))) (overT 9):=by kernel_rfl
theorem over9:overT 9=.seq (.block 6 (.loop lpD)) (overT 10):=by kernel_rfl
theorem over10:overT 10=.seq (headC (overT 10)) (overT 11):=by kernel_rfl
theorem over11:overT 11=.seq (.seq (headC (headC (overT 11))) (.block 10 (.loop lpF))) (overT 12):=by kernel_rfl
theorem over12:overT 12=.seq (headC (overT 12)) .ret:=by kernel_rfl
theorem Fr0.lay {A:OA}{B:Bx}{thr sch:Value}{T:Array Value}(h:Fr0 A B thr sch T)(s b:Nat):Fr0 (A.lay s b) B thr sch T:=⟨h.size,h.t0,h.t1,h.t5,h.t6,h.t9,h.t10,h.t11⟩
section
variable {M:Type}
theorem go_loop{Fin:Machine->Trace->Prop}(hFin:Back Try.prog Fin){T:Thr M}{B:Bx}{Kc:Addr->Option Value}{w₀:World}{m₀:M}{most:Nat}{tb L C:Nat}{sch:Value}{tv:Nat->Value}(hsb:tb<B.B0)(hsf:¬T.foot m₀ tb){b:Frame}(hb:b.kind≠.early){ds:List Deferred}{K:List Item}{cs:List Frame}{v:Value}{N n0:Nat}(hNL:N<=L)
 (hr:∀i,i<N->Runs Try.prog T 81 150 NEnd m₀ i (tv i)) (hv:∀i,i<N->w₀.cell? ⟨tb,i,none⟩=some (tv i)):
 ∀(r s:Nat),s+r=N->∀{A:OA}{n:Nat}{E:Nat->Option Obj}{k:Nat}{a:OSt M}{left:Nat}{inb:Nat->Option Seat}{w:World}{Ts:Array Value},A.N=N->A.n0=n0->A.tv=tv->n=n0+s->Inv T A B Kc w₀ m₀ most s E k a left v inb w->left=leftN a.ov s->(∀i,s<=i->a.ov i=false)->Begun T m₀ s a.m a.ov a.brk->
  Fr0 A B (.slice (some ⟨tb,0,none⟩) L C) sch Ts->Ts[46]?=some (.int .i64 N)->Ts[47]?=some (.int .i64 s)->
  (∀A' a' E' inb' w' Ts',A'.N=N->A'.n0=n0->a'.ord=a.ord->Begun T m₀ N a'.m a'.ov a'.brk->Inv T A' B Kc w₀ m₀ most N E' k a' (leftN a'.ov N) v inb' w'->Fr0 A' B (.slice (some ⟨tb,0,none⟩) L C) sch Ts'->HoldR Try.prog Fin Kc inb' 0 (n0+N) (G (b.at ⟨Ts',ds⟩ K) cs) w')->
  HoldR Try.prog Fin Kc inb 0 n (G (b.at ⟨Ts,ds⟩ (.code lpB::.inLoop lpB::.inBlock 2::K)) cs) w:=by
 intro r
 induction r with
 |zero=>
  intro s hs A n E k a left inb w Ts hAN hA0 hAt hn hI hl hov hbg hF t46 t47 hmain;have e:s=N:=by omega
  subst e;subst hn hl;refine zq7h hFin hF (by rw[hAN];exact t46) (by rw[hAN];exact t47) hb λTs' hF'=>?_;exact hmain A a E inb w Ts' hAN hA0 rfl hbg hI hF'
 |succ r ih=>
  intro s hs A n E k a left inb w Ts hAN hA0 hAt hn hI hl hov hbg hF t46 t47 hmain;have hsN:s<A.N:=by omega
  refine go_first hFin hI hsN (hov s (Nat.le_refl _)) (by omega) (hbg.same s (Nat.le_refl _)) (by rw[hAt];exact hr s (by omega)) hF (by rw[hAN];exact t46) t47 (by omega) (by rw[hAt];exact zq82 hI (hv s (by omega)) hsb hsf) hb λm' ov' brk' inb' w' Ts' hT hI' hF' u12 u46 u47=>?_;have hlt:leftN ov' s=leftN a.ov s:=by
   refine zq7n λi hi=>?_;cases hT with
   |yield h=>rfl
   |done h=>simp;omega
   |broke h=>simp;omega
  have hle:=zq7o a.ov s;refine zqcf hFin hI' hsN (by omega) (hF'.lay s w.heap.size) u12 u46 u47 hb λE' left' w2 Ts2 hleft hI2 hF2 z46 z47=>?_;refine ih (s+1) (by omega) (A:=A.lay s w.heap.size) hAN hA0 hAt (by omega) hI2 ?_ (λi hi=>?_) (.succ hbg hT) hF2 (by rw[<-hAN];exact z46) z47 ?_
  . show left'=leftN ov' s+(if ov' s=true then 0 else 1);rw[hleft,hl,hlt]
  . have h1:=hov i (by omega);cases hT with
    |yield h=>exact h1
    |done h=>show(if i=s then true else a.ov i)=false;rw[if_neg (by omega)];exact h1
    |broke h=>show(if i=s then true else a.ov i)=false;rw[if_neg (by omega)];exact h1
  . exact hmain
theorem glue9{Fin:Machine->Trace->Prop}(hFin:Back Try.prog Fin){A:OA}{B:Bx}{Kc:Addr->Option Value}{n:Nat}{inb:Nat->Option Seat}{w:World}{thr sch:Value}{Ts:Array Value}(hF:Fr0 A B thr sch Ts)(cN:w.cell? ⟨B.bN,0,none⟩=some (.int .i64 A.N))
 {b:Frame} (hb:b.kind≠.early) {ds:List Deferred} {K:List Item} {cs:List Frame}
 (hmain:∀Ts',Fr0 A B thr sch Ts'->Ts'[46]?=some (.int .i64 A.N)->Ts'[47]?=some (.int .i64 (0:Nat))->HoldR Try.prog Fin Kc inb 0 n (G (b.at ⟨Ts',ds⟩ (.code lpB::.inLoop lpB::.inBlock 2::.code (overT 7)::K)) cs) w):
 HoldR Try.prog Fin Kc inb 0 n (G (b.at ⟨Ts,ds⟩ (.code (overT 6)::K)) cs) w:=by
 have hJ:=zq10 hFin Kc inb n;obtain⟨hsz,f2,f3,f4,f5,f6,f7,f8⟩:=hF;have hm:=Lib.hid hmain;clear hmain;rw[over6];generalize overT 7=rest at hm |-;obtain⟨c0,hc0⟩:∃c,headC (headC (overT 6))=c:=⟨_,rfl⟩;have ec:=hc0;rw[hc0];simp only[overT,headC,tailN,Try.f54,al_od]at ec;subst ec;clear hc0;refine hJ.ctl (s:=()) (λw=>stepG_seq) ?_;refine hJ.ctl (s:=()) (λw=>stepG_seq) ?_;refine hJ.ctl (s:=()) (λw=>stepG_region) ?_;refine zqr (J:=λ(_:Unit)=>HoldR Try.prog Fin Kc inb 0 n) (s:=()) hJ hb 0 [.int .i64 A.N,.int .i64 (0:Nat)] [] rfl (by simp) (by rfl) ?_ ?_
 . intro τ d;simp only[zqo,dstOf,al_gl,al_g0,al_g1,al_ob];refine⟨?_,?_,trivial⟩<;>(intro o ho;simp only[al_oi]at ho;subst ho)
   all_goals(try simp only[execOp,Act.eval,List.map_toArray,List.map_cons,List.map_nil,al_gd])
   all_goals(try simp only[al_gs,al_gz,hsz,f2,f3,f4,f5,f6,f7,f8,Nat.reduceEqDiff,Nat.reduceLT,↓reduceIte,al_od])
   all_goals(have hlt:∀i,i<129->i<(Ts).size:=λi hi=>(by rw[hsz];exact hi))
   all_goals(clear hsz f2 f3 f4 f5 f6 f7 f8)
   all_goals(try go_simp)
   all_goals(try omega)
 simp only[putv,dstOf,al_gl,al_g0,al_g1,al_ob];obtain⟨T1,hT⟩:∃X,X=((Ts).setIfInBounds 46 (.int .i64 A.N)).setIfInBounds 47 (.int .i64 (0:Nat)):=⟨_,rfl⟩;rw[<-hT];have hT1:T1.size=129:=by rw[hT];simp[hsz]
 have T1_0:=sg2 hT f2;have T1_1:=sg2 hT f3;have T1_5:=sg2 hT f4;have T1_6:=sg2 hT f5;have T1_9:=sg2 hT f6;have T1_10:=sg2 hT f7;have T1_11:=sg2 hT f8;have T1_46:T1[46]?=some (.int .i64 A.N):=by rw[hT];simp[al_gs,hsz]
 have T1_47:T1[47]?=some (.int .i64 (0:Nat)):=by rw[hT];simp[al_gs,hsz]
 clear hT f2 f3 f4 f5 f6 f7 f8 hsz;refine hJ.ctl (s:=()) (λw=>stepG_region_end) ?_;refine hJ.ctl (s:=()) (λw=>stepG_block) ?_;refine hJ.ctl (s:=()) (λw=>stepG_loop) ?_;exact hm.out _ ⟨hT1,T1_0,T1_1,T1_5,T1_6,T1_9,T1_10,T1_11⟩ T1_46 T1_47
theorem glue17{Fin:Machine->Trace->Prop}(hFin:Back Try.prog Fin){A:OA}{B:Bx}{Kc:Addr->Option Value}{n:Nat}{inb:Nat->Option Seat}{w:World}{thr:Value}{p:Option Addr}{L C:Nat}{Ts:Array Value}(hF:Fr0 A B thr (.slice p L C) Ts)
 {b:Frame} (hb:b.kind≠.early) {ds:List Deferred} {K:List Item} {cs:List Frame}
 (hmain:∀Ts',Fr A B thr (.slice p L C) Ts'->Ts'[76]?=some (.slice p L C)->Ts'[77]?=some (.int .i64 L)->Ts'[78]?=some (.int .i64 (0:Nat))->HoldR Try.prog Fin Kc inb 0 n (G (b.at ⟨Ts',ds⟩ (.code lpC::.inLoop lpC::.inBlock 4::.code (overT 9)::K)) cs) w):
 HoldR Try.prog Fin Kc inb 0 n (G (b.at ⟨Ts,ds⟩ (.code (overT 7)::K)) cs) w:=by
 have hJ:=zq10 hFin Kc inb n;obtain⟨hsz,f2,f3,f4,f5,f6,f7,f8⟩:=hF;have hm:=Lib.hid hmain;clear hmain;rw[over7,over8];generalize overT 9=rest at hm |-;obtain⟨c1,hc1⟩:∃c,headC (headC (overT 8))=c:=⟨_,rfl⟩;have ed:=hc1;rw[hc1];simp only[overT,headC,tailN,Try.f54,al_od]at ed;subst ed;clear hc1;obtain⟨c0,hc0⟩:∃c,headC (overT 7)=c:=⟨_,rfl⟩;have ec:=hc0;rw[hc0];simp only[overT,headC,tailN,Try.f54,al_od]at ec;subst ec;clear hc0;refine hJ.ctl (s:=()) (λw=>stepG_seq) ?_;refine hJ.ctl (s:=()) (λw=>stepG_region) ?_;refine zqr (J:=λ(_:Unit)=>HoldR Try.prog Fin Kc inb 0 n) (s:=()) hJ hb 0 [stepV A B,stepV A B] [] rfl (by simp) (by rfl) ?_ ?_
 . intro τ d;simp only[zqo,dstOf,al_gl,al_g0,al_g1,al_ob];refine⟨?_,?_,trivial⟩<;>(intro o ho;simp only[al_oi]at ho;subst ho)
   all_goals(try simp only[execOp,Act.eval,Instr.makeFunc,stepV,List.map_toArray,List.map_cons,List.map_nil,al_gd])
   all_goals(try simp only[al_gs,al_gz,hsz,f2,f3,f4,f5,f6,f7,f8,Nat.reduceEqDiff,Nat.reduceLT,↓reduceIte,al_od])
   all_goals(have hlt:∀i,i<129->i<(Ts).size:=λi hi=>(by rw[hsz];exact hi))
   all_goals(clear hsz f2 f3 f4 f5 f6 f7 f8)
   all_goals(try go_simp)
   all_goals(try omega)
 simp only[putv,dstOf,al_gl,al_g0,al_g1,al_ob];obtain⟨T1,hT⟩:∃X,X=((Ts).setIfInBounds 75 (stepV A B)).setIfInBounds 13 (stepV A B):=⟨_,rfl⟩;rw[<-hT];have hT1:T1.size=129:=by rw[hT];simp[hsz]
 have T1_0:=sg2 hT f2;have T1_1:=sg2 hT f3;have T1_5:=sg2 hT f4;have T1_6:=sg2 hT f5;have T1_9:=sg2 hT f6;have T1_10:=sg2 hT f7;have T1_11:=sg2 hT f8;have T1_75:T1[75]?=some (stepV A B):=by rw[hT];simp[al_gs,hsz]
 have T1_13:T1[13]?=some (stepV A B):=by rw[hT];simp[al_gs,hsz]
 clear hT f2 f3 f4 f5 f6 f7 f8 hsz;refine hJ.ctl (s:=()) (λw=>stepG_region_end) ?_;refine hJ.ctl (s:=()) (λw=>stepG_seq) ?_;refine hJ.ctl (s:=()) (λw=>stepG_seq) ?_;refine hJ.ctl (s:=()) (λw=>stepG_region) ?_;refine zqr (J:=λ(_:Unit)=>HoldR Try.prog Fin Kc inb 0 n) (s:=()) hJ hb 0 [.slice p L C,.int .i64 L,.int .i64 (0:Nat)] [] rfl (by simp) (by rfl) ?_ ?_
 . intro τ d;simp only[zqo,dstOf,al_gl,al_g0,al_g1,al_ob];refine⟨?_,?_,?_,trivial⟩<;>(intro o ho;simp only[al_oi]at ho;subst ho)
   all_goals(try simp only[execOp,Act.eval,Instr.makeFunc,stepV,List.map_toArray,List.map_cons,List.map_nil,al_gd])
   all_goals(try simp only[al_gs,al_gz,hT1,T1_0,T1_1,T1_5,T1_6,T1_9,T1_10,T1_11,T1_75,T1_13,Nat.reduceEqDiff,Nat.reduceLT,↓reduceIte,al_od])
   all_goals(have hlt:∀i,i<129->i<(T1).size:=λi hi=>(by rw[hT1];exact hi))
   all_goals(clear hT1 T1_0 T1_1 T1_5 T1_6 T1_9 T1_10 T1_11 T1_75 T1_13)
   all_goals(try go_simp)
   all_goals(try omega)
 simp only[putv,dstOf,al_gl,al_g0,al_g1,al_ob];obtain⟨T2,hT⟩:∃X,X=(((T1).setIfInBounds 76 (.slice p L C)).setIfInBounds 77 (.int .i64 L)).setIfInBounds 78 (.int .i64 (0:Nat)):=⟨_,rfl⟩;rw[<-hT];have hT2:T2.size=129:=by rw[hT];simp[hT1]
 have T2_0:=sg3 hT T1_0;have T2_1:=sg3 hT T1_1;have T2_5:=sg3 hT T1_5;have T2_6:=sg3 hT T1_6;have T2_9:=sg3 hT T1_9;have T2_10:=sg3 hT T1_10;have T2_11:=sg3 hT T1_11;have T2_75:T2[75]?=some (stepV A B):=sg3 hT T1_75;have T2_13:T2[13]?=some (stepV A B):=sg3 hT T1_13;have T2_76:T2[76]?=some (.slice p L C):=by rw[hT];simp[al_gs,hT1]
 have T2_77:T2[77]?=some (.int .i64 L):=by rw[hT];simp[al_gs,hT1]
 have T2_78:T2[78]?=some (.int .i64 (0:Nat)):=by rw[hT];simp[al_gs,hT1]
 clear hT T1_0 T1_1 T1_5 T1_6 T1_9 T1_10 T1_11 T1_75 T1_13 hT1;refine hJ.ctl (s:=()) (λw=>stepG_region_end) ?_;refine hJ.ctl (s:=()) (λw=>stepG_block) ?_;refine hJ.ctl (s:=()) (λw=>stepG_loop) ?_;exact hm.out _ ⟨hT2,T2_0,T2_1,T2_5,T2_6,T2_9,T2_10,T2_11,T2_13⟩ T2_76 T2_77 T2_78
theorem glue29{Fin:Machine->Trace->Prop}(hFin:Back Try.prog Fin){A:OA}{B:Bx}{Kc:Addr->Option Value}{n:Nat}{inb:Nat->Option Seat}{w:World}{thr sch:Value}{left:Nat}{Ts:Array Value}(hF:Fr A B thr sch Ts)
 (cL:w.cell? ⟨B.bL,0,none⟩=some (.int .i64 left)) (cX:w.cell? ⟨A.bX,0,none⟩=some (.pointer (some ⟨A.bT,0,none⟩))) (cS:w.cell? ⟨A.bT,1,none⟩=some (.slice A.sp A.N A.cap))
 {b:Frame} (hb:b.kind≠.early) {ds:List Deferred} {K:List Item} {cs:List Frame}
 (hmain:∀Ts',Fr A B thr sch Ts'->Ts'[7]?=some (.bool (decide (0<left)))->Ts'[107]?=some (.slice A.sp A.N A.cap)->Ts'[108]?=some (.int .i64 A.N)->Ts'[109]?=some (.int .i64 (0:Nat))->HoldR Try.prog Fin Kc inb 0 n (G (b.at ⟨Ts',ds⟩ (.code lpF::.inLoop lpF::.inBlock 10::.code (overT 12)::K)) cs) w):
 HoldR Try.prog Fin Kc inb 0 n (G (b.at ⟨Ts,ds⟩ (.code (overT 10)::K)) cs) w:=by
 have hJ:=zq10 hFin Kc inb n;obtain⟨hsz,f2,f3,f4,f5,f6,f7,f8,f9⟩:=hF;have hm:=Lib.hid hmain;clear hmain;rw[over10,over11];generalize overT 12=rest at hm |-;obtain⟨c1,hc1⟩:∃c,headC (headC (overT 11))=c:=⟨_,rfl⟩;have ed:=hc1;rw[hc1];simp only[overT,headC,tailN,Try.f54,al_od]at ed;subst ed;clear hc1;obtain⟨c0,hc0⟩:∃c,headC (overT 10)=c:=⟨_,rfl⟩;have ec:=hc0;rw[hc0];simp only[overT,headC,tailN,Try.f54,al_od]at ec;subst ec;clear hc0;refine hJ.ctl (s:=()) (λw=>stepG_seq) ?_;refine hJ.ctl (s:=()) (λw=>stepG_region) ?_;refine zqr (J:=λ(_:Unit)=>HoldR Try.prog Fin Kc inb 0 n) (s:=()) hJ hb 0 [.int .i64 left,.bool (decide (0<left)),.bool (decide (0<left))] [] rfl (by simp) (by rfl) ?_ ?_
 . intro τ d;simp only[zqo,dstOf,al_gl,al_g0,al_g1,al_ob];refine⟨?_,?_,?_,trivial⟩<;>(intro o ho;simp only[al_oi]at ho;subst ho)
   all_goals(try simp only[execOp,Act.eval,List.map_toArray,List.map_cons,List.map_nil,al_gd])
   all_goals(try simp only[al_gs,al_gz,hsz,f2,f3,f4,f5,f6,f7,f8,f9,Nat.reduceEqDiff,Nat.reduceLT,↓reduceIte,al_od])
   all_goals(have hlt:∀i,i<129->i<(Ts).size:=λi hi=>(by rw[hsz];exact hi))
   all_goals(clear hsz f2 f3 f4 f5 f6 f7 f8 f9)
   all_goals(try go_simp)
   all_goals(try omega)
 simp only[putv,dstOf,al_gl,al_g0,al_g1,al_ob];obtain⟨T1,hT⟩:∃X,X=(((Ts).setIfInBounds 102 (.int .i64 left)).setIfInBounds 103 (.bool (decide (0<left)))).setIfInBounds 7 (.bool (decide (0<left))):=⟨_,rfl⟩;rw[<-hT];have hT1:T1.size=129:=by rw[hT];simp[hsz]
 have T1_0:=sg3 hT f2;have T1_1:=sg3 hT f3;have T1_5:=sg3 hT f4;have T1_6:=sg3 hT f5;have T1_9:=sg3 hT f6;have T1_10:=sg3 hT f7;have T1_11:=sg3 hT f8;have T1_13:T1[13]?=some (stepV A B):=sg3 hT f9;have T1_102:T1[102]?=some (.int .i64 left):=by rw[hT];simp[al_gs,hsz]
 have T1_103:T1[103]?=some (.bool (decide (0<left))):=by rw[hT];simp[al_gs,hsz]
 have T1_7:T1[7]?=some (.bool (decide (0<left))):=by rw[hT];simp[al_gs,hsz]
 clear hT f2 f3 f4 f5 f6 f7 f8 f9 hsz;refine hJ.ctl (s:=()) (λw=>stepG_region_end) ?_;refine hJ.ctl (s:=()) (λw=>stepG_seq) ?_;refine hJ.ctl (s:=()) (λw=>stepG_seq) ?_;refine hJ.ctl (s:=()) (λw=>stepG_region) ?_;clear cL;generalize decide (0<left)=stk at T1_7 T1_103 hm;refine zqr (J:=λ(_:Unit)=>HoldR Try.prog Fin Kc inb 0 n) (s:=()) hJ hb 0 [.pointer (some ⟨A.bT,0,none⟩),.pointer (some ⟨A.bT,0,none⟩),.pointer (some ⟨A.bT,1,none⟩),.slice A.sp A.N A.cap,.int .i64 A.N,.int .i64 (0:Nat)] [] rfl (by simp) (by rfl) ?_ ?_
 . intro τ d;simp only[zqo,dstOf,al_gl,al_g0,al_g1,al_ob];refine⟨?_,?_,?_,?_,?_,?_,trivial⟩<;>(intro o ho;simp only[al_oi]at ho;subst ho)
   all_goals(try simp only[execOp,Act.eval,List.map_toArray,List.map_cons,List.map_nil,al_gd])
   all_goals(try simp only[al_gs,al_gz,hT1,T1_0,T1_1,T1_5,T1_6,T1_9,T1_10,T1_11,T1_13,T1_102,T1_103,T1_7,Nat.reduceEqDiff,Nat.reduceLT,↓reduceIte,al_od])
   all_goals(have hlt:∀i,i<129->i<(T1).size:=λi hi=>(by rw[hT1];exact hi))
   all_goals(clear hT1 T1_0 T1_1 T1_5 T1_6 T1_9 T1_10 T1_11 T1_13 T1_102 T1_103 T1_7)
   all_goals(try go_simp)
   all_goals(try omega)
 simp only[putv,dstOf,al_gl,al_g0,al_g1,al_ob];obtain⟨T2,hT⟩:∃X,X=((((((T1).setIfInBounds 104 (.pointer (some ⟨A.bT,0,none⟩))).setIfInBounds 105 (.pointer (some ⟨A.bT,0,none⟩))).setIfInBounds 106 (.pointer (some ⟨A.bT,1,none⟩))).setIfInBounds 107 (.slice A.sp A.N A.cap)).setIfInBounds 108 (.int .i64 A.N)).setIfInBounds 109 (.int .i64 (0:Nat)):=⟨_,rfl⟩;rw[<-hT];have hT2:T2.size=129:=by rw[hT];simp[hT1]
 have T2_0:=sg6 hT T1_0;have T2_1:=sg6 hT T1_1;have T2_5:=sg6 hT T1_5;have T2_6:=sg6 hT T1_6;have T2_9:=sg6 hT T1_9;have T2_10:=sg6 hT T1_10;have T2_11:=sg6 hT T1_11;have T2_13:T2[13]?=some (stepV A B):=sg6 hT T1_13;have T2_102:=sg6 hT T1_102;have T2_103:=sg6 hT T1_103;have T2_7:=sg6 hT T1_7;have T2_104:T2[104]?=some (.pointer (some ⟨A.bT,0,none⟩)):=by rw[hT];simp[al_gs,hT1]
 have T2_105:T2[105]?=some (.pointer (some ⟨A.bT,0,none⟩)):=by rw[hT];simp[al_gs,hT1]
 have T2_106:T2[106]?=some (.pointer (some ⟨A.bT,1,none⟩)):=by rw[hT];simp[al_gs,hT1]
 have T2_107:T2[107]?=some (.slice A.sp A.N A.cap):=by rw[hT];simp[al_gs,hT1]
 have T2_108:T2[108]?=some (.int .i64 A.N):=by rw[hT];simp[al_gs,hT1]
 have T2_109:T2[109]?=some (.int .i64 (0:Nat)):=by rw[hT];simp[al_gs,hT1]
 clear hT T1_0 T1_1 T1_5 T1_6 T1_9 T1_10 T1_11 T1_13 T1_102 T1_103 T1_7 hT1;refine hJ.ctl (s:=()) (λw=>stepG_region_end) ?_;refine hJ.ctl (s:=()) (λw=>stepG_block) ?_;refine hJ.ctl (s:=()) (λw=>stepG_loop) ?_;exact hm.out _ ⟨hT2,T2_0,T2_1,T2_5,T2_6,T2_9,T2_10,T2_11,T2_13⟩ T2_7 T2_107 T2_108 T2_109
theorem glue19{Fin:Machine->Trace->Prop}(hFin:Back Try.prog Fin){A:OA}{B:Bx}{Kc:Addr->Option Value}{n:Nat}{inb:Nat->Option Seat}{w:World}{Ts:Array Value}{b:Frame}{ds:List Deferred}{K:List Item}{cs:List Frame}
 (hmain:HoldR Try.prog Fin Kc inb 0 n (G (b.at ⟨Ts,ds⟩ (.code lpD::.inLoop lpD::.inBlock 6::.code (overT 10)::K)) cs) w):
 HoldR Try.prog Fin Kc inb 0 n (G (b.at ⟨Ts,ds⟩ (.code (overT 9)::K)) cs) w:=by
 have hJ:=zq10 hFin Kc inb n;rw[over9];refine hJ.ctl (s:=()) (λw=>stepG_seq) ?_;refine hJ.ctl (s:=()) (λw=>stepG_block) ?_;exact hJ.ctl (s:=()) (λw=>stepG_loop) hmain
end
end Go.Proofs
namespace Go.Proofs
open Go Go.Conc Go.RowKit Go.Car
theorem zqej{w:World}{b off:Nat}{v:Value}(h:w.cell? ⟨b,off,none⟩=some v):w.setCell ⟨b,off,none⟩ v=w:=by
 obtain⟨heap,tape,drawn,os,output⟩:=w;simp only[World.setCell,World.mk.injEq,and_true];apply Array.ext_getElem?;intro x;rw[Array.getElem?_modify];split
 . rename_i e;subst e;simp only[World.cell?]at h;cases hb:heap[b]? with
   |none=>rfl
   |some o=>
    rw[hb]at h;cases o<;>simp only[reduceCtorEq,Option.isSome_none,Bool.false_eq_true,if_false]at h;rename_i c t f;simp only[Option.map_some,Option.isSome_none,Bool.false_eq_true,if_false];rw[show c.setIfInBounds off v=c from ?_];apply Array.ext_getElem?;intro y;rw[al_gs];split
    . rename_i e;subst e;rw[h];split
      . rfl
      . rename_i hlt;rw[Array.getElem?_eq_none (by omega)]at h;cases h
    . rfl
 . rfl
theorem over_end{Fin:Machine->Trace->Prop}(hFin:Back Try.prog Fin){n:Nat}{A:OA}{B:Bx}{thr sch:Value}{stuck:Bool}{p:Option Addr}{len cap:Nat}{w:World}{Ts:Array Value}(hF:Fr A B thr sch Ts)(f10:Ts[7]?=some (.bool stuck))
 (cO:w.cell? ⟨B.bO,0,none⟩=some (.slice p len cap)) (zO:w.frozen? ⟨B.bO,0,none⟩=false) (cX:w.cell? ⟨A.bX,0,none⟩=some (.pointer (some ⟨A.bT,0,none⟩))) (cB:w.cell? ⟨A.bT,2,none⟩=some (.slice (some ⟨A.bB,0,none⟩) A.N A.capB)) {c:Frame} {cs:List Frame}
 (hmain:J0 Try.prog Fin n (G (c.finish (.tuple #[.slice p len cap,.bool stuck,.slice (some ⟨A.bB,0,none⟩) A.N A.capB])) cs) w):
 J0 Try.prog Fin n (G ((bN 54).at ⟨Ts,[]⟩ [.code (overT 12)]) (c::cs)) w:=by
 have hJ:=j0_JS hFin;have hb:(bN 54).kind≠.early:=by decide
 have hsame:∀τ d,(re w τ d).setCell ⟨B.bO,0,none⟩ (.slice p len cap)=re w τ d:=λτ d=>by rw[zq1w,zqej cO]
 obtain⟨hsz,f2,f3,f4,f5,f6,f7,f8,f9⟩:=hF;have hT:∃T,T=((((((Ts.setIfInBounds 123 (.slice p len cap)).setIfInBounds 124 (.bool stuck)).setIfInBounds 125 (.pointer (some ⟨A.bT,0,none⟩))).setIfInBounds 126 (.pointer (some ⟨A.bT,0,none⟩))).setIfInBounds 127 (.pointer (some ⟨A.bT,2,none⟩))).setIfInBounds 128 (.slice (some ⟨A.bB,0,none⟩) A.N A.capB)).setIfInBounds 8 (.slice (some ⟨A.bB,0,none⟩) A.N A.capB):=⟨_,rfl⟩;obtain⟨T,hT⟩:=hT;have hTs:T.size=129:=by rw[hT];simp[hsz]
 have g0:∀t,t≠123->t≠124->t≠125->t≠126->t≠127->t≠128->t≠8->T[t]?=Ts[t]?:=λt h1 h2 h3 h4 h5 h6 h7=>by rw[hT];simp only[al_gs];repeat (first|rw[if_neg (by omega)]|rfl)
 have g123:T[123]?=some (.slice p len cap):=by rw[hT];simp[al_gs,hsz]
 have g124:T[124]?=some (.bool stuck):=by rw[hT];simp[al_gs,hsz]
 have g125:T[125]?=some (.pointer (some ⟨A.bT,0,none⟩)):=by rw[hT];simp[al_gs,hsz]
 have g126:T[126]?=some (.pointer (some ⟨A.bT,0,none⟩)):=by rw[hT];simp[al_gs,hsz]
 have g127:T[127]?=some (.pointer (some ⟨A.bT,2,none⟩)):=by rw[hT];simp[al_gs,hsz]
 have g128:T[128]?=some (.slice (some ⟨A.bB,0,none⟩) A.N A.capB):=by rw[hT];simp[al_gs,hsz]
 have g8:T[8]?=some (.slice (some ⟨A.bB,0,none⟩) A.N A.capB):=by rw[hT];simp[al_gs,hsz]
 have g6:T[6]?=some (.pointer (some ⟨B.bO,0,none⟩)):=(g0 6 (by omega) (by omega) (by omega) (by omega) (by omega) (by omega) (by omega)).trans f5;have g7:T[7]?=some (.bool stuck):=(g0 7 (by omega) (by omega) (by omega) (by omega) (by omega) (by omega) (by omega)).trans f10;have g10:T[10]?=some (.pointer (some ⟨A.bX,0,none⟩)):=(g0 10 (by omega) (by omega) (by omega) (by omega) (by omega) (by omega) (by omega)).trans f7;clear hT;rw[over12];obtain⟨c0,hc0⟩:∃c,headC (overT 12)=c:=⟨_,rfl⟩;have ec:=hc0;rw[hc0];simp only[overT,headC,tailN,Try.f54,al_od]at ec;subst ec;clear hc0;refine hJ.ctl (s:=n) (λw=>stepG_seq) ?_;refine at_idle hJ hb (by rfl) [7] T (by rw[hsz];kernel_rfl) (hTs.trans hsz.symm) (λt ht=>?_) (λt ht=>?_) ?_ ?_
 . simp only[List.mem_singleton]at ht;subst ht;exact f10.trans g7.symm
 . have d:∀i x,i<9->dstOf _ i=some x->t≠x:=λi x hi hd e=>ht i hi (by rw[e];exact hd);exact g0 t (d 0 123 (by omega) rfl) (d 1 124 (by omega) rfl) (d 2 125 (by omega) rfl) (d 3 126 (by omega) rfl) (d 4 127 (by omega) rfl) (d 5 128 (by omega) rfl) (d 8 8 (by omega) rfl)
 . intro i o hi ho;have hi9:i=0\/i=1\/i=2\/i=3\/i=4\/i=5\/i=6\/i=7\/i=8:=by have:i<9:=hi;omega
   rcases hi9 with rfl |rfl |rfl |rfl |rfl |rfl |rfl |rfl |rfl<;>(simp only[al_gl,al_g0,al_g1,al_oi]at ho;subst ho)
   case inr.inr.inr.inr.inr.inr.inl=>
    refine .inr ⟨rfl,λτ dd=>?_⟩;have hs:=hsame τ dd;simp only[execOp,Act.eval,al_gd,g123,g6,al_od];clear hmain hsame;go_simp
   . exact .inl ⟨_,_,rfl,g123,λτ dd=>by simp only[execOp,Act.eval,al_gd,g6,al_od];clear hmain hsame;go_simp⟩
   . exact .inl ⟨_,_,rfl,g124,λτ dd=>by simp only[execOp,Act.eval,al_gd,g7,al_od];clear hmain hsame;go_simp⟩
   . exact .inl ⟨_,_,rfl,g125,λτ dd=>by simp only[execOp,Act.eval,al_gd,g10,al_od];clear hmain hsame;go_simp⟩
   . exact .inl ⟨_,_,rfl,g126,λτ dd=>by simp only[execOp,Act.eval,al_gd,g125,al_od];clear hmain hsame;go_simp⟩
   . exact .inl ⟨_,_,rfl,g127,λτ dd=>by simp only[execOp,Act.eval,al_gd,g126,al_od];clear hmain hsame;go_simp⟩
   . exact .inl ⟨_,_,rfl,g128,λτ dd=>by simp only[execOp,Act.eval,al_gd,g127,al_od];clear hmain hsame;go_simp⟩
   . exact .inl ⟨_,_,rfl,g7,λτ dd=>by simp only[execOp,Act.eval,al_gd,g124,al_od];clear hmain hsame;go_simp⟩
   . exact .inl ⟨_,_,rfl,g8,λτ dd=>by simp only[execOp,Act.eval,al_gd,g128,al_od];clear hmain hsame;go_simp⟩
 refine hJ.ctl (s:=n) (λw=>stepG_region_end) ?_;refine hJ.ctl (s:=n) (λw=>stepG_ret') ?_;refine zq2b hJ (b:=bN 54) rfl rfl Try.func54 (λτ d=>?_) hmain;simp only[results,Try.f54];have k1:(re w τ d).cell? ⟨B.bO,0,none⟩=some (.slice p len cap):=cO;simp[go_sem,al_gd,g6,g7,g8,k1]
end Go.Proofs
namespace Go.Proofs
open Go Go.Conc Go.RowKit Go.Car
open Go.ConcN (upd upd_ne upd_same)
def heldI(x m:Int):Int:=if m<(if x<0 then 0 else x)then m else(if x<0 then 0 else x)
theorem zqch(x:Int)(m:Nat):heldI x m=((min x.toNat m:Nat):Int):=by
 unfold heldI;split<;>split at * <;>omega
section
variable {Kc:Addr->Option Value} {γ:Type} {J:γ->Goroutine->World->Prop}
theorem zqci{main:Bool}(hJ:JS Try.prog main Kc J){s:γ}{w:World}{x m:Int}{c:Frame}{cs:List Frame}(hmain:J s (G (c.finish (.int .i64 (heldI x m))) cs) w):
 J s (G (Frame.enter Try.prog 59 #[.int .i64 x,.int .i64 m] .normal) (c::cs)) w:=by
 have e:Frame.enter Try.prog 59 #[.int .i64 x,.int .i64 m] .normal=(bN 59).at (zqm Try.f59 #[.int .i64 x,.int .i64 m]) [.code ((Try.f59.body).getD .skip)]:=rfl;rw[e];have hm:=Lib.hid hmain;clear hmain;obtain⟨Ts,hT⟩:∃X,X=(zqm Try.f59 #[.int .i64 x,.int .i64 m]).tmps:=⟨_,rfl⟩;have hsz:Ts.size=9:=by rw[hT];rfl
 have f0:Ts[0]?=some (.int .i64 x):=by rw[hT];rfl
 have f1:Ts[1]?=some (.int .i64 m):=by rw[hT];rfl
 have eA:zqm Try.f59 #[.int .i64 x,.int .i64 m]=⟨Ts,[]⟩:=by rw[hT];rfl
 rw[eA];clear eA hT;simp only[Try.f59,al_od];refine hJ.ctl (s:=s) (λw=>stepG_seq) ?_;refine hJ.ctl (s:=s) (λw=>stepG_region) ?_;refine zqr (J:=J) (s:=s) hJ (by decide) 0 [.int .i64 0] [] rfl (by simp) (by rfl) ?_ ?_
 . intro τ d;simp only[zqo,dstOf,al_gl,al_g0,al_g1,al_ob];refine⟨?_,trivial⟩<;>(intro o ho;simp only[al_oi]at ho;subst ho)
   all_goals(try simp only[execOp,Act.eval,List.map_toArray,List.map_cons,List.map_nil,al_gd])
   all_goals(try simp only[al_gs,al_gz,hsz,f0,f1,Nat.reduceEqDiff,Nat.reduceLT,↓reduceIte,al_od])
   all_goals(have hlt:∀i,i<9->i<(Ts).size:=λi hi=>(by rw[hsz];exact hi))
   all_goals(clear hsz f0 f1)
   all_goals(try go_simp)
   all_goals(try omega)
 simp only[putv,dstOf,al_gl,al_g0,al_g1,al_ob];obtain⟨T1,hT⟩:∃X,X=(Ts).setIfInBounds 4 (.int .i64 0):=⟨_,rfl⟩;rw[<-hT];have hT1:T1.size=9:=by rw[hT];simp[hsz]
 have T1_0:=sg1 hT f0;have T1_1:=sg1 hT f1;have T1_4:T1[4]?=some (.int .i64 0):=by rw[hT];simp[al_gs,hsz]
 clear hT f0 f1 hsz;refine hJ.ctl (s:=s) (λw=>stepG_region_end) ?_;refine hJ.ctl (s:=s) (λw=>stepG_seq) ?_;refine hJ.ctl (s:=s) (λw=>stepG_region) ?_;refine zqr (J:=J) (s:=s) hJ (by decide) 0 [.int .i64 x,.int .i64 (if x<0 then 0 else x),.int .i64 m,.int .i64 (if m<(if x<0 then 0 else x)then m else(if x<0 then 0 else x)),.int .i64 (if m<(if x<0 then 0 else x)then m else(if x<0 then 0 else x))] [] rfl (by simp) (by rfl) ?_ ?_
 . intro τ d;simp only[zqo,dstOf,al_gl,al_g0,al_g1,al_ob];refine⟨?_,?_,?_,?_,?_,trivial⟩<;>(intro o ho;simp only[al_oi]at ho;subst ho)
   all_goals(try simp only[execOp,Act.eval,List.map_toArray,List.map_cons,List.map_nil,al_gd])
   all_goals(try simp only[al_gs,al_gz,hT1,T1_0,T1_1,T1_4,Nat.reduceEqDiff,Nat.reduceLT,↓reduceIte,al_od])
   all_goals(have hlt:∀i,i<9->i<(T1).size:=λi hi=>(by rw[hT1];exact hi))
   all_goals(clear hT1 T1_0 T1_1 T1_4)
   all_goals(try go_simp)
   all_goals(try omega)
 simp only[putv,dstOf,al_gl,al_g0,al_g1,al_ob];obtain⟨T2,hT⟩:∃X,X=(((((T1).setIfInBounds 5 (.int .i64 x)).setIfInBounds 6 (.int .i64 (if x<0 then 0 else x))).setIfInBounds 7 (.int .i64 m)).setIfInBounds 8 (.int .i64 (if m<(if x<0 then 0 else x)then m else(if x<0 then 0 else x)))).setIfInBounds 4 (.int .i64 (if m<(if x<0 then 0 else x)then m else(if x<0 then 0 else x))):=⟨_,rfl⟩;rw[<-hT];have hT2:T2.size=9:=by rw[hT];simp[hT1]
 have T2_0:=sg5 hT T1_0;have T2_1:=sg5 hT T1_1;have T2_5:T2[5]?=some (.int .i64 x):=by rw[hT];simp[al_gs,hT1]
 have T2_6:T2[6]?=some (.int .i64 (if x<0 then 0 else x)):=by rw[hT];simp[al_gs,hT1]
 have T2_7:T2[7]?=some (.int .i64 m):=by rw[hT];simp[al_gs,hT1]
 have T2_8:T2[8]?=some (.int .i64 (if m<(if x<0 then 0 else x)then m else(if x<0 then 0 else x))):=by rw[hT];simp[al_gs,hT1]
 have T2_4:T2[4]?=some (.int .i64 (if m<(if x<0 then 0 else x)then m else(if x<0 then 0 else x))):=by rw[hT];simp[al_gs,hT1]
 clear hT T1_0 T1_1 T1_4 hT1;refine hJ.ctl (s:=s) (λw=>stepG_region_end) ?_;refine hJ.ctl (s:=s) (λw=>stepG_ret') ?_;refine zq2b hJ (b:=bN 59) rfl rfl Try.func59 (λτ d=>?_) hm.out;simp[results,Try.f59,al_gd,T2_4,heldI]
end
theorem over0:Try.f54.body=some (.seq (headC (overT 0)) (.seq (headC (overT 1)) (.seq (headC (overT 2)) (overT 3)))):=by kernel_rfl
theorem zqdo{Fin:Machine->Trace->Prop}(hFin:Back Try.prog Fin){n:Nat}{p:Option Addr}{L C:Nat}{sch:Value}{mo:Int}{w:World}{c:Frame}{cs:List Frame}
 (hmain:∀(T:Array Value)(w':World),T.size=129->T[0]?=some (.slice p L C)->T[1]?=some sch->T[5]?=some (.pointer (some ⟨w.heap.size,0,none⟩))->T[6]?=some (.pointer (some ⟨w.heap.size+1,0,none⟩))->T[7]?=some (.bool false)->T[9]?=some (.pointer (some ⟨w.heap.size+2,0,none⟩))->
  w'.heap.size=w.heap.size+3->(∀b,b<w.heap.size->w'.heap[b]?=w.heap[b]?)->w'.heap[w.heap.size]?=some (.cells #[.int .i64 (heldI mo 1048576)] 3)->w'.heap[w.heap.size+1]?=some (.cells #[.slice none 0 0] 24)->w'.heap[w.heap.size+2]?=some (.cells #[.int .i64 (if(64:Int)<(L:Int)then 64 else(L:Int))] 3)->
  J0 Try.prog Fin n (G ((bN 54).at ⟨T,[]⟩ [.code (overT 3)]) (c::cs)) w'):
 J0 Try.prog Fin n (G (Frame.enter Try.prog 54 #[.slice p L C,sch,.int .i64 mo] .normal) (c::cs)) w:=by
 have hJ:=j0_JS hFin;have e:Frame.enter Try.prog 54 #[.slice p L C,sch,.int .i64 mo] .normal=(bN 54).at (zqm Try.f54 #[.slice p L C,sch,.int .i64 mo]) [.code ((Try.f54.body).getD .skip)]:=rfl;rw[e];obtain⟨B0,hs⟩:∃B0,w.heap.size=B0:=⟨_,rfl⟩;have hs':w.heap.size=B0:=hs;rw[hs']at hmain;have hm:=Lib.hid hmain;clear hmain hs';obtain⟨Ts,hT⟩:∃X,X=(zqm Try.f54 #[.slice p L C,sch,.int .i64 mo]).tmps:=⟨_,rfl⟩;have hsz:Ts.size=129:=by rw[hT];kernel_rfl
 have f0:Ts[0]?=some (.slice p L C):=by rw[hT];kernel_rfl
 have f1:Ts[1]?=some sch:=by rw[hT];kernel_rfl
 have f2:Ts[2]?=some (.int .i64 mo):=by rw[hT];kernel_rfl
 have eA:zqm Try.f54 #[.slice p L C,sch,.int .i64 mo]=⟨Ts,[]⟩:=by rw[hT];kernel_rfl
 rw[eA,over0,al_od];clear eA hT e;have ho:∀b,b<B0->w.heap[b]?=w.heap[b]?:=λ_ _=>rfl;generalize overT 3=rest at hm |-;obtain⟨c0,hc0⟩:∃c,headC (overT 0)=c:=⟨_,rfl⟩;obtain⟨c1,hc1⟩:∃c,headC (overT 1)=c:=⟨_,rfl⟩;obtain⟨c2,hc2⟩:∃c,headC (overT 2)=c:=⟨_,rfl⟩;have ec0:=hc0;have ec1:=hc1;have ec2:=hc2;rw[hc0,hc1,hc2];simp only[overT,headC,tailN,Try.f54,al_od]at ec0 ec1 ec2;subst ec0 ec1 ec2;clear hc0 hc1 hc2;refine hJ.ctl (s:=n) (λw=>stepG_seq) ?_;refine hJ.ctl (s:=n) (λw=>stepG_region) ?_;refine zq2m hJ (by decide) (s:=n) (i:=0) (rest:=[1,2,3]) rfl rfl rfl rfl λτ dd=>?_;refine⟨.pointer (some ⟨B0,0,none⟩),re (w.alloc (.cells #[.int .i64 mo] 3)) τ dd,?_,?_⟩
 . simp only[List.getElem_toArray,List.getElem_cons_zero,List.getElem_cons_succ,execOp,Act.eval,List.map_toArray,List.map_cons,List.map_nil,al_gd,hsz,f0,f1,f2,al_od];clear hsz f0 f1 f2
   (go_simp)
   all_goals(first|rfl |(simp[hs];done)|skip)
 refine hJ.re' _ _ _ τ dd ?_;generalize hw:w.alloc (.cells #[.int .i64 mo] 3)=w1;have hsw1:w1.heap.size=B0+1:=by rw[<-hw,zq8,hs]
 have how1:∀b,b<B0->w1.heap[b]?=w.heap[b]?:=λb hb=>by rw[<-hw,zqc,if_neg (by omega)];try exact ho b hb
 have b0w1:w1.heap[B0]?=some (.cells #[.int .i64 mo] 3):=by rw[<-hw,zqc,if_pos (by omega)]
 clear hw hs ho;obtain⟨T1,hT⟩:∃X,X=(Ts).setIfInBounds 5 (.pointer (some ⟨B0,0,none⟩)):=⟨_,rfl⟩;rw[<-hT];have hT1:T1.size=129:=by rw[hT];simp[hsz]
 have T1_0:=sg1 hT f0;have T1_1:=sg1 hT f1;have T1_2:=sg1 hT f2;have T1_5:T1[5]?=some (.pointer (some ⟨B0,0,none⟩)):=by rw[hT];simp[al_gs,hsz]
 clear hT f0 f1 f2 hsz;refine zq2m hJ (by decide) (s:=n) (i:=1) (rest:=[2,3]) rfl rfl rfl rfl λτ dd=>?_;refine⟨.pointer (some ⟨B0+1,0,none⟩),re (w1.alloc (.cells #[.slice none 0 0] 24)) τ dd,?_,?_⟩
 . simp only[List.getElem_toArray,List.getElem_cons_zero,List.getElem_cons_succ,execOp,Act.eval,List.map_toArray,List.map_cons,List.map_nil,al_gd,hT1,T1_0,T1_1,T1_2,T1_5,al_od];clear hT1 T1_0 T1_1 T1_2 T1_5
   (go_simp)
   all_goals(first|rfl |(simp[hsw1];done)|skip)
 refine hJ.re' _ _ _ τ dd ?_;generalize hw:w1.alloc (.cells #[.slice none 0 0] 24)=w2;have hsw2:w2.heap.size=B0+2:=by rw[<-hw,zq8,hsw1]
 have how2:∀b,b<B0->w2.heap[b]?=w.heap[b]?:=λb hb=>by rw[<-hw,zqc,if_neg (by omega)];try exact how1 b hb
 have b0w2:w2.heap[B0]?=some (.cells #[.int .i64 mo] 3):=by rw[<-hw,zqc,if_neg (by omega)];exact b0w1
 have b1w2:w2.heap[B0+1]?=some (.cells #[.slice none 0 0] 24):=by rw[<-hw,zqc,if_pos (by omega)]
 clear hw b0w1 hsw1 how1;obtain⟨T2,hT⟩:∃X,X=(T1).setIfInBounds 6 (.pointer (some ⟨B0+1,0,none⟩)):=⟨_,rfl⟩;rw[<-hT];have hT2:T2.size=129:=by rw[hT];simp[hT1]
 have T2_0:=sg1 hT T1_0;have T2_1:=sg1 hT T1_1;have T2_2:=sg1 hT T1_2;have T2_5:=sg1 hT T1_5;have T2_6:T2[6]?=some (.pointer (some ⟨B0+1,0,none⟩)):=by rw[hT];simp[al_gs,hT1]
 clear hT T1_0 T1_1 T1_2 T1_5 hT1;refine zq2m hJ (by decide) (s:=n) (i:=2) (rest:=[3]) rfl rfl rfl rfl λτ dd=>?_;refine⟨.bool false,re w2 τ dd,?_,?_⟩
 . simp only[List.getElem_toArray,List.getElem_cons_zero,List.getElem_cons_succ,execOp,Act.eval,List.map_toArray,List.map_cons,List.map_nil,al_gd,hT2,T2_0,T2_1,T2_2,T2_5,T2_6,al_od];clear hT2 T2_0 T2_1 T2_2 T2_5 T2_6
   (go_simp)
   all_goals(first|rfl |(simp[hsw2];done)|skip)
 refine hJ.re' _ _ _ τ dd ?_;obtain⟨T3,hT⟩:∃X,X=(T2).setIfInBounds 7 (.bool false):=⟨_,rfl⟩;rw[<-hT];have hT3:T3.size=129:=by rw[hT];simp[hT2]
 have T3_0:=sg1 hT T2_0;have T3_1:=sg1 hT T2_1;have T3_2:=sg1 hT T2_2;have T3_5:=sg1 hT T2_5;have T3_6:=sg1 hT T2_6;have T3_7:T3[7]?=some (.bool false):=by rw[hT];simp[al_gs,hT2]
 clear hT T2_0 T2_1 T2_2 T2_5 T2_6 hT2;refine zq2m hJ (by decide) (s:=n) (i:=3) (rest:=[]) rfl rfl rfl rfl λτ dd=>?_;refine⟨.slice none 0 0,re w2 τ dd,?_,?_⟩
 . simp only[List.getElem_toArray,List.getElem_cons_zero,List.getElem_cons_succ,execOp,Act.eval,List.map_toArray,List.map_cons,List.map_nil,al_gd,hT3,T3_0,T3_1,T3_2,T3_5,T3_6,T3_7,al_od];clear hT3 T3_0 T3_1 T3_2 T3_5 T3_6 T3_7
   (go_simp)
   all_goals(first|rfl |(simp[hsw2];done)|skip)
 refine hJ.re' _ _ _ τ dd ?_;obtain⟨T4,hT⟩:∃X,X=(T3).setIfInBounds 8 (.slice none 0 0):=⟨_,rfl⟩;rw[<-hT];have hT4:T4.size=129:=by rw[hT];simp[hT3]
 have T4_0:=sg1 hT T3_0;have T4_1:=sg1 hT T3_1;have T4_2:=sg1 hT T3_2;have T4_5:=sg1 hT T3_5;have T4_6:=sg1 hT T3_6;have T4_7:=sg1 hT T3_7;have T4_8:T4[8]?=some (.slice none 0 0):=by rw[hT];simp[al_gs,hT3]
 clear hT T3_0 T3_1 T3_2 T3_5 T3_6 T3_7 hT3;refine hJ.ctl (s:=n) (λw=>stepG_region_end) ?_;refine hJ.ctl (s:=n) (λw=>stepG_seq) ?_;refine hJ.ctl (s:=n) (λw=>stepG_region) ?_;refine zqr (s:=n) hJ (by decide) 0 [.slice p L C,.int .i64 L,.int .i64 (if(64:Int)<(L:Int)then 64 else(L:Int))] [3,4] rfl (by simp) (by rfl) ?_ ?_
 . intro τ d;simp only[zqo,dstOf,al_gl,al_g0,al_g1,al_ob];refine⟨?_,?_,?_,trivial⟩<;>(intro o ho;simp only[al_oi]at ho;subst ho)
   all_goals(try simp only[execOp,Act.eval,List.map_toArray,List.map_cons,List.map_nil,al_gd])
   all_goals(try simp only[al_gs,al_gz,hT4,T4_0,T4_1,T4_2,T4_5,T4_6,T4_7,Nat.reduceEqDiff,Nat.reduceLT,↓reduceIte,al_od])
   all_goals(have hlt:∀i,i<129->i<(T4).size:=λi hi=>(by rw[hT4];exact hi))
   all_goals(clear hT4 T4_0 T4_1 T4_2 T4_5 T4_6 T4_7)
   all_goals(try go_simp)
   all_goals(try omega)
 simp only[putv,dstOf,al_gl,al_g0,al_g1,al_ob];obtain⟨T5,hT⟩:∃X,X=(((T4).setIfInBounds 19 (.slice p L C)).setIfInBounds 20 (.int .i64 L)).setIfInBounds 21 (.int .i64 (if(64:Int)<(L:Int)then 64 else(L:Int))):=⟨_,rfl⟩;rw[<-hT];have hT5:T5.size=129:=by rw[hT];simp[hT4]
 have T5_0:=sg3 hT T4_0;have T5_1:=sg3 hT T4_1;have T5_2:=sg3 hT T4_2;have T5_5:=sg3 hT T4_5;have T5_6:=sg3 hT T4_6;have T5_7:=sg3 hT T4_7;have T5_19:T5[19]?=some (.slice p L C):=by rw[hT];simp[al_gs,hT4]
 have T5_20:T5[20]?=some (.int .i64 L):=by rw[hT];simp[al_gs,hT4]
 have T5_21:T5[21]?=some (.int .i64 (if(64:Int)<(L:Int)then 64 else(L:Int))):=by rw[hT];simp[al_gs,hT4]
 clear hT T4_0 T4_1 T4_2 T4_5 T4_6 T4_7 hT4;refine zq2m hJ (by decide) (s:=n) (i:=3) (rest:=[4]) rfl rfl rfl rfl λτ dd=>?_;refine⟨.pointer (some ⟨B0+2,0,none⟩),re (w2.alloc (.cells #[.int .i64 0] 3)) τ dd,?_,?_⟩
 . simp only[List.getElem_toArray,List.getElem_cons_zero,List.getElem_cons_succ,execOp,Act.eval,List.map_toArray,List.map_cons,List.map_nil,al_gd,hT5,T5_0,T5_1,T5_2,T5_5,T5_6,T5_7,T5_19,T5_20,T5_21,al_od];clear hT5 T5_0 T5_1 T5_2 T5_5 T5_6 T5_7 T5_19 T5_20 T5_21
   (go_simp)
   all_goals(first|rfl |(simp[hsw2];done)|skip)
 refine hJ.re' _ _ _ τ dd ?_;generalize hw:w2.alloc (.cells #[.int .i64 0] 3)=w3;have hsw3:w3.heap.size=B0+3:=by rw[<-hw,zq8,hsw2]
 have how3:∀b,b<B0->w3.heap[b]?=w.heap[b]?:=λb hb=>by rw[<-hw,zqc,if_neg (by omega)];try exact how2 b hb
 have b0w3:w3.heap[B0]?=some (.cells #[.int .i64 mo] 3):=by rw[<-hw,zqc,if_neg (by omega)];exact b0w2
 have b1w3:w3.heap[B0+1]?=some (.cells #[.slice none 0 0] 24):=by rw[<-hw,zqc,if_neg (by omega)];exact b1w2
 have b2w3:w3.heap[B0+2]?=some (.cells #[.int .i64 0] 3):=by rw[<-hw,zqc,if_pos (by omega)]
 clear hw b0w2 b1w2 hsw2 how2;obtain⟨T6,hT⟩:∃X,X=(T5).setIfInBounds 9 (.pointer (some ⟨B0+2,0,none⟩)):=⟨_,rfl⟩;rw[<-hT];have hT6:T6.size=129:=by rw[hT];simp[hT5]
 have T6_0:=sg1 hT T5_0;have T6_1:=sg1 hT T5_1;have T6_5:=sg1 hT T5_5;have T6_6:=sg1 hT T5_6;have T6_7:=sg1 hT T5_7;have T6_21:=sg1 hT T5_21;have T6_9:T6[9]?=some (.pointer (some ⟨B0+2,0,none⟩)):=by rw[hT];simp[al_gs,hT5]
 clear hT T5_0 T5_1 T5_2 T5_5 T5_6 T5_7 T5_19 T5_20 T5_21 hT5;have cS:=(zq1 (off:=0) b2w3).trans rfl;have zS:=zqh (off:=0) b2w3;refine zq4d hJ (by decide) (s:=n) (i:=4) (rest:=[]) rfl rfl rfl rfl λτ dd=>?_;refine⟨re (w3.setCell ⟨B0+2,0,none⟩ (.int .i64 (if(64:Int)<(L:Int)then 64 else(L:Int)))) τ dd,?_,?_⟩
 . simp only[List.getElem_toArray,List.getElem_cons_zero,List.getElem_cons_succ,execOp,Act.eval,List.map_toArray,List.map_cons,List.map_nil,al_gd,hT6,T6_0,T6_1,T6_5,T6_6,T6_7,T6_21,T6_9,al_od];clear hT6 T6_0 T6_1 T6_5 T6_6 T6_7 T6_21 T6_9
   (go_simp)
   all_goals(first|rfl |(simp[hsw3];done)|skip)
 refine hJ.re' _ _ _ τ dd ?_;have hq:=zqy w3 (B0+2) 0 (.int .i64 (if(64:Int)<(L:Int)then 64 else(L:Int))) b2w3;generalize hw:w3.setCell ⟨B0+2,0,none⟩ (.int .i64 (if(64:Int)<(L:Int)then 64 else(L:Int)))=w4 at hq;have hsw4:w4.heap.size=B0+3:=by rw[<-hw,zqz,hsw3]
 have how4:∀b,b<B0->w4.heap[b]?=w.heap[b]?:=λb hb=>by rw[<-hw,zql _ _ _ _ (by show b≠B0+2;omega)];exact how3 b hb
 have b0w4:w4.heap[B0]?=some (.cells #[.int .i64 mo] 3):=by rw[<-hw,zql _ _ _ _ (by show B0≠B0+2;omega)];exact b0w3
 have b1w4:w4.heap[B0+1]?=some (.cells #[.slice none 0 0] 24):=by rw[<-hw,zql _ _ _ _ (by show B0+1≠B0+2;omega)];exact b1w3
 have b2w4:w4.heap[B0+2]?=some (.cells #[.int .i64 (if(64:Int)<(L:Int)then 64 else(L:Int))] 3):=hq.trans (by rfl);clear hw hq cS zS b0w3 b1w3 b2w3 hsw3 how3;refine hJ.ctl (s:=n) (λw=>stepG_region_end) ?_;refine hJ.ctl (s:=n) (λw=>stepG_seq) ?_;refine hJ.ctl (s:=n) (λw=>stepG_region) ?_;have cb0w4:=(zq1 (off:=0) b0w4).trans rfl;have zb0w4:=zqh (off:=0) b0w4;have cb1w4:=(zq1 (off:=0) b1w4).trans rfl;have zb1w4:=zqh (off:=0) b1w4;have cb2w4:=(zq1 (off:=0) b2w4).trans rfl;have zb2w4:=zqh (off:=0) b2w4;refine zqr (s:=n) hJ (by decide) 0 [.int .i64 mo] [1,2] rfl (by simp) (by rfl) ?_ ?_
 . intro τ d;simp only[zqo,dstOf,al_gl,al_g0,al_g1,al_ob];refine⟨?_,trivial⟩<;>(intro o ho;simp only[al_oi]at ho;subst ho)
   all_goals(try simp only[execOp,Act.eval,List.map_toArray,List.map_cons,List.map_nil,al_gd])
   all_goals(try simp only[al_gs,al_gz,hT6,T6_0,T6_1,T6_5,T6_6,T6_7,T6_9,Nat.reduceEqDiff,Nat.reduceLT,↓reduceIte,al_od])
   all_goals(have hlt:∀i,i<129->i<(T6).size:=λi hi=>(by rw[hT6];exact hi))
   all_goals(clear hT6 T6_0 T6_1 T6_5 T6_6 T6_7 T6_9)
   all_goals(try go_simp)
   all_goals(try omega)
 simp only[putv,dstOf,al_gl,al_g0,al_g1,al_ob];obtain⟨T7,hT⟩:∃X,X=(T6).setIfInBounds 22 (.int .i64 mo):=⟨_,rfl⟩;rw[<-hT];have hT7:T7.size=129:=by rw[hT];simp[hT6]
 have T7_0:=sg1 hT T6_0;have T7_1:=sg1 hT T6_1;have T7_5:=sg1 hT T6_5;have T7_6:=sg1 hT T6_6;have T7_7:=sg1 hT T6_7;have T7_9:=sg1 hT T6_9;have T7_22:T7[22]?=some (.int .i64 mo):=by rw[hT];simp[al_gs,hT6]
 clear hT T6_0 T6_1 T6_5 T6_6 T6_7 T6_9 hT6;clear cb0w4 zb0w4 cb1w4 zb1w4 cb2w4 zb2w4;refine zq14 (by decide) hJ (s:=n) rfl rfl (f:=59) (args:=#[.int .i64 mo,.int .i64 1048576]) (λτ d=>?_) (λτ d=>?_) ?_
 . simp[go_sem,execOp,Act.eval,resolve,Deferred.ofValue,invoke,callFunc,Try.func59,Try.f59,al_gd,T7_22]
 . intro e he;simp[go_sem,execOp,Act.eval,resolve,Deferred.ofValue,invoke,callFunc,Try.func59,Try.f59,Sem.runT_eq,al_gd,T7_22]at he
 refine zqci hJ ?_;rw[Frame.finish_at]
 try walk_nrm
 obtain⟨T8,hT⟩:∃X,X=(T7).setIfInBounds 23 (.int .i64 (heldI mo 1048576)):=⟨_,rfl⟩;rw[<-hT];have hT8:T8.size=129:=by rw[hT];simp[hT7]
 have T8_0:=sg1 hT T7_0;have T8_1:=sg1 hT T7_1;have T8_5:=sg1 hT T7_5;have T8_6:=sg1 hT T7_6;have T8_7:=sg1 hT T7_7;have T8_9:=sg1 hT T7_9;have T8_23:T8[23]?=some (.int .i64 (heldI mo 1048576)):=by rw[hT];simp[al_gs,hT7]
 clear hT T7_0 T7_1 T7_5 T7_6 T7_7 T7_9 T7_22 hT7;have cS:=(zq1 (off:=0) b0w4).trans rfl;have zS:=zqh (off:=0) b0w4;refine zq4d hJ (by decide) (s:=n) (i:=2) (rest:=[]) rfl rfl rfl rfl λτ dd=>?_;refine⟨re (w4.setCell ⟨B0,0,none⟩ (.int .i64 (heldI mo 1048576))) τ dd,?_,?_⟩
 . simp only[List.getElem_toArray,List.getElem_cons_zero,List.getElem_cons_succ,execOp,Act.eval,List.map_toArray,List.map_cons,List.map_nil,al_gd,hT8,T8_0,T8_1,T8_5,T8_6,T8_7,T8_9,T8_23,al_od];clear hT8 T8_0 T8_1 T8_5 T8_6 T8_7 T8_9 T8_23
   (go_simp)
   all_goals(first|rfl |(simp[hsw4];done)|skip)
 refine hJ.re' _ _ _ τ dd ?_;have hq:=zqy w4 (B0) 0 (.int .i64 (heldI mo 1048576)) b0w4;generalize hw:w4.setCell ⟨B0,0,none⟩ (.int .i64 (heldI mo 1048576))=w5 at hq;have hsw5:w5.heap.size=B0+3:=by rw[<-hw,zqz,hsw4]
 have how5:∀b,b<B0->w5.heap[b]?=w.heap[b]?:=λb hb=>by rw[<-hw,zql _ _ _ _ (by show b≠B0;omega)];exact how4 b hb
 have b1w5:w5.heap[B0+1]?=some (.cells #[.slice none 0 0] 24):=by rw[<-hw,zql _ _ _ _ (by show B0+1≠B0;omega)];exact b1w4
 have b2w5:w5.heap[B0+2]?=some (.cells #[.int .i64 (if(64:Int)<(L:Int)then 64 else(L:Int))] 3):=by rw[<-hw,zql _ _ _ _ (by show B0+2≠B0;omega)];exact b2w4
 have b0w5:w5.heap[B0]?=some (.cells #[.int .i64 (heldI mo 1048576)] 3):=hq.trans (by rfl);clear hw hq cS zS b0w4 b1w4 b2w4 hsw4 how4;refine hJ.ctl (s:=n) (λw=>stepG_region_end) ?_;exact hm.out _ w5 hT8 T8_0 T8_1 T8_5 T8_6 T8_7 T8_9 hsw5 how5 b0w5 b1w5 b2w5
end Go.Proofs
