/- YtnjpcibdaanpeaaSBound10: part 9 of the proof (the texts behind it, in order). -/
import Derived.Test.YtnjpcibdaanpeaaL08
set_option linter.unusedSimpArgs false
set_option linter.unusedVariables false
set_option linter.unusedSectionVars false
set_option linter.unnecessarySimpa false
set_option maxHeartbeats 1000000
set_option maxRecDepth 100000
namespace Go.Proofs
open Go Go.Conc Go.RowKit Go.Car
open Go.ConcN (upd upd_ne upd_same)
theorem over0:Try.f38.body=some (.seq (headC (overT 0)) (.seq (headC (overT 1)) (.seq (headC (overT 2)) (overT 3)))):=by kernel_rfl
theorem over_first{Fin:Machine->Trace->Prop}(hFin:Back Try.prog Fin){n:Nat}{p:Option Addr}{L C:Nat}{sch:Value}{mo:Int}{w:World}{c:Frame}{cs:List Frame}
 (hmain:∀(T:Array Value)(w':World),T.size=129->T[0]?=some (.slice p L C)->T[1]?=some sch->T[5]?=some (.pointer (some ⟨w.heap.size,0,none⟩))->T[6]?=some (.pointer (some ⟨w.heap.size+1,0,none⟩))->T[7]?=some (.bool false)->T[9]?=some (.pointer (some ⟨w.heap.size+2,0,none⟩))->
  w'.heap.size=w.heap.size+3->(∀b,b<w.heap.size->w'.heap[b]?=w.heap[b]?)->w'.heap[w.heap.size]?=some (.cells #[.int .i64 (heldI mo 1048576)] 3)->w'.heap[w.heap.size+1]?=some (.cells #[.slice none 0 0] 24)->w'.heap[w.heap.size+2]?=some (.cells #[.int .i64 (if(64:Int)<(L:Int)then 64 else(L:Int))] 3)->
  J0 Try.prog Fin n (G ((bN 38).at ⟨T,[]⟩ [.code (overT 3)]) (c::cs)) w'):
 J0 Try.prog Fin n (G (Frame.enter Try.prog 38 #[.slice p L C,sch,.int .i64 mo] .normal) (c::cs)) w:=by
 have hJ:=j0_JS hFin;have e:Frame.enter Try.prog 38 #[.slice p L C,sch,.int .i64 mo] .normal=(bN 38).at (enterAct Try.f38 #[.slice p L C,sch,.int .i64 mo]) [.code ((Try.f38.body).getD .skip)]:=rfl;rw[e];obtain⟨B0,hs⟩:∃B0,w.heap.size=B0:=⟨_,rfl⟩;have hs':w.heap.size=B0:=hs;rw[hs']at hmain;have hm:=Lib.hid hmain;clear hmain hs';obtain⟨Ts,hT⟩:∃X,X=(enterAct Try.f38 #[.slice p L C,sch,.int .i64 mo]).tmps:=⟨_,rfl⟩;have hsz:Ts.size=129:=by rw[hT];kernel_rfl
 have f0:Ts[0]?=some (.slice p L C):=by rw[hT];kernel_rfl
 have f1:Ts[1]?=some sch:=by rw[hT];kernel_rfl
 have f2:Ts[2]?=some (.int .i64 mo):=by rw[hT];kernel_rfl
 have eA:enterAct Try.f38 #[.slice p L C,sch,.int .i64 mo]=⟨Ts,[]⟩:=by rw[hT];kernel_rfl
 rw[eA,over0,al_od];clear eA hT e;have ho:∀b,b<B0->w.heap[b]?=w.heap[b]?:=λ_ _=>rfl;generalize overT 3=rest at hm ⊢;obtain⟨c0,hc0⟩:∃c,headC (overT 0)=c:=⟨_,rfl⟩;obtain⟨c1,hc1⟩:∃c,headC (overT 1)=c:=⟨_,rfl⟩;obtain⟨c2,hc2⟩:∃c,headC (overT 2)=c:=⟨_,rfl⟩;have ec0:=hc0;have ec1:=hc1;have ec2:=hc2;rw[hc0,hc1,hc2];simp only[overT,headC,tailN,Try.f38,al_od]at ec0 ec1 ec2;subst ec0 ec1 ec2;clear hc0 hc1 hc2;refine hJ.ctl (s:=n) (λw=>stepG_seq) ?_;refine hJ.ctl (s:=n) (λw=>stepG_region) ?_;refine at_opF hJ (by decide) (s:=n) (i:=0) (rest:=[1,2,3]) rfl rfl rfl rfl λτ dd=>?_;refine⟨.pointer (some ⟨B0,0,none⟩),re (w.alloc (.cells #[.int .i64 mo] 3)) τ dd,?_,?_⟩
 · simp only[List.getElem_toArray,List.getElem_cons_zero,List.getElem_cons_succ,execOp,Act.eval,List.map_toArray,List.map_cons,List.map_nil,al_gd,hsz,f0,f1,f2,al_od];clear hsz f0 f1 f2
   (go_simp)
   all_goals(first|rfl |(simp[hs];done)|skip)
 refine hJ.re' _ _ _ τ dd ?_;generalize hw:w.alloc (.cells #[.int .i64 mo] 3)=w1;have hsw1:w1.heap.size=B0+1:=by rw[←hw,zq3,hs]
 have how1:∀b,b<B0->w1.heap[b]?=w.heap[b]?:=λb hb=>by rw[←hw,zq2,if_neg (by omega)];try exact ho b hb
 have b0w1:w1.heap[B0]?=some (.cells #[.int .i64 mo] 3):=by rw[←hw,zq2,if_pos (by omega)]
 clear hw hs ho;obtain⟨T1,hT⟩:∃X,X=(Ts).setIfInBounds 5 (.pointer (some ⟨B0,0,none⟩)):=⟨_,rfl⟩;rw[←hT];have hT1:T1.size=129:=by rw[hT];simp[hsz]
 have T1_0:=sg1 hT f0;have T1_1:=sg1 hT f1;have T1_2:=sg1 hT f2;have T1_5:T1[5]?=some (.pointer (some ⟨B0,0,none⟩)):=by rw[hT];simp[al_gs,hsz]
 clear hT f0 f1 f2 hsz;refine at_opF hJ (by decide) (s:=n) (i:=1) (rest:=[2,3]) rfl rfl rfl rfl λτ dd=>?_;refine⟨.pointer (some ⟨B0+1,0,none⟩),re (w1.alloc (.cells #[.slice none 0 0] 24)) τ dd,?_,?_⟩
 · simp only[List.getElem_toArray,List.getElem_cons_zero,List.getElem_cons_succ,execOp,Act.eval,List.map_toArray,List.map_cons,List.map_nil,al_gd,hT1,T1_0,T1_1,T1_2,T1_5,al_od];clear hT1 T1_0 T1_1 T1_2 T1_5
   (go_simp)
   all_goals(first|rfl |(simp[hsw1];done)|skip)
 refine hJ.re' _ _ _ τ dd ?_;generalize hw:w1.alloc (.cells #[.slice none 0 0] 24)=w2;have hsw2:w2.heap.size=B0+2:=by rw[←hw,zq3,hsw1]
 have how2:∀b,b<B0->w2.heap[b]?=w.heap[b]?:=λb hb=>by rw[←hw,zq2,if_neg (by omega)];try exact how1 b hb
 have b0w2:w2.heap[B0]?=some (.cells #[.int .i64 mo] 3):=by rw[←hw,zq2,if_neg (by omega)];exact b0w1
 have b1w2:w2.heap[B0+1]?=some (.cells #[.slice none 0 0] 24):=by rw[←hw,zq2,if_pos (by omega)]
 clear hw b0w1 hsw1 how1;obtain⟨T2,hT⟩:∃X,X=(T1).setIfInBounds 6 (.pointer (some ⟨B0+1,0,none⟩)):=⟨_,rfl⟩;rw[←hT];have hT2:T2.size=129:=by rw[hT];simp[hT1]
 have T2_0:=sg1 hT T1_0;have T2_1:=sg1 hT T1_1;have T2_2:=sg1 hT T1_2;have T2_5:=sg1 hT T1_5;have T2_6:T2[6]?=some (.pointer (some ⟨B0+1,0,none⟩)):=by rw[hT];simp[al_gs,hT1]
 clear hT T1_0 T1_1 T1_2 T1_5 hT1;refine at_opF hJ (by decide) (s:=n) (i:=2) (rest:=[3]) rfl rfl rfl rfl λτ dd=>?_;refine⟨.bool false,re w2 τ dd,?_,?_⟩
 · simp only[List.getElem_toArray,List.getElem_cons_zero,List.getElem_cons_succ,execOp,Act.eval,List.map_toArray,List.map_cons,List.map_nil,al_gd,hT2,T2_0,T2_1,T2_2,T2_5,T2_6,al_od];clear hT2 T2_0 T2_1 T2_2 T2_5 T2_6
   (go_simp)
   all_goals(first|rfl |(simp[hsw2];done)|skip)
 refine hJ.re' _ _ _ τ dd ?_;obtain⟨T3,hT⟩:∃X,X=(T2).setIfInBounds 7 (.bool false):=⟨_,rfl⟩;rw[←hT];have hT3:T3.size=129:=by rw[hT];simp[hT2]
 have T3_0:=sg1 hT T2_0;have T3_1:=sg1 hT T2_1;have T3_2:=sg1 hT T2_2;have T3_5:=sg1 hT T2_5;have T3_6:=sg1 hT T2_6;have T3_7:T3[7]?=some (.bool false):=by rw[hT];simp[al_gs,hT2]
 clear hT T2_0 T2_1 T2_2 T2_5 T2_6 hT2;refine at_opF hJ (by decide) (s:=n) (i:=3) (rest:=[]) rfl rfl rfl rfl λτ dd=>?_;refine⟨.slice none 0 0,re w2 τ dd,?_,?_⟩
 · simp only[List.getElem_toArray,List.getElem_cons_zero,List.getElem_cons_succ,execOp,Act.eval,List.map_toArray,List.map_cons,List.map_nil,al_gd,hT3,T3_0,T3_1,T3_2,T3_5,T3_6,T3_7,al_od];clear hT3 T3_0 T3_1 T3_2 T3_5 T3_6 T3_7
   (go_simp)
   all_goals(first|rfl |(simp[hsw2];done)|skip)
 refine hJ.re' _ _ _ τ dd ?_;obtain⟨T4,hT⟩:∃X,X=(T3).setIfInBounds 8 (.slice none 0 0):=⟨_,rfl⟩;rw[←hT];have hT4:T4.size=129:=by rw[hT];simp[hT3]
 have T4_0:=sg1 hT T3_0;have T4_1:=sg1 hT T3_1;have T4_2:=sg1 hT T3_2;have T4_5:=sg1 hT T3_5;have T4_6:=sg1 hT T3_6;have T4_7:=sg1 hT T3_7;have T4_8:T4[8]?=some (.slice none 0 0):=by rw[hT];simp[al_gs,hT3]
 clear hT T3_0 T3_1 T3_2 T3_5 T3_6 T3_7 hT3;refine hJ.ctl (s:=n) (λw=>stepG_region_end) ?_;refine hJ.ctl (s:=n) (λw=>stepG_seq) ?_;refine hJ.ctl (s:=n) (λw=>stepG_region) ?_;refine at_eval (s:=n) hJ (by decide) 0 [.slice p L C,.int .i64 L,.int .i64 (if(64:Int)<(L:Int)then 64 else(L:Int))] [3,4] rfl (by simp) (by rfl) ?_ ?_
 · intro τ d;simp only[evalsO,dstOf,al_gl,al_g0,al_g1,al_ob];refine⟨?_,?_,?_,trivial⟩<;>(intro o ho;simp only[al_oi]at ho;subst ho)
   all_goals(try simp only[execOp,Act.eval,List.map_toArray,List.map_cons,List.map_nil,al_gd])
   all_goals(try simp only[al_gs,al_gz,hT4,T4_0,T4_1,T4_2,T4_5,T4_6,T4_7,Nat.reduceEqDiff,Nat.reduceLT,↓reduceIte,al_od])
   all_goals(have hlt:∀i,i<129->i<(T4).size:=λi hi=>(by rw[hT4];exact hi))
   all_goals(clear hT4 T4_0 T4_1 T4_2 T4_5 T4_6 T4_7)
   all_goals(try go_simp)
   all_goals(try omega)
 simp only[putv,dstOf,al_gl,al_g0,al_g1,al_ob];obtain⟨T5,hT⟩:∃X,X=(((T4).setIfInBounds 19 (.slice p L C)).setIfInBounds 20 (.int .i64 L)).setIfInBounds 21 (.int .i64 (if(64:Int)<(L:Int)then 64 else(L:Int))):=⟨_,rfl⟩;rw[←hT];have hT5:T5.size=129:=by rw[hT];simp[hT4]
 have T5_0:=sg3 hT T4_0;have T5_1:=sg3 hT T4_1;have T5_2:=sg3 hT T4_2;have T5_5:=sg3 hT T4_5;have T5_6:=sg3 hT T4_6;have T5_7:=sg3 hT T4_7;have T5_19:T5[19]?=some (.slice p L C):=by rw[hT];simp[al_gs,hT4]
 have T5_20:T5[20]?=some (.int .i64 L):=by rw[hT];simp[al_gs,hT4]
 have T5_21:T5[21]?=some (.int .i64 (if(64:Int)<(L:Int)then 64 else(L:Int))):=by rw[hT];simp[al_gs,hT4]
 clear hT T4_0 T4_1 T4_2 T4_5 T4_6 T4_7 hT4;refine at_opF hJ (by decide) (s:=n) (i:=3) (rest:=[4]) rfl rfl rfl rfl λτ dd=>?_;refine⟨.pointer (some ⟨B0+2,0,none⟩),re (w2.alloc (.cells #[.int .i64 0] 3)) τ dd,?_,?_⟩
 · simp only[List.getElem_toArray,List.getElem_cons_zero,List.getElem_cons_succ,execOp,Act.eval,List.map_toArray,List.map_cons,List.map_nil,al_gd,hT5,T5_0,T5_1,T5_2,T5_5,T5_6,T5_7,T5_19,T5_20,T5_21,al_od];clear hT5 T5_0 T5_1 T5_2 T5_5 T5_6 T5_7 T5_19 T5_20 T5_21
   (go_simp)
   all_goals(first|rfl |(simp[hsw2];done)|skip)
 refine hJ.re' _ _ _ τ dd ?_;generalize hw:w2.alloc (.cells #[.int .i64 0] 3)=w3;have hsw3:w3.heap.size=B0+3:=by rw[←hw,zq3,hsw2]
 have how3:∀b,b<B0->w3.heap[b]?=w.heap[b]?:=λb hb=>by rw[←hw,zq2,if_neg (by omega)];try exact how2 b hb
 have b0w3:w3.heap[B0]?=some (.cells #[.int .i64 mo] 3):=by rw[←hw,zq2,if_neg (by omega)];exact b0w2
 have b1w3:w3.heap[B0+1]?=some (.cells #[.slice none 0 0] 24):=by rw[←hw,zq2,if_neg (by omega)];exact b1w2
 have b2w3:w3.heap[B0+2]?=some (.cells #[.int .i64 0] 3):=by rw[←hw,zq2,if_pos (by omega)]
 clear hw b0w2 b1w2 hsw2 how2;obtain⟨T6,hT⟩:∃X,X=(T5).setIfInBounds 9 (.pointer (some ⟨B0+2,0,none⟩)):=⟨_,rfl⟩;rw[←hT];have hT6:T6.size=129:=by rw[hT];simp[hT5]
 have T6_0:=sg1 hT T5_0;have T6_1:=sg1 hT T5_1;have T6_5:=sg1 hT T5_5;have T6_6:=sg1 hT T5_6;have T6_7:=sg1 hT T5_7;have T6_21:=sg1 hT T5_21;have T6_9:T6[9]?=some (.pointer (some ⟨B0+2,0,none⟩)):=by rw[hT];simp[al_gs,hT5]
 clear hT T5_0 T5_1 T5_2 T5_5 T5_6 T5_7 T5_19 T5_20 T5_21 hT5;have cS:=(zq0 (off:=0) b2w3).trans rfl;have zS:=zq5 (off:=0) b2w3;refine at_skipF hJ (by decide) (s:=n) (i:=4) (rest:=[]) rfl rfl rfl rfl λτ dd=>?_;refine⟨re (w3.setCell ⟨B0+2,0,none⟩ (.int .i64 (if(64:Int)<(L:Int)then 64 else(L:Int)))) τ dd,?_,?_⟩
 · simp only[List.getElem_toArray,List.getElem_cons_zero,List.getElem_cons_succ,execOp,Act.eval,List.map_toArray,List.map_cons,List.map_nil,al_gd,hT6,T6_0,T6_1,T6_5,T6_6,T6_7,T6_21,T6_9,al_od];clear hT6 T6_0 T6_1 T6_5 T6_6 T6_7 T6_21 T6_9
   (go_simp)
   all_goals(first|rfl |(simp[hsw3];done)|skip)
 refine hJ.re' _ _ _ τ dd ?_;have hq:=hp_set_same w3 (B0+2) 0 (.int .i64 (if(64:Int)<(L:Int)then 64 else(L:Int))) b2w3;generalize hw:w3.setCell ⟨B0+2,0,none⟩ (.int .i64 (if(64:Int)<(L:Int)then 64 else(L:Int)))=w4 at hq;have hsw4:w4.heap.size=B0+3:=by rw[←hw,hp_size_set,hsw3]
 have how4:∀b,b<B0->w4.heap[b]?=w.heap[b]?:=λb hb=>by rw[←hw,hp_set_ne _ _ _ _ (by show b≠B0+2;omega)];exact how3 b hb
 have b0w4:w4.heap[B0]?=some (.cells #[.int .i64 mo] 3):=by rw[←hw,hp_set_ne _ _ _ _ (by show B0≠B0+2;omega)];exact b0w3
 have b1w4:w4.heap[B0+1]?=some (.cells #[.slice none 0 0] 24):=by rw[←hw,hp_set_ne _ _ _ _ (by show B0+1≠B0+2;omega)];exact b1w3
 have b2w4:w4.heap[B0+2]?=some (.cells #[.int .i64 (if(64:Int)<(L:Int)then 64 else(L:Int))] 3):=hq.trans (by rfl);clear hw hq cS zS b0w3 b1w3 b2w3 hsw3 how3;refine hJ.ctl (s:=n) (λw=>stepG_region_end) ?_;refine hJ.ctl (s:=n) (λw=>stepG_seq) ?_;refine hJ.ctl (s:=n) (λw=>stepG_region) ?_;have cb0w4:=(zq0 (off:=0) b0w4).trans rfl;have zb0w4:=zq5 (off:=0) b0w4;have cb1w4:=(zq0 (off:=0) b1w4).trans rfl;have zb1w4:=zq5 (off:=0) b1w4;have cb2w4:=(zq0 (off:=0) b2w4).trans rfl;have zb2w4:=zq5 (off:=0) b2w4;refine at_eval (s:=n) hJ (by decide) 0 [.int .i64 mo] [1,2] rfl (by simp) (by rfl) ?_ ?_
 · intro τ d;simp only[evalsO,dstOf,al_gl,al_g0,al_g1,al_ob];refine⟨?_,trivial⟩<;>(intro o ho;simp only[al_oi]at ho;subst ho)
   all_goals(try simp only[execOp,Act.eval,List.map_toArray,List.map_cons,List.map_nil,al_gd])
   all_goals(try simp only[al_gs,al_gz,hT6,T6_0,T6_1,T6_5,T6_6,T6_7,T6_9,Nat.reduceEqDiff,Nat.reduceLT,↓reduceIte,al_od])
   all_goals(have hlt:∀i,i<129->i<(T6).size:=λi hi=>(by rw[hT6];exact hi))
   all_goals(clear hT6 T6_0 T6_1 T6_5 T6_6 T6_7 T6_9)
   all_goals(try go_simp)
   all_goals(try omega)
 simp only[putv,dstOf,al_gl,al_g0,al_g1,al_ob];obtain⟨T7,hT⟩:∃X,X=(T6).setIfInBounds 22 (.int .i64 mo):=⟨_,rfl⟩;rw[←hT];have hT7:T7.size=129:=by rw[hT];simp[hT6]
 have T7_0:=sg1 hT T6_0;have T7_1:=sg1 hT T6_1;have T7_5:=sg1 hT T6_5;have T7_6:=sg1 hT T6_6;have T7_7:=sg1 hT T6_7;have T7_9:=sg1 hT T6_9;have T7_22:T7[22]?=some (.int .i64 mo):=by rw[hT];simp[al_gs,hT6]
 clear hT T6_0 T6_1 T6_5 T6_6 T6_7 T6_9 hT6;clear cb0w4 zb0w4 cb1w4 zb1w4 cb2w4 zb2w4;refine at_call (by decide) hJ (s:=n) rfl rfl (f:=48) (args:=#[.int .i64 mo,.int .i64 1048576]) (λτ d=>?_) (λτ d=>?_) ?_
 · simp[go_sem,execOp,Act.eval,resolve,Deferred.ofValue,invoke,callFunc,Try.func48,Try.f48,al_gd,T7_22]
 · intro e he;simp[go_sem,execOp,Act.eval,resolve,Deferred.ofValue,invoke,callFunc,Try.func48,Try.f48,Sem.runT_eq,al_gd,T7_22]at he
 refine held_calls hJ ?_;rw[Frame.finish_at]
 try walk_nrm
 obtain⟨T8,hT⟩:∃X,X=(T7).setIfInBounds 23 (.int .i64 (heldI mo 1048576)):=⟨_,rfl⟩;rw[←hT];have hT8:T8.size=129:=by rw[hT];simp[hT7]
 have T8_0:=sg1 hT T7_0;have T8_1:=sg1 hT T7_1;have T8_5:=sg1 hT T7_5;have T8_6:=sg1 hT T7_6;have T8_7:=sg1 hT T7_7;have T8_9:=sg1 hT T7_9;have T8_23:T8[23]?=some (.int .i64 (heldI mo 1048576)):=by rw[hT];simp[al_gs,hT7]
 clear hT T7_0 T7_1 T7_5 T7_6 T7_7 T7_9 T7_22 hT7;have cS:=(zq0 (off:=0) b0w4).trans rfl;have zS:=zq5 (off:=0) b0w4;refine at_skipF hJ (by decide) (s:=n) (i:=2) (rest:=[]) rfl rfl rfl rfl λτ dd=>?_;refine⟨re (w4.setCell ⟨B0,0,none⟩ (.int .i64 (heldI mo 1048576))) τ dd,?_,?_⟩
 · simp only[List.getElem_toArray,List.getElem_cons_zero,List.getElem_cons_succ,execOp,Act.eval,List.map_toArray,List.map_cons,List.map_nil,al_gd,hT8,T8_0,T8_1,T8_5,T8_6,T8_7,T8_9,T8_23,al_od];clear hT8 T8_0 T8_1 T8_5 T8_6 T8_7 T8_9 T8_23
   (go_simp)
   all_goals(first|rfl |(simp[hsw4];done)|skip)
 refine hJ.re' _ _ _ τ dd ?_;have hq:=hp_set_same w4 (B0) 0 (.int .i64 (heldI mo 1048576)) b0w4;generalize hw:w4.setCell ⟨B0,0,none⟩ (.int .i64 (heldI mo 1048576))=w5 at hq;have hsw5:w5.heap.size=B0+3:=by rw[←hw,hp_size_set,hsw4]
 have how5:∀b,b<B0->w5.heap[b]?=w.heap[b]?:=λb hb=>by rw[←hw,hp_set_ne _ _ _ _ (by show b≠B0;omega)];exact how4 b hb
 have b1w5:w5.heap[B0+1]?=some (.cells #[.slice none 0 0] 24):=by rw[←hw,hp_set_ne _ _ _ _ (by show B0+1≠B0;omega)];exact b1w4
 have b2w5:w5.heap[B0+2]?=some (.cells #[.int .i64 (if(64:Int)<(L:Int)then 64 else(L:Int))] 3):=by rw[←hw,hp_set_ne _ _ _ _ (by show B0+2≠B0;omega)];exact b2w4
 have b0w5:w5.heap[B0]?=some (.cells #[.int .i64 (heldI mo 1048576)] 3):=hq.trans (by rfl);clear hw hq cS zS b0w4 b1w4 b2w4 hsw4 how4;refine hJ.ctl (s:=n) (λw=>stepG_region_end) ?_;exact hm.out _ w5 hT8 T8_0 T8_1 T8_5 T8_6 T8_7 T8_9 hsw5 how5 b0w5 b1w5 b2w5
theorem mk_chan(t:TypeId)(w:World)(h:t=104\/t=109):(Instr.makeChan t (.int .i64 0)).run Try.prog w=.ok (.chan (some w.heap.size)) (w.alloc (.chan 0 #[] false 0 0 false)):=by
 rcases h with rfl |rfl
 · obtain⟨i,hi⟩:∃i,Try.prog.info? 56=some i:=⟨_,rfl⟩;exact run_makeChan (P:=Try.prog) (w:=w) (dir:=_) (show Try.prog.underlying _=some (.chan .both _)from by kernel_rfl) hi .i64 0 (by omega) (by omega)
 · obtain⟨i,hi⟩:∃i,Try.prog.info? 4=some i:=⟨_,rfl⟩;exact run_makeChan (P:=Try.prog) (w:=w) (dir:=_) (show Try.prog.underlying _=some (.chan .both _)from by kernel_rfl) hi .i64 0 (by omega) (by omega)
theorem mk_bools(w:World)(N:Nat)(hN:N<=64):∃br,(Instr.makeSlice 89 (.int .i64 N) (.int .i64 N)).run Try.prog w=.ok (.slice (some ⟨w.heap.size,0,none⟩) N N) (w.alloc (.cells br 4))/\∀i,i<N->br[i]?=some (.bool false):=by
 obtain⟨ti,hti,hz0,hz1,hz2⟩:∃ti,Try.prog.info? 4=some ti/\ti.zero=some (.bool false)/\ti.size=1/\ti.bytes=1:=⟨_,rfl,rfl,rfl,rfl⟩;have:=run_makeSlice (P:=Try.prog) w 89 4 ti (.bool false) (by kernel_rfl) hti hz0 .i64 .i64 N N (by omega) (Int.le_refl _) (by rw[hz1];simp;omega) (by rw[hz2];omega) (by omega);simp only[Int.toNat_natCast,hz1,Nat.mul_one]at this;refine⟨_,this,λi hi=>?_⟩;simp only[madeCells,Value.cells,Array.getElem?_map];simp[hi,Nat.mod_one]
theorem mk_turn(w:World)(c g N:Nat):(Instr.build 107 #[(0,.chan (some c)),(2,.slice (some ⟨g,0,none⟩) N N)]).run Try.prog w=.ok (.agg #[.chan (some c),.slice none 0 0,.slice (some ⟨g,0,none⟩) N N]) w:=run_build w _ _ _ (by kernel_rfl)
structure I3(B1 N:Nat)(T₀:Array Value)(w₀:World)(c g p x:Nat)(L:Nat->Bool)(T:Array Value)(w:World):Prop where
 size:T.size=129
 keep:∀t,t≠24->t≠25->t≠26->t≠27->t≠28->t≠10->T[t]?=T₀[t]?
 ge:B1<=w.heap.size
 old:∀b,b<B1->w.heap[b]?=w₀.heap[b]?
 l3:L 3=true->L 0=true/\L 2=true
 l4:L 4=true->L 3=true
 l6:L 6=true->L 4=true/\L 5=true
 h0:L 0=true->T[24]?=some (.chan (some c))/\w.heap[c]?=some (.chan 0 #[] false 0 0 false)/\B1<=c
 h1:L 1=true->T[25]?=some (.int .i64 N)
 h2:L 2=true->T[26]?=some (.slice (some ⟨g,0,none⟩) N N)/\(∃br,w.heap[g]?=some (.cells br 4)/\∀i,i<N->br[i]?=some (.bool false))/\B1<=g
 h3:L 3=true->T[27]?=some (.agg #[.chan (some c),.slice none 0 0,.slice (some ⟨g,0,none⟩) N N])
 h4:L 4=true->T[28]?=some (.pointer (some ⟨p,0,none⟩))/\w.heap[p]?=some (.cells #[.chan (some c),.slice none 0 0,.slice (some ⟨g,0,none⟩) N N] 107)/\B1<=p
 h5:L 5=true->T[10]?=some (.pointer (some ⟨x,0,none⟩))/\w.heap[x]?=some (.cells #[if L 6=true then .pointer (some ⟨p,0,none⟩)else .pointer none] 103)/\B1<=x
theorem al_old{w:World}{o:Obj}{b:Nat}{y:Obj}(h:w.heap[b]?=some y):(w.alloc o).heap[b]?=some y:=by
 rw[zq2,if_neg (by have:=zq4 h;omega)];exact h
theorem al_new(w:World)(o:Obj):(w.alloc o).heap[w.heap.size]?=some o:=by rw[zq2,if_pos rfl]
theorem over_third{Fin:Machine->Trace->Prop}(hFin:Back Try.prog Fin){n N bn:Nat}{T₀:Array Value}{w:World}{rest:Code}{cs:List Frame}(hN:N<=64)(hsz:T₀.size=129)(f9:T₀[9]?=some (.pointer (some ⟨bn,0,none⟩)))(hn:w.cell? ⟨bn,0,none⟩=some (.int .i64 N))
 (hmain:∀(T:Array Value)(w':World)(c g p x:Nat),T.size=129->(∀t,t≠24->t≠25->t≠26->t≠27->t≠28->t≠10->T[t]?=T₀[t]?)->w.heap.size<=w'.heap.size->(∀b,b<w.heap.size->w'.heap[b]?=w.heap[b]?)->
  w.heap.size<=c->w.heap.size<=g->w.heap.size<=p->w.heap.size<=x->w'.heap[c]?=some (.chan 0 #[] false 0 0 false)->(∃br,w'.heap[g]?=some (.cells br 4)/\∀i,i<N->br[i]?=some (.bool false))->
  w'.heap[p]?=some (.cells #[.chan (some c),.slice none 0 0,.slice (some ⟨g,0,none⟩) N N] 107)->w'.heap[x]?=some (.cells #[.pointer (some ⟨p,0,none⟩)] 103)->T[10]?=some (.pointer (some ⟨x,0,none⟩))->
  J0 Try.prog Fin n (G ((bN 38).at ⟨T,[]⟩ [.code rest]) cs) w'):
 J0 Try.prog Fin n (G ((bN 38).at ⟨T₀,[]⟩ [.code (headC (overT 3)),.code rest]) cs) w:=by
 have hJ:=j0_JS hFin;obtain⟨c3,hc3⟩:∃c,headC (overT 3)=c:=⟨_,rfl⟩;have ec:=hc3;rw[hc3];simp only[overT,headC,tailN,Try.f38,al_od]at ec;subst ec;clear hc3;have hm:=Lib.hid hmain;clear hmain;refine at_draws hJ (by decide) (s:=n) (by rfl) (λL T w'=>∃c g p x,I3 w.heap.size N T₀ w c g p x L T w') (by kernel_rfl) ?_ ?_ ?_ ?_
 · rintro L T w' τ d ⟨c,g,p,x,h⟩;exact⟨c,g,p,x,⟨h.size,h.keep,h.ge,h.old,h.l3,h.l4,h.l6,h.h0,h.h1,h.h2,h.h3,h.h4,h.h5⟩⟩
 · exact⟨0,0,0,0,hsz,λ_ _ _ _ _ _ _=>rfl,Nat.le_refl _,λ_ _=>rfl,by simp,by simp,by simp,by simp,by simp,by simp,by simp,by simp,by simp⟩
 · rintro L T w' i o ⟨c,g,p,x,h⟩ hL ho hall;have hlt:i=0\/i=1\/i=2\/i=3\/i=4\/i=5\/i=6:=by have:i<7:=(Array.getElem?_eq_some_iff.1 ho).1;omega
   have hcN:w'.cell? ⟨bn,0,none⟩=some (.int .i64 N):=by rw[←hn];exact cell_of_same (h.old bn (Go.Car.cell_lt hn))
   have f9':=(h.keep 9 (by omega) (by omega) (by omega) (by omega) (by omega) (by omega)).trans f9;have hs:=h.size;rcases hlt with rfl |rfl |rfl |rfl |rfl |rfl |rfl<;>(simp only[al_gl,al_g0,al_g1,al_oi]at ho;subst ho)
   ·
    have u:∀j,j≠0->upd L 0 true j=L j:=λj hj=>upd_ne _ _ hj;refine .inl ⟨24,rfl,.chan (some w'.heap.size),w'.alloc (.chan 0 #[] false 0 0 false),?_,w'.heap.size,g,p,x,by simp[hs],λt a1 a2 a3 a4 a5 a6=>(by rw[al_gn (by omega)];exact h.keep t a1 a2 a3 a4 a5 a6),(by rw[zq3];exact Nat.le_succ_of_le h.ge),λb hb=>(by rw[zq2,if_neg (by have:=h.ge;omega)];exact h.old b hb),λhh=>(by rw[u 3 (by omega)]at hh;have:=(h.l3 hh).1;rw[hL]at this;cases this),λhh=>(by rw[u 4 (by omega)]at hh;rw[u 3 (by omega)];exact h.l4 hh),λhh=>(by rw[u 6 (by omega)]at hh;rw[u 4 (by omega),u 5 (by omega)];exact h.l6 hh),
     λ_=>⟨by simp[hs],al_new _ _,h.ge⟩,
     λhh=>(by rw[u 1 (by omega)]at hh;rw[al_gn (by omega)];exact h.h1 hh),
     λhh=>(by rw[u 2 (by omega)]at hh;obtain⟨q1,⟨br,q2,q4⟩,q3⟩:=h.h2 hh;exact⟨by rw[al_gn (by omega)];exact q1,⟨br,al_old q2,q4⟩,q3⟩),
     λhh=>(by rw[u 3 (by omega)]at hh;have:=(h.l3 hh).1;rw[hL]at this;cases this),
     λhh=>(by rw[u 4 (by omega)]at hh;have:=(h.l3 (h.l4 hh)).1;rw[hL]at this;cases this),
     λhh=>(by rw[u 5 (by omega)]at hh;obtain⟨q1,q2,q3⟩:=h.h5 hh;exact⟨by rw[al_gn (by omega)];exact q1,by rw[u 6 (by omega)];exact al_old q2,q3⟩)⟩
    simp only[execOp,Act.eval,Sem.run_bind,mk_chan _ w' (.inl rfl)];rfl
   ·
    have u:∀j,j≠1->upd L 1 true j=L j:=λj hj=>upd_ne _ _ hj;refine .inl ⟨25,rfl,.int .i64 N,w',?_,c,g,p,x,by simp[hs],λt a1 a2 a3 a4 a5 a6=>(by rw[al_gn (by omega)];exact h.keep t a1 a2 a3 a4 a5 a6),h.ge,h.old,λhh=>(by rw[u 3 (by omega)]at hh;rw[u 0 (by omega),u 2 (by omega)];exact h.l3 hh),λhh=>(by rw[u 4 (by omega)]at hh;rw[u 3 (by omega)];exact h.l4 hh),λhh=>(by rw[u 6 (by omega)]at hh;rw[u 4 (by omega),u 5 (by omega)];exact h.l6 hh),
     λhh=>(by rw[u 0 (by omega)]at hh;obtain⟨q1,q2,q3⟩:=h.h0 hh;exact⟨by rw[al_gn (by omega)];exact q1,id q2,q3⟩),
     λ_=>(by simp[hs]),
     λhh=>(by rw[u 2 (by omega)]at hh;obtain⟨q1,⟨br,q2,q4⟩,q3⟩:=h.h2 hh;exact⟨by rw[al_gn (by omega)];exact q1,⟨br,id q2,q4⟩,q3⟩),
     λhh=>(by rw[u 3 (by omega)]at hh;rw[al_gn (by omega)];exact h.h3 hh),
     λhh=>(by rw[u 4 (by omega)]at hh;obtain⟨q1,q2,q3⟩:=h.h4 hh;exact⟨by rw[al_gn (by omega)];exact q1,id q2,q3⟩),
     λhh=>(by rw[u 5 (by omega)]at hh;obtain⟨q1,q2,q3⟩:=h.h5 hh;exact⟨by rw[al_gn (by omega)];exact q1,by rw[u 6 (by omega)];exact id q2,q3⟩)⟩
    simp only[execOp,Act.eval,al_gd,f9',al_od];clear hm;go_simp
   ·
    have a1:L 1=true:=hall ⟨1,.data⟩ (by simp) rfl;obtain⟨br,hbr,hbr2⟩:=mk_bools w' N hN;have u:∀j,j≠2->upd L 2 true j=L j:=λj hj=>upd_ne _ _ hj;refine .inl ⟨26,rfl,.slice (some ⟨w'.heap.size,0,none⟩) N N,w'.alloc (.cells br 4),?_,c,w'.heap.size,p,x,by simp[hs],λt a1 a2 a3 a4 a5 a6=>(by rw[al_gn (by omega)];exact h.keep t a1 a2 a3 a4 a5 a6),(by rw[zq3];exact Nat.le_succ_of_le h.ge),λb hb=>(by rw[zq2,if_neg (by have:=h.ge;omega)];exact h.old b hb),λhh=>(by rw[u 3 (by omega)]at hh;have:=(h.l3 hh).2;rw[hL]at this;cases this),λhh=>(by rw[u 4 (by omega)]at hh;rw[u 3 (by omega)];exact h.l4 hh),λhh=>(by rw[u 6 (by omega)]at hh;rw[u 4 (by omega),u 5 (by omega)];exact h.l6 hh),
     λhh=>(by rw[u 0 (by omega)]at hh;obtain⟨q1,q2,q3⟩:=h.h0 hh;exact⟨by rw[al_gn (by omega)];exact q1,al_old q2,q3⟩),
     λhh=>(by rw[u 1 (by omega)]at hh;rw[al_gn (by omega)];exact h.h1 hh),
     λ_=>⟨by simp[hs],⟨br,al_new _ _,hbr2⟩,h.ge⟩,
     λhh=>(by rw[u 3 (by omega)]at hh;have:=(h.l3 hh).2;rw[hL]at this;cases this),
     λhh=>(by rw[u 4 (by omega)]at hh;have:=(h.l3 (h.l4 hh)).2;rw[hL]at this;cases this),
     λhh=>(by rw[u 5 (by omega)]at hh;obtain⟨q1,q2,q3⟩:=h.h5 hh;exact⟨by rw[al_gn (by omega)];exact q1,by rw[u 6 (by omega)];exact al_old q2,q3⟩)⟩
    simp only[execOp,Act.eval,al_gd,h.h1 a1,al_od,Sem.run_bind,hbr];rfl
   ·
    have a0:L 0=true:=hall ⟨0,.data⟩ (by simp) rfl;have a2:L 2=true:=hall ⟨2,.data⟩ (by simp) rfl;have u:∀j,j≠3->upd L 3 true j=L j:=λj hj=>upd_ne _ _ hj;refine .inl ⟨27,rfl,.agg #[.chan (some c),.slice none 0 0,.slice (some ⟨g,0,none⟩) N N],w',?_,c,g,p,x,by simp[hs],λt a1 a2 a3 a4 a5 a6=>(by rw[al_gn (by omega)];exact h.keep t a1 a2 a3 a4 a5 a6),h.ge,h.old,λ_=>⟨by rw[u 0 (by omega)];exact a0,by rw[u 2 (by omega)];exact a2⟩,λ_=>upd_same _ _ _,λhh=>(by rw[u 6 (by omega)]at hh;rw[u 4 (by omega),u 5 (by omega)];exact h.l6 hh),
     λhh=>(by rw[u 0 (by omega)]at hh;obtain⟨q1,q2,q3⟩:=h.h0 hh;exact⟨by rw[al_gn (by omega)];exact q1,id q2,q3⟩),
     λhh=>(by rw[u 1 (by omega)]at hh;rw[al_gn (by omega)];exact h.h1 hh),
     λhh=>(by rw[u 2 (by omega)]at hh;obtain⟨q1,⟨br,q2,q4⟩,q3⟩:=h.h2 hh;exact⟨by rw[al_gn (by omega)];exact q1,⟨br,id q2,q4⟩,q3⟩),
     λ_=>(by simp[hs]),
     λhh=>(by rw[u 4 (by omega)]at hh;obtain⟨q1,q2,q3⟩:=h.h4 hh;exact⟨by rw[al_gn (by omega)];exact q1,id q2,q3⟩),
     λhh=>(by rw[u 5 (by omega)]at hh;obtain⟨q1,q2,q3⟩:=h.h5 hh;exact⟨by rw[al_gn (by omega)];exact q1,by rw[u 6 (by omega)];exact id q2,q3⟩)⟩
    simp only[execOp,Act.eval,List.map_toArray,List.map_cons,List.map_nil,al_gd,(h.h0 a0).1,(h.h2 a2).1,al_od,Sem.run_bind,mk_turn];rfl
   ·
    have a3:L 3=true:=hall ⟨3,.data⟩ (by simp) rfl;have u:∀j,j≠4->upd L 4 true j=L j:=λj hj=>upd_ne _ _ hj;refine .inl ⟨28,rfl,.pointer (some ⟨w'.heap.size,0,none⟩),w'.alloc (.cells #[.chan (some c),.slice none 0 0,.slice (some ⟨g,0,none⟩) N N] 107),?_,c,g,w'.heap.size,x,by simp[hs],λt a1 a2 a3 a4 a5 a6=>(by rw[al_gn (by omega)];exact h.keep t a1 a2 a3 a4 a5 a6),(by rw[zq3];exact Nat.le_succ_of_le h.ge),λb hb=>(by rw[zq2,if_neg (by have:=h.ge;omega)];exact h.old b hb),λhh=>(by rw[u 3 (by omega)]at hh;rw[u 0 (by omega),u 2 (by omega)];exact h.l3 hh),λ_=>(by rw[u 3 (by omega)];exact a3),λhh=>(by rw[u 6 (by omega)]at hh;exact⟨upd_same _ _ _,by rw[u 5 (by omega)];exact(h.l6 hh).2⟩),
     λhh=>(by rw[u 0 (by omega)]at hh;obtain⟨q1,q2,q3⟩:=h.h0 hh;exact⟨by rw[al_gn (by omega)];exact q1,al_old q2,q3⟩),
     λhh=>(by rw[u 1 (by omega)]at hh;rw[al_gn (by omega)];exact h.h1 hh),
     λhh=>(by rw[u 2 (by omega)]at hh;obtain⟨q1,⟨br,q2,q4⟩,q3⟩:=h.h2 hh;exact⟨by rw[al_gn (by omega)];exact q1,⟨br,al_old q2,q4⟩,q3⟩),
     λhh=>(by rw[u 3 (by omega)]at hh;rw[al_gn (by omega)];exact h.h3 hh),
     λ_=>⟨by simp[hs],al_new _ _,h.ge⟩,
     λhh=>(by rw[u 5 (by omega)]at hh;obtain⟨q1,q2,q3⟩:=h.h5 hh;have l6:L 6=false:=(by cases e:L 6 with|false=>rfl |true=>(have:=(h.l6 e).1;rw[hL]at this;cases this));rw[l6]at q2;exact⟨by rw[al_gn (by omega)];exact q1,by rw[u 6 (by omega),l6];exact al_old q2,q3⟩)⟩
    simp only[execOp,Act.eval,al_gd,h.h3 a3,al_od];clear hm;go_simp
   ·
    have l6:L 6=false:=(by cases e:L 6 with|false=>rfl |true=>(have:=(h.l6 e).2;rw[hL]at this;cases this));have u:∀j,j≠5->upd L 5 true j=L j:=λj hj=>upd_ne _ _ hj;refine .inl ⟨10,rfl,.pointer (some ⟨w'.heap.size,0,none⟩),w'.alloc (.cells #[.pointer none] 103),?_,c,g,p,w'.heap.size,by simp[hs],λt a1 a2 a3 a4 a5 a6=>(by rw[al_gn (by omega)];exact h.keep t a1 a2 a3 a4 a5 a6),(by rw[zq3];exact Nat.le_succ_of_le h.ge),λb hb=>(by rw[zq2,if_neg (by have:=h.ge;omega)];exact h.old b hb),λhh=>(by rw[u 3 (by omega)]at hh;rw[u 0 (by omega),u 2 (by omega)];exact h.l3 hh),λhh=>(by rw[u 4 (by omega)]at hh;rw[u 3 (by omega)];exact h.l4 hh),λhh=>(by rw[u 6 (by omega)]at hh;exact⟨by rw[u 4 (by omega)];exact(h.l6 hh).1,upd_same _ _ _⟩),
     λhh=>(by rw[u 0 (by omega)]at hh;obtain⟨q1,q2,q3⟩:=h.h0 hh;exact⟨by rw[al_gn (by omega)];exact q1,al_old q2,q3⟩),
     λhh=>(by rw[u 1 (by omega)]at hh;rw[al_gn (by omega)];exact h.h1 hh),
     λhh=>(by rw[u 2 (by omega)]at hh;obtain⟨q1,⟨br,q2,q4⟩,q3⟩:=h.h2 hh;exact⟨by rw[al_gn (by omega)];exact q1,⟨br,al_old q2,q4⟩,q3⟩),
     λhh=>(by rw[u 3 (by omega)]at hh;rw[al_gn (by omega)];exact h.h3 hh),
     λhh=>(by rw[u 4 (by omega)]at hh;obtain⟨q1,q2,q3⟩:=h.h4 hh;exact⟨by rw[al_gn (by omega)];exact q1,al_old q2,q3⟩),
     λ_=>⟨by simp[hs],by rw[u 6 (by omega),l6];exact al_new _ _,h.ge⟩⟩
    simp only[execOp,Act.eval];clear hm;go_simp
   ·
    have a4:L 4=true:=hall ⟨4,.data⟩ (by simp) rfl;have a5:L 5=true:=hall ⟨5,.data⟩ (by simp) rfl;have u:∀j,j≠6->upd L 6 true j=L j:=λj hj=>upd_ne _ _ hj;obtain⟨q1,q2,q3⟩:=h.h5 a5;obtain⟨r1,r2,r3⟩:=h.h4 a4;rw[hL]at q2;have cx:=(zq0 (off:=0) q2).trans (show _=some (.pointer none)from rfl);have zx:=zq5 (off:=0) q2;have hst:=hp_set_same w' x 0 (.pointer (some ⟨p,0,none⟩)) q2;have hne:∀b y,w'.heap[b]?=some y->(∀c,y≠Obj.cells c 103)->(w'.setCell ⟨x,0,none⟩ (.pointer (some ⟨p,0,none⟩))).heap[b]?=some y:=λb y hb hy=>by
     rw[hp_set_ne _ _ _ _ (λ(e:b=x)=>by subst e;rw[q2]at hb;cases hb;exact hy _ rfl)];exact hb
    refine .inr ⟨rfl,w'.setCell ⟨x,0,none⟩ (.pointer (some ⟨p,0,none⟩)),?_,c,g,p,x,hs,h.keep,(by rw[hp_size_set];exact h.ge),λb hb=>(by rw[hp_set_ne _ _ _ _ (by show b≠x;omega)];exact h.old b hb),
     λhh=>(by rw[u 3 (by omega)]at hh;rw[u 0 (by omega),u 2 (by omega)];exact h.l3 hh),λhh=>(by rw[u 4 (by omega)]at hh;rw[u 3 (by omega)];exact h.l4 hh),λ_=>⟨by rw[u 4 (by omega)];exact a4,by rw[u 5 (by omega)];exact a5⟩,
     λhh=>(by rw[u 0 (by omega)]at hh;obtain⟨s1,s2,s3⟩:=h.h0 hh;exact⟨s1,hne _ _ s2 (by intro c e;cases e),s3⟩),
     λhh=>(by rw[u 1 (by omega)]at hh;exact h.h1 hh),
     λhh=>(by rw[u 2 (by omega)]at hh;obtain⟨s1,⟨br,s2,s4⟩,s3⟩:=h.h2 hh;exact⟨s1,⟨br,hne _ _ s2 (by intro c e;cases e),s4⟩,s3⟩),
     λhh=>(by rw[u 3 (by omega)]at hh;exact h.h3 hh),
     λhh=>(by rw[u 4 (by omega)]at hh;exact⟨r1,hne _ _ r2 (by intro c e;cases e),r3⟩),
     λhh=>⟨q1,by rw[upd_same];exact hst.trans (by rfl),q3⟩⟩
    simp only[execOp,Act.eval,al_gd,q1,r1,al_od];clear hm;go_simp
 · rintro L T w' hall ⟨c,g,p,x,h⟩;obtain⟨q1,q2,q3⟩:=h.h5 (hall 5 (by simp));rw[hall 6 (by simp)]at q2;obtain⟨s1,s2,s3⟩:=h.h0 (hall 0 (by simp));obtain⟨v1,v2,v3⟩:=h.h2 (hall 2 (by simp));obtain⟨r1,r2,r3⟩:=h.h4 (hall 4 (by simp));refine hJ.ctl (s:=n) (λw=>stepG_region_end) ?_;exact hm.out T w' c g p x h.size h.keep h.ge h.old s3 v3 r3 q3 s2 v2 r2 q2 q1
theorem mk_stand(w:World)(b c:Nat):(Instr.build 111 #[(0,.pointer (some ⟨b,0,none⟩)),(1,.chan (some c))]).run Try.prog w=.ok (.agg #[.pointer (some ⟨b,0,none⟩),.chan (some c),.bool false]) w:=run_build w _ _ _ (by kernel_rfl)
theorem mk_one(w:World)(s:Nat):(Instr.buildSlice 105 1 #[(0,.pointer (some ⟨s,0,none⟩))]).run Try.prog w=.ok (.slice (some ⟨w.heap.size,0,none⟩) 1 1) (w.alloc (.cells #[.pointer (some ⟨s,0,none⟩)] 108)):=by
 obtain⟨ti,hti,hz0,hz1⟩:∃ti,Try.prog.info? 108=some ti/\ti.zero=some (.pointer none)/\ti.size=1:=⟨_,rfl,rfl,rfl⟩;exact run_buildSlice w 105 108 1 _ _ ti (.pointer none) (by kernel_rfl) hti hz0 (by rw[hz1];decide) (by rw[hz1];decide) (by rw[hz1];kernel_rfl)
structure I6(B1 j N bX bT bB back capB:Nat)(E:Nat->Option Obj)(l:List Value)(sv:Value)(T₀:Array Value)(w₀:World)(c s r:Nat)(v':Value)(L:Nat->Bool)(T:Array Value)(w:World):Prop where
 size:T.size=129
 keep:∀t,t<32\/44<t->T[t]?=T₀[t]?
 ge:w₀.heap.size<=w.heap.size
 ext:∀b o,E b=some o->w.heap[b]?=some o
 bt:w.heap[bT]?=some (.cells #[.chan (some back),if L 13=true then v' else sv,.slice (some ⟨bB,0,none⟩) N capB] 107)
 row:L 10=false->w.ownsRow B1 108 1 sv j l
 k7:L 7=true->L 6=true
 k8:L 8=true->L 7=true
 k9:L 9=true->L 8=true
 k10:L 10=true->L 9=true
 k13:L 13=true->L 10=true
 k4:L 10=true->L 4=true
 h0:L 0=true->T[32]?=some (.pointer (some ⟨bT,0,none⟩))
 h1:L 1=true->T[33]?=some (.pointer (some ⟨bT,0,none⟩))
 h2:L 2=true->T[34]?=some (.pointer (some ⟨bT,0,none⟩))
 h3:L 3=true->T[35]?=some (.pointer (some ⟨bT,1,none⟩))
 h4:L 4=true->T[36]?=some sv
 h5:L 5=true->T[37]?=some (.pointer (some ⟨bT,0,none⟩))
 h6:L 6=true->T[38]?=some (.chan (some c))/\w.heap[c]?=some (.chan 0 #[] false 0 0 false)/\w₀.heap.size<=c
 h7:L 7=true->T[39]?=some (.agg #[.pointer (some ⟨bT,0,none⟩),.chan (some c),.bool false])
 h8:L 8=true->T[40]?=some (.pointer (some ⟨s,0,none⟩))/\w.heap[s]?=some (.cells #[.pointer (some ⟨bT,0,none⟩),.chan (some c),.bool false] 111)/\c<s
 h9:L 9=true->L 10=false->T[41]?=some (.slice (some ⟨r,0,none⟩) 1 1)/\w.heap[r]?=some (.cells #[.pointer (some ⟨s,0,none⟩)] 108)
 h10:L 10=true->T[42]?=some v'/\w.ownsRow B1 108 1 v' (j+1) (l++[.pointer (some ⟨s,0,none⟩)])
 h11:L 11=true->T[43]?=some (.pointer (some ⟨bT,0,none⟩))
 h12:L 12=true->T[44]?=some (.pointer (some ⟨bT,1,none⟩))
theorem row_alloc{w:World}{B:Nat}{e:TypeId}{v:Value}{n:Nat}{xs:List Value}(h:w.ownsRow B e 1 v n xs)(o:Obj):(w.alloc o).ownsRow B e 1 v n xs:=by
 refine⟨h.1,?_⟩;rcases h.2 with hv|⟨g,cap,cur,hv,h1,h2,h3⟩
 · exact .inl hv
 · exact .inr ⟨g,cap,cur,hv,h1,al_old h2,h3⟩
noncomputable def r6c:Code:=match headC (tailN 4 (Try.f38.body.getD .skip))with|.seq _ (.block _ (.loop (.seq _ (.seq _ (.seq (.block _ c) _)))))=>c|_=>.skip
theorem over_sixth{Fin:Machine->Trace->Prop}(hFin:Back Try.prog Fin){n B1 j N bX bT bB back capB:Nat}{E:Nat->Option Obj}{l:List Value}{sv:Value}{T₀:Array Value}{w:World}{K:List Item}{cs:List Frame}(hj:j<64)(hsz:T₀.size=129)(f10:T₀[10]?=some (.pointer (some ⟨bX,0,none⟩)))
 (hEX:E bX=some (.cells #[.pointer (some ⟨bT,0,none⟩)] 103)) (hET:E bT=none) (hEg:∀g,sv.ownBlock=some g->E g=none) (hext:∀b o,E b=some o->w.heap[b]?=some o)
 (hbt:w.heap[bT]?=some (.cells #[.chan (some back),sv,.slice (some ⟨bB,0,none⟩) N capB] 107)) (hrow:w.ownsRow B1 108 1 sv j l) (hB1:B1<=w.heap.size)
 (hmain:∀(T:Array Value)(w':World)(c s:Nat)(v':Value),T.size=129->(∀t,t<32\/44<t->T[t]?=T₀[t]?)->w.heap.size<=w'.heap.size->(∀b o,E b=some o->w'.heap[b]?=some o)->w'.heap[bT]?=some (.cells #[.chan (some back),v',.slice (some ⟨bB,0,none⟩) N capB] 107)->
  w'.ownsRow B1 108 1 v' (j+1) (l++[.pointer (some ⟨s,0,none⟩)])->w'.heap[c]?=some (.chan 0 #[] false 0 0 false)->w.heap.size<=c->w'.heap[s]?=some (.cells #[.pointer (some ⟨bT,0,none⟩),.chan (some c),.bool false] 111)->c<s->
  J0 Try.prog Fin n (G ((bN 38).at ⟨T,[]⟩ K) cs) w'):
 J0 Try.prog Fin n (G ((bN 38).at ⟨T₀,[]⟩ (.code r6c::K)) cs) w:=by
 have hJ:=j0_JS hFin;simp only[r6c,Try.f38];have hm:=Lib.hid hmain;clear hmain;refine at_draws hJ (by decide) (s:=n) (by rfl) (λL T w'=>∃c s r v',I6 B1 j N bX bT bB back capB E l sv T₀ w c s r v' L T w') (by kernel_rfl) ?_ ?_ ?_ ?_
 · rintro L T w' τ d ⟨c,s,r,v',h⟩;exact⟨c,s,r,v',⟨h.size,h.keep,h.ge,h.ext,h.bt,h.row,h.k7,h.k8,h.k9,h.k10,h.k13,h.k4,h.h0,h.h1,h.h2,h.h3,h.h4,h.h5,h.h6,h.h7,h.h8,h.h9,h.h10,h.h11,h.h12⟩⟩
 · exact⟨0,0,0,.nilFunc,hsz,λ_ _=>rfl,Nat.le_refl _,hext,hbt,λ_=>hrow,by simp,by simp,by simp,by simp,by simp,by simp,by simp,by simp,by simp,by simp,by simp,by simp,by simp,by simp,by simp,by simp,by simp,by simp,by simp⟩
 · rintro L T w' i o ⟨c,s,r,v',h⟩ hL ho hall;have hlt:i=0\/i=1\/i=2\/i=3\/i=4\/i=5\/i=6\/i=7\/i=8\/i=9\/i=10\/i=11\/i=12\/i=13:=by have:i<14:=(Array.getElem?_eq_some_iff.1 ho).1;omega
   have hcX:w'.cell? ⟨bX,0,none⟩=some (.pointer (some ⟨bT,0,none⟩)):=(zq0 (h.ext _ _ hEX)).trans rfl;have hcT:w'.cell? ⟨bT,1,none⟩=some (if L 13=true then v' else sv):=(zq0 h.bt).trans rfl;have f10':=(h.keep 10 (by omega)).trans f10;have hs:=h.size;have n13:L 10=false->L 13=false:=λe=>(by cases e':L 13 with|false=>rfl |true=>(have:=h.k13 e';rw[e]at this;cases this));rcases hlt with rfl |rfl |rfl |rfl |rfl |rfl |rfl |rfl |rfl |rfl |rfl |rfl |rfl |rfl<;>(simp only[al_gl,al_g0,al_g1,al_oi]at ho;subst ho)
   ·
    have u:∀j,j≠0->upd L 0 true j=L j:=λj hj=>upd_ne _ _ hj;refine .inl ⟨32,rfl,.pointer (some ⟨bT,0,none⟩),w',?_,c,s,r,v',by simp[hs],λt ht=>(by rw[al_gn (by omega)];exact h.keep t ht),h.ge,h.ext,(by rw[u 13 (by omega)];exact h.bt),(λhh=>by rw[u 10 (by omega)]at hh;exact h.row hh),λhh=>(by rw[u 7 (by omega)]at hh;rw[u 6 (by omega)];exact h.k7 hh),λhh=>(by rw[u 8 (by omega)]at hh;rw[u 7 (by omega)];exact h.k8 hh),λhh=>(by rw[u 9 (by omega)]at hh;rw[u 8 (by omega)];exact h.k9 hh),λhh=>(by rw[u 10 (by omega)]at hh;rw[u 9 (by omega)];exact h.k10 hh),λhh=>(by rw[u 13 (by omega)]at hh;rw[u 10 (by omega)];exact h.k13 hh),(λhh=>by rw[u 10 (by omega)]at hh;rw[u 4 (by omega)];exact h.k4 hh),
     λ_=>by simp[hs],
     λhh=>(by rw[u 1 (by omega)]at hh;rw[al_gn (by omega)];exact h.h1 hh),
     λhh=>(by rw[u 2 (by omega)]at hh;rw[al_gn (by omega)];exact h.h2 hh),
     λhh=>(by rw[u 3 (by omega)]at hh;rw[al_gn (by omega)];exact h.h3 hh),
     λhh=>(by rw[u 4 (by omega)]at hh;rw[al_gn (by omega)];exact h.h4 hh),
     λhh=>(by rw[u 5 (by omega)]at hh;rw[al_gn (by omega)];exact h.h5 hh),
     λhh=>(by rw[u 6 (by omega)]at hh;obtain⟨q1,q2,q3⟩:=h.h6 hh;exact⟨(by rw[al_gn (by omega)];exact q1),q2,q3⟩),
     λhh=>(by rw[u 7 (by omega)]at hh;rw[al_gn (by omega)];exact h.h7 hh),
     λhh=>(by rw[u 8 (by omega)]at hh;obtain⟨q1,q2,q3⟩:=h.h8 hh;exact⟨(by rw[al_gn (by omega)];exact q1),q2,q3⟩),
     λhh h10=>(by rw[u 9 (by omega)]at hh;rw[u 10 (by omega)]at h10;obtain⟨q1,q2⟩:=h.h9 hh h10;exact⟨(by rw[al_gn (by omega)];exact q1),q2⟩),
     λhh=>(by rw[u 10 (by omega)]at hh;obtain⟨q1,q2⟩:=h.h10 hh;exact⟨(by rw[al_gn (by omega)];exact q1),q2⟩),
     λhh=>(by rw[u 11 (by omega)]at hh;rw[al_gn (by omega)];exact h.h11 hh),
     λhh=>(by rw[u 12 (by omega)]at hh;rw[al_gn (by omega)];exact h.h12 hh)⟩
    simp only[execOp,Act.eval,List.map_toArray,List.map_cons,List.map_nil,al_gd,f10',al_od];clear hm;go_simp
   ·
    have u:∀j,j≠1->upd L 1 true j=L j:=λj hj=>upd_ne _ _ hj;refine .inl ⟨33,rfl,.pointer (some ⟨bT,0,none⟩),w',?_,c,s,r,v',by simp[hs],λt ht=>(by rw[al_gn (by omega)];exact h.keep t ht),h.ge,h.ext,(by rw[u 13 (by omega)];exact h.bt),(λhh=>by rw[u 10 (by omega)]at hh;exact h.row hh),λhh=>(by rw[u 7 (by omega)]at hh;rw[u 6 (by omega)];exact h.k7 hh),λhh=>(by rw[u 8 (by omega)]at hh;rw[u 7 (by omega)];exact h.k8 hh),λhh=>(by rw[u 9 (by omega)]at hh;rw[u 8 (by omega)];exact h.k9 hh),λhh=>(by rw[u 10 (by omega)]at hh;rw[u 9 (by omega)];exact h.k10 hh),λhh=>(by rw[u 13 (by omega)]at hh;rw[u 10 (by omega)];exact h.k13 hh),(λhh=>by rw[u 10 (by omega)]at hh;rw[u 4 (by omega)];exact h.k4 hh),
     λhh=>(by rw[u 0 (by omega)]at hh;rw[al_gn (by omega)];exact h.h0 hh),
     λ_=>by simp[hs],
     λhh=>(by rw[u 2 (by omega)]at hh;rw[al_gn (by omega)];exact h.h2 hh),
     λhh=>(by rw[u 3 (by omega)]at hh;rw[al_gn (by omega)];exact h.h3 hh),
     λhh=>(by rw[u 4 (by omega)]at hh;rw[al_gn (by omega)];exact h.h4 hh),
     λhh=>(by rw[u 5 (by omega)]at hh;rw[al_gn (by omega)];exact h.h5 hh),
     λhh=>(by rw[u 6 (by omega)]at hh;obtain⟨q1,q2,q3⟩:=h.h6 hh;exact⟨(by rw[al_gn (by omega)];exact q1),q2,q3⟩),
     λhh=>(by rw[u 7 (by omega)]at hh;rw[al_gn (by omega)];exact h.h7 hh),
     λhh=>(by rw[u 8 (by omega)]at hh;obtain⟨q1,q2,q3⟩:=h.h8 hh;exact⟨(by rw[al_gn (by omega)];exact q1),q2,q3⟩),
     λhh h10=>(by rw[u 9 (by omega)]at hh;rw[u 10 (by omega)]at h10;obtain⟨q1,q2⟩:=h.h9 hh h10;exact⟨(by rw[al_gn (by omega)];exact q1),q2⟩),
     λhh=>(by rw[u 10 (by omega)]at hh;obtain⟨q1,q2⟩:=h.h10 hh;exact⟨(by rw[al_gn (by omega)];exact q1),q2⟩),
     λhh=>(by rw[u 11 (by omega)]at hh;rw[al_gn (by omega)];exact h.h11 hh),
     λhh=>(by rw[u 12 (by omega)]at hh;rw[al_gn (by omega)];exact h.h12 hh)⟩
    simp only[execOp,Act.eval,List.map_toArray,List.map_cons,List.map_nil,al_gd,f10',al_od];clear hm;go_simp
   ·
    have a1:L 1=true:=hall ⟨1,.data⟩ (by simp) rfl;have u:∀j,j≠2->upd L 2 true j=L j:=λj hj=>upd_ne _ _ hj;refine .inl ⟨34,rfl,.pointer (some ⟨bT,0,none⟩),w',?_,c,s,r,v',by simp[hs],λt ht=>(by rw[al_gn (by omega)];exact h.keep t ht),h.ge,h.ext,(by rw[u 13 (by omega)];exact h.bt),(λhh=>by rw[u 10 (by omega)]at hh;exact h.row hh),λhh=>(by rw[u 7 (by omega)]at hh;rw[u 6 (by omega)];exact h.k7 hh),λhh=>(by rw[u 8 (by omega)]at hh;rw[u 7 (by omega)];exact h.k8 hh),λhh=>(by rw[u 9 (by omega)]at hh;rw[u 8 (by omega)];exact h.k9 hh),λhh=>(by rw[u 10 (by omega)]at hh;rw[u 9 (by omega)];exact h.k10 hh),λhh=>(by rw[u 13 (by omega)]at hh;rw[u 10 (by omega)];exact h.k13 hh),(λhh=>by rw[u 10 (by omega)]at hh;rw[u 4 (by omega)];exact h.k4 hh),
     λhh=>(by rw[u 0 (by omega)]at hh;rw[al_gn (by omega)];exact h.h0 hh),
     λhh=>(by rw[u 1 (by omega)]at hh;rw[al_gn (by omega)];exact h.h1 hh),
     λ_=>by simp[hs],
     λhh=>(by rw[u 3 (by omega)]at hh;rw[al_gn (by omega)];exact h.h3 hh),
     λhh=>(by rw[u 4 (by omega)]at hh;rw[al_gn (by omega)];exact h.h4 hh),
     λhh=>(by rw[u 5 (by omega)]at hh;rw[al_gn (by omega)];exact h.h5 hh),
     λhh=>(by rw[u 6 (by omega)]at hh;obtain⟨q1,q2,q3⟩:=h.h6 hh;exact⟨(by rw[al_gn (by omega)];exact q1),q2,q3⟩),
     λhh=>(by rw[u 7 (by omega)]at hh;rw[al_gn (by omega)];exact h.h7 hh),
     λhh=>(by rw[u 8 (by omega)]at hh;obtain⟨q1,q2,q3⟩:=h.h8 hh;exact⟨(by rw[al_gn (by omega)];exact q1),q2,q3⟩),
     λhh h10=>(by rw[u 9 (by omega)]at hh;rw[u 10 (by omega)]at h10;obtain⟨q1,q2⟩:=h.h9 hh h10;exact⟨(by rw[al_gn (by omega)];exact q1),q2⟩),
     λhh=>(by rw[u 10 (by omega)]at hh;obtain⟨q1,q2⟩:=h.h10 hh;exact⟨(by rw[al_gn (by omega)];exact q1),q2⟩),
     λhh=>(by rw[u 11 (by omega)]at hh;rw[al_gn (by omega)];exact h.h11 hh),
     λhh=>(by rw[u 12 (by omega)]at hh;rw[al_gn (by omega)];exact h.h12 hh)⟩
    simp only[execOp,Act.eval,List.map_toArray,List.map_cons,List.map_nil,al_gd,h.h1 a1,al_od];clear hm;go_simp
   ·
    have a2:L 2=true:=hall ⟨2,.data⟩ (by simp) rfl;have u:∀j,j≠3->upd L 3 true j=L j:=λj hj=>upd_ne _ _ hj;refine .inl ⟨35,rfl,.pointer (some ⟨bT,1,none⟩),w',?_,c,s,r,v',by simp[hs],λt ht=>(by rw[al_gn (by omega)];exact h.keep t ht),h.ge,h.ext,(by rw[u 13 (by omega)];exact h.bt),(λhh=>by rw[u 10 (by omega)]at hh;exact h.row hh),λhh=>(by rw[u 7 (by omega)]at hh;rw[u 6 (by omega)];exact h.k7 hh),λhh=>(by rw[u 8 (by omega)]at hh;rw[u 7 (by omega)];exact h.k8 hh),λhh=>(by rw[u 9 (by omega)]at hh;rw[u 8 (by omega)];exact h.k9 hh),λhh=>(by rw[u 10 (by omega)]at hh;rw[u 9 (by omega)];exact h.k10 hh),λhh=>(by rw[u 13 (by omega)]at hh;rw[u 10 (by omega)];exact h.k13 hh),(λhh=>by rw[u 10 (by omega)]at hh;rw[u 4 (by omega)];exact h.k4 hh),
     λhh=>(by rw[u 0 (by omega)]at hh;rw[al_gn (by omega)];exact h.h0 hh),
     λhh=>(by rw[u 1 (by omega)]at hh;rw[al_gn (by omega)];exact h.h1 hh),
     λhh=>(by rw[u 2 (by omega)]at hh;rw[al_gn (by omega)];exact h.h2 hh),
     λ_=>by simp[hs],
     λhh=>(by rw[u 4 (by omega)]at hh;rw[al_gn (by omega)];exact h.h4 hh),
     λhh=>(by rw[u 5 (by omega)]at hh;rw[al_gn (by omega)];exact h.h5 hh),
     λhh=>(by rw[u 6 (by omega)]at hh;obtain⟨q1,q2,q3⟩:=h.h6 hh;exact⟨(by rw[al_gn (by omega)];exact q1),q2,q3⟩),
     λhh=>(by rw[u 7 (by omega)]at hh;rw[al_gn (by omega)];exact h.h7 hh),
     λhh=>(by rw[u 8 (by omega)]at hh;obtain⟨q1,q2,q3⟩:=h.h8 hh;exact⟨(by rw[al_gn (by omega)];exact q1),q2,q3⟩),
     λhh h10=>(by rw[u 9 (by omega)]at hh;rw[u 10 (by omega)]at h10;obtain⟨q1,q2⟩:=h.h9 hh h10;exact⟨(by rw[al_gn (by omega)];exact q1),q2⟩),
     λhh=>(by rw[u 10 (by omega)]at hh;obtain⟨q1,q2⟩:=h.h10 hh;exact⟨(by rw[al_gn (by omega)];exact q1),q2⟩),
     λhh=>(by rw[u 11 (by omega)]at hh;rw[al_gn (by omega)];exact h.h11 hh),
     λhh=>(by rw[u 12 (by omega)]at hh;rw[al_gn (by omega)];exact h.h12 hh)⟩
    simp only[execOp,Act.eval,List.map_toArray,List.map_cons,List.map_nil,al_gd,h.h2 a2,al_od];clear hm;go_simp
   ·
    have a3:L 3=true:=hall ⟨3,.data⟩ (by simp) rfl;have l10:L 10=false:=(by cases e:L 10 with|false=>rfl |true=>(have:=h.k4 e;rw[hL]at this;cases this));have u:∀j,j≠4->upd L 4 true j=L j:=λj hj=>upd_ne _ _ hj;refine .inl ⟨36,rfl,sv,w',?_,c,s,r,v',by simp[hs],λt ht=>(by rw[al_gn (by omega)];exact h.keep t ht),h.ge,h.ext,(by rw[u 13 (by omega)];exact h.bt),(λhh=>by rw[u 10 (by omega)]at hh;exact h.row hh),λhh=>(by rw[u 7 (by omega)]at hh;rw[u 6 (by omega)];exact h.k7 hh),λhh=>(by rw[u 8 (by omega)]at hh;rw[u 7 (by omega)];exact h.k8 hh),λhh=>(by rw[u 9 (by omega)]at hh;rw[u 8 (by omega)];exact h.k9 hh),λhh=>(by rw[u 10 (by omega)]at hh;rw[u 9 (by omega)];exact h.k10 hh),λhh=>(by rw[u 13 (by omega)]at hh;rw[u 10 (by omega)];exact h.k13 hh),(λ_=>upd_same _ _ _),
     λhh=>(by rw[u 0 (by omega)]at hh;rw[al_gn (by omega)];exact h.h0 hh),
     λhh=>(by rw[u 1 (by omega)]at hh;rw[al_gn (by omega)];exact h.h1 hh),
     λhh=>(by rw[u 2 (by omega)]at hh;rw[al_gn (by omega)];exact h.h2 hh),
     λhh=>(by rw[u 3 (by omega)]at hh;rw[al_gn (by omega)];exact h.h3 hh),
     λ_=>by simp[hs],
     λhh=>(by rw[u 5 (by omega)]at hh;rw[al_gn (by omega)];exact h.h5 hh),
     λhh=>(by rw[u 6 (by omega)]at hh;obtain⟨q1,q2,q3⟩:=h.h6 hh;exact⟨(by rw[al_gn (by omega)];exact q1),q2,q3⟩),
     λhh=>(by rw[u 7 (by omega)]at hh;rw[al_gn (by omega)];exact h.h7 hh),
     λhh=>(by rw[u 8 (by omega)]at hh;obtain⟨q1,q2,q3⟩:=h.h8 hh;exact⟨(by rw[al_gn (by omega)];exact q1),q2,q3⟩),
     λhh h10=>(by rw[u 9 (by omega)]at hh;rw[u 10 (by omega)]at h10;obtain⟨q1,q2⟩:=h.h9 hh h10;exact⟨(by rw[al_gn (by omega)];exact q1),q2⟩),
     λhh=>(by rw[u 10 (by omega)]at hh;obtain⟨q1,q2⟩:=h.h10 hh;exact⟨(by rw[al_gn (by omega)];exact q1),q2⟩),
     λhh=>(by rw[u 11 (by omega)]at hh;rw[al_gn (by omega)];exact h.h11 hh),
     λhh=>(by rw[u 12 (by omega)]at hh;rw[al_gn (by omega)];exact h.h12 hh)⟩
    rw[n13 l10]at hcT;simp only[Bool.false_eq_true,if_false]at hcT;simp only[execOp,Act.eval,List.map_toArray,List.map_cons,List.map_nil,al_gd,h.h3 a3,al_od];clear hm;go_simp
   ·
    have u:∀j,j≠5->upd L 5 true j=L j:=λj hj=>upd_ne _ _ hj;refine .inl ⟨37,rfl,.pointer (some ⟨bT,0,none⟩),w',?_,c,s,r,v',by simp[hs],λt ht=>(by rw[al_gn (by omega)];exact h.keep t ht),h.ge,h.ext,(by rw[u 13 (by omega)];exact h.bt),(λhh=>by rw[u 10 (by omega)]at hh;exact h.row hh),λhh=>(by rw[u 7 (by omega)]at hh;rw[u 6 (by omega)];exact h.k7 hh),λhh=>(by rw[u 8 (by omega)]at hh;rw[u 7 (by omega)];exact h.k8 hh),λhh=>(by rw[u 9 (by omega)]at hh;rw[u 8 (by omega)];exact h.k9 hh),λhh=>(by rw[u 10 (by omega)]at hh;rw[u 9 (by omega)];exact h.k10 hh),λhh=>(by rw[u 13 (by omega)]at hh;rw[u 10 (by omega)];exact h.k13 hh),(λhh=>by rw[u 10 (by omega)]at hh;rw[u 4 (by omega)];exact h.k4 hh),
     λhh=>(by rw[u 0 (by omega)]at hh;rw[al_gn (by omega)];exact h.h0 hh),
     λhh=>(by rw[u 1 (by omega)]at hh;rw[al_gn (by omega)];exact h.h1 hh),
     λhh=>(by rw[u 2 (by omega)]at hh;rw[al_gn (by omega)];exact h.h2 hh),
     λhh=>(by rw[u 3 (by omega)]at hh;rw[al_gn (by omega)];exact h.h3 hh),
     λhh=>(by rw[u 4 (by omega)]at hh;rw[al_gn (by omega)];exact h.h4 hh),
     λ_=>by simp[hs],
     λhh=>(by rw[u 6 (by omega)]at hh;obtain⟨q1,q2,q3⟩:=h.h6 hh;exact⟨(by rw[al_gn (by omega)];exact q1),q2,q3⟩),
     λhh=>(by rw[u 7 (by omega)]at hh;rw[al_gn (by omega)];exact h.h7 hh),
     λhh=>(by rw[u 8 (by omega)]at hh;obtain⟨q1,q2,q3⟩:=h.h8 hh;exact⟨(by rw[al_gn (by omega)];exact q1),q2,q3⟩),
     λhh h10=>(by rw[u 9 (by omega)]at hh;rw[u 10 (by omega)]at h10;obtain⟨q1,q2⟩:=h.h9 hh h10;exact⟨(by rw[al_gn (by omega)];exact q1),q2⟩),
     λhh=>(by rw[u 10 (by omega)]at hh;obtain⟨q1,q2⟩:=h.h10 hh;exact⟨(by rw[al_gn (by omega)];exact q1),q2⟩),
     λhh=>(by rw[u 11 (by omega)]at hh;rw[al_gn (by omega)];exact h.h11 hh),
     λhh=>(by rw[u 12 (by omega)]at hh;rw[al_gn (by omega)];exact h.h12 hh)⟩
    simp only[execOp,Act.eval,List.map_toArray,List.map_cons,List.map_nil,al_gd,f10',al_od];clear hm;go_simp
   ·
    have u:∀j,j≠6->upd L 6 true j=L j:=λj hj=>upd_ne _ _ hj;refine .inl ⟨38,rfl,.chan (some w'.heap.size),w'.alloc (.chan 0 #[] false 0 0 false),?_,w'.heap.size,s,r,v',by simp[hs],λt ht=>(by rw[al_gn (by omega)];exact h.keep t ht),(by rw[zq3];exact Nat.le_succ_of_le h.ge),(λb o hb=>al_old (h.ext b o hb)),(by rw[u 13 (by omega)];exact al_old h.bt),(λhh=>by rw[u 10 (by omega)]at hh;exact row_alloc (h.row hh) _),λ_=>upd_same _ _ _,λhh=>(by rw[u 8 (by omega)]at hh;rw[u 7 (by omega)];exact h.k8 hh),λhh=>(by rw[u 9 (by omega)]at hh;rw[u 8 (by omega)];exact h.k9 hh),λhh=>(by rw[u 10 (by omega)]at hh;rw[u 9 (by omega)];exact h.k10 hh),λhh=>(by rw[u 13 (by omega)]at hh;rw[u 10 (by omega)];exact h.k13 hh),(λhh=>by rw[u 10 (by omega)]at hh;rw[u 4 (by omega)];exact h.k4 hh),
     λhh=>(by rw[u 0 (by omega)]at hh;rw[al_gn (by omega)];exact h.h0 hh),
     λhh=>(by rw[u 1 (by omega)]at hh;rw[al_gn (by omega)];exact h.h1 hh),
     λhh=>(by rw[u 2 (by omega)]at hh;rw[al_gn (by omega)];exact h.h2 hh),
     λhh=>(by rw[u 3 (by omega)]at hh;rw[al_gn (by omega)];exact h.h3 hh),
     λhh=>(by rw[u 4 (by omega)]at hh;rw[al_gn (by omega)];exact h.h4 hh),
     λhh=>(by rw[u 5 (by omega)]at hh;rw[al_gn (by omega)];exact h.h5 hh),
     λ_=>⟨by simp[hs],al_new _ _,h.ge⟩,
     λhh=>(by rw[u 7 (by omega)]at hh;have:=(h.k7 hh);rw[hL]at this;cases this),
     λhh=>(by rw[u 8 (by omega)]at hh;have:=(h.k7 (h.k8 hh));rw[hL]at this;cases this),
     λhh h10=>(by rw[u 9 (by omega)]at hh;rw[u 10 (by omega)]at h10;obtain⟨q1,q2⟩:=h.h9 hh h10;exact⟨(by rw[al_gn (by omega)];exact q1),al_old q2⟩),
     λhh=>(by rw[u 10 (by omega)]at hh;obtain⟨q1,q2⟩:=h.h10 hh;exact⟨(by rw[al_gn (by omega)];exact q1),row_alloc q2 _⟩),
     λhh=>(by rw[u 11 (by omega)]at hh;rw[al_gn (by omega)];exact h.h11 hh),
     λhh=>(by rw[u 12 (by omega)]at hh;rw[al_gn (by omega)];exact h.h12 hh)⟩
    simp only[execOp,Act.eval,Sem.run_bind,mk_chan _ w' (.inr rfl)];rfl
   ·
    have a5:L 5=true:=hall ⟨5,.data⟩ (by simp) rfl;have a6:L 6=true:=hall ⟨6,.data⟩ (by simp) rfl;have u:∀j,j≠7->upd L 7 true j=L j:=λj hj=>upd_ne _ _ hj;refine .inl ⟨39,rfl,.agg #[.pointer (some ⟨bT,0,none⟩),.chan (some c),.bool false],w',?_,c,s,r,v',by simp[hs],λt ht=>(by rw[al_gn (by omega)];exact h.keep t ht),h.ge,h.ext,(by rw[u 13 (by omega)];exact h.bt),(λhh=>by rw[u 10 (by omega)]at hh;exact h.row hh),λ_=>(by rw[u 6 (by omega)];exact a6),λ_=>upd_same _ _ _,λhh=>(by rw[u 9 (by omega)]at hh;rw[u 8 (by omega)];exact h.k9 hh),λhh=>(by rw[u 10 (by omega)]at hh;rw[u 9 (by omega)];exact h.k10 hh),λhh=>(by rw[u 13 (by omega)]at hh;rw[u 10 (by omega)];exact h.k13 hh),(λhh=>by rw[u 10 (by omega)]at hh;rw[u 4 (by omega)];exact h.k4 hh),
     λhh=>(by rw[u 0 (by omega)]at hh;rw[al_gn (by omega)];exact h.h0 hh),
     λhh=>(by rw[u 1 (by omega)]at hh;rw[al_gn (by omega)];exact h.h1 hh),
     λhh=>(by rw[u 2 (by omega)]at hh;rw[al_gn (by omega)];exact h.h2 hh),
     λhh=>(by rw[u 3 (by omega)]at hh;rw[al_gn (by omega)];exact h.h3 hh),
     λhh=>(by rw[u 4 (by omega)]at hh;rw[al_gn (by omega)];exact h.h4 hh),
     λhh=>(by rw[u 5 (by omega)]at hh;rw[al_gn (by omega)];exact h.h5 hh),
     λhh=>(by rw[u 6 (by omega)]at hh;obtain⟨q1,q2,q3⟩:=h.h6 hh;exact⟨(by rw[al_gn (by omega)];exact q1),q2,q3⟩),
     λ_=>by simp[hs],
     λhh=>(by rw[u 8 (by omega)]at hh;obtain⟨q1,q2,q3⟩:=h.h8 hh;exact⟨(by rw[al_gn (by omega)];exact q1),q2,q3⟩),
     λhh h10=>(by rw[u 9 (by omega)]at hh;rw[u 10 (by omega)]at h10;obtain⟨q1,q2⟩:=h.h9 hh h10;exact⟨(by rw[al_gn (by omega)];exact q1),q2⟩),
     λhh=>(by rw[u 10 (by omega)]at hh;obtain⟨q1,q2⟩:=h.h10 hh;exact⟨(by rw[al_gn (by omega)];exact q1),q2⟩),
     λhh=>(by rw[u 11 (by omega)]at hh;rw[al_gn (by omega)];exact h.h11 hh),
     λhh=>(by rw[u 12 (by omega)]at hh;rw[al_gn (by omega)];exact h.h12 hh)⟩
    simp only[execOp,Act.eval,List.map_toArray,List.map_cons,List.map_nil,al_gd,h.h5 a5,(h.h6 a6).1,al_od,Sem.run_bind,mk_stand];rfl
   ·
    have a7:L 7=true:=hall ⟨7,.data⟩ (by simp) rfl;have u:∀j,j≠8->upd L 8 true j=L j:=λj hj=>upd_ne _ _ hj;refine .inl ⟨40,rfl,.pointer (some ⟨w'.heap.size,0,none⟩),w'.alloc (.cells #[.pointer (some ⟨bT,0,none⟩),.chan (some c),.bool false] 111),?_,c,w'.heap.size,r,v',by simp[hs],λt ht=>(by rw[al_gn (by omega)];exact h.keep t ht),(by rw[zq3];exact Nat.le_succ_of_le h.ge),(λb o hb=>al_old (h.ext b o hb)),(by rw[u 13 (by omega)];exact al_old h.bt),(λhh=>by rw[u 10 (by omega)]at hh;exact row_alloc (h.row hh) _),λhh=>(by rw[u 7 (by omega)]at hh;rw[u 6 (by omega)];exact h.k7 hh),λ_=>(by rw[u 7 (by omega)];exact a7),λ_=>upd_same _ _ _,λhh=>(by rw[u 10 (by omega)]at hh;rw[u 9 (by omega)];exact h.k10 hh),λhh=>(by rw[u 13 (by omega)]at hh;rw[u 10 (by omega)];exact h.k13 hh),(λhh=>by rw[u 10 (by omega)]at hh;rw[u 4 (by omega)];exact h.k4 hh),
     λhh=>(by rw[u 0 (by omega)]at hh;rw[al_gn (by omega)];exact h.h0 hh),
     λhh=>(by rw[u 1 (by omega)]at hh;rw[al_gn (by omega)];exact h.h1 hh),
     λhh=>(by rw[u 2 (by omega)]at hh;rw[al_gn (by omega)];exact h.h2 hh),
     λhh=>(by rw[u 3 (by omega)]at hh;rw[al_gn (by omega)];exact h.h3 hh),
     λhh=>(by rw[u 4 (by omega)]at hh;rw[al_gn (by omega)];exact h.h4 hh),
     λhh=>(by rw[u 5 (by omega)]at hh;rw[al_gn (by omega)];exact h.h5 hh),
     λhh=>(by rw[u 6 (by omega)]at hh;obtain⟨q1,q2,q3⟩:=h.h6 hh;exact⟨(by rw[al_gn (by omega)];exact q1),al_old q2,q3⟩),
     λhh=>(by rw[u 7 (by omega)]at hh;rw[al_gn (by omega)];exact h.h7 hh),
     λ_=>⟨by simp[hs],al_new _ _,zq4 (h.h6 (h.k7 a7)).2.1⟩,
     λhh h10=>(by rw[u 9 (by omega)]at hh;have:=(h.k9 hh);rw[hL]at this;cases this),
     λhh=>(by rw[u 10 (by omega)]at hh;have:=(h.k9 (h.k10 hh));rw[hL]at this;cases this),
     λhh=>(by rw[u 11 (by omega)]at hh;rw[al_gn (by omega)];exact h.h11 hh),
     λhh=>(by rw[u 12 (by omega)]at hh;rw[al_gn (by omega)];exact h.h12 hh)⟩
    simp only[execOp,Act.eval,List.map_toArray,List.map_cons,List.map_nil,al_gd,h.h7 a7,al_od];clear hm;go_simp
   ·
    have a8:L 8=true:=hall ⟨8,.data⟩ (by simp) rfl;have u:∀j,j≠9->upd L 9 true j=L j:=λj hj=>upd_ne _ _ hj;refine .inl ⟨41,rfl,.slice (some ⟨w'.heap.size,0,none⟩) 1 1,w'.alloc (.cells #[.pointer (some ⟨s,0,none⟩)] 108),?_,c,s,w'.heap.size,v',by simp[hs],λt ht=>(by rw[al_gn (by omega)];exact h.keep t ht),(by rw[zq3];exact Nat.le_succ_of_le h.ge),(λb o hb=>al_old (h.ext b o hb)),(by rw[u 13 (by omega)];exact al_old h.bt),(λhh=>by rw[u 10 (by omega)]at hh;exact row_alloc (h.row hh) _),λhh=>(by rw[u 7 (by omega)]at hh;rw[u 6 (by omega)];exact h.k7 hh),λhh=>(by rw[u 8 (by omega)]at hh;rw[u 7 (by omega)];exact h.k8 hh),λ_=>(by rw[u 8 (by omega)];exact a8),λ_=>upd_same _ _ _,λhh=>(by rw[u 13 (by omega)]at hh;rw[u 10 (by omega)];exact h.k13 hh),(λhh=>by rw[u 10 (by omega)]at hh;rw[u 4 (by omega)];exact h.k4 hh),
     λhh=>(by rw[u 0 (by omega)]at hh;rw[al_gn (by omega)];exact h.h0 hh),
     λhh=>(by rw[u 1 (by omega)]at hh;rw[al_gn (by omega)];exact h.h1 hh),
     λhh=>(by rw[u 2 (by omega)]at hh;rw[al_gn (by omega)];exact h.h2 hh),
     λhh=>(by rw[u 3 (by omega)]at hh;rw[al_gn (by omega)];exact h.h3 hh),
     λhh=>(by rw[u 4 (by omega)]at hh;rw[al_gn (by omega)];exact h.h4 hh),
     λhh=>(by rw[u 5 (by omega)]at hh;rw[al_gn (by omega)];exact h.h5 hh),
     λhh=>(by rw[u 6 (by omega)]at hh;obtain⟨q1,q2,q3⟩:=h.h6 hh;exact⟨(by rw[al_gn (by omega)];exact q1),al_old q2,q3⟩),
     λhh=>(by rw[u 7 (by omega)]at hh;rw[al_gn (by omega)];exact h.h7 hh),
     λhh=>(by rw[u 8 (by omega)]at hh;obtain⟨q1,q2,q3⟩:=h.h8 hh;exact⟨(by rw[al_gn (by omega)];exact q1),al_old q2,q3⟩),
     λ_ _=>⟨by simp[hs],al_new _ _⟩,
     λhh=>(by rw[u 10 (by omega)]at hh;obtain⟨q1,q2⟩:=h.h10 hh;exact⟨(by rw[al_gn (by omega)];exact q1),row_alloc q2 _⟩),
     λhh=>(by rw[u 11 (by omega)]at hh;rw[al_gn (by omega)];exact h.h11 hh),
     λhh=>(by rw[u 12 (by omega)]at hh;rw[al_gn (by omega)];exact h.h12 hh)⟩
    simp only[execOp,Act.eval,List.map_toArray,List.map_cons,List.map_nil,al_gd,(h.h8 a8).1,al_od,Sem.run_bind,mk_one];rfl
   ·
    have a4:L 4=true:=hall ⟨4,.data⟩ (by simp) rfl;have a9:L 9=true:=hall ⟨9,.data⟩ (by simp) rfl;have u:∀j,j≠10->upd L 10 true j=L j:=λj hj=>upd_ne _ _ hj;have l13:=n13 hL;obtain⟨r1,r2⟩:=h.h9 a9 hL;have hrow':=h.row hL;obtain⟨ti,hti,hz0,hz1,hz2⟩:∃ti,Try.prog.info? 108=some ti/\ti.zero=some (.pointer none)/\ti.size=1/\ti.bytes=8:=⟨_,rfl,rfl,rfl,rfl⟩;obtain⟨v2,w2,hr,hown,hgr,_,hob⟩:=run_append_own_at (P:=Try.prog) w' B1 105 105 108 ti (.pointer none) 1 8 (by kernel_rfl) hti hz0 hz1 hz2 rfl (by decide) sv j l hrow' ⟨r,0,none⟩ 1 1 [.pointer (some ⟨s,0,none⟩)] rfl
     (λj u hu=>by cases j with|zero=>(cases hu;exact(zq0 r2).trans rfl)|succ j=>cases hu) (λu hu=>by simp at hu;subst hu;rfl) (by unfold maxLen;omega) (by omega) (by have:=h.ge;omega)
    have hold:∀b y,w'.heap[b]?=some y->some b≠sv.ownBlock->w2.heap[b]?=some y:=λb y hb hne=>by rw[hgr.block b (zq4 hb) hne];exact hb
    have hne:∀b y,w'.heap[b]?=some y->(∀c,y≠Obj.cells c 108)->some b≠sv.ownBlock:=λb y hb hy e=>by
     rcases hrow'.2 with⟨hv,_⟩|⟨g,cap,cur,hv,_,hg,_⟩
     · rw[hv]at e;cases e
     · rw[hv]at e;simp only[Value.ownBlock,al_oi]at e;subst e;rw[hg]at hb;cases hb;exact hy _ rfl
    refine .inl ⟨42,rfl,v2,w2,?_,c,s,r,v2,by simp[hs],λt ht=>(by rw[al_gn (by omega)];exact h.keep t ht),Nat.le_trans h.ge hgr.size,(λb o hb=>hold b o (h.ext b o hb) (λe=>by rw[hEg b e.symm]at hb;cases hb)),(by have hb:=h.bt;rw[u 13 (by omega)];rw[l13]at hb ⊢;exact hold _ _ hb (hne _ _ hb (by intro c e;cases e))),(λhh=>by rw[upd_same]at hh;cases hh),
     (λhh=>by rw[u 7 (by omega)]at hh;rw[u 6 (by omega)];exact h.k7 hh),(λhh=>by rw[u 8 (by omega)]at hh;rw[u 7 (by omega)];exact h.k8 hh),(λhh=>by rw[u 9 (by omega)]at hh;rw[u 8 (by omega)];exact h.k9 hh),(λ_=>by rw[u 9 (by omega)];exact a9),(λ_=>upd_same _ _ _),(λ_=>by rw[u 4 (by omega)];exact a4),
     (λhh=>by rw[u 0 (by omega)]at hh;rw[al_gn (by omega)];exact h.h0 hh),
     (λhh=>by rw[u 1 (by omega)]at hh;rw[al_gn (by omega)];exact h.h1 hh),
     (λhh=>by rw[u 2 (by omega)]at hh;rw[al_gn (by omega)];exact h.h2 hh),
     (λhh=>by rw[u 3 (by omega)]at hh;rw[al_gn (by omega)];exact h.h3 hh),
     (λhh=>by rw[u 4 (by omega)]at hh;rw[al_gn (by omega)];exact h.h4 hh),
     (λhh=>by rw[u 5 (by omega)]at hh;rw[al_gn (by omega)];exact h.h5 hh),
     (λhh=>by rw[u 6 (by omega)]at hh;obtain⟨q1,q2,q3⟩:=h.h6 hh;exact⟨(by rw[al_gn (by omega)];exact q1),hold _ _ q2 (hne _ _ q2 (by intro c e;cases e)),q3⟩),
     (λhh=>by rw[u 7 (by omega)]at hh;rw[al_gn (by omega)];exact h.h7 hh),
     (λhh=>by rw[u 8 (by omega)]at hh;obtain⟨q1,q2,q3⟩:=h.h8 hh;exact⟨(by rw[al_gn (by omega)];exact q1),hold _ _ q2 (hne _ _ q2 (by intro c e;cases e)),q3⟩),
     (λ_ hh=>by rw[upd_same]at hh;cases hh),
     (λ_=>⟨by simp[hs],hown⟩),
     (λhh=>by rw[u 11 (by omega)]at hh;rw[al_gn (by omega)];exact h.h11 hh),
     (λhh=>by rw[u 12 (by omega)]at hh;rw[al_gn (by omega)];exact h.h12 hh)⟩
    simp only[execOp,resolve,invoke,builtin,Sem.run_bind,Sem.run_pure,Result.andThen_ok,Act.eval,List.map_toArray,List.map_cons,List.map_nil,al_gd,h.h4 a4,r1,al_od,hr]
   ·
    have a0:L 0=true:=hall ⟨0,.data⟩ (by simp) rfl;have u:∀j,j≠11->upd L 11 true j=L j:=λj hj=>upd_ne _ _ hj;refine .inl ⟨43,rfl,.pointer (some ⟨bT,0,none⟩),w',?_,c,s,r,v',by simp[hs],λt ht=>(by rw[al_gn (by omega)];exact h.keep t ht),h.ge,h.ext,(by rw[u 13 (by omega)];exact h.bt),(λhh=>by rw[u 10 (by omega)]at hh;exact h.row hh),λhh=>(by rw[u 7 (by omega)]at hh;rw[u 6 (by omega)];exact h.k7 hh),λhh=>(by rw[u 8 (by omega)]at hh;rw[u 7 (by omega)];exact h.k8 hh),λhh=>(by rw[u 9 (by omega)]at hh;rw[u 8 (by omega)];exact h.k9 hh),λhh=>(by rw[u 10 (by omega)]at hh;rw[u 9 (by omega)];exact h.k10 hh),λhh=>(by rw[u 13 (by omega)]at hh;rw[u 10 (by omega)];exact h.k13 hh),(λhh=>by rw[u 10 (by omega)]at hh;rw[u 4 (by omega)];exact h.k4 hh),
     λhh=>(by rw[u 0 (by omega)]at hh;rw[al_gn (by omega)];exact h.h0 hh),
     λhh=>(by rw[u 1 (by omega)]at hh;rw[al_gn (by omega)];exact h.h1 hh),
     λhh=>(by rw[u 2 (by omega)]at hh;rw[al_gn (by omega)];exact h.h2 hh),
     λhh=>(by rw[u 3 (by omega)]at hh;rw[al_gn (by omega)];exact h.h3 hh),
     λhh=>(by rw[u 4 (by omega)]at hh;rw[al_gn (by omega)];exact h.h4 hh),
     λhh=>(by rw[u 5 (by omega)]at hh;rw[al_gn (by omega)];exact h.h5 hh),
     λhh=>(by rw[u 6 (by omega)]at hh;obtain⟨q1,q2,q3⟩:=h.h6 hh;exact⟨(by rw[al_gn (by omega)];exact q1),q2,q3⟩),
     λhh=>(by rw[u 7 (by omega)]at hh;rw[al_gn (by omega)];exact h.h7 hh),
     λhh=>(by rw[u 8 (by omega)]at hh;obtain⟨q1,q2,q3⟩:=h.h8 hh;exact⟨(by rw[al_gn (by omega)];exact q1),q2,q3⟩),
     λhh h10=>(by rw[u 9 (by omega)]at hh;rw[u 10 (by omega)]at h10;obtain⟨q1,q2⟩:=h.h9 hh h10;exact⟨(by rw[al_gn (by omega)];exact q1),q2⟩),
     λhh=>(by rw[u 10 (by omega)]at hh;obtain⟨q1,q2⟩:=h.h10 hh;exact⟨(by rw[al_gn (by omega)];exact q1),q2⟩),
     λ_=>by simp[hs],
     λhh=>(by rw[u 12 (by omega)]at hh;rw[al_gn (by omega)];exact h.h12 hh)⟩
    simp only[execOp,Act.eval,List.map_toArray,List.map_cons,List.map_nil,al_gd,h.h0 a0,al_od];clear hm;go_simp
   ·
    have a11:L 11=true:=hall ⟨11,.data⟩ (by simp) rfl;have u:∀j,j≠12->upd L 12 true j=L j:=λj hj=>upd_ne _ _ hj;refine .inl ⟨44,rfl,.pointer (some ⟨bT,1,none⟩),w',?_,c,s,r,v',by simp[hs],λt ht=>(by rw[al_gn (by omega)];exact h.keep t ht),h.ge,h.ext,(by rw[u 13 (by omega)];exact h.bt),(λhh=>by rw[u 10 (by omega)]at hh;exact h.row hh),λhh=>(by rw[u 7 (by omega)]at hh;rw[u 6 (by omega)];exact h.k7 hh),λhh=>(by rw[u 8 (by omega)]at hh;rw[u 7 (by omega)];exact h.k8 hh),λhh=>(by rw[u 9 (by omega)]at hh;rw[u 8 (by omega)];exact h.k9 hh),λhh=>(by rw[u 10 (by omega)]at hh;rw[u 9 (by omega)];exact h.k10 hh),λhh=>(by rw[u 13 (by omega)]at hh;rw[u 10 (by omega)];exact h.k13 hh),(λhh=>by rw[u 10 (by omega)]at hh;rw[u 4 (by omega)];exact h.k4 hh),
     λhh=>(by rw[u 0 (by omega)]at hh;rw[al_gn (by omega)];exact h.h0 hh),
     λhh=>(by rw[u 1 (by omega)]at hh;rw[al_gn (by omega)];exact h.h1 hh),
     λhh=>(by rw[u 2 (by omega)]at hh;rw[al_gn (by omega)];exact h.h2 hh),
     λhh=>(by rw[u 3 (by omega)]at hh;rw[al_gn (by omega)];exact h.h3 hh),
     λhh=>(by rw[u 4 (by omega)]at hh;rw[al_gn (by omega)];exact h.h4 hh),
     λhh=>(by rw[u 5 (by omega)]at hh;rw[al_gn (by omega)];exact h.h5 hh),
     λhh=>(by rw[u 6 (by omega)]at hh;obtain⟨q1,q2,q3⟩:=h.h6 hh;exact⟨(by rw[al_gn (by omega)];exact q1),q2,q3⟩),
     λhh=>(by rw[u 7 (by omega)]at hh;rw[al_gn (by omega)];exact h.h7 hh),
     λhh=>(by rw[u 8 (by omega)]at hh;obtain⟨q1,q2,q3⟩:=h.h8 hh;exact⟨(by rw[al_gn (by omega)];exact q1),q2,q3⟩),
     λhh h10=>(by rw[u 9 (by omega)]at hh;rw[u 10 (by omega)]at h10;obtain⟨q1,q2⟩:=h.h9 hh h10;exact⟨(by rw[al_gn (by omega)];exact q1),q2⟩),
     λhh=>(by rw[u 10 (by omega)]at hh;obtain⟨q1,q2⟩:=h.h10 hh;exact⟨(by rw[al_gn (by omega)];exact q1),q2⟩),
     λhh=>(by rw[u 11 (by omega)]at hh;rw[al_gn (by omega)];exact h.h11 hh),
     λ_=>by simp[hs]⟩
    simp only[execOp,Act.eval,List.map_toArray,List.map_cons,List.map_nil,al_gd,h.h11 a11,al_od];clear hm;go_simp
   ·
    have a10:L 10=true:=hall ⟨10,.data⟩ (by simp) rfl;have a12:L 12=true:=hall ⟨12,.data⟩ (by simp) rfl;have u:∀j,j≠13->upd L 13 true j=L j:=λj hj=>upd_ne _ _ hj;obtain⟨q1,q2⟩:=h.h10 a10;have hb:=h.bt;rw[hL]at hb hcT;have zT:=zq5 (off:=1) hb;have hst:=hp_set_same w' bT 1 v' hb;have hne:∀b y,w'.heap[b]?=some y->(∀c,y≠Obj.cells c 107)->(w'.setCell ⟨bT,1,none⟩ v').heap[b]?=some y:=λb y hb' hy=>by
     rw[hp_set_ne _ _ _ _ (λ(e:b=bT)=>by subst e;rw[hb]at hb';cases hb';exact hy _ rfl)];exact hb'
    obtain⟨g,cap,cur,hv,hg1,hg2,hg3⟩:∃g cap cur,v'=.slice (some ⟨g,0,none⟩) (j+1) cap/\B1<=g/\w'.heap[g]?=some (.cells cur 108 (0,0))/\_:=by
     rcases q2.2 with⟨_,hn⟩|hx
     · exact absurd hn (Nat.succ_ne_zero _)
     · exact hx
    refine .inr ⟨rfl,w'.setCell ⟨bT,1,none⟩ v',?_,c,s,r,v',hs,h.keep,(by rw[hp_size_set];exact h.ge),(λb o hbo=>by rw[hp_set_ne _ _ _ _ (λ(e:b=bT)=>by rw[e,hET]at hbo;cases hbo)];exact h.ext b o hbo),(by rw[upd_same];exact hst.trans (by rfl)),(λhh=>by rw[u 10 (by omega),a10]at hh;cases hh),
     (λhh=>by rw[u 7 (by omega)]at hh;rw[u 6 (by omega)];exact h.k7 hh),(λhh=>by rw[u 8 (by omega)]at hh;rw[u 7 (by omega)];exact h.k8 hh),(λhh=>by rw[u 9 (by omega)]at hh;rw[u 8 (by omega)];exact h.k9 hh),(λhh=>by rw[u 10 (by omega)]at hh;rw[u 9 (by omega)];exact h.k10 hh),(λ_=>by rw[u 10 (by omega)];exact a10),(λhh=>by rw[u 10 (by omega)]at hh;rw[u 4 (by omega)];exact h.k4 hh),
     (λhh=>by rw[u 0 (by omega)]at hh;exact h.h0 hh),
     (λhh=>by rw[u 1 (by omega)]at hh;exact h.h1 hh),
     (λhh=>by rw[u 2 (by omega)]at hh;exact h.h2 hh),
     (λhh=>by rw[u 3 (by omega)]at hh;exact h.h3 hh),
     (λhh=>by rw[u 4 (by omega)]at hh;exact h.h4 hh),
     (λhh=>by rw[u 5 (by omega)]at hh;exact h.h5 hh),
     (λhh=>by rw[u 6 (by omega)]at hh;obtain⟨q1,q2,q3⟩:=h.h6 hh;exact⟨q1,hne _ _ q2 (by intro c e;cases e),q3⟩),
     (λhh=>by rw[u 7 (by omega)]at hh;exact h.h7 hh),
     (λhh=>by rw[u 8 (by omega)]at hh;obtain⟨q1,q2,q3⟩:=h.h8 hh;exact⟨q1,hne _ _ q2 (by intro c e;cases e),q3⟩),
     (λ_ hh=>by rw[u 10 (by omega),a10]at hh;cases hh),
     (λ_=>⟨q1,q2.1,.inr ⟨g,cap,cur,hv,hg1,hne _ _ hg2 (by intro c e;cases e),hg3⟩⟩),
     (λhh=>by rw[u 11 (by omega)]at hh;exact h.h11 hh),
     (λhh=>by rw[u 12 (by omega)]at hh;exact h.h12 hh)⟩
    clear hst hne;subst hv;simp only[execOp,Act.eval,al_gd,q1,h.h12 a12,al_od];clear hm;go_simp
 · rintro L T w' hall ⟨c,s,r,v',h⟩;have a13:=hall 13 (by simp);have hb:=h.bt;rw[a13]at hb;obtain⟨q1,q2⟩:=h.h10 (hall 10 (by simp));obtain⟨s1,s2,s3⟩:=h.h8 (hall 8 (by simp));obtain⟨c1,c2,c3⟩:=h.h6 (hall 6 (by simp));refine hJ.ctl (s:=n) (λw=>stepG_region_end) ?_;exact hm.out T w' c s v' h.size h.keep h.ge h.ext hb q2 c2 c3 s2 s3
noncomputable def lpA:Code:=match headC (overT 4)with|.seq _ (.block _ (.loop c))=>c|_=>.skip
noncomputable def r5c:Code:=headC lpA
noncomputable def r7c:Code:=tailN 3 lpA
theorem lpA_eq:lpA=.seq r5c (.seq (.cond (.tmp 31) .skip (.exit 0)) (.seq (.block 1 r6c) r7c)):=by kernel_rfl
theorem over4:overT 4=.seq (.seq (headC (headC (overT 4))) (.block 0 (.loop lpA))) (overT 5):=by kernel_rfl
theorem over5:overT 5=.seq (headC (overT 5)) (overT 6):=by kernel_rfl
theorem over3:overT 3=.seq (headC (overT 3)) (overT 4):=by kernel_rfl
theorem code_eq{γ:Type}{J:γ->Goroutine->World->Prop}{s:γ}{b:Frame}{a:Act}{c x:Code}{k:List Item}{cs:List Frame}{w:World}(e:c=x)(h:J s (G (b.at a (.code x::k)) cs) w):J s (G (b.at a (.code c::k)) cs) w:=by rw[e];exact h
def stL(st:Nat->Nat)(j:Nat):List Value:=(List.range j).map λi=>.pointer (some ⟨st i,0,none⟩)
theorem stL_succ(st:Nat->Nat)(j s:Nat):stL (λi=>if i=j then s else st i) (j+1)=stL st j++[.pointer (some ⟨s,0,none⟩)]:=by
 unfold stL;rw[List.range_succ,List.map_append];congr 1
 · refine List.map_congr_left λi hi=>?_;have:=List.mem_range.1 hi;show Value.pointer (some ⟨if i=j then s else st i,0,none⟩)=_;rw[if_neg (by omega)]
 · simp
structure St4(N bX bT bB back capB:Nat)(w₀:World)(j:Nat)(st pass:Nat->Nat)(sv:Value)(w:World):Prop where
 bt:w.heap[bT]?=some (.cells #[.chan (some back),sv,.slice (some ⟨bB,0,none⟩) N capB] 107)
 row:w.ownsRow w₀.heap.size 108 1 sv j (stL st j)
 old:∀b,b<w₀.heap.size->b≠bT->w.heap[b]?=w₀.heap[b]?
 ge:w₀.heap.size<=w.heap.size
 std:∀i,i<j->w.heap[st i]?=some (.cells #[.pointer (some ⟨bT,0,none⟩),.chan (some (pass i)),.bool false] 111)
 ps:∀i,i<j->w.heap[pass i]?=some (.chan 0 #[] false 0 0 false)
 lo:∀i,i<j->w₀.heap.size<=pass i/\pass i<st i
 inc:∀i i',i<i'->i'<j->st i<pass i'
theorem St4.row_at {N bX bT bB back capB:Nat}{w₀:World}{j:Nat}{st pass:Nat->Nat}{sv:Value}{w:World}(h:St4 N bX bT bB back capB w₀ j st pass sv w){g:Nat}(hg:sv.ownBlock=some g):w₀.heap.size<=g/\∃c,w.heap[g]?=some (.cells c 108):=by
 rcases h.row.2 with⟨hv,_⟩|⟨g2,cap,cur,hv,h1,h2,h3⟩
 · rw[hv]at hg;cases hg
 · rw[hv]at hg;simp only[Value.ownBlock,al_oi]at hg;subst hg;exact⟨h1,cur,h2⟩
theorem St4.next {N bX bT bB back capB:Nat}{w₀:World}{j:Nat}{st pass:Nat->Nat}{sv:Value}{w:World}(h:St4 N bX bT bB back capB w₀ j st pass sv w)(hbt:bT<w₀.heap.size){w':World}{c s:Nat}{v':Value}(hge:w.heap.size<=w'.heap.size)
 (hext:∀b,b≠bT->sv.ownBlock≠some b->∀o,w.heap[b]?=some o->w'.heap[b]?=some o) (hT:w'.heap[bT]?=some (.cells #[.chan (some back),v',.slice (some ⟨bB,0,none⟩) N capB] 107)) (hrow:w'.ownsRow w₀.heap.size 108 1 v' (j+1) (stL st j++[.pointer (some ⟨s,0,none⟩)]))
 (hc:w'.heap[c]?=some (.chan 0 #[] false 0 0 false)) (hcl:w.heap.size<=c) (hs:w'.heap[s]?=some (.cells #[.pointer (some ⟨bT,0,none⟩),.chan (some c),.bool false] 111)) (hcs:c<s):
 St4 N bX bT bB back capB w₀ (j+1) (λi=>if i=j then s else st i) (λi=>if i=j then c else pass i) v' w':=by
 have hg:=λg=>h.row_at (g:=g);have hge':=h.ge;have lt:∀b o,w.heap[b]?=some o->b<w.heap.size:=λb o hb=>zq4 hb;refine⟨hT,by rw[stL_succ];exact hrow,λb hb hne=>?_,by omega,λi hi=>?_,λi hi=>?_,λi hi=>?_,λi i' hi hi'=>?_⟩
 · obtain⟨o,ho⟩:∃o,w₀.heap[b]?=some o:=⟨_,Array.getElem?_eq_getElem hb⟩;rw[ho];refine hext b hne (λe=>?_) o ((h.old b hb hne).trans ho);have:=(hg b e).1;omega
 · show w'.heap[if i=j then s else st i]?=some (.cells #[.pointer (some ⟨bT,0,none⟩),.chan (some (if i=j then c else pass i)),.bool false] 111)
   by_cases e:i=j
   · rw[if_pos e,if_pos e];exact hs
   · rw[if_neg e,if_neg e];have hi':i<j:=by omega
     have h1:=h.std i hi';refine hext _ (λe2=>?_) (λe2=>?_) _ h1
     · have:=h.lo i hi';omega
     · obtain⟨_,c2,h2⟩:=hg _ e2;rw[h1]at h2;cases h2
 · show w'.heap[if i=j then c else pass i]?=_
   by_cases e:i=j
   · rw[if_pos e];exact hc
   · rw[if_neg e];have hi':i<j:=by omega
     have h1:=h.ps i hi';refine hext _ (λe2=>?_) (λe2=>?_) _ h1
     · have:=h.lo i hi';omega
     · obtain⟨_,c2,h2⟩:=hg _ e2;rw[h1]at h2;cases h2
 · show w₀.heap.size<=(if i=j then c else pass i)/\(if i=j then c else pass i)<(if i=j then s else st i)
   by_cases e:i=j
   · rw[if_pos e,if_pos e];omega
   · rw[if_neg e,if_neg e];exact h.lo i (by omega)
 · show(if i=j then s else st i)<(if i'=j then c else pass i');rw[if_neg (by omega)]
   by_cases e:i'=j
   · rw[if_pos e];have:=lt _ _ (h.std i (by omega));omega
   · rw[if_neg e];exact h.inc i i' hi (by omega)
theorem four_exit{Fin:Machine->Trace->Prop}(hFin:Back Try.prog Fin){n N:Nat}{T:Array Value}{w:World}{K:List Item}{cs:List Frame}(hsz:T.size=129)(f29:T[29]?=some (.int .i64 N))(f30:T[30]?=some (.int .i64 N))
 (hmain:∀T':Array Value,T'.size=129->(∀t,t<29->T'[t]?=T[t]?)->J0 Try.prog Fin n (G ((bN 38).at ⟨T',[]⟩ K) cs) w):
 J0 Try.prog Fin n (G ((bN 38).at ⟨T,[]⟩ (.code lpA::.inLoop lpA::.inBlock 0::K)) cs) w:=by
 have hJ:=j0_JS hFin;have hm:=Lib.hid hmain;clear hmain;refine code_eq (J:=J0 Try.prog Fin) lpA_eq ?_;obtain⟨u0,hu0⟩:∃c,r5c=c:=⟨_,rfl⟩;have eu0:=hu0;rw[hu0];simp only[r5c,r7c,lpA,overT,headC,tailN,Try.f38,al_od]at eu0;subst eu0;clear hu0;refine hJ.ctl (s:=n) (λw=>stepG_seq) ?_;refine hJ.ctl (s:=n) (λw=>stepG_region) ?_;refine at_eval (s:=n) hJ (by decide) 0 [.bool false] [] rfl (by simp) (by rfl) ?_ ?_
 · intro τ d;simp only[evalsO,dstOf,al_gl,al_g0,al_g1,al_ob];refine⟨?_,trivial⟩<;>(intro o ho;simp only[al_oi]at ho;subst ho)
   all_goals(try simp only[execOp,Act.eval,List.map_toArray,List.map_cons,List.map_nil,al_gd])
   all_goals(try simp only[al_gs,al_gz,hsz,f29,f30,Nat.reduceEqDiff,Nat.reduceLT,↓reduceIte,al_od])
   all_goals(have hlt:∀i,i<129->i<(T).size:=λi hi=>(by rw[hsz];exact hi))
   all_goals(clear hsz f29 f30)
   all_goals(try go_simp)
   all_goals(try omega)
 simp only[putv,dstOf,al_gl,al_g0,al_g1,al_ob];obtain⟨T1,hT⟩:∃X,X=(T).setIfInBounds 31 (.bool false):=⟨_,rfl⟩;rw[←hT];have hT1:T1.size=129:=by rw[hT];simp[hsz]
 have T1_29:=sg1 hT f29;have T1_30:=sg1 hT f30;have T1_31:T1[31]?=some (.bool false):=by rw[hT];simp[al_gs,hsz]
 have hk1:∀t,t<29->T1[t]?=T[t]?:=λt ht=>by rw[hT,al_gn (by omega)]
 clear hT f29 f30 hsz;refine hJ.ctl (s:=n) (λw=>stepG_region_end) ?_;refine hJ.ctl (s:=n) (λw=>stepG_seq) ?_;refine hJ.ctl (s:=n) (λw=>stepG_cond (t:=false) (by simp[Act.eval,al_gd,T1_31])) ?_;simp only[Bool.false_eq_true,if_false];refine hJ.ctl (s:=n) (λw=>stepG_exit (k':=K) rfl) ?_;exact hm.out _ hT1 (λt ht=>hk1 t ht)
theorem four_one{Fin:Machine->Trace->Prop}(hFin:Back Try.prog Fin){n N bX bT bB back capB:Nat}{w₀:World}{j:Nat}{st pass:Nat->Nat}{sv:Value}{T:Array Value}{w:World}{K:List Item}{cs:List Frame}(hj:j<N)(hN:N<=64)(hsz:T.size=129)(f10:T[10]?=some (.pointer (some ⟨bX,0,none⟩)))(f29:T[29]?=some (.int .i64 N))(f30:T[30]?=some (.int .i64 j))
 (h:St4 N bX bT bB back capB w₀ j st pass sv w) (hbt:bT<w₀.heap.size) (hX:w.heap[bX]?=some (.cells #[.pointer (some ⟨bT,0,none⟩)] 103))
 (hmain:∀(T':Array Value)(w':World)(st' pass':Nat->Nat)(sv':Value),St4 N bX bT bB back capB w₀ (j+1) st' pass' sv' w'->T'.size=129->(∀t,t<29->T'[t]?=T[t]?)->T'[29]?=some (.int .i64 N)->T'[30]?=some (.int .i64 (j+1:Nat))->
  J0 Try.prog Fin n (G ((bN 38).at ⟨T',[]⟩ (.code lpA::.inLoop lpA::.inBlock 0::K)) cs) w'):
 J0 Try.prog Fin n (G ((bN 38).at ⟨T,[]⟩ (.code lpA::.inLoop lpA::.inBlock 0::K)) cs) w:=by
 have hJ:=j0_JS hFin;have hm:=Lib.hid hmain;clear hmain;have hjN:(j:Int)<N:=by omega
 obtain⟨lp,hlp⟩:∃c,lpA=c:=⟨_,rfl⟩;have elp:=lpA_eq;rw[hlp]at hm elp ⊢;refine code_eq (J:=J0 Try.prog Fin) elp ?_;obtain⟨u0,hu0⟩:∃c,r5c=c:=⟨_,rfl⟩;have eu0:=hu0;rw[hu0];simp only[r5c,r7c,lpA,overT,headC,tailN,Try.f38,al_od]at eu0;subst eu0;clear hu0;refine hJ.ctl (s:=n) (λw=>stepG_seq) ?_;refine hJ.ctl (s:=n) (λw=>stepG_region) ?_;refine at_eval (s:=n) hJ (by decide) 0 [.bool true] [] rfl (by simp) (by rfl) ?_ ?_
 · intro τ d;simp only[evalsO,dstOf,al_gl,al_g0,al_g1,al_ob];refine⟨?_,trivial⟩<;>(intro o ho;simp only[al_oi]at ho;subst ho)
   all_goals(try simp only[execOp,Act.eval,List.map_toArray,List.map_cons,List.map_nil,al_gd])
   all_goals(try simp only[al_gs,al_gz,hsz,f29,f30,Nat.reduceEqDiff,Nat.reduceLT,↓reduceIte,al_od])
   all_goals(have hlt:∀i,i<129->i<(T).size:=λi hi=>(by rw[hsz];exact hi))
   all_goals(clear hsz f29 f30)
   all_goals(try go_simp)
   all_goals(try omega)
 simp only[putv,dstOf,al_gl,al_g0,al_g1,al_ob];obtain⟨T1,hT⟩:∃X,X=(T).setIfInBounds 31 (.bool true):=⟨_,rfl⟩;rw[←hT];have hT1:T1.size=129:=by rw[hT];simp[hsz]
 have T1_29:=sg1 hT f29;have T1_30:=sg1 hT f30;have T1_31:T1[31]?=some (.bool true):=by rw[hT];simp[al_gs,hsz]
 have hk1:∀t,t<29->T1[t]?=T[t]?:=λt ht=>by rw[hT,al_gn (by omega)]
 clear hT f29 f30 hsz;refine hJ.ctl (s:=n) (λw=>stepG_region_end) ?_;refine hJ.ctl (s:=n) (λw=>stepG_seq) ?_;refine hJ.ctl (s:=n) (λw=>stepG_cond (t:=true) (by simp[Act.eval,al_gd,T1_31])) ?_;simp only[if_true];refine hJ.ctl (s:=n) (λw=>stepG_skip) ?_;refine hJ.ctl (s:=n) (λw=>stepG_seq) ?_;refine hJ.ctl (s:=n) (λw=>stepG_block) ?_;have hX1:bX≠bT:=λe=>by subst e;rw[h.bt]at hX;cases hX
 refine over_sixth hFin (E:=λb=>if b=bT\/sv.ownBlock=some b then none else w.heap[b]?) (by omega) hT1 ((hk1 10 (by omega)).trans f10) (bT:=bT) (bX:=bX) (back:=back) (bB:=bB) (N:=N) (capB:=capB) (l:=stL st j) (sv:=sv) (B1:=w₀.heap.size) ?_ ?_ ?_ ?_ h.bt h.row h.ge
  λT2 w2 c s v' k1 k2 k3 k4 k5 k6 k7 k8 k9 k10=>?_
 · show(if bX=bT\/sv.ownBlock=some bX then none else w.heap[bX]?)=_;rw[if_neg]
   · exact hX
   · rintro(e|e)
     · exact hX1 e
     · obtain⟨_,c2,h2⟩:=h.row_at e;rw[hX]at h2;cases h2
 · exact if_pos (.inl rfl)
 · exact λg hg=>if_pos (.inr hg)
 · intro b o hb;split at hb
   · cases hb
   · exact hb
 have h2:=h.next hbt (w':=w2) (c:=c) (s:=s) (v':=v') k3 (λb e1 e2 o ho=>k4 b o (by show(if b=bT\/sv.ownBlock=some b then none else w.heap[b]?)=_;rw[if_neg (λe=>e.elim e1 e2)];exact ho)) k5 k6 k7 k8 k9 k10
 refine hJ.ctl (s:=n) (λw=>stepG_inBlock) ?_;have g29:=(k2 29 (by omega)).trans T1_29;have g30:=(k2 30 (by omega)).trans T1_30;have hk2:∀t,t<29->T2[t]?=T[t]?:=λt ht=>(k2 t (by omega)).trans (hk1 t ht);clear k2 k3 k4 k5 k6 k7 k8 k9 k10 T1_29 T1_30 T1_31 hk1;have hwr:IntKind.i64.wrap ((j:Int)+1)=((j+1:Nat):Int):=by
  rw[show(j:Int)+1=((j+1:Nat):Int)by omega];exact IntWalk.i64_in _ (by omega)
 have hm2:=λ(T':Array Value)=>hm.out T' w2 _ _ _ h2
 clear hm hX;have hm:=Lib.hid hm2;clear hm2 h2 h;obtain⟨u0,hu0⟩:∃c,r7c=c:=⟨_,rfl⟩;have eu0:=hu0;rw[hu0];simp only[r5c,r7c,lpA,overT,headC,tailN,Try.f38,al_od]at eu0;subst eu0;clear hu0;refine hJ.ctl (s:=n) (λw=>stepG_region) ?_;refine at_eval (s:=n) hJ (by decide) 0 [.int .i64 ((j+1:Nat):Int),.int .i64 ((j+1:Nat):Int)] [] rfl (by simp) (by rfl) ?_ ?_
 · intro τ d;simp only[evalsO,dstOf,al_gl,al_g0,al_g1,al_ob];refine⟨?_,?_,trivial⟩<;>(intro o ho;simp only[al_oi]at ho;subst ho)
   all_goals(try simp only[execOp,Act.eval,List.map_toArray,List.map_cons,List.map_nil,al_gd])
   all_goals(try simp only[al_gs,al_gz,k1,g29,g30,Nat.reduceEqDiff,Nat.reduceLT,↓reduceIte,al_od])
   all_goals(have hlt:∀i,i<129->i<(T2).size:=λi hi=>(by rw[k1];exact hi))
   all_goals(clear k1 g29 g30)
   all_goals(try go_simp)
   all_goals(try omega)
 simp only[putv,dstOf,al_gl,al_g0,al_g1,al_ob];obtain⟨T3,hT⟩:∃X,X=((T2).setIfInBounds 45 (.int .i64 ((j+1:Nat):Int))).setIfInBounds 30 (.int .i64 ((j+1:Nat):Int)):=⟨_,rfl⟩;rw[←hT];have hT3:T3.size=129:=by rw[hT];simp[k1]
 have T3_29:=sg2 hT g29;have T3_45:T3[45]?=some (.int .i64 ((j+1:Nat):Int)):=by rw[hT];simp[al_gs,k1]
 have T3_30:T3[30]?=some (.int .i64 ((j+1:Nat):Int)):=by rw[hT];simp[al_gs,k1]
 have hk3:∀t,t<29->T3[t]?=T[t]?:=λt ht=>by rw[hT,al_gn (by omega),al_gn (by omega)];exact hk2 t ht
 clear hT g29 g30 k1;refine hJ.ctl (s:=n) (λw=>stepG_region_end) ?_;refine hJ.ctl (s:=n) (λw=>stepG_inLoop) ?_;exact hm.out _ hT3 hk3 T3_29 T3_30
theorem four_loop{Fin:Machine->Trace->Prop}(hFin:Back Try.prog Fin){n N bX bT bB back capB:Nat}{w₀:World}(hN:N<=64)(hbt:bT<w₀.heap.size)(hbX:bX<w₀.heap.size)(hXT:bX≠bT)(hX:w₀.heap[bX]?=some (.cells #[.pointer (some ⟨bT,0,none⟩)] 103)){K:List Item}{cs:List Frame}:
 ∀(r j:Nat),j+r=N->∀{st pass:Nat->Nat}{sv:Value}{T:Array Value}{w:World},T.size=129->T[10]?=some (.pointer (some ⟨bX,0,none⟩))->T[29]?=some (.int .i64 N)->T[30]?=some (.int .i64 j)->St4 N bX bT bB back capB w₀ j st pass sv w->
  (∀(T':Array Value)(w':World)(st' pass':Nat->Nat)(sv':Value),St4 N bX bT bB back capB w₀ N st' pass' sv' w'->T'.size=129->(∀t,t<29->T'[t]?=T[t]?)->J0 Try.prog Fin n (G ((bN 38).at ⟨T',[]⟩ K) cs) w')->
  J0 Try.prog Fin n (G ((bN 38).at ⟨T,[]⟩ (.code lpA::.inLoop lpA::.inBlock 0::K)) cs) w:=by
 intro r
 induction r with
 |zero=>
  intro j hj st pass sv T w hsz f10 f29 f30 h hmain;have e:j=N:=by omega
  subst e;exact four_exit hFin hsz f29 f30 λT' h1 h2=>hmain T' w st pass sv h h1 h2
 |succ r ih=>
  intro j hj st pass sv T w hsz f10 f29 f30 h hmain;refine four_one hFin (by omega) hN hsz f10 f29 f30 h hbt ((h.old _ hbX hXT).trans hX) λT' w' st' pass' sv' h' k1 k2 k3 k4=>?_;exact ih (j+1) (by omega) k1 ((k2 10 (by omega)).trans f10) k3 k4 h' λT2 w2 s2 p2 v2 h2 q1 q2=>hmain T2 w2 s2 p2 v2 h2 q1 λt ht=>(q2 t ht).trans (k2 t ht)
theorem over_fourth{Fin:Machine->Trace->Prop}(hFin:Back Try.prog Fin){n N bX bT bB back capB:Nat}{w₀:World}{bn:Nat}{T:Array Value}{K:List Item}{cs:List Frame}(hN:N<=64)(hbt:bT<w₀.heap.size)(hbX:bX<w₀.heap.size)(hXT:bX≠bT)(hX:w₀.heap[bX]?=some (.cells #[.pointer (some ⟨bT,0,none⟩)] 103))
 (hsz:T.size=129) (f9:T[9]?=some (.pointer (some ⟨bn,0,none⟩))) (cn:w₀.cell? ⟨bn,0,none⟩=some (.int .i64 N)) (f10:T[10]?=some (.pointer (some ⟨bX,0,none⟩))) (h:St4 N bX bT bB back capB w₀ 0 (λ_=>0) (λ_=>0) (.slice none 0 0) w₀)
 (hmain:∀(T':Array Value)(w':World)(st pass:Nat->Nat)(sv:Value)(w1:World),St4 N bX bT bB back capB w₀ N st pass sv w1->T'.size=129->(∀t,t<29->t≠11->T'[t]?=T[t]?)->T'[11]?=some (.pointer (some ⟨w1.heap.size,0,none⟩))->
  w'.heap.size=w1.heap.size+1->(∀b,b<w1.heap.size->w'.heap[b]?=w1.heap[b]?)->w'.heap[w1.heap.size]?=some (.cells #[.int .i64 0] 3)->J0 Try.prog Fin n (G ((bN 38).at ⟨T',[]⟩ (.code (overT 6)::K)) cs) w'):
 J0 Try.prog Fin n (G ((bN 38).at ⟨T,[]⟩ (.code (overT 4)::K)) cs) w₀:=by
 have hJ:=j0_JS hFin;have hm1:=λ(T':Array Value)(w':World)(st pass:Nat->Nat)(sv:Value)(w1:World)(q:St4 N bX bT bB back capB w₀ N st pass sv w1)=>hmain T' w' st pass sv w1 q
 have hm:=Lib.hid hm1;clear hmain hm1;rw[over4,over5];generalize overT 6=rest at hm ⊢;obtain⟨u0,hu0⟩:∃c,headC (headC (overT 4))=c:=⟨_,rfl⟩;have eu0:=hu0;rw[hu0];simp only[r5c,r7c,lpA,overT,headC,tailN,Try.f38,al_od]at eu0;subst eu0;clear hu0;obtain⟨u1,hu1⟩:∃c,headC (overT 5)=c:=⟨_,rfl⟩;have eu1:=hu1;rw[hu1];simp only[r5c,r7c,lpA,overT,headC,tailN,Try.f38,al_od]at eu1;subst eu1;clear hu1;refine hJ.ctl (s:=n) (λw=>stepG_seq) ?_;refine hJ.ctl (s:=n) (λw=>stepG_seq) ?_;refine hJ.ctl (s:=n) (λw=>stepG_region) ?_;refine at_eval (s:=n) hJ (by decide) 0 [.int .i64 N,.int .i64 (0:Nat)] [] rfl (by simp) (by rfl) ?_ ?_
 · intro τ d;simp only[evalsO,dstOf,al_gl,al_g0,al_g1,al_ob];refine⟨?_,?_,trivial⟩<;>(intro o ho;simp only[al_oi]at ho;subst ho)
   all_goals(try simp only[execOp,Act.eval,List.map_toArray,List.map_cons,List.map_nil,al_gd])
   all_goals(try simp only[al_gs,al_gz,hsz,f9,Nat.reduceEqDiff,Nat.reduceLT,↓reduceIte,al_od])
   all_goals(have hlt:∀i,i<129->i<(T).size:=λi hi=>(by rw[hsz];exact hi))
   all_goals(clear hsz f9)
   all_goals(try go_simp)
   all_goals(try omega)
 simp only[putv,dstOf,al_gl,al_g0,al_g1,al_ob];obtain⟨T1,hT⟩:∃X,X=((T).setIfInBounds 29 (.int .i64 N)).setIfInBounds 30 (.int .i64 (0:Nat)):=⟨_,rfl⟩;rw[←hT];have hT1:T1.size=129:=by rw[hT];simp[hsz]
 have T1_9:=sg2 hT f9;have T1_29:T1[29]?=some (.int .i64 N):=by rw[hT];simp[al_gs,hsz]
 have T1_30:T1[30]?=some (.int .i64 (0:Nat)):=by rw[hT];simp[al_gs,hsz]
 have hk1:∀t,t<29->T1[t]?=T[t]?:=λt ht=>by rw[hT,al_gn (by omega),al_gn (by omega)]
 clear hT f9 hsz;refine hJ.ctl (s:=n) (λw=>stepG_region_end) ?_;refine hJ.ctl (s:=n) (λw=>stepG_block) ?_;refine hJ.ctl (s:=n) (λw=>stepG_loop) ?_;refine four_loop hFin hN hbt hbX hXT hX N 0 (by omega) hT1 ((hk1 10 (by omega)).trans f10) T1_29 T1_30 h λT2 w2 st pass sv h2 q1 q2=>?_;have hm2:=hm.out;have hge:=h2.ge;clear hm;refine hJ.ctl (s:=n) (λw=>stepG_seq) ?_;refine hJ.ctl (s:=n) (λw=>stepG_region) ?_;have hk2:∀t,t<29->T2[t]?=T[t]?:=λt ht=>(q2 t ht).trans (hk1 t ht);obtain⟨B0,hs⟩:∃B0,w2.heap.size=B0:=⟨_,rfl⟩;clear q2 hk1 T1_9 T1_29 T1_30;have hm3:=λ(T':Array Value)(w':World)=>hm2 T' w' st pass sv w2 h2
 rw[hs]at hm3;have hm:=Lib.hid hm3;clear hm2 hm3 h2 h hX;have ho:∀b,b<B0->w2.heap[b]?=w2.heap[b]?:=λ_ _=>rfl;refine at_opF hJ (by decide) (s:=n) (i:=0) (rest:=[1]) rfl rfl rfl rfl λτ dd=>?_;refine⟨.pointer (some ⟨B0,0,none⟩),re (w2.alloc (.cells #[.int .i64 0] 3)) τ dd,?_,?_⟩
 · simp only[List.getElem_toArray,List.getElem_cons_zero,List.getElem_cons_succ,execOp,Act.eval,List.map_toArray,List.map_cons,List.map_nil,al_gd,q1,al_od];clear q1
   (go_simp)
   all_goals(first|rfl |(simp[hs];done)|skip)
 refine hJ.re' _ _ _ τ dd ?_;generalize hw:w2.alloc (.cells #[.int .i64 0] 3)=w3;have hsw3:w3.heap.size=B0+1:=by rw[←hw,zq3,hs]
 have how3:∀b,b<B0->w3.heap[b]?=w2.heap[b]?:=λb hb=>by rw[←hw,zq2,if_neg (by omega)];try exact ho b hb
 have b0w3:w3.heap[B0]?=some (.cells #[.int .i64 0] 3):=by rw[←hw,zq2,if_pos (by omega)]
 clear hw hs ho;obtain⟨T3,hT⟩:∃X,X=(T2).setIfInBounds 11 (.pointer (some ⟨B0,0,none⟩)):=⟨_,rfl⟩;rw[←hT];have hT3:T3.size=129:=by rw[hT];simp[q1]
 have T3_11:T3[11]?=some (.pointer (some ⟨B0,0,none⟩)):=by rw[hT];simp[al_gs,q1]
 have hk3:∀t,t<29->t≠11->T3[t]?=T[t]?:=λt ht h11=>by rw[hT,al_gn (by omega)];exact hk2 t ht
 clear hT q1;have cS:=(zq0 (off:=0) b0w3).trans rfl;have zS:=zq5 (off:=0) b0w3;refine at_skipF hJ (by decide) (s:=n) (i:=1) (rest:=[]) rfl rfl rfl rfl λτ dd=>?_;refine⟨re (w3.setCell ⟨B0,0,none⟩ (.int .i64 0)) τ dd,?_,?_⟩
 · simp only[List.getElem_toArray,List.getElem_cons_zero,List.getElem_cons_succ,execOp,Act.eval,List.map_toArray,List.map_cons,List.map_nil,al_gd,hT3,T3_11,al_od];clear hT3 T3_11
   (go_simp)
   all_goals(first|rfl |(simp[hsw3];done)|skip)
 refine hJ.re' _ _ _ τ dd ?_;have hq:=hp_set_same w3 (B0) 0 (.int .i64 0) b0w3;generalize hw:w3.setCell ⟨B0,0,none⟩ (.int .i64 0)=w4 at hq;have hsw4:w4.heap.size=B0+1:=by rw[←hw,hp_size_set,hsw3]
 have how4:∀b,b<B0->w4.heap[b]?=w2.heap[b]?:=λb hb=>by rw[←hw,hp_set_ne _ _ _ _ (by show b≠B0;omega)];exact how3 b hb
 have b0w4:w4.heap[B0]?=some (.cells #[.int .i64 0] 3):=hq.trans (by rfl);clear hw hq cS zS b0w3 hsw3 how3;refine hJ.ctl (s:=n) (λw=>stepG_region_end) ?_;exact hm.out _ w4 hT3 hk3 T3_11 hsw4 how4 b0w4
section
variable {M:Type}
noncomputable def keepOf(A:OA)(a:Addr):Option Value:=
 open Classical in
 if a=⟨A.bT,0,none⟩then some (.chan (some A.back))else if a=⟨A.bX,0,none⟩then some (.pointer (some ⟨A.bT,0,none⟩))else
  if h:∃i,i<A.N/\a=⟨A.st i,1,none⟩then some (.chan (some (A.pass (Classical.choose h))))else none
theorem keepOf_kept{A:OA}(hA:A.Ok):Kept A (keepOf A):=by
 have hXT:=hA.ne.2.2.2.1;refine⟨?_,?_,λi hi=>?_,λa v h=>?_⟩
 · unfold keepOf;rw[if_pos rfl]
 · unfold keepOf;rw[if_neg (by intro e;injection e with e1;exact hXT e1),if_pos rfl]
 · unfold keepOf;have hex:∃j,j<A.N/\(⟨A.st i,1,none⟩:Addr)=⟨A.st j,1,none⟩:=⟨i,hi,rfl⟩;rw[if_neg (by intro e;injection e with e1 e2;cases e2),if_neg (by intro e;injection e with e1 e2;cases e2),dif_pos hex];have h1:=Classical.choose_spec hex;have h2:A.st i=A.st (Classical.choose hex):=by have:=h1.2;injection this
   rw[←hA.inj i _ hi h1.1 h2]
 · unfold keepOf at h;split at h
   · exact .inl (by assumption)
   · split at h
     · exact .inr (.inl (by assumption))
     · split at h
       · rename_i hh;obtain⟨i,h1,h2⟩:=hh;exact .inr (.inr ⟨i,h1,h2⟩)
       · cases h
theorem keepOf_KK{A:OA}(hA:A.Ok){ov brk:Nat->Bool}{w:World}(h:OverW A ov brk w):KK (keepOf A) w:=by
 intro a v ha;have hK:=keepOf_kept hA;rcases hK.only a v ha with rfl |rfl |⟨i,hi,rfl⟩
 · rw[hK.t]at ha;cases ha;exact⟨(zq0 h.ts).trans rfl,zq5 h.ts⟩
 · rw[hK.x]at ha;cases ha;exact⟨(zq0 h.box).trans rfl,zq5 h.box⟩
 · rw[hK.p i hi]at ha;cases ha;exact⟨(zq0 (h.std i hi)).trans rfl,zq5 (h.std i hi)⟩
theorem inv_start{T:Thr M}{m₀:M}{n N most c g p x:Nat}{w w3 w1 w6:World}{st pass:Nat->Nat}{sv:Value}(tv:Nat->Value)(hn:0<n)(hN:N<=64)(hmost:most<=1048576)(hrep:T.Rep m₀ w)(hlf:most+100<=T.left m₀)
 (s3:w.heap.size+3<=w3.heap.size) (o3:∀b,b<w.heap.size->w3.heap[b]?=w.heap[b]?) (fM:w3.heap[w.heap.size]?=some (.cells #[.int .i64 most] 3)) (fO:w3.heap[w.heap.size+1]?=some (.cells #[.slice none 0 0] 24)) (fN:w3.heap[w.heap.size+2]?=some (.cells #[.int .i64 N] 3))
 (lc:w.heap.size+3<=c) (lg:w.heap.size+3<=g) (lp:w.heap.size+3<=p) (lx:w.heap.size+3<=x) (fc:w3.heap[c]?=some (.chan 0 #[] false 0 0 false)) (fg:∃br,w3.heap[g]?=some (.cells br 4)/\∀i,i<N->br[i]?=some (.bool false))
 (fx:w3.heap[x]?=some (.cells #[.pointer (some ⟨p,0,none⟩)] 103)) (fp:w3.heap[p]?=some (.cells #[.chan (some c),.slice none 0 0,.slice (some ⟨g,0,none⟩) N N] 107))
 (h:St4 N x p g c N w3 N st pass sv w1) (s6:w6.heap.size=w1.heap.size+1) (o6:∀b,b<w1.heap.size->w6.heap[b]?=w1.heap[b]?) (fL:w6.heap[w1.heap.size]?=some (.cells #[.int .i64 0] 3)):
 ∃(A:OA)(E:Nat->Option Obj),A.N=N/\A.n0=n/\A.tv=tv/\A.bX=x/\KK (keepOf A) w6/\Inv T A ⟨w.heap.size+2,w.heap.size,w.heap.size+1,w1.heap.size,w.heap.size⟩ (keepOf A) w m₀ most 0 E (most+100) ⟨m₀,λ_=>false,λ_=>false,[]⟩ 0 (.slice none 0 0) (λ_=>none) w6:=by
 obtain⟨br,fg1,fg2⟩:=fg;have hge:=h.ge;have lgl:=zq4 fg1;have lcl:=zq4 fc;have lxl:=zq4 fx;have o31:∀b,b<w3.heap.size->b≠p->w6.heap[b]?=w3.heap[b]?:=λb hb hne=>(o6 b (by omega)).trans (h.old b hb hne);have hne:∀(a b:Nat)(y z:Obj),w3.heap[a]?=some y->w3.heap[b]?=some z->y≠z->a≠b:=λa b y z h1 h2 hyz e=>by subst e;rw[h1]at h2;exact hyz (Option.some.inj h2)
 have ncg:c≠g:=hne c g _ _ fc fg1 (by intro e;cases e);have ncx:c≠x:=hne c x _ _ fc fx (by intro e;cases e);have ngx:g≠x:=hne g x _ _ fg1 fx (by intro e;cases e);have lpl:=zq4 fp;have ncp:c≠p:=hne c p _ _ fc fp (by intro e;cases e);have ngp:g≠p:=hne g p _ _ fg1 fp (by intro e;cases e);have nxp:x≠p:=hne x p _ _ fx fp (by intro e;cases e);have stl:∀i,i<N->w3.heap.size<st i/\st i<w1.heap.size:=λi hi=>⟨by have:=h.lo i hi;omega,zq4 (h.std i hi)⟩;have psl:∀i,i<N->w3.heap.size<=pass i/\pass i<w1.heap.size:=λi hi=>⟨(h.lo i hi).1,zq4 (h.ps i hi)⟩;have std6:∀i,i<N->w6.heap[st i]?=some (.cells #[.pointer (some ⟨p,0,none⟩),.chan (some (pass i)),.bool false] 111):=λi hi=>(o6 _ (stl i hi).2).trans (h.std i hi);have ps6:∀i,i<N->w6.heap[pass i]?=some (.chan 0 #[] false 0 0 false):=λi hi=>(o6 _ (psl i hi).2).trans (h.ps i hi);have tp6:w6.heap[p]?=some (.cells #[.chan (some c),sv,.slice (some ⟨g,0,none⟩) N N] 107):=(o6 p (by omega)).trans h.bt;have stinj:∀i j,i<N->j<N->st i=st j->i=j:=λi j hi hj e=>by
  rcases Nat.lt_trichotomy i j with hlt|heq|hlt
  · have:=h.inc i j hlt hj;have:=(h.lo j hj).2;omega
  · exact heq
  · have:=h.inc j i hlt hi;have:=(h.lo i hi).2;omega
 have psinj:∀i j,i<N->j<N->pass i=pass j->i=j:=λi j hi hj e=>by
  rcases Nat.lt_trichotomy i j with hlt|heq|hlt
  · have:=h.inc i j hlt hj;have:=(h.lo i hi).2;omega
  · exact heq
  · have:=h.inc j i hlt hi;have:=(h.lo j hj).2;omega
 obtain⟨sp,gS,cap,row,hsv,hsp,hrow,hgS,hSl⟩:∃(sp:Option Addr)(gS cap:Nat)(row:Array Value),sv=.slice sp N cap/\(0<N->sp=some ⟨gS,0,none⟩)/\(∀i,i<N->row[i]?=some (.pointer (some ⟨st i,0,none⟩)))/\(0<N->w1.heap[gS]?=some (.cells row 108))/\w3.heap.size<=gS/\∀i,i<N->st i≠gS:=by
  rcases h.row.2 with⟨hv,h0⟩|⟨g2,cap,cur,hv,h1,h2,h3,h4,h5,h6⟩
  · exact⟨none,w3.heap.size,0,#[],by rw[hv,h0],λhN=>by omega,λi hi=>by omega,λhN=>by omega,Nat.le_refl _,λi hi=>by omega⟩
  · refine⟨some ⟨g2,0,none⟩,g2,cap,cur,hv,λ_=>rfl,λi hi=>?_,λ_=>h2,h1,λi hi e=>?_⟩
    · have e1:(cur.toList.take (N*1))[i]?=(stL st N)[i]?:=by rw[h6]
      rw[List.getElem?_take_of_lt (by omega),Array.getElem?_toList]at e1;rw[e1];unfold stL;simp[hi]
    · have:=h.std i hi;rw[e,h2]at this;cases this
 subst hsv;obtain⟨A,hA⟩:∃A:OA,A={n0:=n,N:=N,cap:=cap,capB:=N,bT:=p,bS:=gS,sp:=sp,bB:=g,bX:=x,back:=c,row:=row,st:=st,pass:=pass,rb:=λ_=>0,tv:=tv}:=⟨_,rfl⟩;have aN:A.N=N:=by rw[hA]
 have hOk:A.Ok:=by
  rw[hA];exact⟨hn,hsp,hrow,stinj,λi hi e=>by have:=(psl i hi).1;simp only at e;omega,psinj,⟨by simp only;omega,λe=>ngp e.symm,by simp only;omega,nxp,by simp only;omega,λe=>ngx e.symm⟩,
   λi hi=>⟨by have:=stl i hi;simp only;omega,hSl.2 i hi,by have:=stl i hi;simp only;omega,by have:=stl i hi;simp only;omega⟩⟩
 have how:OverW A (λ_=>false) (λ_=>false) w6:=by
  rw[hA];exact⟨tp6,(o31 x lxl nxp).trans fx,λh0=>(o6 gS (zq4 (hgS h0))).trans (hgS h0),⟨br,(o31 g lgl ngp).trans fg1,fg2⟩,std6,⟨0,0,(o31 c lcl ncp).trans fc⟩,λi hi=>⟨0,0,ps6 i hi⟩⟩
 have hown:∀b,A.own b->w.heap.size+3<=b/\b<w1.heap.size:=by
  intro b hb;rw[hA]at hb;rcases hb with e|⟨h0,e⟩|e|e|e|⟨i,hi,e|e⟩<;>simp only at e
  · omega
  · have:=zq4 (hgS h0);omega
  · omega
  · omega
  · omega
  · have:=stl i hi;omega
  · have:=psl i hi;omega
 have hft:∀b,T.foot m₀ b->b<w.heap.size:=λb hb=>T.lt _ _ _ hrep hb;have hrep6:T.Rep m₀ w6:=T.frame _ _ _ hrep λb hb=>by
  have:=hft b hb;rw[o31 b (by omega) (by omega),o3 b this]
 obtain⟨E,hE⟩:∃E:Nat->Option Obj,E=λb=>open Classical in if A.own b\/T.foot m₀ b then none else w6.heap[b]?:=⟨_,rfl⟩
 have eE:∀b,¬A.own b->¬T.foot m₀ b->E b=w6.heap[b]?:=λb h1 h2=>by rw[hE];exact if_neg (λh=>h.elim h1 h2)
 have eE':∀b o,E b=some o->¬A.own b/\¬T.foot m₀ b/\w6.heap[b]?=some o:=λb o hb=>by
  by_cases e:A.own b\/T.foot m₀ b
  · have:E b=none:=by rw[hE];exact if_pos e
    rw[this]at hb;cases hb
  · have h1:¬A.own b:=λh=>e (.inl h);have h2:¬T.foot m₀ b:=λh=>e (.inr h);exact⟨h1,h2,(eE b h1 h2).symm.trans hb⟩
 have nown:∀b,b<w.heap.size+3\/w1.heap.size<=b->¬A.own b:=λb hb ho=>by have:=hown b ho;omega
 have nft:∀b,w.heap.size<=b->¬T.foot m₀ b:=λb hb hf=>by have:=hft b hf;omega
 have aMO:∀b,w.heap.size<=b->b<w.heap.size+3->E b=w3.heap[b]?:=λb h1 h2=>by rw[eE b (nown b (.inl h2)) (nft b h1),o31 b (by omega) (by omega)]
 refine⟨A,E,aN,by rw[hA],by rw[hA],by rw[hA],keepOf_KK hOk how,?_⟩;refine⟨hOk,⟨⟨by simp only;omega,Nat.le_refl _,by simp only;omega,by simp only;omega⟩,⟨by simp only;omega,by simp only;omega,by simp only;omega,by simp only;omega,by simp only;omega,by simp only;omega⟩⟩,keepOf_kept hOk,?_,?_,?_,?_,?_,λb hb=>by have:=hown b hb;simp only;omega,⟨rfl,.inl ⟨rfl,rfl⟩⟩,λg hg=>(by cases hg),λb hb hf=>?_,Nat.zero_le _,hmost,by rw[aN];exact hN,by simp only;omega,by omega⟩
 · refine⟨how,hrep6,λb hb hf=>?_,Nat.zero_le _,λi hi=>absurd hi (Nat.not_lt_zero _),λi b hi=>absurd hi (Nat.not_lt_zero _),λi j hi=>absurd hi (Nat.not_lt_zero _),λi b hi=>absurd hi (Nat.not_lt_zero _),λi b hi=>absurd hi (Nat.not_lt_zero _),λi hi=>absurd hi (Nat.not_lt_zero _),λ_ _ _=>rfl,λb o hb=>(eE' b o hb).2.2,λb o hb=>⟨(eE' b o hb).1,(eE' b o hb).2.1,λi hi=>absurd hi (Nat.not_lt_zero _)⟩,hlf⟩;have:=hft b hf;have:=hown b hb;omega
 · rw[aN];exact(aMO _ (by simp only;omega) (by simp only;omega)).trans fN
 · exact(aMO _ (by simp only;omega) (by simp only;omega)).trans fM
 · exact(aMO _ (by simp only;omega) (by simp only;omega)).trans fO
 · exact(eE _ (nown _ (.inr (Nat.le_refl _))) (nft _ (by omega))).trans fL
 · simp only at hb;rw[eE b (nown b (.inl (by omega))) hf,o31 b (by omega) (by omega),o3 b hb]
end
end Go.Proofs
