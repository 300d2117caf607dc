/- YtkdlklpffdlglaaBox15: part 9 of the proof (the texts behind it, in order). -/
import Derived.Test.YtkdlklpffdlglaaW08
set_option maxHeartbeats 4000000
set_option maxRecDepth 100000
set_option linter.all false
namespace Go.Proofs
open Go Go.Conc Go.RowKit Go.Car
open Go.ConcN (upd upd_ne upd_same)
noncomputable def lpA:Code:=match headC (overT 4)with|.seq _ (.block _ (.loop c))=>c|_=>.skip
noncomputable def r5c:Code:=headC lpA
noncomputable def r7c:Code:=tailN 3 lpA
theorem lpA_eq:lpA=.seq r5c (.seq (.cond (.tmp 31) .skip (.exit 0)) (.seq (.block 1 r6c) r7c)):=by kernel_rfl
theorem over4:overT 4=.seq (.seq (headC (headC (overT 4))) (.block 0 (.loop lpA))) (overT 5):=by kernel_rfl
theorem over5:overT 5=.seq (headC (overT 5)) (overT 6):=by kernel_rfl
theorem over3:overT 3=.seq (headC (overT 3)) (overT 4):=by kernel_rfl
theorem zq6y{γ:Type}{J:γ->Goroutine->World->Prop}{s:γ}{b:Frame}{a:Act}{c x:Code}{k:List Item}{cs:List Frame}{w:World}(e:c=x)(h:J s (G (b.at a (.code x::k)) cs) w):J s (G (b.at a (.code c::k)) cs) w:=by rw[e];exact h
def stL(st:Nat->Nat)(j:Nat):List Value:=(List.range j).map λi=>.pointer (some ⟨st i,0,none⟩)
theorem stL_succ(st:Nat->Nat)(j s:Nat):stL (λi=>if i=j then s else st i) (j+1)=stL st j++[.pointer (some ⟨s,0,none⟩)]:=by
 unfold stL;rw[List.range_succ,List.map_append];congr 1
 . refine List.map_congr_left λi hi=>?_;have:=List.mem_range.1 hi;show Value.pointer (some ⟨if i=j then s else st i,0,none⟩)=_;rw[if_neg (by omega)]
 . simp
structure St4(N bX bT bB back capB:Nat)(w₀:World)(j:Nat)(st pass:Nat->Nat)(sv:Value)(w:World):Prop where
 bt:w.heap[bT]?=some (.cells #[.chan (some back),sv,.slice (some ⟨bB,0,none⟩) N capB] 140)
 row:w.ownsRow w₀.heap.size 141 1 sv j (stL st j)
 old:∀b,b<w₀.heap.size->b≠bT->w.heap[b]?=w₀.heap[b]?
 ge:w₀.heap.size<=w.heap.size
 std:∀i,i<j->w.heap[st i]?=some (.cells #[.pointer (some ⟨bT,0,none⟩),.chan (some (pass i)),.bool false] 144)
 ps:∀i,i<j->w.heap[pass i]?=some (.chan 0 #[] false 0 0 false)
 lo:∀i,i<j->w₀.heap.size<=pass i/\pass i<st i
 inc:∀i i',i<i'->i'<j->st i<pass i'
theorem St4.row_at {N bX bT bB back capB:Nat}{w₀:World}{j:Nat}{st pass:Nat->Nat}{sv:Value}{w:World}(h:St4 N bX bT bB back capB w₀ j st pass sv w){g:Nat}(hg:sv.ownBlock=some g):w₀.heap.size<=g/\∃c,w.heap[g]?=some (.cells c 141):=by
 rcases h.row.2 with⟨hv,_⟩|⟨g2,cap,cur,hv,h1,h2,h3⟩
 . rw[hv]at hg;cases hg
 . rw[hv]at hg;simp only[Value.ownBlock,al_oi]at hg;subst hg;exact⟨h1,cur,h2⟩
theorem St4.next {N bX bT bB back capB:Nat}{w₀:World}{j:Nat}{st pass:Nat->Nat}{sv:Value}{w:World}(h:St4 N bX bT bB back capB w₀ j st pass sv w)(hbt:bT<w₀.heap.size){w':World}{c s:Nat}{v':Value}(hge:w.heap.size<=w'.heap.size)
 (hext:∀b,b≠bT->sv.ownBlock≠some b->∀o,w.heap[b]?=some o->w'.heap[b]?=some o) (hT:w'.heap[bT]?=some (.cells #[.chan (some back),v',.slice (some ⟨bB,0,none⟩) N capB] 140)) (hrow:w'.ownsRow w₀.heap.size 141 1 v' (j+1) (stL st j++[.pointer (some ⟨s,0,none⟩)]))
 (hc:w'.heap[c]?=some (.chan 0 #[] false 0 0 false)) (hcl:w.heap.size<=c) (hs:w'.heap[s]?=some (.cells #[.pointer (some ⟨bT,0,none⟩),.chan (some c),.bool false] 144)) (hcs:c<s):
 St4 N bX bT bB back capB w₀ (j+1) (λi=>if i=j then s else st i) (λi=>if i=j then c else pass i) v' w':=by
 have hg:=λg=>h.row_at (g:=g);have hge':=h.ge;have lt:∀b o,w.heap[b]?=some o->b<w.heap.size:=λb o hb=>zqe hb;refine⟨hT,by rw[stL_succ];exact hrow,λb hb hne=>?_,by omega,λi hi=>?_,λi hi=>?_,λi hi=>?_,λi i' hi hi'=>?_⟩
 . obtain⟨o,ho⟩:∃o,w₀.heap[b]?=some o:=⟨_,Array.getElem?_eq_getElem hb⟩;rw[ho];refine hext b hne (λe=>?_) o ((h.old b hb hne).trans ho);have:=(hg b e).1;omega
 . show w'.heap[if i=j then s else st i]?=some (.cells #[.pointer (some ⟨bT,0,none⟩),.chan (some (if i=j then c else pass i)),.bool false] 144)
   by_cases e:i=j
   . rw[if_pos e,if_pos e];exact hs
   . rw[if_neg e,if_neg e];have hi':i<j:=by omega
     have h1:=h.std i hi';refine hext _ (λe2=>?_) (λe2=>?_) _ h1
     . have:=h.lo i hi';omega
     . obtain⟨_,c2,h2⟩:=hg _ e2;rw[h1]at h2;cases h2
 . show w'.heap[if i=j then c else pass i]?=_
   by_cases e:i=j
   . rw[if_pos e];exact hc
   . rw[if_neg e];have hi':i<j:=by omega
     have h1:=h.ps i hi';refine hext _ (λe2=>?_) (λe2=>?_) _ h1
     . have:=h.lo i hi';omega
     . obtain⟨_,c2,h2⟩:=hg _ e2;rw[h1]at h2;cases h2
 . show w₀.heap.size<=(if i=j then c else pass i)/\(if i=j then c else pass i)<(if i=j then s else st i)
   by_cases e:i=j
   . rw[if_pos e,if_pos e];omega
   . rw[if_neg e,if_neg e];exact h.lo i (by omega)
 . show(if i=j then s else st i)<(if i'=j then c else pass i');rw[if_neg (by omega)]
   by_cases e:i'=j
   . rw[if_pos e];have:=lt _ _ (h.std i (by omega));omega
   . rw[if_neg e];exact h.inc i i' hi (by omega)
theorem zqcc{Fin:Machine->Trace->Prop}(hFin:Back Try.prog Fin){n N:Nat}{T:Array Value}{w:World}{K:List Item}{cs:List Frame}(hsz:T.size=129)(f29:T[29]?=some (.int .i64 N))(f30:T[30]?=some (.int .i64 N))
 (hmain:∀T':Array Value,T'.size=129->(∀t,t<29->T'[t]?=T[t]?)->J0 Try.prog Fin n (G ((bN 22).at ⟨T',[]⟩ K) cs) w):
 J0 Try.prog Fin n (G ((bN 22).at ⟨T,[]⟩ (.code lpA::.inLoop lpA::.inBlock 0::K)) cs) w:=by
 have hJ:=j0_JS hFin;have hm:=Lib.hid hmain;clear hmain;refine zq6y (J:=J0 Try.prog Fin) lpA_eq ?_;obtain⟨u0,hu0⟩:∃c,r5c=c:=⟨_,rfl⟩;have eu0:=hu0;rw[hu0];simp only[r5c,r7c,lpA,overT,headC,tailN,Try.f22,al_od]at eu0;subst eu0;clear hu0;refine hJ.ctl (s:=n) (λw=>stepG_seq) ?_;refine hJ.ctl (s:=n) (λw=>stepG_region) ?_;refine zqp (s:=n) hJ (by decide) 0 [.bool false] [] rfl (by simp) (by rfl) ?_ ?_
 . intro τ d;simp only[zqm,dstOf,al_gl,al_g0,al_g1,al_ob];refine⟨?_,trivial⟩<;>(intro o ho;simp only[al_oi]at ho;subst ho)
   all_goals(try simp only[execOp,Act.eval,List.map_toArray,List.map_cons,List.map_nil,al_gd])
   all_goals(try simp only[al_gs,al_gz,hsz,f29,f30,Nat.reduceEqDiff,Nat.reduceLT,↓reduceIte,al_od])
   all_goals(have hlt:∀i,i<129->i<(T).size:=λi hi=>(by rw[hsz];exact hi))
   all_goals(clear hsz f29 f30)
   all_goals(try go_simp)
   all_goals(try omega)
 simp only[putv,dstOf,al_gl,al_g0,al_g1,al_ob];obtain⟨T1,hT⟩:∃X,X=(T).setIfInBounds 31 (.bool false):=⟨_,rfl⟩;rw[<-hT];have hT1:T1.size=129:=by rw[hT];simp[hsz]
 have T1_29:=sg1 hT f29;have T1_30:=sg1 hT f30;have T1_31:T1[31]?=some (.bool false):=by rw[hT];simp[al_gs,hsz]
 have hk1:∀t,t<29->T1[t]?=T[t]?:=λt ht=>by rw[hT,al_gn (by omega)]
 clear hT f29 f30 hsz;refine hJ.ctl (s:=n) (λw=>stepG_region_end) ?_;refine hJ.ctl (s:=n) (λw=>stepG_seq) ?_;refine hJ.ctl (s:=n) (λw=>stepG_cond (t:=false) (by simp[Act.eval,al_gd,T1_31])) ?_;simp only[Bool.false_eq_true,if_false];refine hJ.ctl (s:=n) (λw=>stepG_exit (k':=K) rfl) ?_;exact hm.out _ hT1 (λt ht=>hk1 t ht)
theorem four_one{Fin:Machine->Trace->Prop}(hFin:Back Try.prog Fin){n N bX bT bB back capB:Nat}{w₀:World}{j:Nat}{st pass:Nat->Nat}{sv:Value}{T:Array Value}{w:World}{K:List Item}{cs:List Frame}(hj:j<N)(hN:N<=64)(hsz:T.size=129)(f10:T[10]?=some (.pointer (some ⟨bX,0,none⟩)))(f29:T[29]?=some (.int .i64 N))(f30:T[30]?=some (.int .i64 j))
 (h:St4 N bX bT bB back capB w₀ j st pass sv w) (hbt:bT<w₀.heap.size) (hX:w.heap[bX]?=some (.cells #[.pointer (some ⟨bT,0,none⟩)] 136))
 (hmain:∀(T':Array Value)(w':World)(st' pass':Nat->Nat)(sv':Value),St4 N bX bT bB back capB w₀ (j+1) st' pass' sv' w'->T'.size=129->(∀t,t<29->T'[t]?=T[t]?)->T'[29]?=some (.int .i64 N)->T'[30]?=some (.int .i64 (j+1:Nat))->
  J0 Try.prog Fin n (G ((bN 22).at ⟨T',[]⟩ (.code lpA::.inLoop lpA::.inBlock 0::K)) cs) w'):
 J0 Try.prog Fin n (G ((bN 22).at ⟨T,[]⟩ (.code lpA::.inLoop lpA::.inBlock 0::K)) cs) w:=by
 have hJ:=j0_JS hFin;have hm:=Lib.hid hmain;clear hmain;have hjN:(j:Int)<N:=by omega
 obtain⟨lp,hlp⟩:∃c,lpA=c:=⟨_,rfl⟩;have elp:=lpA_eq;rw[hlp]at hm elp |-;refine zq6y (J:=J0 Try.prog Fin) elp ?_;obtain⟨u0,hu0⟩:∃c,r5c=c:=⟨_,rfl⟩;have eu0:=hu0;rw[hu0];simp only[r5c,r7c,lpA,overT,headC,tailN,Try.f22,al_od]at eu0;subst eu0;clear hu0;refine hJ.ctl (s:=n) (λw=>stepG_seq) ?_;refine hJ.ctl (s:=n) (λw=>stepG_region) ?_;refine zqp (s:=n) hJ (by decide) 0 [.bool true] [] rfl (by simp) (by rfl) ?_ ?_
 . intro τ d;simp only[zqm,dstOf,al_gl,al_g0,al_g1,al_ob];refine⟨?_,trivial⟩<;>(intro o ho;simp only[al_oi]at ho;subst ho)
   all_goals(try simp only[execOp,Act.eval,List.map_toArray,List.map_cons,List.map_nil,al_gd])
   all_goals(try simp only[al_gs,al_gz,hsz,f29,f30,Nat.reduceEqDiff,Nat.reduceLT,↓reduceIte,al_od])
   all_goals(have hlt:∀i,i<129->i<(T).size:=λi hi=>(by rw[hsz];exact hi))
   all_goals(clear hsz f29 f30)
   all_goals(try go_simp)
   all_goals(try omega)
 simp only[putv,dstOf,al_gl,al_g0,al_g1,al_ob];obtain⟨T1,hT⟩:∃X,X=(T).setIfInBounds 31 (.bool true):=⟨_,rfl⟩;rw[<-hT];have hT1:T1.size=129:=by rw[hT];simp[hsz]
 have T1_29:=sg1 hT f29;have T1_30:=sg1 hT f30;have T1_31:T1[31]?=some (.bool true):=by rw[hT];simp[al_gs,hsz]
 have hk1:∀t,t<29->T1[t]?=T[t]?:=λt ht=>by rw[hT,al_gn (by omega)]
 clear hT f29 f30 hsz;refine hJ.ctl (s:=n) (λw=>stepG_region_end) ?_;refine hJ.ctl (s:=n) (λw=>stepG_seq) ?_;refine hJ.ctl (s:=n) (λw=>stepG_cond (t:=true) (by simp[Act.eval,al_gd,T1_31])) ?_;simp only[if_true];refine hJ.ctl (s:=n) (λw=>stepG_skip) ?_;refine hJ.ctl (s:=n) (λw=>stepG_seq) ?_;refine hJ.ctl (s:=n) (λw=>stepG_block) ?_;have hX1:bX≠bT:=λe=>by subst e;rw[h.bt]at hX;cases hX
 refine zqe2 hFin (E:=λb=>if b=bT\/sv.ownBlock=some b then none else w.heap[b]?) (by omega) hT1 ((hk1 10 (by omega)).trans f10) (bT:=bT) (bX:=bX) (back:=back) (bB:=bB) (N:=N) (capB:=capB) (l:=stL st j) (sv:=sv) (B1:=w₀.heap.size) ?_ ?_ ?_ ?_ h.bt h.row h.ge
  λT2 w2 c s v' k1 k2 k3 k4 k5 k6 k7 k8 k9 k10=>?_
 . show(if bX=bT\/sv.ownBlock=some bX then none else w.heap[bX]?)=_;rw[if_neg]
   . exact hX
   . rintro(e|e)
     . exact hX1 e
     . obtain⟨_,c2,h2⟩:=h.row_at e;rw[hX]at h2;cases h2
 . exact if_pos (.inl rfl)
 . exact λg hg=>if_pos (.inr hg)
 . intro b o hb;split at hb
   . cases hb
   . exact hb
 have h2:=h.next hbt (w':=w2) (c:=c) (s:=s) (v':=v') k3 (λb e1 e2 o ho=>k4 b o (by show(if b=bT\/sv.ownBlock=some b then none else w.heap[b]?)=_;rw[if_neg (λe=>e.elim e1 e2)];exact ho)) k5 k6 k7 k8 k9 k10
 refine hJ.ctl (s:=n) (λw=>stepG_inBlock) ?_;have g29:=(k2 29 (by omega)).trans T1_29;have g30:=(k2 30 (by omega)).trans T1_30;have hk2:∀t,t<29->T2[t]?=T[t]?:=λt ht=>(k2 t (by omega)).trans (hk1 t ht);clear k2 k3 k4 k5 k6 k7 k8 k9 k10 T1_29 T1_30 T1_31 hk1;have hwr:IntKind.i64.wrap ((j:Int)+1)=((j+1:Nat):Int):=by
  rw[show(j:Int)+1=((j+1:Nat):Int)by omega];exact IntWalk.i64_in _ (by omega)
 have hm2:=λ(T':Array Value)=>hm.out T' w2 _ _ _ h2
 clear hm hX;have hm:=Lib.hid hm2;clear hm2 h2 h;obtain⟨u0,hu0⟩:∃c,r7c=c:=⟨_,rfl⟩;have eu0:=hu0;rw[hu0];simp only[r5c,r7c,lpA,overT,headC,tailN,Try.f22,al_od]at eu0;subst eu0;clear hu0;refine hJ.ctl (s:=n) (λw=>stepG_region) ?_;refine zqp (s:=n) hJ (by decide) 0 [.int .i64 ((j+1:Nat):Int),.int .i64 ((j+1:Nat):Int)] [] rfl (by simp) (by rfl) ?_ ?_
 . intro τ d;simp only[zqm,dstOf,al_gl,al_g0,al_g1,al_ob];refine⟨?_,?_,trivial⟩<;>(intro o ho;simp only[al_oi]at ho;subst ho)
   all_goals(try simp only[execOp,Act.eval,List.map_toArray,List.map_cons,List.map_nil,al_gd])
   all_goals(try simp only[al_gs,al_gz,k1,g29,g30,Nat.reduceEqDiff,Nat.reduceLT,↓reduceIte,al_od])
   all_goals(have hlt:∀i,i<129->i<(T2).size:=λi hi=>(by rw[k1];exact hi))
   all_goals(clear k1 g29 g30)
   all_goals(try go_simp)
   all_goals(try omega)
 simp only[putv,dstOf,al_gl,al_g0,al_g1,al_ob];obtain⟨T3,hT⟩:∃X,X=((T2).setIfInBounds 45 (.int .i64 ((j+1:Nat):Int))).setIfInBounds 30 (.int .i64 ((j+1:Nat):Int)):=⟨_,rfl⟩;rw[<-hT];have hT3:T3.size=129:=by rw[hT];simp[k1]
 have T3_29:=sg2 hT g29;have T3_45:T3[45]?=some (.int .i64 ((j+1:Nat):Int)):=by rw[hT];simp[al_gs,k1]
 have T3_30:T3[30]?=some (.int .i64 ((j+1:Nat):Int)):=by rw[hT];simp[al_gs,k1]
 have hk3:∀t,t<29->T3[t]?=T[t]?:=λt ht=>by rw[hT,al_gn (by omega),al_gn (by omega)];exact hk2 t ht
 clear hT g29 g30 k1;refine hJ.ctl (s:=n) (λw=>stepG_region_end) ?_;refine hJ.ctl (s:=n) (λw=>stepG_inLoop) ?_;exact hm.out _ hT3 hk3 T3_29 T3_30
theorem zqcd{Fin:Machine->Trace->Prop}(hFin:Back Try.prog Fin){n N bX bT bB back capB:Nat}{w₀:World}(hN:N<=64)(hbt:bT<w₀.heap.size)(hbX:bX<w₀.heap.size)(hXT:bX≠bT)(hX:w₀.heap[bX]?=some (.cells #[.pointer (some ⟨bT,0,none⟩)] 136)){K:List Item}{cs:List Frame}:
 ∀(r j:Nat),j+r=N->∀{st pass:Nat->Nat}{sv:Value}{T:Array Value}{w:World},T.size=129->T[10]?=some (.pointer (some ⟨bX,0,none⟩))->T[29]?=some (.int .i64 N)->T[30]?=some (.int .i64 j)->St4 N bX bT bB back capB w₀ j st pass sv w->
  (∀(T':Array Value)(w':World)(st' pass':Nat->Nat)(sv':Value),St4 N bX bT bB back capB w₀ N st' pass' sv' w'->T'.size=129->(∀t,t<29->T'[t]?=T[t]?)->J0 Try.prog Fin n (G ((bN 22).at ⟨T',[]⟩ K) cs) w')->
  J0 Try.prog Fin n (G ((bN 22).at ⟨T,[]⟩ (.code lpA::.inLoop lpA::.inBlock 0::K)) cs) w:=by
 intro r
 induction r with
 |zero=>
  intro j hj st pass sv T w hsz f10 f29 f30 h hmain;have e:j=N:=by omega
  subst e;exact zqcc hFin hsz f29 f30 λT' h1 h2=>hmain T' w st pass sv h h1 h2
 |succ r ih=>
  intro j hj st pass sv T w hsz f10 f29 f30 h hmain;refine four_one hFin (by omega) hN hsz f10 f29 f30 h hbt ((h.old _ hbX hXT).trans hX) λT' w' st' pass' sv' h' k1 k2 k3 k4=>?_;exact ih (j+1) (by omega) k1 ((k2 10 (by omega)).trans f10) k3 k4 h' λT2 w2 s2 p2 v2 h2 q1 q2=>hmain T2 w2 s2 p2 v2 h2 q1 λt ht=>(q2 t ht).trans (k2 t ht)
theorem zqe0{Fin:Machine->Trace->Prop}(hFin:Back Try.prog Fin){n N bX bT bB back capB:Nat}{w₀:World}{bn:Nat}{T:Array Value}{K:List Item}{cs:List Frame}(hN:N<=64)(hbt:bT<w₀.heap.size)(hbX:bX<w₀.heap.size)(hXT:bX≠bT)(hX:w₀.heap[bX]?=some (.cells #[.pointer (some ⟨bT,0,none⟩)] 136))
 (hsz:T.size=129) (f9:T[9]?=some (.pointer (some ⟨bn,0,none⟩))) (cn:w₀.cell? ⟨bn,0,none⟩=some (.int .i64 N)) (f10:T[10]?=some (.pointer (some ⟨bX,0,none⟩))) (h:St4 N bX bT bB back capB w₀ 0 (λ_=>0) (λ_=>0) (.slice none 0 0) w₀)
 (hmain:∀(T':Array Value)(w':World)(st pass:Nat->Nat)(sv:Value)(w1:World),St4 N bX bT bB back capB w₀ N st pass sv w1->T'.size=129->(∀t,t<29->t≠11->T'[t]?=T[t]?)->T'[11]?=some (.pointer (some ⟨w1.heap.size,0,none⟩))->
  w'.heap.size=w1.heap.size+1->(∀b,b<w1.heap.size->w'.heap[b]?=w1.heap[b]?)->w'.heap[w1.heap.size]?=some (.cells #[.int .i64 0] 3)->J0 Try.prog Fin n (G ((bN 22).at ⟨T',[]⟩ (.code (overT 6)::K)) cs) w'):
 J0 Try.prog Fin n (G ((bN 22).at ⟨T,[]⟩ (.code (overT 4)::K)) cs) w₀:=by
 have hJ:=j0_JS hFin;have hm1:=λ(T':Array Value)(w':World)(st pass:Nat->Nat)(sv:Value)(w1:World)(q:St4 N bX bT bB back capB w₀ N st pass sv w1)=>hmain T' w' st pass sv w1 q
 have hm:=Lib.hid hm1;clear hmain hm1;rw[over4,over5];generalize overT 6=rest at hm |-;obtain⟨u0,hu0⟩:∃c,headC (headC (overT 4))=c:=⟨_,rfl⟩;have eu0:=hu0;rw[hu0];simp only[r5c,r7c,lpA,overT,headC,tailN,Try.f22,al_od]at eu0;subst eu0;clear hu0;obtain⟨u1,hu1⟩:∃c,headC (overT 5)=c:=⟨_,rfl⟩;have eu1:=hu1;rw[hu1];simp only[r5c,r7c,lpA,overT,headC,tailN,Try.f22,al_od]at eu1;subst eu1;clear hu1;refine hJ.ctl (s:=n) (λw=>stepG_seq) ?_;refine hJ.ctl (s:=n) (λw=>stepG_seq) ?_;refine hJ.ctl (s:=n) (λw=>stepG_region) ?_;refine zqp (s:=n) hJ (by decide) 0 [.int .i64 N,.int .i64 (0:Nat)] [] rfl (by simp) (by rfl) ?_ ?_
 . intro τ d;simp only[zqm,dstOf,al_gl,al_g0,al_g1,al_ob];refine⟨?_,?_,trivial⟩<;>(intro o ho;simp only[al_oi]at ho;subst ho)
   all_goals(try simp only[execOp,Act.eval,List.map_toArray,List.map_cons,List.map_nil,al_gd])
   all_goals(try simp only[al_gs,al_gz,hsz,f9,Nat.reduceEqDiff,Nat.reduceLT,↓reduceIte,al_od])
   all_goals(have hlt:∀i,i<129->i<(T).size:=λi hi=>(by rw[hsz];exact hi))
   all_goals(clear hsz f9)
   all_goals(try go_simp)
   all_goals(try omega)
 simp only[putv,dstOf,al_gl,al_g0,al_g1,al_ob];obtain⟨T1,hT⟩:∃X,X=((T).setIfInBounds 29 (.int .i64 N)).setIfInBounds 30 (.int .i64 (0:Nat)):=⟨_,rfl⟩;rw[<-hT];have hT1:T1.size=129:=by rw[hT];simp[hsz]
 have T1_9:=sg2 hT f9;have T1_29:T1[29]?=some (.int .i64 N):=by rw[hT];simp[al_gs,hsz]
 have T1_30:T1[30]?=some (.int .i64 (0:Nat)):=by rw[hT];simp[al_gs,hsz]
 have hk1:∀t,t<29->T1[t]?=T[t]?:=λt ht=>by rw[hT,al_gn (by omega),al_gn (by omega)]
 clear hT f9 hsz;refine hJ.ctl (s:=n) (λw=>stepG_region_end) ?_;refine hJ.ctl (s:=n) (λw=>stepG_block) ?_;refine hJ.ctl (s:=n) (λw=>stepG_loop) ?_;refine zqcd hFin hN hbt hbX hXT hX N 0 (by omega) hT1 ((hk1 10 (by omega)).trans f10) T1_29 T1_30 h λT2 w2 st pass sv h2 q1 q2=>?_;have hm2:=hm.out;have hge:=h2.ge;clear hm;refine hJ.ctl (s:=n) (λw=>stepG_seq) ?_;refine hJ.ctl (s:=n) (λw=>stepG_region) ?_;have hk2:∀t,t<29->T2[t]?=T[t]?:=λt ht=>(q2 t ht).trans (hk1 t ht);obtain⟨B0,hs⟩:∃B0,w2.heap.size=B0:=⟨_,rfl⟩;clear q2 hk1 T1_9 T1_29 T1_30;have hm3:=λ(T':Array Value)(w':World)=>hm2 T' w' st pass sv w2 h2
 rw[hs]at hm3;have hm:=Lib.hid hm3;clear hm2 hm3 h2 h hX;have ho:∀b,b<B0->w2.heap[b]?=w2.heap[b]?:=λ_ _=>rfl;refine zq2u hJ (by decide) (s:=n) (i:=0) (rest:=[1]) rfl rfl rfl rfl λτ dd=>?_;refine⟨.pointer (some ⟨B0,0,none⟩),re (w2.alloc (.cells #[.int .i64 0] 3)) τ dd,?_,?_⟩
 . simp only[List.getElem_toArray,List.getElem_cons_zero,List.getElem_cons_succ,execOp,Act.eval,List.map_toArray,List.map_cons,List.map_nil,al_gd,q1,al_od];clear q1
   (go_simp)
   all_goals(first|rfl |(simp[hs];done)|skip)
 refine hJ.re' _ _ _ τ dd ?_;generalize hw:w2.alloc (.cells #[.int .i64 0] 3)=w3;have hsw3:w3.heap.size=B0+1:=by rw[<-hw,zqd,hs]
 have how3:∀b,b<B0->w3.heap[b]?=w2.heap[b]?:=λb hb=>by rw[<-hw,zqa,if_neg (by omega)];try exact ho b hb
 have b0w3:w3.heap[B0]?=some (.cells #[.int .i64 0] 3):=by rw[<-hw,zqa,if_pos (by omega)]
 clear hw hs ho;obtain⟨T3,hT⟩:∃X,X=(T2).setIfInBounds 11 (.pointer (some ⟨B0,0,none⟩)):=⟨_,rfl⟩;rw[<-hT];have hT3:T3.size=129:=by rw[hT];simp[q1]
 have T3_11:T3[11]?=some (.pointer (some ⟨B0,0,none⟩)):=by rw[hT];simp[al_gs,q1]
 have hk3:∀t,t<29->t≠11->T3[t]?=T[t]?:=λt ht h11=>by rw[hT,al_gn (by omega)];exact hk2 t ht
 clear hT q1;have cS:=(zq0 (off:=0) b0w3).trans rfl;have zS:=zqc (off:=0) b0w3;refine zq4d hJ (by decide) (s:=n) (i:=1) (rest:=[]) rfl rfl rfl rfl λτ dd=>?_;refine⟨re (w3.setCell ⟨B0,0,none⟩ (.int .i64 0)) τ dd,?_,?_⟩
 . simp only[List.getElem_toArray,List.getElem_cons_zero,List.getElem_cons_succ,execOp,Act.eval,List.map_toArray,List.map_cons,List.map_nil,al_gd,hT3,T3_11,al_od];clear hT3 T3_11
   (go_simp)
   all_goals(first|rfl |(simp[hsw3];done)|skip)
 refine hJ.re' _ _ _ τ dd ?_;have hq:=zqy w3 (B0) 0 (.int .i64 0) b0w3;generalize hw:w3.setCell ⟨B0,0,none⟩ (.int .i64 0)=w4 at hq;have hsw4:w4.heap.size=B0+1:=by rw[<-hw,zq13,hsw3]
 have how4:∀b,b<B0->w4.heap[b]?=w2.heap[b]?:=λb hb=>by rw[<-hw,zqi _ _ _ _ (by show b≠B0;omega)];exact how3 b hb
 have b0w4:w4.heap[B0]?=some (.cells #[.int .i64 0] 3):=hq.trans (by rfl);clear hw hq cS zS b0w3 hsw3 how3;refine hJ.ctl (s:=n) (λw=>stepG_region_end) ?_;exact hm.out _ w4 hT3 hk3 T3_11 hsw4 how4 b0w4
section
variable {M:Type}
noncomputable def zq2a(A:OA)(a:Addr):Option Value:=
 open Classical in
 if a=⟨A.bT,0,none⟩then some (.chan (some A.back))else if a=⟨A.bX,0,none⟩then some (.pointer (some ⟨A.bT,0,none⟩))else
  if h:∃i,i<A.N/\a=⟨A.st i,1,none⟩then some (.chan (some (A.pass (Classical.choose h))))else none
theorem zq7j{A:OA}(hA:A.Ok):Kept A (zq2a A):=by
 have hXT:=hA.ne.2.2.2.1;refine⟨?_,?_,λi hi=>?_,λa v h=>?_⟩
 . unfold zq2a;rw[if_pos rfl]
 . unfold zq2a;rw[if_neg (by intro e;injection e with e1;exact hXT e1),if_pos rfl]
 . unfold zq2a;have hex:∃j,j<A.N/\(⟨A.st i,1,none⟩:Addr)=⟨A.st j,1,none⟩:=⟨i,hi,rfl⟩;rw[if_neg (by intro e;injection e with e1 e2;cases e2),if_neg (by intro e;injection e with e1 e2;cases e2),dif_pos hex];have h1:=Classical.choose_spec hex;have h2:A.st i=A.st (Classical.choose hex):=by have:=h1.2;injection this
   rw[<-hA.inj i _ hi h1.1 h2]
 . unfold zq2a at h;split at h
   . exact .inl (by assumption)
   . split at h
     . exact .inr (.inl (by assumption))
     . split at h
       . rename_i hh;obtain⟨i,h1,h2⟩:=hh;exact .inr (.inr ⟨i,h1,h2⟩)
       . cases h
theorem zqcz{A:OA}(hA:A.Ok){ov brk:Nat->Bool}{w:World}(h:OverW A ov brk w):KK (zq2a A) w:=by
 intro a v ha;have hK:=zq7j hA;rcases hK.only a v ha with rfl |rfl |⟨i,hi,rfl⟩
 . rw[hK.t]at ha;cases ha;exact⟨(zq0 h.ts).trans rfl,zqc h.ts⟩
 . rw[hK.x]at ha;cases ha;exact⟨(zq0 h.box).trans rfl,zqc h.box⟩
 . rw[hK.p i hi]at ha;cases ha;exact⟨(zq0 (h.std i hi)).trans rfl,zqc (h.std i hi)⟩
theorem zqcx{T:Thr M}{m₀:M}{n N most c g p x:Nat}{w w3 w1 w6:World}{st pass:Nat->Nat}{sv:Value}(tv:Nat->Value)(hn:0<n)(hN:N<=64)(hmost:most<=1048576)(hrep:T.Rep m₀ w)(hlf:most+100<=T.left m₀)
 (s3:w.heap.size+3<=w3.heap.size) (o3:∀b,b<w.heap.size->w3.heap[b]?=w.heap[b]?) (fM:w3.heap[w.heap.size]?=some (.cells #[.int .i64 most] 3)) (fO:w3.heap[w.heap.size+1]?=some (.cells #[.slice none 0 0] 23)) (fN:w3.heap[w.heap.size+2]?=some (.cells #[.int .i64 N] 3))
 (lc:w.heap.size+3<=c) (lg:w.heap.size+3<=g) (lp:w.heap.size+3<=p) (lx:w.heap.size+3<=x) (fc:w3.heap[c]?=some (.chan 0 #[] false 0 0 false)) (fg:∃br,w3.heap[g]?=some (.cells br 4)/\∀i,i<N->br[i]?=some (.bool false))
 (fx:w3.heap[x]?=some (.cells #[.pointer (some ⟨p,0,none⟩)] 136)) (fp:w3.heap[p]?=some (.cells #[.chan (some c),.slice none 0 0,.slice (some ⟨g,0,none⟩) N N] 140))
 (h:St4 N x p g c N w3 N st pass sv w1) (s6:w6.heap.size=w1.heap.size+1) (o6:∀b,b<w1.heap.size->w6.heap[b]?=w1.heap[b]?) (fL:w6.heap[w1.heap.size]?=some (.cells #[.int .i64 0] 3)):
 ∃(A:OA)(E:Nat->Option Obj),A.N=N/\A.n0=n/\A.tv=tv/\A.bX=x/\KK (zq2a A) w6/\Inv T A ⟨w.heap.size+2,w.heap.size,w.heap.size+1,w1.heap.size,w.heap.size⟩ (zq2a A) w m₀ most 0 E (most+100) ⟨m₀,λ_=>false,λ_=>false,[]⟩ 0 (.slice none 0 0) (λ_=>none) w6:=by
 obtain⟨br,fg1,fg2⟩:=fg;have hge:=h.ge;have lgl:=zqe fg1;have lcl:=zqe fc;have lxl:=zqe fx;have o31:∀b,b<w3.heap.size->b≠p->w6.heap[b]?=w3.heap[b]?:=λb hb hne=>(o6 b (by omega)).trans (h.old b hb hne);have hne:∀(a b:Nat)(y z:Obj),w3.heap[a]?=some y->w3.heap[b]?=some z->y≠z->a≠b:=λa b y z h1 h2 hyz e=>by subst e;rw[h1]at h2;exact hyz (Option.some.inj h2)
 have ncg:c≠g:=hne c g _ _ fc fg1 (by intro e;cases e);have ncx:c≠x:=hne c x _ _ fc fx (by intro e;cases e);have ngx:g≠x:=hne g x _ _ fg1 fx (by intro e;cases e);have lpl:=zqe fp;have ncp:c≠p:=hne c p _ _ fc fp (by intro e;cases e);have ngp:g≠p:=hne g p _ _ fg1 fp (by intro e;cases e);have nxp:x≠p:=hne x p _ _ fx fp (by intro e;cases e);have stl:∀i,i<N->w3.heap.size<st i/\st i<w1.heap.size:=λi hi=>⟨by have:=h.lo i hi;omega,zqe (h.std i hi)⟩;have psl:∀i,i<N->w3.heap.size<=pass i/\pass i<w1.heap.size:=λi hi=>⟨(h.lo i hi).1,zqe (h.ps i hi)⟩;have std6:∀i,i<N->w6.heap[st i]?=some (.cells #[.pointer (some ⟨p,0,none⟩),.chan (some (pass i)),.bool false] 144):=λi hi=>(o6 _ (stl i hi).2).trans (h.std i hi);have ps6:∀i,i<N->w6.heap[pass i]?=some (.chan 0 #[] false 0 0 false):=λi hi=>(o6 _ (psl i hi).2).trans (h.ps i hi);have tp6:w6.heap[p]?=some (.cells #[.chan (some c),sv,.slice (some ⟨g,0,none⟩) N N] 140):=(o6 p (by omega)).trans h.bt;have stinj:∀i j,i<N->j<N->st i=st j->i=j:=λi j hi hj e=>by
  rcases Nat.lt_trichotomy i j with hlt|heq|hlt
  . have:=h.inc i j hlt hj;have:=(h.lo j hj).2;omega
  . exact heq
  . have:=h.inc j i hlt hi;have:=(h.lo i hi).2;omega
 have psinj:∀i j,i<N->j<N->pass i=pass j->i=j:=λi j hi hj e=>by
  rcases Nat.lt_trichotomy i j with hlt|heq|hlt
  . have:=h.inc i j hlt hj;have:=(h.lo i hi).2;omega
  . exact heq
  . have:=h.inc j i hlt hi;have:=(h.lo j hj).2;omega
 obtain⟨sp,gS,cap,row,hsv,hsp,hrow,hgS,hSl⟩:∃(sp:Option Addr)(gS cap:Nat)(row:Array Value),sv=.slice sp N cap/\(0<N->sp=some ⟨gS,0,none⟩)/\(∀i,i<N->row[i]?=some (.pointer (some ⟨st i,0,none⟩)))/\(0<N->w1.heap[gS]?=some (.cells row 141))/\w3.heap.size<=gS/\∀i,i<N->st i≠gS:=by
  rcases h.row.2 with⟨hv,h0⟩|⟨g2,cap,cur,hv,h1,h2,h3,h4,h5,h6⟩
  . exact⟨none,w3.heap.size,0,#[],by rw[hv,h0],λhN=>by omega,λi hi=>by omega,λhN=>by omega,Nat.le_refl _,λi hi=>by omega⟩
  . refine⟨some ⟨g2,0,none⟩,g2,cap,cur,hv,λ_=>rfl,λi hi=>?_,λ_=>h2,h1,λi hi e=>?_⟩
    . have e1:(cur.toList.take (N*1))[i]?=(stL st N)[i]?:=by rw[h6]
      rw[List.getElem?_take_of_lt (by omega),Array.getElem?_toList]at e1;rw[e1];unfold stL;simp[hi]
    . have:=h.std i hi;rw[e,h2]at this;cases this
 subst hsv;obtain⟨A,hA⟩:∃A:OA,A={n0:=n,N:=N,cap:=cap,capB:=N,bT:=p,bS:=gS,sp:=sp,bB:=g,bX:=x,back:=c,row:=row,st:=st,pass:=pass,rb:=λ_=>0,tv:=tv}:=⟨_,rfl⟩;have aN:A.N=N:=by rw[hA]
 have hOk:A.Ok:=by
  rw[hA];exact⟨hn,hsp,hrow,stinj,λi hi e=>by have:=(psl i hi).1;simp only at e;omega,psinj,⟨by simp only;omega,λe=>ngp e.symm,by simp only;omega,nxp,by simp only;omega,λe=>ngx e.symm⟩,
   λi hi=>⟨by have:=stl i hi;simp only;omega,hSl.2 i hi,by have:=stl i hi;simp only;omega,by have:=stl i hi;simp only;omega⟩⟩
 have how:OverW A (λ_=>false) (λ_=>false) w6:=by
  rw[hA];exact⟨tp6,(o31 x lxl nxp).trans fx,λh0=>(o6 gS (zqe (hgS h0))).trans (hgS h0),⟨br,(o31 g lgl ngp).trans fg1,fg2⟩,std6,⟨0,0,(o31 c lcl ncp).trans fc⟩,λi hi=>⟨0,0,ps6 i hi⟩⟩
 have hown:∀b,A.own b->w.heap.size+3<=b/\b<w1.heap.size:=by
  intro b hb;rw[hA]at hb;rcases hb with e|⟨h0,e⟩|e|e|e|⟨i,hi,e|e⟩<;>simp only at e
  . omega
  . have:=zqe (hgS h0);omega
  . omega
  . omega
  . omega
  . have:=stl i hi;omega
  . have:=psl i hi;omega
 have hft:∀b,T.foot m₀ b->b<w.heap.size:=λb hb=>T.lt _ _ _ hrep hb;have hrep6:T.Rep m₀ w6:=T.frame _ _ _ hrep λb hb=>by
  have:=hft b hb;rw[o31 b (by omega) (by omega),o3 b this]
 obtain⟨E,hE⟩:∃E:Nat->Option Obj,E=λb=>open Classical in if A.own b\/T.foot m₀ b then none else w6.heap[b]?:=⟨_,rfl⟩
 have eE:∀b,¬A.own b->¬T.foot m₀ b->E b=w6.heap[b]?:=λb h1 h2=>by rw[hE];exact if_neg (λh=>h.elim h1 h2)
 have eE':∀b o,E b=some o->¬A.own b/\¬T.foot m₀ b/\w6.heap[b]?=some o:=λb o hb=>by
  by_cases e:A.own b\/T.foot m₀ b
  . have:E b=none:=by rw[hE];exact if_pos e
    rw[this]at hb;cases hb
  . have h1:¬A.own b:=λh=>e (.inl h);have h2:¬T.foot m₀ b:=λh=>e (.inr h);exact⟨h1,h2,(eE b h1 h2).symm.trans hb⟩
 have nown:∀b,b<w.heap.size+3\/w1.heap.size<=b->¬A.own b:=λb hb ho=>by have:=hown b ho;omega
 have nft:∀b,w.heap.size<=b->¬T.foot m₀ b:=λb hb hf=>by have:=hft b hf;omega
 have aMO:∀b,w.heap.size<=b->b<w.heap.size+3->E b=w3.heap[b]?:=λb h1 h2=>by rw[eE b (nown b (.inl h2)) (nft b h1),o31 b (by omega) (by omega)]
 refine⟨A,E,aN,by rw[hA],by rw[hA],by rw[hA],zqcz hOk how,?_⟩;refine⟨hOk,⟨⟨by simp only;omega,Nat.le_refl _,by simp only;omega,by simp only;omega⟩,⟨by simp only;omega,by simp only;omega,by simp only;omega,by simp only;omega,by simp only;omega,by simp only;omega⟩⟩,zq7j hOk,?_,?_,?_,?_,?_,λb hb=>by have:=hown b hb;simp only;omega,⟨rfl,.inl ⟨rfl,rfl⟩⟩,λg hg=>(by cases hg),λb hb hf=>?_,Nat.zero_le _,hmost,by rw[aN];exact hN,by simp only;omega,by omega⟩
 . refine⟨how,hrep6,λb hb hf=>?_,Nat.zero_le _,λi hi=>absurd hi (Nat.not_lt_zero _),λi b hi=>absurd hi (Nat.not_lt_zero _),λi j hi=>absurd hi (Nat.not_lt_zero _),λi b hi=>absurd hi (Nat.not_lt_zero _),λi b hi=>absurd hi (Nat.not_lt_zero _),λi hi=>absurd hi (Nat.not_lt_zero _),λ_ _ _=>rfl,λb o hb=>(eE' b o hb).2.2,λb o hb=>⟨(eE' b o hb).1,(eE' b o hb).2.1,λi hi=>absurd hi (Nat.not_lt_zero _)⟩,hlf⟩;have:=hft b hf;have:=hown b hb;omega
 . rw[aN];exact(aMO _ (by simp only;omega) (by simp only;omega)).trans fN
 . exact(aMO _ (by simp only;omega) (by simp only;omega)).trans fM
 . exact(aMO _ (by simp only;omega) (by simp only;omega)).trans fO
 . exact(eE _ (nown _ (.inr (Nat.le_refl _))) (nft _ (by omega))).trans fL
 . simp only at hb;rw[eE b (nown b (.inl (by omega))) hf,o31 b (by omega) (by omega),o3 b hb]
end
section
variable {M:Type}
theorem go_all{Fin:Machine->Trace->Prop}(hFin:Back Try.prog Fin){T:Thr M}{B:Bx}{Kc:Addr->Option Value}{w₀:World}{m₀:M}{most:Nat}{p:Option Addr}{L C:Nat}{sch:Value}{tv:Nat->Value}{b:Frame}(hb:b.kind≠.early){ds:List Deferred}{K:List Item}{cs:List Frame}{v:Value}{N n0:Nat}(hNL:N<=L)
 (hp:0<N->∃tb,p=some ⟨tb,0,none⟩/\tb<B.B0/\¬T.foot m₀ tb/\∀i,i<N->w₀.cell? ⟨tb,i,none⟩=some (tv i))
 (hr:∀i,i<N->Runs Try.prog T 130 141 NEnd m₀ i (tv i))
 {A:OA} {E:Nat->Option Obj} {k:Nat} {inb:Nat->Option Seat} {w:World} {Ts:Array Value} (hAN:A.N=N) (hA0:A.n0=n0) (hAt:A.tv=tv) (hI:Inv T A B Kc w₀ m₀ most 0 E k ⟨m₀,λ_=>false,λ_=>false,[]⟩ 0 v inb w) (hF:Fr0 A B (.slice p L C) sch Ts) (t46:Ts[46]?=some (.int .i64 N)) (t47:Ts[47]?=some (.int .i64 (0:Nat)))
 (hmain:∀A' a' E' inb' w' Ts',A'.N=N->A'.n0=n0->a'.ord=[]->Begun T m₀ N a'.m a'.ov a'.brk->Inv T A' B Kc w₀ m₀ most N E' k a' (leftN a'.ov N) v inb' w'->Fr0 A' B (.slice p L C) sch Ts'->HoldR Try.prog Fin Kc inb' 0 (n0+N) (G (b.at ⟨Ts',ds⟩ K) cs) w'):
 HoldR Try.prog Fin Kc inb 0 n0 (G (b.at ⟨Ts,ds⟩ (.code lpB::.inLoop lpB::.inBlock 2::K)) cs) w:=by
 by_cases h0:0<N
 . obtain⟨tb,rfl,h1,h2,h3⟩:=hp h0;exact go_loop hFin h1 h2 hb hNL hr h3 N 0 (by omega) hAN hA0 hAt rfl hI rfl (λ_ _=>rfl) .zero hF t46 t47 hmain
 . have e:N=0:=by omega
   subst e;refine zq7h hFin hF (by rw[hAN];exact t46) (by rw[hAN];exact t47) hb λTs' hF'=>?_;exact hmain A _ E inb w Ts' hAN hA0 rfl .zero hI hF'
structure SchAt(T:Thr M)(m₀:M)(w:World)(sch:Value)(l:List Int):Prop where
 len:l.length<=4611686018427387904
 at':∃p C,sch=.slice p l.length C/\(l≠[]->∃sb off,p=some ⟨sb,off,none⟩/\∀j x,l[j]?=some x->(w.cell? ⟨sb,off+j,none⟩=some (.int .i64 x)/\sb<w.heap.size/\¬T.foot m₀ sb)\/∀m w,T.Rep m w->w.cell? ⟨sb,off+j,none⟩=some (.int .i64 x))
structure Over1(T:Thr M)(N most:Nat)(sched:List Int)(m₀:M)(w:World)(b:OSt M)(m':M)(v:Value)(g:Nat)(w':World):Prop where
 ran:Ran T N sched most m₀ b m'
 rep:T.Rep m' w'
 size:w.heap.size<=w'.heap.size
 old:∀x,x<w.heap.size->¬T.foot m₀ x->w'.heap[x]?=w.heap[x]?
 foot:∀x,T.foot m' x->T.foot m₀ x\/w.heap.size<=x
 row:w'.ownsRow w.heap.size 3 1 v b.ord.length (b.ord.map λ(i:Nat)=>.int .i64 i)
 rowf:∀x,v.ownBlock=some x->¬T.foot m' x/\x≠g
 brk:∃br,w'.heap[g]?=some (.cells br 4)/\∀i,i<N->br[i]?=some (.bool (b.brk i))
 brkl:w.heap.size<=g
 brkf:¬T.foot m' g
 len:b.ord.length<=most
theorem zqe1{Fin:Machine->Trace->Prop}(hFin:Back Try.prog Fin){T:Thr M}{A:OA}{B:Bx}{Kc:Addr->Option Value}{w₀:World}{m₀:M}{most:Nat}{thr sch:Value}{sched:List Int}(hB:B.B0=w₀.heap.size)(hsch:SchAt T m₀ w₀ sch sched)
 {E:Nat->Option Obj} {a:OSt M} {inb:Nat->Option Seat} {w:World} {Ts:Array Value} {v:Value} (hord:a.ord=[]) (hbg:Begun T m₀ A.N a.m a.ov a.brk) (hI:Inv T A B Kc w₀ m₀ most A.N E (most+100) a (leftN a.ov A.N) v inb w) (hF:Fr0 A B thr sch Ts) {c:Frame} {cs:List Frame}
 (hmain:∀b m' v' g w',Over1 T A.N most sched m₀ w₀ b m' v' g w'->J0 Try.prog Fin (A.n0+A.N) (G (c.finish (.tuple #[v',.bool (decide (0<leftN b.ov A.N)),.slice (some ⟨g,0,none⟩) A.N A.capB])) cs) w'):
 HoldR Try.prog Fin Kc inb 0 (A.n0+A.N) (G ((bN 22).at ⟨Ts,[]⟩ [.code (overT 7)]) (c::cs)) w:=by
 have hb:(bN 22).kind≠.early:=by decide
 obtain⟨p,C,rfl,hs⟩:=hsch.at';refine glue17 hFin hF hb λT1 hF1 t76 t77 t78=>?_;have after:∀a' E' k' v' inb' w' Ts',StepsR T A.N most sched a a'->most+100<=k'+a'.ord.length->Inv T A B Kc w₀ m₀ most A.N E' k' a' (leftN a'.ov A.N) v' inb' w'->Fr A B thr (.slice p sched.length C) Ts'->HoldR Try.prog Fin Kc inb' 0 (A.n0+A.N) (G ((bN 22).at ⟨Ts',[]⟩ [.code (overT 9)]) (c::cs)) w':=by
  intro a1 E1 k1 v1 inb1 w1 T2 hst hk1 hI1 hF2;refine glue19 hFin (A:=A) (B:=B) ?_;refine zqee hFin (Nat.le_refl _) hb most (by omega) hI1 hk1 hF2 λa2 E2 k2 v2 inb2 w2 T3 hr hk2 hI2 hF3=>?_;refine glue29 hFin hF3 (hI2.cell hI2.eL).1 ((zq0 hI2.cf.ow.box).trans rfl) ((zq0 hI2.cf.ow.ts).trans rfl) hb λT4 hF4 g7 g107 g108 g109=>?_;have hk3:100<=k2+0:=by have:=hI2.len;omega
  refine zqd2 hFin (Nat.le_refl _) hb (b₀:=a2) A.N 0 (by omega) hI2 hk3 .zero rfl rfl (λi hi=>by omega) (λi _=>rfl) hF4 g7 g107 g108 g109 λa3 E3 k3 inb3 w3 T5 hI3 hE hbr hor hov hF5 h7=>?_;have hgone:∀j,j≠0->inb3 j=none:=λj hj=>hI3.cf.gone j hj λi hi ho=>by rw[hov i hi]at ho;cases ho
  obtain⟨pv,cap,hv⟩:=hI3.slice;refine zqda (s:=⟨A.n0+A.N,inb3⟩) hgone ?_;have cO:=(hI3.cell hI3.eO).1;rw[hv]at cO;refine over_end hFin hF5 h7 cO (hI3.cell hI3.eO).2.1 ((zq0 hI3.cf.ow.box).trans rfl) ((zq0 hI3.cf.ow.ts).trans rfl) ?_;rw[<-hv];refine hmain a2 a3.m v2 A.bB w3 ⟨⟨⟨a.m,a.ov,a.brk,a1,hbg,?_,hr⟩,hE⟩,hI3.cf.rep,?_,λx hx hf=>?_,λx hx=>?_,?_,λx hx=>⟨?_,?_⟩,?_,?_,hI3.cf.free _ (.inr (.inr (.inl rfl))),hI2.len⟩
  . have:(⟨a.m,a.ov,a.brk,[]⟩:OSt M)=a:=by rw[<-hord]
    rw[this];exact hst
  . rw[<-hB];exact hI3.base
  . obtain⟨o,ho⟩:∃o,w₀.heap[x]?=some o:=⟨_,Array.getElem?_eq_getElem hx⟩;rw[ho];exact hI3.heap_old (by rw[hB];exact hx) hf ho
  . by_cases hlt:x<w₀.heap.size
    . refine .inl (Classical.byContradiction λhf=>?_);have h1:=hI3.old x (by rw[hB];exact hlt) hf;have h2:w₀.heap[x]?=some w₀.heap[x]:=Array.getElem?_eq_getElem hlt;exact(hI3.cf.extfree x _ (h1.trans h2)).2.1 hx
    . exact .inr (by omega)
  . have:=hI3.row;rw[hor,hB]at this;exact this
  . obtain⟨h1,h2⟩:=hI3.erow x hx;rcases hI3.row.2 with⟨hv',_⟩|⟨g2,cap2,cur2,hv',_,hh,_⟩
    . rw[hv']at hx;cases hx
    . rw[hv']at hx;simp only[Value.ownBlock,al_oi]at hx;subst hx;exact(hI3.cf.extfree _ _ (h1.trans hh)).2.1
  . obtain⟨h1,h2⟩:=hI3.erow x hx;rcases hI3.row.2 with⟨hv',_⟩|⟨g2,cap2,cur2,hv',_,hh,_⟩
    . rw[hv']at hx;cases hx
    . rw[hv']at hx;simp only[Value.ownBlock,al_oi]at hx;subst hx;exact λe=>(hI3.cf.extfree _ _ (h1.trans hh)).1 (.inr (.inr (.inl e)))
  . obtain⟨br,h1,h2⟩:=hI3.cf.ow.brs;exact⟨br,h1,λi hi=>by rw[h2 i hi,hbr]⟩
  . rw[<-hB];exact hI3.own _ (.inr (.inr (.inl rfl)))
 by_cases h0:sched=[]
 . subst h0;exact zq8g hFin hF1 t77 t78 hb λT2 hF2=>after a E _ v inb w T2 (.nil a) (by omega) hI hF2
 . obtain⟨sb,off,rfl,h3⟩:=hs h0;refine zqen hFin (Nat.le_refl _) hsch.len (by rw[hB];exact h3) hb sched.length 0 (by omega) hI (by omega) hF1 t76 t77 t78 λa' E' k' v' inb' w' Ts' hst=>?_;rw[List.drop_zero]at hst;exact after a' E' k' v' inb' w' Ts' hst
theorem zq87{Fin:Machine->Trace->Prop}(hFin:Back Try.prog Fin){T:Thr M}{m₀:M}{w:World}{n L C N most:Nat}{p:Option Addr}{tv:Nat->Value}{sched:List Int}{sch:Value}{mo:Int}{c:Frame}{cs:List Frame}(hn:0<n)(hN:N=min L 64)(hmost:most=min mo.toNat 1048576)
 (hrep:T.Rep m₀ w) (hlf:most+100<=T.left m₀) (hp:0<N->∃tb,p=some ⟨tb,0,none⟩/\¬T.foot m₀ tb/\∀i,i<N->w.cell? ⟨tb,i,none⟩=some (tv i)) (hr:∀i,i<N->Runs Try.prog T 130 141 NEnd m₀ i (tv i)) (hsch:SchAt T m₀ w sch sched)
 (hmain:∀b m' v' g cap w',Over1 T N most sched m₀ w b m' v' g w'->J0 Try.prog Fin (n+N) (G (c.finish (.tuple #[v',.bool (decide (0<leftN b.ov N)),.slice (some ⟨g,0,none⟩) N cap])) cs) w'):
 J0 Try.prog Fin n (G (Frame.enter Try.prog 22 #[.slice p L C,sch,.int .i64 mo] .normal) (c::cs)) w:=by
 have hJ:=j0_JS hFin;refine zqdz hFin λT1 w1 z1 f0 f1 f5 f6 f7 f9 s1 o1 hM hO hBN=>?_;rw[show heldI mo 1048576=(most:Int)by rw[hmost];exact zqcj mo 1048576]at hM;have hNi:(if(64:Int)<(L:Int)then(64:Int)else(L:Int))=((N:Nat):Int):=by
  rw[hN];split<;>omega
 rw[hNi]at hBN;have hN64:N<=64:=by omega
 rw[over3];refine hJ.ctl (s:=n) (λw=>stepG_seq) ?_;refine zqe3 hFin hN64 z1 f9 ((zq0 hBN).trans rfl) λT2 w2 cc g q x z2 k2 s2 o2 lc lg lq lx fc fg fq fx g10=>?_;obtain⟨br,fg1,fg2⟩:=fg;have hne:∀(a b:Nat)(y z:Obj),w2.heap[a]?=some y->w2.heap[b]?=some z->y≠z->a≠b:=λa b y z h1 h2 hyz e=>by subst e;rw[h1]at h2;exact hyz (Option.some.inj h2)
 have hxq:x≠q:=hne x q _ _ fx fq (by intro e;cases e);have e9:w2.heap[w.heap.size+2]?=some (.cells #[.int .i64 N] 3):=(o2 _ (by omega)).trans hBN;have kk:∀t,t<24->t≠10->T2[t]?=T1[t]?:=λt h1 h2=>k2 t (by omega) (by omega) (by omega) (by omega) (by omega) h2;refine zqe0 hFin (N:=N) (bX:=x) (bT:=q) (bB:=g) (back:=cc) (capB:=N) hN64 (zqe fq) (zqe fx) hxq fx z2 ((kk 9 (by omega) (by omega)).trans f9) ((zq0 e9).trans rfl) g10
  ⟨fq,⟨rfl,.inl ⟨rfl,rfl⟩⟩,λ_ _ _=>rfl,Nat.le_refl _,λi hi=>by omega,λi hi=>by omega,λi hi=>by omega,λi j h1 h2=>by omega⟩ λT3 w6 st pass sv w5 hSt z3 k3 h11 s6 o6 hL=>?_
 obtain⟨A,E,aN,aA0,aT,aX,hKK,hI⟩:=zqcx (w:=w) (w3:=w2) (w1:=w5) (w6:=w6) (n:=n) (most:=most) tv hn hN64 (by omega) hrep hlf (by omega) (λb hb=>(o2 b (by omega)).trans (o1 b hb)) ((o2 _ (by omega)).trans hM) ((o2 _ (by omega)).trans hO) e9 (by omega) (by omega) (by omega) (by omega) fc ⟨br,fg1,fg2⟩ fx fq hSt s6 o6 hL;refine zqcy hKK ?_;have kq:∀t,t<24->t≠10->t≠11->T3[t]?=T1[t]?:=λt h1 h2 h3=>(k3 t (by omega) h3).trans (kk t h1 h2);have hF:Fr0 A ⟨w.heap.size+2,w.heap.size,w.heap.size+1,w5.heap.size,w.heap.size⟩ (.slice p L C) sch T3:=
  ⟨z3,(kq 0 (by omega) (by omega) (by omega)).trans f0,(kq 1 (by omega) (by omega) (by omega)).trans f1,(kq 5 (by omega) (by omega) (by omega)).trans f5,(kq 6 (by omega) (by omega) (by omega)).trans f6,(kq 9 (by omega) (by omega) (by omega)).trans f9,by rw[aX];exact(k3 10 (by omega) (by omega)).trans g10,h11⟩
 have hb:(bN 22).kind≠.early:=by decide
 show HoldR Try.prog Fin (zq2a A) (λ_=>none) 0 n _ w6;refine glue9 hFin hF (hI.cell hI.eN).1 hb λT4 hF4 t46 t47=>?_;rw[aN]at t46;refine go_all hFin hb (by omega) (λh0=>?_) hr aN aA0 aT hI hF4 t46 t47 λA' a' E' inb' w' T5 bN' bn' bo hbg hI' hF5=>?_
 . obtain⟨tb,h1,h2,h3⟩:=hp h0;exact⟨tb,h1,Go.Car.cell_lt (h3 0 h0),h2,h3⟩
 . subst bN';subst bn';exact zqe1 hFin (B:=⟨w.heap.size+2,w.heap.size,w.heap.size+1,w5.heap.size,w.heap.size⟩) rfl hsch bo hbg hI' hF5 λb m' v' g' w7 ho=>hmain b m' v' g' A'.capB w7 ho
end
end Go.Proofs
namespace Go.Car
open Go
structure Cd where
 d:Int
 r:Int
 a:Int
 b:Int
 v:Int
structure Mch where
 regs:Nat->Int
 told:List Int
 next:Int
 most:Int
structure Mem where
 ws:List Int
 th:Nat->Mch
section
variable {M:Type} {T:Thr M} {abs:M->Mem} {prog:Nat->List Cd}
end
structure TSt(S:Type)where
 s:S
 t:Nat->Tree S Unit
 ov:Nat->Bool
 ord:List Nat
def Tree.isRet {S α:Type}:Tree S α->Bool
 |.ret _=>true
 |_=>false
section
variable {S:Type}
def turnT(i:Nat)(r:S×Tree S Unit)(a:TSt S)(ord:List Nat):TSt S:={s:=r.1,t:=upd' a.t i r.2,ov:=if r.2.isRet then(λj=>if j=i then true else a.ov j)else a.ov,ord:=ord}
def zq1f(pr:Nat->Proc S Unit)(s:S):Nat->TSt S
 |0=>{s:=s,t:=λ_=>.ret (),ov:=λ_=>false,ord:=[]}
 |n+1=>turnT n (pr n (zq1f pr s n).s) (zq1f pr s n) (zq1f pr s n).ord
def goT(t:Tree S Unit)(s:S):S×Tree S Unit:=
 match t with
 |.step u k=>(u s,k s)
 |x=>(s,x)
def zq1y(N most:Nat)(x:Int)(a:TSt S):TSt S:=
 if x<0\/(N:Int)<=x\/a.ov x.toNat=true\/a.ord.length=most then a else turnT x.toNat (goT (a.t x.toNat) a.s) a (a.ord++[x.toNat])
def zq2r(N most:Nat)(l:List Int)(a:TSt S):TSt S:=l.foldl (λa x=>zq1y N most x a) a
def zq2c(N most:Nat):Nat->TSt S->TSt S
 |0,a=>a
 |f+1,a=>if 0<leftN a.ov N/\a.ord.length<most then zq2c N most f (zq2r N most (upto N) a)else a
def playT(pr:Nat->Proc S Unit)(N most:Nat)(l:List Int)(s:S):TSt S:=zq2c N most (most+1) (zq2r N most l (zq1f pr s N))
end
section
variable {Ml S O:Type} {C:Core Ml S} {own:Nat->S->O} {ro:Nat->Option Obj} {pr:Nat->Proc S Unit}
structure SameT(C:Core Ml S)(a:OSt (TM Ml S))(s:TSt S):Prop where
 st:C.st a.m.bm.l=s.s
 at':a.m.at'=s.t
 ov:a.ov=s.ov
 brk:∀j,a.brk j=false
 ord:a.ord=s.ord
theorem turned_T{R:TM Ml S->Out (TM Ml S)->Prop}{i:Nat}{m m':TM Ml S}{ov brk ov' brk':Nat->Bool}{r:S×Tree S Unit}{room:Nat}(hR:∀o,R m o->Came C own i r m room o)(h:zq1t R i m ov brk m' ov' brk')(hb:∀j,brk j=false):
 C.st m'.bm.l=r.1/\m'.at'=upd' m.at' i r.2/\ov'=(if r.2.isRet then(λj=>if j=i then true else ov j)else ov)/\∀j,brk' j=false:=by
 have key:∀o,Came C own i r m room o->C.st o.mem.bm.l=r.1/\o.mem.at'=upd' m.at' i r.2:=λo h=>by
  refine⟨h.st,funext λj=>?_⟩
  by_cases hj:j=i
  . subst hj;rw[upd'_same];exact h.here
  . rw[zqj _ _ hj];exact(h.others j hj).1
 obtain⟨rs,rt⟩:=r;cases h with
 |yield h=>
  have hc:=hR _ h;have ho:=hc.out;cases rt with
  |ret a=>cases ho
  |out=>exact ho.elim
  |step u k=>exact⟨(key _ hc).1,(key _ hc).2,rfl,hb⟩
 |done h=>
  have hc:=hR _ h;have ho:=hc.out;cases rt with
  |ret a=>exact⟨(key _ hc).1,(key _ hc).2,rfl,λj=>by simp only;split<;>simp[hb]⟩
  |out=>exact ho.elim
  |step u k=>cases ho
 |broke h=>
  have hc:=hR _ h;have ho:=hc.out;cases rt with
  |ret a=>cases ho
  |out=>exact ho.elim
  |step u k=>cases ho
theorem begun_T{m₀:TM Ml S}(h0:m₀.at'=λ_=>.ret ()){s:Nat}{m:TM Ml S}{ov brk:Nat->Bool}(h:Begun (thrOf C own ro pr) m₀ s m ov brk):SameT C ⟨m,ov,brk,[]⟩ (zq1f pr (C.st m₀.bm.l) s):=by
 induction h with
 |zero=>exact⟨rfl,h0,rfl,λ_=>rfl,rfl⟩
 |succ h ht ih=>
  rename_i s m ov brk m' ov' brk';obtain⟨h1,h2,h3,h4,h5⟩:=ih;simp only at h1 h2 h3 h4 h5;obtain⟨e1,e2,e3,e4⟩:=turned_T (C:=C) (own:=own) (r:=pr s (zq1f pr (C.st m₀.bm.l) s).s) (room:=m.room) (λo ho=>by rw[<-h1];exact ho) ht h4;exact⟨e1,by rw[zq1f,turnT];simp only;rw[e2,h2],by rw[zq1f,turnT];simp only;rw[e3,h3],e4,by rw[zq1f,turnT];exact h5⟩
theorem step1_T{N most:Nat}{x:Int}{a b:OSt (TM Ml S)}{s:TSt S}(h:Step1 (thrOf C own ro pr) N most x a b)(hs:SameT C a s):SameT C b (zq1y N most x s):=by
 obtain⟨h1,h2,h3,h4,h5⟩:=hs;cases h with
 |not hn=>
  rw[h3,h5]at hn;unfold zq1y;rw[if_pos hn];exact⟨h1,h2,h3,h4,h5⟩
 |go i hx hi ho hm ht=>
  subst hx;rename_i m' ov' brk';have hn:¬((i:Int)<0\/(N:Int)<=i\/s.ov (i:Int).toNat=true\/s.ord.length=most):=by
   rw[<-h3,<-h5];rintro(e|e|e|e)
   . omega
   . omega
   . rw[Int.toNat_natCast,ho]at e;cases e
   . exact hm e
  unfold zq1y;rw[if_neg hn,Int.toNat_natCast];obtain⟨e1,e2,e3,e4⟩:=turned_T (C:=C) (own:=own) (r:=goT (s.t i) s.s) (room:=a.m.room - 1) (λo ho=>by
   obtain⟨u,k,hk,hc⟩:=ho;rw[h2]at hk;rw[hk,<-h1];exact hc) ht h4
  exact⟨e1,by simp only[turnT];rw[e2,h2],by simp only[turnT];rw[e3,h3],e4,by simp only[turnT];rw[h5]⟩
theorem zq9e{N most:Nat}{l:List Int}{a b:OSt (TM Ml S)}(h:StepsR (thrOf C own ro pr) N most l a b):∀{s:TSt S},SameT C a s->SameT C b (zq2r N most l s):=by
 induction h with
 |nil a=>exact λhs=>hs
 |cons h1 h2 ih=>exact λhs=>ih (step1_T h1 hs)
theorem rounds_T{N most:Nat}{a b:OSt (TM Ml S)}(h:zq39 (thrOf C own ro pr) N most a b):∀(f:Nat){s:TSt S},most<f+a.ord.length->SameT C a s->SameT C b (zq2c N most f s):=by
 induction h with
 |stop a hn=>
  intro f s hf hs;cases f with
  |zero=>exact hs
  |succ f=>
   unfold zq2c;rw[if_neg (by rw[<-hs.ov,<-hs.ord];exact hn)];exact hs
 |more hgo hst hr ih=>
  rename_i a b c;intro f s hf hs;cases f with
  |zero=>have:=hgo.2;omega
  |succ f=>
   unfold zq2c;rw[if_pos (by rw[<-hs.ov,<-hs.ord];exact hgo)];obtain⟨i,hi,ho⟩:=zq4o hgo.1;have:=hst.progress hi (mem_upto hi) ho hgo.2;exact ih f (by omega) (zq9e hst hs)
theorem ran_T{N most:Nat}{l:List Int}{m₀ m':TM Ml S}{b:OSt (TM Ml S)}(h0:m₀.at'=λ_=>.ret ())(h:Ran (thrOf C own ro pr) N l most m₀ b m'):SameT C b (playT pr N most l (C.st m₀.bm.l))/\C.st m'.bm.l=C.st b.m.bm.l:=by
 obtain⟨⟨m₁,ov₁,brk₁,a,h1,h2,h3⟩,h4⟩:=h;refine⟨rounds_T h3 _ (by omega) (zq9e h2 (begun_T h0 h1)),?_⟩;have:∀n m,Go.Car.Ends (thrOf C own ro pr) b.ov b.m n m->C.st m.bm.l=C.st b.m.bm.l:=by
  intro n m h
  induction h with
  |zero=>rfl
  |over h _ ih=>exact ih
  |kill h _ hk ih=>exact hk.1.trans ih
 exact this _ _ h4
end
end Go.Car
namespace Go.Car
open Go Go.Conc Go.RowKit
section
variable {P:Program} {main:Bool} {Kc:Addr->Option Value} {γ:Type} {J:γ->Goroutine->World->Prop} {A:FuncId->Bool}
theorem zq2t(hJ:JS P main Kc J)(hcalm:CalmJ P main J)(hP:Plain P A){c:Code}(hc:zqq P A c=true)(C:Array Value->World->Prop)
 (hC:∀t w τ d,C t w->C t (re w τ d)) {b:Frame} {k:List Item} {cs:List Frame} (hb:b.kind≠.early) {s:γ} {a:Act} {w:World}
 (h:∀τ d,Code.wp P c (ends (λa w=>C a.tmps w) (λ_ _=>False)) ⟨a.tmps,[]⟩ (re w τ d))
 (hq:∀t w',C t w'->J s (G (b.at ⟨t,a.defers⟩ k) cs) w'):J s (G (b.at a (.code c::k)) cs) w:=by
 refine zq6f (Q:=λs' e a' w'=>s'=s/\e=.normal/\a'.defers=a.defers/\C a'.tmps w') hJ hcalm hP hc (λa w=>C a.tmps w) (λ_ _=>False) (λa w τ d h=>hC _ _ _ _ h) (λ_ _ _ _ h=>h) h (λt w h=>⟨rfl,rfl,rfl,h⟩) (λ_ _ h=>h.elim) b k cs hb ?_;rintro s' e ⟨t,ds⟩ w' ⟨rfl,rfl,hd,h⟩;simp only at hd;subst hd;exact hq t w' h
theorem zqaz(hJ:JS P main Kc J)(hcalm:CalmJ P main J)(hP:Plain P A){f:FuncId}{fn:Func}{c:Code}{args:Array Value}{s:γ}{w:World}(hf:P.funcs[f]?=some fn)(hb:fn.body=some c)(hc:zqq P A c=true)
 {R:Value->World->Prop} (hR:∀v w τ d,R v w->R v (re w τ d)) (h:∀τ d,Calls P f args (re w τ d) λe w'=>∃v,e=.returned v/\R v w') {cl:Frame} {cs:List Frame}
 (hq:∀v w',R v w'->J s (G (cl.finish v) cs) w'):J s (G (Frame.enter P f args .normal) (cl::cs)) w:=by
 refine zq6w hJ hcalm hP hf hb hc hR (λτ d=>Calls.mono (h τ d) ?_) cl cs ?_ ?_
 . rintro e w' ⟨v,rfl,h⟩;exact h
 . rintro s' v w' ⟨rfl,h⟩;exact hq v w' h
 . rintro s' ch w' h;exact h.elim
theorem zq58(hJ:JS P main Kc J)(hcalm:CalmJ P main J)(hP:Plain P A){c:Code}(hc:zqq P A c=true)(R:Value->World->Prop)
 (hR:∀v w τ d,R v w->R v (re w τ d)) {b:Frame} (hb:b.kind=.normal) {fn:Func} (hf:P.funcs[b.fn]?=some fn) {cl:Frame} {cs:List Frame} {s:γ} {t:Array Value} {w:World}
 (h:∀τ d,Code.wp P c (bodyPost P fn λe w'=>∃v,e=.returned v/\R v w') ⟨t,[]⟩ (re w τ d))
 (hq:∀v w',R v w'->J s (G (cl.finish v) cs) w'):J s (G (b.at ⟨t,[]⟩ [.code c]) (cl::cs)) w:=by
 let Φ:Act->World->Prop:=λa w=>∃v,(results fn a.tmps).run P w=.ok v w/\R v w
 have hΦ:∀a w τ d,Φ a w->Φ a (re w τ d):=λa w τ d⟨v,h1,h2⟩=>⟨v,zq30 h1 τ d,hR _ _ _ _ h2⟩;have hleave:∀(t:Array Value)(w:World)(todo:List Item),Φ ⟨t,[]⟩ w->J s (G {b.at ⟨t,[]⟩ todo with mode:=.returning} (cl::cs)) w:=λt w todo⟨v,h1,h2⟩=>
  zq1v hJ hb rfl hf (λτ d=>zq30 h1 τ d) (hq v w h2)
 refine zq6f (Q:=λs' e a' w'=>s'=s/\(e=.normal\/e=.ret)/\a'.defers=[]/\Φ a' w') hJ hcalm hP hc Φ Φ hΦ hΦ (λτ d=>?_) (λt w h=>⟨rfl,.inl rfl,rfl,h⟩) (λt w h=>⟨rfl,.inr rfl,rfl,h⟩) b [] (cl::cs) (by rw[hb];decide) ?_
 . refine Code.wp_mono ?_ (h τ d);intro e a w hh;cases e with
   |normal=>obtain⟨h1,v,h2,v',h3,h4⟩:=hh;cases h3;exact⟨h1,v,h2,h4⟩
   |ret=>obtain⟨h1,v,h2,v',h3,h4⟩:=hh;cases h3;exact⟨h1,v,h2,h4⟩
   |panic ch=>obtain⟨h1,v,h2,_⟩:=hh;cases h2
   |outgrown=>obtain⟨v,h2,_⟩:=hh;cases h2
   |_=>exact hh
 . rintro s' e ⟨t',ds⟩ w' ⟨rfl,he,hd,h⟩;simp only at hd;subst hd;rcases he with rfl |rfl
   . exact hJ.ctl (λw=>stepG_end) (hleave t' w' [] h)
   . exact λtodo=>hleave t' w' todo h
end
end Go.Car
namespace Go.Proofs
open Go Go.Conc Go.RowKit Go.Car
noncomputable def opsT(n:Nat):Code:=tailN n (Try.f35.body.getD .skip)
theorem ops0:Try.f35.body.getD .skip=.seq (headC (opsT 0)) (.seq (headC (opsT 1)) (.seq (headC (opsT 2)) (opsT 3))):=by kernel_rfl
def ans0:AnsM:=⟨λ_=>.slice none 0 0,λ_ _=>none,λ_=>[]⟩
structure OpsAt(w:World)(RP:Nat->Option Obj)(pp:Option Addr)(n N:Nat)(sp:Nat->Option Addr)(L Cp:Nat->Nat)(ops:Nat->List OpX):Prop where
 eq:N=min n 64
 le:n<=4611686018427387904
 at':0<n->∃tb to',pp=some ⟨tb,to',none⟩/\∀i,i<N->w.cell? ⟨tb,to'+i,none⟩=some (.slice (sp i) (L i) (Cp i))
 row:∀i,i<N->L i<=Cp i/\L i<=4611686018427387904/\(sp i=none->L i=0/\Cp i=0)
 len:∀i,i<N->(ops i).length=min (L i) 65536
 op:∀i,i<N->∀k op,(ops i)[k]?=some op->∃g off cur e fr,sp i=some ⟨g,off,none⟩/\RP g=some (.cells cur e fr)/\∀j,j<4->cur[off+k*4+j]?=op.cells[j]?
open Classical in
noncomputable def roOf(RP:Nat->Option Obj)(H N:Nat)(ob ib:Nat->Nat)(w1:World):Nat->Option Obj:=λb=>if RP b≠none then RP b else if b=H\/b=H+2\/∃i,i<N/\(b=ob i\/b=ib i)then w1.heap[b]? else none
theorem zq5v{RP:Nat->Option Obj}{H N:Nat}{ob ib:Nat->Nat}{w1:World}{b:Nat}{o:Obj}(h:RP b=some o):roOf RP H N ob ib w1 b=some o:=by
 unfold roOf;rw[if_pos (by rw[h];simp),h]
theorem zq4y{RP:Nat->Option Obj}{H N:Nat}{ob ib:Nat->Nat}{w1:World}{b:Nat}(h:RP b=none)(hb:b=H\/b=H+2\/∃i,i<N/\(b=ob i\/b=ib i)):roOf RP H N ob ib w1 b=w1.heap[b]?:=by
 unfold roOf;rw[if_neg (by rw[h];simp),if_pos hb]
theorem zq41{RP:Nat->Option Obj}{H N:Nat}{ob ib:Nat->Nat}{w1:World}{b:Nat}{o:Obj}(h:roOf RP H N ob ib w1 b=some o):RP b=some o\/((b=H\/b=H+2\/∃i,i<N/\(b=ob i\/b=ib i))/\w1.heap[b]?=some o):=by
 unfold roOf at h;split at h
 . exact .inl h
 . split at h
   . rename_i h2;exact .inr ⟨h2,h⟩
   . cases h
structure OpsRes{M1 S1:Type}(C:Core M1 S1)(N:Nat)(l₀:M1)(w:World)(r:TSt (S1×(Nat->List Ans)))(ab:Nat)(v:Value)(l':M1)(am:AnsM)(w':World):Prop where
 rep:C.Rep l' w'
 st:C.st l'=r.s.1
 ans:zq37 tT ab N am w'
 ast:am.st=r.s.2
 size:w.heap.size<=w'.heap.size
 old:∀b,b<w.heap.size->¬C.foot l₀ b->w'.heap[b]?=w.heap[b]?
 foot:∀b,C.foot l' b->C.foot l₀ b\/w.heap.size<=b
 abl:w.heap.size<=ab
 ansn:∀i b,i<N->am.X i b≠none->C.foot l₀ b\/w.heap.size<=b
 anf:∀b,C.foot l' b->b≠ab/\∀i,i<N->am.X i b=none
 row:w'.ownsRow w.heap.size 3 1 v r.ord.length (r.ord.map λ(i:Nat)=>.int .i64 i)
 rowf:∀x,v.ownBlock=some x->¬C.foot l' x/\x≠ab/\∀i,i<N->am.X i x=none
theorem OpsRes.re {M1 S1:Type}{C:Core M1 S1}{N:Nat}{l₀:M1}{w w':World}{r:TSt (S1×(Nat->List Ans))}{ab:Nat}{v:Value}{l':M1}{am:AnsM}(h:OpsRes C N l₀ w r ab v l' am w')(τ:Nat->Question->Nat)(d:Nat):OpsRes C N l₀ w r ab v l' am (Go.Car.re w' τ d):=
 ⟨C.frame _ _ _ h.rep λ_ _=>rfl,h.st,⟨h.ans.hd,h.ans.row,h.ans.blk,h.ans.nab,h.ans.sep⟩,h.ast,h.size,h.old,h.foot,h.abl,h.ansn,h.anf,h.row,h.rowf⟩
section
variable {M1 S1:Type} {C:Core M1 S1} {RP:Nat->Option Obj} {l₀:M1} {wa w1:World} {N n:Nat} {pp:Option Addr} {sp:Nat->Option Addr} {L Cp:Nat->Nat} {ops:Nat->List OpX} {ob ib:Nat->Nat} {dv fv:Value}
theorem ops_rep(hR:DRes wa N dv sp L Cp N ob ib fv w1)(hb:BRep C RP ⟨l₀,λ_ _=>none⟩ wa):BRep (zq7 C (zqt tT (wa.heap.size+1) N)) (roOf RP wa.heap.size N ob ib w1) ⟨(l₀,ans0),λ_ _=>none⟩ w1:=by
 have hcl:∀b,C.foot l₀ b->b<wa.heap.size:=λb h=>C.lt _ _ _ hb.core h;have hrl:∀b o,RP b=some o->b<wa.heap.size:=λb o h=>zqs (hb.rod b o h);have hnw:∀b o,roOf RP wa.heap.size N ob ib w1 b=some o->RP b=some o\/(wa.heap.size<=b/\b≠wa.heap.size+1/\w1.heap[b]?=some o):=λb o h=>by
  rcases zq41 h with h|⟨h,h2⟩
  . exact .inl h
  . right
    rcases h with h|h|⟨i,hi,h⟩
    . exact⟨by omega,by omega,h2⟩
    . exact⟨by omega,by omega,h2⟩
    . have:=hR.lo i hi;rcases h with h|h<;>exact⟨by omega,by omega,h2⟩
 refine⟨⟨C.frame _ _ _ hb.core λb h=>hR.old b (hcl b h),⟨?_,λi hi=>AnsR.nil _ _,λi b o _ h=>(by cases h),λi _=>rfl,λi j b _ _ _ _=>rfl⟩,λb h=>?_⟩,λi b o h=>(by cases h),λb o h=>?_,λi b h=>absurd rfl h,λi j b _ h=>absurd rfl h,λb h=>?_,λi b _=>rfl⟩
 . show w1.heap[wa.heap.size+1]?=_;rw[hR.ab];congr 2;apply Array.ext_getElem?;intro i
   by_cases hi:i<N
   . simp[ans0,hi]
   . simp[ans0,hi]
 . rintro(h2|⟨i,hi,h2⟩)
   . have:=hcl b h;omega
   . exact h2 rfl
 . rcases hnw b o h with h|h
   . rw[hR.old b (hrl b o h)];exact hb.rod b o h
   . exact h.2.2
 . cases ho:roOf RP wa.heap.size N ob ib w1 b with
   |none=>exact absurd ho h
   |some o=>
    rintro(h2|h2|⟨i,hi,h2⟩)
    . rcases hnw b o ho with h3|h3
      . exact hb.rol b (by rw[h3];simp) h2
      . have:=hcl b h2;omega
    . rcases hnw b o ho with h3|h3
      . have:=hrl b o h3;omega
      . exact h3.2.1 h2
    . exact h2 rfl
theorem ops_ro{f:FuncId}{first caps:Array Value}(hR:DRes wa N (.func (.func f) first caps) sp L Cp N ob ib fv w1)(hb:BRep C RP ⟨l₀,λ_ _=>none⟩ wa)(hN:N<=64)(hlen:∀i,i<N->(ops i).length=min (L i) 65536)(hop:∀i,i<N->∀k op,(ops i)[k]?=some op->∃g off cur e fr,sp i=some ⟨g,off,none⟩/\RP g=some (.cells cur e fr)/\∀j,j<4->cur[off+k*4+j]?=op.cells[j]?){i:Nat}(hi:i<N):
 DoRo (roOf RP wa.heap.size N ob ib w1) i N (wa.heap.size+1) (ob i) wa.heap.size (ib i) (wa.heap.size+2) (sp i) (min (L i) 65536) (Cp i) (ops i) f first caps:=by
 have hno:∀b,wa.heap.size<=b->RP b=none:=λb hle=>by
  cases h:RP b with
  |none=>rfl
  |some o=>have:=zqs (hb.rod b o h);omega
 have hlo:=hR.lo i hi;refine⟨?_,?_,?_,?_,hlen i hi,Nat.min_le_right _ _,hi,hN,λk op hk=>?_⟩
 . rw[zq4y (hno _ (by omega)) (.inr (.inr ⟨i,hi,.inl rfl⟩))];exact hR.obx i hi
 . rw[zq4y (hno _ (Nat.le_refl _)) (.inl rfl)];exact hR.db
 . rw[zq4y (hno _ (by omega)) (.inr (.inr ⟨i,hi,.inr rfl⟩))];exact hR.ibx i hi
 . rw[zq4y (hno _ (by omega)) (.inr (.inl rfl))];exact hR.hb
 . obtain⟨g,off,cur,e,fr,h1,h2,h3⟩:=hop i hi k op hk;exact⟨g,off,cur,e,fr,h1,zq5v h2,h3⟩
end
def Beyond(w w':World):Prop:=w.heap.size<=w'.heap.size/\∀b,b<w.heap.size->w'.heap[b]?=w.heap[b]?
theorem Beyond.refl (w:World):Beyond w w:=⟨Nat.le_refl _,λ_ _=>rfl⟩
theorem Beyond.trans {w w' w'':World}(h:Beyond w w')(k:Beyond w' w''):Beyond w w'':=⟨Nat.le_trans h.1 k.1,λb hb=>(k.2 b (Nat.lt_of_lt_of_le hb h.1)).trans (h.2 b hb)⟩
theorem Beyond.alloc (w:World)(o:Obj):Beyond w (w.alloc o):=⟨by rw[zqd];omega,λb hb=>by rw[zqa,if_neg (by omega)]⟩
theorem Beyond.heap {w w':World}(h:Beyond w w'){b:Nat}{o:Obj}(hb:w.heap[b]?=some o):w'.heap[b]?=some o:=(h.2 b (zqs hb)).trans hb
theorem Beyond.cell {w w':World}(h:Beyond w w'){a:Addr}{v:Value}(hb:w.cell? a=some v):w'.cell? a=some v:=(zq16 (h.2 a.block (cell_lt hb))).trans hb
theorem Beyond.re (w:World)(τ:Nat->Question->Nat)(d:Nat):Beyond w (Go.Car.re w τ d):=⟨Nat.le_refl _,λ_ _=>rfl⟩
def zq38(w:World)(v:Value)(l:List Int):Prop:=∃p C,v=.slice p l.length C/\(l≠[]->∃b o,p=some ⟨b,o,none⟩/\∀i,i<l.length->w.cell? ⟨b,o+i,none⟩=some (.int .i64 (l.getD i 0)))
def AnsAt(w:World)(v:Value)(l:List Ans):Prop:=∃p C,v=.slice p l.length C/\(l≠[]->∃b o,p=some ⟨b,o,none⟩/\∀i a,l[i]?=some a->w.cell? ⟨b,o+i*3,none⟩=some (.bool a.ok)/\w.cell? ⟨b,o+i*3+1,none⟩=some (.int .i64 a.n)/\∃lv,w.cell? ⟨b,o+i*3+2,none⟩=some lv/\zq38 w lv a.l)
end Go.Proofs
namespace Go.Car
open Go Go.Conc Go.RowKit
section
variable {P:Program}
def FinOf(P:Program)(Post:Value->World->Prop)(m:Machine)(T:Trace):Prop:=
 ∃N last o w' t',runNT P (N+1) m T=(.ended o w',t')/\runN P N m=.next last/\step P last=.ended o w'/\Conc.Good P (λv w=>Post v w/\w.os=m.world.os/\w.output=m.world.output) last o w' t'
theorem zq5a(Post:Value->World->Prop):Back P (FinOf P Post):=by
 intro N m T m' T' hrun e1 e2 ⟨M,last,o,w',t',h1,h2,h3,h4⟩;rw[e1,e2]at h4;have hn:runN P N m=.next m':=by rw[<-runNT_fst P _ _ T,hrun]
 refine⟨N+M,last,o,w',t',?_,?_,h3,h4⟩
 . rw[Nat.add_assoc,runNT_add,hrun];exact h1
 . rw[runN_add,hn];exact h2
theorem j0_end{Post:Value->World->Prop}(hPost:∀v w τ d,Post v w->Post v (re w τ d)){n:Nat}{b:Frame}(hb:b.kind=.normal)(hini:P.inits.idxOf? b.fn=none){fn:Func}(hf:P.funcs[b.fn]?=some fn){t:Array Value}{todo:List Item}{w:World}{v:Value}
 (hr:(results fn t).run P w=.ok v w) (hp:Post v w):J0 P (FinOf P Post) n (G {b.at ⟨t,[]⟩ todo with mode:=.returning} []) w:=by
 intro τ d Mem B gs sl T q hM hsz hg hR;obtain⟨hL,hP⟩:=ring_end hR hM (λ_ _=>rfl);obtain⟨es,hes⟩:∃es,((results fn t).runT P w #[]).2=es:=⟨_,rfl⟩;have hT:∀τ d,(results fn t).runT P (re w τ d) #[]=(.ok v (re w τ d),es):=λτ d=>by
  obtain⟨_,_,h3⟩:=zq33 _ (zq2d _ (zq1o (P:=P) fn t)) w #[];have h4:((results fn t).runT P w #[]).1=.ok v w:=by rw[Sem.runT_eq];exact hr
  have:=h3 τ d (λj hj=>by rw[h4]at hj;simp only[resW]at hj;omega);rw[h4,hes]at this;simp only[resRe,resW,Nat.sub_self,Nat.add_zero]at this;exact this
 have hcalm:∀e∈es,calmEv true e:=λe he=>by
  rw[<-hes]at he;have:=(zq24 _ (zq1o (P:=P) fn t) w #[] e he).resolve_left (by simp);exact⟨this.1,λh=>by cases h⟩
 obtain⟨B2,hB2⟩:=zq4p es;have hP2:Past (λ_=>False) (max B B2) T:=hP.mono (Nat.le_max_left _ _);refine beside_ends (Shun:=λ_=>False) (B:=max B B2) (D:=λ_ _ _=>False) (n:=0) (λ_ _ _ h=>h.elim) hg hL hP2 ?_;rintro w₁ ⟨d₁,rfl⟩;have hw:∃τ' d',(((re w τ 0).at d).at d₁)=re w τ' d':=⟨τ,d₁,rfl⟩;obtain⟨τ',d',hw⟩:=hw;rw[hw];refine⟨rfl,v,seen P b.fn es,?_,λe he=>?_,hPost _ _ _ _ hp,rfl,rfl⟩
 . simp only[G,stepG,unwind,Frame.at,hf,hT τ' d',GStep.after,doReturn];simp[GStep.after,hb,hini]
 . have he':=mem_seen he;obtain⟨k1,k2⟩:=zq4f (hcalm e he');exact⟨λx _ h=>h.elim,k1,k2,MemAct.low_mono (Nat.le_max_right _ _) (hB2 e he')⟩
theorem j0_run{Post:Value->World->Prop}{f:FuncId}{fn:Func}{c:Code}{args:Array Value}{W:World}(hf:P.funcs[f]?=some fn)(hb:fn.body=some c)
 (h:J0 P (FinOf P Post) 1 (G (Frame.enter P f args .normal) []) W):FinOf P Post (solo (G (Frame.enter P f args .normal) []) W) #[]:=by
 have hL:Leavers P (#[]:Trace) #[G (Frame.enter P f args .normal) []] (λ_=>0):=⟨λi g hi hg=>by
  rcases i with _|i
  . omega
  . simp at hg,λj _=>rfl⟩
 have hP:Past (λ_=>False) 0 (#[]:Trace):=past_nil;have hR:=ring_begin (P:=P) (K:=KK (λ_=>none)) (Still:=zq29 (λ_=>none)) (w:=W.at W.drawn) (B:=0) (λl⟨a,v,_,hv⟩=>by cases hv) hL hP (zq6i _);have:=h W.tape W.drawn (λg=>g=0) 0 #[G (Frame.enter P f args .normal) []] none #[] (λ_=>0) rfl rfl rfl hR;rw[solo_eq_crowd];exact this
end
end Go.Car
namespace Go.Car
open Go Go.Conc Go.RowKit
section
variable {P:Program} {A:FuncId->Bool}
theorem zqb6{Post:Value->World->Prop}(hPost:∀v w τ d,Post v w->Post v (re w τ d))(hP:Plain P A){c:Code}(hc:zqq P A c=true){n:Nat}{b:Frame}(hb:b.kind=.normal)(hini:P.inits.idxOf? b.fn=none){fn:Func}(hf:P.funcs[b.fn]?=some fn){t:Array Value}{w:World}
 (h:∀τ d,Code.wp P c (bodyPost P fn λe w'=>∃v,e=.returned v/\Post v w') ⟨t,[]⟩ (re w τ d)):J0 P (FinOf P Post) n (G (b.at ⟨t,[]⟩ [.code c]) []) w:=by
 have hFin:=zq5a (P:=P) Post;have hJ:=j0_JS hFin;have hC:=zq2i hFin
 let Φ:Act->World->Prop:=λa w=>∃v,(results fn a.tmps).run P w=.ok v w/\Post v w
 have hΦ:∀a w τ d,Φ a w->Φ a (re w τ d):=λa w τ d⟨v,h1,h2⟩=>⟨v,zq30 h1 τ d,hPost _ _ _ _ h2⟩;have hleave:∀(t:Array Value)(w:World)(todo:List Item),Φ ⟨t,[]⟩ w->J0 P (FinOf P Post) n (G {b.at ⟨t,[]⟩ todo with mode:=.returning} []) w:=λt w todo⟨v,h1,h2⟩=>j0_end hPost hb hini hf h1 h2;refine zq6f (Q:=λs' e a' w'=>s'=n/\(e=.normal\/e=.ret)/\a'.defers=[]/\Φ a' w') hJ hC hP hc Φ Φ hΦ hΦ (λτ d=>?_) (λt w h=>⟨rfl,.inl rfl,rfl,h⟩) (λt w h=>⟨rfl,.inr rfl,rfl,h⟩) b [] [] (by rw[hb];decide) ?_
 . refine Code.wp_mono ?_ (h τ d);intro e a w hh;cases e with
   |normal=>obtain⟨h1,v,h2,v',h3,h4⟩:=hh;cases h3;exact⟨h1,v,h2,h4⟩
   |ret=>obtain⟨h1,v,h2,v',h3,h4⟩:=hh;cases h3;exact⟨h1,v,h2,h4⟩
   |panic ch=>obtain⟨h1,v,h2,_⟩:=hh;cases h2
   |outgrown=>obtain⟨v,h2,_⟩:=hh;cases h2
   |_=>exact hh
 . rintro s' e ⟨t',ds⟩ w' ⟨rfl,he,hd,h⟩;simp only at hd;subst hd;rcases he with rfl |rfl
   . exact hJ.ctl (λw=>stepG_end) (hleave t' w' [] h)
   . exact λtodo=>hleave t' w' todo h
end
end Go.Car
namespace Go.Proofs
open Go Go.Conc Go.RowKit Go.Car Go.ChangeShapes Go.WideShapes Go.Deep
theorem add_at{a:Addr}(h:a.spot=none)(i:Nat):a.add i=⟨a.block,a.off+i,none⟩:=by
 obtain⟨b,o,s⟩:=a;simp only at h;subst h;unfold Addr.add;split
 . rename_i e;rw[e];rfl
 . rfl
theorem zqex{w:World}{a:Addr}{v:Value}(h:w.cell? a=some v):a.spot=none:=by
 unfold World.cell? at h;split at h
 . split at h
   . cases h
   . rename_i hh;simpa using hh
 . cases h
theorem zq8l{w:World}{a:Addr}{v:Value}(h:w.cell? (a.add 0)=some v):a.spot=none:=zqex (a:=a) (by simpa[Addr.add]using h)
def lenD{H:Type}:DataW H->Nat
 |.slice e _=>e.length
 |_=>0
section
variable {H:Type} {enc:TypeId×Value->H} {P:Program} {w:World} {held:Bool} {sp:Nat->Bool}
theorem zqcw{t e:TypeId}(ht:P.underlying t=some (.slice e))(he:P.underlying e=some (.int .i64))(hc:P.cellsOf e=1){a0:Option Addr}{len cap:Nat}{d:DataW H}{ps:List MemPlace}{fuel:Nat}
 (h:DataW.trod enc P w 0 sp held fuel t [.slice a0 len cap]=some (d,ps)):∃l:List Int,l.length=len/\zq38 w (.slice a0 len cap) l/\lenD d=len:=by
 rcases open_ints ht he hc h with⟨hcs,hx⟩|⟨a,len',cap',zs,hcs,_,hl,hm,hz,hx,hcell,_⟩
 . simp only[List.cons.injEq,Value.slice.injEq,and_true]at hcs;obtain⟨rfl,rfl,rfl⟩:=hcs;cases hx;exact⟨[],rfl,⟨none,0,rfl,λh=>absurd rfl h⟩,rfl⟩
 . simp only[List.cons.injEq,Value.slice.injEq,and_true]at hcs;obtain⟨rfl,rfl,rfl⟩:=hcs;cases hx;have hlz:len<=zs.length:=by rw[hz];split<;>omega
   have hlt:(zs.take len).length=len:=by rw[List.length_take];omega
   refine⟨zs.take len,hlt,⟨some a,cap,by rw[hlt],λhne=>?_⟩,by simp[lenD,lits,hlt];omega⟩;have h0:0<len:=by rw[<-hlt];exact List.length_pos_iff.2 hne
   have hs:=zq8l (hcell 0 (by omega));refine⟨a.block,a.off,by obtain⟨b,o,s⟩:=a;simp only at hs;rw[hs],λi hi=>?_⟩;rw[hlt]at hi;have:=hcell i (by omega);rw[add_at hs]at this;rw[this];simp[List.getD_eq_getElem?_getD,List.getElem?_take,hi]
end
end Go.Proofs
namespace Go.Car
open Go Go.Conc
theorem zqd6{H:Type}{enc:TypeId×Value->H}{a:Assume}{C:Checked}{os:Os}{f:FuncId}{fn:Func}{s:OpenSpec}{k:(H:Type)->List (DataW H)->Bool}(hk:s.cond=some k){F:Stop.Interp}{conds:List PathCond}{apart fresh handsOn again:Bool}
 (own:ownKnob C.prog.godebug=none) (started:os.Started) (hfn:C.prog.funcs[f]?=some fn)
 (witness:∃(w:World)(tape:Tape)(i:Input),w.os=os/\(w.forCall tape i).Shaped C.prog/\i.vars=[]/\Input.okWide C.prog (w.forCall tape i) .any w.heap.size f i/\
  s.pre6 enc C.prog fn conds apart (w.forCall tape i).memory i.args/\a.holds C.prog (lone (Frame.enter C.prog f i.args .normal) [] (w.forCall tape i)))
 (runs:∀(W:World)(base:Nat)(args:Array Value)(ds gs:List (DataW H))(before:List MemPlace),
  (∀(j:Nat)t v,fn.params[j]?=some t->args[j]?=some v->Value.okWide C.prog W .any base t v)->
  DataW.Whole enc C.prog fn.params.toList s.vars apart W args.toList ds gs before->k H (ds++gs)=true->
  ∃M last o w' t',runNT C.prog (M+1) (solo (G (Frame.enter C.prog f args .normal) []) W) #[]=(.ended o w',t')/\runN C.prog M (solo (G (Frame.enter C.prog f args .normal) []) W)=.next last/\
   step C.prog last=.ended o w'/\Conc.Good C.prog (λv W'=>(s.at F).post enc C.prog fn apart fresh handsOn again W args v W') last o w' t'):
 ReturnsInLeavingWide a C os f .any (s.pre6 enc C.prog fn conds apart) ((s.at F).post enc C.prog fn apart fresh handsOn again):=by
 refine returnsInLeavingWide_of_good own started witness ?_;intro w tape i _ _ _ hok hpre _;obtain⟨_,_,_,fn',hfn',_,_,_,_,hval⟩:=hok;obtain rfl:fn'=fn:=Option.some.inj (hfn'.symm.trans hfn);obtain⟨ds,gs,before,hw,_,hkk⟩:=(OpenSpec.pre_some hk conds apart _ _).1 hpre.1;obtain⟨M,last,o,w',t',h1,h2,h3,h4⟩:=runs (w.forCall tape i) w.heap.size i.args ds gs before hval (DataW.Whole.of_heap (w':=w.forCall tape i) (by rfl) hw) hkk;exact⟨M,last,o,w',t',h1,h2,h3,h4.mono λv hp=>ChangeSpec.post_blind hp⟩
theorem zqcp{p:Pinned}{s:OpenSpec}{c:OpenClaim}(f:FuncId)(fn:Func)
 (hn:c.program=p.name) (hs:c.sum=p.sum) (hsp:c.spec=s.name)
 (hstart:c.start=.entering) (hout:c.outside=[]) (hin:c.inits=[]) (hun:c.under=none) (hi4:c.initsInPlace=[]/\c.initsUnfollowed=false/\c.initsRecurse=false/\c.initsNamed=[]/\c.initsPassed=[]) (hnb:c.noBlocks=false) (hlv:c.leaving=true) (hfo:c.followed=none) (hnar:c.narrowed=s.cond.isSome) (hstill:c.still=false)
 (hfn:p.checked.prog.funcNamed c.func=some f) (hf:p.checked.prog.funcs[f]?=some fn)
 (closed:joinedFacts p.checked.prog f fn s.bare c=true)
 (hinst:fn.isInstance p.checked.prog c.origin c.targs) (hwrap:fn.isWrapper p.checked.prog c.wrapper c.mainSum)
 (h:∀os:Os,os.Started->∀(H:Type)(enc:TypeId×Value->H),(∀a b,enc a=enc b->a=b)->∀F:Stop.Interp,
  ReturnsInLeavingWide c.assume p.checked os f .any (c.pre enc p.checked.prog fn s) ((s.at F).post enc p.checked.prog fn c.apart c.fresh c.handsOn c.again)):c.holds p s:=by
 simp only[joinedFacts,Bool.and_eq_true,beq_iff_eq,Array.all_eq_true_iff_forall_mem,List.all_eq_true,decide_eq_true_eq]at closed;obtain⟨⟨⟨⟨⟨⟨⟨⟨⟨⟨⟨⟨⟨⟨⟨⟨⟨⟨⟨⟨⟨⟨⟨⟨⟨⟨⟨⟨⟨⟨⟨a1,a2⟩,a3⟩,a4⟩,a5⟩,a6⟩,a7⟩,a8⟩,a9⟩,a10⟩,a11⟩,a12⟩,a13⟩,a14⟩,a15⟩,a16⟩,a17⟩,b17⟩,a18⟩,a19⟩,a20⟩,a21⟩,a22⟩,a23⟩,b23⟩,a24⟩,b24⟩,c24⟩,a25⟩,a26⟩,a27⟩,a28⟩:=closed;have quiet:∀os:Os,Stop.quiet p.checked.prog os:=λos k hk=>by rw[a9]at hk;cases hk
 have fits:c.startFits p.checked.prog:=by unfold OpenClaim.startFits;rw[hstart];exact a24
 have told:c.startTold p.checked.prog:=by unfold OpenClaim.startTold;rw[hstart];exact⟨hin,hun,hi4⟩
 have named:namedTie p.checked.prog c.namedList s.vars=true:=by unfold OpenClaim.namedList;rw[hfo];exact a5
 have worded:p.checked.prog.envWorded=true:=by unfold Program.envWorded;rw[a9];rfl
 have world0:∃os:Os,c.world os/\Stop.quiet p.checked.prog os:=⟨_,by unfold OpenClaim.world;rw[hout,hstart];exact WideRow.started_initial,quiet _⟩;have lists0:c.lists p.checked.prog []:=by unfold OpenClaim.lists;rw[hfo]
 refine⟨a1,hn,hs,hsp,a2,a3,fits,told,f,fn,hfn,hf,⟨a4,a19⟩,(λhb=>by rw[hnb]at hb;cases hb),named,hinst,hwrap,
  a6.trans a7.symm,⟨a8.trans a9.symm,worded,b23⟩,a10,a11,a12,a13,a14,⟨a15,a27,a28⟩,⟨a16,a20⟩,⟨a17,a21,a25,a26⟩,⟨a22,b24,c24,b17⟩,(by rw[hout,hnar];cases hsh:c.shortTexts with|none=>simp |some _=>rw[hsh]at a23;cases a23),λn hn'=>varReadable_some (a18 n hn'),
  world0,[],lists0,λos st _ H enc inj=>?_⟩
 have st':os.Started:=by unfold OpenClaim.world at st;rw[hout,hstart]at st;exact st
 rw[OpenClaim.post_not_still hstill];unfold OpenClaim.form;rw[hstart,a6];intro F;have e1:c.okInput=Input.okWide:=by unfold OpenClaim.okInput;rw[hnb]
 have e2:c.atReturn p.checked.prog=leavingAtReturn p.checked.prog:=by unfold OpenClaim.atReturn;rw[hlv]
 have e3:c.always p.checked.prog []=nothingAlways:=by unfold OpenClaim.always;rw[hfo]
 have e4:s.post enc p.checked.prog fn F c.outside c.apart c.fresh c.handsOn c.again=(s.at F).post enc p.checked.prog fn c.apart c.fresh c.handsOn c.again:=by rw[hout];rfl
 rw[e1,e2,e3];show ReturnsInOpen _ _ _ _ _ _ _ _ (s.post enc p.checked.prog fn F c.outside c.apart c.fresh c.handsOn c.again) _ _;rw[e4];exact h os st' H enc inj F a24
end Go.Car
namespace Go.Proofs.Ytkdlklpffdlglaa
open Go Go.Conc Go.RowKit Go.Car Go.ChangeShapes Go.WideShapes Go.ChangeAt
theorem bulk_one{H:Type}(d:DataW H):1<=Rows.uptoBulk d:=by
 cases d with
 |lit l=>cases l<;>simp[Rows.uptoBulk]
 |nil=>simp[Rows.uptoBulk]
 |ptr d=>simp[Rows.uptoBulk]
 |slice elems spare=>simp[Rows.uptoBulk]
 |agg parts=>simp[Rows.uptoBulk]
 |iface t d=>simp[Rows.uptoBulk]
 |map entries=>simp[Rows.uptoBulk]
 |held h=>simp[Rows.uptoBulk]
theorem bulk_mem{H:Type}{d:DataW H}{l:List (DataW H)}(h:d∈l):Rows.uptoBulk d<=Rows.uptoBulkAll l:=by
 induction l with
 |nil=>cases h
 |cons x r ih=>
  simp only[Rows.uptoBulkAll];rcases List.mem_cons.1 h with e|e
  . subst e;omega
  . have:=ih e;omega
theorem zqbf{H:Type}(l:List (DataW H)):l.length<=Rows.uptoBulkAll l:=by
 induction l with
 |nil=>simp[Rows.uptoBulkAll]
 |cons x r ih=>have:=bulk_one x;simp only[Rows.uptoBulkAll,List.length_cons];omega
theorem zq6s{H:Type}(d:DataW H):lenD d<=Rows.uptoBulk d:=by
 cases d with
 |slice e s=>have:=zqbf e;simp only[lenD,Rows.uptoBulk];omega
 |_=>exact Nat.zero_le _
theorem zq6t{H:Type}{l:List (DataW H)}(hk:Rows.uptoSmall H l=true){d:DataW H}(h:d∈l):Rows.uptoBulk d<=1048576:=by
 have h1:=of_decide_eq_true hk;have h2:=bulk_mem h;omega
theorem own_knob:ownKnob Try.prog.godebug=none:=by kernel_rfl
theorem laid_out:laidOutB Try.prog=true:=by kernel_rfl
theorem zqed{H:Type}{enc:TypeId×Value->H}{t:TypeId}(hr:Try.prog.readableRec t=true)(hrow:t<Try.prog.types.size){W w':World}{v:Value}{d:DataW H}{ps:List MemPlace}
 (h:DataW.Trod enc Try.prog W 0 (λ_=>true) true t v d ps) (hb:Beyond W w') (hlt:∀x∈ps,x.block<W.heap.size):DataW.Trod enc Try.prog w' 0 (λb=>decide (b<W.heap.size)) true t v d ps:=
 DataW.Trod.of_heap (w:={w' with os:=W.os,tape:=W.tape,output:=W.output}) (by rfl) (Below.trod laid_out hr hrow h ⟨rfl,rfl,rfl,hb.1,hb.2⟩ hlt)
theorem zqd0{W w':World}(hb:Beyond W w')(ho:w'.os=W.os)(hu:w'.output=W.output)(may:MemPlace->Prop):W.keptBut w' may:=by
 have h:=Below.frame (W:=W) (w':={w' with os:=W.os,tape:=W.tape,output:=W.output}) ⟨rfl,rfl,rfl,hb.1,hb.2⟩ may;exact⟨ho,hu,h.2.2⟩
theorem ints_arg{H:Type}{enc:TypeId×Value->H}{W:World}{t e:TypeId}(ht:Try.prog.underlying t=some (.slice e))(he:Try.prog.underlying e=some (.int .i64))(hc:Try.prog.cellsOf e=1){base:Nat}{v:Value}{d:DataW H}{p:List MemPlace}(hok:Value.okWide Try.prog W .any base t v)
 (h:DataW.Trod enc Try.prog W 0 (λ_=>true) true t v d p) (hb:Rows.uptoBulk d<=1048576):∃a C,∃l:List Int,v=.slice a l.length C/\zq38 W (.slice a l.length C) l/\l.length<=1048576:=by
 obtain⟨a,len,cap,rfl⟩:=okWide_slice ht hok;obtain⟨fuel,hf⟩:=h;obtain⟨l,h1,h2,h3⟩:=zqcw ht he hc (by simpa[Value.cells]using hf);have:=zq6s d;exact⟨a,cap,l,by rw[h1],by rw[h1];exact h2,by omega⟩
end Go.Proofs.Ytkdlklpffdlglaa
namespace Go.Proofs
open Go Go.Conc Go.RowKit Go.Car
theorem zqdv{S1:Type}{i:Nat}{dop:OpX->Proc (S1×(Nat->List Ans)) Ans}{k:Nat}(h:∀op,(dop op).Deep k):∀l,(opsP i dop l).Deep k:=by
 intro l
 induction l with
 |nil=>exact Proc.Deep.ret _
 |cons op l ih=>exact(h op).bind λa=>(Proc.Deep.act _).bind λ_=>ih
section
variable {M1 S1:Type} {C:Core M1 S1} {RP:Nat->Option Obj} {l₀:M1} {w wa w1 w2:World} {N n most:Nat} {sp:Nat->Option Addr} {L Cp:Nat->Nat} {ob ib:Nat->Nat} {dv fv v:Value} {pr:Nat->Proc (S1×(Nat->List Ans)) Unit} {sched:List Int} {b:OSt (TM (M1×AnsM) (S1×(Nat->List Ans)))} {m':TM (M1×AnsM) (S1×(Nat->List Ans))} {g:Nat}
def mOps(l₀:M1)(room:Nat):TM (M1×AnsM) (S1×(Nat->List Ans)):=⟨⟨(l₀,ans0),λ_ _=>none⟩,λ_=>.ret (),room⟩
theorem ops_rep0{ro:Nat->Option Obj}{ab:Nat}{room:Nat}(h:BRep (zq7 C (zqt tT ab N)) ro ⟨(l₀,ans0),λ_ _=>none⟩ w1):(thrOf (zq7 C (zqt tT ab N)) ownA ro pr).Rep (mOps l₀ room) w1:=⟨h,λi=>trivial⟩
theorem zq4v{ro:Nat->Option Obj}{ab room x:Nat}(h:(thrOf (zq7 C (zqt tT ab N)) ownA ro pr).foot (mOps l₀ room) x):C.foot l₀ x\/x=ab\/ro x≠none:=by
 rcases h with(h|h|⟨i,hi,h⟩)|⟨i,h⟩|h
 . exact .inl h
 . exact .inr (.inl h)
 . exact absurd rfl h
 . exact absurd rfl h
 . exact .inr (.inr h)
theorem ops_res(hR:DRes wa N dv sp L Cp N ob ib fv w1)(hb:BRep C RP ⟨l₀,λ_ _=>none⟩ wa){room:Nat}
 (ho:Over1 (thrOf (zq7 C (zqt tT (wa.heap.size+1) N)) ownA (roOf RP wa.heap.size N ob ib w1) pr) N most sched (mOps l₀ room) w1 b m' v g w2):
 OpsRes C N l₀ wa (playT pr N most sched (C.st l₀,λ_=>[])) (wa.heap.size+1) v m'.bm.l.1 m'.bm.l.2 w2/\leftN b.ov N=leftN (playT pr N most sched (C.st l₀,λ_=>[])).ov N:=by
 obtain⟨hs,he⟩:=ran_T (m₀:=mOps l₀ room) rfl ho.ran;have hs0:(zq7 C (zqt tT (wa.heap.size+1) N)).st (mOps (S1:=S1) l₀ room).bm.l=(C.st l₀,λ_=>[]):=rfl;rw[hs0]at hs;have hst:(C.st m'.bm.l.1,m'.bm.l.2.st)=(playT pr N most sched (C.st l₀,λ_=>[])).s:=he.trans hs.st;have hB:=ho.rep.1;have hsz:=hR.size;have hsz2:=ho.size;have hrl:∀x o,RP x=some o->x<wa.heap.size:=λx o h=>zqs (hb.rod x o h);have hrn:∀x,roOf RP wa.heap.size N ob ib w1 x≠none->RP x≠none\/wa.heap.size<=x:=λx h=>by
  cases hx:roOf RP wa.heap.size N ob ib w1 x with
  |none=>exact absurd hx h
  |some o=>
   rcases zq41 hx with h|⟨h,_⟩
   . exact .inl (by rw[h];simp)
   . right
     rcases h with h|h|⟨i,hi,h⟩
     . omega
     . omega
     . have:=hR.lo i hi;rcases h with h|h<;>omega
 have hfn:∀x,(thrOf (zq7 C (zqt tT (wa.heap.size+1) N)) ownA (roOf RP wa.heap.size N ob ib w1) pr).foot m' x->roOf RP wa.heap.size N ob ib w1 x=none->C.foot l₀ x\/wa.heap.size<=x:=λx h hn=>by
  rcases ho.foot x h with h|h
  . rcases zq4v h with h|h|h
    . exact .inl h
    . exact .inr (by omega)
    . exact absurd hn h
  . exact .inr (by omega)
 have hcr:∀x,C.foot m'.bm.l.1 x->roOf RP wa.heap.size N ob ib w1 x=none:=λx h=>Classical.byContradiction λy=>hB.rol x y (.inl h);refine⟨⟨hB.core.1,congrArg Prod.fst hst,hB.core.2.1,congrArg Prod.snd hst,by omega,λx hx hf=>?_,λx hx=>hfn x (.inl (.inl hx)) (hcr x hx),by omega,λi x hi hx=>hfn x (.inl (.inr (.inr ⟨i,hi,hx⟩))) (Classical.byContradiction λy=>hB.rol x y (.inr (.inr ⟨i,hi,hx⟩))),λx hx=>?_,?_,λx hx=>?_⟩,?_⟩
 . by_cases hro:roOf RP wa.heap.size N ob ib w1 x=none
   . refine(ho.old x (by omega) λh=>?_).trans (hR.old x hx);rcases zq4v h with h|h|h
     . exact hf h
     . omega
     . exact h hro
   . cases hx2:roOf RP wa.heap.size N ob ib w1 x with
     |none=>exact absurd hx2 hro
     |some o=>
      rw[hB.rod x o hx2];rcases zq41 hx2 with h|⟨h,_⟩
      . exact(hb.rod x o h).symm
      . exfalso;rcases h with h|h|⟨i,hi,h⟩
        . omega
        . omega
        . have:=hR.lo i hi;rcases h with h|h<;>omega
 . have h:=hB.core.2.2 x hx;exact⟨λe=>h (.inl e),λi hi=>Classical.byContradiction λy=>h (.inr ⟨i,hi,y⟩)⟩
 . have:=ho.row;rw[hs.ord]at this;exact zq3y this (by omega)
 . have h:=(ho.rowf x hx).1;exact⟨λy=>h (.inl (.inl y)),λe=>h (.inl (.inr (.inl e))),λi hi=>Classical.byContradiction λy=>h (.inl (.inr (.inr ⟨i,hi,y⟩)))⟩
 . exact zq7l λi _=>by rw[hs.ov]
theorem OpsRes.ext {r:TSt (S1×(Nat->List Ans))}{ab:Nat}{l':M1}{am:AnsM}{w':World}(h:OpsRes C N l₀ wa r ab v l' am w2){H:Nat}(hw:w.heap.size=H)(hwa:wa.heap.size=H+1)(hoa:∀b,b<H->wa.heap[b]?=w.heap[b]?)(hl:∀b,C.foot l₀ b->b<H)(hsz:w2.heap.size<=w'.heap.size)(hold:∀x,x<w2.heap.size->x≠H->w'.heap[x]?=w2.heap[x]?):OpsRes C N l₀ w r ab v l' am w':=by
 have hs:=h.size;have hab:=h.abl;have hcn:∀b,C.foot l' b->b≠H:=λb hb e=>by
  rcases h.foot b hb with h2|h2
  . have:=hl b h2;omega
  . omega
 have han:∀i b,i<N->am.X i b≠none->b≠H:=λi b hi hb e=>by
  rcases h.ansn i b hi hb with h2|h2
  . have:=hl b h2;omega
  . omega
 refine⟨C.frame _ _ _ h.rep λb hb=>hold b (C.lt _ _ _ h.rep hb) (hcn b hb),h.st,⟨(hold ab (zqs h.ans.hd) (by omega)).trans h.ans.hd,h.ans.row,λi b o hi hb=>(hold b (zqs (h.ans.blk i b o hi hb)) (han i b hi (by rw[hb];simp))).trans (h.ans.blk i b o hi hb),h.ans.nab,h.ans.sep⟩,h.ast,by omega,λb hb hf=>(hold b (by omega) (by omega)).trans ((h.old b (by omega) hf).trans (hoa b (by omega))),λb hb=>(h.foot b hb).imp id (λx=>by omega),by omega,λi b hi hb=>(h.ansn i b hi hb).imp id (λx=>by omega),h.anf,?_,h.rowf⟩;refine zq3y (zq1x h.row λg hg=>hold g (own_lt h.row hg).2.2 ?_) (by omega);have:=(own_lt h.row hg).2.1;omega
end
theorem DRes.re {w w':World}{N n:Nat}{dv:Value}{sp:Nat->Option Addr}{L Cp:Nat->Nat}{ob ib:Nat->Nat}{fv:Value}(h:DRes w N dv sp L Cp n ob ib fv w')(τ:Nat->Question->Nat)(d:Nat):DRes w N dv sp L Cp n ob ib fv (Go.Car.re w' τ d):=h.of_heap rfl
theorem DRes.of_re {w w':World}{τ:Nat->Question->Nat}{d:Nat}{N n:Nat}{dv:Value}{sp:Nat->Option Addr}{L Cp:Nat->Nat}{ob ib:Nat->Nat}{fv:Value}(h:DRes (Go.Car.re w τ d) N dv sp L Cp n ob ib fv w'):DRes w N dv sp L Cp n ob ib fv w':=
 ⟨h.size,h.old,h.db,h.ab,h.hb,h.frow,h.obx,h.ibx,h.lo,h.inc⟩
theorem zqdx{w:World}{B N:Nat}{T:TypeId}{v:Value}{xs:List Value}(h:w.ownsRow B T 1 v N xs):∃p C,v=.slice p N C/\(v.ownBlock=p.map (·.block))/\(0<N->∃g,p=some ⟨g,0,none⟩/\v.ownBlock=some g/\∀i x,xs[i]?=some x->w.cell? ⟨g,i,none⟩=some x):=by
 rcases h.2 with⟨hv,h0⟩|⟨g,cap,cur,hv,hb,hh,h1,h2,h3,h4⟩
 . subst h0;exact⟨none,0,hv,by rw[hv];rfl,λh=>absurd h (Nat.lt_irrefl _)⟩
 . refine⟨_,cap,hv,by rw[hv];rfl,λ_=>⟨g,rfl,by rw[hv];rfl,λi x hx=>?_⟩⟩;rw[zq0 (off:=i) hh];have hi:i<xs.length:=(List.getElem?_eq_some_iff.1 hx).1;have hl:=h.1;rw[<-h4,List.getElem?_take]at hx;split at hx
   . simpa using hx
   . cases hx
theorem zqdw{Fin:Machine->Trace->Prop}(hFin:Back Try.prog Fin){n:Nat}(hn:0<n){A:FuncId->Bool}(hP:Plain Try.prog A)(hRS:RowsS Try.prog A){M1 S1:Type}{C:Core M1 S1}{RP:Nat->Option Obj}{l₀:M1}{w:World}
 {np Cn N Cs:Nat} {pp scp:Option Addr} {sp:Nat->Option Addr} {L Cp:Nat->Nat} {ops:Nat->List OpX} {sched:List Int} {mo:Int} {f:FuncId} {first caps:Array Value} {fn:Func} {cc:Code} (hf:Try.prog.funcs[f]?=some fn) (hb':fn.body=some cc) (hnm:(fn.name== "runtime.NumGoroutine")=false)
 (hb:BRep C RP ⟨l₀,λ_ _=>none⟩ w) (ho:OpsAt w RP pp np N sp L Cp ops) (hsl:sched.length<=4611686018427387904)
 (hs:sched≠[]->∃sb off,scp=some ⟨sb,off,none⟩/\¬C.foot l₀ sb/\∀j x,sched[j]?=some x->w.cell? ⟨sb,off+j,none⟩=some (.int .i64 x))
 {dop:Nat->OpX->Proc (S1×(Nat->List Ans)) Ans} (hdeep:∀i op k,(dop i op).Deep k)
 (hdo:∀(ro:Nat->Option Obj)(ab:Nat)(pr:Nat->Proc (S1×(Nat->List Ans)) Unit)(st:Nat)(cr:Frame)(rest:List Frame)(EN:List PanicEntry->Prop)(i:Nat)(o:List Ans)(op:OpX),(∀b x,RP b=some x->ro b=some x)->i<N->
  SpecR (zq34 hP hRS (zq7 C (zqt tT ab N)) ownA ro pr 130 (.pointer (some ⟨st,0,none⟩)) cr rest NEnd EN i o) f (first++#[.iface 141 (.pointer (some ⟨st,0,none⟩)),.int .i64 i,op.val]++caps) (dop i op) (AnsV 2))
 {c:Frame} {cs:List Frame}
 (hmain:∀ab v l' am w',OpsRes C N l₀ w (playT (λi=>opsP i (dop i) (ops i)) N (min mo.toNat 1048576) sched (C.st l₀,λ_=>[])) ab v l' am w'->
  J0 Try.prog Fin (n+N) (G (c.finish (.agg #[.slice (some ⟨ab,0,none⟩) N N,v,.slice none 0 0,.bool (decide (0<leftN (playT (λi=>opsP i (dop i) (ops i)) N (min mo.toNat 1048576) sched (C.st l₀,λ_=>[])).ov N))])) cs) w'):
 J0 Try.prog Fin n (G (Frame.enter Try.prog 35 #[.slice pp np Cn,.func (.func f) first caps,.slice scp sched.length Cs,.int .i64 mo] .normal) (c::cs)) w:=by
 have hJ:=j0_JS hFin;have hC:=zq2i hFin;have e:Frame.enter Try.prog 35 #[.slice pp np Cn,.func (.func f) first caps,.slice scp sched.length Cs,.int .i64 mo] .normal=(bN 35).at (zqk Try.f35 #[.slice pp np Cn,.func (.func f) first caps,.slice scp sched.length Cs,.int .i64 mo]) [.code ((Try.f35.body).getD .skip)]:=by kernel_rfl
 have ea:zqk Try.f35 #[.slice pp np Cn,.func (.func f) first caps,.slice scp sched.length Cs,.int .i64 mo]=⟨#[.slice pp np Cn,.func (.func f) first caps,.slice scp sched.length Cs,.int .i64 mo,undef,undef,undef,undef,undef,undef,undef,undef,undef,undef,undef,undef,undef,undef,undef,undef,undef,undef,undef,undef,undef,undef,undef,undef,undef,undef,undef,undef],[]⟩:=by kernel_rfl
 rw[e,ea,ops0];clear e ea;have hm:=Lib.hid hmain;clear hmain;obtain⟨H,hH⟩:∃H,w.heap.size=H:=⟨_,rfl⟩;refine hJ.ctl (s:=n) (λw=>stepG_seq) ?_;refine zq2t hJ hC zq5r (by kernel_rfl) (λt w'=>t=#[.slice pp np Cn,.func (.func f) first caps,.slice scp sched.length Cs,.int .i64 mo,undef,undef,undef,undef,.pointer (some ⟨H,0,none⟩),undef,undef,undef,undef,undef,undef,undef,undef,undef,undef,undef,undef,undef,undef,undef,undef,undef,undef,undef,undef,undef,undef,undef]/\∃τ d,w'=re (w.alloc (.cells #[.slice none 0 0,.slice none 0 0,.slice none 0 0,.bool false] 29)) τ d) (λt w' τ d h=>⟨h.1,by obtain⟨τ',d',rfl⟩:=h.2;exact⟨τ,d,by rw[re_re]⟩⟩) (by decide) (λτ d=>?_) ?_
 . obtain⟨u0,hu0⟩:∃c,headC (opsT 0)=c:=⟨_,rfl⟩;have eu0:=hu0;rw[hu0];simp only[opsT,headC,tailN,Try.f35,al_od]at eu0;subst eu0;clear hu0 hdo hdeep hs ho hb hf hb' hnm;go_wp2;exact⟨rfl,rfl,τ,d,rfl⟩
 rintro t w' ⟨rfl,τ,d,rfl⟩;refine hJ.re' n _ _ τ d ?_;have hwa:(w.alloc (.cells #[.slice none 0 0,.slice none 0 0,.slice none 0 0,.bool false] 29)).heap.size=H+1:=by rw[zqd,hH]
 have hob:∀b,b<H->(w.alloc (.cells #[.slice none 0 0,.slice none 0 0,.slice none 0 0,.bool false] 29)).heap[b]?=w.heap[b]?:=λb hb=>by rw[zqa,if_neg (by omega)]
 have hzb:(w.alloc (.cells #[.slice none 0 0,.slice none 0 0,.slice none 0 0,.bool false] 29)).heap[H]?=some (.cells #[.slice none 0 0,.slice none 0 0,.slice none 0 0,.bool false] 29):=hH▸zq12 w _;obtain⟨wa,hwae⟩:∃wa,w.alloc (.cells #[.slice none 0 0,.slice none 0 0,.slice none 0 0,.bool false] 29)=wa:=⟨_,rfl⟩;rw[hwae]at hwa hob hzb |-;clear hwae;have hlw:∀b,C.foot l₀ b->b<H:=λb h=>by rw[<-hH];exact C.lt _ _ _ hb.core h
 have hba:BRep C RP ⟨l₀,λ_ _=>none⟩ wa:=hb.frame λb h=>hob b (by rw[<-hH];exact hb.lt h);have hat:0<np->∃tb to',pp=some ⟨tb,to',none⟩/\∀i,i<N->wa.cell? ⟨tb,to'+i,none⟩=some (.slice (sp i) (L i) (Cp i)):=λh0=>by
  obtain⟨tb,to',e,h1⟩:=ho.at' h0;exact⟨tb,to',e,λi hi=>(zq16 (hob tb (by rw[<-hH];exact cell_lt (h1 i hi)))).trans (h1 i hi)⟩
 have hs2:sched≠[]->∃sb off,scp=some ⟨sb,off,none⟩/\¬C.foot l₀ sb/\sb<H/\∀j x,sched[j]?=some x->wa.cell? ⟨sb,off+j,none⟩=some (.int .i64 x):=λh0=>by
  obtain⟨sb,off,e,h1',h2⟩:=hs h0;obtain⟨x,l,hsl⟩:=List.exists_cons_of_ne_nil h0;have hlt:sb<H:=by rw[<-hH];exact cell_lt (h2 0 x (by rw[hsl];rfl))
  exact⟨sb,off,e,h1',hlt,λj x hj=>(zq16 (hob sb hlt)).trans (h2 j x hj)⟩
 have hNe:=ho.eq;have hN64:N<=64:=by omega
 have hnp:=ho.le;have hrow:=ho.row;have hlen:=ho.len;have hop:=ho.op;clear ho hs hb;refine hJ.ctl (s:=n) (λw=>stepG_seq) ?_;refine zq2t hJ hC zq5r (by kernel_rfl) (λt w'=>∃ob ib fv,t=#[.slice pp np Cn,.func (.func f) first caps,.slice scp sched.length Cs,.int .i64 mo,undef,undef,undef,undef,.pointer (some ⟨H,0,none⟩),fv,.slice (some ⟨H+1+1,0,none⟩) N N,undef,undef,undef,.tuple #[fv,.slice (some ⟨H+1+1,0,none⟩) N N],.slice pp np Cn,.func (.func f) first caps,.tuple #[fv,.slice (some ⟨H+1+1,0,none⟩) N N],fv,.slice (some ⟨H+1+1,0,none⟩) N N,undef,undef,undef,undef,undef,undef,undef,undef,undef,undef,undef,undef]/\DRes wa N (.func (.func f) first caps) sp L Cp N ob ib fv w') (λt w' τ d h=>?_) (by decide) (λτ d=>?_) ?_
 . obtain⟨ob,ib,fv,h1,h2⟩:=h;exact⟨ob,ib,fv,h1,h2.re τ d⟩
 . obtain⟨u0,hu0⟩:∃c,headC (opsT 1)=c:=⟨_,rfl⟩;have eu0:=hu0;rw[hu0];simp only[opsT,headC,tailN,Try.f35,al_od]at eu0;subst eu0;clear hu0;have HM:=Lib.hid (zqc3 (pp:=pp) (n:=np) (Cn:=Cn) (dv:=.func (.func f) first caps) (sp:=sp) (L:=L) (Cp:=Cp) ⟨_,_,_,rfl⟩ (re wa τ d) hnp (λi hi=>hrow i (by rw[hNe];exact hi)) (λh0=>by
    obtain⟨tb,to',e,h1⟩:=hat h0;exact⟨tb,to',e,λi hi=>h1 i (by rw[hNe];exact hi)⟩))
   rw[<-hNe]at HM;have HH:=Lib.hid (And.intro hH hwa);clear hs2 hat hlw hba hob hzb hH hwa hNe hN64 hnp hrow hlen hop hdo hdeep hf hb' hnm hsl
   go_wp2_with (fail)
   refine Calls.mono HM.out ?_;rintro e w' ⟨ob,ib,fv,rfl,hR⟩;have hR2:=Lib.hid hR.of_re;clear hR;rw[show(re wa τ d).heap.size=H+1 from HH.out.2];go_wp2;exact⟨rfl,ob,ib,fv,rfl,hR2.out⟩
 rintro t w1 ⟨ob,ib,fv,rfl,hR⟩;obtain⟨fp,Cf,rfl,hfo,hfp⟩:=zqdx hR.frow;refine hJ.ctl (s:=n) (λw=>stepG_seq) ?_;have hrep1:=ops_rep hR hba;obtain⟨u0,hu0⟩:∃c,headC (opsT 2)=c:=⟨_,rfl⟩;have eu0:=hu0;rw[hu0];simp only[opsT,headC,tailN,Try.f35,al_od]at eu0;subst eu0;clear hu0;refine hJ.ctl (s:=n) (λw=>stepG_region) ?_;have HR:=Lib.hid hR;have HP:=Lib.hid hrep1;have HX:=Lib.hid (And.intro hat (And.intro hs2 (And.intro hob (And.intro hzb (And.intro hwa (And.intro hlw (And.intro hba (And.intro hrow (And.intro hlen hop)))))))));have HA:=Lib.hid (And.intro hfo hfp);have HNE:=Lib.hid hNe;clear hNe;have HD:=Lib.hid (And.intro hdo (And.intro hdeep (And.intro hf (And.intro hb' hnm))));clear hR hrep1 hat hs2 hob hzb hwa hfo hfp hlw hba hrow hlen hop hdo hdeep hf hb' hnm;refine zqo (s:=n) (by decide) hJ (zqn _) true (.inl rfl) 0 3 8 rfl rfl rfl (by rfl) ?_;intro τ d;simp only[List.drop_zero,List.take_succ_cons,List.take_zero];go_wp2;simp only[zqg];refine hJ.re' n _ _ τ d ?_;refine zq1q (by decide) hJ (s:=n) rfl rfl (f:=22) (args:=#[.slice fp N Cf,.slice scp sched.length Cs,.int .i64 mo]) (λτ d=>?_) (λτ d=>?_) ?_
 . simp[go_sem,execOp,Act.eval,resolve,Deferred.ofValue,invoke,callFunc,Try.func22,Try.f22]
 . intro e he;simp[go_sem,execOp,Act.eval,resolve,Deferred.ofValue,invoke,callFunc,Try.func22,Try.f22,Sem.runT_eq]at he
 obtain⟨hat,hs2,hob,hzb,hwa,hlw,hba,hrow,hlen,hop⟩:=HX.out;obtain⟨hfo,hfp⟩:=HA.out;obtain⟨hdo,hdeep,hf,hb',hnm⟩:=HD.out;have hRo:∀i,i<N->DoRo (roOf RP wa.heap.size N ob ib w1) i N (wa.heap.size+1) (ob i) wa.heap.size (ib i) (wa.heap.size+2) (sp i) (min (L i) 65536) (Cp i) (ops i) f first caps:=λi hi=>ops_ro HR.out hba hN64 hlen hop hi
 have hfree:∀x,wa.heap.size+3<=x->w1.heap[x]?≠none->(∀i,i<N->x≠ob i/\x≠ib i)->¬(C.foot l₀ x\/x=wa.heap.size+1\/roOf RP wa.heap.size N ob ib w1 x≠none):=λx hx _ hne h=>by
  rcases h with h|h|h
  . have:=hlw x h;omega
  . omega
  . cases ho:roOf RP wa.heap.size N ob ib w1 x with
    |none=>exact h ho
    |some o=>
     rcases zq41 ho with h2|⟨h2,_⟩
     . have:=zqs (hba.rod x o h2);omega
     . rcases h2 with h2|h2|⟨i,hi,h2|h2⟩
       . omega
       . omega
       . exact(hne i hi).1 h2
       . exact(hne i hi).2 h2
 refine zq87 hFin (T:=thrOf (zq7 C (zqt tT (wa.heap.size+1) N)) ownA (roOf RP wa.heap.size N ob ib w1) (λi=>opsP i (dop i) (ops i))) (m₀:=mOps l₀ (min mo.toNat 1048576+100)) (N:=N) (most:=min mo.toNat 1048576) (tv:=λi=>cloD wa.heap.size (ob i) (ib i)) (sched:=sched) hn (by have:=HNE.out;omega) rfl (ops_rep0 HP.out) (Nat.le_refl _) ?_ (λi hi=>?_) ?_ ?_
 . intro h0;obtain⟨g,e,hg,hc⟩:=hfp h0;refine⟨g,e,λhf=>?_,λi hi=>hc i _ (by simp[clsD,hi])⟩;obtain⟨⟨cc,hcc⟩,hlo,hlt⟩:=own_lt HR.out.frow hg;refine hfree g hlo (by rw[hcc];simp) (λi hi=>⟨λe=>?_,λe=>?_⟩) (zq4v hf)
   . exact zq1h hcc (HR.out.obx i hi) (by decide) e
   . exact zq1h hcc (HR.out.ibx i hi) (by decide) e
 . refine zqao hP hRS (fn:=Try.f84) (c:=(Try.f84.body).getD .skip) Try.func84 rfl rfl (λk=>zqdv (λop=>hdeep i op k) _) (λst cr rest EN s m w hA hown=>?_);exact zqc2 hP hRS hf hb' hnm (hRo i hi) (λo op=>hdo _ _ _ st cr rest EN i o op (λb x h=>zq5v h) hi) s m w hA hown
 . refine⟨hsl,scp,Cs,rfl,λh0=>?_⟩;obtain⟨sb,off,e,h1',h2,h3⟩:=hs2 h0;refine⟨sb,off,e,λj x hj=>?_⟩;cases h1:RP sb with
   |some o=>exact .inr λm w h=>(zq16 ((h.1.rod sb o (zq5v h1)).trans (hba.rod sb o h1).symm)).trans (h3 j x hj)
   |none=>
   refine .inl ⟨(zq16 (HR.out.old sb (by omega))).trans (h3 j x hj),by have:=HR.out.size;omega,λhf=>?_⟩;rcases zq4v hf with h4|h4|h4
   . exact h1' h4
   . omega
   . cases ho:roOf RP wa.heap.size N ob ib w1 sb with
     |none=>exact h4 ho
     |some o=>
      rcases zq41 ho with h5|⟨h5,_⟩
      . rw[h1]at h5;cases h5
      . rcases h5 with h5|h5|⟨i,hi,h5⟩
        . omega
        . omega
        . have:=HR.out.lo i hi;rcases h5 with h5|h5<;>omega
 intro b m' v g capg w2 ho;obtain⟨hres,hleft⟩:=ops_res HR.out hba ho;have hvrow:=ho.row;clear ho;rw[Frame.finish_at]
 walk_nrm
 obtain⟨pv',cv',rfl,_⟩:=zq3x hvrow;clear hvrow;generalize b.ord.length=nv' at hres |-;have HO:=Lib.hid hres;rw[hleft];have hHw:=zqs hzb;clear hleft hres;obtain⟨stuck,hstuck⟩:∃x,decide (0<leftN (playT (λi=>opsP i (dop i) (ops i)) N (min mo.toNat 1048576) sched (C.st l₀,λ_=>[])).ov N)=x:=⟨_,rfl⟩;rw[hstuck];have HST:=Lib.hid hstuck;clear hstuck;refine zqo (s:=n+N) (by decide) hJ (zqn _) true (.inl rfl) 4 7 0 rfl rfl rfl (by rfl) ?_;intro τ d;simp only[List.drop_succ_cons,List.drop_zero,List.take_succ_cons,List.take_zero];go_wp2;simp only[zqg];refine hJ.re' (n+N) _ _ τ d ?_;refine hJ.ctl (s:=n+N) (λw=>stepG_region_end) ?_;have hze:w2.heap[H]?=some (.cells #[.slice none 0 0,.slice none 0 0,.slice none 0 0,.bool false] 29):=(HO.out.old H hHw (λh=>by have:=hlw H h;omega)).trans hzb;refine zq58 hJ hC zq5r (by kernel_rfl) (λv w'=>v=.agg #[.slice (some ⟨H+1+1,0,none⟩) N N,.slice pv' nv' cv',.slice none 0 0,.bool stuck]/\∃l' am,OpsRes C N l₀ w (playT (λi=>opsP i (dop i) (ops i)) N (min mo.toNat 1048576) sched (C.st l₀,λ_=>[])) (H+1+1) (.slice pv' nv' cv') l' am w') (λv w' τ d⟨h1,l',am,h2⟩=>⟨h1,l',am,h2.re τ d⟩) rfl Try.func35 (λτ d=>?_) ?_
 . obtain⟨u0,hu0⟩:∃c,opsT 3=c:=⟨_,rfl⟩;have eu0:=hu0;rw[hu0];simp only[opsT,headC,tailN,Try.f35,al_od]at eu0;subst eu0;clear hu0;have HZ:=Lib.hid (And.intro hH (And.intro hwa (And.intro hob hlw)));have b0:(re w2 τ d).heap[H]?=some (.cells #[.slice none 0 0,.slice none 0 0,.slice none 0 0,.bool false] 29):=hze;have hre:=HO.out.re τ d;clear HO;generalize re w2 τ d=w3 at b0 hre |-;have HPR:=Lib.hid hre;clear hre hfree hRo hat hs2 hob hzb hwa hlw hba hrow hlen hop hfo hfp hdo hdeep hf hb' hnm hze hHw HX HA HD HP HR hH hsl hN64 hnp hm;have r0:=(zq0 (off:=0) b0).trans rfl;have r1:=(zq0 (off:=1) b0).trans rfl;have r2:=(zq0 (off:=2) b0).trans rfl;have r3:=(zq0 (off:=3) b0).trans rfl;have z0:=zqc (off:=0) b0;have z1:=zqc (off:=1) b0;have z2:=zqc (off:=2) b0;have z3:=zqc (off:=3) b0;have B0:=Lib.hid b0;clear b0;go_wp2;clear r0 r1 r2 r3 z0 z1 z2 z3;have b1':=zqy w3 H 0 (.slice (some ⟨H+1+1,0,none⟩) N N) B0.out;have b2':=zqy _ H 1 (.slice pv' nv' cv') b1';have b3':=zqy _ H 2 (.slice none 0 0) b2';have b4':=zqy _ H 3 (.bool stuck) b3';have hext:∀x,x<w3.heap.size->x≠H->((((w3.setCell ⟨H,0,none⟩ (.slice (some ⟨H+1+1,0,none⟩) N N)).setCell ⟨H,1,none⟩ (.slice pv' nv' cv')).setCell ⟨H,2,none⟩ (.slice none 0 0)).setCell ⟨H,3,none⟩ (.bool stuck)).heap[x]?=w3.heap[x]?:=λx _ hx=>by
    rw[zqi _ _ _ _ hx,zqi _ _ _ _ hx,zqi _ _ _ _ hx,zqi _ _ _ _ hx]
   have hsz8:((((w3.setCell ⟨H,0,none⟩ (.slice (some ⟨H+1+1,0,none⟩) N N)).setCell ⟨H,1,none⟩ (.slice pv' nv' cv')).setCell ⟨H,2,none⟩ (.slice none 0 0)).setCell ⟨H,3,none⟩ (.bool stuck)).heap.size=w3.heap.size:=by simp only[zq13]
   generalize ((((w3.setCell ⟨H,0,none⟩ (.slice (some ⟨H+1+1,0,none⟩) N N)).setCell ⟨H,1,none⟩ (.slice pv' nv' cv')).setCell ⟨H,2,none⟩ (.slice none 0 0)).setCell ⟨H,3,none⟩ (.bool stuck))=w8 at b4' hext hsz8 |-;clear b1' b2' b3';have k0:=(zq0 (off:=0) b4').trans rfl;have k1:=(zq0 (off:=1) b4').trans rfl;have k2:=(zq0 (off:=2) b4').trans rfl;have k3:=(zq0 (off:=3) b4').trans rfl;have hres:=HPR.out;rw[HZ.out.2.1]at hres;refine⟨rfl,.agg #[.slice (some ⟨H+1+1,0,none⟩) N N,.slice pv' nv' cv',.slice none 0 0,.bool stuck],?_,_,rfl,rfl,_,_,hres.ext HZ.out.1 HZ.out.2.1 HZ.out.2.2.1 HZ.out.2.2.2 (by omega) hext⟩;simp only[results,Try.f35];simp[go_sem,k0,k1,k2,k3]
 . rintro v w' ⟨rfl,l',am,h⟩;have h2:=hm.out _ _ l' am w' h;rw[HST.out]at h2;exact h2
structure PlayedR{S1:Type}(N:Nat)(w:World)(r:TSt (S1×(Nat->List Ans)))(st:List Int)(ab:Nat)(ov sv:Value)(am:AnsM)(w':World):Prop where
 size:w.heap.size<=w'.heap.size
 old:∀b,b<w.heap.size->w'.heap[b]?=w.heap[b]?
 ans:zq37 tT ab N am w'
 ast:am.st=r.s.2
 abl:w.heap.size<=ab
 ansn:∀i b,i<N->am.X i b≠none->w.heap.size<=b
 orow:w'.ownsRow w.heap.size 3 1 ov r.ord.length (r.ord.map λ(i:Nat)=>.int .i64 i)
 srow:w'.ownsRow w.heap.size 2 1 sv st.length (st.map (Value.int .i64))
 rowf:∀x,ov.ownBlock=some x->x≠ab/\∀i,i<N->am.X i x=none
 srowf:∀x,sv.ownBlock=some x->x≠ab/\(∀i,i<N->am.X i x=none)/\ov.ownBlock≠some x
theorem PlayedR.re {S1:Type}{N:Nat}{w w':World}{r:TSt (S1×(Nat->List Ans))}{st:List Int}{ab:Nat}{ov sv:Value}{am:AnsM}(h:PlayedR N w r st ab ov sv am w')(τ:Nat->Question->Nat)(d:Nat):PlayedR N w r st ab ov sv am (Go.Car.re w' τ d):=
 ⟨h.size,h.old,⟨h.ans.hd,h.ans.row,h.ans.blk,h.ans.nab,h.ans.sep⟩,h.ast,h.abl,h.ansn,h.orow,h.srow,h.rowf,h.srowf⟩
theorem zqe9{M1 S1:Type}{C:Core M1 S1}{N H:Nat}{l₀ l':M1}{w wb w2 w':World}{r:TSt (S1×(Nat->List Ans))}{ab:Nat}{v sv:Value}{am:AnsM}{st:List Int}(h:OpsRes C N l₀ wb r ab v l' am w2)(hw:w.heap.size=H)(hwb:H+1<=wb.heap.size)(hob:∀b,b<H->wb.heap[b]?=w.heap[b]?)
 (hl:∀b,C.foot l₀ b->H+1<=b) (hsz:w2.heap.size<=w'.heap.size) (hold:∀x,x<w2.heap.size->x≠H->w'.heap[x]?=w2.heap[x]?) (hs:w'.ownsRow w2.heap.size 2 1 sv st.length (st.map (Value.int .i64))):PlayedR N w r st ab v sv am w':=by
 have h1:=h.size;have h2:=h.abl;have han:∀i b,i<N->am.X i b≠none->H+1<=b:=λi b hi hb=>(h.ansn i b hi hb).elim (hl b) (λx=>by omega);refine⟨by omega,λb hb=>(hold b (by omega) (by omega)).trans ((h.old b (by omega) λx=>by have:=hl b x;omega).trans (hob b (by omega))),⟨(hold ab (zqs h.ans.hd) (by omega)).trans h.ans.hd,h.ans.row,λi b o hi hb=>(hold b (zqs (h.ans.blk i b o hi hb)) (by have:=han i b hi (by rw[hb];simp);omega)).trans (h.ans.blk i b o hi hb),h.ans.nab,h.ans.sep⟩,h.ast,by omega,λi b hi hb=>by have:=han i b hi hb;omega,?_,zq3y hs (by omega),λx hx=>(h.rowf x hx).2,λx hx=>?_⟩
 . refine zq3y (zq1x h.row λg hg=>hold g (own_lt h.row hg).2.2 ?_) (by omega);have:=(own_lt h.row hg).2.1;omega
 . have h3:=(own_lt hs hx).2.1;refine⟨?_,λi hi=>?_,λe=>?_⟩
   . have:=zqs h.ans.hd;omega
   . cases ho:am.X i x with
     |none=>rfl
     |some o=>have:=zqs (h.ans.blk i x o hi ho);omega
   . have:=(own_lt h.row e).2.2;omega
def aL:List FuncId:=[13,15,36,34,81,83,65,51,47,55,57,58,10,16,33,37,38,68,40,41,42,39,43,44,69,70,66,67,85,12,17,18,19,31,32]
def aR:List FuncId:=[71,77,76,75]
def aM(f:FuncId):Bool:=aL.contains f || aR.contains f
theorem plain_rows:Plain Try.prog aM/\RowsS Try.prog aM:=by
 refine zq5s (by kernel_rfl) (λf hf=>?_) (by kernel_rfl) (by kernel_rfl);simp only[aR,List.mem_cons,List.not_mem_nil,or_false]at hf;rcases hf with rfl |rfl |rfl |rfl
 . exact⟨_,Extern.Atomic.loadT (.int .i64),Try.func71,rfl,by kernel_rfl,by kernel_rfl,by kernel_rfl,λ_=>zqa7 _ _,λ_=>zq8y _ _⟩
 . exact⟨_,Extern.Atomic.storeT,Try.func77,rfl,by kernel_rfl,by kernel_rfl,by kernel_rfl,λ_=>zqjw _,λ_=>zqhc _⟩
 . exact⟨_,Extern.Atomic.update (Op.intArith .add) .i64 true,Try.func76,rfl,by kernel_rfl,by kernel_rfl,by kernel_rfl,λ_=>zqk5 _ _ _,λ_=>zqhm _ _ _⟩
 . exact⟨_,Extern.Atomic.casT (.int .i64),Try.func75,rfl,by kernel_rfl,by kernel_rfl,by kernel_rfl,λ_=>zq9n _ _,λ_=>zq8o _ _⟩
theorem zq2l:Plain Try.prog aM:=plain_rows.1
theorem rowsM:RowsS Try.prog aM:=plain_rows.2
end Go.Proofs
namespace Go.Car
open Go Go.Conc Go.RowKit
structure NumT where
 N:Nat
 ob:Nat->Nat
 len:Nat->Nat
 ty:Nat->TypeId
abbrev Nums:=Nat->Nat->Int
def upd2(g:Nums)(c j:Nat)(x:Int):Nums:=upd' g c (upd' (g c) j x)
def rowA(n:Nat)(f:Nat->Int):Array Value:=((List.range n).map λj=>Value.int .i64 (f j)).toArray
theorem zq5w{n j:Nat}{f:Nat->Int}(h:j<n):(rowA n f)[j]?=some (.int .i64 (f j)):=by
 unfold rowA;rw[al_gl,List.getElem?_map,List.getElem?_range h];rfl
theorem rowA_set{n j:Nat}{f:Nat->Int}(x:Int):(rowA n f).setIfInBounds j (.int .i64 x)=rowA n (upd' f j x):=by
 apply Array.ext_getElem?;intro k;rw[al_gs]
 by_cases hk:k<n
 . rw[zq5w hk,zq5w hk]
   by_cases e:j=k
   . subst e;rw[if_pos rfl,if_pos (by unfold rowA;simpa using hk),upd'_same]
   . rw[if_neg e,zqj _ _ (λx=>e x.symm)]
 . have e1:∀f:Nat->Int,(rowA n f)[k]?=none:=λf=>by unfold rowA;simp[hk]
   rw[e1,e1]
   by_cases e:j=k
   . subst e;rw[if_pos rfl,if_neg (by unfold rowA;simpa using hk)]
   . rw[if_neg e]
structure NumRep(T:NumT)(g:Nums)(w:World):Prop where
 blk:∀c,c<T.N->w.heap[T.ob c]?=some (.cells (rowA (T.len c) (g c)) (T.ty c))
 inj:∀c d,c<T.N->d<T.N->T.ob c=T.ob d->c=d
def zqz(T:NumT):Core Nums Nums where
 foot _ b:=∃c,c<T.N/\b=T.ob c
 Rep:=NumRep T
 st g:=g
 frame g w w' h hs:=⟨λc hc=>(hs _ ⟨c,hc,rfl⟩).trans (h.blk c hc),h.inj⟩
 lt g w b h hb:=by
  obtain⟨c,hc,rfl⟩:=hb;exact zqs (h.blk c hc)
 pin _:=0
def onN{S2 α:Type}(f:Nums->Nums×α):Proc (Nums×S2) α:=Proc.act λs=>(((f s.1).1,s.2),(f s.1).2)
section
variable {T:NumT} {g:Nums} {w:World} {c j:Nat}
theorem NumRep.re (h:NumRep T g w)(τ:Nat->Question->Nat)(d:Nat):NumRep T g (Car.re w τ d):=⟨h.blk,h.inj⟩
theorem NumRep.cell (h:NumRep T g w)(hc:c<T.N)(hj:j<T.len c):w.cell? ⟨T.ob c,j,none⟩=some (.int .i64 (g c j)):=
 (zq0 (h.blk c hc)).trans (zq5w hj)
theorem NumRep.frozen (h:NumRep T g w)(hc:c<T.N):w.frozen? ⟨T.ob c,j,none⟩=false:=zqc (h.blk c hc)
theorem NumRep.set (h:NumRep T g w)(hc:c<T.N)(x:Int):NumRep T (upd2 g c j x) (w.setCell ⟨T.ob c,j,none⟩ (.int .i64 x)):=by
 refine⟨λd hd=>?_,h.inj⟩
 by_cases e:d=c
 . subst e;refine(zqy _ _ _ _ (h.blk d hd)).trans ?_;rw[rowA_set];unfold upd2;rw[upd'_same]
 . rw[zqi _ _ _ _ (λx=>e (h.inj d c hd hc x))];unfold upd2;rw[zqj _ _ e];exact h.blk d hd
end
section
variable {M2 S2:Type} {D:Core M2 S2} {ro:Nat->Option Obj} {i:Nat} {T:NumT} {m:BM (Nums×M2)} {wc:World}
theorem zq1w(hB:BRep (zq7 (zqz T) D) ro m wc)(τ:Nat->Question->Nat)(d:Nat):NumRep T m.l.1 (re wc τ d):=NumRep.re hB.core.1 τ d
theorem zq5q(hB:BRep (zq7 (zqz T) D) ro m wc){c j:Nat}(hc:c<T.N)(x:Int)(τ:Nat->Question->Nat)(d:Nat)(τ':Nat->Question->Nat)(d':Nat):Moved (zq7 (zqz T) D) m.l (m.box i) wc (upd2 m.l.1 c j x,m.l.2) (m.box i) (re ((re wc τ d).setCell ⟨T.ob c,j,none⟩ (.int .i64 x)) τ' d'):=by
 have hS:=zq1w hB τ d;have hf:(zqz T).foot m.l.1 (T.ob c):=⟨c,hc,rfl⟩;refine Moved.left hB ⟨?_,λb hb h1 h2=>?_,(hS.set hc x).re τ' d',λb o hb=>?_,λb hb=>.inl hb,λb hb=>.inl hb,λb hb=>?_,rfl⟩
 . show wc.heap.size<=((re wc τ d).setCell _ _).heap.size;rw[zq13];exact Nat.le_refl _
 . show((re wc τ d).setCell _ _).heap[b]?=_;rw[zqi _ _ _ _ (λe=>h1 (by subst e;exact hf))];rfl
 . show((re wc τ d).setCell _ _).heap[b]?=_;have hn:m.box i b≠none:=by rw[hb];simp
   rw[zqi _ _ _ _ (λe=>hB.apart i b hn (.inl (by subst e;exact hf)))];exact hB.box i b o hb
 . exact Classical.byContradiction λx=>hB.apart i b x (.inl hb)
end
end Go.Car
