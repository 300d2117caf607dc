/- YtkdlklpffdlglaaOPlays2: part 6 of the proof (the texts behind it, in order). -/
import Derived.Test.YtkdlklpffdlglaaP05
set_option linter.unusedSimpArgs false
set_option linter.unusedVariables false
set_option linter.unusedSectionVars false
set_option linter.unnecessarySimpa false
set_option maxHeartbeats 1000000
set_option maxRecDepth 100000
namespace Go.Proofs
open Go Go.Conc Go.RowKit Go.Car
open Go.ConcN (upd upd_ne upd_same)
structure HeadW(A:OA)(B:Bx)(most n:Nat)(ov:Nat->Bool)(p:Option Addr)(cap:Nat)(w:World):Prop where
 cN:w.cell? ⟨B.bN,0,none⟩=some (.int .i64 A.N)
 cX:w.cell? ⟨A.bX,0,none⟩=some (.pointer (some ⟨A.bT,0,none⟩))
 cS:0<A.N->w.cell? ⟨A.bT,1,none⟩=some (.slice (some ⟨A.bS,0,none⟩) A.N A.cap)
 cs:∀i:Nat,i<A.N->w.cell? ⟨A.bS,i,none⟩=some (.pointer (some ⟨A.st i,0,none⟩))
 cv:∀i:Nat,i<A.N->w.cell? ⟨A.st i,2,none⟩=some (.bool (ov i))
 cO:w.cell? ⟨B.bO,0,none⟩=some (.slice p n cap)
 cM:w.cell? ⟨B.bM,0,none⟩=some (.int .i64 most)
def noStep(A:OA)(most n:Nat)(ov:Nat->Bool)(x:Int):Prop:=x<0\/(A.N:Int)<=x\/ov x.toNat=true\/n=most
noncomputable def stepRest:Code:=match Try.f53.body with|some (.seq _ c)=>c|_=>.skip
theorem step_head{Kc:Addr->Option Value}{J:Goroutine->World->Prop}(hJ:JM Try.prog Kc J){A:OA}{B:Bx}{most n cap:Nat}{ov:Nat->Bool}{p:Option Addr}{w:World}(h:HeadW A B most n ov p cap w){x:Int}{c:Frame}{cs:List Frame}
 (hno:noStep A most n ov x->J (G (c.finish (.tuple #[])) cs) w)
 (hgo:¬noStep A most n ov x->∀T:Array Value,T.size=51->T[0]?=some (.int .i64 x)->T[2]?=some (.pointer (some ⟨A.bX,0,none⟩))->T[3]?=some (.pointer (some ⟨B.bO,0,none⟩))->T[5]?=some (.pointer (some ⟨B.bL,0,none⟩))->
  J (G ((bN 53).at ⟨T,[]⟩ [.code stepRest]) (c::cs)) w):
 J (G (Frame.enter Try.prog 53 #[.int .i64 x,.pointer (some ⟨B.bN,0,none⟩),.pointer (some ⟨A.bX,0,none⟩),.pointer (some ⟨B.bO,0,none⟩),.pointer (some ⟨B.bM,0,none⟩),.pointer (some ⟨B.bL,0,none⟩)] .normal) (c::cs)) w:=by
 have e:Frame.enter Try.prog 53 #[.int .i64 x,.pointer (some ⟨B.bN,0,none⟩),.pointer (some ⟨A.bX,0,none⟩),.pointer (some ⟨B.bO,0,none⟩),.pointer (some ⟨B.bM,0,none⟩),.pointer (some ⟨B.bL,0,none⟩)] .normal=
  (bN 53).at (enterAct Try.f53 #[.int .i64 x,.pointer (some ⟨B.bN,0,none⟩),.pointer (some ⟨A.bX,0,none⟩),.pointer (some ⟨B.bO,0,none⟩),.pointer (some ⟨B.bM,0,none⟩),.pointer (some ⟨B.bL,0,none⟩)]) [.code ((Try.f53.body).getD .skip)]:=rfl
 rw[e];obtain⟨h1,h2,h3,h4,h5,h6,h7⟩:=h;have hret:∀(T:Array Value)(todo:List Item),J (G (c.finish (.tuple #[])) cs) w->J (G {(bN 53).at ⟨T,[]⟩ todo with mode:=.returning} (c::cs)) w:=λT todo hj=>
  leaveJ (J:=λ(_:Unit)=>J) (s:=()) hJ (b:=bN 53) rfl rfl Try.func53 (λτ d=>by simp[results,Try.f53]) hj
 simp only[Try.f53,enterAct,al_od,List.size_toArray,List.length_cons,List.length_nil,Nat.reduceAdd,Nat.reduceSub,Array.replicate_succ,Array.replicate_zero,List.push_toArray,List.append_toArray,List.nil_append,List.cons_append];refine hJ.ctl (s:=()) (λw=>stepG_seq) ?_;refine hJ.ctl (s:=()) (λw=>stepG_seq) ?_;refine hJ.ctl (s:=()) (λw=>stepG_region) ?_;refine at_piece (J:=λ(_:Unit)=>J) (s:=()) (by decide) hJ (rows0_none _) true (.inl rfl) 0 25 0 rfl rfl rfl (by rfl) ?_;intro τ d;simp only[List.drop_zero,List.take_succ_cons,List.take_zero];have hall:∀i:Nat,i<A.N->x=i->noStep A most n ov x=(ov i=true\/n=most):=λi hi hx=>by
  subst hx;refine propext ⟨?_,?_⟩
  · rintro(h|h|h|h)
    · omega
    · omega
    · exact .inl (by simpa using h)
    · exact .inr h
  · rintro(h|h)
    · exact .inr (.inr (.inl (by simpa using h)))
    · exact .inr (.inr (.inr h))
 have close:∀T:Array Value,noStep A most n ov x->J (G ((bN 53).at ⟨T,[]⟩ [.code .ret,.code stepRest]) (c::cs)) w:=λT hn=>
  hJ.ctl (s:=()) (λw=>stepG_ret') (hret _ _ (hno hn))
 by_cases hx0:x<0
 · have hn:noStep A most n ov x:=.inl hx0;clear hgo hno hall h4 h5;go_wp2;simp only[contAt];refine hJ.re' () _ _ τ d ?_;refine hJ.ctl (s:=()) (λw=>stepG_region_end) ?_;refine hJ.ctl (s:=()) (λw=>stepG_cond (t:=true) rfl) ?_;exact close _ hn
 by_cases hxN:(A.N:Int)<=x
 · have hn:noStep A most n ov x:=.inr (.inl hxN);have hx0':(0:Int)<=x:=by omega
   clear hgo hno hall h4 h5 hx0;go_wp2;simp only[contAt];refine hJ.re' () _ _ τ d ?_;refine hJ.ctl (s:=()) (λw=>stepG_region_end) ?_;refine hJ.ctl (s:=()) (λw=>stepG_cond (t:=true) rfl) ?_;exact close _ hn
 obtain⟨i,rfl⟩:∃i:Nat,x=i:=⟨x.toNat,by omega⟩;have hi:i<A.N:=by omega
 replace h3:=h3 (Nat.lt_of_le_of_lt (Nat.zero_le _) hi);have g4:=h4 i hi;have g5:=h5 i hi;have hiN:(i:Int)<A.N:=by omega
 have hi0:(0:Int)<=i:=by omega
 have hall':=hall i hi rfl;have d1:decide ((i:Int)<0)=false:=by simp
 have d2:decide (A.N<=i)=false:=by simp;omega
 clear h4 h5 hall hx0 hxN;cases hov:ov i with
 |true=>
  have hn:noStep A most n ov i:=by rw[hall'];exact .inl hov
  rw[hov]at g5;clear hgo hno hall' hov;go_wp2;simp only[contAt];refine hJ.re' () _ _ τ d ?_;refine hJ.ctl (s:=()) (λw=>stepG_region_end) ?_;refine hJ.ctl (s:=()) (λw=>stepG_cond (t:=true) rfl) ?_;exact close _ hn
 |false=>
  rw[hov]at g5
  by_cases hm:n=most
  · have hn:noStep A most n ov i:=by rw[hall'];exact .inr hm
    subst hm;clear hgo hno hall' hov;go_wp2;simp only[contAt];refine hJ.re' () _ _ τ d ?_;refine hJ.ctl (s:=()) (λw=>stepG_region_end) ?_;refine hJ.ctl (s:=()) (λw=>stepG_cond (t:=true) rfl) ?_;exact close _ hn
  · have hn:¬noStep A most n ov i:=by rw[hall',hov];simp[hm]
    have hm':((n:Int)==(most:Int))=false:=by simp;omega
    have hg:=hgo hn;clear hgo hno hall' hov close hret;go_wp2;simp only[contAt];refine hJ.re' () _ _ τ d ?_;refine hJ.ctl (s:=()) (λw=>stepG_region_end) ?_;refine hJ.ctl (s:=()) (λw=>stepG_cond (t:=false) rfl) ?_;refine hJ.ctl (s:=()) (λw=>stepG_skip) ?_;exact hg _ rfl rfl rfl rfl rfl
section
variable {M:Type}
theorem Inv.head {T:Thr M}{A:OA}{B:Bx}{Kc:Addr->Option Value}{w₀:World}{m₀:M}{most s:Nat}{E:Nat->Option Obj}{k:Nat}{a:OSt M}{left:Nat}{v:Value}{inb:Nat->Option Seat}{w:World}(h:Inv T A B Kc w₀ m₀ most s E k a left v inb w):
 ∃p cap,v=.slice p a.ord.length cap/\HeadW A B most a.ord.length a.ov p cap w:=by
 obtain⟨p,cap,hv⟩:=h.slice;refine⟨p,cap,hv,(h.cell h.eN).1,(zq0 h.cf.ow.box).trans rfl,λhN=>(zq0 (h.cf.ow.tsS h.ok hN)).trans rfl,λi hi=>(zq0 (h.cf.ow.sts (by omega))).trans (h.ok.row i hi),λi hi=>(zq0 (h.cf.ow.std i hi)).trans rfl,?_,(h.cell h.eM).1⟩;rw[←hv];exact(h.cell h.eO).1
theorem Inv.turned {T:Thr M}{A:OA}{B:Bx}{Kc:Addr->Option Value}{w₀:World}{m₀:M}{most s:Nat}{E:Nat->Option Obj}{k k':Nat}{a:OSt M}{left:Nat}{v:Value}{inb inb':Nat->Option Seat}{w w':World}(h:Inv T A B Kc w₀ m₀ most s E k a left v inb w){m':M}{ov' brk':Nat->Bool}
 (hc:Cf T A Kc E k' s ov' brk' m' inb' w'):Inv T A B Kc w₀ m₀ most s E k' ⟨m',ov',brk',a.ord⟩ left v inb' w':=by
 have hg:∀g,v.ownBlock=some g->w'.heap[g]?=w.heap[g]?:=λg hg=>by
  rcases h.row.2 with⟨hv,_⟩|⟨g2,cap,cur,hv,h1,h2,h3⟩
  · rw[hv]at hg;cases hg
  · rw[hv]at hg;simp only[Value.ownBlock,al_oi]at hg;subst hg;rw[h2];exact hc.ext _ _ ((h.erow _ (by rw[hv];rfl)).1.trans h2)
 refine⟨h.ok,h.bok,h.kept,hc,h.eN,h.eM,h.eO,h.eL,h.own,⟨h.row.1,?_⟩,λg hgv=>⟨by rw[hg g hgv];exact(h.erow g hgv).1,(h.erow g hgv).2⟩,h.old,h.len,h.most,h.N,?_,h.lft⟩
 · rcases h.row.2 with hv|⟨g,cap,cur,hv,h1,h2,h3⟩
   · exact .inl hv
   · exact .inr ⟨g,cap,cur,hv,h1,by rw[hg g (by rw[hv];rfl)];exact h2,h3⟩
 · have:=zq9 (hc.ext _ _ h.eN);have:=h.bok.ge;omega
theorem step_tail{Fin:Machine->Trace->Prop}(hFin:Back Try.prog Fin){T:Thr M}{A:OA}{B:Bx}{Kc:Addr->Option Value}{w₀:World}{m₀:M}{most n:Nat}{E:Nat->Option Obj}{k:Nat}{a:OSt M}{v:Value}{inb:Nat->Option Seat}{w:World}
 (h:Inv T A B Kc w₀ m₀ most A.N E (k+1) a (leftN a.ov A.N) v inb w) {i:Nat} (hi:i<A.N) (ho:a.ov i=false) (hm:a.ord.length≠most) (hn:A.n0+A.N<=n) {c:Frame} {cs:List Frame} {Ts:Array Value} (hsz:Ts.size=51)
 (t0:Ts[0]?=some (.int .i64 i)) (t2:Ts[2]?=some (.pointer (some ⟨A.bX,0,none⟩))) (t3:Ts[3]?=some (.pointer (some ⟨B.bO,0,none⟩))) (t5:Ts[5]?=some (.pointer (some ⟨B.bL,0,none⟩)))
 (hmain:∀a' E' v' inb' w',Step1 T A.N most i a a'->Inv T A B Kc w₀ m₀ most A.N E' k a' (leftN a'.ov A.N) v' inb' w'->HoldR Try.prog Fin Kc inb' 0 n (G (c.finish (.tuple #[])) cs) w'):
 HoldR Try.prog Fin Kc inb 0 n (G ((bN 53).at ⟨Ts,[]⟩ [.code stepRest]) (c::cs)) w:=by
 have hJ:=jm_main hFin Kc inb n;obtain⟨x0,x1,x2,x3,x4,x5,x6,x7,x8,x9,x10,x11,x12,x13,x14,x15,x16,x17,x18,x19,x20,x21,x22,x23,x24,x25,x26,x27,x28,x29,x30,x31,x32,x33,x34,x35,x36,x37,x38,x39,x40,x41,x42,x43,x44,x45,x46,x47,x48,x49,x50,rfl⟩:=lit51 Ts hsz;simp only[al_gl,al_g0,al_g1,al_oi]at t0 t2 t3 t5;subst t0 t2 t3 t5;clear hsz;have hlen:a.ord.length+1<=most:=by have:=h.len;omega
 have cO:=(h.cell h.eO).1;have zO:=(h.cell h.eO).2.1;simp only[stepRest,Try.f53];refine hJ.ctl (s:=()) (λw=>stepG_seq) ?_;refine hJ.ctl (s:=()) (λw=>stepG_region) ?_;refine at_piece (J:=λ(_:Unit)=>HoldR Try.prog Fin Kc inb 0 n) (s:=()) (by decide) hJ (rows0_none _) true (.inl rfl) 0 3 2 rfl rfl rfl (by rfl) ?_;intro τ d;simp only[List.drop_zero,List.take_succ_cons,List.take_zero];have hm2:=Lib.hid hmain;clear hmain;go_wp2;simp only[contAt,re_alloc];refine hJ.re' () _ _ τ d ?_;generalize hw1:w.alloc (Obj.cells #[Value.int IntKind.i64 ↑i] 3)=w1;have s1:w1.heap.size=w.heap.size+1:=by rw[←hw1,zq3]
 have o1:∀b,b<w.heap.size->w1.heap[b]?=w.heap[b]?:=λb hb=>by rw[←hw1,zq5,if_neg (by omega)]
 have n1:w1.heap[w.heap.size]?=some (.cells #[.int .i64 i] 3):=by rw[←hw1,zq5,if_pos rfl]
 have hown:w1.ownsRow B.B0 3 1 v a.ord.length (a.ord.map λ(i:Nat)=>.int .i64 i):=by
  refine⟨h.row.1,?_⟩;rcases h.row.2 with hv|⟨g,cap,cur,hv,h1,h2,h3⟩
  · exact .inl hv
  · exact .inr ⟨g,cap,cur,hv,h1,by rw[o1 g (zq9 h2)];exact h2,h3⟩
 obtain⟨ti,hti,hz0,hz1,hz2⟩:∃ti,Try.prog.info? 3=some ti/\ti.zero=some (.int .i64 0)/\ti.size=1/\ti.bytes=8:=⟨_,rfl,rfl,rfl,rfl⟩;have hfree:∀g,v.ownBlock=some g->∀y:Addr,y.block=g->Kc y=none:=λg hg y hy=>by
  cases hk:Kc y with
  |none=>rfl
  |some u=>
   have h1:=h.kept.own _ u hk;have h2:=(h.erow g hg).1;rcases h.row.2 with⟨hv',_⟩|⟨g2,cap2,cur2,hv',_,hh,_⟩
   · rw[hv']at hg;cases hg
   · rw[hv']at hg;simp only[Value.ownBlock,al_oi]at hg;subst hg;exact absurd (hy▸h1) (h.cf.extfree _ _ (h2.trans hh)).1
 refine at_append (J:=λ(_:Unit)=>HoldR Try.prog Fin Kc inb 0 n) (sg:=()) (by decide) hJ (j:=3) (rest:=[4]) rfl rfl (.tmp 32) (.tmp 34) 23 rfl B.B0 3 ti (.int .i64 0) 1 8 (by kernel_rfl) hti hz0 hz1 hz2 rfl (by decide)
  v a.ord.length _ rfl hown ⟨w.heap.size,0,none⟩ 1 1 [.int .i64 i] rfl rfl (λj u hu=>?_) (λu hu=>?_) (by have:=h.most;unfold maxLen;omega) (by have:=h.most;omega) (by have:=h.base;omega) hfree ?_
 · cases j with
   |zero=>cases hu;exact(zq0 n1).trans rfl
   |succ j=>cases hu
 · simp at hu;subst hu;rfl
 intro v' w' hrow hsz' hold hob;have hgO:some B.bO≠v.ownBlock:=λe=>by have:=(h.erow _ e.symm).2;omega
 have hclO:w'.heap[B.bO]?=some (.cells #[v] 23):=(hold _ (by have:=zq9 (h.cell h.eO).2.2.2;omega) hgO).trans ((o1 _ (zq9 (h.cell h.eO).2.2.2)).trans (h.cell h.eO).2.2.2);have hKO:=(h.cell h.eO).2.2.1
 walk_nrm
 have cO':=(zq0 (off:=0) hclO).trans rfl;have zO':w'.frozen? ⟨B.bO,0,none⟩=false:=zq6 hclO;obtain⟨E1,hI⟩:=h.setO i hlen hrow (by omega) (λb hb hne=>(hold b (by omega) hne).trans (o1 b hb)) (by
  rcases hob with hob|hob
  · exact .inl hob
  · exact .inr ⟨_,hob,by omega⟩)
 have hv'c:v'.cells.size=1:=by
  rcases hrow.2 with⟨_,hn⟩|⟨g,cap,cur,hv,_⟩
  · exact absurd hn (Nat.succ_ne_zero _)
  · rw[hv];rfl
 refine at_store (J:=λ(_:Unit)=>HoldR Try.prog Fin Kc inb 0 n) (s:=()) (i:=4) (rest:=[]) (by decide) hJ rfl rfl (ad:=⟨B.bO,0,none⟩) rfl (λj hj=>free_cell hKO (by rw[←hv'c];exact hj)) ⟨_,_,_,hclO⟩ ?_;intro τ d;obtain⟨p',cap',hv'⟩:∃p cap,v'=.slice p (a.ord.length+1) cap:=by obtain⟨p,cap,e⟩:=hI.slice;exact⟨p,cap,by rw[e];simp⟩
 subst hv';go_wp2;simp only[contAt,re_setCell];refine hJ.re' () _ _ τ d ?_;generalize w'.setCell ⟨B.bO,0,none⟩ _=w2 at hI ⊢;clear hrow hsz' hold hob hgO hclO hKO cO' zO' hv'c hfree hown n1 o1 s1 hw1 cO zO;refine hJ.ctl (s:=()) (λw=>stepG_region_end) ?_;refine hJ.ctl (s:=()) (λw=>stepG_seq) ?_;refine hJ.ctl (s:=()) (λw=>stepG_region) ?_;have cX:=(zq0 (off:=0) hI.cf.ow.box).trans rfl;refine at_piece (J:=λ(_:Unit)=>HoldR Try.prog Fin Kc inb 0 n) (s:=()) (by decide) hJ (rows0_none _) true (.inl rfl) 0 2 1 rfl rfl rfl (by rfl) ?_;intro τ d;simp only[List.drop_zero,List.take_succ_cons,List.take_zero];go_wp2;simp only[contAt];refine hJ.re' () _ _ τ d ?_;refine at_call (J:=λ(_:Unit)=>HoldR Try.prog Fin Kc inb 0 n) (s:=()) (by decide) hJ rfl rfl (f:=54) (args:=#[.pointer (some ⟨A.bT,0,none⟩),.int .i64 i,.bool true]) (λτ d=>?_) (λτ d=>?_) ?_
 · simp[go_sem,execOp,Act.eval,resolve,Deferred.ofValue,invoke,callFunc,Try.func54,Try.f54]
 · intro e he;simp[go_sem,execOp,Act.eval,resolve,Deferred.ofValue,invoke,callFunc,Try.func54,Try.f54,Sem.runT_eq]at he
 refine let_turn hFin hI.ok hI.kept hI.cf hi ho hn λm' ov' brk' inb' w3 hT hC=>?_;have hI3:=hI.turned hC;have hJ3:=jm_main hFin Kc inb' n;have hst:Step1 T A.N most i a ⟨m',ov',brk',a.ord++[i]⟩:=.go i rfl hi ho hm hT;rw[Frame.finish_at]
 try walk_nrm
 refine hJ3.ctl (s:=()) (λw=>stepG_region_end) ?_;refine hJ3.ctl (s:=()) (λw=>stepG_seq) ?_;refine hJ3.ctl (s:=()) (λw=>stepG_region) ?_;obtain⟨p3,cap3,hv3,hd3⟩:=hI3.head;have cX:=hd3.cX;have cS:=hd3.cS (Nat.lt_of_le_of_lt (Nat.zero_le _) hi);have cs':=hd3.cs i hi;have cv:=hd3.cv i hi;have hiN:(i:Int)<A.N:=by omega
 have hi0:(0:Int)<=i:=by omega
 have cL:=(hI3.cell hI3.eL).1;have zL:=(hI3.cell hI3.eL).2.1;have kL:=(hI3.cell hI3.eL).2.2.1;have qL:=(hI3.cell hI3.eL).2.2.2;refine at_piece (J:=λ(_:Unit)=>HoldR Try.prog Fin Kc inb' 0 n) (s:=()) (by decide) hJ3 (rows0_none _) true (.inl rfl) 0 10 0 rfl rfl rfl (by rfl) ?_;intro τ d;simp only[List.drop_zero,List.take_succ_cons,List.take_zero];have hret:∀(mc:Frame)(Tx:Array Value)(w:World),HoldR Try.prog Fin Kc inb' 0 n (G (c.finish (.tuple #[])) cs) w->HoldR Try.prog Fin Kc inb' 0 n (G ((bN 53).at ⟨Tx,[]⟩ []) (c::cs)) w:=λ_ Tx w hj=>
  hJ3.ctl (s:=()) (λw=>stepG_end) (leaveJ (J:=λ(_:Unit)=>HoldR Try.prog Fin Kc inb' 0 n) (s:=()) hJ3 (b:=bN 53) rfl rfl Try.func53 (λτ d=>by simp[results,Try.f53]) hj)
 clear hd3;cases hov:ov' i with
 |false=>
  have hl:leftN ov' A.N=leftN a.ov A.N:=by
   cases hT with
   |yield h=>rfl
   |done h=>simp at hov
   |broke h=>simp at hov
  have cv':w3.cell? ⟨A.st i,2,none⟩=some (.bool false):=by rw[←hov];exact cv
  clear cv;go_wp2;simp only[contAt];refine hJ3.re' () _ _ τ d ?_;refine hJ3.ctl (s:=()) (λw=>stepG_region_end) ?_;refine hJ3.ctl (s:=()) (λw=>stepG_cond (t:=false) rfl) ?_;refine hJ3.ctl (s:=()) (λw=>stepG_skip) ?_;have hI4:=hI3;rw[←hl]at hI4;exact hret c _ _ (hm2.out _ _ _ _ _ hst hI4)
 |true=>
  have hl:leftN ov' A.N+1=leftN a.ov A.N:=by
   cases hT with
   |yield h=>rw[ho]at hov;cases hov
   |done h=>exact leftN_set hi ho
   |broke h=>exact leftN_set hi ho
  have hlN:=leftN_le a.ov A.N;have hN64:=hI3.N;have cv':w3.cell? ⟨A.st i,2,none⟩=some (.bool true):=by rw[←hov];exact cv
  clear cv;go_wp2;simp only[contAt];refine hJ3.re' () _ _ τ d ?_;refine hJ3.ctl (s:=()) (λw=>stepG_region_end) ?_;refine hJ3.ctl (s:=()) (λw=>stepG_cond (t:=true) rfl) ?_;simp only[if_true];refine hJ3.ctl (s:=()) (λw=>stepG_region) ?_;refine at_piece (J:=λ(_:Unit)=>HoldR Try.prog Fin Kc inb' 0 n) (s:=()) (by decide) hJ3 (rows0_none _) true (.inl rfl) 0 2 1 rfl rfl rfl (by rfl) ?_;intro τ d;simp only[List.drop_zero,List.take_succ_cons,List.take_zero];have hwr:IntKind.i64.wrap ((leftN a.ov A.N:Int) - 1)=(leftN ov' A.N:Int):=by
   rw[show(leftN a.ov A.N:Int) - 1=(leftN ov' A.N:Int)by omega];exact IntWalk.i64_in _ (by omega)
  go_wp2;simp only[contAt];refine hJ3.re' () _ _ τ d ?_;refine at_store (J:=λ(_:Unit)=>HoldR Try.prog Fin Kc inb' 0 n) (s:=()) (i:=2) (rest:=[]) (by decide) hJ3 rfl rfl (ad:=⟨B.bL,0,none⟩) rfl (λj hj=>free_cell kL hj) ⟨_,_,_,qL⟩ ?_;intro τ d;go_wp2;simp only[contAt,re_setCell];refine hJ3.re' () _ _ τ d ?_;refine hJ3.ctl (s:=()) (λw=>stepG_region_end) ?_;exact hret c _ _ (hm2.out _ _ _ _ _ hst (hI3.setL (leftN ov' A.N) (by omega)))
theorem step_calls{Fin:Machine->Trace->Prop}(hFin:Back Try.prog Fin){T:Thr M}{A:OA}{B:Bx}{Kc:Addr->Option Value}{w₀:World}{m₀:M}{most n:Nat}{E:Nat->Option Obj}{k:Nat}{a:OSt M}{v:Value}{inb:Nat->Option Seat}{w:World}
 (h:Inv T A B Kc w₀ m₀ most A.N E (k+1) a (leftN a.ov A.N) v inb w) (x:Int) (hn:A.n0+A.N<=n) {c:Frame} {cs:List Frame}
 (hmain:∀a' E' k' v' inb' w',Step1 T A.N most x a a'->k+a.ord.length+1<=k'+a'.ord.length->Inv T A B Kc w₀ m₀ most A.N E' k' a' (leftN a'.ov A.N) v' inb' w'->HoldR Try.prog Fin Kc inb' 0 n (G (c.finish (.tuple #[])) cs) w'):
 HoldR Try.prog Fin Kc inb 0 n (G (Frame.enter Try.prog 53 #[.int .i64 x,.pointer (some ⟨B.bN,0,none⟩),.pointer (some ⟨A.bX,0,none⟩),.pointer (some ⟨B.bO,0,none⟩),.pointer (some ⟨B.bM,0,none⟩),.pointer (some ⟨B.bL,0,none⟩)] .normal) (c::cs)) w:=by
 obtain⟨p,cap,hv,hd⟩:=h.head;refine step_head (jm_main hFin Kc inb n) hd (λhno=>?_) (λhgo Ts hsz t0 t2 t3 t5=>?_)
 · exact hmain a E (k+1) v inb w (.not hno) (by omega) h
 · have hg:¬(x<0\/(A.N:Int)<=x\/a.ov x.toNat=true\/a.ord.length=most):=hgo;simp only[not_or]at hg;obtain⟨g1,g2,g3,g4⟩:=hg;obtain⟨i,rfl⟩:∃i:Nat,x=i:=⟨x.toNat,by omega⟩;have g3':a.ov i=false:=by simpa using g3
   refine step_tail hFin h (by omega) g3' g4 hn hsz t0 t2 t3 t5 λa' E' v' inb' w' hst hI=>?_;refine hmain a' E' k v' inb' w' hst ?_ hI;cases hst with
   |not h=>rcases h with h|h|h|h<;>first|omega |(rw[show((i:Int).toNat)=i by omega]at h;rw[g3']at h;cases h)
   |go=>simp;omega
end
def tailN:Nat->Code->Code
 |0,c=>c
 |n+1,.seq _ c=>tailN n c
 |_,c=>c
def headC:Code->Code
 |.seq a _=>a
 |c=>c
noncomputable def lpC:Code:=match headC (tailN 8 (Try.f22.body.getD .skip))with|.seq _ (.block _ (.loop c))=>c|_=>.skip
structure Fr(A:OA)(B:Bx)(thr sch:Value)(T:Array Value):Prop where
 size:T.size=129
 t0:T[0]?=some thr
 t1:T[1]?=some sch
 t5:T[5]?=some (.pointer (some ⟨B.bM,0,none⟩))
 t6:T[6]?=some (.pointer (some ⟨B.bO,0,none⟩))
 t9:T[9]?=some (.pointer (some ⟨B.bN,0,none⟩))
 t10:T[10]?=some (.pointer (some ⟨A.bX,0,none⟩))
 t11:T[11]?=some (.pointer (some ⟨B.bL,0,none⟩))
 t13:T[13]?=some (.func (.func 53) #[] #[.pointer (some ⟨B.bN,0,none⟩),.pointer (some ⟨A.bX,0,none⟩),.pointer (some ⟨B.bO,0,none⟩),.pointer (some ⟨B.bM,0,none⟩),.pointer (some ⟨B.bL,0,none⟩)])
section
variable {M:Type}
theorem Inv.heap_old {T:Thr M}{A:OA}{B:Bx}{Kc:Addr->Option Value}{w₀:World}{m₀:M}{most s:Nat}{E:Nat->Option Obj}{k:Nat}{a:OSt M}{left:Nat}{v:Value}{inb:Nat->Option Seat}{w:World}(h:Inv T A B Kc w₀ m₀ most s E k a left v inb w){b:Nat}(hb:b<B.B0)(hf:¬T.foot m₀ b){o:Obj}(ho:w₀.heap[b]?=some o):w.heap[b]?=some o:=
 h.cf.ext b o ((h.old b hb hf).trans ho)
def stepV(A:OA)(B:Bx):Value:=.func (.func 53) #[] #[.pointer (some ⟨B.bN,0,none⟩),.pointer (some ⟨A.bX,0,none⟩),.pointer (some ⟨B.bO,0,none⟩),.pointer (some ⟨B.bM,0,none⟩),.pointer (some ⟨B.bL,0,none⟩)]
theorem sched_round{Fin:Machine->Trace->Prop}(hFin:Back Try.prog Fin){T:Thr M}{A:OA}{B:Bx}{Kc:Addr->Option Value}{w₀:World}{m₀:M}{most n:Nat}{E:Nat->Option Obj}{k:Nat}{a:OSt M}{v:Value}{inb:Nat->Option Seat}{w:World}
 (h:Inv T A B Kc w₀ m₀ most A.N E (k+1) a (leftN a.ov A.N) v inb w) (hn:A.n0+A.N<=n) {thr sch:Value} {sb off C j L:Nat} {x:Int} {Ts:Array Value} (hF:Fr A B thr sch Ts) (hj:j<L) (hL:L<=4611686018427387904) (t76:Ts[76]?=some (.slice (some ⟨sb,off,none⟩) L C)) (t77:Ts[77]?=some (.int .i64 L)) (t78:Ts[78]?=some (.int .i64 j)) (hx:w.cell? ⟨sb,off+j,none⟩=some (.int .i64 x))
 {b:Frame} (hb:b.kind≠.early) {ds:List Deferred} {K:List Item} {cs:List Frame}
 (hmain:∀a' E' k' v' inb' w'(Ts':Array Value),Step1 T A.N most x a a'->k+a.ord.length+1<=k'+a'.ord.length->Inv T A B Kc w₀ m₀ most A.N E' k' a' (leftN a'.ov A.N) v' inb' w'->Fr A B thr sch Ts'->Ts'[76]?=some (.slice (some ⟨sb,off,none⟩) L C)->Ts'[77]?=some (.int .i64 L)->Ts'[78]?=some (.int .i64 (j+1:Nat))->
  HoldR Try.prog Fin Kc inb' 0 n (G (b.at ⟨Ts',ds⟩ (.inLoop lpC::.inBlock 4::K)) cs) w'):
 HoldR Try.prog Fin Kc inb 0 n (G (b.at ⟨Ts,ds⟩ (.code lpC::.inLoop lpC::.inBlock 4::K)) cs) w:=by
 have hJ:=jm_main hFin Kc inb n;obtain⟨hsz,f2,f3,f4,f5,f6,f7,f8,f9⟩:=hF;have hm:=Lib.hid hmain;clear hmain;have elp:lpC=match headC (tailN 8 (Try.f22.body.getD .skip))with|.seq _ (.block _ (.loop c))=>c|_=>.skip:=rfl
 simp only[headC,tailN,Try.f22,al_od]at elp;generalize hlp:lpC=lp at elp ⊢ hm;subst elp;have hjL:(j:Int)<L:=by omega
 have hj0:(0:Int)<=j:=by omega
 refine hJ.ctl (s:=()) (λw=>stepG_seq) ?_;refine hJ.ctl (s:=()) (λw=>stepG_region) ?_;refine at_eval (J:=λ(_:Unit)=>HoldR Try.prog Fin Kc inb 0 n) (s:=()) hJ hb 0 [.bool true] [] rfl (by simp) (by rfl) ?_ ?_
 · intro τ d;simp only[evalsO,dstOf,al_gl,al_g0,al_g1,al_ob];refine⟨?_,trivial⟩<;>(intro o ho;simp only[al_oi]at ho;subst ho)
   all_goals(try simp only[execOp,Act.eval,al_gd])
   all_goals(try simp only[al_gs,al_gz,hsz,f2,f3,f4,f5,f6,f7,f8,f9,t76,t77,t78,Nat.reduceEqDiff,Nat.reduceLT,↓reduceIte,al_od])
   all_goals(have hlt:∀i,i<129->i<(Ts).size:=λi hi=>(by rw[hsz];exact hi))
   all_goals(clear hsz f2 f3 f4 f5 f6 f7 f8 f9 t76 t77 t78)
   all_goals(try go_simp)
   all_goals(try omega)
 simp only[putv,dstOf,al_gl,al_g0,al_g1,al_ob];obtain⟨T1,hT⟩:∃X,X=(Ts).setIfInBounds 79 (.bool true):=⟨_,rfl⟩;rw[←hT];have hT1:T1.size=129:=by rw[hT];simp[hsz]
 have T1_0:=sg1 hT f2;have T1_1:=sg1 hT f3;have T1_5:=sg1 hT f4;have T1_6:=sg1 hT f5;have T1_9:=sg1 hT f6;have T1_10:=sg1 hT f7;have T1_11:=sg1 hT f8;have T1_13:T1[13]?=some (stepV A B):=sg1 hT f9;have T1_76:=sg1 hT t76;have T1_77:=sg1 hT t77;have T1_78:=sg1 hT t78;have T1_79:T1[79]?=some (.bool true):=by rw[hT];simp[al_gs,hsz]
 clear hT f2 f3 f4 f5 f6 f7 f8 f9 t76 t77 t78 hsz;refine hJ.ctl (s:=()) (λw=>stepG_region_end) ?_;refine hJ.ctl (s:=()) (λw=>stepG_seq) ?_;refine hJ.ctl (s:=()) (λw=>stepG_cond (t:=true) (by simp[Act.eval,al_gd,T1_79])) ?_;simp only[if_true];refine hJ.ctl (s:=()) (λw=>stepG_skip) ?_;refine hJ.ctl (s:=()) (λw=>stepG_seq) ?_;refine hJ.ctl (s:=()) (λw=>stepG_block) ?_;refine hJ.ctl (s:=()) (λw=>stepG_seq) ?_;refine hJ.ctl (s:=()) (λw=>stepG_region) ?_;refine at_eval (J:=λ(_:Unit)=>HoldR Try.prog Fin Kc inb 0 n) (s:=()) hJ hb 0 [.pointer (some ⟨sb,off+j,none⟩),.int .i64 x,.int .i64 x] [] rfl (by simp) (by rfl) ?_ ?_
 · intro τ d;simp only[evalsO,dstOf,al_gl,al_g0,al_g1,al_ob];refine⟨?_,?_,?_,trivial⟩<;>(intro o ho;simp only[al_oi]at ho;subst ho)
   all_goals(try simp only[execOp,Act.eval,al_gd])
   all_goals(try simp only[al_gs,al_gz,hT1,T1_0,T1_1,T1_5,T1_6,T1_9,T1_10,T1_11,T1_13,T1_76,T1_77,T1_78,T1_79,Nat.reduceEqDiff,Nat.reduceLT,↓reduceIte,al_od])
   all_goals(have hlt:∀i,i<129->i<(T1).size:=λi hi=>(by rw[hT1];exact hi))
   all_goals(clear hT1 T1_0 T1_1 T1_5 T1_6 T1_9 T1_10 T1_11 T1_13 T1_76 T1_77 T1_78 T1_79)
   all_goals(try go_simp)
   all_goals(try omega)
 simp only[putv,dstOf,al_gl,al_g0,al_g1,al_ob];obtain⟨T2,hT⟩:∃X,X=(((T1).setIfInBounds 80 (.pointer (some ⟨sb,off+j,none⟩))).setIfInBounds 81 (.int .i64 x)).setIfInBounds 15 (.int .i64 x):=⟨_,rfl⟩;rw[←hT];have hT2:T2.size=129:=by rw[hT];simp[hT1]
 have T2_0:=sg3 hT T1_0;have T2_1:=sg3 hT T1_1;have T2_5:=sg3 hT T1_5;have T2_6:=sg3 hT T1_6;have T2_9:=sg3 hT T1_9;have T2_10:=sg3 hT T1_10;have T2_11:=sg3 hT T1_11;have T2_13:T2[13]?=some (stepV A B):=sg3 hT T1_13;have T2_76:=sg3 hT T1_76;have T2_77:=sg3 hT T1_77;have T2_78:=sg3 hT T1_78;have T2_79:=sg3 hT T1_79;have T2_80:T2[80]?=some (.pointer (some ⟨sb,off+j,none⟩)):=by rw[hT];simp[al_gs,hT1]
 have T2_81:T2[81]?=some (.int .i64 x):=by rw[hT];simp[al_gs,hT1]
 have T2_15:T2[15]?=some (.int .i64 x):=by rw[hT];simp[al_gs,hT1]
 clear hT T1_0 T1_1 T1_5 T1_6 T1_9 T1_10 T1_11 T1_13 T1_76 T1_77 T1_78 T1_79 hT1;refine hJ.ctl (s:=()) (λw=>stepG_region_end) ?_;refine hJ.ctl (s:=()) (λw=>stepG_region) ?_;refine at_eval (J:=λ(_:Unit)=>HoldR Try.prog Fin Kc inb 0 n) (s:=()) hJ hb 0 [stepV A B,.int .i64 x] [2] rfl (by simp) (by rfl) ?_ ?_
 · intro τ d;simp only[evalsO,dstOf,al_gl,al_g0,al_g1,al_ob];refine⟨?_,?_,trivial⟩<;>(intro o ho;simp only[al_oi]at ho;subst ho)
   all_goals(try simp only[execOp,Act.eval,al_gd])
   all_goals(try simp only[al_gs,al_gz,hT2,T2_0,T2_1,T2_5,T2_6,T2_9,T2_10,T2_11,T2_13,T2_76,T2_77,T2_78,T2_79,T2_80,T2_81,T2_15,Nat.reduceEqDiff,Nat.reduceLT,↓reduceIte,al_od])
   all_goals(have hlt:∀i,i<129->i<(T2).size:=λi hi=>(by rw[hT2];exact hi))
   all_goals(clear hT2 T2_0 T2_1 T2_5 T2_6 T2_9 T2_10 T2_11 T2_13 T2_76 T2_77 T2_78 T2_79 T2_80 T2_81 T2_15)
   all_goals(try go_simp)
   all_goals(try omega)
 simp only[putv,dstOf,al_gl,al_g0,al_g1,al_ob];obtain⟨T3,hT⟩:∃X,X=((T2).setIfInBounds 82 (stepV A B)).setIfInBounds 83 (.int .i64 x):=⟨_,rfl⟩;rw[←hT];have hT3:T3.size=129:=by rw[hT];simp[hT2]
 have T3_0:=sg2 hT T2_0;have T3_1:=sg2 hT T2_1;have T3_5:=sg2 hT T2_5;have T3_6:=sg2 hT T2_6;have T3_9:=sg2 hT T2_9;have T3_10:=sg2 hT T2_10;have T3_11:=sg2 hT T2_11;have T3_13:T3[13]?=some (stepV A B):=sg2 hT T2_13;have T3_76:=sg2 hT T2_76;have T3_77:=sg2 hT T2_77;have T3_78:=sg2 hT T2_78;have T3_79:=sg2 hT T2_79;have T3_80:=sg2 hT T2_80;have T3_81:=sg2 hT T2_81;have T3_15:=sg2 hT T2_15;have T3_82:T3[82]?=some (stepV A B):=by rw[hT];simp[al_gs,hT2]
 have T3_83:T3[83]?=some (.int .i64 x):=by rw[hT];simp[al_gs,hT2]
 clear hT T2_0 T2_1 T2_5 T2_6 T2_9 T2_10 T2_11 T2_13 T2_76 T2_77 T2_78 T2_79 T2_80 T2_81 T2_15 hT2;refine at_call (J:=λ(_:Unit)=>HoldR Try.prog Fin Kc inb 0 n) (s:=()) hb hJ rfl (by simp[Region.wanted]) (f:=53) (args:=#[.int .i64 x,.pointer (some ⟨B.bN,0,none⟩),.pointer (some ⟨A.bX,0,none⟩),.pointer (some ⟨B.bO,0,none⟩),.pointer (some ⟨B.bM,0,none⟩),.pointer (some ⟨B.bL,0,none⟩)]) (λτ d=>?_) (λτ d=>?_) ?_
 · simp[go_sem,execOp,Act.eval,resolve,Deferred.ofValue,invoke,callFunc,Try.func53,Try.f53,stepV,al_gd,T3_82,T3_83]
 · intro e he;simp[go_sem,execOp,Act.eval,resolve,Deferred.ofValue,invoke,callFunc,Try.func53,Try.f53,Sem.runT_eq,stepV,al_gd,T3_82,T3_83]at he
 refine step_calls hFin h x hn λa' E' k' v' inb' w' hst hk hI=>?_;have hJ3:=jm_main hFin Kc inb' n;rw[Frame.finish_at]
 try walk_nrm
 obtain⟨T4,hT⟩:∃X,X=(T3).setIfInBounds 84 (.tuple #[]):=⟨_,rfl⟩;rw[←hT];have hT4:T4.size=129:=by rw[hT];simp[hT3]
 have T4_0:=sg1 hT T3_0;have T4_1:=sg1 hT T3_1;have T4_5:=sg1 hT T3_5;have T4_6:=sg1 hT T3_6;have T4_9:=sg1 hT T3_9;have T4_10:=sg1 hT T3_10;have T4_11:=sg1 hT T3_11;have T4_13:T4[13]?=some (stepV A B):=sg1 hT T3_13;have T4_76:=sg1 hT T3_76;have T4_77:=sg1 hT T3_77;have T4_78:=sg1 hT T3_78;have T4_79:=sg1 hT T3_79;have T4_80:=sg1 hT T3_80;have T4_81:=sg1 hT T3_81;have T4_15:=sg1 hT T3_15;have T4_82:T4[82]?=some (stepV A B):=sg1 hT T3_82;have T4_83:=sg1 hT T3_83;have T4_84:T4[84]?=some (.tuple #[]):=by rw[hT];simp[al_gs,hT3]
 clear hT T3_0 T3_1 T3_5 T3_6 T3_9 T3_10 T3_11 T3_13 T3_76 T3_77 T3_78 T3_79 T3_80 T3_81 T3_15 T3_82 T3_83 hT3;refine hJ3.ctl (s:=()) (λw=>stepG_region_end) ?_;refine hJ3.ctl (s:=()) (λw=>stepG_inBlock) ?_;refine hJ3.ctl (s:=()) (λw=>stepG_region) ?_;have hwr:IntKind.i64.wrap ((j:Int)+1)=((j+1:Nat):Int):=by
  rw[show(j:Int)+1=((j+1:Nat):Int)by omega];exact IntWalk.i64_in _ (by omega)
 clear hx;refine at_eval (J:=λ(_:Unit)=>HoldR Try.prog Fin Kc inb' 0 n) (s:=()) hJ3 hb 0 [.int .i64 ((j+1:Nat):Int),.int .i64 ((j+1:Nat):Int)] [] rfl (by simp) (by rfl) ?_ ?_
 · intro τ d;simp only[evalsO,dstOf,al_gl,al_g0,al_g1,al_ob];refine⟨?_,?_,trivial⟩<;>(intro o ho;simp only[al_oi]at ho;subst ho)
   all_goals(try simp only[execOp,Act.eval,al_gd])
   all_goals(try simp only[al_gs,al_gz,hT4,T4_0,T4_1,T4_5,T4_6,T4_9,T4_10,T4_11,T4_13,T4_76,T4_77,T4_78,T4_79,T4_80,T4_81,T4_15,T4_82,T4_83,T4_84,Nat.reduceEqDiff,Nat.reduceLT,↓reduceIte,al_od])
   all_goals(have hlt:∀i,i<129->i<(T4).size:=λi hi=>(by rw[hT4];exact hi))
   all_goals(clear hT4 T4_0 T4_1 T4_5 T4_6 T4_9 T4_10 T4_11 T4_13 T4_76 T4_77 T4_78 T4_79 T4_80 T4_81 T4_15 T4_82 T4_83 T4_84)
   all_goals(try go_simp)
   all_goals(try omega)
 simp only[putv,dstOf,al_gl,al_g0,al_g1,al_ob];obtain⟨T5,hT⟩:∃X,X=((T4).setIfInBounds 85 (.int .i64 ((j+1:Nat):Int))).setIfInBounds 78 (.int .i64 ((j+1:Nat):Int)):=⟨_,rfl⟩;rw[←hT];have hT5:T5.size=129:=by rw[hT];simp[hT4]
 have T5_0:=sg2 hT T4_0;have T5_1:=sg2 hT T4_1;have T5_5:=sg2 hT T4_5;have T5_6:=sg2 hT T4_6;have T5_9:=sg2 hT T4_9;have T5_10:=sg2 hT T4_10;have T5_11:=sg2 hT T4_11;have T5_13:T5[13]?=some (stepV A B):=sg2 hT T4_13;have T5_76:=sg2 hT T4_76;have T5_77:=sg2 hT T4_77;have T5_79:=sg2 hT T4_79;have T5_80:=sg2 hT T4_80;have T5_81:=sg2 hT T4_81;have T5_15:=sg2 hT T4_15;have T5_82:T5[82]?=some (stepV A B):=sg2 hT T4_82;have T5_83:=sg2 hT T4_83;have T5_84:=sg2 hT T4_84;have T5_85:T5[85]?=some (.int .i64 ((j+1:Nat):Int)):=by rw[hT];simp[al_gs,hT4]
 have T5_78:T5[78]?=some (.int .i64 ((j+1:Nat):Int)):=by rw[hT];simp[al_gs,hT4]
 clear hT T4_0 T4_1 T4_5 T4_6 T4_9 T4_10 T4_11 T4_13 T4_76 T4_77 T4_78 T4_79 T4_80 T4_81 T4_15 T4_82 T4_83 T4_84 hT4;refine hJ3.ctl (s:=()) (λw=>stepG_region_end) ?_;exact hm.out _ E' k' v' inb' w' _ hst hk hI ⟨hT5,T5_0,T5_1,T5_5,T5_6,T5_9,T5_10,T5_11,T5_13⟩ T5_76 T5_77 T5_78
end
section
variable {M:Type}
theorem sched_exit{Fin:Machine->Trace->Prop}(hFin:Back Try.prog Fin){A:OA}{B:Bx}{Kc:Addr->Option Value}{n:Nat}{inb:Nat->Option Seat}{w:World}{thr sch:Value}{L:Nat}{Ts:Array Value}(hF:Fr A B thr sch Ts)(t77:Ts[77]?=some (.int .i64 L))(t78:Ts[78]?=some (.int .i64 L))
 {b:Frame} (hb:b.kind≠.early) {ds:List Deferred} {K:List Item} {cs:List Frame} (hmain:∀Ts',Fr A B thr sch Ts'->HoldR Try.prog Fin Kc inb 0 n (G (b.at ⟨Ts',ds⟩ K) cs) w):
 HoldR Try.prog Fin Kc inb 0 n (G (b.at ⟨Ts,ds⟩ (.code lpC::.inLoop lpC::.inBlock 4::K)) cs) w:=by
 have hJ:=jm_main hFin Kc inb n;obtain⟨hsz,f2,f3,f4,f5,f6,f7,f8,f9⟩:=hF;have hm:=Lib.hid hmain;clear hmain;have elp:lpC=match headC (tailN 8 (Try.f22.body.getD .skip))with|.seq _ (.block _ (.loop c))=>c|_=>.skip:=rfl
 simp only[headC,tailN,Try.f22,al_od]at elp;generalize hlp:lpC=lp at elp ⊢ hm;subst elp;refine hJ.ctl (s:=()) (λw=>stepG_seq) ?_;refine hJ.ctl (s:=()) (λw=>stepG_region) ?_;refine at_eval (J:=λ(_:Unit)=>HoldR Try.prog Fin Kc inb 0 n) (s:=()) hJ hb 0 [.bool false] [] rfl (by simp) (by rfl) ?_ ?_
 · intro τ d;simp only[evalsO,dstOf,al_gl,al_g0,al_g1,al_ob];refine⟨?_,trivial⟩<;>(intro o ho;simp only[al_oi]at ho;subst ho)
   all_goals(try simp only[execOp,Act.eval,al_gd])
   all_goals(try simp only[al_gs,al_gz,hsz,f2,f3,f4,f5,f6,f7,f8,f9,t77,t78,Nat.reduceEqDiff,Nat.reduceLT,↓reduceIte,al_od])
   all_goals(have hlt:∀i,i<129->i<(Ts).size:=λi hi=>(by rw[hsz];exact hi))
   all_goals(clear hsz f2 f3 f4 f5 f6 f7 f8 f9 t77 t78)
   all_goals(try go_simp)
   all_goals(try omega)
 simp only[putv,dstOf,al_gl,al_g0,al_g1,al_ob];obtain⟨T1,hT⟩:∃X,X=(Ts).setIfInBounds 79 (.bool false):=⟨_,rfl⟩;rw[←hT];have hT1:T1.size=129:=by rw[hT];simp[hsz]
 have T1_0:=sg1 hT f2;have T1_1:=sg1 hT f3;have T1_5:=sg1 hT f4;have T1_6:=sg1 hT f5;have T1_9:=sg1 hT f6;have T1_10:=sg1 hT f7;have T1_11:=sg1 hT f8;have T1_13:T1[13]?=some (stepV A B):=sg1 hT f9;have T1_77:=sg1 hT t77;have T1_78:=sg1 hT t78;have T1_79:T1[79]?=some (.bool false):=by rw[hT];simp[al_gs,hsz]
 clear hT f2 f3 f4 f5 f6 f7 f8 f9 t77 t78 hsz;refine hJ.ctl (s:=()) (λw=>stepG_region_end) ?_;refine hJ.ctl (s:=()) (λw=>stepG_seq) ?_;refine hJ.ctl (s:=()) (λw=>stepG_cond (t:=false) (by simp[Act.eval,al_gd,T1_79])) ?_;simp only[Bool.false_eq_true,if_false];refine hJ.ctl (s:=()) (λw=>stepG_exit (k':=K) rfl) ?_;exact hm.out _ ⟨hT1,T1_0,T1_1,T1_5,T1_6,T1_9,T1_10,T1_11,T1_13⟩
theorem old_same{T:Thr M}{A:OA}{B:Bx}{Kc:Addr->Option Value}{w₀:World}{m₀:M}{most s:Nat}{E:Nat->Option Obj}{k:Nat}{a:OSt M}{left:Nat}{v:Value}{inb:Nat->Option Seat}{w:World}(h:Inv T A B Kc w₀ m₀ most s E k a left v inb w){ad:Addr}{x:Value}(hc:w₀.cell? ad=some x)(hb:ad.block<B.B0)(hf:¬T.foot m₀ ad.block):w.cell? ad=some x:=by
 have hlt:=Go.Car.cell_lt hc;have h1:w₀.heap[ad.block]?=some w₀.heap[ad.block]:=Array.getElem?_eq_getElem hlt;rw[←hc];exact zqc ((h.heap_old hb hf h1).trans h1.symm)
theorem sched_loop{Fin:Machine->Trace->Prop}(hFin:Back Try.prog Fin){T:Thr M}{A:OA}{B:Bx}{Kc:Addr->Option Value}{w₀:World}{m₀:M}{most n:Nat}(hn:A.n0+A.N<=n){thr sch:Value}{sb off C:Nat}{sched:List Int}(hL:sched.length<=4611686018427387904)
 (hmem:∀j x,sched[j]?=some x->(w₀.cell? ⟨sb,off+j,none⟩=some (.int .i64 x)/\sb<B.B0/\¬T.foot m₀ sb)\/∀m w,T.Rep m w->w.cell? ⟨sb,off+j,none⟩=some (.int .i64 x)) {b:Frame} (hb:b.kind≠.early) {ds:List Deferred} {K:List Item} {cs:List Frame}:
 ∀(r j:Nat),j+r=sched.length->∀{E:Nat->Option Obj}{k:Nat}{a:OSt M}{v:Value}{inb:Nat->Option Seat}{w:World}{Ts:Array Value},Inv T A B Kc w₀ m₀ most A.N E k a (leftN a.ov A.N) v inb w->most+100<=k+a.ord.length->Fr A B thr sch Ts->
  Ts[76]?=some (.slice (some ⟨sb,off,none⟩) sched.length C)->Ts[77]?=some (.int .i64 sched.length)->Ts[78]?=some (.int .i64 j)->
  (∀a' E' k' v' inb' w' Ts',StepsR T A.N most (sched.drop j) a a'->most+100<=k'+a'.ord.length->Inv T A B Kc w₀ m₀ most A.N E' k' a' (leftN a'.ov A.N) v' inb' w'->Fr A B thr sch Ts'->HoldR Try.prog Fin Kc inb' 0 n (G (b.at ⟨Ts',ds⟩ K) cs) w')->
  HoldR Try.prog Fin Kc inb 0 n (G (b.at ⟨Ts,ds⟩ (.code lpC::.inLoop lpC::.inBlock 4::K)) cs) w:=by
 intro r
 induction r with
 |zero=>
  intro j hj E k a v inb w Ts hI hk hF t76 t77 t78 hmain;have e:j=sched.length:=by omega
  subst e;refine sched_exit hFin (B:=B) (A:=A) hF t77 t78 hb λTs' hF'=>?_;exact hmain a E k v inb w Ts' (by rw[List.drop_length];exact .nil a) hk hI hF'
 |succ r ih=>
  intro j hj E k a v inb w Ts hI hk hF t76 t77 t78 hmain;have hjl:j<sched.length:=by omega
  have hx:sched[j]?=some sched[j]:=List.getElem?_eq_getElem hjl;obtain⟨k,rfl⟩:∃k',k=k'+1:=⟨k - 1,by have:=hI.len;omega⟩;refine sched_round hFin hI hn hF hjl hL t76 t77 t78 ((hmem j _ hx).elim (λh=>old_same hI h.1 h.2.1 h.2.2) λh=>h _ _ hI.cf.rep) hb λa' E' k' v' inb' w' Ts' hst hk' hI' hF' u76 u77 u78=>?_;have hJ':=jm_main hFin Kc inb' n;refine hJ'.ctl (s:=()) (λw=>stepG_inLoop) ?_;refine ih (j+1) (by omega) hI' (by omega) hF' u76 u77 u78 λa'' E'' k'' v'' inb'' w'' Ts'' hss hk'' hI'' hF''=>?_;refine hmain a'' E'' k'' v'' inb'' w'' Ts'' ?_ hk'' hI'' hF'';rw[List.drop_eq_getElem_cons hjl];exact .cons hst hss
noncomputable def lpD:Code:=match headC (tailN 9 (Try.f22.body.getD .skip))with|.block _ (.loop c)=>c|_=>.skip
noncomputable def lpE:Code:=match lpD with|.seq _ (.block _ (.seq _ (.block _ (.loop c))))=>c|_=>.skip
theorem inner_round{Fin:Machine->Trace->Prop}(hFin:Back Try.prog Fin){T:Thr M}{A:OA}{B:Bx}{Kc:Addr->Option Value}{w₀:World}{m₀:M}{most n:Nat}{E:Nat->Option Obj}{k:Nat}{a:OSt M}{v:Value}{inb:Nat->Option Seat}{w:World}
 (h:Inv T A B Kc w₀ m₀ most A.N E (k+1) a (leftN a.ov A.N) v inb w) (hn:A.n0+A.N<=n) {thr sch:Value} {j:Nat} {Ts:Array Value} (hF:Fr A B thr sch Ts) (hj:j<A.N) (t94:Ts[94]?=some (.int .i64 A.N)) (t95:Ts[95]?=some (.int .i64 j))
 {b:Frame} (hb:b.kind≠.early) {ds:List Deferred} {K:List Item} {cs:List Frame}
 (hmain:∀a' E' k' v' inb' w'(Ts':Array Value),Step1 T A.N most j a a'->k+a.ord.length+1<=k'+a'.ord.length->Inv T A B Kc w₀ m₀ most A.N E' k' a' (leftN a'.ov A.N) v' inb' w'->Fr A B thr sch Ts'->Ts'[94]?=some (.int .i64 A.N)->Ts'[95]?=some (.int .i64 (j+1:Nat))->
  HoldR Try.prog Fin Kc inb' 0 n (G (b.at ⟨Ts',ds⟩ (.inLoop lpE::.inBlock 8::K)) cs) w'):
 HoldR Try.prog Fin Kc inb 0 n (G (b.at ⟨Ts,ds⟩ (.code lpE::.inLoop lpE::.inBlock 8::K)) cs) w:=by
 have hJ:=jm_main hFin Kc inb n;have hN64:=h.N;obtain⟨hsz,f2,f3,f4,f5,f6,f7,f8,f9⟩:=hF;have hm:=Lib.hid hmain;clear hmain;have elp:lpE=match lpD with|.seq _ (.block _ (.seq _ (.block _ (.loop c))))=>c|_=>.skip:=rfl
 simp only[lpD,headC,tailN,Try.f22,al_od]at elp;generalize hlp:lpE=lp at elp ⊢ hm;subst elp;have hjL:(j:Int)<A.N:=by omega
 have hj0:(0:Int)<=j:=by omega
 refine hJ.ctl (s:=()) (λw=>stepG_seq) ?_;refine hJ.ctl (s:=()) (λw=>stepG_region) ?_;refine at_eval (J:=λ(_:Unit)=>HoldR Try.prog Fin Kc inb 0 n) (s:=()) hJ hb 0 [.bool true] [] rfl (by simp) (by rfl) ?_ ?_
 · intro τ d;simp only[evalsO,dstOf,al_gl,al_g0,al_g1,al_ob];refine⟨?_,trivial⟩<;>(intro o ho;simp only[al_oi]at ho;subst ho)
   all_goals(try simp only[execOp,Act.eval,al_gd])
   all_goals(try simp only[al_gs,al_gz,hsz,f2,f3,f4,f5,f6,f7,f8,f9,t94,t95,Nat.reduceEqDiff,Nat.reduceLT,↓reduceIte,al_od])
   all_goals(have hlt:∀i,i<129->i<(Ts).size:=λi hi=>(by rw[hsz];exact hi))
   all_goals(clear hsz f2 f3 f4 f5 f6 f7 f8 f9 t94 t95)
   all_goals(try go_simp)
   all_goals(try omega)
 simp only[putv,dstOf,al_gl,al_g0,al_g1,al_ob];obtain⟨T1,hT⟩:∃X,X=(Ts).setIfInBounds 96 (.bool true):=⟨_,rfl⟩;rw[←hT];have hT1:T1.size=129:=by rw[hT];simp[hsz]
 have T1_0:=sg1 hT f2;have T1_1:=sg1 hT f3;have T1_5:=sg1 hT f4;have T1_6:=sg1 hT f5;have T1_9:=sg1 hT f6;have T1_10:=sg1 hT f7;have T1_11:=sg1 hT f8;have T1_13:T1[13]?=some (stepV A B):=sg1 hT f9;have T1_94:=sg1 hT t94;have T1_95:=sg1 hT t95;have T1_96:T1[96]?=some (.bool true):=by rw[hT];simp[al_gs,hsz]
 clear hT f2 f3 f4 f5 f6 f7 f8 f9 t94 t95 hsz;refine hJ.ctl (s:=()) (λw=>stepG_region_end) ?_;refine hJ.ctl (s:=()) (λw=>stepG_seq) ?_;refine hJ.ctl (s:=()) (λw=>stepG_cond (t:=true) (by simp[Act.eval,al_gd,T1_96])) ?_;simp only[if_true];refine hJ.ctl (s:=()) (λw=>stepG_skip) ?_;refine hJ.ctl (s:=()) (λw=>stepG_seq) ?_;refine hJ.ctl (s:=()) (λw=>stepG_block) ?_;refine hJ.ctl (s:=()) (λw=>stepG_seq) ?_;refine hJ.ctl (s:=()) (λw=>stepG_region) ?_;refine at_eval (J:=λ(_:Unit)=>HoldR Try.prog Fin Kc inb 0 n) (s:=()) hJ hb 0 [.int .i64 j,.int .i64 j] [] rfl (by simp) (by rfl) ?_ ?_
 · intro τ d;simp only[evalsO,dstOf,al_gl,al_g0,al_g1,al_ob];refine⟨?_,?_,trivial⟩<;>(intro o ho;simp only[al_oi]at ho;subst ho)
   all_goals(try simp only[execOp,Act.eval,al_gd])
   all_goals(try simp only[al_gs,al_gz,hT1,T1_0,T1_1,T1_5,T1_6,T1_9,T1_10,T1_11,T1_13,T1_94,T1_95,T1_96,Nat.reduceEqDiff,Nat.reduceLT,↓reduceIte,al_od])
   all_goals(have hlt:∀i,i<129->i<(T1).size:=λi hi=>(by rw[hT1];exact hi))
   all_goals(clear hT1 T1_0 T1_1 T1_5 T1_6 T1_9 T1_10 T1_11 T1_13 T1_94 T1_95 T1_96)
   all_goals(try go_simp)
   all_goals(try omega)
 simp only[putv,dstOf,al_gl,al_g0,al_g1,al_ob];obtain⟨T2,hT⟩:∃X,X=((T1).setIfInBounds 97 (.int .i64 j)).setIfInBounds 16 (.int .i64 j):=⟨_,rfl⟩;rw[←hT];have hT2:T2.size=129:=by rw[hT];simp[hT1]
 have T2_0:=sg2 hT T1_0;have T2_1:=sg2 hT T1_1;have T2_5:=sg2 hT T1_5;have T2_6:=sg2 hT T1_6;have T2_9:=sg2 hT T1_9;have T2_10:=sg2 hT T1_10;have T2_11:=sg2 hT T1_11;have T2_13:T2[13]?=some (stepV A B):=sg2 hT T1_13;have T2_94:=sg2 hT T1_94;have T2_95:=sg2 hT T1_95;have T2_96:=sg2 hT T1_96;have T2_97:T2[97]?=some (.int .i64 j):=by rw[hT];simp[al_gs,hT1]
 have T2_16:T2[16]?=some (.int .i64 j):=by rw[hT];simp[al_gs,hT1]
 clear hT T1_0 T1_1 T1_5 T1_6 T1_9 T1_10 T1_11 T1_13 T1_94 T1_95 T1_96 hT1;refine hJ.ctl (s:=()) (λw=>stepG_region_end) ?_;refine hJ.ctl (s:=()) (λw=>stepG_region) ?_;refine at_eval (J:=λ(_:Unit)=>HoldR Try.prog Fin Kc inb 0 n) (s:=()) hJ hb 0 [stepV A B,.int .i64 j] [2] rfl (by simp) (by rfl) ?_ ?_
 · intro τ d;simp only[evalsO,dstOf,al_gl,al_g0,al_g1,al_ob];refine⟨?_,?_,trivial⟩<;>(intro o ho;simp only[al_oi]at ho;subst ho)
   all_goals(try simp only[execOp,Act.eval,al_gd])
   all_goals(try simp only[al_gs,al_gz,hT2,T2_0,T2_1,T2_5,T2_6,T2_9,T2_10,T2_11,T2_13,T2_94,T2_95,T2_96,T2_97,T2_16,Nat.reduceEqDiff,Nat.reduceLT,↓reduceIte,al_od])
   all_goals(have hlt:∀i,i<129->i<(T2).size:=λi hi=>(by rw[hT2];exact hi))
   all_goals(clear hT2 T2_0 T2_1 T2_5 T2_6 T2_9 T2_10 T2_11 T2_13 T2_94 T2_95 T2_96 T2_97 T2_16)
   all_goals(try go_simp)
   all_goals(try omega)
 simp only[putv,dstOf,al_gl,al_g0,al_g1,al_ob];obtain⟨T3,hT⟩:∃X,X=((T2).setIfInBounds 98 (stepV A B)).setIfInBounds 99 (.int .i64 j):=⟨_,rfl⟩;rw[←hT];have hT3:T3.size=129:=by rw[hT];simp[hT2]
 have T3_0:=sg2 hT T2_0;have T3_1:=sg2 hT T2_1;have T3_5:=sg2 hT T2_5;have T3_6:=sg2 hT T2_6;have T3_9:=sg2 hT T2_9;have T3_10:=sg2 hT T2_10;have T3_11:=sg2 hT T2_11;have T3_13:T3[13]?=some (stepV A B):=sg2 hT T2_13;have T3_94:=sg2 hT T2_94;have T3_95:=sg2 hT T2_95;have T3_96:=sg2 hT T2_96;have T3_97:=sg2 hT T2_97;have T3_16:=sg2 hT T2_16;have T3_98:T3[98]?=some (stepV A B):=by rw[hT];simp[al_gs,hT2]
 have T3_99:T3[99]?=some (.int .i64 j):=by rw[hT];simp[al_gs,hT2]
 clear hT T2_0 T2_1 T2_5 T2_6 T2_9 T2_10 T2_11 T2_13 T2_94 T2_95 T2_96 T2_97 T2_16 hT2;refine at_call (J:=λ(_:Unit)=>HoldR Try.prog Fin Kc inb 0 n) (s:=()) hb hJ rfl (by simp[Region.wanted]) (f:=53) (args:=#[.int .i64 j,.pointer (some ⟨B.bN,0,none⟩),.pointer (some ⟨A.bX,0,none⟩),.pointer (some ⟨B.bO,0,none⟩),.pointer (some ⟨B.bM,0,none⟩),.pointer (some ⟨B.bL,0,none⟩)]) (λτ d=>?_) (λτ d=>?_) ?_
 · simp[go_sem,execOp,Act.eval,resolve,Deferred.ofValue,invoke,callFunc,Try.func53,Try.f53,stepV,al_gd,T3_98,T3_99]
 · intro e he;simp[go_sem,execOp,Act.eval,resolve,Deferred.ofValue,invoke,callFunc,Try.func53,Try.f53,Sem.runT_eq,stepV,al_gd,T3_98,T3_99]at he
 refine step_calls hFin h (j:Int) hn λa' E' k' v' inb' w' hst hk hI=>?_;have hJ3:=jm_main hFin Kc inb' n;rw[Frame.finish_at]
 try walk_nrm
 obtain⟨T4,hT⟩:∃X,X=(T3).setIfInBounds 100 (.tuple #[]):=⟨_,rfl⟩;rw[←hT];have hT4:T4.size=129:=by rw[hT];simp[hT3]
 have T4_0:=sg1 hT T3_0;have T4_1:=sg1 hT T3_1;have T4_5:=sg1 hT T3_5;have T4_6:=sg1 hT T3_6;have T4_9:=sg1 hT T3_9;have T4_10:=sg1 hT T3_10;have T4_11:=sg1 hT T3_11;have T4_13:T4[13]?=some (stepV A B):=sg1 hT T3_13;have T4_94:=sg1 hT T3_94;have T4_95:=sg1 hT T3_95;have T4_96:=sg1 hT T3_96;have T4_97:=sg1 hT T3_97;have T4_16:=sg1 hT T3_16;have T4_98:T4[98]?=some (stepV A B):=sg1 hT T3_98;have T4_99:=sg1 hT T3_99;have T4_100:T4[100]?=some (.tuple #[]):=by rw[hT];simp[al_gs,hT3]
 clear hT T3_0 T3_1 T3_5 T3_6 T3_9 T3_10 T3_11 T3_13 T3_94 T3_95 T3_96 T3_97 T3_16 T3_98 T3_99 hT3;refine hJ3.ctl (s:=()) (λw=>stepG_region_end) ?_;refine hJ3.ctl (s:=()) (λw=>stepG_inBlock) ?_;refine hJ3.ctl (s:=()) (λw=>stepG_region) ?_;have hwr:IntKind.i64.wrap ((j:Int)+1)=((j+1:Nat):Int):=by
  rw[show(j:Int)+1=((j+1:Nat):Int)by omega];exact IntWalk.i64_in _ (by omega)
 refine at_eval (J:=λ(_:Unit)=>HoldR Try.prog Fin Kc inb' 0 n) (s:=()) hJ3 hb 0 [.int .i64 ((j+1:Nat):Int),.int .i64 ((j+1:Nat):Int)] [] rfl (by simp) (by rfl) ?_ ?_
 · intro τ d;simp only[evalsO,dstOf,al_gl,al_g0,al_g1,al_ob];refine⟨?_,?_,trivial⟩<;>(intro o ho;simp only[al_oi]at ho;subst ho)
   all_goals(try simp only[execOp,Act.eval,al_gd])
   all_goals(try simp only[al_gs,al_gz,hT4,T4_0,T4_1,T4_5,T4_6,T4_9,T4_10,T4_11,T4_13,T4_94,T4_95,T4_96,T4_97,T4_16,T4_98,T4_99,T4_100,Nat.reduceEqDiff,Nat.reduceLT,↓reduceIte,al_od])
   all_goals(have hlt:∀i,i<129->i<(T4).size:=λi hi=>(by rw[hT4];exact hi))
   all_goals(clear hT4 T4_0 T4_1 T4_5 T4_6 T4_9 T4_10 T4_11 T4_13 T4_94 T4_95 T4_96 T4_97 T4_16 T4_98 T4_99 T4_100)
   all_goals(try go_simp)
   all_goals(try omega)
 simp only[putv,dstOf,al_gl,al_g0,al_g1,al_ob];obtain⟨T5,hT⟩:∃X,X=((T4).setIfInBounds 101 (.int .i64 ((j+1:Nat):Int))).setIfInBounds 95 (.int .i64 ((j+1:Nat):Int)):=⟨_,rfl⟩;rw[←hT];have hT5:T5.size=129:=by rw[hT];simp[hT4]
 have T5_0:=sg2 hT T4_0;have T5_1:=sg2 hT T4_1;have T5_5:=sg2 hT T4_5;have T5_6:=sg2 hT T4_6;have T5_9:=sg2 hT T4_9;have T5_10:=sg2 hT T4_10;have T5_11:=sg2 hT T4_11;have T5_13:T5[13]?=some (stepV A B):=sg2 hT T4_13;have T5_94:=sg2 hT T4_94;have T5_96:=sg2 hT T4_96;have T5_97:=sg2 hT T4_97;have T5_16:=sg2 hT T4_16;have T5_98:T5[98]?=some (stepV A B):=sg2 hT T4_98;have T5_99:=sg2 hT T4_99;have T5_100:=sg2 hT T4_100;have T5_101:T5[101]?=some (.int .i64 ((j+1:Nat):Int)):=by rw[hT];simp[al_gs,hT4]
 have T5_95:T5[95]?=some (.int .i64 ((j+1:Nat):Int)):=by rw[hT];simp[al_gs,hT4]
 clear hT T4_0 T4_1 T4_5 T4_6 T4_9 T4_10 T4_11 T4_13 T4_94 T4_95 T4_96 T4_97 T4_16 T4_98 T4_99 T4_100 hT4;refine hJ3.ctl (s:=()) (λw=>stepG_region_end) ?_;exact hm.out _ E' k' v' inb' w' _ hst hk hI ⟨hT5,T5_0,T5_1,T5_5,T5_6,T5_9,T5_10,T5_11,T5_13⟩ T5_94 T5_95
theorem inner_exit{Fin:Machine->Trace->Prop}(hFin:Back Try.prog Fin){A:OA}{B:Bx}{Kc:Addr->Option Value}{n:Nat}{inb:Nat->Option Seat}{w:World}{thr sch:Value}{Ts:Array Value}(hF:Fr A B thr sch Ts)(t94:Ts[94]?=some (.int .i64 A.N))(t95:Ts[95]?=some (.int .i64 A.N))
 {b:Frame} (hb:b.kind≠.early) {ds:List Deferred} {K:List Item} {cs:List Frame} (hmain:∀Ts',Fr A B thr sch Ts'->HoldR Try.prog Fin Kc inb 0 n (G (b.at ⟨Ts',ds⟩ K) cs) w):
 HoldR Try.prog Fin Kc inb 0 n (G (b.at ⟨Ts,ds⟩ (.code lpE::.inLoop lpE::.inBlock 8::K)) cs) w:=by
 have hJ:=jm_main hFin Kc inb n;obtain⟨hsz,f2,f3,f4,f5,f6,f7,f8,f9⟩:=hF;have hm:=Lib.hid hmain;clear hmain;have elp:lpE=match lpD with|.seq _ (.block _ (.seq _ (.block _ (.loop c))))=>c|_=>.skip:=rfl
 simp only[lpD,headC,tailN,Try.f22,al_od]at elp;generalize hlp:lpE=lp at elp ⊢ hm;subst elp;refine hJ.ctl (s:=()) (λw=>stepG_seq) ?_;refine hJ.ctl (s:=()) (λw=>stepG_region) ?_;refine at_eval (J:=λ(_:Unit)=>HoldR Try.prog Fin Kc inb 0 n) (s:=()) hJ hb 0 [.bool false] [] rfl (by simp) (by rfl) ?_ ?_
 · intro τ d;simp only[evalsO,dstOf,al_gl,al_g0,al_g1,al_ob];refine⟨?_,trivial⟩<;>(intro o ho;simp only[al_oi]at ho;subst ho)
   all_goals(try simp only[execOp,Act.eval,al_gd])
   all_goals(try simp only[al_gs,al_gz,hsz,f2,f3,f4,f5,f6,f7,f8,f9,t94,t95,Nat.reduceEqDiff,Nat.reduceLT,↓reduceIte,al_od])
   all_goals(have hlt:∀i,i<129->i<(Ts).size:=λi hi=>(by rw[hsz];exact hi))
   all_goals(clear hsz f2 f3 f4 f5 f6 f7 f8 f9 t94 t95)
   all_goals(try go_simp)
   all_goals(try omega)
 simp only[putv,dstOf,al_gl,al_g0,al_g1,al_ob];obtain⟨T1,hT⟩:∃X,X=(Ts).setIfInBounds 96 (.bool false):=⟨_,rfl⟩;rw[←hT];have hT1:T1.size=129:=by rw[hT];simp[hsz]
 have T1_0:=sg1 hT f2;have T1_1:=sg1 hT f3;have T1_5:=sg1 hT f4;have T1_6:=sg1 hT f5;have T1_9:=sg1 hT f6;have T1_10:=sg1 hT f7;have T1_11:=sg1 hT f8;have T1_13:T1[13]?=some (stepV A B):=sg1 hT f9;have T1_94:=sg1 hT t94;have T1_95:=sg1 hT t95;have T1_96:T1[96]?=some (.bool false):=by rw[hT];simp[al_gs,hsz]
 clear hT f2 f3 f4 f5 f6 f7 f8 f9 t94 t95 hsz;refine hJ.ctl (s:=()) (λw=>stepG_region_end) ?_;refine hJ.ctl (s:=()) (λw=>stepG_seq) ?_;refine hJ.ctl (s:=()) (λw=>stepG_cond (t:=false) (by simp[Act.eval,al_gd,T1_96])) ?_;simp only[Bool.false_eq_true,if_false];refine hJ.ctl (s:=()) (λw=>stepG_exit (k':=K) rfl) ?_;exact hm.out _ ⟨hT1,T1_0,T1_1,T1_5,T1_6,T1_9,T1_10,T1_11,T1_13⟩
theorem inner_loop{Fin:Machine->Trace->Prop}(hFin:Back Try.prog Fin){T:Thr M}{A:OA}{B:Bx}{Kc:Addr->Option Value}{w₀:World}{m₀:M}{most n:Nat}(hn:A.n0+A.N<=n){thr sch:Value}{b:Frame}(hb:b.kind≠.early){ds:List Deferred}{K:List Item}{cs:List Frame}:
 ∀(r j:Nat),j+r=A.N->∀{E:Nat->Option Obj}{k:Nat}{a:OSt M}{v:Value}{inb:Nat->Option Seat}{w:World}{Ts:Array Value},Inv T A B Kc w₀ m₀ most A.N E k a (leftN a.ov A.N) v inb w->most+100<=k+a.ord.length->Fr A B thr sch Ts->
  Ts[94]?=some (.int .i64 A.N)->Ts[95]?=some (.int .i64 j)->
  (∀a' E' k' v' inb' w' Ts',StepsR T A.N most ((upto A.N).drop j) a a'->most+100<=k'+a'.ord.length->Inv T A B Kc w₀ m₀ most A.N E' k' a' (leftN a'.ov A.N) v' inb' w'->Fr A B thr sch Ts'->HoldR Try.prog Fin Kc inb' 0 n (G (b.at ⟨Ts',ds⟩ K) cs) w')->
  HoldR Try.prog Fin Kc inb 0 n (G (b.at ⟨Ts,ds⟩ (.code lpE::.inLoop lpE::.inBlock 8::K)) cs) w:=by
 intro r
 induction r with
 |zero=>
  intro j hj E k a v inb w Ts hI hk hF t94 t95 hmain;have e:j=A.N:=by omega
  subst e;refine inner_exit hFin (B:=B) (A:=A) hF t94 t95 hb λTs' hF'=>?_;exact hmain a E k v inb w Ts' (by rw[List.drop_of_length_le (by rw[upto_len];exact Nat.le_refl _)];exact .nil a) hk hI hF'
 |succ r ih=>
  intro j hj E k a v inb w Ts hI hk hF t94 t95 hmain;have hjl:j<(upto A.N).length:=by rw[upto_len];omega
  obtain⟨k,rfl⟩:∃k',k=k'+1:=⟨k - 1,by have:=hI.len;omega⟩;refine inner_round hFin hI hn hF (by omega) t94 t95 hb λa' E' k' v' inb' w' Ts' hst hk' hI' hF' u94 u95=>?_;have hJ':=jm_main hFin Kc inb' n;refine hJ'.ctl (s:=()) (λw=>stepG_inLoop) ?_;refine ih (j+1) (by omega) hI' (by omega) hF' u94 u95 λa'' E'' k'' v'' inb'' w'' Ts'' hss hk'' hI'' hF''=>?_;refine hmain a'' E'' k'' v'' inb'' w'' Ts'' ?_ hk'' hI'' hF'';have hg:(upto A.N)[j]'hjl=(j:Int):=by
   have:=upto_get (N:=A.N) (j:=j) (by omega);rw[List.getElem?_eq_getElem hjl]at this;exact Option.some.inj this
  rw[List.drop_eq_getElem_cons hjl,hg];exact .cons hst hss
end
section
variable {M:Type}
theorem rounds_head{Kc:Addr->Option Value}{J:Goroutine->World->Prop}(hJ:JM Try.prog Kc J){A:OA}{B:Bx}{w:World}{thr sch:Value}{L len cap most:Nat}{p:Option Addr}{Ts:Array Value}(hF:Fr A B thr sch Ts)
 (cL:w.cell? ⟨B.bL,0,none⟩=some (.int .i64 L)) (cO:w.cell? ⟨B.bO,0,none⟩=some (.slice p len cap)) (cM:w.cell? ⟨B.bM,0,none⟩=some (.int .i64 most))
 {b:Frame} (hb:b.kind≠.early) {ds:List Deferred} {K:List Item} {cs:List Frame}
 (hno:¬(0<L/\len<most)->∀Ts',Fr A B thr sch Ts'->J (G (b.at ⟨Ts',ds⟩ K) cs) w)
 (hgo:0<L/\len<most->∀Ts',Fr A B thr sch Ts'->J (G (b.at ⟨Ts',ds⟩ (.code (match lpD with|.seq _ c=>c|_=>.skip)::.inLoop lpD::.inBlock 6::K)) cs) w):
 J (G (b.at ⟨Ts,ds⟩ (.code lpD::.inLoop lpD::.inBlock 6::K)) cs) w:=by
 obtain⟨hsz,f2,f3,f4,f5,f6,f7,f8,f9⟩:=hF;have elp:lpD=match headC (tailN 9 (Try.f22.body.getD .skip))with|.block _ (.loop c)=>c|_=>.skip:=rfl
 simp only[headC,tailN,Try.f22,al_od]at elp;have hgo':Hid (0<L/\len<most->∀Ts',Fr A B thr sch Ts'->J (G (b.at ⟨Ts',ds⟩ (.code (match lpD with|.seq _ c=>c|_=>.skip)::.inLoop lpD::.inBlock 6::K)) cs) w):=Lib.hid hgo;have hno':=Lib.hid hno;clear hgo hno;generalize hlp:lpD=lp at elp ⊢ hgo';subst elp;simp only[]at hgo'
 by_cases h0:L=0
 · subst h0;refine hJ.ctl (s:=()) (λw=>stepG_seq) ?_;refine hJ.ctl (s:=()) (λw=>stepG_seq) ?_;refine hJ.ctl (s:=()) (λw=>stepG_region) ?_;refine at_evalG (J:=λ(_:Unit)=>J) (s:=()) hJ hb 0 [some (.int .i64 (0:Nat)),some (.bool false),some (.bool false),none,none,none,none,some (.bool false)] [] rfl (by simp) (by rfl) ?_ ?_
   · intro τ d;simp only[evalsG,dstOf,al_gl,al_g0,al_g1,al_ob];refine⟨?_,?_,?_,?_,?_,?_,?_,?_,trivial⟩<;>(intro o ho;simp only[al_oi]at ho;subst ho)
     all_goals(first|refine⟨by simp[Region.wanted,yielded,al_gs,hsz,f2,f3,f4,f5,f6,f7,f8,f9],?_⟩|(simp[Region.wanted,yielded,al_gs,hsz,f2,f3,f4,f5,f6,f7,f8,f9];done))
     all_goals(try simp only[execOp,Act.eval,al_gd])
     all_goals(try simp only[al_gs,al_gz,hsz,f2,f3,f4,f5,f6,f7,f8,f9,Nat.reduceEqDiff,Nat.reduceLT,↓reduceIte,al_od])
     all_goals(have hlt:∀i,i<129->i<(Ts).size:=λi hi=>(by rw[hsz];exact hi))
     all_goals(clear hsz f2 f3 f4 f5 f6 f7 f8 f9)
     all_goals(try go_simp)
     all_goals(try omega)
   simp only[putG,dstOf,al_gl,al_g0,al_g1,al_ob,al_od,Option.getD_none];obtain⟨T1,hT⟩:∃X,X=((((((((Ts).setIfInBounds 86 (.int .i64 (0:Nat))).setIfInBounds 87 (.bool false)).setIfInBounds 88 (.bool false)).setIfInBounds 89 (undef)).setIfInBounds 90 (undef)).setIfInBounds 91 (undef)).setIfInBounds 92 (undef)).setIfInBounds 93 (.bool false):=⟨_,rfl⟩;rw[←hT];have hT1:T1.size=129:=by rw[hT];simp[hsz]
   have T1_0:=sg8 hT f2;have T1_1:=sg8 hT f3;have T1_5:=sg8 hT f4;have T1_6:=sg8 hT f5;have T1_9:=sg8 hT f6;have T1_10:=sg8 hT f7;have T1_11:=sg8 hT f8;have T1_13:T1[13]?=some (stepV A B):=sg8 hT f9;have T1_86:T1[86]?=some (.int .i64 (0:Nat)):=by rw[hT];simp[al_gs,hsz]
   have T1_87:T1[87]?=some (.bool false):=by rw[hT];simp[al_gs,hsz]
   have T1_88:T1[88]?=some (.bool false):=by rw[hT];simp[al_gs,hsz]
   have T1_89:T1[89]?=some (undef):=by rw[hT];simp[al_gs,hsz]
   have T1_90:T1[90]?=some (undef):=by rw[hT];simp[al_gs,hsz]
   have T1_91:T1[91]?=some (undef):=by rw[hT];simp[al_gs,hsz]
   have T1_92:T1[92]?=some (undef):=by rw[hT];simp[al_gs,hsz]
   have T1_93:T1[93]?=some (.bool false):=by rw[hT];simp[al_gs,hsz]
   clear hT f2 f3 f4 f5 f6 f7 f8 f9 hsz;refine hJ.ctl (s:=()) (λw=>stepG_region_end) ?_;refine hJ.ctl (s:=()) (λw=>stepG_cond (t:=false) (by simp[Act.eval,al_gd,T1_93])) ?_;simp only[Bool.false_eq_true,if_false];refine hJ.ctl (s:=()) (λw=>stepG_exit (k':=K) rfl) ?_;exact hno'.out (by omega) _ ⟨hT1,T1_0,T1_1,T1_5,T1_6,T1_9,T1_10,T1_11,T1_13⟩
 have h0i:(0:Int)<L:=by omega
 by_cases h1:len<most
 · have h1i:(len:Int)<most:=by omega
   refine hJ.ctl (s:=()) (λw=>stepG_seq) ?_;refine hJ.ctl (s:=()) (λw=>stepG_seq) ?_;refine hJ.ctl (s:=()) (λw=>stepG_region) ?_;refine at_evalG (J:=λ(_:Unit)=>J) (s:=()) hJ hb 0 [some (.int .i64 L),some (.bool true),some (.bool true),some (.slice p len cap),some (.int .i64 len),some (.int .i64 most),some (.bool true),some (.bool true)] [] rfl (by simp) (by rfl) ?_ ?_
   · intro τ d;simp only[evalsG,dstOf,al_gl,al_g0,al_g1,al_ob];refine⟨?_,?_,?_,?_,?_,?_,?_,?_,trivial⟩<;>(intro o ho;simp only[al_oi]at ho;subst ho)
     all_goals(first|refine⟨by simp[Region.wanted,yielded,al_gs,hsz,f2,f3,f4,f5,f6,f7,f8,f9],?_⟩|(simp[Region.wanted,yielded,al_gs,hsz,f2,f3,f4,f5,f6,f7,f8,f9];done))
     all_goals(try simp only[execOp,Act.eval,al_gd])
     all_goals(try simp only[al_gs,al_gz,hsz,f2,f3,f4,f5,f6,f7,f8,f9,Nat.reduceEqDiff,Nat.reduceLT,↓reduceIte,al_od])
     all_goals(have hlt:∀i,i<129->i<(Ts).size:=λi hi=>(by rw[hsz];exact hi))
     all_goals(clear hsz f2 f3 f4 f5 f6 f7 f8 f9)
     all_goals(try go_simp)
     all_goals(try omega)
   simp only[putG,dstOf,al_gl,al_g0,al_g1,al_ob,al_od,Option.getD_none];obtain⟨T1,hT⟩:∃X,X=((((((((Ts).setIfInBounds 86 (.int .i64 L)).setIfInBounds 87 (.bool true)).setIfInBounds 88 (.bool true)).setIfInBounds 89 (.slice p len cap)).setIfInBounds 90 (.int .i64 len)).setIfInBounds 91 (.int .i64 most)).setIfInBounds 92 (.bool true)).setIfInBounds 93 (.bool true):=⟨_,rfl⟩;rw[←hT];have hT1:T1.size=129:=by rw[hT];simp[hsz]
   have T1_0:=sg8 hT f2;have T1_1:=sg8 hT f3;have T1_5:=sg8 hT f4;have T1_6:=sg8 hT f5;have T1_9:=sg8 hT f6;have T1_10:=sg8 hT f7;have T1_11:=sg8 hT f8;have T1_13:T1[13]?=some (stepV A B):=sg8 hT f9;have T1_86:T1[86]?=some (.int .i64 L):=by rw[hT];simp[al_gs,hsz]
   have T1_87:T1[87]?=some (.bool true):=by rw[hT];simp[al_gs,hsz]
   have T1_88:T1[88]?=some (.bool true):=by rw[hT];simp[al_gs,hsz]
   have T1_89:T1[89]?=some (.slice p len cap):=by rw[hT];simp[al_gs,hsz]
   have T1_90:T1[90]?=some (.int .i64 len):=by rw[hT];simp[al_gs,hsz]
   have T1_91:T1[91]?=some (.int .i64 most):=by rw[hT];simp[al_gs,hsz]
   have T1_92:T1[92]?=some (.bool true):=by rw[hT];simp[al_gs,hsz]
   have T1_93:T1[93]?=some (.bool true):=by rw[hT];simp[al_gs,hsz]
   clear hT f2 f3 f4 f5 f6 f7 f8 f9 hsz;refine hJ.ctl (s:=()) (λw=>stepG_region_end) ?_;refine hJ.ctl (s:=()) (λw=>stepG_cond (t:=true) (by simp[Act.eval,al_gd,T1_93])) ?_;simp only[if_true];refine hJ.ctl (s:=()) (λw=>stepG_skip) ?_;exact hgo'.out ⟨by omega,by omega⟩ _ ⟨hT1,T1_0,T1_1,T1_5,T1_6,T1_9,T1_10,T1_11,T1_13⟩
 · have h1i:decide ((len:Int)<most)=false:=by simp;omega
   have h1n:decide (len<most)=false:=by simp;omega
   refine hJ.ctl (s:=()) (λw=>stepG_seq) ?_;refine hJ.ctl (s:=()) (λw=>stepG_seq) ?_;refine hJ.ctl (s:=()) (λw=>stepG_region) ?_;refine at_evalG (J:=λ(_:Unit)=>J) (s:=()) hJ hb 0 [some (.int .i64 L),some (.bool true),some (.bool true),some (.slice p len cap),some (.int .i64 len),some (.int .i64 most),some (.bool false),some (.bool false)] [] rfl (by simp) (by rfl) ?_ ?_
   · intro τ d;simp only[evalsG,dstOf,al_gl,al_g0,al_g1,al_ob];refine⟨?_,?_,?_,?_,?_,?_,?_,?_,trivial⟩<;>(intro o ho;simp only[al_oi]at ho;subst ho)
     all_goals(first|refine⟨by simp[Region.wanted,yielded,al_gs,hsz,f2,f3,f4,f5,f6,f7,f8,f9],?_⟩|(simp[Region.wanted,yielded,al_gs,hsz,f2,f3,f4,f5,f6,f7,f8,f9];done))
     all_goals(try simp only[execOp,Act.eval,al_gd])
     all_goals(try simp only[al_gs,al_gz,hsz,f2,f3,f4,f5,f6,f7,f8,f9,Nat.reduceEqDiff,Nat.reduceLT,↓reduceIte,al_od])
     all_goals(have hlt:∀i,i<129->i<(Ts).size:=λi hi=>(by rw[hsz];exact hi))
     all_goals(clear hsz f2 f3 f4 f5 f6 f7 f8 f9)
     all_goals(try go_simp)
     all_goals(try omega)
   simp only[putG,dstOf,al_gl,al_g0,al_g1,al_ob,al_od,Option.getD_none];obtain⟨T1,hT⟩:∃X,X=((((((((Ts).setIfInBounds 86 (.int .i64 L)).setIfInBounds 87 (.bool true)).setIfInBounds 88 (.bool true)).setIfInBounds 89 (.slice p len cap)).setIfInBounds 90 (.int .i64 len)).setIfInBounds 91 (.int .i64 most)).setIfInBounds 92 (.bool false)).setIfInBounds 93 (.bool false):=⟨_,rfl⟩;rw[←hT];have hT1:T1.size=129:=by rw[hT];simp[hsz]
   have T1_0:=sg8 hT f2;have T1_1:=sg8 hT f3;have T1_5:=sg8 hT f4;have T1_6:=sg8 hT f5;have T1_9:=sg8 hT f6;have T1_10:=sg8 hT f7;have T1_11:=sg8 hT f8;have T1_13:T1[13]?=some (stepV A B):=sg8 hT f9;have T1_86:T1[86]?=some (.int .i64 L):=by rw[hT];simp[al_gs,hsz]
   have T1_87:T1[87]?=some (.bool true):=by rw[hT];simp[al_gs,hsz]
   have T1_88:T1[88]?=some (.bool true):=by rw[hT];simp[al_gs,hsz]
   have T1_89:T1[89]?=some (.slice p len cap):=by rw[hT];simp[al_gs,hsz]
   have T1_90:T1[90]?=some (.int .i64 len):=by rw[hT];simp[al_gs,hsz]
   have T1_91:T1[91]?=some (.int .i64 most):=by rw[hT];simp[al_gs,hsz]
   have T1_92:T1[92]?=some (.bool false):=by rw[hT];simp[al_gs,hsz]
   have T1_93:T1[93]?=some (.bool false):=by rw[hT];simp[al_gs,hsz]
   clear hT f2 f3 f4 f5 f6 f7 f8 f9 hsz;refine hJ.ctl (s:=()) (λw=>stepG_region_end) ?_;refine hJ.ctl (s:=()) (λw=>stepG_cond (t:=false) (by simp[Act.eval,al_gd,T1_93])) ?_;simp only[Bool.false_eq_true,if_false];refine hJ.ctl (s:=()) (λw=>stepG_exit (k':=K) rfl) ?_;exact hno'.out (by omega) _ ⟨hT1,T1_0,T1_1,T1_5,T1_6,T1_9,T1_10,T1_11,T1_13⟩
theorem rounds_mid{Fin:Machine->Trace->Prop}(hFin:Back Try.prog Fin){A:OA}{B:Bx}{Kc:Addr->Option Value}{n:Nat}{inb:Nat->Option Seat}{w:World}{thr sch:Value}{Ts:Array Value}(hF:Fr A B thr sch Ts)(cN:w.cell? ⟨B.bN,0,none⟩=some (.int .i64 A.N))
 {b:Frame} (hb:b.kind≠.early) {ds:List Deferred} {K:List Item} {cs:List Frame}
 (hmain:∀Ts',Fr A B thr sch Ts'->Ts'[94]?=some (.int .i64 A.N)->Ts'[95]?=some (.int .i64 (0:Nat))->HoldR Try.prog Fin Kc inb 0 n (G (b.at ⟨Ts',ds⟩ (.code lpE::.inLoop lpE::.inBlock 8::.inBlock 7::K)) cs) w):
 HoldR Try.prog Fin Kc inb 0 n (G (b.at ⟨Ts,ds⟩ (.code (match lpD with|.seq _ c=>c|_=>.skip)::K)) cs) w:=by
 have hJ:=jm_main hFin Kc inb n;obtain⟨hsz,f2,f3,f4,f5,f6,f7,f8,f9⟩:=hF;have hm:=Lib.hid hmain;clear hmain;have elp:(match lpD with|.seq _ c=>c|_=>.skip:Code)=(match (match headC (tailN 9 (Try.f22.body.getD .skip))with|.block _ (.loop c)=>c|_=>.skip:Code)with|.seq _ c=>c|_=>.skip):=rfl;simp only[headC,tailN,Try.f22,al_od]at elp;have ele:lpE=match lpD with|.seq _ (.block _ (.seq _ (.block _ (.loop c))))=>c|_=>.skip:=rfl
 simp only[lpD,headC,tailN,Try.f22,al_od]at ele;generalize hlp:(match lpD with|.seq _ c=>c|_=>.skip:Code)=lp at elp ⊢;generalize hle:lpE=le at ele hm;subst elp ele;refine hJ.ctl (s:=()) (λw=>stepG_block) ?_;refine hJ.ctl (s:=()) (λw=>stepG_seq) ?_;refine hJ.ctl (s:=()) (λw=>stepG_region) ?_;refine at_eval (J:=λ(_:Unit)=>HoldR Try.prog Fin Kc inb 0 n) (s:=()) hJ hb 0 [.int .i64 A.N,.int .i64 (0:Nat)] [] rfl (by simp) (by rfl) ?_ ?_
 · intro τ d;simp only[evalsO,dstOf,al_gl,al_g0,al_g1,al_ob];refine⟨?_,?_,trivial⟩<;>(intro o ho;simp only[al_oi]at ho;subst ho)
   all_goals(try simp only[execOp,Act.eval,al_gd])
   all_goals(try simp only[al_gs,al_gz,hsz,f2,f3,f4,f5,f6,f7,f8,f9,Nat.reduceEqDiff,Nat.reduceLT,↓reduceIte,al_od])
   all_goals(have hlt:∀i,i<129->i<(Ts).size:=λi hi=>(by rw[hsz];exact hi))
   all_goals(clear hsz f2 f3 f4 f5 f6 f7 f8 f9)
   all_goals(try go_simp)
   all_goals(try omega)
 simp only[putv,dstOf,al_gl,al_g0,al_g1,al_ob];obtain⟨T1,hT⟩:∃X,X=((Ts).setIfInBounds 94 (.int .i64 A.N)).setIfInBounds 95 (.int .i64 (0:Nat)):=⟨_,rfl⟩;rw[←hT];have hT1:T1.size=129:=by rw[hT];simp[hsz]
 have T1_0:=sg2 hT f2;have T1_1:=sg2 hT f3;have T1_5:=sg2 hT f4;have T1_6:=sg2 hT f5;have T1_9:=sg2 hT f6;have T1_10:=sg2 hT f7;have T1_11:=sg2 hT f8;have T1_13:T1[13]?=some (stepV A B):=sg2 hT f9;have T1_94:T1[94]?=some (.int .i64 A.N):=by rw[hT];simp[al_gs,hsz]
 have T1_95:T1[95]?=some (.int .i64 (0:Nat)):=by rw[hT];simp[al_gs,hsz]
 clear hT f2 f3 f4 f5 f6 f7 f8 f9 hsz;refine hJ.ctl (s:=()) (λw=>stepG_region_end) ?_;refine hJ.ctl (s:=()) (λw=>stepG_block) ?_;refine hJ.ctl (s:=()) (λw=>stepG_loop) ?_;exact hm.out _ ⟨hT1,T1_0,T1_1,T1_5,T1_6,T1_9,T1_10,T1_11,T1_13⟩ T1_94 T1_95
theorem rounds_loop{Fin:Machine->Trace->Prop}(hFin:Back Try.prog Fin){T:Thr M}{A:OA}{B:Bx}{Kc:Addr->Option Value}{w₀:World}{m₀:M}{most n:Nat}(hn:A.n0+A.N<=n){thr sch:Value}{b:Frame}(hb:b.kind≠.early){ds:List Deferred}{K:List Item}{cs:List Frame}:
 ∀(f:Nat){E:Nat->Option Obj}{k:Nat}{a:OSt M}{v:Value}{inb:Nat->Option Seat}{w:World}{Ts:Array Value},most - a.ord.length<=f->Inv T A B Kc w₀ m₀ most A.N E k a (leftN a.ov A.N) v inb w->most+100<=k+a.ord.length->Fr A B thr sch Ts->
  (∀a' E' k' v' inb' w' Ts',Rounds T A.N most a a'->most+100<=k'+a'.ord.length->Inv T A B Kc w₀ m₀ most A.N E' k' a' (leftN a'.ov A.N) v' inb' w'->Fr A B thr sch Ts'->HoldR Try.prog Fin Kc inb' 0 n (G (b.at ⟨Ts',ds⟩ K) cs) w')->
  HoldR Try.prog Fin Kc inb 0 n (G (b.at ⟨Ts,ds⟩ (.code lpD::.inLoop lpD::.inBlock 6::K)) cs) w:=by
 intro f
 induction f with
 |zero=>
  intro E k a v inb w Ts hf hI hk hF hmain;obtain⟨p,cap,hv,hd⟩:=hI.head;refine rounds_head (jm_main hFin Kc inb n) hF (hI.cell hI.eL).1 hd.cO hd.cM hb (λhno Ts' hF'=>hmain a E k v inb w Ts' (.stop a hno) hk hI hF') (λhgo=>by omega)
 |succ f ih=>
  intro E k a v inb w Ts hf hI hk hF hmain;obtain⟨p,cap,hv,hd⟩:=hI.head;refine rounds_head (jm_main hFin Kc inb n) hF (hI.cell hI.eL).1 hd.cO hd.cM hb (λhno Ts' hF'=>hmain a E k v inb w Ts' (.stop a hno) hk hI hF') (λhgo Ts' hF'=>?_);refine rounds_mid hFin (A:=A) (B:=B) hF' hd.cN hb λTs2 hF2 u94 u95=>?_;refine inner_loop hFin hn hb A.N 0 (by omega) hI hk hF2 u94 u95 λa' E' k' v' inb' w' Ts3 hss hk' hI' hF3=>?_;have hJ':=jm_main hFin Kc inb' n;refine hJ'.ctl (s:=()) (λw=>stepG_inBlock) ?_;refine hJ'.ctl (s:=()) (λw=>stepG_inLoop) ?_;have hss':StepsR T A.N most (upto A.N) a a':=by simpa using hss
  obtain⟨i,hi,ho⟩:=leftN_pos hgo.1;have hp:=hss'.progress hi (mem_upto hi) ho hgo.2;refine ih (by omega) hI' hk' hF3 λa'' E'' k'' v'' inb'' w'' Ts'' hr hk'' hI'' hF''=>?_;exact hmain a'' E'' k'' v'' inb'' w'' Ts'' (.more hgo hss' hr) hk'' hI'' hF''
end
section
variable {M:Type}
noncomputable def lpF:Code:=match headC (tailN 11 (Try.f22.body.getD .skip))with|.seq _ (.block _ (.loop c))=>c|_=>.skip
theorem kill_skip{Fin:Machine->Trace->Prop}(hFin:Back Try.prog Fin){A:OA}{B:Bx}{Kc:Addr->Option Value}{n:Nat}{inb:Nat->Option Seat}{w:World}{thr sch:Value}{stuck:Bool}{j:Nat}{Ts:Array Value}(hF:Fr A B thr sch Ts)(f10:Ts[7]?=some (.bool stuck))(t107:Ts[107]?=some (.slice (some ⟨A.bS,0,none⟩) A.N A.cap))(t108:Ts[108]?=some (.int .i64 A.N))(t109:Ts[109]?=some (.int .i64 j))(hj:j<A.N)(hN:A.N<=64)
 (cs':w.cell? ⟨A.bS,j,none⟩=some (.pointer (some ⟨A.st j,0,none⟩))) (cv:w.cell? ⟨A.st j,2,none⟩=some (.bool true))
 {b:Frame} (hb:b.kind≠.early) {ds:List Deferred} {K:List Item} {cs:List Frame}
 (hmain:∀Ts',Fr A B thr sch Ts'->Ts'[7]?=some (.bool stuck)->Ts'[107]?=some (.slice (some ⟨A.bS,0,none⟩) A.N A.cap)->Ts'[108]?=some (.int .i64 A.N)->Ts'[109]?=some (.int .i64 (j+1:Nat))->HoldR Try.prog Fin Kc inb 0 n (G (b.at ⟨Ts',ds⟩ (.code lpF::.inLoop lpF::.inBlock 10::K)) cs) w):
 HoldR Try.prog Fin Kc inb 0 n (G (b.at ⟨Ts,ds⟩ (.code lpF::.inLoop lpF::.inBlock 10::K)) cs) w:=by
 have hJ:=jm_main hFin Kc inb n;obtain⟨hsz,f2,f3,f4,f5,f6,f7,f8,f9⟩:=hF;have hm:=Lib.hid hmain;clear hmain;have elp:lpF=match headC (tailN 11 (Try.f22.body.getD .skip))with|.seq _ (.block _ (.loop c))=>c|_=>.skip:=rfl
 simp only[headC,tailN,Try.f22,al_od]at elp;generalize hlp:lpF=lp at elp ⊢ hm;subst elp;have hjL:(j:Int)<A.N:=by omega
 have hj0:(0:Int)<=j:=by omega
 refine hJ.ctl (s:=()) (λw=>stepG_seq) ?_;refine hJ.ctl (s:=()) (λw=>stepG_region) ?_;refine at_eval (J:=λ(_:Unit)=>HoldR Try.prog Fin Kc inb 0 n) (s:=()) hJ hb 0 [.bool true] [] rfl (by simp) (by rfl) ?_ ?_
 · intro τ d;simp only[evalsO,dstOf,al_gl,al_g0,al_g1,al_ob];refine⟨?_,trivial⟩<;>(intro o ho;simp only[al_oi]at ho;subst ho)
   all_goals(try simp only[execOp,Act.eval,List.map_toArray,List.map_cons,List.map_nil,al_gd])
   all_goals(try simp only[al_gs,al_gz,hsz,f2,f3,f4,f5,f6,f7,f8,f9,f10,t107,t108,t109,Nat.reduceEqDiff,Nat.reduceLT,↓reduceIte,al_od])
   all_goals(have hlt:∀i,i<129->i<(Ts).size:=λi hi=>(by rw[hsz];exact hi))
   all_goals(clear hsz f2 f3 f4 f5 f6 f7 f8 f9 f10 t107 t108 t109)
   all_goals(try go_simp)
   all_goals(try omega)
 simp only[putv,dstOf,al_gl,al_g0,al_g1,al_ob];obtain⟨T1,hT⟩:∃X,X=(Ts).setIfInBounds 110 (.bool true):=⟨_,rfl⟩;rw[←hT];have hT1:T1.size=129:=by rw[hT];simp[hsz]
 have T1_0:=sg1 hT f2;have T1_1:=sg1 hT f3;have T1_5:=sg1 hT f4;have T1_6:=sg1 hT f5;have T1_9:=sg1 hT f6;have T1_10:=sg1 hT f7;have T1_11:=sg1 hT f8;have T1_13:T1[13]?=some (stepV A B):=sg1 hT f9;have T1_7:=sg1 hT f10;have T1_107:=sg1 hT t107;have T1_108:=sg1 hT t108;have T1_109:=sg1 hT t109;have T1_110:T1[110]?=some (.bool true):=by rw[hT];simp[al_gs,hsz]
 clear hT f2 f3 f4 f5 f6 f7 f8 f9 f10 t107 t108 t109 hsz;refine hJ.ctl (s:=()) (λw=>stepG_region_end) ?_;refine hJ.ctl (s:=()) (λw=>stepG_seq) ?_;refine hJ.ctl (s:=()) (λw=>stepG_cond (t:=true) (by simp[Act.eval,al_gd,T1_110])) ?_;simp only[if_true];refine hJ.ctl (s:=()) (λw=>stepG_skip) ?_;refine hJ.ctl (s:=()) (λw=>stepG_seq) ?_;refine hJ.ctl (s:=()) (λw=>stepG_block) ?_;refine hJ.ctl (s:=()) (λw=>stepG_seq) ?_;refine hJ.ctl (s:=()) (λw=>stepG_region) ?_;refine at_eval (J:=λ(_:Unit)=>HoldR Try.prog Fin Kc inb 0 n) (s:=()) hJ hb 0 [.int .i64 j,.pointer (some ⟨A.bS,j,none⟩),.pointer (some ⟨A.st j,0,none⟩),.int .i64 j,.pointer (some ⟨A.st j,0,none⟩)] [] rfl (by simp) (by rfl) ?_ ?_
 · intro τ d;simp only[evalsO,dstOf,al_gl,al_g0,al_g1,al_ob];refine⟨?_,?_,?_,?_,?_,trivial⟩<;>(intro o ho;simp only[al_oi]at ho;subst ho)
   all_goals(try simp only[execOp,Act.eval,List.map_toArray,List.map_cons,List.map_nil,al_gd])
   all_goals(try simp only[al_gs,al_gz,hT1,T1_0,T1_1,T1_5,T1_6,T1_9,T1_10,T1_11,T1_13,T1_7,T1_107,T1_108,T1_109,T1_110,Nat.reduceEqDiff,Nat.reduceLT,↓reduceIte,al_od])
   all_goals(have hlt:∀i,i<129->i<(T1).size:=λi hi=>(by rw[hT1];exact hi))
   all_goals(clear hT1 T1_0 T1_1 T1_5 T1_6 T1_9 T1_10 T1_11 T1_13 T1_7 T1_107 T1_108 T1_109 T1_110)
   all_goals(try go_simp)
   all_goals(try omega)
 simp only[putv,dstOf,al_gl,al_g0,al_g1,al_ob];obtain⟨T2,hT⟩:∃X,X=(((((T1).setIfInBounds 111 (.int .i64 j)).setIfInBounds 112 (.pointer (some ⟨A.bS,j,none⟩))).setIfInBounds 113 (.pointer (some ⟨A.st j,0,none⟩))).setIfInBounds 17 (.int .i64 j)).setIfInBounds 18 (.pointer (some ⟨A.st j,0,none⟩)):=⟨_,rfl⟩;rw[←hT];have hT2:T2.size=129:=by rw[hT];simp[hT1]
 have T2_0:=sg5 hT T1_0;have T2_1:=sg5 hT T1_1;have T2_5:=sg5 hT T1_5;have T2_6:=sg5 hT T1_6;have T2_9:=sg5 hT T1_9;have T2_10:=sg5 hT T1_10;have T2_11:=sg5 hT T1_11;have T2_13:T2[13]?=some (stepV A B):=sg5 hT T1_13;have T2_7:=sg5 hT T1_7;have T2_107:=sg5 hT T1_107;have T2_108:=sg5 hT T1_108;have T2_109:=sg5 hT T1_109;have T2_110:=sg5 hT T1_110;have T2_111:T2[111]?=some (.int .i64 j):=by rw[hT];simp[al_gs,hT1]
 have T2_112:T2[112]?=some (.pointer (some ⟨A.bS,j,none⟩)):=by rw[hT];simp[al_gs,hT1]
 have T2_113:T2[113]?=some (.pointer (some ⟨A.st j,0,none⟩)):=by rw[hT];simp[al_gs,hT1]
 have T2_17:T2[17]?=some (.int .i64 j):=by rw[hT];simp[al_gs,hT1]
 have T2_18:T2[18]?=some (.pointer (some ⟨A.st j,0,none⟩)):=by rw[hT];simp[al_gs,hT1]
 clear hT T1_0 T1_1 T1_5 T1_6 T1_9 T1_10 T1_11 T1_13 T1_7 T1_107 T1_108 T1_109 T1_110 hT1;refine hJ.ctl (s:=()) (λw=>stepG_region_end) ?_;refine hJ.ctl (s:=()) (λw=>stepG_seq) ?_;refine hJ.ctl (s:=()) (λw=>stepG_region) ?_;refine at_eval (J:=λ(_:Unit)=>HoldR Try.prog Fin Kc inb 0 n) (s:=()) hJ hb 0 [.pointer (some ⟨A.st j,0,none⟩),.pointer (some ⟨A.st j,0,none⟩),.pointer (some ⟨A.st j,2,none⟩),.bool true,.bool false] [] rfl (by simp) (by rfl) ?_ ?_
 · intro τ d;simp only[evalsO,dstOf,al_gl,al_g0,al_g1,al_ob];refine⟨?_,?_,?_,?_,?_,trivial⟩<;>(intro o ho;simp only[al_oi]at ho;subst ho)
   all_goals(try simp only[execOp,Act.eval,List.map_toArray,List.map_cons,List.map_nil,al_gd])
   all_goals(try simp only[al_gs,al_gz,hT2,T2_0,T2_1,T2_5,T2_6,T2_9,T2_10,T2_11,T2_13,T2_7,T2_107,T2_108,T2_109,T2_110,T2_111,T2_112,T2_113,T2_17,T2_18,Nat.reduceEqDiff,Nat.reduceLT,↓reduceIte,al_od])
   all_goals(have hlt:∀i,i<129->i<(T2).size:=λi hi=>(by rw[hT2];exact hi))
   all_goals(clear hT2 T2_0 T2_1 T2_5 T2_6 T2_9 T2_10 T2_11 T2_13 T2_7 T2_107 T2_108 T2_109 T2_110 T2_111 T2_112 T2_113 T2_17 T2_18)
   all_goals(try go_simp)
   all_goals(try omega)
 simp only[putv,dstOf,al_gl,al_g0,al_g1,al_ob];obtain⟨T3,hT⟩:∃X,X=(((((T2).setIfInBounds 114 (.pointer (some ⟨A.st j,0,none⟩))).setIfInBounds 115 (.pointer (some ⟨A.st j,0,none⟩))).setIfInBounds 116 (.pointer (some ⟨A.st j,2,none⟩))).setIfInBounds 117 (.bool true)).setIfInBounds 118 (.bool false):=⟨_,rfl⟩;rw[←hT];have hT3:T3.size=129:=by rw[hT];simp[hT2]
 have T3_0:=sg5 hT T2_0;have T3_1:=sg5 hT T2_1;have T3_5:=sg5 hT T2_5;have T3_6:=sg5 hT T2_6;have T3_9:=sg5 hT T2_9;have T3_10:=sg5 hT T2_10;have T3_11:=sg5 hT T2_11;have T3_13:T3[13]?=some (stepV A B):=sg5 hT T2_13;have T3_7:=sg5 hT T2_7;have T3_107:=sg5 hT T2_107;have T3_108:=sg5 hT T2_108;have T3_109:=sg5 hT T2_109;have T3_110:=sg5 hT T2_110;have T3_111:=sg5 hT T2_111;have T3_112:=sg5 hT T2_112;have T3_113:=sg5 hT T2_113;have T3_17:=sg5 hT T2_17;have T3_18:=sg5 hT T2_18;have T3_114:T3[114]?=some (.pointer (some ⟨A.st j,0,none⟩)):=by rw[hT];simp[al_gs,hT2]
 have T3_115:T3[115]?=some (.pointer (some ⟨A.st j,0,none⟩)):=by rw[hT];simp[al_gs,hT2]
 have T3_116:T3[116]?=some (.pointer (some ⟨A.st j,2,none⟩)):=by rw[hT];simp[al_gs,hT2]
 have T3_117:T3[117]?=some (.bool true):=by rw[hT];simp[al_gs,hT2]
 have T3_118:T3[118]?=some (.bool false):=by rw[hT];simp[al_gs,hT2]
 clear hT T2_0 T2_1 T2_5 T2_6 T2_9 T2_10 T2_11 T2_13 T2_7 T2_107 T2_108 T2_109 T2_110 T2_111 T2_112 T2_113 T2_17 T2_18 hT2;refine hJ.ctl (s:=()) (λw=>stepG_region_end) ?_;refine hJ.ctl (s:=()) (λw=>stepG_cond (t:=false) (by simp[Act.eval,al_gd,T3_118])) ?_;simp only[Bool.false_eq_true,if_false];refine hJ.ctl (s:=()) (λw=>stepG_skip) ?_;refine hJ.ctl (s:=()) (λw=>stepG_inBlock) ?_;refine hJ.ctl (s:=()) (λw=>stepG_region) ?_;have hwr:IntKind.i64.wrap ((j:Int)+1)=((j+1:Nat):Int):=by
  rw[show(j:Int)+1=((j+1:Nat):Int)by omega];exact IntWalk.i64_in _ (by omega)
 refine at_eval (J:=λ(_:Unit)=>HoldR Try.prog Fin Kc inb 0 n) (s:=()) hJ hb 0 [.int .i64 ((j+1:Nat):Int),.int .i64 ((j+1:Nat):Int)] [] rfl (by simp) (by rfl) ?_ ?_
 · intro τ d;simp only[evalsO,dstOf,al_gl,al_g0,al_g1,al_ob];refine⟨?_,?_,trivial⟩<;>(intro o ho;simp only[al_oi]at ho;subst ho)
   all_goals(try simp only[execOp,Act.eval,List.map_toArray,List.map_cons,List.map_nil,al_gd])
   all_goals(try simp only[al_gs,al_gz,hT3,T3_0,T3_1,T3_5,T3_6,T3_9,T3_10,T3_11,T3_13,T3_7,T3_107,T3_108,T3_109,T3_110,T3_111,T3_112,T3_113,T3_17,T3_18,T3_114,T3_115,T3_116,T3_117,T3_118,Nat.reduceEqDiff,Nat.reduceLT,↓reduceIte,al_od])
   all_goals(have hlt:∀i,i<129->i<(T3).size:=λi hi=>(by rw[hT3];exact hi))
   all_goals(clear hT3 T3_0 T3_1 T3_5 T3_6 T3_9 T3_10 T3_11 T3_13 T3_7 T3_107 T3_108 T3_109 T3_110 T3_111 T3_112 T3_113 T3_17 T3_18 T3_114 T3_115 T3_116 T3_117 T3_118)
   all_goals(try go_simp)
   all_goals(try omega)
 simp only[putv,dstOf,al_gl,al_g0,al_g1,al_ob];obtain⟨T4,hT⟩:∃X,X=((T3).setIfInBounds 122 (.int .i64 ((j+1:Nat):Int))).setIfInBounds 109 (.int .i64 ((j+1:Nat):Int)):=⟨_,rfl⟩;rw[←hT];have hT4:T4.size=129:=by rw[hT];simp[hT3]
 have T4_0:=sg2 hT T3_0;have T4_1:=sg2 hT T3_1;have T4_5:=sg2 hT T3_5;have T4_6:=sg2 hT T3_6;have T4_9:=sg2 hT T3_9;have T4_10:=sg2 hT T3_10;have T4_11:=sg2 hT T3_11;have T4_13:T4[13]?=some (stepV A B):=sg2 hT T3_13;have T4_7:=sg2 hT T3_7;have T4_107:=sg2 hT T3_107;have T4_108:=sg2 hT T3_108;have T4_110:=sg2 hT T3_110;have T4_111:=sg2 hT T3_111;have T4_112:=sg2 hT T3_112;have T4_113:=sg2 hT T3_113;have T4_17:=sg2 hT T3_17;have T4_18:=sg2 hT T3_18;have T4_114:=sg2 hT T3_114;have T4_115:=sg2 hT T3_115;have T4_116:=sg2 hT T3_116;have T4_117:=sg2 hT T3_117;have T4_118:=sg2 hT T3_118;have T4_122:T4[122]?=some (.int .i64 ((j+1:Nat):Int)):=by rw[hT];simp[al_gs,hT3]
 have T4_109:T4[109]?=some (.int .i64 ((j+1:Nat):Int)):=by rw[hT];simp[al_gs,hT3]
 clear hT T3_0 T3_1 T3_5 T3_6 T3_9 T3_10 T3_11 T3_13 T3_7 T3_107 T3_108 T3_109 T3_110 T3_111 T3_112 T3_113 T3_17 T3_18 T3_114 T3_115 T3_116 T3_117 T3_118 hT3;refine hJ.ctl (s:=()) (λw=>stepG_region_end) ?_;refine hJ.ctl (s:=()) (λw=>stepG_inLoop) ?_;exact hm.out _ ⟨hT4,T4_0,T4_1,T4_5,T4_6,T4_9,T4_10,T4_11,T4_13⟩ T4_7 T4_107 T4_108 T4_109
theorem kill_one{Fin:Machine->Trace->Prop}(hFin:Back Try.prog Fin){T:Thr M}{A:OA}{B:Bx}{Kc:Addr->Option Value}{w₀:World}{m₀:M}{most n:Nat}{E:Nat->Option Obj}{k:Nat}{a:OSt M}{left:Nat}{v:Value}{inb:Nat->Option Seat}{w:World}(hI:Inv T A B Kc w₀ m₀ most A.N E (k+1) a left v inb w)(hn:A.n0+A.N<=n){thr sch:Value}{stuck:Bool}{j:Nat}{Ts:Array Value}(hF:Fr A B thr sch Ts)(f10:Ts[7]?=some (.bool stuck))(t107:Ts[107]?=some (.slice (some ⟨A.bS,0,none⟩) A.N A.cap))(t108:Ts[108]?=some (.int .i64 A.N))(t109:Ts[109]?=some (.int .i64 j))(hj:j<A.N)(ho:a.ov j=false)
 {b:Frame} (hb:b.kind≠.early) {ds:List Deferred} {K:List Item} {cs:List Frame}
 (hmain:∀m' inb' w',T.Kill j a.m m'->Inv T A B Kc w₀ m₀ most A.N E k ⟨m',λi=>if i=j then true else a.ov i,a.brk,a.ord⟩ left v inb' w'->(∀Ts',Fr A B thr sch Ts'->Ts'[7]?=some (.bool stuck)->Ts'[107]?=some (.slice (some ⟨A.bS,0,none⟩) A.N A.cap)->Ts'[108]?=some (.int .i64 A.N)->Ts'[109]?=some (.int .i64 (j+1:Nat))->HoldR Try.prog Fin Kc inb' 0 n (G (b.at ⟨Ts',ds⟩ (.code lpF::.inLoop lpF::.inBlock 10::K)) cs) w')):
 HoldR Try.prog Fin Kc inb 0 n (G (b.at ⟨Ts,ds⟩ (.code lpF::.inLoop lpF::.inBlock 10::K)) cs) w:=by
 obtain⟨p,cap,hv,hd⟩:=hI.head;have cs':=hd.cs j hj;have cv:=hd.cv j hj;have cX:=hd.cX;rw[ho]at cv;have hN:=hI.N;clear hd;have hJ:=jm_main hFin Kc inb n;obtain⟨hsz,f2,f3,f4,f5,f6,f7,f8,f9⟩:=hF;have hm:=Lib.hid hmain;clear hmain;have elp:lpF=match headC (tailN 11 (Try.f22.body.getD .skip))with|.seq _ (.block _ (.loop c))=>c|_=>.skip:=rfl
 simp only[headC,tailN,Try.f22,al_od]at elp;generalize hlp:lpF=lp at elp ⊢ hm;subst elp;have hjL:(j:Int)<A.N:=by omega
 have hj0:(0:Int)<=j:=by omega
 refine hJ.ctl (s:=()) (λw=>stepG_seq) ?_;refine hJ.ctl (s:=()) (λw=>stepG_region) ?_;refine at_eval (J:=λ(_:Unit)=>HoldR Try.prog Fin Kc inb 0 n) (s:=()) hJ hb 0 [.bool true] [] rfl (by simp) (by rfl) ?_ ?_
 · intro τ d;simp only[evalsO,dstOf,al_gl,al_g0,al_g1,al_ob];refine⟨?_,trivial⟩<;>(intro o ho;simp only[al_oi]at ho;subst ho)
   all_goals(try simp only[execOp,Act.eval,List.map_toArray,List.map_cons,List.map_nil,al_gd])
   all_goals(try simp only[al_gs,al_gz,hsz,f2,f3,f4,f5,f6,f7,f8,f9,f10,t107,t108,t109,Nat.reduceEqDiff,Nat.reduceLT,↓reduceIte,al_od])
   all_goals(have hlt:∀i,i<129->i<(Ts).size:=λi hi=>(by rw[hsz];exact hi))
   all_goals(clear hsz f2 f3 f4 f5 f6 f7 f8 f9 f10 t107 t108 t109)
   all_goals(try go_simp)
   all_goals(try omega)
 simp only[putv,dstOf,al_gl,al_g0,al_g1,al_ob];obtain⟨T1,hT⟩:∃X,X=(Ts).setIfInBounds 110 (.bool true):=⟨_,rfl⟩;rw[←hT];have hT1:T1.size=129:=by rw[hT];simp[hsz]
 have T1_0:=sg1 hT f2;have T1_1:=sg1 hT f3;have T1_5:=sg1 hT f4;have T1_6:=sg1 hT f5;have T1_9:=sg1 hT f6;have T1_10:=sg1 hT f7;have T1_11:=sg1 hT f8;have T1_13:T1[13]?=some (stepV A B):=sg1 hT f9;have T1_7:=sg1 hT f10;have T1_107:=sg1 hT t107;have T1_108:=sg1 hT t108;have T1_109:=sg1 hT t109;have T1_110:T1[110]?=some (.bool true):=by rw[hT];simp[al_gs,hsz]
 clear hT f2 f3 f4 f5 f6 f7 f8 f9 f10 t107 t108 t109 hsz;refine hJ.ctl (s:=()) (λw=>stepG_region_end) ?_;refine hJ.ctl (s:=()) (λw=>stepG_seq) ?_;refine hJ.ctl (s:=()) (λw=>stepG_cond (t:=true) (by simp[Act.eval,al_gd,T1_110])) ?_;simp only[if_true];refine hJ.ctl (s:=()) (λw=>stepG_skip) ?_;refine hJ.ctl (s:=()) (λw=>stepG_seq) ?_;refine hJ.ctl (s:=()) (λw=>stepG_block) ?_;refine hJ.ctl (s:=()) (λw=>stepG_seq) ?_;refine hJ.ctl (s:=()) (λw=>stepG_region) ?_;refine at_eval (J:=λ(_:Unit)=>HoldR Try.prog Fin Kc inb 0 n) (s:=()) hJ hb 0 [.int .i64 j,.pointer (some ⟨A.bS,j,none⟩),.pointer (some ⟨A.st j,0,none⟩),.int .i64 j,.pointer (some ⟨A.st j,0,none⟩)] [] rfl (by simp) (by rfl) ?_ ?_
 · intro τ d;simp only[evalsO,dstOf,al_gl,al_g0,al_g1,al_ob];refine⟨?_,?_,?_,?_,?_,trivial⟩<;>(intro o ho;simp only[al_oi]at ho;subst ho)
   all_goals(try simp only[execOp,Act.eval,List.map_toArray,List.map_cons,List.map_nil,al_gd])
   all_goals(try simp only[al_gs,al_gz,hT1,T1_0,T1_1,T1_5,T1_6,T1_9,T1_10,T1_11,T1_13,T1_7,T1_107,T1_108,T1_109,T1_110,Nat.reduceEqDiff,Nat.reduceLT,↓reduceIte,al_od])
   all_goals(have hlt:∀i,i<129->i<(T1).size:=λi hi=>(by rw[hT1];exact hi))
   all_goals(clear hT1 T1_0 T1_1 T1_5 T1_6 T1_9 T1_10 T1_11 T1_13 T1_7 T1_107 T1_108 T1_109 T1_110)
   all_goals(try go_simp)
   all_goals(try omega)
 simp only[putv,dstOf,al_gl,al_g0,al_g1,al_ob];obtain⟨T2,hT⟩:∃X,X=(((((T1).setIfInBounds 111 (.int .i64 j)).setIfInBounds 112 (.pointer (some ⟨A.bS,j,none⟩))).setIfInBounds 113 (.pointer (some ⟨A.st j,0,none⟩))).setIfInBounds 17 (.int .i64 j)).setIfInBounds 18 (.pointer (some ⟨A.st j,0,none⟩)):=⟨_,rfl⟩;rw[←hT];have hT2:T2.size=129:=by rw[hT];simp[hT1]
 have T2_0:=sg5 hT T1_0;have T2_1:=sg5 hT T1_1;have T2_5:=sg5 hT T1_5;have T2_6:=sg5 hT T1_6;have T2_9:=sg5 hT T1_9;have T2_10:=sg5 hT T1_10;have T2_11:=sg5 hT T1_11;have T2_13:T2[13]?=some (stepV A B):=sg5 hT T1_13;have T2_7:=sg5 hT T1_7;have T2_107:=sg5 hT T1_107;have T2_108:=sg5 hT T1_108;have T2_109:=sg5 hT T1_109;have T2_110:=sg5 hT T1_110;have T2_111:T2[111]?=some (.int .i64 j):=by rw[hT];simp[al_gs,hT1]
 have T2_112:T2[112]?=some (.pointer (some ⟨A.bS,j,none⟩)):=by rw[hT];simp[al_gs,hT1]
 have T2_113:T2[113]?=some (.pointer (some ⟨A.st j,0,none⟩)):=by rw[hT];simp[al_gs,hT1]
 have T2_17:T2[17]?=some (.int .i64 j):=by rw[hT];simp[al_gs,hT1]
 have T2_18:T2[18]?=some (.pointer (some ⟨A.st j,0,none⟩)):=by rw[hT];simp[al_gs,hT1]
 clear hT T1_0 T1_1 T1_5 T1_6 T1_9 T1_10 T1_11 T1_13 T1_7 T1_107 T1_108 T1_109 T1_110 hT1;refine hJ.ctl (s:=()) (λw=>stepG_region_end) ?_;refine hJ.ctl (s:=()) (λw=>stepG_seq) ?_;refine hJ.ctl (s:=()) (λw=>stepG_region) ?_;refine at_eval (J:=λ(_:Unit)=>HoldR Try.prog Fin Kc inb 0 n) (s:=()) hJ hb 0 [.pointer (some ⟨A.st j,0,none⟩),.pointer (some ⟨A.st j,0,none⟩),.pointer (some ⟨A.st j,2,none⟩),.bool false,.bool true] [] rfl (by simp) (by rfl) ?_ ?_
 · intro τ d;simp only[evalsO,dstOf,al_gl,al_g0,al_g1,al_ob];refine⟨?_,?_,?_,?_,?_,trivial⟩<;>(intro o ho;simp only[al_oi]at ho;subst ho)
   all_goals(try simp only[execOp,Act.eval,List.map_toArray,List.map_cons,List.map_nil,al_gd])
   all_goals(try simp only[al_gs,al_gz,hT2,T2_0,T2_1,T2_5,T2_6,T2_9,T2_10,T2_11,T2_13,T2_7,T2_107,T2_108,T2_109,T2_110,T2_111,T2_112,T2_113,T2_17,T2_18,Nat.reduceEqDiff,Nat.reduceLT,↓reduceIte,al_od])
   all_goals(have hlt:∀i,i<129->i<(T2).size:=λi hi=>(by rw[hT2];exact hi))
   all_goals(clear hT2 T2_0 T2_1 T2_5 T2_6 T2_9 T2_10 T2_11 T2_13 T2_7 T2_107 T2_108 T2_109 T2_110 T2_111 T2_112 T2_113 T2_17 T2_18)
   all_goals(try go_simp)
   all_goals(try omega)
 simp only[putv,dstOf,al_gl,al_g0,al_g1,al_ob];obtain⟨T3,hT⟩:∃X,X=(((((T2).setIfInBounds 114 (.pointer (some ⟨A.st j,0,none⟩))).setIfInBounds 115 (.pointer (some ⟨A.st j,0,none⟩))).setIfInBounds 116 (.pointer (some ⟨A.st j,2,none⟩))).setIfInBounds 117 (.bool false)).setIfInBounds 118 (.bool true):=⟨_,rfl⟩;rw[←hT];have hT3:T3.size=129:=by rw[hT];simp[hT2]
 have T3_0:=sg5 hT T2_0;have T3_1:=sg5 hT T2_1;have T3_5:=sg5 hT T2_5;have T3_6:=sg5 hT T2_6;have T3_9:=sg5 hT T2_9;have T3_10:=sg5 hT T2_10;have T3_11:=sg5 hT T2_11;have T3_13:T3[13]?=some (stepV A B):=sg5 hT T2_13;have T3_7:=sg5 hT T2_7;have T3_107:=sg5 hT T2_107;have T3_108:=sg5 hT T2_108;have T3_109:=sg5 hT T2_109;have T3_110:=sg5 hT T2_110;have T3_111:=sg5 hT T2_111;have T3_112:=sg5 hT T2_112;have T3_113:=sg5 hT T2_113;have T3_17:=sg5 hT T2_17;have T3_18:=sg5 hT T2_18;have T3_114:T3[114]?=some (.pointer (some ⟨A.st j,0,none⟩)):=by rw[hT];simp[al_gs,hT2]
 have T3_115:T3[115]?=some (.pointer (some ⟨A.st j,0,none⟩)):=by rw[hT];simp[al_gs,hT2]
 have T3_116:T3[116]?=some (.pointer (some ⟨A.st j,2,none⟩)):=by rw[hT];simp[al_gs,hT2]
 have T3_117:T3[117]?=some (.bool false):=by rw[hT];simp[al_gs,hT2]
 have T3_118:T3[118]?=some (.bool true):=by rw[hT];simp[al_gs,hT2]
 clear hT T2_0 T2_1 T2_5 T2_6 T2_9 T2_10 T2_11 T2_13 T2_7 T2_107 T2_108 T2_109 T2_110 T2_111 T2_112 T2_113 T2_17 T2_18 hT2;refine hJ.ctl (s:=()) (λw=>stepG_region_end) ?_;refine hJ.ctl (s:=()) (λw=>stepG_cond (t:=true) (by simp[Act.eval,al_gd,T3_118])) ?_;simp only[if_true];refine hJ.ctl (s:=()) (λw=>stepG_region) ?_;refine at_eval (J:=λ(_:Unit)=>HoldR Try.prog Fin Kc inb 0 n) (s:=()) hJ hb 0 [.pointer (some ⟨A.bT,0,none⟩),.int .i64 j] [2] rfl (by simp) (by rfl) ?_ ?_
 · intro τ d;simp only[evalsO,dstOf,al_gl,al_g0,al_g1,al_ob];refine⟨?_,?_,trivial⟩<;>(intro o ho;simp only[al_oi]at ho;subst ho)
   all_goals(try simp only[execOp,Act.eval,List.map_toArray,List.map_cons,List.map_nil,al_gd])
   all_goals(try simp only[al_gs,al_gz,hT3,T3_0,T3_1,T3_5,T3_6,T3_9,T3_10,T3_11,T3_13,T3_7,T3_107,T3_108,T3_109,T3_110,T3_111,T3_112,T3_113,T3_17,T3_18,T3_114,T3_115,T3_116,T3_117,T3_118,Nat.reduceEqDiff,Nat.reduceLT,↓reduceIte,al_od])
   all_goals(have hlt:∀i,i<129->i<(T3).size:=λi hi=>(by rw[hT3];exact hi))
   all_goals(clear hT3 T3_0 T3_1 T3_5 T3_6 T3_9 T3_10 T3_11 T3_13 T3_7 T3_107 T3_108 T3_109 T3_110 T3_111 T3_112 T3_113 T3_17 T3_18 T3_114 T3_115 T3_116 T3_117 T3_118)
   all_goals(try go_simp)
   all_goals(try omega)
 simp only[putv,dstOf,al_gl,al_g0,al_g1,al_ob];obtain⟨T4,hT⟩:∃X,X=((T3).setIfInBounds 119 (.pointer (some ⟨A.bT,0,none⟩))).setIfInBounds 120 (.int .i64 j):=⟨_,rfl⟩;rw[←hT];have hT4:T4.size=129:=by rw[hT];simp[hT3]
 have T4_0:=sg2 hT T3_0;have T4_1:=sg2 hT T3_1;have T4_5:=sg2 hT T3_5;have T4_6:=sg2 hT T3_6;have T4_9:=sg2 hT T3_9;have T4_10:=sg2 hT T3_10;have T4_11:=sg2 hT T3_11;have T4_13:T4[13]?=some (stepV A B):=sg2 hT T3_13;have T4_7:=sg2 hT T3_7;have T4_107:=sg2 hT T3_107;have T4_108:=sg2 hT T3_108;have T4_109:=sg2 hT T3_109;have T4_110:=sg2 hT T3_110;have T4_111:=sg2 hT T3_111;have T4_112:=sg2 hT T3_112;have T4_113:=sg2 hT T3_113;have T4_17:=sg2 hT T3_17;have T4_18:=sg2 hT T3_18;have T4_114:=sg2 hT T3_114;have T4_115:=sg2 hT T3_115;have T4_116:=sg2 hT T3_116;have T4_117:=sg2 hT T3_117;have T4_118:=sg2 hT T3_118;have T4_119:T4[119]?=some (.pointer (some ⟨A.bT,0,none⟩)):=by rw[hT];simp[al_gs,hT3]
 have T4_120:T4[120]?=some (.int .i64 j):=by rw[hT];simp[al_gs,hT3]
 clear hT T3_0 T3_1 T3_5 T3_6 T3_9 T3_10 T3_11 T3_13 T3_7 T3_107 T3_108 T3_109 T3_110 T3_111 T3_112 T3_113 T3_17 T3_18 T3_114 T3_115 T3_116 T3_117 T3_118 hT3;refine at_call (J:=λ(_:Unit)=>HoldR Try.prog Fin Kc inb 0 n) (s:=()) hb hJ rfl (by simp[Region.wanted]) (f:=54) (args:=#[.pointer (some ⟨A.bT,0,none⟩),.int .i64 j,.bool false]) (λτ d=>?_) (λτ d=>?_) ?_
 · simp[go_sem,execOp,Act.eval,resolve,Deferred.ofValue,invoke,callFunc,Try.func54,Try.f54,al_gd,T4_119,T4_120]
 · intro e he;simp[go_sem,execOp,Act.eval,resolve,Deferred.ofValue,invoke,callFunc,Try.func54,Try.f54,Sem.runT_eq,al_gd,T4_119,T4_120]at he
 refine let_kill hFin hI.ok hI.kept hI.cf hj ho hn λm' inb' w' hkl hC=>?_;have hI':=hI.turned hC;have hJ3:=jm_main hFin Kc inb' n;rw[Frame.finish_at]
 try walk_nrm
 obtain⟨T5,hT⟩:∃X,X=(T4).setIfInBounds 121 (.tuple #[]):=⟨_,rfl⟩;rw[←hT];have hT5:T5.size=129:=by rw[hT];simp[hT4]
 have T5_0:=sg1 hT T4_0;have T5_1:=sg1 hT T4_1;have T5_5:=sg1 hT T4_5;have T5_6:=sg1 hT T4_6;have T5_9:=sg1 hT T4_9;have T5_10:=sg1 hT T4_10;have T5_11:=sg1 hT T4_11;have T5_13:T5[13]?=some (stepV A B):=sg1 hT T4_13;have T5_7:=sg1 hT T4_7;have T5_107:=sg1 hT T4_107;have T5_108:=sg1 hT T4_108;have T5_109:=sg1 hT T4_109;have T5_110:=sg1 hT T4_110;have T5_111:=sg1 hT T4_111;have T5_112:=sg1 hT T4_112;have T5_113:=sg1 hT T4_113;have T5_17:=sg1 hT T4_17;have T5_18:=sg1 hT T4_18;have T5_114:=sg1 hT T4_114;have T5_115:=sg1 hT T4_115;have T5_116:=sg1 hT T4_116;have T5_117:=sg1 hT T4_117;have T5_118:=sg1 hT T4_118;have T5_119:=sg1 hT T4_119;have T5_120:=sg1 hT T4_120;have T5_121:T5[121]?=some (.tuple #[]):=by rw[hT];simp[al_gs,hT4]
 clear hT T4_0 T4_1 T4_5 T4_6 T4_9 T4_10 T4_11 T4_13 T4_7 T4_107 T4_108 T4_109 T4_110 T4_111 T4_112 T4_113 T4_17 T4_18 T4_114 T4_115 T4_116 T4_117 T4_118 T4_119 T4_120 hT4;refine hJ3.ctl (s:=()) (λw=>stepG_region_end) ?_;refine hJ3.ctl (s:=()) (λw=>stepG_inBlock) ?_;refine hJ3.ctl (s:=()) (λw=>stepG_region) ?_;have hwr:IntKind.i64.wrap ((j:Int)+1)=((j+1:Nat):Int):=by
  rw[show(j:Int)+1=((j+1:Nat):Int)by omega];exact IntWalk.i64_in _ (by omega)
 clear cs' cv cX;refine at_eval (J:=λ(_:Unit)=>HoldR Try.prog Fin Kc inb' 0 n) (s:=()) hJ3 hb 0 [.int .i64 ((j+1:Nat):Int),.int .i64 ((j+1:Nat):Int)] [] rfl (by simp) (by rfl) ?_ ?_
 · intro τ d;simp only[evalsO,dstOf,al_gl,al_g0,al_g1,al_ob];refine⟨?_,?_,trivial⟩<;>(intro o ho;simp only[al_oi]at ho;subst ho)
   all_goals(try simp only[execOp,Act.eval,List.map_toArray,List.map_cons,List.map_nil,al_gd])
   all_goals(try simp only[al_gs,al_gz,hT5,T5_0,T5_1,T5_5,T5_6,T5_9,T5_10,T5_11,T5_13,T5_7,T5_107,T5_108,T5_109,T5_110,T5_111,T5_112,T5_113,T5_17,T5_18,T5_114,T5_115,T5_116,T5_117,T5_118,T5_119,T5_120,T5_121,Nat.reduceEqDiff,Nat.reduceLT,↓reduceIte,al_od])
   all_goals(have hlt:∀i,i<129->i<(T5).size:=λi hi=>(by rw[hT5];exact hi))
   all_goals(clear hT5 T5_0 T5_1 T5_5 T5_6 T5_9 T5_10 T5_11 T5_13 T5_7 T5_107 T5_108 T5_109 T5_110 T5_111 T5_112 T5_113 T5_17 T5_18 T5_114 T5_115 T5_116 T5_117 T5_118 T5_119 T5_120 T5_121)
   all_goals(try go_simp)
   all_goals(try omega)
 simp only[putv,dstOf,al_gl,al_g0,al_g1,al_ob];obtain⟨T6,hT⟩:∃X,X=((T5).setIfInBounds 122 (.int .i64 ((j+1:Nat):Int))).setIfInBounds 109 (.int .i64 ((j+1:Nat):Int)):=⟨_,rfl⟩;rw[←hT];have hT6:T6.size=129:=by rw[hT];simp[hT5]
 have T6_0:=sg2 hT T5_0;have T6_1:=sg2 hT T5_1;have T6_5:=sg2 hT T5_5;have T6_6:=sg2 hT T5_6;have T6_9:=sg2 hT T5_9;have T6_10:=sg2 hT T5_10;have T6_11:=sg2 hT T5_11;have T6_13:T6[13]?=some (stepV A B):=sg2 hT T5_13;have T6_7:=sg2 hT T5_7;have T6_107:=sg2 hT T5_107;have T6_108:=sg2 hT T5_108;have T6_110:=sg2 hT T5_110;have T6_111:=sg2 hT T5_111;have T6_112:=sg2 hT T5_112;have T6_113:=sg2 hT T5_113;have T6_17:=sg2 hT T5_17;have T6_18:=sg2 hT T5_18;have T6_114:=sg2 hT T5_114;have T6_115:=sg2 hT T5_115;have T6_116:=sg2 hT T5_116;have T6_117:=sg2 hT T5_117;have T6_118:=sg2 hT T5_118;have T6_119:=sg2 hT T5_119;have T6_120:=sg2 hT T5_120;have T6_121:=sg2 hT T5_121;have T6_122:T6[122]?=some (.int .i64 ((j+1:Nat):Int)):=by rw[hT];simp[al_gs,hT5]
 have T6_109:T6[109]?=some (.int .i64 ((j+1:Nat):Int)):=by rw[hT];simp[al_gs,hT5]
 clear hT T5_0 T5_1 T5_5 T5_6 T5_9 T5_10 T5_11 T5_13 T5_7 T5_107 T5_108 T5_109 T5_110 T5_111 T5_112 T5_113 T5_17 T5_18 T5_114 T5_115 T5_116 T5_117 T5_118 T5_119 T5_120 T5_121 hT5;refine hJ3.ctl (s:=()) (λw=>stepG_region_end) ?_;refine hJ3.ctl (s:=()) (λw=>stepG_inLoop) ?_;exact hm.out _ _ _ hkl hI' _ ⟨hT6,T6_0,T6_1,T6_5,T6_6,T6_9,T6_10,T6_11,T6_13⟩ T6_7 T6_107 T6_108 T6_109
theorem kill_exit{Fin:Machine->Trace->Prop}(hFin:Back Try.prog Fin){A:OA}{B:Bx}{Kc:Addr->Option Value}{n:Nat}{inb:Nat->Option Seat}{w:World}{thr sch:Value}{stuck:Bool}{Ts:Array Value}(hF:Fr A B thr sch Ts)(f10:Ts[7]?=some (.bool stuck))(t107:Ts[107]?=some (.slice A.sp A.N A.cap))(t108:Ts[108]?=some (.int .i64 A.N))(t109:Ts[109]?=some (.int .i64 A.N))
 {b:Frame} (hb:b.kind≠.early) {ds:List Deferred} {K:List Item} {cs:List Frame}
 (hmain:∀Ts',Fr A B thr sch Ts'->Ts'[7]?=some (.bool stuck)->HoldR Try.prog Fin Kc inb 0 n (G (b.at ⟨Ts',ds⟩ K) cs) w):
 HoldR Try.prog Fin Kc inb 0 n (G (b.at ⟨Ts,ds⟩ (.code lpF::.inLoop lpF::.inBlock 10::K)) cs) w:=by
 have hJ:=jm_main hFin Kc inb n;obtain⟨hsz,f2,f3,f4,f5,f6,f7,f8,f9⟩:=hF;have hm:=Lib.hid hmain;clear hmain;have elp:lpF=match headC (tailN 11 (Try.f22.body.getD .skip))with|.seq _ (.block _ (.loop c))=>c|_=>.skip:=rfl
 simp only[headC,tailN,Try.f22,al_od]at elp;generalize hlp:lpF=lp at elp ⊢ hm;subst elp;refine hJ.ctl (s:=()) (λw=>stepG_seq) ?_;refine hJ.ctl (s:=()) (λw=>stepG_region) ?_;refine at_eval (J:=λ(_:Unit)=>HoldR Try.prog Fin Kc inb 0 n) (s:=()) hJ hb 0 [.bool false] [] rfl (by simp) (by rfl) ?_ ?_
 · intro τ d;simp only[evalsO,dstOf,al_gl,al_g0,al_g1,al_ob];refine⟨?_,trivial⟩<;>(intro o ho;simp only[al_oi]at ho;subst ho)
   all_goals(try simp only[execOp,Act.eval,List.map_toArray,List.map_cons,List.map_nil,al_gd])
   all_goals(try simp only[al_gs,al_gz,hsz,f2,f3,f4,f5,f6,f7,f8,f9,f10,t107,t108,t109,Nat.reduceEqDiff,Nat.reduceLT,↓reduceIte,al_od])
   all_goals(have hlt:∀i,i<129->i<(Ts).size:=λi hi=>(by rw[hsz];exact hi))
   all_goals(clear hsz f2 f3 f4 f5 f6 f7 f8 f9 f10 t107 t108 t109)
   all_goals(try go_simp)
   all_goals(try omega)
 simp only[putv,dstOf,al_gl,al_g0,al_g1,al_ob];obtain⟨T1,hT⟩:∃X,X=(Ts).setIfInBounds 110 (.bool false):=⟨_,rfl⟩;rw[←hT];have hT1:T1.size=129:=by rw[hT];simp[hsz]
 have T1_0:=sg1 hT f2;have T1_1:=sg1 hT f3;have T1_5:=sg1 hT f4;have T1_6:=sg1 hT f5;have T1_9:=sg1 hT f6;have T1_10:=sg1 hT f7;have T1_11:=sg1 hT f8;have T1_13:T1[13]?=some (stepV A B):=sg1 hT f9;have T1_7:=sg1 hT f10;have T1_107:=sg1 hT t107;have T1_108:=sg1 hT t108;have T1_109:=sg1 hT t109;have T1_110:T1[110]?=some (.bool false):=by rw[hT];simp[al_gs,hsz]
 clear hT f2 f3 f4 f5 f6 f7 f8 f9 f10 t107 t108 t109 hsz;refine hJ.ctl (s:=()) (λw=>stepG_region_end) ?_;refine hJ.ctl (s:=()) (λw=>stepG_seq) ?_;refine hJ.ctl (s:=()) (λw=>stepG_cond (t:=false) (by simp[Act.eval,al_gd,T1_110])) ?_;simp only[Bool.false_eq_true,if_false];refine hJ.ctl (s:=()) (λw=>stepG_exit (k':=K) rfl) ?_;exact hm.out _ ⟨hT1,T1_0,T1_1,T1_5,T1_6,T1_9,T1_10,T1_11,T1_13⟩ T1_7
theorem kill_loop{Fin:Machine->Trace->Prop}(hFin:Back Try.prog Fin){T:Thr M}{A:OA}{B:Bx}{Kc:Addr->Option Value}{w₀:World}{m₀:M}{most n:Nat}(hn:A.n0+A.N<=n){thr sch:Value}{stuck:Bool}{b:Frame}(hb:b.kind≠.early){ds:List Deferred}{K:List Item}{cs:List Frame}{b₀:OSt M}{left:Nat}{v:Value}:
 ∀(r j:Nat),j+r=A.N->∀{E:Nat->Option Obj}{k:Nat}{a:OSt M}{inb:Nat->Option Seat}{w:World}{Ts:Array Value},Inv T A B Kc w₀ m₀ most A.N E k a left v inb w->100<=k+j->Go.Car.Ends T b₀.ov b₀.m j a.m->a.brk=b₀.brk->a.ord=b₀.ord->(∀i,i<j->a.ov i=true)->(∀i,j<=i->a.ov i=b₀.ov i)->
  Fr A B thr sch Ts->Ts[7]?=some (.bool stuck)->Ts[107]?=some (.slice A.sp A.N A.cap)->Ts[108]?=some (.int .i64 A.N)->Ts[109]?=some (.int .i64 j)->
  (∀a' E' k' inb' w' Ts',Inv T A B Kc w₀ m₀ most A.N E' k' a' left v inb' w'->Go.Car.Ends T b₀.ov b₀.m A.N a'.m->a'.brk=b₀.brk->a'.ord=b₀.ord->(∀i,i<A.N->a'.ov i=true)->Fr A B thr sch Ts'->Ts'[7]?=some (.bool stuck)->HoldR Try.prog Fin Kc inb' 0 n (G (b.at ⟨Ts',ds⟩ K) cs) w')->
  HoldR Try.prog Fin Kc inb 0 n (G (b.at ⟨Ts,ds⟩ (.code lpF::.inLoop lpF::.inBlock 10::K)) cs) w:=by
 intro r
 induction r with
 |zero=>
  intro j hj E k a inb w Ts hI hk hE hbr hor hov hov' hF f10 t107 t108 t109 hmain;have e:j=A.N:=by omega
  subst e;exact kill_exit hFin hF f10 t107 t108 t109 hb λTs' hF' g10=>hmain a E k inb w Ts' hI hE hbr hor hov hF' g10
 |succ r ih=>
  intro j hj E k a inb w Ts hI hk hE hbr hor hov hov' hF f10 t107 t108 t109 hmain;have hN:=hI.N;have hsp:=hI.ok.sp (by omega);rw[hsp]at t107;cases ho:a.ov j with
  |true=>
   obtain⟨p,cap,hv,hd⟩:=hI.head;have cv:=hd.cv j (by omega);rw[ho]at cv;refine kill_skip hFin hF f10 t107 t108 t109 (by omega) hN (hd.cs j (by omega)) cv hb λTs' hF' g10 u107 u108 u109=>?_;rw[←hsp]at u107;refine ih (j+1) (by omega) hI (by omega) (.over hE (by rw[←hov' j (Nat.le_refl _)];exact ho)) hbr hor (λi hi=>?_) (λi hi=>hov' i (by omega)) hF' g10 u107 u108 u109 hmain
   by_cases e:i=j
   · rw[e];exact ho
   · exact hov i (by omega)
  |false=>
   obtain⟨k,rfl⟩:∃k',k=k'+1:=⟨k - 1,by omega⟩;refine kill_one hFin hI hn hF f10 t107 t108 t109 (by omega) ho hb λm' inb' w' hkl hI' Ts' hF' g10 u107 u108 u109=>?_;rw[←hsp]at u107;refine ih (j+1) (by omega) hI' (by omega) (.kill hE (by rw[←hov' j (Nat.le_refl _)];exact ho) hkl) hbr hor (λi hi=>?_) (λi hi=>?_) hF' g10 u107 u108 u109 hmain
   · show(if i=j then true else a.ov i)=true;split
     · rfl
     · exact hov i (by omega)
   · show(if i=j then true else a.ov i)=b₀.ov i;rw[if_neg (by omega)];exact hov' i (by omega)
end
end Go.Proofs
