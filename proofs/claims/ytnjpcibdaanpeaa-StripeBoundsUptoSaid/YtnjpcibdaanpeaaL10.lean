/- YtnjpcibdaanpeaaSBound10: part 10 of the proof (the texts behind it, in order). -/
import Derived.Test.YtnjpcibdaanpeaaL09
set_option linter.unusedSimpArgs false
set_option linter.unusedVariables false
set_option linter.unusedSectionVars false
set_option linter.unnecessarySimpa false
set_option maxHeartbeats 1000000
set_option maxRecDepth 100000
namespace Go.Proofs
open Go Go.Conc Go.RowKit Go.Car
open Go.ConcN (upd upd_ne upd_same)
section
variable {M:Type}
theorem go_all{Fin:Machine->Trace->Prop}(hFin:Back Try.prog Fin){T:Thr M}{B:Bx}{Kc:Addr->Option Value}{w₀:World}{m₀:M}{most:Nat}{p:Option Addr}{L C:Nat}{sch:Value}{tv:Nat->Value}{b:Frame}(hb:b.kind≠.early){ds:List Deferred}{K:List Item}{cs:List Frame}{v:Value}{N n0:Nat}(hNL:N<=L)
 (hp:0<N->∃tb,p=some ⟨tb,0,none⟩/\tb<B.B0/\¬T.foot m₀ tb/\∀i,i<N->w₀.cell? ⟨tb,i,none⟩=some (tv i))
 (hr:∀i,i<N->Runs Try.prog T 72 108 NEnd m₀ i (tv i))
 {A:OA} {E:Nat->Option Obj} {k:Nat} {inb:Nat->Option Seat} {w:World} {Ts:Array Value} (hAN:A.N=N) (hA0:A.n0=n0) (hAt:A.tv=tv) (hI:Inv T A B Kc w₀ m₀ most 0 E k ⟨m₀,λ_=>false,λ_=>false,[]⟩ 0 v inb w) (hF:Fr0 A B (.slice p L C) sch Ts) (t46:Ts[46]?=some (.int .i64 N)) (t47:Ts[47]?=some (.int .i64 (0:Nat)))
 (hmain:∀A' a' E' inb' w' Ts',A'.N=N->A'.n0=n0->a'.ord=[]->Begun T m₀ N a'.m a'.ov a'.brk->Inv T A' B Kc w₀ m₀ most N E' k a' (leftN a'.ov N) v inb' w'->Fr0 A' B (.slice p L C) sch Ts'->HoldR Try.prog Fin Kc inb' 0 (n0+N) (G (b.at ⟨Ts',ds⟩ K) cs) w'):
 HoldR Try.prog Fin Kc inb 0 n0 (G (b.at ⟨Ts,ds⟩ (.code lpB::.inLoop lpB::.inBlock 2::K)) cs) w:=by
 by_cases h0:0<N
 · obtain⟨tb,rfl,h1,h2,h3⟩:=hp h0;exact go_loop hFin h1 h2 hb hNL hr h3 N 0 (by omega) hAN hA0 hAt rfl hI rfl (λ_ _=>rfl) .zero hF t46 t47 hmain
 · have e:N=0:=by omega
   subst e;refine go_exit hFin hF (by rw[hAN];exact t46) (by rw[hAN];exact t47) hb λTs' hF'=>?_;exact hmain A _ E inb w Ts' hAN hA0 rfl .zero hI hF'
structure SchAt(T:Thr M)(m₀:M)(w:World)(sch:Value)(l:List Int):Prop where
 len:l.length<=4611686018427387904
 at':∃p C,sch=.slice p l.length C/\(l≠[]->∃sb off,p=some ⟨sb,off,none⟩/\∀j x,l[j]?=some x->(w.cell? ⟨sb,off+j,none⟩=some (.int .i64 x)/\sb<w.heap.size/\¬T.foot m₀ sb)\/∀m w,T.Rep m w->w.cell? ⟨sb,off+j,none⟩=some (.int .i64 x))
structure Over1(T:Thr M)(N most:Nat)(sched:List Int)(m₀:M)(w:World)(b:OSt M)(m':M)(v:Value)(g:Nat)(w':World):Prop where
 ran:Ran T N sched most m₀ b m'
 rep:T.Rep m' w'
 size:w.heap.size<=w'.heap.size
 old:∀x,x<w.heap.size->¬T.foot m₀ x->w'.heap[x]?=w.heap[x]?
 foot:∀x,T.foot m' x->T.foot m₀ x\/w.heap.size<=x
 row:w'.ownsRow w.heap.size 3 1 v b.ord.length (b.ord.map λ(i:Nat)=>.int .i64 i)
 rowf:∀x,v.ownBlock=some x->¬T.foot m' x/\x≠g
 brk:∃br,w'.heap[g]?=some (.cells br 4)/\∀i,i<N->br[i]?=some (.bool (b.brk i))
 brkl:w.heap.size<=g
 brkf:¬T.foot m' g
 len:b.ord.length<=most
theorem over_rest{Fin:Machine->Trace->Prop}(hFin:Back Try.prog Fin){T:Thr M}{A:OA}{B:Bx}{Kc:Addr->Option Value}{w₀:World}{m₀:M}{most:Nat}{thr sch:Value}{sched:List Int}(hB:B.B0=w₀.heap.size)(hsch:SchAt T m₀ w₀ sch sched)
 {E:Nat->Option Obj} {a:OSt M} {inb:Nat->Option Seat} {w:World} {Ts:Array Value} {v:Value} (hord:a.ord=[]) (hbg:Begun T m₀ A.N a.m a.ov a.brk) (hI:Inv T A B Kc w₀ m₀ most A.N E (most+100) a (leftN a.ov A.N) v inb w) (hF:Fr0 A B thr sch Ts) {c:Frame} {cs:List Frame}
 (hmain:∀b m' v' g w',Over1 T A.N most sched m₀ w₀ b m' v' g w'->J0 Try.prog Fin (A.n0+A.N) (G (c.finish (.tuple #[v',.bool (decide (0<leftN b.ov A.N)),.slice (some ⟨g,0,none⟩) A.N A.capB])) cs) w'):
 HoldR Try.prog Fin Kc inb 0 (A.n0+A.N) (G ((bN 38).at ⟨Ts,[]⟩ [.code (overT 7)]) (c::cs)) w:=by
 have hb:(bN 38).kind≠.early:=by decide
 obtain⟨p,C,rfl,hs⟩:=hsch.at';refine glue17 hFin hF hb λT1 hF1 t76 t77 t78=>?_;have after:∀a' E' k' v' inb' w' Ts',StepsR T A.N most sched a a'->most+100<=k'+a'.ord.length->Inv T A B Kc w₀ m₀ most A.N E' k' a' (leftN a'.ov A.N) v' inb' w'->Fr A B thr (.slice p sched.length C) Ts'->HoldR Try.prog Fin Kc inb' 0 (A.n0+A.N) (G ((bN 38).at ⟨Ts',[]⟩ [.code (overT 9)]) (c::cs)) w':=by
  intro a1 E1 k1 v1 inb1 w1 T2 hst hk1 hI1 hF2;refine glue19 hFin (A:=A) (B:=B) ?_;refine rounds_loop hFin (Nat.le_refl _) hb most (by omega) hI1 hk1 hF2 λa2 E2 k2 v2 inb2 w2 T3 hr hk2 hI2 hF3=>?_;refine glue29 hFin hF3 (hI2.cell hI2.eL).1 ((zq0 hI2.cf.ow.box).trans rfl) ((zq0 hI2.cf.ow.ts).trans rfl) hb λT4 hF4 g7 g107 g108 g109=>?_;have hk3:100<=k2+0:=by have:=hI2.len;omega
  refine kill_loop hFin (Nat.le_refl _) hb (b₀:=a2) A.N 0 (by omega) hI2 hk3 .zero rfl rfl (λi hi=>by omega) (λi _=>rfl) hF4 g7 g107 g108 g109 λa3 E3 k3 inb3 w3 T5 hI3 hE hbr hor hov hF5 h7=>?_;have hgone:∀j,j≠0->inb3 j=none:=λj hj=>hI3.cf.gone j hj λi hi ho=>by rw[hov i hi]at ho;cases ho
  obtain⟨pv,cap,hv⟩:=hI3.slice;refine main_of_j0 (s:=⟨A.n0+A.N,inb3⟩) hgone ?_;have cO:=(hI3.cell hI3.eO).1;rw[hv]at cO;refine over_end hFin hF5 h7 cO (hI3.cell hI3.eO).2.1 ((zq0 hI3.cf.ow.box).trans rfl) ((zq0 hI3.cf.ow.ts).trans rfl) ?_;rw[←hv];refine hmain a2 a3.m v2 A.bB w3 ⟨⟨⟨a.m,a.ov,a.brk,a1,hbg,?_,hr⟩,hE⟩,hI3.cf.rep,?_,λx hx hf=>?_,λx hx=>?_,?_,λx hx=>⟨?_,?_⟩,?_,?_,hI3.cf.free _ (.inr (.inr (.inl rfl))),hI2.len⟩
  · have:(⟨a.m,a.ov,a.brk,[]⟩:OSt M)=a:=by rw[←hord]
    rw[this];exact hst
  · rw[←hB];exact hI3.base
  · obtain⟨o,ho⟩:∃o,w₀.heap[x]?=some o:=⟨_,Array.getElem?_eq_getElem hx⟩;rw[ho];exact hI3.heap_old (by rw[hB];exact hx) hf ho
  · by_cases hlt:x<w₀.heap.size
    · refine .inl (Classical.byContradiction λhf=>?_);have h1:=hI3.old x (by rw[hB];exact hlt) hf;have h2:w₀.heap[x]?=some w₀.heap[x]:=Array.getElem?_eq_getElem hlt;exact(hI3.cf.extfree x _ (h1.trans h2)).2.1 hx
    · exact .inr (by omega)
  · have:=hI3.row;rw[hor,hB]at this;exact this
  · obtain⟨h1,h2⟩:=hI3.erow x hx;rcases hI3.row.2 with⟨hv',_⟩|⟨g2,cap2,cur2,hv',_,hh,_⟩
    · rw[hv']at hx;cases hx
    · rw[hv']at hx;simp only[Value.ownBlock,al_oi]at hx;subst hx;exact(hI3.cf.extfree _ _ (h1.trans hh)).2.1
  · obtain⟨h1,h2⟩:=hI3.erow x hx;rcases hI3.row.2 with⟨hv',_⟩|⟨g2,cap2,cur2,hv',_,hh,_⟩
    · rw[hv']at hx;cases hx
    · rw[hv']at hx;simp only[Value.ownBlock,al_oi]at hx;subst hx;exact λe=>(hI3.cf.extfree _ _ (h1.trans hh)).1 (.inr (.inr (.inl e)))
  · obtain⟨br,h1,h2⟩:=hI3.cf.ow.brs;exact⟨br,h1,λi hi=>by rw[h2 i hi,hbr]⟩
  · rw[←hB];exact hI3.own _ (.inr (.inr (.inl rfl)))
 by_cases h0:sched=[]
 · subst h0;exact sched_exit hFin hF1 t77 t78 hb λT2 hF2=>after a E _ v inb w T2 (.nil a) (by omega) hI hF2
 · obtain⟨sb,off,rfl,h3⟩:=hs h0;refine sched_loop hFin (Nat.le_refl _) hsch.len (by rw[hB];exact h3) hb sched.length 0 (by omega) hI (by omega) hF1 t76 t77 t78 λa' E' k' v' inb' w' Ts' hst=>?_;rw[List.drop_zero]at hst;exact after a' E' k' v' inb' w' Ts' hst
theorem over_calls{Fin:Machine->Trace->Prop}(hFin:Back Try.prog Fin){T:Thr M}{m₀:M}{w:World}{n L C N most:Nat}{p:Option Addr}{tv:Nat->Value}{sched:List Int}{sch:Value}{mo:Int}{c:Frame}{cs:List Frame}(hn:0<n)(hN:N=min L 64)(hmost:most=min mo.toNat 1048576)
 (hrep:T.Rep m₀ w) (hlf:most+100<=T.left m₀) (hp:0<N->∃tb,p=some ⟨tb,0,none⟩/\¬T.foot m₀ tb/\∀i,i<N->w.cell? ⟨tb,i,none⟩=some (tv i)) (hr:∀i,i<N->Runs Try.prog T 72 108 NEnd m₀ i (tv i)) (hsch:SchAt T m₀ w sch sched)
 (hmain:∀b m' v' g cap w',Over1 T N most sched m₀ w b m' v' g w'->J0 Try.prog Fin (n+N) (G (c.finish (.tuple #[v',.bool (decide (0<leftN b.ov N)),.slice (some ⟨g,0,none⟩) N cap])) cs) w'):
 J0 Try.prog Fin n (G (Frame.enter Try.prog 38 #[.slice p L C,sch,.int .i64 mo] .normal) (c::cs)) w:=by
 have hJ:=j0_JS hFin;refine over_first hFin λT1 w1 z1 f0 f1 f5 f6 f7 f9 s1 o1 hM hO hBN=>?_;rw[show heldI mo 1048576=(most:Int)by rw[hmost];exact heldI_nat mo 1048576]at hM;have hNi:(if(64:Int)<(L:Int)then(64:Int)else(L:Int))=((N:Nat):Int):=by
  rw[hN];split<;>omega
 rw[hNi]at hBN;have hN64:N<=64:=by omega
 rw[over3];refine hJ.ctl (s:=n) (λw=>stepG_seq) ?_;refine over_third hFin hN64 z1 f9 ((zq0 hBN).trans rfl) λT2 w2 cc g q x z2 k2 s2 o2 lc lg lq lx fc fg fq fx g10=>?_;obtain⟨br,fg1,fg2⟩:=fg;have hne:∀(a b:Nat)(y z:Obj),w2.heap[a]?=some y->w2.heap[b]?=some z->y≠z->a≠b:=λa b y z h1 h2 hyz e=>by subst e;rw[h1]at h2;exact hyz (Option.some.inj h2)
 have hxq:x≠q:=hne x q _ _ fx fq (by intro e;cases e);have e9:w2.heap[w.heap.size+2]?=some (.cells #[.int .i64 N] 3):=(o2 _ (by omega)).trans hBN;have kk:∀t,t<24->t≠10->T2[t]?=T1[t]?:=λt h1 h2=>k2 t (by omega) (by omega) (by omega) (by omega) (by omega) h2;refine over_fourth hFin (N:=N) (bX:=x) (bT:=q) (bB:=g) (back:=cc) (capB:=N) hN64 (zq4 fq) (zq4 fx) hxq fx z2 ((kk 9 (by omega) (by omega)).trans f9) ((zq0 e9).trans rfl) g10
  ⟨fq,⟨rfl,.inl ⟨rfl,rfl⟩⟩,λ_ _ _=>rfl,Nat.le_refl _,λi hi=>by omega,λi hi=>by omega,λi hi=>by omega,λi j h1 h2=>by omega⟩ λT3 w6 st pass sv w5 hSt z3 k3 h11 s6 o6 hL=>?_
 obtain⟨A,E,aN,aA0,aT,aX,hKK,hI⟩:=inv_start (w:=w) (w3:=w2) (w1:=w5) (w6:=w6) (n:=n) (most:=most) tv hn hN64 (by omega) hrep hlf (by omega) (λb hb=>(o2 b (by omega)).trans (o1 b hb)) ((o2 _ (by omega)).trans hM) ((o2 _ (by omega)).trans hO) e9 (by omega) (by omega) (by omega) (by omega) fc ⟨br,fg1,fg2⟩ fx fq hSt s6 o6 hL;refine j0_of_main hKK ?_;have kq:∀t,t<24->t≠10->t≠11->T3[t]?=T1[t]?:=λt h1 h2 h3=>(k3 t (by omega) h3).trans (kk t h1 h2);have hF:Fr0 A ⟨w.heap.size+2,w.heap.size,w.heap.size+1,w5.heap.size,w.heap.size⟩ (.slice p L C) sch T3:=
  ⟨z3,(kq 0 (by omega) (by omega) (by omega)).trans f0,(kq 1 (by omega) (by omega) (by omega)).trans f1,(kq 5 (by omega) (by omega) (by omega)).trans f5,(kq 6 (by omega) (by omega) (by omega)).trans f6,(kq 9 (by omega) (by omega) (by omega)).trans f9,by rw[aX];exact(k3 10 (by omega) (by omega)).trans g10,h11⟩
 have hb:(bN 38).kind≠.early:=by decide
 show HoldR Try.prog Fin (keepOf A) (λ_=>none) 0 n _ w6;refine glue9 hFin hF (hI.cell hI.eN).1 hb λT4 hF4 t46 t47=>?_;rw[aN]at t46;refine go_all hFin hb (by omega) (λh0=>?_) hr aN aA0 aT hI hF4 t46 t47 λA' a' E' inb' w' T5 bN' bn' bo hbg hI' hF5=>?_
 · obtain⟨tb,h1,h2,h3⟩:=hp h0;exact⟨tb,h1,Go.Car.cell_lt (h3 0 h0),h2,h3⟩
 · subst bN';subst bn';exact over_rest hFin (B:=⟨w.heap.size+2,w.heap.size,w.heap.size+1,w5.heap.size,w.heap.size⟩) rfl hsch bo hbg hI' hF5 λb m' v' g' w7 ho=>hmain b m' v' g' A'.capB w7 ho
end
end Go.Proofs
set_option maxHeartbeats 1000000
namespace Go.Car
open Go Go.Conc Go.RowKit
section
variable {P:Program} {main:Bool} {Kc:Addr->Option Value} {γ:Type} {J:γ->Goroutine->World->Prop} {A:FuncId->Bool}
theorem at_lone(hJ:JS P main Kc J)(hcalm:CalmJ P main J)(hP:Plain P A){c:Code}(hc:okCode P A c=true)(C:Array Value->World->Prop)
 (hC:∀t w τ d,C t w->C t (re w τ d)) {b:Frame} {k:List Item} {cs:List Frame} (hb:b.kind≠.early) {s:γ} {a:Act} {w:World}
 (h:∀τ d,Code.wp P c (ends (λa w=>C a.tmps w) (λ_ _=>False)) ⟨a.tmps,[]⟩ (re w τ d))
 (hq:∀t w',C t w'->J s (G (b.at ⟨t,a.defers⟩ k) cs) w'):J s (G (b.at a (.code c::k)) cs) w:=by
 refine wpJ_lone (Q:=λs' e a' w'=>s'=s/\e=.normal/\a'.defers=a.defers/\C a'.tmps w') hJ hcalm hP hc (λa w=>C a.tmps w) (λ_ _=>False) (λa w τ d h=>hC _ _ _ _ h) (λ_ _ _ _ h=>h) h (λt w h=>⟨rfl,rfl,rfl,h⟩) (λ_ _ h=>h.elim) b k cs hb ?_;rintro s' e ⟨t,ds⟩ w' ⟨rfl,rfl,hd,h⟩;simp only at hd;subst hd;exact hq t w' h
theorem at_calls_lone(hJ:JS P main Kc J)(hcalm:CalmJ P main J)(hP:Plain P A){f:FuncId}{fn:Func}{c:Code}{args:Array Value}{s:γ}{w:World}(hf:P.funcs[f]?=some fn)(hb:fn.body=some c)(hc:okCode P A c=true)
 {R:Value->World->Prop} (hR:∀v w τ d,R v w->R v (re w τ d)) (h:∀τ d,Calls P f args (re w τ d) λe w'=>∃v,e=.returned v/\R v w') {cl:Frame} {cs:List Frame}
 (hq:∀v w',R v w'->J s (G (cl.finish v) cs) w'):J s (G (Frame.enter P f args .normal) (cl::cs)) w:=by
 refine callsJ_lone hJ hcalm hP hf hb hc hR (λτ d=>Calls.mono (h τ d) ?_) cl cs ?_ ?_
 · rintro e w' ⟨v,rfl,h⟩;exact h
 · rintro s' v w' ⟨rfl,h⟩;exact hq v w' h
 · rintro s' ch w' h;exact h.elim
theorem at_rest_lone(hJ:JS P main Kc J)(hcalm:CalmJ P main J)(hP:Plain P A){c:Code}(hc:okCode P A c=true)(R:Value->World->Prop)
 (hR:∀v w τ d,R v w->R v (re w τ d)) {b:Frame} (hb:b.kind=.normal) {fn:Func} (hf:P.funcs[b.fn]?=some fn) {cl:Frame} {cs:List Frame} {s:γ} {t:Array Value} {w:World}
 (h:∀τ d,Code.wp P c (bodyPost P fn λe w'=>∃v,e=.returned v/\R v w') ⟨t,[]⟩ (re w τ d))
 (hq:∀v w',R v w'->J s (G (cl.finish v) cs) w'):J s (G (b.at ⟨t,[]⟩ [.code c]) (cl::cs)) w:=by
 let Φ:Act->World->Prop:=λa w=>∃v,(results fn a.tmps).run P w=.ok v w/\R v w
 have hΦ:∀a w τ d,Φ a w->Φ a (re w τ d):=λa w τ d⟨v,h1,h2⟩=>⟨v,results_re h1 τ d,hR _ _ _ _ h2⟩;have hleave:∀(t:Array Value)(w:World)(todo:List Item),Φ ⟨t,[]⟩ w->J s (G {b.at ⟨t,[]⟩ todo with mode:=.returning} (cl::cs)) w:=λt w todo⟨v,h1,h2⟩=>
  leaveJ hJ hb rfl hf (λτ d=>results_re h1 τ d) (hq v w h2)
 refine wpJ_lone (Q:=λs' e a' w'=>s'=s/\(e=.normal\/e=.ret)/\a'.defers=[]/\Φ a' w') hJ hcalm hP hc Φ Φ hΦ hΦ (λτ d=>?_) (λt w h=>⟨rfl,.inl rfl,rfl,h⟩) (λt w h=>⟨rfl,.inr rfl,rfl,h⟩) b [] (cl::cs) (by rw[hb];decide) ?_
 · refine Code.wp_mono ?_ (h τ d);intro e a w hh;cases e with
   |normal=>obtain⟨h1,v,h2,v',h3,h4⟩:=hh;cases h3;exact⟨h1,v,h2,h4⟩
   |ret=>obtain⟨h1,v,h2,v',h3,h4⟩:=hh;cases h3;exact⟨h1,v,h2,h4⟩
   |panic ch=>obtain⟨h1,v,h2,_⟩:=hh;cases h2
   |outgrown=>obtain⟨v,h2,_⟩:=hh;cases h2
   |_=>exact hh
 · rintro s' e ⟨t',ds⟩ w' ⟨rfl,he,hd,h⟩;simp only at hd;subst hd;rcases he with rfl |rfl
   · exact hJ.ctl (λw=>stepG_end) (hleave t' w' [] h)
   · exact λtodo=>hleave t' w' todo h
end
end Go.Car
set_option maxHeartbeats 4000000
set_option maxRecDepth 100000
namespace Go.Proofs
open Go Go.Conc Go.RowKit Go.Car
noncomputable def opsT(n:Nat):Code:=tailN n (Try.f26.body.getD .skip)
theorem ops0:Try.f26.body.getD .skip=.seq (headC (opsT 0)) (.seq (headC (opsT 1)) (.seq (headC (opsT 2)) (opsT 3))):=by kernel_rfl
def ans0:AnsM:=⟨λ_=>.slice none 0 0,λ_ _=>none,λ_=>[]⟩
structure OpsAt(w:World)(RP:Nat->Option Obj)(pp:Option Addr)(n N:Nat)(sp:Nat->Option Addr)(L Cp:Nat->Nat)(ops:Nat->List OpX):Prop where
 eq:N=min n 64
 le:n<=4611686018427387904
 at':0<n->∃tb to',pp=some ⟨tb,to',none⟩/\∀i,i<N->w.cell? ⟨tb,to'+i,none⟩=some (.slice (sp i) (L i) (Cp i))
 row:∀i,i<N->L i<=Cp i/\L i<=4611686018427387904/\(sp i=none->L i=0/\Cp i=0)
 len:∀i,i<N->(ops i).length=min (L i) 65536
 op:∀i,i<N->∀k op,(ops i)[k]?=some op->∃g off cur e fr,sp i=some ⟨g,off,none⟩/\RP g=some (.cells cur e fr)/\∀j,j<4->cur[off+k*4+j]?=op.cells[j]?
open Classical in
noncomputable def roOf(RP:Nat->Option Obj)(H N:Nat)(ob ib:Nat->Nat)(w1:World):Nat->Option Obj:=λb=>if RP b≠none then RP b else if b=H\/b=H+2\/∃i,i<N/\(b=ob i\/b=ib i)then w1.heap[b]? else none
theorem roOf_rp{RP:Nat->Option Obj}{H N:Nat}{ob ib:Nat->Nat}{w1:World}{b:Nat}{o:Obj}(h:RP b=some o):roOf RP H N ob ib w1 b=some o:=by
 unfold roOf;rw[if_pos (by rw[h];simp),h]
theorem roOf_new{RP:Nat->Option Obj}{H N:Nat}{ob ib:Nat->Nat}{w1:World}{b:Nat}(h:RP b=none)(hb:b=H\/b=H+2\/∃i,i<N/\(b=ob i\/b=ib i)):roOf RP H N ob ib w1 b=w1.heap[b]?:=by
 unfold roOf;rw[if_neg (by rw[h];simp),if_pos hb]
theorem roOf_some{RP:Nat->Option Obj}{H N:Nat}{ob ib:Nat->Nat}{w1:World}{b:Nat}{o:Obj}(h:roOf RP H N ob ib w1 b=some o):RP b=some o\/((b=H\/b=H+2\/∃i,i<N/\(b=ob i\/b=ib i))/\w1.heap[b]?=some o):=by
 unfold roOf at h;split at h
 · exact .inl h
 · split at h
   · rename_i h2;exact .inr ⟨h2,h⟩
   · cases h
structure OpsRes{M1 S1:Type}(C:Core M1 S1)(N:Nat)(l₀:M1)(w:World)(r:TSt (S1×(Nat->List Ans)))(ab:Nat)(v:Value)(l':M1)(am:AnsM)(w':World):Prop where
 rep:C.Rep l' w'
 st:C.st l'=r.s.1
 ans:AnsRep tT ab N am w'
 ast:am.st=r.s.2
 size:w.heap.size<=w'.heap.size
 old:∀b,b<w.heap.size->¬C.foot l₀ b->w'.heap[b]?=w.heap[b]?
 foot:∀b,C.foot l' b->C.foot l₀ b\/w.heap.size<=b
 abl:w.heap.size<=ab
 ansn:∀i b,i<N->am.X i b≠none->C.foot l₀ b\/w.heap.size<=b
 anf:∀b,C.foot l' b->b≠ab/\∀i,i<N->am.X i b=none
 row:w'.ownsRow w.heap.size 3 1 v r.ord.length (r.ord.map λ(i:Nat)=>.int .i64 i)
 rowf:∀x,v.ownBlock=some x->¬C.foot l' x/\x≠ab/\∀i,i<N->am.X i x=none
theorem OpsRes.re {M1 S1:Type}{C:Core M1 S1}{N:Nat}{l₀:M1}{w w':World}{r:TSt (S1×(Nat->List Ans))}{ab:Nat}{v:Value}{l':M1}{am:AnsM}(h:OpsRes C N l₀ w r ab v l' am w')(τ:Nat->Question->Nat)(d:Nat):OpsRes C N l₀ w r ab v l' am (Go.Car.re w' τ d):=
 ⟨C.frame _ _ _ h.rep λ_ _=>rfl,h.st,⟨h.ans.hd,h.ans.row,h.ans.blk,h.ans.nab,h.ans.sep⟩,h.ast,h.size,h.old,h.foot,h.abl,h.ansn,h.anf,h.row,h.rowf⟩
section
variable {M1 S1:Type} {C:Core M1 S1} {RP:Nat->Option Obj} {l₀:M1} {wa w1:World} {N n:Nat} {pp:Option Addr} {sp:Nat->Option Addr} {L Cp:Nat->Nat} {ops:Nat->List OpX} {ob ib:Nat->Nat} {dv fv:Value}
theorem ops_rep(hR:DRes wa N dv sp L Cp N ob ib fv w1)(hb:BRep C RP ⟨l₀,λ_ _=>none⟩ wa):BRep (prodCore C (ansCore tT (wa.heap.size+1) N)) (roOf RP wa.heap.size N ob ib w1) ⟨(l₀,ans0),λ_ _=>none⟩ w1:=by
 have hcl:∀b,C.foot l₀ b->b<wa.heap.size:=λb h=>C.lt _ _ _ hb.core h;have hrl:∀b o,RP b=some o->b<wa.heap.size:=λb o h=>heap_lt (hb.rod b o h);have hnw:∀b o,roOf RP wa.heap.size N ob ib w1 b=some o->RP b=some o\/(wa.heap.size<=b/\b≠wa.heap.size+1/\w1.heap[b]?=some o):=λb o h=>by
  rcases roOf_some h with h|⟨h,h2⟩
  · exact .inl h
  · right
    rcases h with h|h|⟨i,hi,h⟩
    · exact⟨by omega,by omega,h2⟩
    · exact⟨by omega,by omega,h2⟩
    · have:=hR.lo i hi;rcases h with h|h<;>exact⟨by omega,by omega,h2⟩
 refine⟨⟨C.frame _ _ _ hb.core λb h=>hR.old b (hcl b h),⟨?_,λi hi=>AnsR.nil _ _,λi b o _ h=>(by cases h),λi _=>rfl,λi j b _ _ _ _=>rfl⟩,λb h=>?_⟩,λi b o h=>(by cases h),λb o h=>?_,λi b h=>absurd rfl h,λi j b _ h=>absurd rfl h,λb h=>?_,λi b _=>rfl⟩
 · show w1.heap[wa.heap.size+1]?=_;rw[hR.ab];congr 2;apply Array.ext_getElem?;intro i
   by_cases hi:i<N
   · simp[ans0,hi]
   · simp[ans0,hi]
 · rintro(h2|⟨i,hi,h2⟩)
   · have:=hcl b h;omega
   · exact h2 rfl
 · rcases hnw b o h with h|h
   · rw[hR.old b (hrl b o h)];exact hb.rod b o h
   · exact h.2.2
 · cases ho:roOf RP wa.heap.size N ob ib w1 b with
   |none=>exact absurd ho h
   |some o=>
    rintro(h2|h2|⟨i,hi,h2⟩)
    · rcases hnw b o ho with h3|h3
      · exact hb.rol b (by rw[h3];simp) h2
      · have:=hcl b h2;omega
    · rcases hnw b o ho with h3|h3
      · have:=hrl b o h3;omega
      · exact h3.2.1 h2
    · exact h2 rfl
theorem ops_ro{f:FuncId}{first caps:Array Value}(hR:DRes wa N (.func (.func f) first caps) sp L Cp N ob ib fv w1)(hb:BRep C RP ⟨l₀,λ_ _=>none⟩ wa)(hN:N<=64)(hlen:∀i,i<N->(ops i).length=min (L i) 65536)(hop:∀i,i<N->∀k op,(ops i)[k]?=some op->∃g off cur e fr,sp i=some ⟨g,off,none⟩/\RP g=some (.cells cur e fr)/\∀j,j<4->cur[off+k*4+j]?=op.cells[j]?){i:Nat}(hi:i<N):
 DoRo (roOf RP wa.heap.size N ob ib w1) i N (wa.heap.size+1) (ob i) wa.heap.size (ib i) (wa.heap.size+2) (sp i) (min (L i) 65536) (Cp i) (ops i) f first caps:=by
 have hno:∀b,wa.heap.size<=b->RP b=none:=λb hle=>by
  cases h:RP b with
  |none=>rfl
  |some o=>have:=heap_lt (hb.rod b o h);omega
 have hlo:=hR.lo i hi;refine⟨?_,?_,?_,?_,hlen i hi,Nat.min_le_right _ _,hi,hN,λk op hk=>?_⟩
 · rw[roOf_new (hno _ (by omega)) (.inr (.inr ⟨i,hi,.inl rfl⟩))];exact hR.obx i hi
 · rw[roOf_new (hno _ (Nat.le_refl _)) (.inl rfl)];exact hR.db
 · rw[roOf_new (hno _ (by omega)) (.inr (.inr ⟨i,hi,.inr rfl⟩))];exact hR.ibx i hi
 · rw[roOf_new (hno _ (by omega)) (.inr (.inl rfl))];exact hR.hb
 · obtain⟨g,off,cur,e,fr,h1,h2,h3⟩:=hop i hi k op hk;exact⟨g,off,cur,e,fr,h1,roOf_rp h2,h3⟩
end
def Beyond(w w':World):Prop:=w.heap.size<=w'.heap.size/\∀b,b<w.heap.size->w'.heap[b]?=w.heap[b]?
theorem Beyond.refl (w:World):Beyond w w:=⟨Nat.le_refl _,λ_ _=>rfl⟩
theorem Beyond.trans {w w' w'':World}(h:Beyond w w')(k:Beyond w' w''):Beyond w w'':=⟨Nat.le_trans h.1 k.1,λb hb=>(k.2 b (Nat.lt_of_lt_of_le hb h.1)).trans (h.2 b hb)⟩
theorem Beyond.alloc (w:World)(o:Obj):Beyond w (w.alloc o):=⟨by rw[zq3];omega,λb hb=>by rw[zq2,if_neg (by omega)]⟩
theorem Beyond.heap {w w':World}(h:Beyond w w'){b:Nat}{o:Obj}(hb:w.heap[b]?=some o):w'.heap[b]?=some o:=(h.2 b (heap_lt hb)).trans hb
theorem Beyond.cell {w w':World}(h:Beyond w w'){a:Addr}{v:Value}(hb:w.cell? a=some v):w'.cell? a=some v:=(cell_of_same (h.2 a.block (cell_lt hb))).trans hb
theorem Beyond.re (w:World)(τ:Nat->Question->Nat)(d:Nat):Beyond w (Go.Car.re w τ d):=⟨Nat.le_refl _,λ_ _=>rfl⟩
def IntsAt(w:World)(v:Value)(l:List Int):Prop:=∃p C,v=.slice p l.length C/\(l≠[]->∃b o,p=some ⟨b,o,none⟩/\∀i,i<l.length->w.cell? ⟨b,o+i,none⟩=some (.int .i64 (l.getD i 0)))
theorem IntsAt.beyond {w w':World}{v:Value}{l:List Int}(h:IntsAt w v l)(hb:Beyond w w'):IntsAt w' v l:=by
 obtain⟨p,C,e,h⟩:=h;refine⟨p,C,e,λhl=>?_⟩;obtain⟨b,o,e2,h2⟩:=h hl;exact⟨b,o,e2,λi hi=>hb.cell (h2 i hi)⟩
def AnsAt(w:World)(v:Value)(l:List Ans):Prop:=∃p C,v=.slice p l.length C/\(l≠[]->∃b o,p=some ⟨b,o,none⟩/\∀i a,l[i]?=some a->w.cell? ⟨b,o+i*3,none⟩=some (.bool a.ok)/\w.cell? ⟨b,o+i*3+1,none⟩=some (.int .i64 a.n)/\∃lv,w.cell? ⟨b,o+i*3+2,none⟩=some lv/\IntsAt w lv a.l)
theorem AnsAt.beyond {w w':World}{v:Value}{l:List Ans}(h:AnsAt w v l)(hb:Beyond w w'):AnsAt w' v l:=by
 obtain⟨p,C,e,h⟩:=h;refine⟨p,C,e,λhl=>?_⟩;obtain⟨b,o,e2,h2⟩:=h hl;refine⟨b,o,e2,λi a hi=>?_⟩;obtain⟨h3,h4,lv,h5,h6⟩:=h2 i a hi;exact⟨hb.cell h3,hb.cell h4,lv,hb.cell h5,h6.beyond hb⟩
def TraceAt(w:World)(v:Value)(N:Nat)(tolds:Nat->List Ans)(ord st:List Int)(stuck:Bool):Prop:=∃p C ov sv,v=.agg #[.slice p N C,ov,sv,.bool stuck]/\IntsAt w ov ord/\IntsAt w sv st/\
 (0<N->∃b o,p=some ⟨b,o,none⟩/\∀i,i<N->∃vi,w.cell? ⟨b,o+i,none⟩=some vi/\AnsAt w vi (tolds i))
theorem TraceAt.beyond {w w':World}{v:Value}{N:Nat}{tolds:Nat->List Ans}{ord st:List Int}{stuck:Bool}(h:TraceAt w v N tolds ord st stuck)(hb:Beyond w w'):TraceAt w' v N tolds ord st stuck:=by
 obtain⟨p,C,ov,sv,e,h1,h2,h3⟩:=h;refine⟨p,C,ov,sv,e,h1.beyond hb,h2.beyond hb,λh0=>?_⟩;obtain⟨b,o,e2,h4⟩:=h3 h0;refine⟨b,o,e2,λi hi=>?_⟩;obtain⟨vi,h5,h6⟩:=h4 i hi;exact⟨vi,hb.cell h5,h6.beyond hb⟩
set_option maxHeartbeats 1000000
set_option maxRecDepth 100000
theorem ints_of_row{w:World}{B:Nat}{T:TypeId}{v:Value}{l:List Int}(h:w.ownsRow B T 1 v l.length (l.map (Value.int .i64))):IntsAt w v l:=by
 rcases h.2 with⟨hv,h0⟩|⟨g,cap,cur,hv,hb,hh,h1,h2,h3,h4⟩
 · exact⟨none,0,by rw[hv,h0],λhne=>absurd (List.length_eq_zero_iff.1 h0) hne⟩
 · refine⟨_,cap,hv,λ_=>⟨g,0,rfl,λi hi=>?_⟩⟩;rw[zq0 hh,Nat.zero_add];have e:(l.map (Value.int .i64))[i]?=some (.int .i64 (l.getD i 0)):=by simp[hi]
   rw[←h4,List.getElem?_take,if_pos (by omega)]at e;simpa using e
theorem ints_of_nats{w:World}{B:Nat}{T:TypeId}{v:Value}{l:List Nat}(h:w.ownsRow B T 1 v l.length (l.map λ(i:Nat)=>.int .i64 i)):IntsAt w v (l.map λ(i:Nat)=>(i:Int)):=by
 refine ints_of_row (B:=B) (T:=T) ?_;rw[List.length_map,List.map_map];exact h
theorem rowB_ints{X:Nat->Option Obj}{T:TypeId}{v:Value}{l:List Int}{w:World}(h:RowB X T 1 v l.length (l.map (Value.int .i64)))(hX:∀b o,X b=some o->w.heap[b]?=some o):IntsAt w v l:=ints_of_row (h.own hX)
theorem ansL_get{tI:TypeId}{X:Nat->Option Obj}{l:List Ans}{cs:List Value}(h:AnsL tI X l cs):∀{i:Nat}{a:Ans},l[i]?=some a->∃Y sl,cs[i*3]?=some (.bool a.ok)/\cs[i*3+1]?=some (.int .i64 a.n)/\cs[i*3+2]?=some sl/\RowB Y tI 1 sl a.l.length (a.l.map (Value.int .i64))/\∀b o,Y b=some o->X b=some o:=by
 induction h with
 |nil=>intro i a hi;simp at hi
 |snoc h ha hd ih=>
  rename_i X Y l cs cs' a';intro i a hi;have hlen:=h.len;rcases Nat.lt_or_ge i l.length with hlt|hge
  · rw[List.getElem?_append_left hlt]at hi;obtain⟨Z,sl,h1,h2,h3,h4,h5⟩:=ih hi;refine⟨Z,sl,?_,?_,?_,h4,λb o hb=>?_⟩
    · rw[List.getElem?_append_left (by omega)];exact h1
    · rw[List.getElem?_append_left (by omega)];exact h2
    · rw[List.getElem?_append_left (by omega)];exact h3
    · have h6:=h5 b o hb;unfold orB;cases hY:Y b with
      |none=>simp[h6]
      |some y=>have:=hd b (by rw[hY];simp);rw[this]at h6;cases h6
  · have e:i=l.length:=by
     have:=(List.getElem?_eq_some_iff.1 hi).1;simp at this;omega
    subst e;simp at hi;subst hi;obtain⟨sl,rfl,hr⟩:=ha;refine⟨Y,sl,?_,?_,?_,hr,λb o hb=>by simp[orB,hb]⟩
    · rw[List.getElem?_append_right (by omega),hlen];simp
    · rw[List.getElem?_append_right (by omega),hlen];simp
    · rw[List.getElem?_append_right (by omega),hlen];simp
theorem ansR_at{tA tI:TypeId}{X:Nat->Option Obj}{hv:Value}{l:List Ans}{w:World}(h:AnsR tA tI X hv l)(hX:∀b o,X b=some o->w.heap[b]?=some o):AnsAt w hv l:=by
 obtain⟨Xr,XL,cs,hr,hL,rfl,hd⟩:=h;rcases hr.2 with⟨hv,h0,_⟩|⟨g,cap,cur,rfl,rfl,h1,h2,h3,h4⟩
 · exact⟨none,0,by rw[hv,h0],λhne=>absurd (List.length_eq_zero_iff.1 h0) hne⟩
 · refine⟨_,cap,rfl,λ_=>⟨g,0,rfl,λi a hi=>?_⟩⟩;have hg:w.heap[g]?=some (.cells cur tA (0,0)):=hX g _ (by simp[orB]);obtain⟨Y,sl,e1,e2,e3,e4,e5⟩:=ansL_get hL hi;have hil:=(List.getElem?_eq_some_iff.1 hi).1;have get:∀{j:Nat}{v:Value},j<l.length*3->cs[j]?=some v->w.cell? ⟨g,0+j,none⟩=some v:=λ{j v}hj e=>by
    rw[zq0 hg,Nat.zero_add];rw[←h4,List.getElem?_take,if_pos hj]at e;simpa using e
   refine⟨get (by omega) e1,?_,sl,?_,rowB_ints e4 λb o hb=>hX b o ?_⟩
   · exact get (by omega) e2
   · exact get (by omega) e3
   · have h6:=e5 b o hb
     by_cases hbg:b=g
     · subst hbg;have:=hd b (by simp);rw[this]at h6;cases h6
     · simp[orB,hbg,h6]
theorem ansRep_at{ab N:Nat}{m:AnsM}{w:World}(h:AnsRep tT ab N m w){i:Nat}(hi:i<N):w.cell? ⟨ab,i,none⟩=some (m.hv i)/\AnsAt w (m.hv i) (m.st i):=by
 refine⟨(zq0 h.hd).trans ?_,ansR_at (h.row i hi) λb o hb=>h.blk i b o hi hb⟩;simp[hi]
theorem trace_of{w:World}{N ab:Nat}{am:AnsM}{ov sv:Value}{ord:List Nat}{st:List Int}{stk:Bool}{B B':Nat}(h:AnsRep tT ab N am w)(ho:w.ownsRow B 3 1 ov ord.length (ord.map λ(i:Nat)=>.int .i64 i))(hs:w.ownsRow B' 2 1 sv st.length (st.map (Value.int .i64))):
 TraceAt w (.agg #[.slice (some ⟨ab,0,none⟩) N N,ov,sv,.bool stk]) N am.st (ord.map λ(i:Nat)=>(i:Int)) st stk:=
 ⟨_,_,_,_,rfl,ints_of_nats ho,ints_of_row hs,λ_=>⟨ab,0,rfl,λi hi=>⟨am.hv i,by rw[Nat.zero_add];exact(ansRep_at h hi).1,(ansRep_at h hi).2⟩⟩⟩
set_option maxHeartbeats 4000000
set_option maxRecDepth 100000
section
variable {NS N most:Nat} {ops:Nat->List OpX}
end
theorem opsP_deep{S1:Type}{i:Nat}{dop:OpX->Proc (S1×(Nat->List Ans)) Ans}{k:Nat}(h:∀op,(dop op).Deep k):∀l,(opsP i dop l).Deep k:=by
 intro l
 induction l with
 |nil=>exact Proc.Deep.ret _
 |cons op l ih=>exact(h op).bind λa=>(Proc.Deep.act _).bind λ_=>ih
section
variable {M1 S1:Type} {C:Core M1 S1} {RP:Nat->Option Obj} {l₀:M1} {w wa w1 w2:World} {N n most:Nat} {sp:Nat->Option Addr} {L Cp:Nat->Nat} {ob ib:Nat->Nat} {dv fv v:Value} {pr:Nat->Proc (S1×(Nat->List Ans)) Unit} {sched:List Int} {b:OSt (TM (M1×AnsM) (S1×(Nat->List Ans)))} {m':TM (M1×AnsM) (S1×(Nat->List Ans))} {g:Nat}
def mOps(l₀:M1)(room:Nat):TM (M1×AnsM) (S1×(Nat->List Ans)):=⟨⟨(l₀,ans0),λ_ _=>none⟩,λ_=>.ret (),room⟩
theorem ops_rep0{ro:Nat->Option Obj}{ab:Nat}{room:Nat}(h:BRep (prodCore C (ansCore tT ab N)) ro ⟨(l₀,ans0),λ_ _=>none⟩ w1):(thrOf (prodCore C (ansCore tT ab N)) ownA ro pr).Rep (mOps l₀ room) w1:=⟨h,λi=>trivial⟩
theorem ops_foot0{ro:Nat->Option Obj}{ab room x:Nat}(h:(thrOf (prodCore C (ansCore tT ab N)) ownA ro pr).foot (mOps l₀ room) x):C.foot l₀ x\/x=ab\/ro x≠none:=by
 rcases h with(h|h|⟨i,hi,h⟩)|⟨i,h⟩|h
 · exact .inl h
 · exact .inr (.inl h)
 · exact absurd rfl h
 · exact absurd rfl h
 · exact .inr (.inr h)
theorem ops_res(hR:DRes wa N dv sp L Cp N ob ib fv w1)(hb:BRep C RP ⟨l₀,λ_ _=>none⟩ wa){room:Nat}
 (ho:Over1 (thrOf (prodCore C (ansCore tT (wa.heap.size+1) N)) ownA (roOf RP wa.heap.size N ob ib w1) pr) N most sched (mOps l₀ room) w1 b m' v g w2):
 OpsRes C N l₀ wa (playT pr N most sched (C.st l₀,λ_=>[])) (wa.heap.size+1) v m'.bm.l.1 m'.bm.l.2 w2/\leftN b.ov N=leftN (playT pr N most sched (C.st l₀,λ_=>[])).ov N:=by
 obtain⟨hs,he⟩:=ran_T (m₀:=mOps l₀ room) rfl ho.ran;have hs0:(prodCore C (ansCore tT (wa.heap.size+1) N)).st (mOps (S1:=S1) l₀ room).bm.l=(C.st l₀,λ_=>[]):=rfl;rw[hs0]at hs;have hst:(C.st m'.bm.l.1,m'.bm.l.2.st)=(playT pr N most sched (C.st l₀,λ_=>[])).s:=he.trans hs.st;have hB:=ho.rep.1;have hsz:=hR.size;have hsz2:=ho.size;have hrl:∀x o,RP x=some o->x<wa.heap.size:=λx o h=>heap_lt (hb.rod x o h);have hrn:∀x,roOf RP wa.heap.size N ob ib w1 x≠none->RP x≠none\/wa.heap.size<=x:=λx h=>by
  cases hx:roOf RP wa.heap.size N ob ib w1 x with
  |none=>exact absurd hx h
  |some o=>
   rcases roOf_some hx with h|⟨h,_⟩
   · exact .inl (by rw[h];simp)
   · right
     rcases h with h|h|⟨i,hi,h⟩
     · omega
     · omega
     · have:=hR.lo i hi;rcases h with h|h<;>omega
 have hfn:∀x,(thrOf (prodCore C (ansCore tT (wa.heap.size+1) N)) ownA (roOf RP wa.heap.size N ob ib w1) pr).foot m' x->roOf RP wa.heap.size N ob ib w1 x=none->C.foot l₀ x\/wa.heap.size<=x:=λx h hn=>by
  rcases ho.foot x h with h|h
  · rcases ops_foot0 h with h|h|h
    · exact .inl h
    · exact .inr (by omega)
    · exact absurd hn h
  · exact .inr (by omega)
 have hcr:∀x,C.foot m'.bm.l.1 x->roOf RP wa.heap.size N ob ib w1 x=none:=λx h=>Classical.byContradiction λy=>hB.rol x y (.inl h);refine⟨⟨hB.core.1,congrArg Prod.fst hst,hB.core.2.1,congrArg Prod.snd hst,by omega,λx hx hf=>?_,λx hx=>hfn x (.inl (.inl hx)) (hcr x hx),by omega,λi x hi hx=>hfn x (.inl (.inr (.inr ⟨i,hi,hx⟩))) (Classical.byContradiction λy=>hB.rol x y (.inr (.inr ⟨i,hi,hx⟩))),λx hx=>?_,?_,λx hx=>?_⟩,?_⟩
 · by_cases hro:roOf RP wa.heap.size N ob ib w1 x=none
   · refine(ho.old x (by omega) λh=>?_).trans (hR.old x hx);rcases ops_foot0 h with h|h|h
     · exact hf h
     · omega
     · exact h hro
   · cases hx2:roOf RP wa.heap.size N ob ib w1 x with
     |none=>exact absurd hx2 hro
     |some o=>
      rw[hB.rod x o hx2];rcases roOf_some hx2 with h|⟨h,_⟩
      · exact(hb.rod x o h).symm
      · exfalso;rcases h with h|h|⟨i,hi,h⟩
        · omega
        · omega
        · have:=hR.lo i hi;rcases h with h|h<;>omega
 · have h:=hB.core.2.2 x hx;exact⟨λe=>h (.inl e),λi hi=>Classical.byContradiction λy=>h (.inr ⟨i,hi,y⟩)⟩
 · have:=ho.row;rw[hs.ord]at this;exact ownsRow_base this (by omega)
 · have h:=(ho.rowf x hx).1;exact⟨λy=>h (.inl (.inl y)),λe=>h (.inl (.inr (.inl e))),λi hi=>Classical.byContradiction λy=>h (.inl (.inr (.inr ⟨i,hi,y⟩)))⟩
 · exact leftN_congr λi _=>by rw[hs.ov]
theorem OpsRes.ext {r:TSt (S1×(Nat->List Ans))}{ab:Nat}{l':M1}{am:AnsM}{w':World}(h:OpsRes C N l₀ wa r ab v l' am w2){H:Nat}(hw:w.heap.size=H)(hwa:wa.heap.size=H+1)(hoa:∀b,b<H->wa.heap[b]?=w.heap[b]?)(hl:∀b,C.foot l₀ b->b<H)(hsz:w2.heap.size<=w'.heap.size)(hold:∀x,x<w2.heap.size->x≠H->w'.heap[x]?=w2.heap[x]?):OpsRes C N l₀ w r ab v l' am w':=by
 have hs:=h.size;have hab:=h.abl;have hcn:∀b,C.foot l' b->b≠H:=λb hb e=>by
  rcases h.foot b hb with h2|h2
  · have:=hl b h2;omega
  · omega
 have han:∀i b,i<N->am.X i b≠none->b≠H:=λi b hi hb e=>by
  rcases h.ansn i b hi hb with h2|h2
  · have:=hl b h2;omega
  · omega
 refine⟨C.frame _ _ _ h.rep λb hb=>hold b (C.lt _ _ _ h.rep hb) (hcn b hb),h.st,⟨(hold ab (heap_lt h.ans.hd) (by omega)).trans h.ans.hd,h.ans.row,λi b o hi hb=>(hold b (heap_lt (h.ans.blk i b o hi hb)) (han i b hi (by rw[hb];simp))).trans (h.ans.blk i b o hi hb),h.ans.nab,h.ans.sep⟩,h.ast,by omega,λb hb hf=>(hold b (by omega) (by omega)).trans ((h.old b (by omega) hf).trans (hoa b (by omega))),λb hb=>(h.foot b hb).imp id (λx=>by omega),by omega,λi b hi hb=>(h.ansn i b hi hb).imp id (λx=>by omega),h.anf,?_,h.rowf⟩;refine ownsRow_base (ownsRow_of h.row λg hg=>hold g (own_lt h.row hg).2.2 ?_) (by omega);have:=(own_lt h.row hg).2.1;omega
end
theorem DRes.re {w w':World}{N n:Nat}{dv:Value}{sp:Nat->Option Addr}{L Cp:Nat->Nat}{ob ib:Nat->Nat}{fv:Value}(h:DRes w N dv sp L Cp n ob ib fv w')(τ:Nat->Question->Nat)(d:Nat):DRes w N dv sp L Cp n ob ib fv (Go.Car.re w' τ d):=h.of_heap rfl
theorem DRes.of_re {w w':World}{τ:Nat->Question->Nat}{d:Nat}{N n:Nat}{dv:Value}{sp:Nat->Option Addr}{L Cp:Nat->Nat}{ob ib:Nat->Nat}{fv:Value}(h:DRes (Go.Car.re w τ d) N dv sp L Cp n ob ib fv w'):DRes w N dv sp L Cp n ob ib fv w':=
 ⟨h.size,h.old,h.db,h.ab,h.hb,h.frow,h.obx,h.ibx,h.lo,h.inc⟩
theorem ops_row_form{w:World}{B N:Nat}{T:TypeId}{v:Value}{xs:List Value}(h:w.ownsRow B T 1 v N xs):∃p C,v=.slice p N C/\(v.ownBlock=p.map (·.block))/\(0<N->∃g,p=some ⟨g,0,none⟩/\v.ownBlock=some g/\∀i x,xs[i]?=some x->w.cell? ⟨g,i,none⟩=some x):=by
 rcases h.2 with⟨hv,h0⟩|⟨g,cap,cur,hv,hb,hh,h1,h2,h3,h4⟩
 · subst h0;exact⟨none,0,hv,by rw[hv];rfl,λh=>absurd h (Nat.lt_irrefl _)⟩
 · refine⟨_,cap,hv,by rw[hv];rfl,λ_=>⟨g,rfl,by rw[hv];rfl,λi x hx=>?_⟩⟩;rw[zq0 (off:=i) hh];have hi:i<xs.length:=(List.getElem?_eq_some_iff.1 hx).1;have hl:=h.1;rw[←h4,List.getElem?_take]at hx;split at hx
   · simpa using hx
   · cases hx
theorem ops_calls{Fin:Machine->Trace->Prop}(hFin:Back Try.prog Fin){n:Nat}(hn:0<n){A:FuncId->Bool}(hP:Plain Try.prog A)(hRS:RowsS Try.prog A){M1 S1:Type}{C:Core M1 S1}{RP:Nat->Option Obj}{l₀:M1}{w:World}
 {np Cn N Cs:Nat} {pp scp:Option Addr} {sp:Nat->Option Addr} {L Cp:Nat->Nat} {ops:Nat->List OpX} {sched:List Int} {mo:Int} {f:FuncId} {first caps:Array Value} {fn:Func} {cc:Code} (hf:Try.prog.funcs[f]?=some fn) (hb':fn.body=some cc) (hnm:(fn.name== "runtime.NumGoroutine")=false)
 (hb:BRep C RP ⟨l₀,λ_ _=>none⟩ w) (ho:OpsAt w RP pp np N sp L Cp ops) (hsl:sched.length<=4611686018427387904)
 (hs:sched≠[]->∃sb off,scp=some ⟨sb,off,none⟩/\¬C.foot l₀ sb/\∀j x,sched[j]?=some x->w.cell? ⟨sb,off+j,none⟩=some (.int .i64 x))
 {dop:Nat->OpX->Proc (S1×(Nat->List Ans)) Ans} (hdeep:∀i op k,(dop i op).Deep k)
 (hdo:∀(ro:Nat->Option Obj)(ab:Nat)(pr:Nat->Proc (S1×(Nat->List Ans)) Unit)(st:Nat)(cr:Frame)(rest:List Frame)(EN:List PanicEntry->Prop)(i:Nat)(o:List Ans)(op:OpX),(∀b x,RP b=some x->ro b=some x)->i<N->
  SpecR (thrSys hP hRS (prodCore C (ansCore tT ab N)) ownA ro pr 72 (.pointer (some ⟨st,0,none⟩)) cr rest NEnd EN i o) f (first++#[.iface 108 (.pointer (some ⟨st,0,none⟩)),.int .i64 i,op.val]++caps) (dop i op) (AnsV 2))
 {c:Frame} {cs:List Frame}
 (hmain:∀ab v l' am w',OpsRes C N l₀ w (playT (λi=>opsP i (dop i) (ops i)) N (min mo.toNat 1048576) sched (C.st l₀,λ_=>[])) ab v l' am w'->
  J0 Try.prog Fin (n+N) (G (c.finish (.agg #[.slice (some ⟨ab,0,none⟩) N N,v,.slice none 0 0,.bool (decide (0<leftN (playT (λi=>opsP i (dop i) (ops i)) N (min mo.toNat 1048576) sched (C.st l₀,λ_=>[])).ov N))])) cs) w'):
 J0 Try.prog Fin n (G (Frame.enter Try.prog 26 #[.slice pp np Cn,.func (.func f) first caps,.slice scp sched.length Cs,.int .i64 mo] .normal) (c::cs)) w:=by
 have hJ:=j0_JS hFin;have hC:=j0_calm hFin;have e:Frame.enter Try.prog 26 #[.slice pp np Cn,.func (.func f) first caps,.slice scp sched.length Cs,.int .i64 mo] .normal=(bN 26).at (enterAct Try.f26 #[.slice pp np Cn,.func (.func f) first caps,.slice scp sched.length Cs,.int .i64 mo]) [.code ((Try.f26.body).getD .skip)]:=by kernel_rfl
 have ea:enterAct Try.f26 #[.slice pp np Cn,.func (.func f) first caps,.slice scp sched.length Cs,.int .i64 mo]=⟨#[.slice pp np Cn,.func (.func f) first caps,.slice scp sched.length Cs,.int .i64 mo,undef,undef,undef,undef,undef,undef,undef,undef,undef,undef,undef,undef,undef,undef,undef,undef,undef,undef,undef,undef,undef,undef,undef,undef,undef,undef,undef,undef],[]⟩:=by kernel_rfl
 rw[e,ea,ops0];clear e ea;have hm:=Lib.hid hmain;clear hmain;obtain⟨H,hH⟩:∃H,w.heap.size=H:=⟨_,rfl⟩;refine hJ.ctl (s:=n) (λw=>stepG_seq) ?_;refine at_lone hJ hC plainMD (by kernel_rfl) (λt w'=>t=#[.slice pp np Cn,.func (.func f) first caps,.slice scp sched.length Cs,.int .i64 mo,undef,undef,undef,undef,.pointer (some ⟨H,0,none⟩),undef,undef,undef,undef,undef,undef,undef,undef,undef,undef,undef,undef,undef,undef,undef,undef,undef,undef,undef,undef,undef,undef,undef]/\∃τ d,w'=re (w.alloc (.cells #[.slice none 0 0,.slice none 0 0,.slice none 0 0,.bool false] 31)) τ d) (λt w' τ d h=>⟨h.1,by obtain⟨τ',d',rfl⟩:=h.2;exact⟨τ,d,by rw[re_re]⟩⟩) (by decide) (λτ d=>?_) ?_
 · obtain⟨u0,hu0⟩:∃c,headC (opsT 0)=c:=⟨_,rfl⟩;have eu0:=hu0;rw[hu0];simp only[opsT,headC,tailN,Try.f26,al_od]at eu0;subst eu0;clear hu0 hdo hdeep hs ho hb hf hb' hnm;go_wp2;exact⟨rfl,rfl,τ,d,rfl⟩
 rintro t w' ⟨rfl,τ,d,rfl⟩;refine hJ.re' n _ _ τ d ?_;have hwa:(w.alloc (.cells #[.slice none 0 0,.slice none 0 0,.slice none 0 0,.bool false] 31)).heap.size=H+1:=by rw[zq3,hH]
 have hob:∀b,b<H->(w.alloc (.cells #[.slice none 0 0,.slice none 0 0,.slice none 0 0,.bool false] 31)).heap[b]?=w.heap[b]?:=λb hb=>by rw[zq2,if_neg (by omega)]
 have hzb:(w.alloc (.cells #[.slice none 0 0,.slice none 0 0,.slice none 0 0,.bool false] 31)).heap[H]?=some (.cells #[.slice none 0 0,.slice none 0 0,.slice none 0 0,.bool false] 31):=hH▸al_new w _;obtain⟨wa,hwae⟩:∃wa,w.alloc (.cells #[.slice none 0 0,.slice none 0 0,.slice none 0 0,.bool false] 31)=wa:=⟨_,rfl⟩;rw[hwae]at hwa hob hzb ⊢;clear hwae;have hlw:∀b,C.foot l₀ b->b<H:=λb h=>by rw[←hH];exact C.lt _ _ _ hb.core h
 have hba:BRep C RP ⟨l₀,λ_ _=>none⟩ wa:=hb.frame λb h=>hob b (by rw[←hH];exact hb.lt h);have hat:0<np->∃tb to',pp=some ⟨tb,to',none⟩/\∀i,i<N->wa.cell? ⟨tb,to'+i,none⟩=some (.slice (sp i) (L i) (Cp i)):=λh0=>by
  obtain⟨tb,to',e,h1⟩:=ho.at' h0;exact⟨tb,to',e,λi hi=>(cell_of_same (hob tb (by rw[←hH];exact cell_lt (h1 i hi)))).trans (h1 i hi)⟩
 have hs2:sched≠[]->∃sb off,scp=some ⟨sb,off,none⟩/\¬C.foot l₀ sb/\sb<H/\∀j x,sched[j]?=some x->wa.cell? ⟨sb,off+j,none⟩=some (.int .i64 x):=λh0=>by
  obtain⟨sb,off,e,h1',h2⟩:=hs h0;obtain⟨x,l,hsl⟩:=List.exists_cons_of_ne_nil h0;have hlt:sb<H:=by rw[←hH];exact cell_lt (h2 0 x (by rw[hsl];rfl))
  exact⟨sb,off,e,h1',hlt,λj x hj=>(cell_of_same (hob sb hlt)).trans (h2 j x hj)⟩
 have hNe:=ho.eq;have hN64:N<=64:=by omega
 have hnp:=ho.le;have hrow:=ho.row;have hlen:=ho.len;have hop:=ho.op;clear ho hs hb;refine hJ.ctl (s:=n) (λw=>stepG_seq) ?_;refine at_lone hJ hC plainMD (by kernel_rfl) (λt w'=>∃ob ib fv,t=#[.slice pp np Cn,.func (.func f) first caps,.slice scp sched.length Cs,.int .i64 mo,undef,undef,undef,undef,.pointer (some ⟨H,0,none⟩),fv,.slice (some ⟨H+1+1,0,none⟩) N N,undef,undef,undef,.tuple #[fv,.slice (some ⟨H+1+1,0,none⟩) N N],.slice pp np Cn,.func (.func f) first caps,.tuple #[fv,.slice (some ⟨H+1+1,0,none⟩) N N],fv,.slice (some ⟨H+1+1,0,none⟩) N N,undef,undef,undef,undef,undef,undef,undef,undef,undef,undef,undef,undef]/\DRes wa N (.func (.func f) first caps) sp L Cp N ob ib fv w') (λt w' τ d h=>?_) (by decide) (λτ d=>?_) ?_
 · obtain⟨ob,ib,fv,h1,h2⟩:=h;exact⟨ob,ib,fv,h1,h2.re τ d⟩
 · obtain⟨u0,hu0⟩:∃c,headC (opsT 1)=c:=⟨_,rfl⟩;have eu0:=hu0;rw[hu0];simp only[opsT,headC,tailN,Try.f26,al_od]at eu0;subst eu0;clear hu0;have HM:=Lib.hid (doing_lone (pp:=pp) (n:=np) (Cn:=Cn) (dv:=.func (.func f) first caps) (sp:=sp) (L:=L) (Cp:=Cp) ⟨_,_,_,rfl⟩ (re wa τ d) hnp (λi hi=>hrow i (by rw[hNe];exact hi)) (λh0=>by
    obtain⟨tb,to',e,h1⟩:=hat h0;exact⟨tb,to',e,λi hi=>h1 i (by rw[hNe];exact hi)⟩))
   rw[←hNe]at HM;have HH:=Lib.hid (And.intro hH hwa);clear hs2 hat hlw hba hob hzb hH hwa hNe hN64 hnp hrow hlen hop hdo hdeep hf hb' hnm hsl
   go_wp2_with (fail)
   refine Calls.mono HM.out ?_;rintro e w' ⟨ob,ib,fv,rfl,hR⟩;have hR2:=Lib.hid hR.of_re;clear hR;rw[show(re wa τ d).heap.size=H+1 from HH.out.2];go_wp2;exact⟨rfl,ob,ib,fv,rfl,hR2.out⟩
 rintro t w1 ⟨ob,ib,fv,rfl,hR⟩;obtain⟨fp,Cf,rfl,hfo,hfp⟩:=ops_row_form hR.frow;refine hJ.ctl (s:=n) (λw=>stepG_seq) ?_;have hrep1:=ops_rep hR hba;obtain⟨u0,hu0⟩:∃c,headC (opsT 2)=c:=⟨_,rfl⟩;have eu0:=hu0;rw[hu0];simp only[opsT,headC,tailN,Try.f26,al_od]at eu0;subst eu0;clear hu0;refine hJ.ctl (s:=n) (λw=>stepG_region) ?_;have HR:=Lib.hid hR;have HP:=Lib.hid hrep1;have HX:=Lib.hid (And.intro hat (And.intro hs2 (And.intro hob (And.intro hzb (And.intro hwa (And.intro hlw (And.intro hba (And.intro hrow (And.intro hlen hop)))))))));have HA:=Lib.hid (And.intro hfo hfp);have HNE:=Lib.hid hNe;clear hNe;have HD:=Lib.hid (And.intro hdo (And.intro hdeep (And.intro hf (And.intro hb' hnm))));clear hR hrep1 hat hs2 hob hzb hwa hfo hfp hlw hba hrow hlen hop hdo hdeep hf hb' hnm;refine at_piece (s:=n) (by decide) hJ (zq6 _) true (.inl rfl) 0 3 8 rfl rfl rfl (by rfl) ?_;intro τ d;simp only[List.drop_zero,List.take_succ_cons,List.take_zero];go_wp2;simp only[contAt];refine hJ.re' n _ _ τ d ?_;refine at_call (by decide) hJ (s:=n) rfl rfl (f:=38) (args:=#[.slice fp N Cf,.slice scp sched.length Cs,.int .i64 mo]) (λτ d=>?_) (λτ d=>?_) ?_
 · simp[go_sem,execOp,Act.eval,resolve,Deferred.ofValue,invoke,callFunc,Try.func38,Try.f38]
 · intro e he;simp[go_sem,execOp,Act.eval,resolve,Deferred.ofValue,invoke,callFunc,Try.func38,Try.f38,Sem.runT_eq]at he
 obtain⟨hat,hs2,hob,hzb,hwa,hlw,hba,hrow,hlen,hop⟩:=HX.out;obtain⟨hfo,hfp⟩:=HA.out;obtain⟨hdo,hdeep,hf,hb',hnm⟩:=HD.out;have hRo:∀i,i<N->DoRo (roOf RP wa.heap.size N ob ib w1) i N (wa.heap.size+1) (ob i) wa.heap.size (ib i) (wa.heap.size+2) (sp i) (min (L i) 65536) (Cp i) (ops i) f first caps:=λi hi=>ops_ro HR.out hba hN64 hlen hop hi
 have hfree:∀x,wa.heap.size+3<=x->w1.heap[x]?≠none->(∀i,i<N->x≠ob i/\x≠ib i)->¬(C.foot l₀ x\/x=wa.heap.size+1\/roOf RP wa.heap.size N ob ib w1 x≠none):=λx hx _ hne h=>by
  rcases h with h|h|h
  · have:=hlw x h;omega
  · omega
  · cases ho:roOf RP wa.heap.size N ob ib w1 x with
    |none=>exact h ho
    |some o=>
     rcases roOf_some ho with h2|⟨h2,_⟩
     · have:=heap_lt (hba.rod x o h2);omega
     · rcases h2 with h2|h2|⟨i,hi,h2|h2⟩
       · omega
       · omega
       · exact(hne i hi).1 h2
       · exact(hne i hi).2 h2
 refine over_calls hFin (T:=thrOf (prodCore C (ansCore tT (wa.heap.size+1) N)) ownA (roOf RP wa.heap.size N ob ib w1) (λi=>opsP i (dop i) (ops i))) (m₀:=mOps l₀ (min mo.toNat 1048576+100)) (N:=N) (most:=min mo.toNat 1048576) (tv:=λi=>cloD wa.heap.size (ob i) (ib i)) (sched:=sched) hn (by have:=HNE.out;omega) rfl (ops_rep0 HP.out) (Nat.le_refl _) ?_ (λi hi=>?_) ?_ ?_
 · intro h0;obtain⟨g,e,hg,hc⟩:=hfp h0;refine⟨g,e,λhf=>?_,λi hi=>hc i _ (by simp[clsD,hi])⟩;obtain⟨⟨cc,hcc⟩,hlo,hlt⟩:=own_lt HR.out.frow hg;refine hfree g hlo (by rw[hcc];simp) (λi hi=>⟨λe=>?_,λe=>?_⟩) (ops_foot0 hf)
   · exact heap_ne hcc (HR.out.obx i hi) (by decide) e
   · exact heap_ne hcc (HR.out.ibx i hi) (by decide) e
 · refine thr_runs hP hRS (fn:=Try.f47) (c:=(Try.f47.body).getD .skip) Try.func47 rfl rfl (λk=>opsP_deep (λop=>hdeep i op k) _) (λst cr rest EN s m w hA hown=>?_);exact doing_calls hP hRS hf hb' hnm (hRo i hi) (λo op=>hdo _ _ _ st cr rest EN i o op (λb x h=>roOf_rp h) hi) s m w hA hown
 · refine⟨hsl,scp,Cs,rfl,λh0=>?_⟩;obtain⟨sb,off,e,h1',h2,h3⟩:=hs2 h0;refine⟨sb,off,e,λj x hj=>?_⟩;cases h1:RP sb with
   |some o=>exact .inr λm w h=>(cell_of_same ((h.1.rod sb o (roOf_rp h1)).trans (hba.rod sb o h1).symm)).trans (h3 j x hj)
   |none=>
   refine .inl ⟨(cell_of_same (HR.out.old sb (by omega))).trans (h3 j x hj),by have:=HR.out.size;omega,λhf=>?_⟩;rcases ops_foot0 hf with h4|h4|h4
   · exact h1' h4
   · omega
   · cases ho:roOf RP wa.heap.size N ob ib w1 sb with
     |none=>exact h4 ho
     |some o=>
      rcases roOf_some ho with h5|⟨h5,_⟩
      · rw[h1]at h5;cases h5
      · rcases h5 with h5|h5|⟨i,hi,h5⟩
        · omega
        · omega
        · have:=HR.out.lo i hi;rcases h5 with h5|h5<;>omega
 intro b m' v g capg w2 ho;obtain⟨hres,hleft⟩:=ops_res HR.out hba ho;have hvrow:=ho.row;clear ho;rw[Frame.finish_at]
 walk_nrm
 obtain⟨pv',cv',rfl,_⟩:=own_slice hvrow;clear hvrow;generalize b.ord.length=nv' at hres ⊢;have HO:=Lib.hid hres;rw[hleft];have hHw:=heap_lt hzb;clear hleft hres;obtain⟨stuck,hstuck⟩:∃x,decide (0<leftN (playT (λi=>opsP i (dop i) (ops i)) N (min mo.toNat 1048576) sched (C.st l₀,λ_=>[])).ov N)=x:=⟨_,rfl⟩;rw[hstuck];have HST:=Lib.hid hstuck;clear hstuck;refine at_piece (s:=n+N) (by decide) hJ (zq6 _) true (.inl rfl) 4 7 0 rfl rfl rfl (by rfl) ?_;intro τ d;simp only[List.drop_succ_cons,List.drop_zero,List.take_succ_cons,List.take_zero];go_wp2;simp only[contAt];refine hJ.re' (n+N) _ _ τ d ?_;refine hJ.ctl (s:=n+N) (λw=>stepG_region_end) ?_;have hze:w2.heap[H]?=some (.cells #[.slice none 0 0,.slice none 0 0,.slice none 0 0,.bool false] 31):=(HO.out.old H hHw (λh=>by have:=hlw H h;omega)).trans hzb;refine at_rest_lone hJ hC plainMD (by kernel_rfl) (λv w'=>v=.agg #[.slice (some ⟨H+1+1,0,none⟩) N N,.slice pv' nv' cv',.slice none 0 0,.bool stuck]/\∃l' am,OpsRes C N l₀ w (playT (λi=>opsP i (dop i) (ops i)) N (min mo.toNat 1048576) sched (C.st l₀,λ_=>[])) (H+1+1) (.slice pv' nv' cv') l' am w') (λv w' τ d⟨h1,l',am,h2⟩=>⟨h1,l',am,h2.re τ d⟩) rfl Try.func26 (λτ d=>?_) ?_
 · obtain⟨u0,hu0⟩:∃c,opsT 3=c:=⟨_,rfl⟩;have eu0:=hu0;rw[hu0];simp only[opsT,headC,tailN,Try.f26,al_od]at eu0;subst eu0;clear hu0;have HZ:=Lib.hid (And.intro hH (And.intro hwa (And.intro hob hlw)));have b0:(re w2 τ d).heap[H]?=some (.cells #[.slice none 0 0,.slice none 0 0,.slice none 0 0,.bool false] 31):=hze;have hre:=HO.out.re τ d;clear HO;generalize re w2 τ d=w3 at b0 hre ⊢;have HPR:=Lib.hid hre;clear hre hfree hRo hat hs2 hob hzb hwa hlw hba hrow hlen hop hfo hfp hdo hdeep hf hb' hnm hze hHw HX HA HD HP HR hH hsl hN64 hnp hm;have r0:=(zq0 (off:=0) b0).trans rfl;have r1:=(zq0 (off:=1) b0).trans rfl;have r2:=(zq0 (off:=2) b0).trans rfl;have r3:=(zq0 (off:=3) b0).trans rfl;have z0:=zq5 (off:=0) b0;have z1:=zq5 (off:=1) b0;have z2:=zq5 (off:=2) b0;have z3:=zq5 (off:=3) b0;have B0:=Lib.hid b0;clear b0;go_wp2;clear r0 r1 r2 r3 z0 z1 z2 z3;have b1':=hp_set_same w3 H 0 (.slice (some ⟨H+1+1,0,none⟩) N N) B0.out;have b2':=hp_set_same _ H 1 (.slice pv' nv' cv') b1';have b3':=hp_set_same _ H 2 (.slice none 0 0) b2';have b4':=hp_set_same _ H 3 (.bool stuck) b3';have hext:∀x,x<w3.heap.size->x≠H->((((w3.setCell ⟨H,0,none⟩ (.slice (some ⟨H+1+1,0,none⟩) N N)).setCell ⟨H,1,none⟩ (.slice pv' nv' cv')).setCell ⟨H,2,none⟩ (.slice none 0 0)).setCell ⟨H,3,none⟩ (.bool stuck)).heap[x]?=w3.heap[x]?:=λx _ hx=>by
    rw[hp_set_ne _ _ _ _ hx,hp_set_ne _ _ _ _ hx,hp_set_ne _ _ _ _ hx,hp_set_ne _ _ _ _ hx]
   have hsz8:((((w3.setCell ⟨H,0,none⟩ (.slice (some ⟨H+1+1,0,none⟩) N N)).setCell ⟨H,1,none⟩ (.slice pv' nv' cv')).setCell ⟨H,2,none⟩ (.slice none 0 0)).setCell ⟨H,3,none⟩ (.bool stuck)).heap.size=w3.heap.size:=by simp only[hp_size_set]
   generalize ((((w3.setCell ⟨H,0,none⟩ (.slice (some ⟨H+1+1,0,none⟩) N N)).setCell ⟨H,1,none⟩ (.slice pv' nv' cv')).setCell ⟨H,2,none⟩ (.slice none 0 0)).setCell ⟨H,3,none⟩ (.bool stuck))=w8 at b4' hext hsz8 ⊢;clear b1' b2' b3';have k0:=(zq0 (off:=0) b4').trans rfl;have k1:=(zq0 (off:=1) b4').trans rfl;have k2:=(zq0 (off:=2) b4').trans rfl;have k3:=(zq0 (off:=3) b4').trans rfl;have hres:=HPR.out;rw[HZ.out.2.1]at hres;refine⟨rfl,.agg #[.slice (some ⟨H+1+1,0,none⟩) N N,.slice pv' nv' cv',.slice none 0 0,.bool stuck],?_,_,rfl,rfl,_,_,hres.ext HZ.out.1 HZ.out.2.1 HZ.out.2.2.1 HZ.out.2.2.2 (by omega) hext⟩;simp only[results,Try.f26];simp[go_sem,k0,k1,k2,k3]
 · rintro v w' ⟨rfl,l',am,h⟩;have h2:=hm.out _ _ l' am w' h;rw[HST.out]at h2;exact h2
noncomputable def splT(n:Nat):Code:=tailN n (Try.f10.body.getD .skip)
theorem spl0:Try.f10.body.getD .skip=.seq (headC (splT 0)) (.seq (headC (splT 1)) (.seq (headC (splT 2)) (splT 3))):=by kernel_rfl
structure PlayedR{S1:Type}(N:Nat)(w:World)(r:TSt (S1×(Nat->List Ans)))(st:List Int)(ab:Nat)(ov sv:Value)(am:AnsM)(w':World):Prop where
 size:w.heap.size<=w'.heap.size
 old:∀b,b<w.heap.size->w'.heap[b]?=w.heap[b]?
 ans:AnsRep tT ab N am w'
 ast:am.st=r.s.2
 abl:w.heap.size<=ab
 ansn:∀i b,i<N->am.X i b≠none->w.heap.size<=b
 orow:w'.ownsRow w.heap.size 3 1 ov r.ord.length (r.ord.map λ(i:Nat)=>.int .i64 i)
 srow:w'.ownsRow w.heap.size 2 1 sv st.length (st.map (Value.int .i64))
 rowf:∀x,ov.ownBlock=some x->x≠ab/\∀i,i<N->am.X i x=none
 srowf:∀x,sv.ownBlock=some x->x≠ab/\(∀i,i<N->am.X i x=none)/\ov.ownBlock≠some x
theorem PlayedR.re {S1:Type}{N:Nat}{w w':World}{r:TSt (S1×(Nat->List Ans))}{st:List Int}{ab:Nat}{ov sv:Value}{am:AnsM}(h:PlayedR N w r st ab ov sv am w')(τ:Nat->Question->Nat)(d:Nat):PlayedR N w r st ab ov sv am (Go.Car.re w' τ d):=
 ⟨h.size,h.old,⟨h.ans.hd,h.ans.row,h.ans.blk,h.ans.nab,h.ans.sep⟩,h.ast,h.abl,h.ansn,h.orow,h.srow,h.rowf,h.srowf⟩
theorem played_of{M1 S1:Type}{C:Core M1 S1}{N H:Nat}{l₀ l':M1}{w wb w2 w':World}{r:TSt (S1×(Nat->List Ans))}{ab:Nat}{v sv:Value}{am:AnsM}{st:List Int}(h:OpsRes C N l₀ wb r ab v l' am w2)(hw:w.heap.size=H)(hwb:H+1<=wb.heap.size)(hob:∀b,b<H->wb.heap[b]?=w.heap[b]?)
 (hl:∀b,C.foot l₀ b->H+1<=b) (hsz:w2.heap.size<=w'.heap.size) (hold:∀x,x<w2.heap.size->x≠H->w'.heap[x]?=w2.heap[x]?) (hs:w'.ownsRow w2.heap.size 2 1 sv st.length (st.map (Value.int .i64))):PlayedR N w r st ab v sv am w':=by
 have h1:=h.size;have h2:=h.abl;have han:∀i b,i<N->am.X i b≠none->H+1<=b:=λi b hi hb=>(h.ansn i b hi hb).elim (hl b) (λx=>by omega);refine⟨by omega,λb hb=>(hold b (by omega) (by omega)).trans ((h.old b (by omega) λx=>by have:=hl b x;omega).trans (hob b (by omega))),⟨(hold ab (heap_lt h.ans.hd) (by omega)).trans h.ans.hd,h.ans.row,λi b o hi hb=>(hold b (heap_lt (h.ans.blk i b o hi hb)) (by have:=han i b hi (by rw[hb];simp);omega)).trans (h.ans.blk i b o hi hb),h.ans.nab,h.ans.sep⟩,h.ast,by omega,λi b hi hb=>by have:=han i b hi hb;omega,?_,ownsRow_base hs (by omega),λx hx=>(h.rowf x hx).2,λx hx=>?_⟩
 · refine ownsRow_base (ownsRow_of h.row λg hg=>hold g (own_lt h.row hg).2.2 ?_) (by omega);have:=(own_lt h.row hg).2.1;omega
 · have h3:=(own_lt hs hx).2.1;refine⟨?_,λi hi=>?_,λe=>?_⟩
   · have:=heap_lt h.ans.hd;omega
   · cases ho:am.X i x with
     |none=>rfl
     |some o=>have:=heap_lt (h.ans.blk i x o hi ho);omega
   · have:=(own_lt h.row e).2.2;omega
def strPr(ws:List Int)(ops:Nat->List OpX)(i:Nat):Proc (List Int×(Nat->List Ans)) Unit:=opsP i (doP (stripesN ws.length)) (ops i)
def strT(ws:List Int)(ops:Nat->List OpX)(N:Nat)(mo:Int)(sched:List Int):TSt (List Int×(Nat->List Ans)):=playT (strPr ws ops) N (min mo.toNat 1048576) sched (begunL ws,λ_=>[])
section
variable {S2:Type}
theorem tick_deep{k:Nat}:(Proc.tick:Proc (List Int×S2) Unit).Deep k:=(Proc.Deep.ret _).then
theorem onL_deep{α:Type}{k:Nat}(f:List Int->List Int×α):(onL f:Proc (List Int×S2) α).Deep k:=Proc.Deep.act _
theorem foldP_deep(g:Nat->Int->List Int->List Int×Int)(N k:Nat):∀n j acc,(foldP g N n j acc:Proc (List Int×S2) Int).Deep k
 |0,_,_=>Proc.Deep.ret _
 |n+1,j,acc=>(tick_deep.bind λ_=>onL_deep _).bind λx=>foldP_deep g N k n (j+1) _
theorem addP_deep(N k:Nat)(a v:Int):(addP N a v:Proc (List Int×S2) Int).Deep k:=tick_deep.bind λ_=>onL_deep _
theorem evenB_deep(N k:Nat)(seen:List Int):∀n j acc,(evenB N seen n j acc:Proc (List Int×S2) (Int×Bool)).Deep k
 |0,_,_=>Proc.Deep.ret _
 |n+1,j,acc=>by
  unfold evenB;refine(tick_deep.bind λ_=>onL_deep _).bind λx=>?_;split
  · exact evenB_deep N k seen n (j+1) acc
  · exact Proc.Deep.ret _
theorem evenA_deep(N k:Nat):∀n j seen acc,(evenA N n j seen acc:Proc (List Int×S2) (Int×Bool)).Deep k
 |0,_,_,_=>evenB_deep _ _ _ _ _ _
 |n+1,j,seen,acc=>(tick_deep.bind λ_=>onL_deep _).bind λx=>evenA_deep N k n (j+1) _ _
theorem doP_deep(N k:Nat)(op:OpX):(doP N op:Proc (List Int×S2) Ans).Deep k:=by
 unfold doP
 repeat' split
 · exact(addP_deep _ _ _ _).bind λ_=>Proc.Deep.ret _
 · exact(foldP_deep _ _ _ _ _ _).bind λ_=>Proc.Deep.ret _
 · exact(foldP_deep _ _ _ _ _ _).bind λ_=>Proc.Deep.ret _
 · exact((addP_deep _ _ _ _).bind λ_=>(addP_deep _ _ _ _).bind λ_=>Proc.Deep.ret _).bind λ_=>Proc.Deep.ret _
 · exact(evenA_deep _ _ _ _ _ _).bind λ_=>Proc.Deep.ret _
 · exact Proc.Deep.ret _
end
theorem do_turn{cb:Nat}{z:Option Nat}{NS N ab:Nat}(hp:0<NS)(hl:NS<=64)(ro:Nat->Option Obj)(pr:Nat->Proc (List Int×(Nat->List Ans)) Unit)(st:Nat)(cr:Frame)(rest:List Frame)(EN:List PanicEntry->Prop)(i:Nat)(o:List Ans)(op:OpX):
 SpecR (thrSys plainM rowsM (prodCore (strCore cb z NS) (ansCore tT ab N)) ownA ro pr 72 (.pointer (some ⟨st,0,none⟩)) cr rest NEnd EN i o) 27 (#[.pointer (some ⟨cb,0,none⟩)]++#[.iface 108 (.pointer (some ⟨st,0,none⟩)),.int .i64 i,op.val]++#[]) (doP NS op) (AnsV 2):=
 do_spec _ (atoms_of_alone _ (I:=λs=>ownA i s=o) (λl l' s h=>h) (λl l' s j _=>rfl) hp hl (step_stand _ (thr_step plainM rowsM o))) (i:Int) op
theorem strplay_calls{Fin:Machine->Trace->Prop}(hFin:Back Try.prog Fin){n:Nat}(hn:0<n){RP:Nat->Option Obj}{w:World}{wl Cw np Cn N Cs:Nat}{wp pp scp:Option Addr}{sp:Nat->Option Addr}{L Cp:Nat->Nat}{ops:Nat->List OpX}{ws sched:List Int}{mo:Int}
 (hwl:ws.length=wl) (hwn:wl<=4611686018427387904) (hws:0<wl->∃wb wo,wp=some ⟨wb,wo,none⟩/\∀i,i<wl->w.cell? ⟨wb,wo+i,none⟩=some (.int .i64 (ws.getD i 0)))
 (hRP:∀b o,RP b=some o->w.heap[b]?=some o) (ho:OpsAt w RP pp np N sp L Cp ops) (hsl:sched.length<=4611686018427387904)
 (hs:sched≠[]->∃sb off,scp=some ⟨sb,off,none⟩/\∀j x,sched[j]?=some x->w.cell? ⟨sb,off+j,none⟩=some (.int .i64 x))
 {c:Frame} {cs:List Frame}
 (hmain:∀ab ov sv am w',PlayedR N w (strT ws ops N mo sched) (strT ws ops N mo sched).s.1 ab ov sv am w'->
  J0 Try.prog Fin (n+N) (G (c.finish (.agg #[.slice (some ⟨ab,0,none⟩) N N,ov,sv,.bool (decide (0<leftN (strT ws ops N mo sched).ov N))])) cs) w'):
 J0 Try.prog Fin n (G (Frame.enter Try.prog 10 #[.slice wp wl Cw,.slice pp np Cn,.slice scp sched.length Cs,.int .i64 mo] .normal) (c::cs)) w:=by
 have hJ:=j0_JS hFin;have hC:=j0_calm hFin;have e:Frame.enter Try.prog 10 #[.slice wp wl Cw,.slice pp np Cn,.slice scp sched.length Cs,.int .i64 mo] .normal=(bN 10).at (enterAct Try.f10 #[.slice wp wl Cw,.slice pp np Cn,.slice scp sched.length Cs,.int .i64 mo]) [.code ((Try.f10.body).getD .skip)]:=by kernel_rfl
 have ea:enterAct Try.f10 #[.slice wp wl Cw,.slice pp np Cn,.slice scp sched.length Cs,.int .i64 mo]=⟨#[.slice wp wl Cw,.slice pp np Cn,.slice scp sched.length Cs,.int .i64 mo,undef,undef,undef,undef,undef,undef,undef,undef,undef,undef,undef,undef,undef,undef,undef,undef,undef,undef,undef],[]⟩:=by kernel_rfl
 rw[e,ea,spl0];clear e ea;have hm:=Lib.hid hmain;clear hmain;obtain⟨H,hH⟩:∃H,w.heap.size=H:=⟨_,rfl⟩;refine hJ.ctl (s:=n) (λw=>stepG_seq) ?_;refine at_lone hJ hC plainM (by kernel_rfl) (λt w'=>t=#[.slice wp wl Cw,.slice pp np Cn,.slice scp sched.length Cs,.int .i64 mo,undef,undef,undef,undef,.pointer (some ⟨H,0,none⟩),undef,undef,undef,undef,undef,undef,undef,undef,undef,undef,undef,undef,undef,undef]/\∃τ d,w'=re (w.alloc (.cells #[.slice none 0 0,.slice none 0 0,.slice none 0 0,.bool false] 31)) τ d) (λt w' τ d h=>⟨h.1,by obtain⟨τ',d',rfl⟩:=h.2;exact⟨τ,d,by rw[re_re]⟩⟩) (by decide) (λτ d=>?_) ?_
 · obtain⟨u0,hu0⟩:∃c,headC (splT 0)=c:=⟨_,rfl⟩;have eu0:=hu0;rw[hu0];simp only[splT,headC,tailN,Try.f10,al_od]at eu0;subst eu0;clear hu0 hs ho hRP hws;go_wp2;exact⟨rfl,rfl,τ,d,rfl⟩
 rintro t w' ⟨rfl,τ,d,rfl⟩;refine hJ.re' n _ _ τ d ?_;have hwa:(w.alloc (.cells #[.slice none 0 0,.slice none 0 0,.slice none 0 0,.bool false] 31)).heap.size=H+1:=by rw[zq3,hH]
 have hob:∀b,b<H->(w.alloc (.cells #[.slice none 0 0,.slice none 0 0,.slice none 0 0,.bool false] 31)).heap[b]?=w.heap[b]?:=λb hb=>by rw[zq2,if_neg (by omega)]
 have hzb:(w.alloc (.cells #[.slice none 0 0,.slice none 0 0,.slice none 0 0,.bool false] 31)).heap[H]?=some (.cells #[.slice none 0 0,.slice none 0 0,.slice none 0 0,.bool false] 31):=hH▸al_new w _;obtain⟨wa,hwae⟩:∃wa,w.alloc (.cells #[.slice none 0 0,.slice none 0 0,.slice none 0 0,.bool false] 31)=wa:=⟨_,rfl⟩;rw[hwae]at hwa hob hzb ⊢;clear hwae;refine hJ.ctl (s:=n) (λw=>stepG_seq) ?_;refine at_lone hJ hC plainM (by kernel_rfl) (λt w'=>t=#[.slice wp wl Cw,.slice pp np Cn,.slice scp sched.length Cs,.int .i64 mo,undef,undef,undef,undef,.pointer (some ⟨H,0,none⟩),.pointer (some ⟨H+1+1,0,none⟩),undef,.slice wp wl Cw,.pointer (some ⟨H+1+1,0,none⟩),undef,undef,undef,undef,undef,undef,undef,undef,undef,undef]/\NewStr wa (stripesN wl) (begunL ws) w') (λt w' τ d h=>⟨h.1,h.2.re τ d⟩) (by decide) (λτ d=>?_) ?_
 · obtain⟨u0,hu0⟩:∃c,headC (splT 1)=c:=⟨_,rfl⟩;have eu0:=hu0;rw[hu0];simp only[splT,headC,tailN,Try.f10,al_od]at eu0;subst eu0;clear hu0;have HM:=Lib.hid (begun_lone (p:=wp) (n:=wl) (C:=Cw) (ws:=ws) (re wa τ d) hwl hwn (λh0=>by
    obtain⟨wb,wo,e,h1⟩:=hws h0;exact⟨wb,wo,e,λi hi=>(cell_of_same (hob wb (by rw[←hH];exact cell_lt (h1 i hi)))).trans (h1 i hi)⟩))
   have HH:=Lib.hid (And.intro hH hwa);clear hs ho hRP hws hob hzb hH hwa hwl hwn hsl
   go_wp2_with (fail)
   refine Calls.mono HM.out ?_;rintro e w' ⟨rfl,hR⟩;have hR2:RowKit.Hid (NewStr wa (stripesN wl) (begunL ws) w'):=Lib.hid ⟨hR.rep,hR.size,hR.old⟩;clear hR;rw[show(re wa τ d).heap.size=H+1 from HH.out.2];go_wp2;exact⟨rfl,rfl,hR2.out⟩
 rintro t wb ⟨rfl,hR⟩;have hrep:=hR.rep;have hwb:=hR.size;have hobb:∀b,b<H->wb.heap[b]?=w.heap[b]?:=λb hb=>(hR.old b (by omega)).trans (hob b hb);have hzb2:wb.heap[H]?=some (.cells #[.slice none 0 0,.slice none 0 0,.slice none 0 0,.bool false] 31):=(hR.old H (by omega)).trans hzb;rw[hwa]at hrep hwb;clear hR hzb hob hwa;have hlt:∀b o,RP b=some o->b<H:=λb o h=>by rw[←hH];exact heap_lt (hRP b o h)
 have hnf:∀b,(strCore (H+1+1) (some (H+1)) (stripesN wl)).foot (begunL ws) b->H+1<=b:=λb hb=>by
  rcases hb with e|e
  · omega
  · injection e with e;omega
 have hB:BRep (strCore (H+1+1) (some (H+1)) (stripesN wl)) RP ⟨begunL ws,λ_ _=>none⟩ wb:=by
  refine⟨hrep,λi b o h=>(by cases h),λb o h=>(hobb b (hlt b o h)).trans (hRP b o h),λi b h=>absurd rfl h,λi j b _ h=>absurd rfl h,λb h hf=>?_,λi b _=>rfl⟩;cases ho:RP b with
  |none=>exact h ho
  |some o=>have:=hlt b o ho;have:=hnf b hf;omega
 have hOp:OpsAt wb RP pp np N sp L Cp ops:=by
  refine⟨ho.eq,ho.le,λh0=>?_,ho.row,ho.len,ho.op⟩;obtain⟨tb,to',e,h1⟩:=ho.at' h0;exact⟨tb,to',e,λi hi=>(cell_of_same (hobb tb (by rw[←hH];exact cell_lt (h1 i hi)))).trans (h1 i hi)⟩
 have hsc:sched≠[]->∃sb off,scp=some ⟨sb,off,none⟩/\¬(strCore (H+1+1) (some (H+1)) (stripesN wl)).foot (begunL ws) sb/\∀j x,sched[j]?=some x->wb.cell? ⟨sb,off+j,none⟩=some (.int .i64 x):=λh0=>by
  obtain⟨sb,off,e,h2⟩:=hs h0;obtain⟨x,l,hsl⟩:=List.exists_cons_of_ne_nil h0;have hlt:sb<H:=by rw[←hH];exact cell_lt (h2 0 x (by rw[hsl];rfl))
  exact⟨sb,off,e,λhf=>by have:=hnf sb hf;omega,λj x hj=>(cell_of_same (hobb sb hlt)).trans (h2 j x hj)⟩
 have hst:=stripesN_pos wl;clear ho hs hRP hlt hws;refine hJ.ctl (s:=n) (λw=>stepG_seq) ?_;obtain⟨u0,hu0⟩:∃c,headC (splT 2)=c:=⟨_,rfl⟩;have eu0:=hu0;rw[hu0];simp only[splT,headC,tailN,Try.f10,al_od]at eu0;subst eu0;clear hu0;refine hJ.ctl (s:=n) (λw=>stepG_region) ?_;have HX:=Lib.hid (And.intro hB (And.intro hOp (And.intro hsc (And.intro hnf (And.intro hobb (And.intro hzb2 hwb))))));have HE:=Lib.hid (And.intro hwl (And.intro hH (And.intro hst hrep.len)));clear hB hOp hsc hnf hobb hzb2 hwb hwl hH hst hrep;refine at_piece (s:=n) (by decide) hJ (zq6 _) true (.inl rfl) 0 5 3 rfl rfl rfl (by rfl) ?_;intro τ d;simp only[List.drop_zero,List.take_succ_cons,List.take_zero];go_wp2;simp only[contAt];refine hJ.re' n _ _ τ d ?_;refine at_call (by decide) hJ (s:=n) rfl rfl (f:=26) (args:=#[.slice pp np Cn,.func (.func 27) #[.pointer (some ⟨H+1+1,0,none⟩)] #[],.slice scp sched.length Cs,.int .i64 mo]) (λτ d=>?_) (λτ d=>?_) ?_
 · simp[go_sem,execOp,Act.eval,resolve,Deferred.ofValue,invoke,callFunc,Try.func26,Try.f26]
 · intro e he;simp[go_sem,execOp,Act.eval,resolve,Deferred.ofValue,invoke,callFunc,Try.func26,Try.f26,Sem.runT_eq]at he
 obtain⟨hB,hOp,hsc,hnf,hobb,hzb2,hwb⟩:=HX.out;obtain⟨hwl,hH,hst,hlen⟩:=HE.out;refine ops_calls hFin hn plainM rowsM (fn:=Try.f27) (cc:=(Try.f27.body).getD .skip) Try.func27 rfl rfl hB hOp hsl hsc (dop:=λ_=>doP (stripesN wl)) (λi op k=>doP_deep _ _ _) (λro ab pr st cr rest EN i o op _ _=>do_turn hst.1 hst.2 ro pr st cr rest EN i o op) ?_;intro ab v l' am w2 hO;rw[Frame.finish_at]
 walk_nrm
 have hTe:playT (λi=>opsP i (doP (stripesN wl)) (ops i)) N (min mo.toNat 1048576) sched ((strCore (H+1+1) (some (H+1)) (stripesN wl)).st (begunL ws),λ_=>[])=strT ws ops N mo sched:=by
  unfold strT strPr;rw[hwl];rfl
 rw[hTe]at hO ⊢;obtain⟨pv',cv',rfl,_⟩:=own_slice hO.row;have hl':(strT ws ops N mo sched).s.1=l':=hO.st.symm;have hze:w2.heap[H]?=some (.cells #[.slice none 0 0,.slice none 0 0,.slice none 0 0,.bool false] 31):=(hO.old H (by omega) (λh=>by have:=hnf H h;omega)).trans hzb2;generalize (strT ws ops N mo sched).ord.length=nv' at hO ⊢;have HO:=Lib.hid hO;have HZ:=Lib.hid (And.intro hze hl');obtain⟨stuck,hstuck⟩:∃x,decide (0<leftN (strT ws ops N mo sched).ov N)=x:=⟨_,rfl⟩;rw[hstuck];have HST:=Lib.hid hstuck;clear hstuck hO hze hl' hTe hB hOp hsc hnf hobb hzb2 hwb hwl hH hst hlen;have hwl:=HE.out.1;refine at_piece (s:=n+N) (by decide) hJ (zq6 _) false (.inr rfl) 6 2 0 rfl rfl rfl (by rfl) ?_;intro τ d;simp only[List.drop_succ_cons,List.drop_zero,List.take_succ_cons,List.take_zero];have HO2:=Lib.hid (HO.out.re τ d);have HZ2:RowKit.Hid ((re w2 τ d).heap[H]?=some (.cells #[.slice none 0 0,.slice none 0 0,.slice none 0 0,.bool false] 31)/\(strT ws ops N mo sched).s.1=l'):=Lib.hid HZ.out;clear HO HZ;generalize re w2 τ d=w3 at HO2 HZ2 ⊢;go_wp2;simp only[contAt];refine hJ.ctl (s:=n+N) (λw=>stepG_region_end) ?_;have hT:=al_new w3 (.cells #[.slice (some ⟨ab,0,none⟩) N N,.slice pv' nv' cv',.slice none 0 0,.bool stuck] 31);have hoT:∀b,b<w3.heap.size->(w3.alloc (.cells #[.slice (some ⟨ab,0,none⟩) N N,.slice pv' nv' cv',.slice none 0 0,.bool stuck] 31)).heap[b]?=w3.heap[b]?:=λb hb=>by rw[zq2,if_neg (by omega)]
 have hsT:(w3.alloc (.cells #[.slice (some ⟨ab,0,none⟩) N N,.slice pv' nv' cv',.slice none 0 0,.bool stuck] 31)).heap.size=w3.heap.size+1:=zq3 _ _;generalize (w3.alloc (.cells #[.slice (some ⟨ab,0,none⟩) N N,.slice pv' nv' cv',.slice none 0 0,.bool stuck] 31))=w4 at hT hoT hsT ⊢;obtain⟨T,hTT⟩:∃T,w3.heap.size=T:=⟨_,rfl⟩;rw[hTT]at hT hoT hsT ⊢;have HT:=Lib.hid (And.intro hT (And.intro hoT (And.intro hsT hTT)));clear hT hoT hsT hTT;refine at_rest_lone hJ hC plainM (by kernel_rfl) (λv w'=>∃sv am,v=.agg #[.slice (some ⟨ab,0,none⟩) N N,.slice pv' nv' cv',sv,.bool stuck]/\PlayedR N w (strT ws ops N mo sched) (strT ws ops N mo sched).s.1 ab (.slice pv' nv' cv') sv am w') (λv w' τ d⟨sv,am,h1,h2⟩=>⟨sv,am,h1,h2.re τ d⟩) rfl Try.func10 (λτ d=>?_) ?_
 · obtain⟨u0,hu0⟩:∃c,splT 3=c:=⟨_,rfl⟩;have eu0:=hu0;rw[hu0];simp only[splT,headC,tailN,Try.f10,al_od]at eu0;subst eu0;clear hu0;obtain⟨hT,hoT,hsT,hTT⟩:=HT.out;have hT':(re w4 τ d).heap[T]?=some (.cells #[.slice (some ⟨ab,0,none⟩) N N,.slice pv' nv' cv',.slice none 0 0,.bool stuck] 31):=hT;have hoT':∀b,b<T->(re w4 τ d).heap[b]?=w3.heap[b]?:=hoT;have hsT':(re w4 τ d).heap.size=T+1:=hsT;have hHl:H<T:=by rw[←hTT];exact heap_lt HZ2.out.1
   have hall:=all_lone ((strCore (H+1+1) (some (H+1)) (stripesN wl)).frame _ _ _ HO2.out.rep λb hb=>hoT' b (by rw[←hTT];exact(strCore (H+1+1) (some (H+1)) (stripesN wl)).lt _ _ _ HO2.out.rep hb));generalize re w4 τ d=w5 at hT' hoT' hsT' hall ⊢;have HA:=Lib.hid hall;have HW:=Lib.hid (And.intro hT' (And.intro hoT' (And.intro hsT' (And.intro hTT hHl))));clear hT hoT hsT hTT hT' hoT' hsT' hall HT hHl hwl hm
   go_wp2_with (fail)
   refine Calls.mono HA.out ?_;rintro e w6 ⟨sv,rfl,hI⟩;obtain⟨sp',sc',rfl,-,-⟩:=own_slice hI.row;obtain⟨sl,hsl'⟩:∃x,l'.length=x:=⟨_,rfl⟩;rw[hsl']at hI ⊢;have hI2:=Lib.hid (And.intro hI hsl');clear hsl';have b1:w6.heap[T]?=some (.cells #[.slice (some ⟨ab,0,none⟩) N N,.slice pv' nv' cv',.slice none 0 0,.bool stuck] 31):=(hI.old T (by have:=HW.out.2.2.1;omega)).trans HW.out.1;have b0:w6.heap[H]?=some (.cells #[.slice none 0 0,.slice none 0 0,.slice none 0 0,.bool false] 31):=(hI.old H (by have:=HW.out.2.2.1;have:=HW.out.2.2.2.2;omega)).trans ((HW.out.2.1 H HW.out.2.2.2.2).trans HZ2.out.1);have hne:¬(T=H):=by have:=HW.out.2.2.2.2;omega
   have hne2:¬(H=T):=by omega
   clear hI;have c0:=(zq0 (off:=0) b1).trans rfl;have c1:=(zq0 (off:=1) b1).trans rfl;have c2:=(zq0 (off:=2) b1).trans rfl;have c3:=(zq0 (off:=3) b1).trans rfl;have y2:=zq5 (off:=2) b1;have r0:=(zq0 (off:=0) b0).trans rfl;have r1:=(zq0 (off:=1) b0).trans rfl;have r2:=(zq0 (off:=2) b0).trans rfl;have r3:=(zq0 (off:=3) b0).trans rfl;have z0:=zq5 (off:=0) b0;have z1:=zq5 (off:=1) b0;have z2:=zq5 (off:=2) b0;have z3:=zq5 (off:=3) b0;have B0:=Lib.hid b0;have B1:=Lib.hid b1;clear b0 b1;go_wp2;clear c0 c1 c2 c3 y2 r0 r1 r2 r3 z0 z1 z2 z3;have b0:(w6.setCell ⟨T,2,none⟩ (.slice sp' sl sc')).heap[H]?=some (.cells #[.slice none 0 0,.slice none 0 0,.slice none 0 0,.bool false] 31):=by rw[hp_set_ne _ _ _ _ hne2];exact B0.out
   have b1':=hp_set_same _ H 0 (.slice (some ⟨ab,0,none⟩) N N) b0;have b2':=hp_set_same _ H 1 (.slice pv' nv' cv') b1';have b3':=hp_set_same _ H 2 (.slice sp' sl sc') b2';have b4':=hp_set_same _ H 3 (.bool stuck) b3';have hext:∀x,x≠T->x≠H->(((((w6.setCell ⟨T,2,none⟩ (.slice sp' sl sc')).setCell ⟨H,0,none⟩ (.slice (some ⟨ab,0,none⟩) N N)).setCell ⟨H,1,none⟩ (.slice pv' nv' cv')).setCell ⟨H,2,none⟩ (.slice sp' sl sc')).setCell ⟨H,3,none⟩ (.bool stuck)).heap[x]?=w6.heap[x]?:=λx hx1 hx=>by
    rw[hp_set_ne _ _ _ _ hx,hp_set_ne _ _ _ _ hx,hp_set_ne _ _ _ _ hx,hp_set_ne _ _ _ _ hx,hp_set_ne _ _ _ _ hx1]
   have hsz8:(((((w6.setCell ⟨T,2,none⟩ (.slice sp' sl sc')).setCell ⟨H,0,none⟩ (.slice (some ⟨ab,0,none⟩) N N)).setCell ⟨H,1,none⟩ (.slice pv' nv' cv')).setCell ⟨H,2,none⟩ (.slice sp' sl sc')).setCell ⟨H,3,none⟩ (.bool stuck)).heap.size=w6.heap.size:=by simp only[hp_size_set]
   generalize (((((w6.setCell ⟨T,2,none⟩ (.slice sp' sl sc')).setCell ⟨H,0,none⟩ (.slice (some ⟨ab,0,none⟩) N N)).setCell ⟨H,1,none⟩ (.slice pv' nv' cv')).setCell ⟨H,2,none⟩ (.slice sp' sl sc')).setCell ⟨H,3,none⟩ (.bool stuck))=w8 at b4' hext hsz8 ⊢;clear b1' b2' b3' b0;have k0:=(zq0 (off:=0) b4').trans rfl;have k1:=(zq0 (off:=1) b4').trans rfl;have k2:=(zq0 (off:=2) b4').trans rfl;have k3:=(zq0 (off:=3) b4').trans rfl;obtain⟨_,hoT,hsT,hTT,hHl⟩:=HW.out;obtain⟨hI,hsl2⟩:=hI2.out;have hwl:=HE.out.1;obtain⟨hB,hOp,hsc,hnf,hobb,hzb2,hwb⟩:=HX.out;have hrow:w8.ownsRow w3.heap.size 2 1 (.slice sp' sl sc') (strT ws ops N mo sched).s.1.length ((strT ws ops N mo sched).s.1.map (Value.int .i64)):=by
    rw[HZ2.out.2,hsl2];have hrI:=hI.row;rw[hsl2]at hrI;have q:w8.ownsRow w5.heap.size 2 1 (.slice sp' sl sc') sl (l'.map (Value.int .i64)):=ownsRow_of hrI λg hg=>by
     have h1:=(own_lt hrI hg).2.1;exact hext g (by omega) (by omega)
    exact ownsRow_base q (by omega)
   have hfin:PlayedR N w (strT ws ops N mo sched) (strT ws ops N mo sched).s.1 ab (.slice pv' nv' cv') (.slice sp' sl sc') am w8:=by
    refine played_of HO2.out HE.out.2.1 (by omega) hobb hnf (by have:=hI.size;omega) (λx hx hxH=>?_) hrow;rw[hext x (by omega) hxH,hI.old x (by omega)];exact hoT x (by omega)
   refine⟨rfl,.agg #[.slice (some ⟨ab,0,none⟩) N N,.slice pv' nv' cv',.slice sp' sl sc',.bool stuck],?_,_,rfl,_,_,rfl,hfin⟩;simp only[results,Try.f10];simp[go_sem,k0,k1,k2,k3]
 · rintro v w' ⟨sv,am,rfl,h⟩;have h2:=hm.out _ _ sv am w' h;rw[HST.out]at h2;exact h2
end Go.Proofs
set_option maxHeartbeats 4000000
set_option maxRecDepth 100000
namespace Go.Proofs
open Go Go.Conc Go.RowKit Go.Car Go.ChangeShapes Go.WideShapes Go.Deep
theorem add_at{a:Addr}(h:a.spot=none)(i:Nat):a.add i=⟨a.block,a.off+i,none⟩:=by
 obtain⟨b,o,s⟩:=a;simp only at h;subst h;unfold Addr.add;split
 · rename_i e;rw[e];rfl
 · rfl
theorem spot_none{w:World}{a:Addr}{v:Value}(h:w.cell? a=some v):a.spot=none:=by
 unfold World.cell? at h;split at h
 · split at h
   · cases h
   · rename_i hh;simpa using hh
 · cases h
theorem spot_add{w:World}{a:Addr}{v:Value}(h:w.cell? (a.add 0)=some v):a.spot=none:=spot_none (a:=a) (by simpa[Addr.add]using h)
def lenD{H:Type}:DataW H->Nat
 |.slice e _=>e.length
 |_=>0
def ThrIn(w:World)(pp:Option Addr)(n:Nat)(tops:Nat->List OpX):Prop:=
 0<n->∃pb po,pp=some ⟨pb,po,none⟩/\∀i,i<n->∃q C,w.cell? ⟨pb,po+i,none⟩=some (.slice q (tops i).length C)/\((tops i).length<=C/\(q=none->C=0))/\
  ((tops i)≠[]->∃gb go,q=some ⟨gb,go,none⟩/\∀(k:Nat)(c:OpX),(tops i)[k]?=some c->∀j,j<4->w.cell? ⟨gb,go+k*4+j,none⟩=c.cells[j]?)
section
variable {H:Type} {enc:TypeId×Value->H} {P:Program} {w:World} {held:Bool} {sp:Nat->Bool}
theorem ints_open{t e:TypeId}(ht:P.underlying t=some (.slice e))(he:P.underlying e=some (.int .i64))(hc:P.cellsOf e=1){a0:Option Addr}{len cap:Nat}{d:DataW H}{ps:List MemPlace}{fuel:Nat}
 (h:DataW.trod enc P w 0 sp held fuel t [.slice a0 len cap]=some (d,ps)):∃l:List Int,l.length=len/\IntsAt w (.slice a0 len cap) l/\lenD d=len:=by
 rcases open_ints ht he hc h with⟨hcs,hx⟩|⟨a,len',cap',zs,hcs,_,hl,hm,hz,hx,hcell,_⟩
 · simp only[List.cons.injEq,Value.slice.injEq,and_true]at hcs;obtain⟨rfl,rfl,rfl⟩:=hcs;cases hx;exact⟨[],rfl,⟨none,0,rfl,λh=>absurd rfl h⟩,rfl⟩
 · simp only[List.cons.injEq,Value.slice.injEq,and_true]at hcs;obtain⟨rfl,rfl,rfl⟩:=hcs;cases hx;have hlz:len<=zs.length:=by rw[hz];split<;>omega
   have hlt:(zs.take len).length=len:=by rw[List.length_take];omega
   refine⟨zs.take len,hlt,⟨some a,cap,by rw[hlt],λhne=>?_⟩,by simp[lenD,lits,hlt];omega⟩;have h0:0<len:=by rw[←hlt];exact List.length_pos_iff.2 hne
   have hs:=spot_add (hcell 0 (by omega));refine⟨a.block,a.off,by obtain⟨b,o,s⟩:=a;simp only at hs;rw[hs],λi hi=>?_⟩;rw[hlt]at hi;have:=hcell i (by omega);rw[add_at hs]at this;rw[this];simp[List.getD_eq_getElem?_getD,List.getElem?_take,hi]
end
end Go.Proofs
set_option maxHeartbeats 1000000
set_option maxRecDepth 100000
namespace Go.Proofs
open Go Go.Conc Go.RowKit Go.Car
theorem cell_inv{w:World}{b o:Nat}{v:Value}(h:w.cell? ⟨b,o,none⟩=some v):∃cur e fr,w.heap[b]?=some (.cells cur e fr)/\cur[o]?=some v:=by
 unfold World.cell? at h;split at h
 · rename_i c e fr hh;exact⟨c,e,fr,hh,by simpa using h⟩
 · cases h
theorem thr_args{W:World}{pp:Option Addr}{np:Nat}{tops:Nat->List OpX}(h:ThrIn W pp np tops)(hn:np<=4611686018427387904)(hl:∀i,i<np->(tops i).length<=1048576):
 ∃(sp:Nat->Option Addr)(Cp:Nat->Nat),OpsAt W (λb=>W.heap[b]?) pp np (min np 64) sp (λi=>(tops i).length) Cp (λi=>(tops i).take 65536)/\
  RunIn W.heap.size W pp np (min np 64) sp (λi=>(tops i).length) Cp (λi=>.slice (sp i) (min (tops i).length 65536) (Cp i)) (λi=>(tops i).take 65536):=by
 by_cases h0:0<np
 · obtain⟨pb,po,rfl,hc⟩:=h h0;obtain⟨f,hf⟩:∃f:Nat->Option Addr×Nat,∀i,i<np->W.cell? ⟨pb,po+i,none⟩=some (.slice (f i).1 (tops i).length (f i).2)/\((tops i).length<=(f i).2/\((f i).1=none->(f i).2=0))/\((tops i)≠[]->∃gb go,(f i).1=some ⟨gb,go,none⟩/\∀(k:Nat)(c:OpX),(tops i)[k]?=some c->∀j,j<4->W.cell? ⟨gb,go+k*4+j,none⟩=c.cells[j]?):=by
    classical
    refine⟨λi=>if h:i<np then((hc i h).choose,(hc i h).choose_spec.choose)else(none,0),λi hi=>?_⟩;simp only[hi,dif_pos];exact(hc i hi).choose_spec.choose_spec
   have hne:∀{i k:Nat}{op:OpX},((tops i).take 65536)[k]?=some op->tops i≠[]/\(tops i)[k]?=some op:=λ{i k op}hop=>by
    rw[List.getElem?_take]at hop;split at hop
    · exact⟨λe=>by rw[e]at hop;simp at hop,hop⟩
    · cases hop
   refine⟨λi=>(f i).1,λi=>(f i).2,⟨rfl,hn,λ_=>⟨pb,po,rfl,λi hi=>(hf i (by omega)).1⟩,λi hi=>?_,λi hi=>by rw[List.length_take,Nat.min_comm],λi hi k op hop=>?_⟩,⟨rfl,hn,λ_=>⟨pb,po,rfl,cell_lt (hf 0 h0).1,λi hi=>(hf i (by omega)).1⟩,λi hi=>?_,λi hi=>by rw[List.length_take,Nat.min_comm],λi hi=>rfl,λi hi=>?_⟩⟩
   · obtain⟨_,h1,_⟩:=hf i (by omega);exact⟨h1.1,by have:=hl i (by omega);omega,λe=>⟨by have:=h1.2 e;omega,h1.2 e⟩⟩
   · obtain⟨_,h1,h2⟩:=hf i (by omega);obtain⟨hn1,hop'⟩:=hne hop;obtain⟨gb,go,e,h3⟩:=h2 hn1;obtain⟨cur,e2,fr,hh,-⟩:=cell_inv (h3 k op hop' 0 (by decide));refine⟨gb,go,cur,e2,fr,e,hh,λj hj=>?_⟩;rw[←zq0 hh];exact h3 k op hop' j hj
   · obtain⟨_,h1,h2⟩:=hf i (by omega);exact⟨h1.1,by have:=hl i (by omega);omega,λhlt=>by
      obtain⟨gb,go,e,_⟩:=h2 (List.length_pos_iff.1 hlt);exact⟨gb,go,e⟩⟩
   · obtain⟨_,h1,h2⟩:=hf i (by omega);refine⟨(f i).1,(f i).2,by rw[List.length_take,Nat.min_comm],λk op hop=>?_⟩;obtain⟨hn1,hop'⟩:=hne hop;obtain⟨gb,go,e,h3⟩:=h2 hn1;exact⟨gb,go,e,cell_lt (h3 k op hop' 0 (by decide)),h3 k op hop' 0 (by decide),h3 k op hop' 1 (by decide),h3 k op hop' 2 (by decide),h3 k op hop' 3 (by decide)⟩
 · obtain rfl:np=0:=by omega
   exact⟨λ_=>none,λ_=>0,⟨rfl,hn,λh=>absurd h h0,λi hi=>absurd hi (Nat.not_lt_zero _),λi hi=>absurd hi (Nat.not_lt_zero _),λi hi=>absurd hi (Nat.not_lt_zero _)⟩,⟨rfl,hn,λh=>absurd h h0,λi hi=>absurd hi (Nat.not_lt_zero _),λi hi=>absurd hi (Nat.not_lt_zero _),λi hi=>absurd hi (Nat.not_lt_zero _),λi hi=>absurd hi (Nat.not_lt_zero _)⟩⟩
theorem OpsAt.beyond {w w':World}{RP:Nat->Option Obj}{pp:Option Addr}{n N:Nat}{sp:Nat->Option Addr}{L Cp:Nat->Nat}{ops:Nat->List OpX}(h:OpsAt w RP pp n N sp L Cp ops)(hb:Beyond w w'):OpsAt w' RP pp n N sp L Cp ops:=
 ⟨h.eq,h.le,λh0=>by
  obtain⟨tb,to',e,h1⟩:=h.at' h0;exact⟨tb,to',e,λi hi=>hb.cell (h1 i hi)⟩,h.row,h.len,h.op⟩
theorem begun_len(ws:List Int):(begunL ws).length=stripesN ws.length:=by
 rw[begunL_eq];unfold stripesN;split
 · rename_i h;rw[h];rfl
 · rename_i h;have:0<ws.length:=List.length_pos_iff.2 h;rw[List.length_take];omega
theorem leftN_same{f g:Nat->Bool}:∀n,(∀i,i<n->f i=g i)->leftN f n=leftN g n:=by
 intro n
 induction n with
 |zero=>exact λ_=>rfl
 |succ n ih=>
  intro h;unfold leftN;rw[ih λi hi=>h i (by omega),h n (Nat.lt_succ_self n)]
theorem plays_same(ws:List Int)(ops:Nat->List OpX)(N:Nat)(mo:Int)(sched:List Int):
 (strT ws ops N mo sched).s.1=(playR ops N (min mo.toNat 1048576) sched (begunL ws)).C/\(∀i,(strT ws ops N mo sched).s.2 i=((playR ops N (min mo.toNat 1048576) sched (begunL ws)).T i).ans)/\
  (strT ws ops N mo sched).ord=(playR ops N (min mo.toNat 1048576) sched (begunL ws)).ord/\leftN (strT ws ops N mo sched).ov N=leftN (ovR (playR ops N (min mo.toNat 1048576) sched (begunL ws))) N:=by
 have h0:0<(begunL ws).length:=by rw[begun_len];exact(stripesN_pos _).1
 have h:=play_ref (N:=N) (ops:=ops) (most:=min mo.toNat 1048576) h0 sched;rw[begun_len]at h;exact⟨h.c,h.ans,h.ord,leftN_same N λi hi=>(h.thr i hi).2.1⟩
end Go.Proofs
set_option maxHeartbeats 1000000
namespace Go.Car
open Go Go.Conc Go.RowKit
open Go.ConcN (upd upd_ne upd_same)
section
variable {P:Program} {main:Bool} {γ:Type} {J:γ->Goroutine->World->Prop}
end
section
variable {P:Program} {main:Bool} {γ:Type} {J:γ->Goroutine->World->Prop}
end
section
variable {P:Program} {main:Bool} {γ:Type} {J:γ->Goroutine->World->Prop}
end
end Go.Car
set_option maxHeartbeats 8000000
set_option maxRecDepth 100000
namespace Go.Proofs
open Go Go.Conc Go.RowKit Go.Car
open Go.ConcN (upd upd_ne upd_same)
section
variable {W0:World} {n0 N:Nat} {spec:List Value} {R:RS} {stk:Bool} {s:Nat} {L:Nat->Bool} {vals:List Value} {w w':World}
end
end Go.Proofs
set_option maxHeartbeats 4000000
set_option maxRecDepth 100000
namespace Go.Proofs
open Go Go.Conc Go.RowKit Go.Car
section
variable {Ml S α:Type} {C:Core Ml S} {ro:Nat->Option Obj} {i:Nat}
theorem step_nil{main:Bool}{Kc:Addr->Option Value}{J:Goroutine->World->Prop}(hJ:JS Try.prog main Kc (λ(_:Unit)=>J))(hC:CalmJ Try.prog main (λ(_:Unit)=>J))(m₀:BM Ml)(w₀:World)(T:S×Option α×Nat):
 StepY (seqSys plainM hJ hC C ro i 0 m₀ w₀ T) 33 #[.nilIface]:=by
 obtain⟨Y,hY⟩:∃Y,seqSys plainM hJ hC C ro i 0 m₀ w₀ T=Y:=⟨_,rfl⟩;have hskip:∀(K:Unit->Proc S α)(s:Y.γ)(B:Nat->Option Obj)(w:World),Y.AtB B s w (Proc.tick.bind K)->Y.AtB B s w (K ()):=by
  subst hY;rintro K s B w ⟨m,h1,h2,h3⟩;exact⟨m,h1,LoneAt.skip h2,h3⟩
 rw[hY];clear hY;intro K s m w hA;refine BodyY.calls ⟨_,_,Try.func33,rfl,?_⟩;simp only[enterAct,Try.ntmps33,List.size_toArray,List.length_cons,List.length_nil,Nat.reduceAdd,Nat.reduceSub,Array.replicate_succ,Array.replicate_zero,List.push_toArray,List.append_toArray,List.nil_append,List.cons_append];have hA:Y.AtB (m.box i) s w (Proc.tick.bind K):=⟨m,rfl,hA⟩;obtain⟨B,hB0⟩:∃B,m.box i=B:=⟨_,rfl⟩;rw[hB0]at hA ⊢;clear hB0;apply YSys.seq0 hA (by kernel_rfl)
 · intro wc hB;go_wp2;exact⟨rfl,Ext1.refl _,rfl⟩
 intro w hA;refine wpY_cond Y.jc rfl ?_;rw[if_neg (by decide)];refine wpY_skip Y.jc ?_;have h:=hskip K s B w hA;exact⟨rfl,.inl ⟨_,resultsC_none rfl _,(),h.choose,rfl,h.choose_spec⟩⟩
end
def unitCore:Core Unit Unit where
 foot _ _:=False
 Rep _ _:=True
 st l:=l
 frame _ _ _ h _:=h
 lt _ _ _ _ hb:=hb.elim
 pin _:=0
section
variable {M2 S2 α:Type} {D:Core M2 S2} {cb:Nat} {z:Option Nat} {N:Nat}
end
section
variable {α:Type} {cb:Nat} {z:Option Nat} {N:Nat} {l:List Int}
structure StrAft(cb:Nat)(z:Option Nat)(N:Nat)(l':List Int)(w w':World):Prop where
 rep:StrRep cb z N l' w'
 size:w.heap.size<=w'.heap.size
 old:∀b,b<w.heap.size->b≠cb->z≠some b->w'.heap[b]?=w.heap[b]?
end
theorem str_nilJ{Fin:Machine->Trace->Prop}(hFin:Back Try.prog Fin){n:Nat}{α:Type}{cb:Nat}{z:Option Nat}{N:Nat}{l:List Int}{f:FuncId}{args:Array Value}{p:Proc (List Int×Unit) α}{val:α->Value}{w:World}{a:α}{l':List Int}(hspec:∀Y:YSys Try.prog aM (prodCore (strCore cb z N) unitCore) (λ_=>none) 0 α,StrAtoms Y .nilIface->SpecY Y f args p val)(hT:(p.run (l,())).2.1=some a)(hl':(p.run (l,())).1.1=l')(h:StrRep cb z N l w){cl:Frame}{cs:List Frame}
 (hq:∀w',StrAft cb z N l' w w'->J0 Try.prog Fin n (G (cl.finish (val a)) cs) w'):J0 Try.prog Fin n (G (Frame.enter Try.prog f args .normal) (cl::cs)) w:=by
 have hJ:JS Try.prog true (λ_=>none) (λ(_:Unit)=>J0 Try.prog Fin n):=⟨λ_ g w τ d h=>(j0_JS hFin).re' n g w τ d h,λ_ g w h1 h2=>(j0_JS hFin).step n g w h1 h2⟩;have hC:CalmJ Try.prog true (λ(_:Unit)=>J0 Try.prog Fin n):=λ_ fr cs w h=>j0_calm hFin n fr cs w h;have hpos:=h.pos;have hle:=h.le;refine seq_calls (C:=prodCore (strCore cb z N) unitCore) (ro:=λ_=>none) (i:=0) (p:=p) (val:=val) (m₀:=⟨(l,()),λ_ _=>none⟩) plainM hJ hC ⟨⟨h,trivial,λb _ hb=>hb⟩,λi b o h=>(by cases h),λb o h=>(by cases h),λi b h=>absurd rfl h,λi j b _ h=>absurd rfl h,λb h=>absurd rfl h,λi b h=>rfl⟩ ⟨a,hT⟩ 0 (hspec _ (atoms_of_alone _ (λ_ _ _ _=>trivial) (λ_ _ _=>trivial) hpos hle (step_nil _ _ _ _ _))) ?_;intro a' m' w' _ hL;obtain⟨n',h1,_,_⟩:=hL.run;simp only[Tree.run,Prod.mk.injEq]at h1;obtain⟨h1,h2,rfl⟩:=h1;have e1:a'=a:=Option.some.inj (h2.trans hT);subst e1;have e2:m'.l.1=l':=(congrArg Prod.fst h1).trans hl';refine hq w' ⟨e2▸hL.rep.core.1,hL.size,λb hb h6 h7=>hL.old b hb ?_⟩;rintro(((h8|h8)|h8)|h9|h9)
 · exact h6 h8
 · exact h7 h8
 · exact h8.elim
 · exact h9.elim λi h=>absurd rfl h
 · exact absurd rfl h9
end Go.Proofs
