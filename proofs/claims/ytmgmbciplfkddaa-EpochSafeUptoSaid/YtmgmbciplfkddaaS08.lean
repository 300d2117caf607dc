/- YtmgmbciplfkddaaESaf16: part 8 of the proof (the texts behind it, in order). -/
import Derived.Test.YtmgmbciplfkddaaS07
set_option maxHeartbeats 4000000
set_option maxRecDepth 100000
set_option linter.all false
namespace Go.Proofs
open Go Go.Conc Go.RowKit Go.Car
open Go.ConcN (upd upd_ne upd_same)
theorem zq7x(t:TypeId)(w:World)(h:t=146\/t=151):(Instr.makeChan t (.int .i64 0)).run Try.prog w=.ok (.chan (some w.heap.size)) (w.alloc (.chan 0 #[] false 0 0 false)):=by
 rcases h with rfl |rfl
 . obtain⟨i,hi⟩:∃i,Try.prog.info? 74=some i:=⟨_,rfl⟩;exact run_makeChan (P:=Try.prog) (w:=w) (dir:=_) (show Try.prog.underlying _=some (.chan .both _)from by kernel_rfl) hi .i64 0 (by omega) (by omega)
 . obtain⟨i,hi⟩:∃i,Try.prog.info? 4=some i:=⟨_,rfl⟩;exact run_makeChan (P:=Try.prog) (w:=w) (dir:=_) (show Try.prog.underlying _=some (.chan .both _)from by kernel_rfl) hi .i64 0 (by omega) (by omega)
theorem mk_bools(w:World)(N:Nat)(hN:N<=64):∃br,(Instr.makeSlice 99 (.int .i64 N) (.int .i64 N)).run Try.prog w=.ok (.slice (some ⟨w.heap.size,0,none⟩) N N) (w.alloc (.cells br 4))/\∀i,i<N->br[i]?=some (.bool false):=by
 obtain⟨ti,hti,hz0,hz1,hz2⟩:∃ti,Try.prog.info? 4=some ti/\ti.zero=some (.bool false)/\ti.size=1/\ti.bytes=1:=⟨_,rfl,rfl,rfl,rfl⟩;have:=run_makeSlice (P:=Try.prog) w 99 4 ti (.bool false) (by kernel_rfl) hti hz0 .i64 .i64 N N (by omega) (Int.le_refl _) (by rw[hz1];simp;omega) (by rw[hz2];omega) (by omega);simp only[Int.toNat_natCast,hz1,Nat.mul_one]at this;refine⟨_,this,λi hi=>?_⟩;simp only[madeCells,Value.cells,Array.getElem?_map];simp[hi,Nat.mod_one]
theorem mk_turn(w:World)(c g N:Nat):(Instr.build 149 #[(0,.chan (some c)),(2,.slice (some ⟨g,0,none⟩) N N)]).run Try.prog w=.ok (.agg #[.chan (some c),.slice none 0 0,.slice (some ⟨g,0,none⟩) N N]) w:=run_build w _ _ _ (by kernel_rfl)
structure I3(B1 N:Nat)(T₀:Array Value)(w₀:World)(c g p x:Nat)(L:Nat->Bool)(T:Array Value)(w:World):Prop where
 size:T.size=129
 keep:∀t,t≠24->t≠25->t≠26->t≠27->t≠28->t≠10->T[t]?=T₀[t]?
 ge:B1<=w.heap.size
 old:∀b,b<B1->w.heap[b]?=w₀.heap[b]?
 l3:L 3=true->L 0=true/\L 2=true
 l4:L 4=true->L 3=true
 l6:L 6=true->L 4=true/\L 5=true
 h0:L 0=true->T[24]?=some (.chan (some c))/\w.heap[c]?=some (.chan 0 #[] false 0 0 false)/\B1<=c
 h1:L 1=true->T[25]?=some (.int .i64 N)
 h2:L 2=true->T[26]?=some (.slice (some ⟨g,0,none⟩) N N)/\(∃br,w.heap[g]?=some (.cells br 4)/\∀i,i<N->br[i]?=some (.bool false))/\B1<=g
 h3:L 3=true->T[27]?=some (.agg #[.chan (some c),.slice none 0 0,.slice (some ⟨g,0,none⟩) N N])
 h4:L 4=true->T[28]?=some (.pointer (some ⟨p,0,none⟩))/\w.heap[p]?=some (.cells #[.chan (some c),.slice none 0 0,.slice (some ⟨g,0,none⟩) N N] 149)/\B1<=p
 h5:L 5=true->T[10]?=some (.pointer (some ⟨x,0,none⟩))/\w.heap[x]?=some (.cells #[if L 6=true then .pointer (some ⟨p,0,none⟩)else .pointer none] 145)/\B1<=x
theorem zqt{w:World}{o:Obj}{b:Nat}{y:Obj}(h:w.heap[b]?=some y):(w.alloc o).heap[b]?=some y:=by
 rw[zqc,if_neg (by have:=zqi h;omega)];exact h
theorem zq13(w:World)(o:Obj):(w.alloc o).heap[w.heap.size]?=some o:=by rw[zqc,if_pos rfl]
theorem zqds{Fin:Machine->Trace->Prop}(hFin:Back Try.prog Fin){n N bn:Nat}{T₀:Array Value}{w:World}{rest:Code}{cs:List Frame}(hN:N<=64)(hsz:T₀.size=129)(f9:T₀[9]?=some (.pointer (some ⟨bn,0,none⟩)))(hn:w.cell? ⟨bn,0,none⟩=some (.int .i64 N))
 (hmain:∀(T:Array Value)(w':World)(c g p x:Nat),T.size=129->(∀t,t≠24->t≠25->t≠26->t≠27->t≠28->t≠10->T[t]?=T₀[t]?)->w.heap.size<=w'.heap.size->(∀b,b<w.heap.size->w'.heap[b]?=w.heap[b]?)->
  w.heap.size<=c->w.heap.size<=g->w.heap.size<=p->w.heap.size<=x->w'.heap[c]?=some (.chan 0 #[] false 0 0 false)->(∃br,w'.heap[g]?=some (.cells br 4)/\∀i,i<N->br[i]?=some (.bool false))->
  w'.heap[p]?=some (.cells #[.chan (some c),.slice none 0 0,.slice (some ⟨g,0,none⟩) N N] 149)->w'.heap[x]?=some (.cells #[.pointer (some ⟨p,0,none⟩)] 145)->T[10]?=some (.pointer (some ⟨x,0,none⟩))->
  J0 Try.prog Fin n (G ((bN 54).at ⟨T,[]⟩ [.code rest]) cs) w'):
 J0 Try.prog Fin n (G ((bN 54).at ⟨T₀,[]⟩ [.code (headC (overT 3)),.code rest]) cs) w:=by
 have hJ:=j0_JS hFin;obtain⟨c3,hc3⟩:∃c,headC (overT 3)=c:=⟨_,rfl⟩;have ec:=hc3;rw[hc3];simp only[overT,headC,tailN,Try.f54,al_od]at ec;subst ec;clear hc3;have hm:=Lib.hid hmain;clear hmain;refine zq6m hJ (by decide) (s:=n) (by rfl) (λL T w'=>∃c g p x,I3 w.heap.size N T₀ w c g p x L T w') (by kernel_rfl) ?_ ?_ ?_ ?_
 . rintro L T w' τ d ⟨c,g,p,x,h⟩;exact⟨c,g,p,x,⟨h.size,h.keep,h.ge,h.old,h.l3,h.l4,h.l6,h.h0,h.h1,h.h2,h.h3,h.h4,h.h5⟩⟩
 . exact⟨0,0,0,0,hsz,λ_ _ _ _ _ _ _=>rfl,Nat.le_refl _,λ_ _=>rfl,by simp,by simp,by simp,by simp,by simp,by simp,by simp,by simp,by simp⟩
 . rintro L T w' i o ⟨c,g,p,x,h⟩ hL ho hall;have hlt:i=0\/i=1\/i=2\/i=3\/i=4\/i=5\/i=6:=by have:i<7:=(Array.getElem?_eq_some_iff.1 ho).1;omega
   have hcN:w'.cell? ⟨bn,0,none⟩=some (.int .i64 N):=by rw[<-hn];exact zq17 (h.old bn (Go.Car.cell_lt hn))
   have f9':=(h.keep 9 (by omega) (by omega) (by omega) (by omega) (by omega) (by omega)).trans f9;have hs:=h.size;rcases hlt with rfl |rfl |rfl |rfl |rfl |rfl |rfl<;>(simp only[al_gl,al_g0,al_g1,al_oi]at ho;subst ho)
   ·
    have u:∀j,j≠0->upd L 0 true j=L j:=λj hj=>upd_ne _ _ hj;refine .inl ⟨24,rfl,.chan (some w'.heap.size),w'.alloc (.chan 0 #[] false 0 0 false),?_,w'.heap.size,g,p,x,by simp[hs],λt a1 a2 a3 a4 a5 a6=>(by rw[al_gn (by omega)];exact h.keep t a1 a2 a3 a4 a5 a6),(by rw[zq8];exact Nat.le_succ_of_le h.ge),λb hb=>(by rw[zqc,if_neg (by have:=h.ge;omega)];exact h.old b hb),λhh=>(by rw[u 3 (by omega)]at hh;have:=(h.l3 hh).1;rw[hL]at this;cases this),λhh=>(by rw[u 4 (by omega)]at hh;rw[u 3 (by omega)];exact h.l4 hh),λhh=>(by rw[u 6 (by omega)]at hh;rw[u 4 (by omega),u 5 (by omega)];exact h.l6 hh),
     λ_=>⟨by simp[hs],zq13 _ _,h.ge⟩,
     λhh=>(by rw[u 1 (by omega)]at hh;rw[al_gn (by omega)];exact h.h1 hh),
     λhh=>(by rw[u 2 (by omega)]at hh;obtain⟨q1,⟨br,q2,q4⟩,q3⟩:=h.h2 hh;exact⟨by rw[al_gn (by omega)];exact q1,⟨br,zqt q2,q4⟩,q3⟩),
     λhh=>(by rw[u 3 (by omega)]at hh;have:=(h.l3 hh).1;rw[hL]at this;cases this),
     λhh=>(by rw[u 4 (by omega)]at hh;have:=(h.l3 (h.l4 hh)).1;rw[hL]at this;cases this),
     λhh=>(by rw[u 5 (by omega)]at hh;obtain⟨q1,q2,q3⟩:=h.h5 hh;exact⟨by rw[al_gn (by omega)];exact q1,by rw[u 6 (by omega)];exact zqt q2,q3⟩)⟩
    simp only[execOp,Act.eval,Sem.run_bind,zq7x _ w' (.inl rfl)];rfl
   ·
    have u:∀j,j≠1->upd L 1 true j=L j:=λj hj=>upd_ne _ _ hj;refine .inl ⟨25,rfl,.int .i64 N,w',?_,c,g,p,x,by simp[hs],λt a1 a2 a3 a4 a5 a6=>(by rw[al_gn (by omega)];exact h.keep t a1 a2 a3 a4 a5 a6),h.ge,h.old,λhh=>(by rw[u 3 (by omega)]at hh;rw[u 0 (by omega),u 2 (by omega)];exact h.l3 hh),λhh=>(by rw[u 4 (by omega)]at hh;rw[u 3 (by omega)];exact h.l4 hh),λhh=>(by rw[u 6 (by omega)]at hh;rw[u 4 (by omega),u 5 (by omega)];exact h.l6 hh),
     λhh=>(by rw[u 0 (by omega)]at hh;obtain⟨q1,q2,q3⟩:=h.h0 hh;exact⟨by rw[al_gn (by omega)];exact q1,id q2,q3⟩),
     λ_=>(by simp[hs]),
     λhh=>(by rw[u 2 (by omega)]at hh;obtain⟨q1,⟨br,q2,q4⟩,q3⟩:=h.h2 hh;exact⟨by rw[al_gn (by omega)];exact q1,⟨br,id q2,q4⟩,q3⟩),
     λhh=>(by rw[u 3 (by omega)]at hh;rw[al_gn (by omega)];exact h.h3 hh),
     λhh=>(by rw[u 4 (by omega)]at hh;obtain⟨q1,q2,q3⟩:=h.h4 hh;exact⟨by rw[al_gn (by omega)];exact q1,id q2,q3⟩),
     λhh=>(by rw[u 5 (by omega)]at hh;obtain⟨q1,q2,q3⟩:=h.h5 hh;exact⟨by rw[al_gn (by omega)];exact q1,by rw[u 6 (by omega)];exact id q2,q3⟩)⟩
    simp only[execOp,Act.eval,al_gd,f9',al_od];clear hm;go_simp
   ·
    have a1:L 1=true:=hall ⟨1,.data⟩ (by simp) rfl;obtain⟨br,hbr,hbr2⟩:=mk_bools w' N hN;have u:∀j,j≠2->upd L 2 true j=L j:=λj hj=>upd_ne _ _ hj;refine .inl ⟨26,rfl,.slice (some ⟨w'.heap.size,0,none⟩) N N,w'.alloc (.cells br 4),?_,c,w'.heap.size,p,x,by simp[hs],λt a1 a2 a3 a4 a5 a6=>(by rw[al_gn (by omega)];exact h.keep t a1 a2 a3 a4 a5 a6),(by rw[zq8];exact Nat.le_succ_of_le h.ge),λb hb=>(by rw[zqc,if_neg (by have:=h.ge;omega)];exact h.old b hb),λhh=>(by rw[u 3 (by omega)]at hh;have:=(h.l3 hh).2;rw[hL]at this;cases this),λhh=>(by rw[u 4 (by omega)]at hh;rw[u 3 (by omega)];exact h.l4 hh),λhh=>(by rw[u 6 (by omega)]at hh;rw[u 4 (by omega),u 5 (by omega)];exact h.l6 hh),
     λhh=>(by rw[u 0 (by omega)]at hh;obtain⟨q1,q2,q3⟩:=h.h0 hh;exact⟨by rw[al_gn (by omega)];exact q1,zqt q2,q3⟩),
     λhh=>(by rw[u 1 (by omega)]at hh;rw[al_gn (by omega)];exact h.h1 hh),
     λ_=>⟨by simp[hs],⟨br,zq13 _ _,hbr2⟩,h.ge⟩,
     λhh=>(by rw[u 3 (by omega)]at hh;have:=(h.l3 hh).2;rw[hL]at this;cases this),
     λhh=>(by rw[u 4 (by omega)]at hh;have:=(h.l3 (h.l4 hh)).2;rw[hL]at this;cases this),
     λhh=>(by rw[u 5 (by omega)]at hh;obtain⟨q1,q2,q3⟩:=h.h5 hh;exact⟨by rw[al_gn (by omega)];exact q1,by rw[u 6 (by omega)];exact zqt q2,q3⟩)⟩
    simp only[execOp,Act.eval,al_gd,h.h1 a1,al_od,Sem.run_bind,hbr];rfl
   ·
    have a0:L 0=true:=hall ⟨0,.data⟩ (by simp) rfl;have a2:L 2=true:=hall ⟨2,.data⟩ (by simp) rfl;have u:∀j,j≠3->upd L 3 true j=L j:=λj hj=>upd_ne _ _ hj;refine .inl ⟨27,rfl,.agg #[.chan (some c),.slice none 0 0,.slice (some ⟨g,0,none⟩) N N],w',?_,c,g,p,x,by simp[hs],λt a1 a2 a3 a4 a5 a6=>(by rw[al_gn (by omega)];exact h.keep t a1 a2 a3 a4 a5 a6),h.ge,h.old,λ_=>⟨by rw[u 0 (by omega)];exact a0,by rw[u 2 (by omega)];exact a2⟩,λ_=>upd_same _ _ _,λhh=>(by rw[u 6 (by omega)]at hh;rw[u 4 (by omega),u 5 (by omega)];exact h.l6 hh),
     λhh=>(by rw[u 0 (by omega)]at hh;obtain⟨q1,q2,q3⟩:=h.h0 hh;exact⟨by rw[al_gn (by omega)];exact q1,id q2,q3⟩),
     λhh=>(by rw[u 1 (by omega)]at hh;rw[al_gn (by omega)];exact h.h1 hh),
     λhh=>(by rw[u 2 (by omega)]at hh;obtain⟨q1,⟨br,q2,q4⟩,q3⟩:=h.h2 hh;exact⟨by rw[al_gn (by omega)];exact q1,⟨br,id q2,q4⟩,q3⟩),
     λ_=>(by simp[hs]),
     λhh=>(by rw[u 4 (by omega)]at hh;obtain⟨q1,q2,q3⟩:=h.h4 hh;exact⟨by rw[al_gn (by omega)];exact q1,id q2,q3⟩),
     λhh=>(by rw[u 5 (by omega)]at hh;obtain⟨q1,q2,q3⟩:=h.h5 hh;exact⟨by rw[al_gn (by omega)];exact q1,by rw[u 6 (by omega)];exact id q2,q3⟩)⟩
    simp only[execOp,Act.eval,List.map_toArray,List.map_cons,List.map_nil,al_gd,(h.h0 a0).1,(h.h2 a2).1,al_od,Sem.run_bind,mk_turn];rfl
   ·
    have a3:L 3=true:=hall ⟨3,.data⟩ (by simp) rfl;have u:∀j,j≠4->upd L 4 true j=L j:=λj hj=>upd_ne _ _ hj;refine .inl ⟨28,rfl,.pointer (some ⟨w'.heap.size,0,none⟩),w'.alloc (.cells #[.chan (some c),.slice none 0 0,.slice (some ⟨g,0,none⟩) N N] 149),?_,c,g,w'.heap.size,x,by simp[hs],λt a1 a2 a3 a4 a5 a6=>(by rw[al_gn (by omega)];exact h.keep t a1 a2 a3 a4 a5 a6),(by rw[zq8];exact Nat.le_succ_of_le h.ge),λb hb=>(by rw[zqc,if_neg (by have:=h.ge;omega)];exact h.old b hb),λhh=>(by rw[u 3 (by omega)]at hh;rw[u 0 (by omega),u 2 (by omega)];exact h.l3 hh),λ_=>(by rw[u 3 (by omega)];exact a3),λhh=>(by rw[u 6 (by omega)]at hh;exact⟨upd_same _ _ _,by rw[u 5 (by omega)];exact(h.l6 hh).2⟩),
     λhh=>(by rw[u 0 (by omega)]at hh;obtain⟨q1,q2,q3⟩:=h.h0 hh;exact⟨by rw[al_gn (by omega)];exact q1,zqt q2,q3⟩),
     λhh=>(by rw[u 1 (by omega)]at hh;rw[al_gn (by omega)];exact h.h1 hh),
     λhh=>(by rw[u 2 (by omega)]at hh;obtain⟨q1,⟨br,q2,q4⟩,q3⟩:=h.h2 hh;exact⟨by rw[al_gn (by omega)];exact q1,⟨br,zqt q2,q4⟩,q3⟩),
     λhh=>(by rw[u 3 (by omega)]at hh;rw[al_gn (by omega)];exact h.h3 hh),
     λ_=>⟨by simp[hs],zq13 _ _,h.ge⟩,
     λhh=>(by rw[u 5 (by omega)]at hh;obtain⟨q1,q2,q3⟩:=h.h5 hh;have l6:L 6=false:=(by cases e:L 6 with|false=>rfl |true=>(have:=(h.l6 e).1;rw[hL]at this;cases this));rw[l6]at q2;exact⟨by rw[al_gn (by omega)];exact q1,by rw[u 6 (by omega),l6];exact zqt q2,q3⟩)⟩
    simp only[execOp,Act.eval,al_gd,h.h3 a3,al_od];clear hm;go_simp
   ·
    have l6:L 6=false:=(by cases e:L 6 with|false=>rfl |true=>(have:=(h.l6 e).2;rw[hL]at this;cases this));have u:∀j,j≠5->upd L 5 true j=L j:=λj hj=>upd_ne _ _ hj;refine .inl ⟨10,rfl,.pointer (some ⟨w'.heap.size,0,none⟩),w'.alloc (.cells #[.pointer none] 145),?_,c,g,p,w'.heap.size,by simp[hs],λt a1 a2 a3 a4 a5 a6=>(by rw[al_gn (by omega)];exact h.keep t a1 a2 a3 a4 a5 a6),(by rw[zq8];exact Nat.le_succ_of_le h.ge),λb hb=>(by rw[zqc,if_neg (by have:=h.ge;omega)];exact h.old b hb),λhh=>(by rw[u 3 (by omega)]at hh;rw[u 0 (by omega),u 2 (by omega)];exact h.l3 hh),λhh=>(by rw[u 4 (by omega)]at hh;rw[u 3 (by omega)];exact h.l4 hh),λhh=>(by rw[u 6 (by omega)]at hh;exact⟨by rw[u 4 (by omega)];exact(h.l6 hh).1,upd_same _ _ _⟩),
     λhh=>(by rw[u 0 (by omega)]at hh;obtain⟨q1,q2,q3⟩:=h.h0 hh;exact⟨by rw[al_gn (by omega)];exact q1,zqt q2,q3⟩),
     λhh=>(by rw[u 1 (by omega)]at hh;rw[al_gn (by omega)];exact h.h1 hh),
     λhh=>(by rw[u 2 (by omega)]at hh;obtain⟨q1,⟨br,q2,q4⟩,q3⟩:=h.h2 hh;exact⟨by rw[al_gn (by omega)];exact q1,⟨br,zqt q2,q4⟩,q3⟩),
     λhh=>(by rw[u 3 (by omega)]at hh;rw[al_gn (by omega)];exact h.h3 hh),
     λhh=>(by rw[u 4 (by omega)]at hh;obtain⟨q1,q2,q3⟩:=h.h4 hh;exact⟨by rw[al_gn (by omega)];exact q1,zqt q2,q3⟩),
     λ_=>⟨by simp[hs],by rw[u 6 (by omega),l6];exact zq13 _ _,h.ge⟩⟩
    simp only[execOp,Act.eval];clear hm;go_simp
   ·
    have a4:L 4=true:=hall ⟨4,.data⟩ (by simp) rfl;have a5:L 5=true:=hall ⟨5,.data⟩ (by simp) rfl;have u:∀j,j≠6->upd L 6 true j=L j:=λj hj=>upd_ne _ _ hj;obtain⟨q1,q2,q3⟩:=h.h5 a5;obtain⟨r1,r2,r3⟩:=h.h4 a4;rw[hL]at q2;have cx:=(zq1 (off:=0) q2).trans (show _=some (.pointer none)from rfl);have zx:=zqh (off:=0) q2;have hst:=zqy w' x 0 (.pointer (some ⟨p,0,none⟩)) q2;have hne:∀b y,w'.heap[b]?=some y->(∀c,y≠Obj.cells c 145)->(w'.setCell ⟨x,0,none⟩ (.pointer (some ⟨p,0,none⟩))).heap[b]?=some y:=λb y hb hy=>by
     rw[zql _ _ _ _ (λ(e:b=x)=>by subst e;rw[q2]at hb;cases hb;exact hy _ rfl)];exact hb
    refine .inr ⟨rfl,w'.setCell ⟨x,0,none⟩ (.pointer (some ⟨p,0,none⟩)),?_,c,g,p,x,hs,h.keep,(by rw[zqz];exact h.ge),λb hb=>(by rw[zql _ _ _ _ (by show b≠x;omega)];exact h.old b hb),
     λhh=>(by rw[u 3 (by omega)]at hh;rw[u 0 (by omega),u 2 (by omega)];exact h.l3 hh),λhh=>(by rw[u 4 (by omega)]at hh;rw[u 3 (by omega)];exact h.l4 hh),λ_=>⟨by rw[u 4 (by omega)];exact a4,by rw[u 5 (by omega)];exact a5⟩,
     λhh=>(by rw[u 0 (by omega)]at hh;obtain⟨s1,s2,s3⟩:=h.h0 hh;exact⟨s1,hne _ _ s2 (by intro c e;cases e),s3⟩),
     λhh=>(by rw[u 1 (by omega)]at hh;exact h.h1 hh),
     λhh=>(by rw[u 2 (by omega)]at hh;obtain⟨s1,⟨br,s2,s4⟩,s3⟩:=h.h2 hh;exact⟨s1,⟨br,hne _ _ s2 (by intro c e;cases e),s4⟩,s3⟩),
     λhh=>(by rw[u 3 (by omega)]at hh;exact h.h3 hh),
     λhh=>(by rw[u 4 (by omega)]at hh;exact⟨r1,hne _ _ r2 (by intro c e;cases e),r3⟩),
     λhh=>⟨q1,by rw[upd_same];exact hst.trans (by rfl),q3⟩⟩
    simp only[execOp,Act.eval,al_gd,q1,r1,al_od];clear hm;go_simp
 . rintro L T w' hall ⟨c,g,p,x,h⟩;obtain⟨q1,q2,q3⟩:=h.h5 (hall 5 (by simp));rw[hall 6 (by simp)]at q2;obtain⟨s1,s2,s3⟩:=h.h0 (hall 0 (by simp));obtain⟨v1,v2,v3⟩:=h.h2 (hall 2 (by simp));obtain⟨r1,r2,r3⟩:=h.h4 (hall 4 (by simp));refine hJ.ctl (s:=n) (λw=>stepG_region_end) ?_;exact hm.out T w' c g p x h.size h.keep h.ge h.old s3 v3 r3 q3 s2 v2 r2 q2 q1
theorem mk_stand(w:World)(b c:Nat):(Instr.build 153 #[(0,.pointer (some ⟨b,0,none⟩)),(1,.chan (some c))]).run Try.prog w=.ok (.agg #[.pointer (some ⟨b,0,none⟩),.chan (some c),.bool false]) w:=run_build w _ _ _ (by kernel_rfl)
theorem mk_one(w:World)(s:Nat):(Instr.buildSlice 147 1 #[(0,.pointer (some ⟨s,0,none⟩))]).run Try.prog w=.ok (.slice (some ⟨w.heap.size,0,none⟩) 1 1) (w.alloc (.cells #[.pointer (some ⟨s,0,none⟩)] 150)):=by
 obtain⟨ti,hti,hz0,hz1⟩:∃ti,Try.prog.info? 150=some ti/\ti.zero=some (.pointer none)/\ti.size=1:=⟨_,rfl,rfl,rfl⟩;exact run_buildSlice w 147 150 1 _ _ ti (.pointer none) (by kernel_rfl) hti hz0 (by rw[hz1];decide) (by rw[hz1];decide) (by rw[hz1];kernel_rfl)
structure I6(B1 j N bX bT bB back capB:Nat)(E:Nat->Option Obj)(l:List Value)(sv:Value)(T₀:Array Value)(w₀:World)(c s r:Nat)(v':Value)(L:Nat->Bool)(T:Array Value)(w:World):Prop where
 size:T.size=129
 keep:∀t,t<32\/44<t->T[t]?=T₀[t]?
 ge:w₀.heap.size<=w.heap.size
 ext:∀b o,E b=some o->w.heap[b]?=some o
 bt:w.heap[bT]?=some (.cells #[.chan (some back),if L 13=true then v' else sv,.slice (some ⟨bB,0,none⟩) N capB] 149)
 row:L 10=false->w.ownsRow B1 150 1 sv j l
 k7:L 7=true->L 6=true
 k8:L 8=true->L 7=true
 k9:L 9=true->L 8=true
 k10:L 10=true->L 9=true
 k13:L 13=true->L 10=true
 k4:L 10=true->L 4=true
 h0:L 0=true->T[32]?=some (.pointer (some ⟨bT,0,none⟩))
 h1:L 1=true->T[33]?=some (.pointer (some ⟨bT,0,none⟩))
 h2:L 2=true->T[34]?=some (.pointer (some ⟨bT,0,none⟩))
 h3:L 3=true->T[35]?=some (.pointer (some ⟨bT,1,none⟩))
 h4:L 4=true->T[36]?=some sv
 h5:L 5=true->T[37]?=some (.pointer (some ⟨bT,0,none⟩))
 h6:L 6=true->T[38]?=some (.chan (some c))/\w.heap[c]?=some (.chan 0 #[] false 0 0 false)/\w₀.heap.size<=c
 h7:L 7=true->T[39]?=some (.agg #[.pointer (some ⟨bT,0,none⟩),.chan (some c),.bool false])
 h8:L 8=true->T[40]?=some (.pointer (some ⟨s,0,none⟩))/\w.heap[s]?=some (.cells #[.pointer (some ⟨bT,0,none⟩),.chan (some c),.bool false] 153)/\c<s
 h9:L 9=true->L 10=false->T[41]?=some (.slice (some ⟨r,0,none⟩) 1 1)/\w.heap[r]?=some (.cells #[.pointer (some ⟨s,0,none⟩)] 150)
 h10:L 10=true->T[42]?=some v'/\w.ownsRow B1 150 1 v' (j+1) (l++[.pointer (some ⟨s,0,none⟩)])
 h11:L 11=true->T[43]?=some (.pointer (some ⟨bT,0,none⟩))
 h12:L 12=true->T[44]?=some (.pointer (some ⟨bT,1,none⟩))
theorem zq3z{w:World}{B:Nat}{e:TypeId}{v:Value}{n:Nat}{xs:List Value}(h:w.ownsRow B e 1 v n xs)(o:Obj):(w.alloc o).ownsRow B e 1 v n xs:=by
 refine⟨h.1,?_⟩;rcases h.2 with hv|⟨g,cap,cur,hv,h1,h2,h3⟩
 . exact .inl hv
 . exact .inr ⟨g,cap,cur,hv,h1,zqt h2,h3⟩
noncomputable def r6c:Code:=match headC (tailN 4 (Try.f54.body.getD .skip))with|.seq _ (.block _ (.loop (.seq _ (.seq _ (.seq (.block _ c) _)))))=>c|_=>.skip
theorem zqdr{Fin:Machine->Trace->Prop}(hFin:Back Try.prog Fin){n B1 j N bX bT bB back capB:Nat}{E:Nat->Option Obj}{l:List Value}{sv:Value}{T₀:Array Value}{w:World}{K:List Item}{cs:List Frame}(hj:j<64)(hsz:T₀.size=129)(f10:T₀[10]?=some (.pointer (some ⟨bX,0,none⟩)))
 (hEX:E bX=some (.cells #[.pointer (some ⟨bT,0,none⟩)] 145)) (hET:E bT=none) (hEg:∀g,sv.ownBlock=some g->E g=none) (hext:∀b o,E b=some o->w.heap[b]?=some o)
 (hbt:w.heap[bT]?=some (.cells #[.chan (some back),sv,.slice (some ⟨bB,0,none⟩) N capB] 149)) (hrow:w.ownsRow B1 150 1 sv j l) (hB1:B1<=w.heap.size)
 (hmain:∀(T:Array Value)(w':World)(c s:Nat)(v':Value),T.size=129->(∀t,t<32\/44<t->T[t]?=T₀[t]?)->w.heap.size<=w'.heap.size->(∀b o,E b=some o->w'.heap[b]?=some o)->w'.heap[bT]?=some (.cells #[.chan (some back),v',.slice (some ⟨bB,0,none⟩) N capB] 149)->
  w'.ownsRow B1 150 1 v' (j+1) (l++[.pointer (some ⟨s,0,none⟩)])->w'.heap[c]?=some (.chan 0 #[] false 0 0 false)->w.heap.size<=c->w'.heap[s]?=some (.cells #[.pointer (some ⟨bT,0,none⟩),.chan (some c),.bool false] 153)->c<s->
  J0 Try.prog Fin n (G ((bN 54).at ⟨T,[]⟩ K) cs) w'):
 J0 Try.prog Fin n (G ((bN 54).at ⟨T₀,[]⟩ (.code r6c::K)) cs) w:=by
 have hJ:=j0_JS hFin;simp only[r6c,Try.f54];have hm:=Lib.hid hmain;clear hmain;refine zq6m hJ (by decide) (s:=n) (by rfl) (λL T w'=>∃c s r v',I6 B1 j N bX bT bB back capB E l sv T₀ w c s r v' L T w') (by kernel_rfl) ?_ ?_ ?_ ?_
 . rintro L T w' τ d ⟨c,s,r,v',h⟩;exact⟨c,s,r,v',⟨h.size,h.keep,h.ge,h.ext,h.bt,h.row,h.k7,h.k8,h.k9,h.k10,h.k13,h.k4,h.h0,h.h1,h.h2,h.h3,h.h4,h.h5,h.h6,h.h7,h.h8,h.h9,h.h10,h.h11,h.h12⟩⟩
 . exact⟨0,0,0,.nilFunc,hsz,λ_ _=>rfl,Nat.le_refl _,hext,hbt,λ_=>hrow,by simp,by simp,by simp,by simp,by simp,by simp,by simp,by simp,by simp,by simp,by simp,by simp,by simp,by simp,by simp,by simp,by simp,by simp,by simp⟩
 . rintro L T w' i o ⟨c,s,r,v',h⟩ hL ho hall;have hlt:i=0\/i=1\/i=2\/i=3\/i=4\/i=5\/i=6\/i=7\/i=8\/i=9\/i=10\/i=11\/i=12\/i=13:=by have:i<14:=(Array.getElem?_eq_some_iff.1 ho).1;omega
   have hcX:w'.cell? ⟨bX,0,none⟩=some (.pointer (some ⟨bT,0,none⟩)):=(zq1 (h.ext _ _ hEX)).trans rfl;have hcT:w'.cell? ⟨bT,1,none⟩=some (if L 13=true then v' else sv):=(zq1 h.bt).trans rfl;have f10':=(h.keep 10 (by omega)).trans f10;have hs:=h.size;have n13:L 10=false->L 13=false:=λe=>(by cases e':L 13 with|false=>rfl |true=>(have:=h.k13 e';rw[e]at this;cases this));rcases hlt with rfl |rfl |rfl |rfl |rfl |rfl |rfl |rfl |rfl |rfl |rfl |rfl |rfl |rfl<;>(simp only[al_gl,al_g0,al_g1,al_oi]at ho;subst ho)
   ·
    have u:∀j,j≠0->upd L 0 true j=L j:=λj hj=>upd_ne _ _ hj;refine .inl ⟨32,rfl,.pointer (some ⟨bT,0,none⟩),w',?_,c,s,r,v',by simp[hs],λt ht=>(by rw[al_gn (by omega)];exact h.keep t ht),h.ge,h.ext,(by rw[u 13 (by omega)];exact h.bt),(λhh=>by rw[u 10 (by omega)]at hh;exact h.row hh),λhh=>(by rw[u 7 (by omega)]at hh;rw[u 6 (by omega)];exact h.k7 hh),λhh=>(by rw[u 8 (by omega)]at hh;rw[u 7 (by omega)];exact h.k8 hh),λhh=>(by rw[u 9 (by omega)]at hh;rw[u 8 (by omega)];exact h.k9 hh),λhh=>(by rw[u 10 (by omega)]at hh;rw[u 9 (by omega)];exact h.k10 hh),λhh=>(by rw[u 13 (by omega)]at hh;rw[u 10 (by omega)];exact h.k13 hh),(λhh=>by rw[u 10 (by omega)]at hh;rw[u 4 (by omega)];exact h.k4 hh),
     λ_=>by simp[hs],
     λhh=>(by rw[u 1 (by omega)]at hh;rw[al_gn (by omega)];exact h.h1 hh),
     λhh=>(by rw[u 2 (by omega)]at hh;rw[al_gn (by omega)];exact h.h2 hh),
     λhh=>(by rw[u 3 (by omega)]at hh;rw[al_gn (by omega)];exact h.h3 hh),
     λhh=>(by rw[u 4 (by omega)]at hh;rw[al_gn (by omega)];exact h.h4 hh),
     λhh=>(by rw[u 5 (by omega)]at hh;rw[al_gn (by omega)];exact h.h5 hh),
     λhh=>(by rw[u 6 (by omega)]at hh;obtain⟨q1,q2,q3⟩:=h.h6 hh;exact⟨(by rw[al_gn (by omega)];exact q1),q2,q3⟩),
     λhh=>(by rw[u 7 (by omega)]at hh;rw[al_gn (by omega)];exact h.h7 hh),
     λhh=>(by rw[u 8 (by omega)]at hh;obtain⟨q1,q2,q3⟩:=h.h8 hh;exact⟨(by rw[al_gn (by omega)];exact q1),q2,q3⟩),
     λhh h10=>(by rw[u 9 (by omega)]at hh;rw[u 10 (by omega)]at h10;obtain⟨q1,q2⟩:=h.h9 hh h10;exact⟨(by rw[al_gn (by omega)];exact q1),q2⟩),
     λhh=>(by rw[u 10 (by omega)]at hh;obtain⟨q1,q2⟩:=h.h10 hh;exact⟨(by rw[al_gn (by omega)];exact q1),q2⟩),
     λhh=>(by rw[u 11 (by omega)]at hh;rw[al_gn (by omega)];exact h.h11 hh),
     λhh=>(by rw[u 12 (by omega)]at hh;rw[al_gn (by omega)];exact h.h12 hh)⟩
    simp only[execOp,Act.eval,List.map_toArray,List.map_cons,List.map_nil,al_gd,f10',al_od];clear hm;go_simp
   ·
    have u:∀j,j≠1->upd L 1 true j=L j:=λj hj=>upd_ne _ _ hj;refine .inl ⟨33,rfl,.pointer (some ⟨bT,0,none⟩),w',?_,c,s,r,v',by simp[hs],λt ht=>(by rw[al_gn (by omega)];exact h.keep t ht),h.ge,h.ext,(by rw[u 13 (by omega)];exact h.bt),(λhh=>by rw[u 10 (by omega)]at hh;exact h.row hh),λhh=>(by rw[u 7 (by omega)]at hh;rw[u 6 (by omega)];exact h.k7 hh),λhh=>(by rw[u 8 (by omega)]at hh;rw[u 7 (by omega)];exact h.k8 hh),λhh=>(by rw[u 9 (by omega)]at hh;rw[u 8 (by omega)];exact h.k9 hh),λhh=>(by rw[u 10 (by omega)]at hh;rw[u 9 (by omega)];exact h.k10 hh),λhh=>(by rw[u 13 (by omega)]at hh;rw[u 10 (by omega)];exact h.k13 hh),(λhh=>by rw[u 10 (by omega)]at hh;rw[u 4 (by omega)];exact h.k4 hh),
     λhh=>(by rw[u 0 (by omega)]at hh;rw[al_gn (by omega)];exact h.h0 hh),
     λ_=>by simp[hs],
     λhh=>(by rw[u 2 (by omega)]at hh;rw[al_gn (by omega)];exact h.h2 hh),
     λhh=>(by rw[u 3 (by omega)]at hh;rw[al_gn (by omega)];exact h.h3 hh),
     λhh=>(by rw[u 4 (by omega)]at hh;rw[al_gn (by omega)];exact h.h4 hh),
     λhh=>(by rw[u 5 (by omega)]at hh;rw[al_gn (by omega)];exact h.h5 hh),
     λhh=>(by rw[u 6 (by omega)]at hh;obtain⟨q1,q2,q3⟩:=h.h6 hh;exact⟨(by rw[al_gn (by omega)];exact q1),q2,q3⟩),
     λhh=>(by rw[u 7 (by omega)]at hh;rw[al_gn (by omega)];exact h.h7 hh),
     λhh=>(by rw[u 8 (by omega)]at hh;obtain⟨q1,q2,q3⟩:=h.h8 hh;exact⟨(by rw[al_gn (by omega)];exact q1),q2,q3⟩),
     λhh h10=>(by rw[u 9 (by omega)]at hh;rw[u 10 (by omega)]at h10;obtain⟨q1,q2⟩:=h.h9 hh h10;exact⟨(by rw[al_gn (by omega)];exact q1),q2⟩),
     λhh=>(by rw[u 10 (by omega)]at hh;obtain⟨q1,q2⟩:=h.h10 hh;exact⟨(by rw[al_gn (by omega)];exact q1),q2⟩),
     λhh=>(by rw[u 11 (by omega)]at hh;rw[al_gn (by omega)];exact h.h11 hh),
     λhh=>(by rw[u 12 (by omega)]at hh;rw[al_gn (by omega)];exact h.h12 hh)⟩
    simp only[execOp,Act.eval,List.map_toArray,List.map_cons,List.map_nil,al_gd,f10',al_od];clear hm;go_simp
   ·
    have a1:L 1=true:=hall ⟨1,.data⟩ (by simp) rfl;have u:∀j,j≠2->upd L 2 true j=L j:=λj hj=>upd_ne _ _ hj;refine .inl ⟨34,rfl,.pointer (some ⟨bT,0,none⟩),w',?_,c,s,r,v',by simp[hs],λt ht=>(by rw[al_gn (by omega)];exact h.keep t ht),h.ge,h.ext,(by rw[u 13 (by omega)];exact h.bt),(λhh=>by rw[u 10 (by omega)]at hh;exact h.row hh),λhh=>(by rw[u 7 (by omega)]at hh;rw[u 6 (by omega)];exact h.k7 hh),λhh=>(by rw[u 8 (by omega)]at hh;rw[u 7 (by omega)];exact h.k8 hh),λhh=>(by rw[u 9 (by omega)]at hh;rw[u 8 (by omega)];exact h.k9 hh),λhh=>(by rw[u 10 (by omega)]at hh;rw[u 9 (by omega)];exact h.k10 hh),λhh=>(by rw[u 13 (by omega)]at hh;rw[u 10 (by omega)];exact h.k13 hh),(λhh=>by rw[u 10 (by omega)]at hh;rw[u 4 (by omega)];exact h.k4 hh),
     λhh=>(by rw[u 0 (by omega)]at hh;rw[al_gn (by omega)];exact h.h0 hh),
     λhh=>(by rw[u 1 (by omega)]at hh;rw[al_gn (by omega)];exact h.h1 hh),
     λ_=>by simp[hs],
     λhh=>(by rw[u 3 (by omega)]at hh;rw[al_gn (by omega)];exact h.h3 hh),
     λhh=>(by rw[u 4 (by omega)]at hh;rw[al_gn (by omega)];exact h.h4 hh),
     λhh=>(by rw[u 5 (by omega)]at hh;rw[al_gn (by omega)];exact h.h5 hh),
     λhh=>(by rw[u 6 (by omega)]at hh;obtain⟨q1,q2,q3⟩:=h.h6 hh;exact⟨(by rw[al_gn (by omega)];exact q1),q2,q3⟩),
     λhh=>(by rw[u 7 (by omega)]at hh;rw[al_gn (by omega)];exact h.h7 hh),
     λhh=>(by rw[u 8 (by omega)]at hh;obtain⟨q1,q2,q3⟩:=h.h8 hh;exact⟨(by rw[al_gn (by omega)];exact q1),q2,q3⟩),
     λhh h10=>(by rw[u 9 (by omega)]at hh;rw[u 10 (by omega)]at h10;obtain⟨q1,q2⟩:=h.h9 hh h10;exact⟨(by rw[al_gn (by omega)];exact q1),q2⟩),
     λhh=>(by rw[u 10 (by omega)]at hh;obtain⟨q1,q2⟩:=h.h10 hh;exact⟨(by rw[al_gn (by omega)];exact q1),q2⟩),
     λhh=>(by rw[u 11 (by omega)]at hh;rw[al_gn (by omega)];exact h.h11 hh),
     λhh=>(by rw[u 12 (by omega)]at hh;rw[al_gn (by omega)];exact h.h12 hh)⟩
    simp only[execOp,Act.eval,List.map_toArray,List.map_cons,List.map_nil,al_gd,h.h1 a1,al_od];clear hm;go_simp
   ·
    have a2:L 2=true:=hall ⟨2,.data⟩ (by simp) rfl;have u:∀j,j≠3->upd L 3 true j=L j:=λj hj=>upd_ne _ _ hj;refine .inl ⟨35,rfl,.pointer (some ⟨bT,1,none⟩),w',?_,c,s,r,v',by simp[hs],λt ht=>(by rw[al_gn (by omega)];exact h.keep t ht),h.ge,h.ext,(by rw[u 13 (by omega)];exact h.bt),(λhh=>by rw[u 10 (by omega)]at hh;exact h.row hh),λhh=>(by rw[u 7 (by omega)]at hh;rw[u 6 (by omega)];exact h.k7 hh),λhh=>(by rw[u 8 (by omega)]at hh;rw[u 7 (by omega)];exact h.k8 hh),λhh=>(by rw[u 9 (by omega)]at hh;rw[u 8 (by omega)];exact h.k9 hh),λhh=>(by rw[u 10 (by omega)]at hh;rw[u 9 (by omega)];exact h.k10 hh),λhh=>(by rw[u 13 (by omega)]at hh;rw[u 10 (by omega)];exact h.k13 hh),(λhh=>by rw[u 10 (by omega)]at hh;rw[u 4 (by omega)];exact h.k4 hh),
     λhh=>(by rw[u 0 (by omega)]at hh;rw[al_gn (by omega)];exact h.h0 hh),
     λhh=>(by rw[u 1 (by omega)]at hh;rw[al_gn (by omega)];exact h.h1 hh),
     λhh=>(by rw[u 2 (by omega)]at hh;rw[al_gn (by omega)];exact h.h2 hh),
     λ_=>by simp[hs],
     λhh=>(by rw[u 4 (by omega)]at hh;rw[al_gn (by omega)];exact h.h4 hh),
     λhh=>(by rw[u 5 (by omega)]at hh;rw[al_gn (by omega)];exact h.h5 hh),
     λhh=>(by rw[u 6 (by omega)]at hh;obtain⟨q1,q2,q3⟩:=h.h6 hh;exact⟨(by rw[al_gn (by omega)];exact q1),q2,q3⟩),
     λhh=>(by rw[u 7 (by omega)]at hh;rw[al_gn (by omega)];exact h.h7 hh),
     λhh=>(by rw[u 8 (by omega)]at hh;obtain⟨q1,q2,q3⟩:=h.h8 hh;exact⟨(by rw[al_gn (by omega)];exact q1),q2,q3⟩),
     λhh h10=>(by rw[u 9 (by omega)]at hh;rw[u 10 (by omega)]at h10;obtain⟨q1,q2⟩:=h.h9 hh h10;exact⟨(by rw[al_gn (by omega)];exact q1),q2⟩),
     λhh=>(by rw[u 10 (by omega)]at hh;obtain⟨q1,q2⟩:=h.h10 hh;exact⟨(by rw[al_gn (by omega)];exact q1),q2⟩),
     λhh=>(by rw[u 11 (by omega)]at hh;rw[al_gn (by omega)];exact h.h11 hh),
     λhh=>(by rw[u 12 (by omega)]at hh;rw[al_gn (by omega)];exact h.h12 hh)⟩
    simp only[execOp,Act.eval,List.map_toArray,List.map_cons,List.map_nil,al_gd,h.h2 a2,al_od];clear hm;go_simp
   ·
    have a3:L 3=true:=hall ⟨3,.data⟩ (by simp) rfl;have l10:L 10=false:=(by cases e:L 10 with|false=>rfl |true=>(have:=h.k4 e;rw[hL]at this;cases this));have u:∀j,j≠4->upd L 4 true j=L j:=λj hj=>upd_ne _ _ hj;refine .inl ⟨36,rfl,sv,w',?_,c,s,r,v',by simp[hs],λt ht=>(by rw[al_gn (by omega)];exact h.keep t ht),h.ge,h.ext,(by rw[u 13 (by omega)];exact h.bt),(λhh=>by rw[u 10 (by omega)]at hh;exact h.row hh),λhh=>(by rw[u 7 (by omega)]at hh;rw[u 6 (by omega)];exact h.k7 hh),λhh=>(by rw[u 8 (by omega)]at hh;rw[u 7 (by omega)];exact h.k8 hh),λhh=>(by rw[u 9 (by omega)]at hh;rw[u 8 (by omega)];exact h.k9 hh),λhh=>(by rw[u 10 (by omega)]at hh;rw[u 9 (by omega)];exact h.k10 hh),λhh=>(by rw[u 13 (by omega)]at hh;rw[u 10 (by omega)];exact h.k13 hh),(λ_=>upd_same _ _ _),
     λhh=>(by rw[u 0 (by omega)]at hh;rw[al_gn (by omega)];exact h.h0 hh),
     λhh=>(by rw[u 1 (by omega)]at hh;rw[al_gn (by omega)];exact h.h1 hh),
     λhh=>(by rw[u 2 (by omega)]at hh;rw[al_gn (by omega)];exact h.h2 hh),
     λhh=>(by rw[u 3 (by omega)]at hh;rw[al_gn (by omega)];exact h.h3 hh),
     λ_=>by simp[hs],
     λhh=>(by rw[u 5 (by omega)]at hh;rw[al_gn (by omega)];exact h.h5 hh),
     λhh=>(by rw[u 6 (by omega)]at hh;obtain⟨q1,q2,q3⟩:=h.h6 hh;exact⟨(by rw[al_gn (by omega)];exact q1),q2,q3⟩),
     λhh=>(by rw[u 7 (by omega)]at hh;rw[al_gn (by omega)];exact h.h7 hh),
     λhh=>(by rw[u 8 (by omega)]at hh;obtain⟨q1,q2,q3⟩:=h.h8 hh;exact⟨(by rw[al_gn (by omega)];exact q1),q2,q3⟩),
     λhh h10=>(by rw[u 9 (by omega)]at hh;rw[u 10 (by omega)]at h10;obtain⟨q1,q2⟩:=h.h9 hh h10;exact⟨(by rw[al_gn (by omega)];exact q1),q2⟩),
     λhh=>(by rw[u 10 (by omega)]at hh;obtain⟨q1,q2⟩:=h.h10 hh;exact⟨(by rw[al_gn (by omega)];exact q1),q2⟩),
     λhh=>(by rw[u 11 (by omega)]at hh;rw[al_gn (by omega)];exact h.h11 hh),
     λhh=>(by rw[u 12 (by omega)]at hh;rw[al_gn (by omega)];exact h.h12 hh)⟩
    rw[n13 l10]at hcT;simp only[Bool.false_eq_true,if_false]at hcT;simp only[execOp,Act.eval,List.map_toArray,List.map_cons,List.map_nil,al_gd,h.h3 a3,al_od];clear hm;go_simp
   ·
    have u:∀j,j≠5->upd L 5 true j=L j:=λj hj=>upd_ne _ _ hj;refine .inl ⟨37,rfl,.pointer (some ⟨bT,0,none⟩),w',?_,c,s,r,v',by simp[hs],λt ht=>(by rw[al_gn (by omega)];exact h.keep t ht),h.ge,h.ext,(by rw[u 13 (by omega)];exact h.bt),(λhh=>by rw[u 10 (by omega)]at hh;exact h.row hh),λhh=>(by rw[u 7 (by omega)]at hh;rw[u 6 (by omega)];exact h.k7 hh),λhh=>(by rw[u 8 (by omega)]at hh;rw[u 7 (by omega)];exact h.k8 hh),λhh=>(by rw[u 9 (by omega)]at hh;rw[u 8 (by omega)];exact h.k9 hh),λhh=>(by rw[u 10 (by omega)]at hh;rw[u 9 (by omega)];exact h.k10 hh),λhh=>(by rw[u 13 (by omega)]at hh;rw[u 10 (by omega)];exact h.k13 hh),(λhh=>by rw[u 10 (by omega)]at hh;rw[u 4 (by omega)];exact h.k4 hh),
     λhh=>(by rw[u 0 (by omega)]at hh;rw[al_gn (by omega)];exact h.h0 hh),
     λhh=>(by rw[u 1 (by omega)]at hh;rw[al_gn (by omega)];exact h.h1 hh),
     λhh=>(by rw[u 2 (by omega)]at hh;rw[al_gn (by omega)];exact h.h2 hh),
     λhh=>(by rw[u 3 (by omega)]at hh;rw[al_gn (by omega)];exact h.h3 hh),
     λhh=>(by rw[u 4 (by omega)]at hh;rw[al_gn (by omega)];exact h.h4 hh),
     λ_=>by simp[hs],
     λhh=>(by rw[u 6 (by omega)]at hh;obtain⟨q1,q2,q3⟩:=h.h6 hh;exact⟨(by rw[al_gn (by omega)];exact q1),q2,q3⟩),
     λhh=>(by rw[u 7 (by omega)]at hh;rw[al_gn (by omega)];exact h.h7 hh),
     λhh=>(by rw[u 8 (by omega)]at hh;obtain⟨q1,q2,q3⟩:=h.h8 hh;exact⟨(by rw[al_gn (by omega)];exact q1),q2,q3⟩),
     λhh h10=>(by rw[u 9 (by omega)]at hh;rw[u 10 (by omega)]at h10;obtain⟨q1,q2⟩:=h.h9 hh h10;exact⟨(by rw[al_gn (by omega)];exact q1),q2⟩),
     λhh=>(by rw[u 10 (by omega)]at hh;obtain⟨q1,q2⟩:=h.h10 hh;exact⟨(by rw[al_gn (by omega)];exact q1),q2⟩),
     λhh=>(by rw[u 11 (by omega)]at hh;rw[al_gn (by omega)];exact h.h11 hh),
     λhh=>(by rw[u 12 (by omega)]at hh;rw[al_gn (by omega)];exact h.h12 hh)⟩
    simp only[execOp,Act.eval,List.map_toArray,List.map_cons,List.map_nil,al_gd,f10',al_od];clear hm;go_simp
   ·
    have u:∀j,j≠6->upd L 6 true j=L j:=λj hj=>upd_ne _ _ hj;refine .inl ⟨38,rfl,.chan (some w'.heap.size),w'.alloc (.chan 0 #[] false 0 0 false),?_,w'.heap.size,s,r,v',by simp[hs],λt ht=>(by rw[al_gn (by omega)];exact h.keep t ht),(by rw[zq8];exact Nat.le_succ_of_le h.ge),(λb o hb=>zqt (h.ext b o hb)),(by rw[u 13 (by omega)];exact zqt h.bt),(λhh=>by rw[u 10 (by omega)]at hh;exact zq3z (h.row hh) _),λ_=>upd_same _ _ _,λhh=>(by rw[u 8 (by omega)]at hh;rw[u 7 (by omega)];exact h.k8 hh),λhh=>(by rw[u 9 (by omega)]at hh;rw[u 8 (by omega)];exact h.k9 hh),λhh=>(by rw[u 10 (by omega)]at hh;rw[u 9 (by omega)];exact h.k10 hh),λhh=>(by rw[u 13 (by omega)]at hh;rw[u 10 (by omega)];exact h.k13 hh),(λhh=>by rw[u 10 (by omega)]at hh;rw[u 4 (by omega)];exact h.k4 hh),
     λhh=>(by rw[u 0 (by omega)]at hh;rw[al_gn (by omega)];exact h.h0 hh),
     λhh=>(by rw[u 1 (by omega)]at hh;rw[al_gn (by omega)];exact h.h1 hh),
     λhh=>(by rw[u 2 (by omega)]at hh;rw[al_gn (by omega)];exact h.h2 hh),
     λhh=>(by rw[u 3 (by omega)]at hh;rw[al_gn (by omega)];exact h.h3 hh),
     λhh=>(by rw[u 4 (by omega)]at hh;rw[al_gn (by omega)];exact h.h4 hh),
     λhh=>(by rw[u 5 (by omega)]at hh;rw[al_gn (by omega)];exact h.h5 hh),
     λ_=>⟨by simp[hs],zq13 _ _,h.ge⟩,
     λhh=>(by rw[u 7 (by omega)]at hh;have:=(h.k7 hh);rw[hL]at this;cases this),
     λhh=>(by rw[u 8 (by omega)]at hh;have:=(h.k7 (h.k8 hh));rw[hL]at this;cases this),
     λhh h10=>(by rw[u 9 (by omega)]at hh;rw[u 10 (by omega)]at h10;obtain⟨q1,q2⟩:=h.h9 hh h10;exact⟨(by rw[al_gn (by omega)];exact q1),zqt q2⟩),
     λhh=>(by rw[u 10 (by omega)]at hh;obtain⟨q1,q2⟩:=h.h10 hh;exact⟨(by rw[al_gn (by omega)];exact q1),zq3z q2 _⟩),
     λhh=>(by rw[u 11 (by omega)]at hh;rw[al_gn (by omega)];exact h.h11 hh),
     λhh=>(by rw[u 12 (by omega)]at hh;rw[al_gn (by omega)];exact h.h12 hh)⟩
    simp only[execOp,Act.eval,Sem.run_bind,zq7x _ w' (.inr rfl)];rfl
   ·
    have a5:L 5=true:=hall ⟨5,.data⟩ (by simp) rfl;have a6:L 6=true:=hall ⟨6,.data⟩ (by simp) rfl;have u:∀j,j≠7->upd L 7 true j=L j:=λj hj=>upd_ne _ _ hj;refine .inl ⟨39,rfl,.agg #[.pointer (some ⟨bT,0,none⟩),.chan (some c),.bool false],w',?_,c,s,r,v',by simp[hs],λt ht=>(by rw[al_gn (by omega)];exact h.keep t ht),h.ge,h.ext,(by rw[u 13 (by omega)];exact h.bt),(λhh=>by rw[u 10 (by omega)]at hh;exact h.row hh),λ_=>(by rw[u 6 (by omega)];exact a6),λ_=>upd_same _ _ _,λhh=>(by rw[u 9 (by omega)]at hh;rw[u 8 (by omega)];exact h.k9 hh),λhh=>(by rw[u 10 (by omega)]at hh;rw[u 9 (by omega)];exact h.k10 hh),λhh=>(by rw[u 13 (by omega)]at hh;rw[u 10 (by omega)];exact h.k13 hh),(λhh=>by rw[u 10 (by omega)]at hh;rw[u 4 (by omega)];exact h.k4 hh),
     λhh=>(by rw[u 0 (by omega)]at hh;rw[al_gn (by omega)];exact h.h0 hh),
     λhh=>(by rw[u 1 (by omega)]at hh;rw[al_gn (by omega)];exact h.h1 hh),
     λhh=>(by rw[u 2 (by omega)]at hh;rw[al_gn (by omega)];exact h.h2 hh),
     λhh=>(by rw[u 3 (by omega)]at hh;rw[al_gn (by omega)];exact h.h3 hh),
     λhh=>(by rw[u 4 (by omega)]at hh;rw[al_gn (by omega)];exact h.h4 hh),
     λhh=>(by rw[u 5 (by omega)]at hh;rw[al_gn (by omega)];exact h.h5 hh),
     λhh=>(by rw[u 6 (by omega)]at hh;obtain⟨q1,q2,q3⟩:=h.h6 hh;exact⟨(by rw[al_gn (by omega)];exact q1),q2,q3⟩),
     λ_=>by simp[hs],
     λhh=>(by rw[u 8 (by omega)]at hh;obtain⟨q1,q2,q3⟩:=h.h8 hh;exact⟨(by rw[al_gn (by omega)];exact q1),q2,q3⟩),
     λhh h10=>(by rw[u 9 (by omega)]at hh;rw[u 10 (by omega)]at h10;obtain⟨q1,q2⟩:=h.h9 hh h10;exact⟨(by rw[al_gn (by omega)];exact q1),q2⟩),
     λhh=>(by rw[u 10 (by omega)]at hh;obtain⟨q1,q2⟩:=h.h10 hh;exact⟨(by rw[al_gn (by omega)];exact q1),q2⟩),
     λhh=>(by rw[u 11 (by omega)]at hh;rw[al_gn (by omega)];exact h.h11 hh),
     λhh=>(by rw[u 12 (by omega)]at hh;rw[al_gn (by omega)];exact h.h12 hh)⟩
    simp only[execOp,Act.eval,List.map_toArray,List.map_cons,List.map_nil,al_gd,h.h5 a5,(h.h6 a6).1,al_od,Sem.run_bind,mk_stand];rfl
   ·
    have a7:L 7=true:=hall ⟨7,.data⟩ (by simp) rfl;have u:∀j,j≠8->upd L 8 true j=L j:=λj hj=>upd_ne _ _ hj;refine .inl ⟨40,rfl,.pointer (some ⟨w'.heap.size,0,none⟩),w'.alloc (.cells #[.pointer (some ⟨bT,0,none⟩),.chan (some c),.bool false] 153),?_,c,w'.heap.size,r,v',by simp[hs],λt ht=>(by rw[al_gn (by omega)];exact h.keep t ht),(by rw[zq8];exact Nat.le_succ_of_le h.ge),(λb o hb=>zqt (h.ext b o hb)),(by rw[u 13 (by omega)];exact zqt h.bt),(λhh=>by rw[u 10 (by omega)]at hh;exact zq3z (h.row hh) _),λhh=>(by rw[u 7 (by omega)]at hh;rw[u 6 (by omega)];exact h.k7 hh),λ_=>(by rw[u 7 (by omega)];exact a7),λ_=>upd_same _ _ _,λhh=>(by rw[u 10 (by omega)]at hh;rw[u 9 (by omega)];exact h.k10 hh),λhh=>(by rw[u 13 (by omega)]at hh;rw[u 10 (by omega)];exact h.k13 hh),(λhh=>by rw[u 10 (by omega)]at hh;rw[u 4 (by omega)];exact h.k4 hh),
     λhh=>(by rw[u 0 (by omega)]at hh;rw[al_gn (by omega)];exact h.h0 hh),
     λhh=>(by rw[u 1 (by omega)]at hh;rw[al_gn (by omega)];exact h.h1 hh),
     λhh=>(by rw[u 2 (by omega)]at hh;rw[al_gn (by omega)];exact h.h2 hh),
     λhh=>(by rw[u 3 (by omega)]at hh;rw[al_gn (by omega)];exact h.h3 hh),
     λhh=>(by rw[u 4 (by omega)]at hh;rw[al_gn (by omega)];exact h.h4 hh),
     λhh=>(by rw[u 5 (by omega)]at hh;rw[al_gn (by omega)];exact h.h5 hh),
     λhh=>(by rw[u 6 (by omega)]at hh;obtain⟨q1,q2,q3⟩:=h.h6 hh;exact⟨(by rw[al_gn (by omega)];exact q1),zqt q2,q3⟩),
     λhh=>(by rw[u 7 (by omega)]at hh;rw[al_gn (by omega)];exact h.h7 hh),
     λ_=>⟨by simp[hs],zq13 _ _,zqi (h.h6 (h.k7 a7)).2.1⟩,
     λhh h10=>(by rw[u 9 (by omega)]at hh;have:=(h.k9 hh);rw[hL]at this;cases this),
     λhh=>(by rw[u 10 (by omega)]at hh;have:=(h.k9 (h.k10 hh));rw[hL]at this;cases this),
     λhh=>(by rw[u 11 (by omega)]at hh;rw[al_gn (by omega)];exact h.h11 hh),
     λhh=>(by rw[u 12 (by omega)]at hh;rw[al_gn (by omega)];exact h.h12 hh)⟩
    simp only[execOp,Act.eval,List.map_toArray,List.map_cons,List.map_nil,al_gd,h.h7 a7,al_od];clear hm;go_simp
   ·
    have a8:L 8=true:=hall ⟨8,.data⟩ (by simp) rfl;have u:∀j,j≠9->upd L 9 true j=L j:=λj hj=>upd_ne _ _ hj;refine .inl ⟨41,rfl,.slice (some ⟨w'.heap.size,0,none⟩) 1 1,w'.alloc (.cells #[.pointer (some ⟨s,0,none⟩)] 150),?_,c,s,w'.heap.size,v',by simp[hs],λt ht=>(by rw[al_gn (by omega)];exact h.keep t ht),(by rw[zq8];exact Nat.le_succ_of_le h.ge),(λb o hb=>zqt (h.ext b o hb)),(by rw[u 13 (by omega)];exact zqt h.bt),(λhh=>by rw[u 10 (by omega)]at hh;exact zq3z (h.row hh) _),λhh=>(by rw[u 7 (by omega)]at hh;rw[u 6 (by omega)];exact h.k7 hh),λhh=>(by rw[u 8 (by omega)]at hh;rw[u 7 (by omega)];exact h.k8 hh),λ_=>(by rw[u 8 (by omega)];exact a8),λ_=>upd_same _ _ _,λhh=>(by rw[u 13 (by omega)]at hh;rw[u 10 (by omega)];exact h.k13 hh),(λhh=>by rw[u 10 (by omega)]at hh;rw[u 4 (by omega)];exact h.k4 hh),
     λhh=>(by rw[u 0 (by omega)]at hh;rw[al_gn (by omega)];exact h.h0 hh),
     λhh=>(by rw[u 1 (by omega)]at hh;rw[al_gn (by omega)];exact h.h1 hh),
     λhh=>(by rw[u 2 (by omega)]at hh;rw[al_gn (by omega)];exact h.h2 hh),
     λhh=>(by rw[u 3 (by omega)]at hh;rw[al_gn (by omega)];exact h.h3 hh),
     λhh=>(by rw[u 4 (by omega)]at hh;rw[al_gn (by omega)];exact h.h4 hh),
     λhh=>(by rw[u 5 (by omega)]at hh;rw[al_gn (by omega)];exact h.h5 hh),
     λhh=>(by rw[u 6 (by omega)]at hh;obtain⟨q1,q2,q3⟩:=h.h6 hh;exact⟨(by rw[al_gn (by omega)];exact q1),zqt q2,q3⟩),
     λhh=>(by rw[u 7 (by omega)]at hh;rw[al_gn (by omega)];exact h.h7 hh),
     λhh=>(by rw[u 8 (by omega)]at hh;obtain⟨q1,q2,q3⟩:=h.h8 hh;exact⟨(by rw[al_gn (by omega)];exact q1),zqt q2,q3⟩),
     λ_ _=>⟨by simp[hs],zq13 _ _⟩,
     λhh=>(by rw[u 10 (by omega)]at hh;obtain⟨q1,q2⟩:=h.h10 hh;exact⟨(by rw[al_gn (by omega)];exact q1),zq3z q2 _⟩),
     λhh=>(by rw[u 11 (by omega)]at hh;rw[al_gn (by omega)];exact h.h11 hh),
     λhh=>(by rw[u 12 (by omega)]at hh;rw[al_gn (by omega)];exact h.h12 hh)⟩
    simp only[execOp,Act.eval,List.map_toArray,List.map_cons,List.map_nil,al_gd,(h.h8 a8).1,al_od,Sem.run_bind,mk_one];rfl
   ·
    have a4:L 4=true:=hall ⟨4,.data⟩ (by simp) rfl;have a9:L 9=true:=hall ⟨9,.data⟩ (by simp) rfl;have u:∀j,j≠10->upd L 10 true j=L j:=λj hj=>upd_ne _ _ hj;have l13:=n13 hL;obtain⟨r1,r2⟩:=h.h9 a9 hL;have hrow':=h.row hL;obtain⟨ti,hti,hz0,hz1,hz2⟩:∃ti,Try.prog.info? 150=some ti/\ti.zero=some (.pointer none)/\ti.size=1/\ti.bytes=8:=⟨_,rfl,rfl,rfl,rfl⟩;obtain⟨v2,w2,hr,hown,hgr,_,hob⟩:=run_append_own_at (P:=Try.prog) w' B1 147 147 150 ti (.pointer none) 1 8 (by kernel_rfl) hti hz0 hz1 hz2 rfl (by decide) sv j l hrow' ⟨r,0,none⟩ 1 1 [.pointer (some ⟨s,0,none⟩)] rfl
     (λj u hu=>by cases j with|zero=>(cases hu;exact(zq1 r2).trans rfl)|succ j=>cases hu) (λu hu=>by simp at hu;subst hu;rfl) (by unfold maxLen;omega) (by omega) (by have:=h.ge;omega)
    have hold:∀b y,w'.heap[b]?=some y->some b≠sv.ownBlock->w2.heap[b]?=some y:=λb y hb hne=>by rw[hgr.block b (zqi hb) hne];exact hb
    have hne:∀b y,w'.heap[b]?=some y->(∀c,y≠Obj.cells c 150)->some b≠sv.ownBlock:=λb y hb hy e=>by
     rcases hrow'.2 with⟨hv,_⟩|⟨g,cap,cur,hv,_,hg,_⟩
     . rw[hv]at e;cases e
     . rw[hv]at e;simp only[Value.ownBlock,al_oi]at e;subst e;rw[hg]at hb;cases hb;exact hy _ rfl
    refine .inl ⟨42,rfl,v2,w2,?_,c,s,r,v2,by simp[hs],λt ht=>(by rw[al_gn (by omega)];exact h.keep t ht),Nat.le_trans h.ge hgr.size,(λb o hb=>hold b o (h.ext b o hb) (λe=>by rw[hEg b e.symm]at hb;cases hb)),(by have hb:=h.bt;rw[u 13 (by omega)];rw[l13]at hb |-;exact hold _ _ hb (hne _ _ hb (by intro c e;cases e))),(λhh=>by rw[upd_same]at hh;cases hh),
     (λhh=>by rw[u 7 (by omega)]at hh;rw[u 6 (by omega)];exact h.k7 hh),(λhh=>by rw[u 8 (by omega)]at hh;rw[u 7 (by omega)];exact h.k8 hh),(λhh=>by rw[u 9 (by omega)]at hh;rw[u 8 (by omega)];exact h.k9 hh),(λ_=>by rw[u 9 (by omega)];exact a9),(λ_=>upd_same _ _ _),(λ_=>by rw[u 4 (by omega)];exact a4),
     (λhh=>by rw[u 0 (by omega)]at hh;rw[al_gn (by omega)];exact h.h0 hh),
     (λhh=>by rw[u 1 (by omega)]at hh;rw[al_gn (by omega)];exact h.h1 hh),
     (λhh=>by rw[u 2 (by omega)]at hh;rw[al_gn (by omega)];exact h.h2 hh),
     (λhh=>by rw[u 3 (by omega)]at hh;rw[al_gn (by omega)];exact h.h3 hh),
     (λhh=>by rw[u 4 (by omega)]at hh;rw[al_gn (by omega)];exact h.h4 hh),
     (λhh=>by rw[u 5 (by omega)]at hh;rw[al_gn (by omega)];exact h.h5 hh),
     (λhh=>by rw[u 6 (by omega)]at hh;obtain⟨q1,q2,q3⟩:=h.h6 hh;exact⟨(by rw[al_gn (by omega)];exact q1),hold _ _ q2 (hne _ _ q2 (by intro c e;cases e)),q3⟩),
     (λhh=>by rw[u 7 (by omega)]at hh;rw[al_gn (by omega)];exact h.h7 hh),
     (λhh=>by rw[u 8 (by omega)]at hh;obtain⟨q1,q2,q3⟩:=h.h8 hh;exact⟨(by rw[al_gn (by omega)];exact q1),hold _ _ q2 (hne _ _ q2 (by intro c e;cases e)),q3⟩),
     (λ_ hh=>by rw[upd_same]at hh;cases hh),
     (λ_=>⟨by simp[hs],hown⟩),
     (λhh=>by rw[u 11 (by omega)]at hh;rw[al_gn (by omega)];exact h.h11 hh),
     (λhh=>by rw[u 12 (by omega)]at hh;rw[al_gn (by omega)];exact h.h12 hh)⟩
    simp only[execOp,resolve,invoke,builtin,Sem.run_bind,Sem.run_pure,Result.andThen_ok,Act.eval,List.map_toArray,List.map_cons,List.map_nil,al_gd,h.h4 a4,r1,al_od,hr]
   ·
    have a0:L 0=true:=hall ⟨0,.data⟩ (by simp) rfl;have u:∀j,j≠11->upd L 11 true j=L j:=λj hj=>upd_ne _ _ hj;refine .inl ⟨43,rfl,.pointer (some ⟨bT,0,none⟩),w',?_,c,s,r,v',by simp[hs],λt ht=>(by rw[al_gn (by omega)];exact h.keep t ht),h.ge,h.ext,(by rw[u 13 (by omega)];exact h.bt),(λhh=>by rw[u 10 (by omega)]at hh;exact h.row hh),λhh=>(by rw[u 7 (by omega)]at hh;rw[u 6 (by omega)];exact h.k7 hh),λhh=>(by rw[u 8 (by omega)]at hh;rw[u 7 (by omega)];exact h.k8 hh),λhh=>(by rw[u 9 (by omega)]at hh;rw[u 8 (by omega)];exact h.k9 hh),λhh=>(by rw[u 10 (by omega)]at hh;rw[u 9 (by omega)];exact h.k10 hh),λhh=>(by rw[u 13 (by omega)]at hh;rw[u 10 (by omega)];exact h.k13 hh),(λhh=>by rw[u 10 (by omega)]at hh;rw[u 4 (by omega)];exact h.k4 hh),
     λhh=>(by rw[u 0 (by omega)]at hh;rw[al_gn (by omega)];exact h.h0 hh),
     λhh=>(by rw[u 1 (by omega)]at hh;rw[al_gn (by omega)];exact h.h1 hh),
     λhh=>(by rw[u 2 (by omega)]at hh;rw[al_gn (by omega)];exact h.h2 hh),
     λhh=>(by rw[u 3 (by omega)]at hh;rw[al_gn (by omega)];exact h.h3 hh),
     λhh=>(by rw[u 4 (by omega)]at hh;rw[al_gn (by omega)];exact h.h4 hh),
     λhh=>(by rw[u 5 (by omega)]at hh;rw[al_gn (by omega)];exact h.h5 hh),
     λhh=>(by rw[u 6 (by omega)]at hh;obtain⟨q1,q2,q3⟩:=h.h6 hh;exact⟨(by rw[al_gn (by omega)];exact q1),q2,q3⟩),
     λhh=>(by rw[u 7 (by omega)]at hh;rw[al_gn (by omega)];exact h.h7 hh),
     λhh=>(by rw[u 8 (by omega)]at hh;obtain⟨q1,q2,q3⟩:=h.h8 hh;exact⟨(by rw[al_gn (by omega)];exact q1),q2,q3⟩),
     λhh h10=>(by rw[u 9 (by omega)]at hh;rw[u 10 (by omega)]at h10;obtain⟨q1,q2⟩:=h.h9 hh h10;exact⟨(by rw[al_gn (by omega)];exact q1),q2⟩),
     λhh=>(by rw[u 10 (by omega)]at hh;obtain⟨q1,q2⟩:=h.h10 hh;exact⟨(by rw[al_gn (by omega)];exact q1),q2⟩),
     λ_=>by simp[hs],
     λhh=>(by rw[u 12 (by omega)]at hh;rw[al_gn (by omega)];exact h.h12 hh)⟩
    simp only[execOp,Act.eval,List.map_toArray,List.map_cons,List.map_nil,al_gd,h.h0 a0,al_od];clear hm;go_simp
   ·
    have a11:L 11=true:=hall ⟨11,.data⟩ (by simp) rfl;have u:∀j,j≠12->upd L 12 true j=L j:=λj hj=>upd_ne _ _ hj;refine .inl ⟨44,rfl,.pointer (some ⟨bT,1,none⟩),w',?_,c,s,r,v',by simp[hs],λt ht=>(by rw[al_gn (by omega)];exact h.keep t ht),h.ge,h.ext,(by rw[u 13 (by omega)];exact h.bt),(λhh=>by rw[u 10 (by omega)]at hh;exact h.row hh),λhh=>(by rw[u 7 (by omega)]at hh;rw[u 6 (by omega)];exact h.k7 hh),λhh=>(by rw[u 8 (by omega)]at hh;rw[u 7 (by omega)];exact h.k8 hh),λhh=>(by rw[u 9 (by omega)]at hh;rw[u 8 (by omega)];exact h.k9 hh),λhh=>(by rw[u 10 (by omega)]at hh;rw[u 9 (by omega)];exact h.k10 hh),λhh=>(by rw[u 13 (by omega)]at hh;rw[u 10 (by omega)];exact h.k13 hh),(λhh=>by rw[u 10 (by omega)]at hh;rw[u 4 (by omega)];exact h.k4 hh),
     λhh=>(by rw[u 0 (by omega)]at hh;rw[al_gn (by omega)];exact h.h0 hh),
     λhh=>(by rw[u 1 (by omega)]at hh;rw[al_gn (by omega)];exact h.h1 hh),
     λhh=>(by rw[u 2 (by omega)]at hh;rw[al_gn (by omega)];exact h.h2 hh),
     λhh=>(by rw[u 3 (by omega)]at hh;rw[al_gn (by omega)];exact h.h3 hh),
     λhh=>(by rw[u 4 (by omega)]at hh;rw[al_gn (by omega)];exact h.h4 hh),
     λhh=>(by rw[u 5 (by omega)]at hh;rw[al_gn (by omega)];exact h.h5 hh),
     λhh=>(by rw[u 6 (by omega)]at hh;obtain⟨q1,q2,q3⟩:=h.h6 hh;exact⟨(by rw[al_gn (by omega)];exact q1),q2,q3⟩),
     λhh=>(by rw[u 7 (by omega)]at hh;rw[al_gn (by omega)];exact h.h7 hh),
     λhh=>(by rw[u 8 (by omega)]at hh;obtain⟨q1,q2,q3⟩:=h.h8 hh;exact⟨(by rw[al_gn (by omega)];exact q1),q2,q3⟩),
     λhh h10=>(by rw[u 9 (by omega)]at hh;rw[u 10 (by omega)]at h10;obtain⟨q1,q2⟩:=h.h9 hh h10;exact⟨(by rw[al_gn (by omega)];exact q1),q2⟩),
     λhh=>(by rw[u 10 (by omega)]at hh;obtain⟨q1,q2⟩:=h.h10 hh;exact⟨(by rw[al_gn (by omega)];exact q1),q2⟩),
     λhh=>(by rw[u 11 (by omega)]at hh;rw[al_gn (by omega)];exact h.h11 hh),
     λ_=>by simp[hs]⟩
    simp only[execOp,Act.eval,List.map_toArray,List.map_cons,List.map_nil,al_gd,h.h11 a11,al_od];clear hm;go_simp
   ·
    have a10:L 10=true:=hall ⟨10,.data⟩ (by simp) rfl;have a12:L 12=true:=hall ⟨12,.data⟩ (by simp) rfl;have u:∀j,j≠13->upd L 13 true j=L j:=λj hj=>upd_ne _ _ hj;obtain⟨q1,q2⟩:=h.h10 a10;have hb:=h.bt;rw[hL]at hb hcT;have zT:=zqh (off:=1) hb;have hst:=zqy w' bT 1 v' hb;have hne:∀b y,w'.heap[b]?=some y->(∀c,y≠Obj.cells c 149)->(w'.setCell ⟨bT,1,none⟩ v').heap[b]?=some y:=λb y hb' hy=>by
     rw[zql _ _ _ _ (λ(e:b=bT)=>by subst e;rw[hb]at hb';cases hb';exact hy _ rfl)];exact hb'
    obtain⟨g,cap,cur,hv,hg1,hg2,hg3⟩:∃g cap cur,v'=.slice (some ⟨g,0,none⟩) (j+1) cap/\B1<=g/\w'.heap[g]?=some (.cells cur 150 (0,0))/\_:=by
     rcases q2.2 with⟨_,hn⟩|hx
     . exact absurd hn (Nat.succ_ne_zero _)
     . exact hx
    refine .inr ⟨rfl,w'.setCell ⟨bT,1,none⟩ v',?_,c,s,r,v',hs,h.keep,(by rw[zqz];exact h.ge),(λb o hbo=>by rw[zql _ _ _ _ (λ(e:b=bT)=>by rw[e,hET]at hbo;cases hbo)];exact h.ext b o hbo),(by rw[upd_same];exact hst.trans (by rfl)),(λhh=>by rw[u 10 (by omega),a10]at hh;cases hh),
     (λhh=>by rw[u 7 (by omega)]at hh;rw[u 6 (by omega)];exact h.k7 hh),(λhh=>by rw[u 8 (by omega)]at hh;rw[u 7 (by omega)];exact h.k8 hh),(λhh=>by rw[u 9 (by omega)]at hh;rw[u 8 (by omega)];exact h.k9 hh),(λhh=>by rw[u 10 (by omega)]at hh;rw[u 9 (by omega)];exact h.k10 hh),(λ_=>by rw[u 10 (by omega)];exact a10),(λhh=>by rw[u 10 (by omega)]at hh;rw[u 4 (by omega)];exact h.k4 hh),
     (λhh=>by rw[u 0 (by omega)]at hh;exact h.h0 hh),
     (λhh=>by rw[u 1 (by omega)]at hh;exact h.h1 hh),
     (λhh=>by rw[u 2 (by omega)]at hh;exact h.h2 hh),
     (λhh=>by rw[u 3 (by omega)]at hh;exact h.h3 hh),
     (λhh=>by rw[u 4 (by omega)]at hh;exact h.h4 hh),
     (λhh=>by rw[u 5 (by omega)]at hh;exact h.h5 hh),
     (λhh=>by rw[u 6 (by omega)]at hh;obtain⟨q1,q2,q3⟩:=h.h6 hh;exact⟨q1,hne _ _ q2 (by intro c e;cases e),q3⟩),
     (λhh=>by rw[u 7 (by omega)]at hh;exact h.h7 hh),
     (λhh=>by rw[u 8 (by omega)]at hh;obtain⟨q1,q2,q3⟩:=h.h8 hh;exact⟨q1,hne _ _ q2 (by intro c e;cases e),q3⟩),
     (λ_ hh=>by rw[u 10 (by omega),a10]at hh;cases hh),
     (λ_=>⟨q1,q2.1,.inr ⟨g,cap,cur,hv,hg1,hne _ _ hg2 (by intro c e;cases e),hg3⟩⟩),
     (λhh=>by rw[u 11 (by omega)]at hh;exact h.h11 hh),
     (λhh=>by rw[u 12 (by omega)]at hh;exact h.h12 hh)⟩
    clear hst hne;subst hv;simp only[execOp,Act.eval,al_gd,q1,h.h12 a12,al_od];clear hm;go_simp
 . rintro L T w' hall ⟨c,s,r,v',h⟩;have a13:=hall 13 (by simp);have hb:=h.bt;rw[a13]at hb;obtain⟨q1,q2⟩:=h.h10 (hall 10 (by simp));obtain⟨s1,s2,s3⟩:=h.h8 (hall 8 (by simp));obtain⟨c1,c2,c3⟩:=h.h6 (hall 6 (by simp));refine hJ.ctl (s:=n) (λw=>stepG_region_end) ?_;exact hm.out T w' c s v' h.size h.keep h.ge h.ext hb q2 c2 c3 s2 s3
noncomputable def lpA:Code:=match headC (overT 4)with|.seq _ (.block _ (.loop c))=>c|_=>.skip
noncomputable def r5c:Code:=headC lpA
noncomputable def r7c:Code:=tailN 3 lpA
theorem lpA_eq:lpA=.seq r5c (.seq (.cond (.tmp 31) .skip (.exit 0)) (.seq (.block 1 r6c) r7c)):=by kernel_rfl
theorem over4:overT 4=.seq (.seq (headC (headC (overT 4))) (.block 0 (.loop lpA))) (overT 5):=by kernel_rfl
theorem over5:overT 5=.seq (headC (overT 5)) (overT 6):=by kernel_rfl
theorem over3:overT 3=.seq (headC (overT 3)) (overT 4):=by kernel_rfl
theorem zq6t{γ:Type}{J:γ->Goroutine->World->Prop}{s:γ}{b:Frame}{a:Act}{c x:Code}{k:List Item}{cs:List Frame}{w:World}(e:c=x)(h:J s (G (b.at a (.code x::k)) cs) w):J s (G (b.at a (.code c::k)) cs) w:=by rw[e];exact h
def stL(st:Nat->Nat)(j:Nat):List Value:=(List.range j).map λi=>.pointer (some ⟨st i,0,none⟩)
theorem stL_succ(st:Nat->Nat)(j s:Nat):stL (λi=>if i=j then s else st i) (j+1)=stL st j++[.pointer (some ⟨s,0,none⟩)]:=by
 unfold stL;rw[List.range_succ,List.map_append];congr 1
 . refine List.map_congr_left λi hi=>?_;have:=List.mem_range.1 hi;show Value.pointer (some ⟨if i=j then s else st i,0,none⟩)=_;rw[if_neg (by omega)]
 . simp
structure St4(N bX bT bB back capB:Nat)(w₀:World)(j:Nat)(st pass:Nat->Nat)(sv:Value)(w:World):Prop where
 bt:w.heap[bT]?=some (.cells #[.chan (some back),sv,.slice (some ⟨bB,0,none⟩) N capB] 149)
 row:w.ownsRow w₀.heap.size 150 1 sv j (stL st j)
 old:∀b,b<w₀.heap.size->b≠bT->w.heap[b]?=w₀.heap[b]?
 ge:w₀.heap.size<=w.heap.size
 std:∀i,i<j->w.heap[st i]?=some (.cells #[.pointer (some ⟨bT,0,none⟩),.chan (some (pass i)),.bool false] 153)
 ps:∀i,i<j->w.heap[pass i]?=some (.chan 0 #[] false 0 0 false)
 lo:∀i,i<j->w₀.heap.size<=pass i/\pass i<st i
 inc:∀i i',i<i'->i'<j->st i<pass i'
theorem St4.row_at {N bX bT bB back capB:Nat}{w₀:World}{j:Nat}{st pass:Nat->Nat}{sv:Value}{w:World}(h:St4 N bX bT bB back capB w₀ j st pass sv w){g:Nat}(hg:sv.ownBlock=some g):w₀.heap.size<=g/\∃c,w.heap[g]?=some (.cells c 150):=by
 rcases h.row.2 with⟨hv,_⟩|⟨g2,cap,cur,hv,h1,h2,h3⟩
 . rw[hv]at hg;cases hg
 . rw[hv]at hg;simp only[Value.ownBlock,al_oi]at hg;subst hg;exact⟨h1,cur,h2⟩
theorem St4.next {N bX bT bB back capB:Nat}{w₀:World}{j:Nat}{st pass:Nat->Nat}{sv:Value}{w:World}(h:St4 N bX bT bB back capB w₀ j st pass sv w)(hbt:bT<w₀.heap.size){w':World}{c s:Nat}{v':Value}(hge:w.heap.size<=w'.heap.size)
 (hext:∀b,b≠bT->sv.ownBlock≠some b->∀o,w.heap[b]?=some o->w'.heap[b]?=some o) (hT:w'.heap[bT]?=some (.cells #[.chan (some back),v',.slice (some ⟨bB,0,none⟩) N capB] 149)) (hrow:w'.ownsRow w₀.heap.size 150 1 v' (j+1) (stL st j++[.pointer (some ⟨s,0,none⟩)]))
 (hc:w'.heap[c]?=some (.chan 0 #[] false 0 0 false)) (hcl:w.heap.size<=c) (hs:w'.heap[s]?=some (.cells #[.pointer (some ⟨bT,0,none⟩),.chan (some c),.bool false] 153)) (hcs:c<s):
 St4 N bX bT bB back capB w₀ (j+1) (λi=>if i=j then s else st i) (λi=>if i=j then c else pass i) v' w':=by
 have hg:=λg=>h.row_at (g:=g);have hge':=h.ge;have lt:∀b o,w.heap[b]?=some o->b<w.heap.size:=λb o hb=>zqi hb;refine⟨hT,by rw[stL_succ];exact hrow,λb hb hne=>?_,by omega,λi hi=>?_,λi hi=>?_,λi hi=>?_,λi i' hi hi'=>?_⟩
 . obtain⟨o,ho⟩:∃o,w₀.heap[b]?=some o:=⟨_,Array.getElem?_eq_getElem hb⟩;rw[ho];refine hext b hne (λe=>?_) o ((h.old b hb hne).trans ho);have:=(hg b e).1;omega
 . show w'.heap[if i=j then s else st i]?=some (.cells #[.pointer (some ⟨bT,0,none⟩),.chan (some (if i=j then c else pass i)),.bool false] 153)
   by_cases e:i=j
   . rw[if_pos e,if_pos e];exact hs
   . rw[if_neg e,if_neg e];have hi':i<j:=by omega
     have h1:=h.std i hi';refine hext _ (λe2=>?_) (λe2=>?_) _ h1
     . have:=h.lo i hi';omega
     . obtain⟨_,c2,h2⟩:=hg _ e2;rw[h1]at h2;cases h2
 . show w'.heap[if i=j then c else pass i]?=_
   by_cases e:i=j
   . rw[if_pos e];exact hc
   . rw[if_neg e];have hi':i<j:=by omega
     have h1:=h.ps i hi';refine hext _ (λe2=>?_) (λe2=>?_) _ h1
     . have:=h.lo i hi';omega
     . obtain⟨_,c2,h2⟩:=hg _ e2;rw[h1]at h2;cases h2
 . show w₀.heap.size<=(if i=j then c else pass i)/\(if i=j then c else pass i)<(if i=j then s else st i)
   by_cases e:i=j
   . rw[if_pos e,if_pos e];omega
   . rw[if_neg e,if_neg e];exact h.lo i (by omega)
 . show(if i=j then s else st i)<(if i'=j then c else pass i');rw[if_neg (by omega)]
   by_cases e:i'=j
   . rw[if_pos e];have:=lt _ _ (h.std i (by omega));omega
   . rw[if_neg e];exact h.inc i i' hi (by omega)
theorem zqcd{Fin:Machine->Trace->Prop}(hFin:Back Try.prog Fin){n N:Nat}{T:Array Value}{w:World}{K:List Item}{cs:List Frame}(hsz:T.size=129)(f29:T[29]?=some (.int .i64 N))(f30:T[30]?=some (.int .i64 N))
 (hmain:∀T':Array Value,T'.size=129->(∀t,t<29->T'[t]?=T[t]?)->J0 Try.prog Fin n (G ((bN 54).at ⟨T',[]⟩ K) cs) w):
 J0 Try.prog Fin n (G ((bN 54).at ⟨T,[]⟩ (.code lpA::.inLoop lpA::.inBlock 0::K)) cs) w:=by
 have hJ:=j0_JS hFin;have hm:=Lib.hid hmain;clear hmain;refine zq6t (J:=J0 Try.prog Fin) lpA_eq ?_;obtain⟨u0,hu0⟩:∃c,r5c=c:=⟨_,rfl⟩;have eu0:=hu0;rw[hu0];simp only[r5c,r7c,lpA,overT,headC,tailN,Try.f54,al_od]at eu0;subst eu0;clear hu0;refine hJ.ctl (s:=n) (λw=>stepG_seq) ?_;refine hJ.ctl (s:=n) (λw=>stepG_region) ?_;refine zqr (s:=n) hJ (by decide) 0 [.bool false] [] rfl (by simp) (by rfl) ?_ ?_
 . intro τ d;simp only[zqo,dstOf,al_gl,al_g0,al_g1,al_ob];refine⟨?_,trivial⟩<;>(intro o ho;simp only[al_oi]at ho;subst ho)
   all_goals(try simp only[execOp,Act.eval,List.map_toArray,List.map_cons,List.map_nil,al_gd])
   all_goals(try simp only[al_gs,al_gz,hsz,f29,f30,Nat.reduceEqDiff,Nat.reduceLT,↓reduceIte,al_od])
   all_goals(have hlt:∀i,i<129->i<(T).size:=λi hi=>(by rw[hsz];exact hi))
   all_goals(clear hsz f29 f30)
   all_goals(try go_simp)
   all_goals(try omega)
 simp only[putv,dstOf,al_gl,al_g0,al_g1,al_ob];obtain⟨T1,hT⟩:∃X,X=(T).setIfInBounds 31 (.bool false):=⟨_,rfl⟩;rw[<-hT];have hT1:T1.size=129:=by rw[hT];simp[hsz]
 have T1_29:=sg1 hT f29;have T1_30:=sg1 hT f30;have T1_31:T1[31]?=some (.bool false):=by rw[hT];simp[al_gs,hsz]
 have hk1:∀t,t<29->T1[t]?=T[t]?:=λt ht=>by rw[hT,al_gn (by omega)]
 clear hT f29 f30 hsz;refine hJ.ctl (s:=n) (λw=>stepG_region_end) ?_;refine hJ.ctl (s:=n) (λw=>stepG_seq) ?_;refine hJ.ctl (s:=n) (λw=>stepG_cond (t:=false) (by simp[Act.eval,al_gd,T1_31])) ?_;simp only[Bool.false_eq_true,if_false];refine hJ.ctl (s:=n) (λw=>stepG_exit (k':=K) rfl) ?_;exact hm.out _ hT1 (λt ht=>hk1 t ht)
theorem four_one{Fin:Machine->Trace->Prop}(hFin:Back Try.prog Fin){n N bX bT bB back capB:Nat}{w₀:World}{j:Nat}{st pass:Nat->Nat}{sv:Value}{T:Array Value}{w:World}{K:List Item}{cs:List Frame}(hj:j<N)(hN:N<=64)(hsz:T.size=129)(f10:T[10]?=some (.pointer (some ⟨bX,0,none⟩)))(f29:T[29]?=some (.int .i64 N))(f30:T[30]?=some (.int .i64 j))
 (h:St4 N bX bT bB back capB w₀ j st pass sv w) (hbt:bT<w₀.heap.size) (hX:w.heap[bX]?=some (.cells #[.pointer (some ⟨bT,0,none⟩)] 145))
 (hmain:∀(T':Array Value)(w':World)(st' pass':Nat->Nat)(sv':Value),St4 N bX bT bB back capB w₀ (j+1) st' pass' sv' w'->T'.size=129->(∀t,t<29->T'[t]?=T[t]?)->T'[29]?=some (.int .i64 N)->T'[30]?=some (.int .i64 (j+1:Nat))->
  J0 Try.prog Fin n (G ((bN 54).at ⟨T',[]⟩ (.code lpA::.inLoop lpA::.inBlock 0::K)) cs) w'):
 J0 Try.prog Fin n (G ((bN 54).at ⟨T,[]⟩ (.code lpA::.inLoop lpA::.inBlock 0::K)) cs) w:=by
 have hJ:=j0_JS hFin;have hm:=Lib.hid hmain;clear hmain;have hjN:(j:Int)<N:=by omega
 obtain⟨lp,hlp⟩:∃c,lpA=c:=⟨_,rfl⟩;have elp:=lpA_eq;rw[hlp]at hm elp |-;refine zq6t (J:=J0 Try.prog Fin) elp ?_;obtain⟨u0,hu0⟩:∃c,r5c=c:=⟨_,rfl⟩;have eu0:=hu0;rw[hu0];simp only[r5c,r7c,lpA,overT,headC,tailN,Try.f54,al_od]at eu0;subst eu0;clear hu0;refine hJ.ctl (s:=n) (λw=>stepG_seq) ?_;refine hJ.ctl (s:=n) (λw=>stepG_region) ?_;refine zqr (s:=n) hJ (by decide) 0 [.bool true] [] rfl (by simp) (by rfl) ?_ ?_
 . intro τ d;simp only[zqo,dstOf,al_gl,al_g0,al_g1,al_ob];refine⟨?_,trivial⟩<;>(intro o ho;simp only[al_oi]at ho;subst ho)
   all_goals(try simp only[execOp,Act.eval,List.map_toArray,List.map_cons,List.map_nil,al_gd])
   all_goals(try simp only[al_gs,al_gz,hsz,f29,f30,Nat.reduceEqDiff,Nat.reduceLT,↓reduceIte,al_od])
   all_goals(have hlt:∀i,i<129->i<(T).size:=λi hi=>(by rw[hsz];exact hi))
   all_goals(clear hsz f29 f30)
   all_goals(try go_simp)
   all_goals(try omega)
 simp only[putv,dstOf,al_gl,al_g0,al_g1,al_ob];obtain⟨T1,hT⟩:∃X,X=(T).setIfInBounds 31 (.bool true):=⟨_,rfl⟩;rw[<-hT];have hT1:T1.size=129:=by rw[hT];simp[hsz]
 have T1_29:=sg1 hT f29;have T1_30:=sg1 hT f30;have T1_31:T1[31]?=some (.bool true):=by rw[hT];simp[al_gs,hsz]
 have hk1:∀t,t<29->T1[t]?=T[t]?:=λt ht=>by rw[hT,al_gn (by omega)]
 clear hT f29 f30 hsz;refine hJ.ctl (s:=n) (λw=>stepG_region_end) ?_;refine hJ.ctl (s:=n) (λw=>stepG_seq) ?_;refine hJ.ctl (s:=n) (λw=>stepG_cond (t:=true) (by simp[Act.eval,al_gd,T1_31])) ?_;simp only[if_true];refine hJ.ctl (s:=n) (λw=>stepG_skip) ?_;refine hJ.ctl (s:=n) (λw=>stepG_seq) ?_;refine hJ.ctl (s:=n) (λw=>stepG_block) ?_;have hX1:bX≠bT:=λe=>by subst e;rw[h.bt]at hX;cases hX
 refine zqdr hFin (E:=λb=>if b=bT\/sv.ownBlock=some b then none else w.heap[b]?) (by omega) hT1 ((hk1 10 (by omega)).trans f10) (bT:=bT) (bX:=bX) (back:=back) (bB:=bB) (N:=N) (capB:=capB) (l:=stL st j) (sv:=sv) (B1:=w₀.heap.size) ?_ ?_ ?_ ?_ h.bt h.row h.ge
  λT2 w2 c s v' k1 k2 k3 k4 k5 k6 k7 k8 k9 k10=>?_
 . show(if bX=bT\/sv.ownBlock=some bX then none else w.heap[bX]?)=_;rw[if_neg]
   . exact hX
   . rintro(e|e)
     . exact hX1 e
     . obtain⟨_,c2,h2⟩:=h.row_at e;rw[hX]at h2;cases h2
 . exact if_pos (.inl rfl)
 . exact λg hg=>if_pos (.inr hg)
 . intro b o hb;split at hb
   . cases hb
   . exact hb
 have h2:=h.next hbt (w':=w2) (c:=c) (s:=s) (v':=v') k3 (λb e1 e2 o ho=>k4 b o (by show(if b=bT\/sv.ownBlock=some b then none else w.heap[b]?)=_;rw[if_neg (λe=>e.elim e1 e2)];exact ho)) k5 k6 k7 k8 k9 k10
 refine hJ.ctl (s:=n) (λw=>stepG_inBlock) ?_;have g29:=(k2 29 (by omega)).trans T1_29;have g30:=(k2 30 (by omega)).trans T1_30;have hk2:∀t,t<29->T2[t]?=T[t]?:=λt ht=>(k2 t (by omega)).trans (hk1 t ht);clear k2 k3 k4 k5 k6 k7 k8 k9 k10 T1_29 T1_30 T1_31 hk1;have hwr:IntKind.i64.wrap ((j:Int)+1)=((j+1:Nat):Int):=by
  rw[show(j:Int)+1=((j+1:Nat):Int)by omega];exact IntWalk.i64_in _ (by omega)
 have hm2:=λ(T':Array Value)=>hm.out T' w2 _ _ _ h2
 clear hm hX;have hm:=Lib.hid hm2;clear hm2 h2 h;obtain⟨u0,hu0⟩:∃c,r7c=c:=⟨_,rfl⟩;have eu0:=hu0;rw[hu0];simp only[r5c,r7c,lpA,overT,headC,tailN,Try.f54,al_od]at eu0;subst eu0;clear hu0;refine hJ.ctl (s:=n) (λw=>stepG_region) ?_;refine zqr (s:=n) hJ (by decide) 0 [.int .i64 ((j+1:Nat):Int),.int .i64 ((j+1:Nat):Int)] [] rfl (by simp) (by rfl) ?_ ?_
 . intro τ d;simp only[zqo,dstOf,al_gl,al_g0,al_g1,al_ob];refine⟨?_,?_,trivial⟩<;>(intro o ho;simp only[al_oi]at ho;subst ho)
   all_goals(try simp only[execOp,Act.eval,List.map_toArray,List.map_cons,List.map_nil,al_gd])
   all_goals(try simp only[al_gs,al_gz,k1,g29,g30,Nat.reduceEqDiff,Nat.reduceLT,↓reduceIte,al_od])
   all_goals(have hlt:∀i,i<129->i<(T2).size:=λi hi=>(by rw[k1];exact hi))
   all_goals(clear k1 g29 g30)
   all_goals(try go_simp)
   all_goals(try omega)
 simp only[putv,dstOf,al_gl,al_g0,al_g1,al_ob];obtain⟨T3,hT⟩:∃X,X=((T2).setIfInBounds 45 (.int .i64 ((j+1:Nat):Int))).setIfInBounds 30 (.int .i64 ((j+1:Nat):Int)):=⟨_,rfl⟩;rw[<-hT];have hT3:T3.size=129:=by rw[hT];simp[k1]
 have T3_29:=sg2 hT g29;have T3_45:T3[45]?=some (.int .i64 ((j+1:Nat):Int)):=by rw[hT];simp[al_gs,k1]
 have T3_30:T3[30]?=some (.int .i64 ((j+1:Nat):Int)):=by rw[hT];simp[al_gs,k1]
 have hk3:∀t,t<29->T3[t]?=T[t]?:=λt ht=>by rw[hT,al_gn (by omega),al_gn (by omega)];exact hk2 t ht
 clear hT g29 g30 k1;refine hJ.ctl (s:=n) (λw=>stepG_region_end) ?_;refine hJ.ctl (s:=n) (λw=>stepG_inLoop) ?_;exact hm.out _ hT3 hk3 T3_29 T3_30
theorem zqce{Fin:Machine->Trace->Prop}(hFin:Back Try.prog Fin){n N bX bT bB back capB:Nat}{w₀:World}(hN:N<=64)(hbt:bT<w₀.heap.size)(hbX:bX<w₀.heap.size)(hXT:bX≠bT)(hX:w₀.heap[bX]?=some (.cells #[.pointer (some ⟨bT,0,none⟩)] 145)){K:List Item}{cs:List Frame}:
 ∀(r j:Nat),j+r=N->∀{st pass:Nat->Nat}{sv:Value}{T:Array Value}{w:World},T.size=129->T[10]?=some (.pointer (some ⟨bX,0,none⟩))->T[29]?=some (.int .i64 N)->T[30]?=some (.int .i64 j)->St4 N bX bT bB back capB w₀ j st pass sv w->
  (∀(T':Array Value)(w':World)(st' pass':Nat->Nat)(sv':Value),St4 N bX bT bB back capB w₀ N st' pass' sv' w'->T'.size=129->(∀t,t<29->T'[t]?=T[t]?)->J0 Try.prog Fin n (G ((bN 54).at ⟨T',[]⟩ K) cs) w')->
  J0 Try.prog Fin n (G ((bN 54).at ⟨T,[]⟩ (.code lpA::.inLoop lpA::.inBlock 0::K)) cs) w:=by
 intro r
 induction r with
 |zero=>
  intro j hj st pass sv T w hsz f10 f29 f30 h hmain;have e:j=N:=by omega
  subst e;exact zqcd hFin hsz f29 f30 λT' h1 h2=>hmain T' w st pass sv h h1 h2
 |succ r ih=>
  intro j hj st pass sv T w hsz f10 f29 f30 h hmain;refine four_one hFin (by omega) hN hsz f10 f29 f30 h hbt ((h.old _ hbX hXT).trans hX) λT' w' st' pass' sv' h' k1 k2 k3 k4=>?_;exact ih (j+1) (by omega) k1 ((k2 10 (by omega)).trans f10) k3 k4 h' λT2 w2 s2 p2 v2 h2 q1 q2=>hmain T2 w2 s2 p2 v2 h2 q1 λt ht=>(q2 t ht).trans (k2 t ht)
theorem zqdp{Fin:Machine->Trace->Prop}(hFin:Back Try.prog Fin){n N bX bT bB back capB:Nat}{w₀:World}{bn:Nat}{T:Array Value}{K:List Item}{cs:List Frame}(hN:N<=64)(hbt:bT<w₀.heap.size)(hbX:bX<w₀.heap.size)(hXT:bX≠bT)(hX:w₀.heap[bX]?=some (.cells #[.pointer (some ⟨bT,0,none⟩)] 145))
 (hsz:T.size=129) (f9:T[9]?=some (.pointer (some ⟨bn,0,none⟩))) (cn:w₀.cell? ⟨bn,0,none⟩=some (.int .i64 N)) (f10:T[10]?=some (.pointer (some ⟨bX,0,none⟩))) (h:St4 N bX bT bB back capB w₀ 0 (λ_=>0) (λ_=>0) (.slice none 0 0) w₀)
 (hmain:∀(T':Array Value)(w':World)(st pass:Nat->Nat)(sv:Value)(w1:World),St4 N bX bT bB back capB w₀ N st pass sv w1->T'.size=129->(∀t,t<29->t≠11->T'[t]?=T[t]?)->T'[11]?=some (.pointer (some ⟨w1.heap.size,0,none⟩))->
  w'.heap.size=w1.heap.size+1->(∀b,b<w1.heap.size->w'.heap[b]?=w1.heap[b]?)->w'.heap[w1.heap.size]?=some (.cells #[.int .i64 0] 3)->J0 Try.prog Fin n (G ((bN 54).at ⟨T',[]⟩ (.code (overT 6)::K)) cs) w'):
 J0 Try.prog Fin n (G ((bN 54).at ⟨T,[]⟩ (.code (overT 4)::K)) cs) w₀:=by
 have hJ:=j0_JS hFin;have hm1:=λ(T':Array Value)(w':World)(st pass:Nat->Nat)(sv:Value)(w1:World)(q:St4 N bX bT bB back capB w₀ N st pass sv w1)=>hmain T' w' st pass sv w1 q
 have hm:=Lib.hid hm1;clear hmain hm1;rw[over4,over5];generalize overT 6=rest at hm |-;obtain⟨u0,hu0⟩:∃c,headC (headC (overT 4))=c:=⟨_,rfl⟩;have eu0:=hu0;rw[hu0];simp only[r5c,r7c,lpA,overT,headC,tailN,Try.f54,al_od]at eu0;subst eu0;clear hu0;obtain⟨u1,hu1⟩:∃c,headC (overT 5)=c:=⟨_,rfl⟩;have eu1:=hu1;rw[hu1];simp only[r5c,r7c,lpA,overT,headC,tailN,Try.f54,al_od]at eu1;subst eu1;clear hu1;refine hJ.ctl (s:=n) (λw=>stepG_seq) ?_;refine hJ.ctl (s:=n) (λw=>stepG_seq) ?_;refine hJ.ctl (s:=n) (λw=>stepG_region) ?_;refine zqr (s:=n) hJ (by decide) 0 [.int .i64 N,.int .i64 (0:Nat)] [] rfl (by simp) (by rfl) ?_ ?_
 . intro τ d;simp only[zqo,dstOf,al_gl,al_g0,al_g1,al_ob];refine⟨?_,?_,trivial⟩<;>(intro o ho;simp only[al_oi]at ho;subst ho)
   all_goals(try simp only[execOp,Act.eval,List.map_toArray,List.map_cons,List.map_nil,al_gd])
   all_goals(try simp only[al_gs,al_gz,hsz,f9,Nat.reduceEqDiff,Nat.reduceLT,↓reduceIte,al_od])
   all_goals(have hlt:∀i,i<129->i<(T).size:=λi hi=>(by rw[hsz];exact hi))
   all_goals(clear hsz f9)
   all_goals(try go_simp)
   all_goals(try omega)
 simp only[putv,dstOf,al_gl,al_g0,al_g1,al_ob];obtain⟨T1,hT⟩:∃X,X=((T).setIfInBounds 29 (.int .i64 N)).setIfInBounds 30 (.int .i64 (0:Nat)):=⟨_,rfl⟩;rw[<-hT];have hT1:T1.size=129:=by rw[hT];simp[hsz]
 have T1_9:=sg2 hT f9;have T1_29:T1[29]?=some (.int .i64 N):=by rw[hT];simp[al_gs,hsz]
 have T1_30:T1[30]?=some (.int .i64 (0:Nat)):=by rw[hT];simp[al_gs,hsz]
 have hk1:∀t,t<29->T1[t]?=T[t]?:=λt ht=>by rw[hT,al_gn (by omega),al_gn (by omega)]
 clear hT f9 hsz;refine hJ.ctl (s:=n) (λw=>stepG_region_end) ?_;refine hJ.ctl (s:=n) (λw=>stepG_block) ?_;refine hJ.ctl (s:=n) (λw=>stepG_loop) ?_;refine zqce hFin hN hbt hbX hXT hX N 0 (by omega) hT1 ((hk1 10 (by omega)).trans f10) T1_29 T1_30 h λT2 w2 st pass sv h2 q1 q2=>?_;have hm2:=hm.out;have hge:=h2.ge;clear hm;refine hJ.ctl (s:=n) (λw=>stepG_seq) ?_;refine hJ.ctl (s:=n) (λw=>stepG_region) ?_;have hk2:∀t,t<29->T2[t]?=T[t]?:=λt ht=>(q2 t ht).trans (hk1 t ht);obtain⟨B0,hs⟩:∃B0,w2.heap.size=B0:=⟨_,rfl⟩;clear q2 hk1 T1_9 T1_29 T1_30;have hm3:=λ(T':Array Value)(w':World)=>hm2 T' w' st pass sv w2 h2
 rw[hs]at hm3;have hm:=Lib.hid hm3;clear hm2 hm3 h2 h hX;have ho:∀b,b<B0->w2.heap[b]?=w2.heap[b]?:=λ_ _=>rfl;refine zq2m hJ (by decide) (s:=n) (i:=0) (rest:=[1]) rfl rfl rfl rfl λτ dd=>?_;refine⟨.pointer (some ⟨B0,0,none⟩),re (w2.alloc (.cells #[.int .i64 0] 3)) τ dd,?_,?_⟩
 . simp only[List.getElem_toArray,List.getElem_cons_zero,List.getElem_cons_succ,execOp,Act.eval,List.map_toArray,List.map_cons,List.map_nil,al_gd,q1,al_od];clear q1
   (go_simp)
   all_goals(first|rfl |(simp[hs];done)|skip)
 refine hJ.re' _ _ _ τ dd ?_;generalize hw:w2.alloc (.cells #[.int .i64 0] 3)=w3;have hsw3:w3.heap.size=B0+1:=by rw[<-hw,zq8,hs]
 have how3:∀b,b<B0->w3.heap[b]?=w2.heap[b]?:=λb hb=>by rw[<-hw,zqc,if_neg (by omega)];try exact ho b hb
 have b0w3:w3.heap[B0]?=some (.cells #[.int .i64 0] 3):=by rw[<-hw,zqc,if_pos (by omega)]
 clear hw hs ho;obtain⟨T3,hT⟩:∃X,X=(T2).setIfInBounds 11 (.pointer (some ⟨B0,0,none⟩)):=⟨_,rfl⟩;rw[<-hT];have hT3:T3.size=129:=by rw[hT];simp[q1]
 have T3_11:T3[11]?=some (.pointer (some ⟨B0,0,none⟩)):=by rw[hT];simp[al_gs,q1]
 have hk3:∀t,t<29->t≠11->T3[t]?=T[t]?:=λt ht h11=>by rw[hT,al_gn (by omega)];exact hk2 t ht
 clear hT q1;have cS:=(zq1 (off:=0) b0w3).trans rfl;have zS:=zqh (off:=0) b0w3;refine zq4d hJ (by decide) (s:=n) (i:=1) (rest:=[]) rfl rfl rfl rfl λτ dd=>?_;refine⟨re (w3.setCell ⟨B0,0,none⟩ (.int .i64 0)) τ dd,?_,?_⟩
 . simp only[List.getElem_toArray,List.getElem_cons_zero,List.getElem_cons_succ,execOp,Act.eval,List.map_toArray,List.map_cons,List.map_nil,al_gd,hT3,T3_11,al_od];clear hT3 T3_11
   (go_simp)
   all_goals(first|rfl |(simp[hsw3];done)|skip)
 refine hJ.re' _ _ _ τ dd ?_;have hq:=zqy w3 (B0) 0 (.int .i64 0) b0w3;generalize hw:w3.setCell ⟨B0,0,none⟩ (.int .i64 0)=w4 at hq;have hsw4:w4.heap.size=B0+1:=by rw[<-hw,zqz,hsw3]
 have how4:∀b,b<B0->w4.heap[b]?=w2.heap[b]?:=λb hb=>by rw[<-hw,zql _ _ _ _ (by show b≠B0;omega)];exact how3 b hb
 have b0w4:w4.heap[B0]?=some (.cells #[.int .i64 0] 3):=hq.trans (by rfl);clear hw hq cS zS b0w3 hsw3 how3;refine hJ.ctl (s:=n) (λw=>stepG_region_end) ?_;exact hm.out _ w4 hT3 hk3 T3_11 hsw4 how4 b0w4
section
variable {M:Type}
noncomputable def zq23(A:OA)(a:Addr):Option Value:=
 open Classical in
 if a=⟨A.bT,0,none⟩then some (.chan (some A.back))else if a=⟨A.bX,0,none⟩then some (.pointer (some ⟨A.bT,0,none⟩))else
  if h:∃i,i<A.N/\a=⟨A.st i,1,none⟩then some (.chan (some (A.pass (Classical.choose h))))else none
theorem zq7k{A:OA}(hA:A.Ok):Kept A (zq23 A):=by
 have hXT:=hA.ne.2.2.2.1;refine⟨?_,?_,λi hi=>?_,λa v h=>?_⟩
 . unfold zq23;rw[if_pos rfl]
 . unfold zq23;rw[if_neg (by intro e;injection e with e1;exact hXT e1),if_pos rfl]
 . unfold zq23;have hex:∃j,j<A.N/\(⟨A.st i,1,none⟩:Addr)=⟨A.st j,1,none⟩:=⟨i,hi,rfl⟩;rw[if_neg (by intro e;injection e with e1 e2;cases e2),if_neg (by intro e;injection e with e1 e2;cases e2),dif_pos hex];have h1:=Classical.choose_spec hex;have h2:A.st i=A.st (Classical.choose hex):=by have:=h1.2;injection this
   rw[<-hA.inj i _ hi h1.1 h2]
 . unfold zq23 at h;split at h
   . exact .inl (by assumption)
   . split at h
     . exact .inr (.inl (by assumption))
     . split at h
       . rename_i hh;obtain⟨i,h1,h2⟩:=hh;exact .inr (.inr ⟨i,h1,h2⟩)
       . cases h
theorem zqcw{A:OA}(hA:A.Ok){ov brk:Nat->Bool}{w:World}(h:OverW A ov brk w):KK (zq23 A) w:=by
 intro a v ha;have hK:=zq7k hA;rcases hK.only a v ha with rfl |rfl |⟨i,hi,rfl⟩
 . rw[hK.t]at ha;cases ha;exact⟨(zq1 h.ts).trans rfl,zqh h.ts⟩
 . rw[hK.x]at ha;cases ha;exact⟨(zq1 h.box).trans rfl,zqh h.box⟩
 . rw[hK.p i hi]at ha;cases ha;exact⟨(zq1 (h.std i hi)).trans rfl,zqh (h.std i hi)⟩
theorem zqcu{T:Thr M}{m₀:M}{n N most c g p x:Nat}{w w3 w1 w6:World}{st pass:Nat->Nat}{sv:Value}(tv:Nat->Value)(hn:0<n)(hN:N<=64)(hmost:most<=1048576)(hrep:T.Rep m₀ w)(hlf:most+100<=T.left m₀)
 (s3:w.heap.size+3<=w3.heap.size) (o3:∀b,b<w.heap.size->w3.heap[b]?=w.heap[b]?) (fM:w3.heap[w.heap.size]?=some (.cells #[.int .i64 most] 3)) (fO:w3.heap[w.heap.size+1]?=some (.cells #[.slice none 0 0] 24)) (fN:w3.heap[w.heap.size+2]?=some (.cells #[.int .i64 N] 3))
 (lc:w.heap.size+3<=c) (lg:w.heap.size+3<=g) (lp:w.heap.size+3<=p) (lx:w.heap.size+3<=x) (fc:w3.heap[c]?=some (.chan 0 #[] false 0 0 false)) (fg:∃br,w3.heap[g]?=some (.cells br 4)/\∀i,i<N->br[i]?=some (.bool false))
 (fx:w3.heap[x]?=some (.cells #[.pointer (some ⟨p,0,none⟩)] 145)) (fp:w3.heap[p]?=some (.cells #[.chan (some c),.slice none 0 0,.slice (some ⟨g,0,none⟩) N N] 149))
 (h:St4 N x p g c N w3 N st pass sv w1) (s6:w6.heap.size=w1.heap.size+1) (o6:∀b,b<w1.heap.size->w6.heap[b]?=w1.heap[b]?) (fL:w6.heap[w1.heap.size]?=some (.cells #[.int .i64 0] 3)):
 ∃(A:OA)(E:Nat->Option Obj),A.N=N/\A.n0=n/\A.tv=tv/\A.bX=x/\KK (zq23 A) w6/\Inv T A ⟨w.heap.size+2,w.heap.size,w.heap.size+1,w1.heap.size,w.heap.size⟩ (zq23 A) w m₀ most 0 E (most+100) ⟨m₀,λ_=>false,λ_=>false,[]⟩ 0 (.slice none 0 0) (λ_=>none) w6:=by
 obtain⟨br,fg1,fg2⟩:=fg;have hge:=h.ge;have lgl:=zqi fg1;have lcl:=zqi fc;have lxl:=zqi fx;have o31:∀b,b<w3.heap.size->b≠p->w6.heap[b]?=w3.heap[b]?:=λb hb hne=>(o6 b (by omega)).trans (h.old b hb hne);have hne:∀(a b:Nat)(y z:Obj),w3.heap[a]?=some y->w3.heap[b]?=some z->y≠z->a≠b:=λa b y z h1 h2 hyz e=>by subst e;rw[h1]at h2;exact hyz (Option.some.inj h2)
 have ncg:c≠g:=hne c g _ _ fc fg1 (by intro e;cases e);have ncx:c≠x:=hne c x _ _ fc fx (by intro e;cases e);have ngx:g≠x:=hne g x _ _ fg1 fx (by intro e;cases e);have lpl:=zqi fp;have ncp:c≠p:=hne c p _ _ fc fp (by intro e;cases e);have ngp:g≠p:=hne g p _ _ fg1 fp (by intro e;cases e);have nxp:x≠p:=hne x p _ _ fx fp (by intro e;cases e);have stl:∀i,i<N->w3.heap.size<st i/\st i<w1.heap.size:=λi hi=>⟨by have:=h.lo i hi;omega,zqi (h.std i hi)⟩;have psl:∀i,i<N->w3.heap.size<=pass i/\pass i<w1.heap.size:=λi hi=>⟨(h.lo i hi).1,zqi (h.ps i hi)⟩;have std6:∀i,i<N->w6.heap[st i]?=some (.cells #[.pointer (some ⟨p,0,none⟩),.chan (some (pass i)),.bool false] 153):=λi hi=>(o6 _ (stl i hi).2).trans (h.std i hi);have ps6:∀i,i<N->w6.heap[pass i]?=some (.chan 0 #[] false 0 0 false):=λi hi=>(o6 _ (psl i hi).2).trans (h.ps i hi);have tp6:w6.heap[p]?=some (.cells #[.chan (some c),sv,.slice (some ⟨g,0,none⟩) N N] 149):=(o6 p (by omega)).trans h.bt;have stinj:∀i j,i<N->j<N->st i=st j->i=j:=λi j hi hj e=>by
  rcases Nat.lt_trichotomy i j with hlt|heq|hlt
  . have:=h.inc i j hlt hj;have:=(h.lo j hj).2;omega
  . exact heq
  . have:=h.inc j i hlt hi;have:=(h.lo i hi).2;omega
 have psinj:∀i j,i<N->j<N->pass i=pass j->i=j:=λi j hi hj e=>by
  rcases Nat.lt_trichotomy i j with hlt|heq|hlt
  . have:=h.inc i j hlt hj;have:=(h.lo i hi).2;omega
  . exact heq
  . have:=h.inc j i hlt hi;have:=(h.lo j hj).2;omega
 obtain⟨sp,gS,cap,row,hsv,hsp,hrow,hgS,hSl⟩:∃(sp:Option Addr)(gS cap:Nat)(row:Array Value),sv=.slice sp N cap/\(0<N->sp=some ⟨gS,0,none⟩)/\(∀i,i<N->row[i]?=some (.pointer (some ⟨st i,0,none⟩)))/\(0<N->w1.heap[gS]?=some (.cells row 150))/\w3.heap.size<=gS/\∀i,i<N->st i≠gS:=by
  rcases h.row.2 with⟨hv,h0⟩|⟨g2,cap,cur,hv,h1,h2,h3,h4,h5,h6⟩
  . exact⟨none,w3.heap.size,0,#[],by rw[hv,h0],λhN=>by omega,λi hi=>by omega,λhN=>by omega,Nat.le_refl _,λi hi=>by omega⟩
  . refine⟨some ⟨g2,0,none⟩,g2,cap,cur,hv,λ_=>rfl,λi hi=>?_,λ_=>h2,h1,λi hi e=>?_⟩
    . have e1:(cur.toList.take (N*1))[i]?=(stL st N)[i]?:=by rw[h6]
      rw[List.getElem?_take_of_lt (by omega),Array.getElem?_toList]at e1;rw[e1];unfold stL;simp[hi]
    . have:=h.std i hi;rw[e,h2]at this;cases this
 subst hsv;obtain⟨A,hA⟩:∃A:OA,A={n0:=n,N:=N,cap:=cap,capB:=N,bT:=p,bS:=gS,sp:=sp,bB:=g,bX:=x,back:=c,row:=row,st:=st,pass:=pass,rb:=λ_=>0,tv:=tv}:=⟨_,rfl⟩;have aN:A.N=N:=by rw[hA]
 have hOk:A.Ok:=by
  rw[hA];exact⟨hn,hsp,hrow,stinj,λi hi e=>by have:=(psl i hi).1;simp only at e;omega,psinj,⟨by simp only;omega,λe=>ngp e.symm,by simp only;omega,nxp,by simp only;omega,λe=>ngx e.symm⟩,
   λi hi=>⟨by have:=stl i hi;simp only;omega,hSl.2 i hi,by have:=stl i hi;simp only;omega,by have:=stl i hi;simp only;omega⟩⟩
 have how:OverW A (λ_=>false) (λ_=>false) w6:=by
  rw[hA];exact⟨tp6,(o31 x lxl nxp).trans fx,λh0=>(o6 gS (zqi (hgS h0))).trans (hgS h0),⟨br,(o31 g lgl ngp).trans fg1,fg2⟩,std6,⟨0,0,(o31 c lcl ncp).trans fc⟩,λi hi=>⟨0,0,ps6 i hi⟩⟩
 have hown:∀b,A.own b->w.heap.size+3<=b/\b<w1.heap.size:=by
  intro b hb;rw[hA]at hb;rcases hb with e|⟨h0,e⟩|e|e|e|⟨i,hi,e|e⟩<;>simp only at e
  . omega
  . have:=zqi (hgS h0);omega
  . omega
  . omega
  . omega
  . have:=stl i hi;omega
  . have:=psl i hi;omega
 have hft:∀b,T.foot m₀ b->b<w.heap.size:=λb hb=>T.lt _ _ _ hrep hb;have hrep6:T.Rep m₀ w6:=T.frame _ _ _ hrep λb hb=>by
  have:=hft b hb;rw[o31 b (by omega) (by omega),o3 b this]
 obtain⟨E,hE⟩:∃E:Nat->Option Obj,E=λb=>open Classical in if A.own b\/T.foot m₀ b then none else w6.heap[b]?:=⟨_,rfl⟩
 have eE:∀b,¬A.own b->¬T.foot m₀ b->E b=w6.heap[b]?:=λb h1 h2=>by rw[hE];exact if_neg (λh=>h.elim h1 h2)
 have eE':∀b o,E b=some o->¬A.own b/\¬T.foot m₀ b/\w6.heap[b]?=some o:=λb o hb=>by
  by_cases e:A.own b\/T.foot m₀ b
  . have:E b=none:=by rw[hE];exact if_pos e
    rw[this]at hb;cases hb
  . have h1:¬A.own b:=λh=>e (.inl h);have h2:¬T.foot m₀ b:=λh=>e (.inr h);exact⟨h1,h2,(eE b h1 h2).symm.trans hb⟩
 have nown:∀b,b<w.heap.size+3\/w1.heap.size<=b->¬A.own b:=λb hb ho=>by have:=hown b ho;omega
 have nft:∀b,w.heap.size<=b->¬T.foot m₀ b:=λb hb hf=>by have:=hft b hf;omega
 have aMO:∀b,w.heap.size<=b->b<w.heap.size+3->E b=w3.heap[b]?:=λb h1 h2=>by rw[eE b (nown b (.inl h2)) (nft b h1),o31 b (by omega) (by omega)]
 refine⟨A,E,aN,by rw[hA],by rw[hA],by rw[hA],zqcw hOk how,?_⟩;refine⟨hOk,⟨⟨by simp only;omega,Nat.le_refl _,by simp only;omega,by simp only;omega⟩,⟨by simp only;omega,by simp only;omega,by simp only;omega,by simp only;omega,by simp only;omega,by simp only;omega⟩⟩,zq7k hOk,?_,?_,?_,?_,?_,λb hb=>by have:=hown b hb;simp only;omega,⟨rfl,.inl ⟨rfl,rfl⟩⟩,λg hg=>(by cases hg),λb hb hf=>?_,Nat.zero_le _,hmost,by rw[aN];exact hN,by simp only;omega,by omega⟩
 . refine⟨how,hrep6,λb hb hf=>?_,Nat.zero_le _,λi hi=>absurd hi (Nat.not_lt_zero _),λi b hi=>absurd hi (Nat.not_lt_zero _),λi j hi=>absurd hi (Nat.not_lt_zero _),λi b hi=>absurd hi (Nat.not_lt_zero _),λi b hi=>absurd hi (Nat.not_lt_zero _),λi hi=>absurd hi (Nat.not_lt_zero _),λ_ _ _=>rfl,λb o hb=>(eE' b o hb).2.2,λb o hb=>⟨(eE' b o hb).1,(eE' b o hb).2.1,λi hi=>absurd hi (Nat.not_lt_zero _)⟩,hlf⟩;have:=hft b hf;have:=hown b hb;omega
 . rw[aN];exact(aMO _ (by simp only;omega) (by simp only;omega)).trans fN
 . exact(aMO _ (by simp only;omega) (by simp only;omega)).trans fM
 . exact(aMO _ (by simp only;omega) (by simp only;omega)).trans fO
 . exact(eE _ (nown _ (.inr (Nat.le_refl _))) (nft _ (by omega))).trans fL
 . simp only at hb;rw[eE b (nown b (.inl (by omega))) hf,o31 b (by omega) (by omega),o3 b hb]
end
section
variable {M:Type}
theorem go_all{Fin:Machine->Trace->Prop}(hFin:Back Try.prog Fin){T:Thr M}{B:Bx}{Kc:Addr->Option Value}{w₀:World}{m₀:M}{most:Nat}{p:Option Addr}{L C:Nat}{sch:Value}{tv:Nat->Value}{b:Frame}(hb:b.kind≠.early){ds:List Deferred}{K:List Item}{cs:List Frame}{v:Value}{N n0:Nat}(hNL:N<=L)
 (hp:0<N->∃tb,p=some ⟨tb,0,none⟩/\tb<B.B0/\¬T.foot m₀ tb/\∀i,i<N->w₀.cell? ⟨tb,i,none⟩=some (tv i))
 (hr:∀i,i<N->Runs Try.prog T 81 150 NEnd m₀ i (tv i))
 {A:OA} {E:Nat->Option Obj} {k:Nat} {inb:Nat->Option Seat} {w:World} {Ts:Array Value} (hAN:A.N=N) (hA0:A.n0=n0) (hAt:A.tv=tv) (hI:Inv T A B Kc w₀ m₀ most 0 E k ⟨m₀,λ_=>false,λ_=>false,[]⟩ 0 v inb w) (hF:Fr0 A B (.slice p L C) sch Ts) (t46:Ts[46]?=some (.int .i64 N)) (t47:Ts[47]?=some (.int .i64 (0:Nat)))
 (hmain:∀A' a' E' inb' w' Ts',A'.N=N->A'.n0=n0->a'.ord=[]->Begun T m₀ N a'.m a'.ov a'.brk->Inv T A' B Kc w₀ m₀ most N E' k a' (leftN a'.ov N) v inb' w'->Fr0 A' B (.slice p L C) sch Ts'->HoldR Try.prog Fin Kc inb' 0 (n0+N) (G (b.at ⟨Ts',ds⟩ K) cs) w'):
 HoldR Try.prog Fin Kc inb 0 n0 (G (b.at ⟨Ts,ds⟩ (.code lpB::.inLoop lpB::.inBlock 2::K)) cs) w:=by
 by_cases h0:0<N
 . obtain⟨tb,rfl,h1,h2,h3⟩:=hp h0;exact go_loop hFin h1 h2 hb hNL hr h3 N 0 (by omega) hAN hA0 hAt rfl hI rfl (λ_ _=>rfl) .zero hF t46 t47 hmain
 . have e:N=0:=by omega
   subst e;refine zq7h hFin hF (by rw[hAN];exact t46) (by rw[hAN];exact t47) hb λTs' hF'=>?_;exact hmain A _ E inb w Ts' hAN hA0 rfl .zero hI hF'
structure SchAt(T:Thr M)(m₀:M)(w:World)(sch:Value)(l:List Int):Prop where
 len:l.length<=4611686018427387904
 at':∃p C,sch=.slice p l.length C/\(l≠[]->∃sb off,p=some ⟨sb,off,none⟩/\∀j x,l[j]?=some x->(w.cell? ⟨sb,off+j,none⟩=some (.int .i64 x)/\sb<w.heap.size/\¬T.foot m₀ sb)\/∀m w,T.Rep m w->w.cell? ⟨sb,off+j,none⟩=some (.int .i64 x))
structure Over1(T:Thr M)(N most:Nat)(sched:List Int)(m₀:M)(w:World)(b:OSt M)(m':M)(v:Value)(g:Nat)(w':World):Prop where
 ran:Ran T N sched most m₀ b m'
 rep:T.Rep m' w'
 size:w.heap.size<=w'.heap.size
 old:∀x,x<w.heap.size->¬T.foot m₀ x->w'.heap[x]?=w.heap[x]?
 foot:∀x,T.foot m' x->T.foot m₀ x\/w.heap.size<=x
 row:w'.ownsRow w.heap.size 3 1 v b.ord.length (b.ord.map λ(i:Nat)=>.int .i64 i)
 rowf:∀x,v.ownBlock=some x->¬T.foot m' x/\x≠g
 brk:∃br,w'.heap[g]?=some (.cells br 4)/\∀i,i<N->br[i]?=some (.bool (b.brk i))
 brkl:w.heap.size<=g
 brkf:¬T.foot m' g
 len:b.ord.length<=most
theorem zqdq{Fin:Machine->Trace->Prop}(hFin:Back Try.prog Fin){T:Thr M}{A:OA}{B:Bx}{Kc:Addr->Option Value}{w₀:World}{m₀:M}{most:Nat}{thr sch:Value}{sched:List Int}(hB:B.B0=w₀.heap.size)(hsch:SchAt T m₀ w₀ sch sched)
 {E:Nat->Option Obj} {a:OSt M} {inb:Nat->Option Seat} {w:World} {Ts:Array Value} {v:Value} (hord:a.ord=[]) (hbg:Begun T m₀ A.N a.m a.ov a.brk) (hI:Inv T A B Kc w₀ m₀ most A.N E (most+100) a (leftN a.ov A.N) v inb w) (hF:Fr0 A B thr sch Ts) {c:Frame} {cs:List Frame}
 (hmain:∀b m' v' g w',Over1 T A.N most sched m₀ w₀ b m' v' g w'->J0 Try.prog Fin (A.n0+A.N) (G (c.finish (.tuple #[v',.bool (decide (0<leftN b.ov A.N)),.slice (some ⟨g,0,none⟩) A.N A.capB])) cs) w'):
 HoldR Try.prog Fin Kc inb 0 (A.n0+A.N) (G ((bN 54).at ⟨Ts,[]⟩ [.code (overT 7)]) (c::cs)) w:=by
 have hb:(bN 54).kind≠.early:=by decide
 obtain⟨p,C,rfl,hs⟩:=hsch.at';refine glue17 hFin hF hb λT1 hF1 t76 t77 t78=>?_;have after:∀a' E' k' v' inb' w' Ts',StepsR T A.N most sched a a'->most+100<=k'+a'.ord.length->Inv T A B Kc w₀ m₀ most A.N E' k' a' (leftN a'.ov A.N) v' inb' w'->Fr A B thr (.slice p sched.length C) Ts'->HoldR Try.prog Fin Kc inb' 0 (A.n0+A.N) (G ((bN 54).at ⟨Ts',[]⟩ [.code (overT 9)]) (c::cs)) w':=by
  intro a1 E1 k1 v1 inb1 w1 T2 hst hk1 hI1 hF2;refine glue19 hFin (A:=A) (B:=B) ?_;refine zqe5 hFin (Nat.le_refl _) hb most (by omega) hI1 hk1 hF2 λa2 E2 k2 v2 inb2 w2 T3 hr hk2 hI2 hF3=>?_;refine glue29 hFin hF3 (hI2.cell hI2.eL).1 ((zq1 hI2.cf.ow.box).trans rfl) ((zq1 hI2.cf.ow.ts).trans rfl) hb λT4 hF4 g7 g107 g108 g109=>?_;have hk3:100<=k2+0:=by have:=hI2.len;omega
  refine zqcz hFin (Nat.le_refl _) hb (b₀:=a2) A.N 0 (by omega) hI2 hk3 .zero rfl rfl (λi hi=>by omega) (λi _=>rfl) hF4 g7 g107 g108 g109 λa3 E3 k3 inb3 w3 T5 hI3 hE hbr hor hov hF5 h7=>?_;have hgone:∀j,j≠0->inb3 j=none:=λj hj=>hI3.cf.gone j hj λi hi ho=>by rw[hov i hi]at ho;cases ho
  obtain⟨pv,cap,hv⟩:=hI3.slice;refine zqd6 (s:=⟨A.n0+A.N,inb3⟩) hgone ?_;have cO:=(hI3.cell hI3.eO).1;rw[hv]at cO;refine over_end hFin hF5 h7 cO (hI3.cell hI3.eO).2.1 ((zq1 hI3.cf.ow.box).trans rfl) ((zq1 hI3.cf.ow.ts).trans rfl) ?_;rw[<-hv];refine hmain a2 a3.m v2 A.bB w3 ⟨⟨⟨a.m,a.ov,a.brk,a1,hbg,?_,hr⟩,hE⟩,hI3.cf.rep,?_,λx hx hf=>?_,λx hx=>?_,?_,λx hx=>⟨?_,?_⟩,?_,?_,hI3.cf.free _ (.inr (.inr (.inl rfl))),hI2.len⟩
  . have:(⟨a.m,a.ov,a.brk,[]⟩:OSt M)=a:=by rw[<-hord]
    rw[this];exact hst
  . rw[<-hB];exact hI3.base
  . obtain⟨o,ho⟩:∃o,w₀.heap[x]?=some o:=⟨_,Array.getElem?_eq_getElem hx⟩;rw[ho];exact hI3.heap_old (by rw[hB];exact hx) hf ho
  . by_cases hlt:x<w₀.heap.size
    . refine .inl (Classical.byContradiction λhf=>?_);have h1:=hI3.old x (by rw[hB];exact hlt) hf;have h2:w₀.heap[x]?=some w₀.heap[x]:=Array.getElem?_eq_getElem hlt;exact(hI3.cf.extfree x _ (h1.trans h2)).2.1 hx
    . exact .inr (by omega)
  . have:=hI3.row;rw[hor,hB]at this;exact this
  . obtain⟨h1,h2⟩:=hI3.erow x hx;rcases hI3.row.2 with⟨hv',_⟩|⟨g2,cap2,cur2,hv',_,hh,_⟩
    . rw[hv']at hx;cases hx
    . rw[hv']at hx;simp only[Value.ownBlock,al_oi]at hx;subst hx;exact(hI3.cf.extfree _ _ (h1.trans hh)).2.1
  . obtain⟨h1,h2⟩:=hI3.erow x hx;rcases hI3.row.2 with⟨hv',_⟩|⟨g2,cap2,cur2,hv',_,hh,_⟩
    . rw[hv']at hx;cases hx
    . rw[hv']at hx;simp only[Value.ownBlock,al_oi]at hx;subst hx;exact λe=>(hI3.cf.extfree _ _ (h1.trans hh)).1 (.inr (.inr (.inl e)))
  . obtain⟨br,h1,h2⟩:=hI3.cf.ow.brs;exact⟨br,h1,λi hi=>by rw[h2 i hi,hbr]⟩
  . rw[<-hB];exact hI3.own _ (.inr (.inr (.inl rfl)))
 by_cases h0:sched=[]
 . subst h0;exact zq8f hFin hF1 t77 t78 hb λT2 hF2=>after a E _ v inb w T2 (.nil a) (by omega) hI hF2
 . obtain⟨sb,off,rfl,h3⟩:=hs h0;refine zqeb hFin (Nat.le_refl _) hsch.len (by rw[hB];exact h3) hb sched.length 0 (by omega) hI (by omega) hF1 t76 t77 t78 λa' E' k' v' inb' w' Ts' hst=>?_;rw[List.drop_zero]at hst;exact after a' E' k' v' inb' w' Ts' hst
theorem zqdn{Fin:Machine->Trace->Prop}(hFin:Back Try.prog Fin){T:Thr M}{m₀:M}{w:World}{n L C N most:Nat}{p:Option Addr}{tv:Nat->Value}{sched:List Int}{sch:Value}{mo:Int}{c:Frame}{cs:List Frame}(hn:0<n)(hN:N=min L 64)(hmost:most=min mo.toNat 1048576)
 (hrep:T.Rep m₀ w) (hlf:most+100<=T.left m₀) (hp:0<N->∃tb,p=some ⟨tb,0,none⟩/\¬T.foot m₀ tb/\∀i,i<N->w.cell? ⟨tb,i,none⟩=some (tv i)) (hr:∀i,i<N->Runs Try.prog T 81 150 NEnd m₀ i (tv i)) (hsch:SchAt T m₀ w sch sched)
 (hmain:∀b m' v' g cap w',Over1 T N most sched m₀ w b m' v' g w'->J0 Try.prog Fin (n+N) (G (c.finish (.tuple #[v',.bool (decide (0<leftN b.ov N)),.slice (some ⟨g,0,none⟩) N cap])) cs) w'):
 J0 Try.prog Fin n (G (Frame.enter Try.prog 54 #[.slice p L C,sch,.int .i64 mo] .normal) (c::cs)) w:=by
 have hJ:=j0_JS hFin;refine zqdo hFin λT1 w1 z1 f0 f1 f5 f6 f7 f9 s1 o1 hM hO hBN=>?_;rw[show heldI mo 1048576=(most:Int)by rw[hmost];exact zqch mo 1048576]at hM;have hNi:(if(64:Int)<(L:Int)then(64:Int)else(L:Int))=((N:Nat):Int):=by
  rw[hN];split<;>omega
 rw[hNi]at hBN;have hN64:N<=64:=by omega
 rw[over3];refine hJ.ctl (s:=n) (λw=>stepG_seq) ?_;refine zqds hFin hN64 z1 f9 ((zq1 hBN).trans rfl) λT2 w2 cc g q x z2 k2 s2 o2 lc lg lq lx fc fg fq fx g10=>?_;obtain⟨br,fg1,fg2⟩:=fg;have hne:∀(a b:Nat)(y z:Obj),w2.heap[a]?=some y->w2.heap[b]?=some z->y≠z->a≠b:=λa b y z h1 h2 hyz e=>by subst e;rw[h1]at h2;exact hyz (Option.some.inj h2)
 have hxq:x≠q:=hne x q _ _ fx fq (by intro e;cases e);have e9:w2.heap[w.heap.size+2]?=some (.cells #[.int .i64 N] 3):=(o2 _ (by omega)).trans hBN;have kk:∀t,t<24->t≠10->T2[t]?=T1[t]?:=λt h1 h2=>k2 t (by omega) (by omega) (by omega) (by omega) (by omega) h2;refine zqdp hFin (N:=N) (bX:=x) (bT:=q) (bB:=g) (back:=cc) (capB:=N) hN64 (zqi fq) (zqi fx) hxq fx z2 ((kk 9 (by omega) (by omega)).trans f9) ((zq1 e9).trans rfl) g10
  ⟨fq,⟨rfl,.inl ⟨rfl,rfl⟩⟩,λ_ _ _=>rfl,Nat.le_refl _,λi hi=>by omega,λi hi=>by omega,λi hi=>by omega,λi j h1 h2=>by omega⟩ λT3 w6 st pass sv w5 hSt z3 k3 h11 s6 o6 hL=>?_
 obtain⟨A,E,aN,aA0,aT,aX,hKK,hI⟩:=zqcu (w:=w) (w3:=w2) (w1:=w5) (w6:=w6) (n:=n) (most:=most) tv hn hN64 (by omega) hrep hlf (by omega) (λb hb=>(o2 b (by omega)).trans (o1 b hb)) ((o2 _ (by omega)).trans hM) ((o2 _ (by omega)).trans hO) e9 (by omega) (by omega) (by omega) (by omega) fc ⟨br,fg1,fg2⟩ fx fq hSt s6 o6 hL;refine zqcv hKK ?_;have kq:∀t,t<24->t≠10->t≠11->T3[t]?=T1[t]?:=λt h1 h2 h3=>(k3 t (by omega) h3).trans (kk t h1 h2);have hF:Fr0 A ⟨w.heap.size+2,w.heap.size,w.heap.size+1,w5.heap.size,w.heap.size⟩ (.slice p L C) sch T3:=
  ⟨z3,(kq 0 (by omega) (by omega) (by omega)).trans f0,(kq 1 (by omega) (by omega) (by omega)).trans f1,(kq 5 (by omega) (by omega) (by omega)).trans f5,(kq 6 (by omega) (by omega) (by omega)).trans f6,(kq 9 (by omega) (by omega) (by omega)).trans f9,by rw[aX];exact(k3 10 (by omega) (by omega)).trans g10,h11⟩
 have hb:(bN 54).kind≠.early:=by decide
 show HoldR Try.prog Fin (zq23 A) (λ_=>none) 0 n _ w6;refine glue9 hFin hF (hI.cell hI.eN).1 hb λT4 hF4 t46 t47=>?_;rw[aN]at t46;refine go_all hFin hb (by omega) (λh0=>?_) hr aN aA0 aT hI hF4 t46 t47 λA' a' E' inb' w' T5 bN' bn' bo hbg hI' hF5=>?_
 . obtain⟨tb,h1,h2,h3⟩:=hp h0;exact⟨tb,h1,Go.Car.cell_lt (h3 0 h0),h2,h3⟩
 . subst bN';subst bn';exact zqdq hFin (B:=⟨w.heap.size+2,w.heap.size,w.heap.size+1,w5.heap.size,w.heap.size⟩) rfl hsch bo hbg hI' hF5 λb m' v' g' w7 ho=>hmain b m' v' g' A'.capB w7 ho
end
end Go.Proofs
namespace Go.Car
open Go
structure Cd where
 d:Int
 r:Int
 a:Int
 b:Int
 v:Int
structure Mch where
 regs:Nat->Int
 told:List Int
 next:Int
 most:Int
structure Mem where
 ws:List Int
 th:Nat->Mch
section
variable {M:Type} {T:Thr M} {abs:M->Mem} {prog:Nat->List Cd}
end
structure TSt(S:Type)where
 s:S
 t:Nat->Tree S Unit
 ov:Nat->Bool
 ord:List Nat
def Tree.isRet {S α:Type}:Tree S α->Bool
 |.ret _=>true
 |_=>false
section
variable {S:Type}
def turnT(i:Nat)(r:S×Tree S Unit)(a:TSt S)(ord:List Nat):TSt S:={s:=r.1,t:=upd' a.t i r.2,ov:=if r.2.isRet then(λj=>if j=i then true else a.ov j)else a.ov,ord:=ord}
def zq22(pr:Nat->Proc S Unit)(s:S):Nat->TSt S
 |0=>{s:=s,t:=λ_=>.ret (),ov:=λ_=>false,ord:=[]}
 |n+1=>turnT n (pr n (zq22 pr s n).s) (zq22 pr s n) (zq22 pr s n).ord
def goT(t:Tree S Unit)(s:S):S×Tree S Unit:=
 match t with
 |.step u k=>(u s,k s)
 |x=>(s,x)
def zq52(N most:Nat)(x:Int)(a:TSt S):TSt S:=
 if x<0\/(N:Int)<=x\/a.ov x.toNat=true\/a.ord.length=most then a else turnT x.toNat (goT (a.t x.toNat) a.s) a (a.ord++[x.toNat])
def stepsT(N most:Nat)(l:List Int)(a:TSt S):TSt S:=l.foldl (λa x=>zq52 N most x a) a
def zq3y(N most:Nat):Nat->TSt S->TSt S
 |0,a=>a
 |f+1,a=>if 0<leftN a.ov N/\a.ord.length<most then zq3y N most f (stepsT N most (upto N) a)else a
def playT(pr:Nat->Proc S Unit)(N most:Nat)(l:List Int)(s:S):TSt S:=zq3y N most (most+1) (stepsT N most l (zq22 pr s N))
end
section
variable {Ml S O:Type} {C:Core Ml S} {own:Nat->S->O} {ro:Nat->Option Obj} {pr:Nat->Proc S Unit}
structure SameT(C:Core Ml S)(a:OSt (TM Ml S))(s:TSt S):Prop where
 st:C.st a.m.bm.l=s.s
 at':a.m.at'=s.t
 ov:a.ov=s.ov
 brk:∀j,a.brk j=false
 ord:a.ord=s.ord
theorem turned_T{R:TM Ml S->Out (TM Ml S)->Prop}{i:Nat}{m m':TM Ml S}{ov brk ov' brk':Nat->Bool}{r:S×Tree S Unit}{room:Nat}(hR:∀o,R m o->Came C own i r m room o)(h:zq1m R i m ov brk m' ov' brk')(hb:∀j,brk j=false):
 C.st m'.bm.l=r.1/\m'.at'=upd' m.at' i r.2/\ov'=(if r.2.isRet then(λj=>if j=i then true else ov j)else ov)/\∀j,brk' j=false:=by
 have key:∀o,Came C own i r m room o->C.st o.mem.bm.l=r.1/\o.mem.at'=upd' m.at' i r.2:=λo h=>by
  refine⟨h.st,funext λj=>?_⟩
  by_cases hj:j=i
  . subst hj;rw[upd'_same];exact h.here
  . rw[zqx _ _ hj];exact(h.others j hj).1
 obtain⟨rs,rt⟩:=r;cases h with
 |yield h=>
  have hc:=hR _ h;have ho:=hc.out;cases rt with
  |ret a=>cases ho
  |out=>exact ho.elim
  |step u k=>exact⟨(key _ hc).1,(key _ hc).2,rfl,hb⟩
 |done h=>
  have hc:=hR _ h;have ho:=hc.out;cases rt with
  |ret a=>exact⟨(key _ hc).1,(key _ hc).2,rfl,λj=>by simp only;split<;>simp[hb]⟩
  |out=>exact ho.elim
  |step u k=>cases ho
 |broke h=>
  have hc:=hR _ h;have ho:=hc.out;cases rt with
  |ret a=>cases ho
  |out=>exact ho.elim
  |step u k=>cases ho
end
end Go.Car
namespace Go.Car
open Go Go.Conc Go.RowKit
section
variable {P:Program} {main:Bool} {Kc:Addr->Option Value} {γ:Type} {J:γ->Goroutine->World->Prop} {A:FuncId->Bool}
theorem zqv(hJ:JS P main Kc J)(hcalm:CalmJ P main J)(hP:Plain P A){c:Code}(hc:zqp P A c=true)(C:Array Value->World->Prop)
 (hC:∀t w τ d,C t w->C t (re w τ d)) {b:Frame} {k:List Item} {cs:List Frame} (hb:b.kind≠.early) {s:γ} {a:Act} {w:World}
 (h:∀τ d,Code.wp P c (ends (λa w=>C a.tmps w) (λ_ _=>False)) ⟨a.tmps,[]⟩ (re w τ d))
 (hq:∀t w',C t w'->J s (G (b.at ⟨t,a.defers⟩ k) cs) w'):J s (G (b.at a (.code c::k)) cs) w:=by
 refine zqas (Q:=λs' e a' w'=>s'=s/\e=.normal/\a'.defers=a.defers/\C a'.tmps w') hJ hcalm hP hc (λa w=>C a.tmps w) (λ_ _=>False) (λa w τ d h=>hC _ _ _ _ h) (λ_ _ _ _ h=>h) h (λt w h=>⟨rfl,rfl,rfl,h⟩) (λ_ _ h=>h.elim) b k cs hb ?_;rintro s' e ⟨t,ds⟩ w' ⟨rfl,rfl,hd,h⟩;simp only at hd;subst hd;exact hq t w' h
theorem zq5d(hJ:JS P main Kc J)(hcalm:CalmJ P main J)(hP:Plain P A){f:FuncId}{fn:Func}{c:Code}{args:Array Value}{s:γ}{w:World}(hf:P.funcs[f]?=some fn)(hb:fn.body=some c)(hc:zqp P A c=true)
 {R:Value->World->Prop} (hR:∀v w τ d,R v w->R v (re w τ d)) (h:∀τ d,Calls P f args (re w τ d) λe w'=>∃v,e=.returned v/\R v w') {cl:Frame} {cs:List Frame}
 (hq:∀v w',R v w'->J s (G (cl.finish v) cs) w'):J s (G (Frame.enter P f args .normal) (cl::cs)) w:=by
 refine zq6r hJ hcalm hP hf hb hc hR (λτ d=>Calls.mono (h τ d) ?_) cl cs ?_ ?_
 . rintro e w' ⟨v,rfl,h⟩;exact h
 . rintro s' v w' ⟨rfl,h⟩;exact hq v w' h
 . rintro s' ch w' h;exact h.elim
theorem zq32(hJ:JS P main Kc J)(hcalm:CalmJ P main J)(hP:Plain P A){c:Code}(hc:zqp P A c=true)(R:Value->World->Prop)
 (hR:∀v w τ d,R v w->R v (re w τ d)) {b:Frame} (hb:b.kind=.normal) {fn:Func} (hf:P.funcs[b.fn]?=some fn) {cl:Frame} {cs:List Frame} {s:γ} {t:Array Value} {w:World}
 (h:∀τ d,Code.wp P c (bodyPost P fn λe w'=>∃v,e=.returned v/\R v w') ⟨t,[]⟩ (re w τ d))
 (hq:∀v w',R v w'->J s (G (cl.finish v) cs) w'):J s (G (b.at ⟨t,[]⟩ [.code c]) (cl::cs)) w:=by
 let Φ:Act->World->Prop:=λa w=>∃v,(results fn a.tmps).run P w=.ok v w/\R v w
 have hΦ:∀a w τ d,Φ a w->Φ a (re w τ d):=λa w τ d⟨v,h1,h2⟩=>⟨v,zq3a h1 τ d,hR _ _ _ _ h2⟩;have hleave:∀(t:Array Value)(w:World)(todo:List Item),Φ ⟨t,[]⟩ w->J s (G {b.at ⟨t,[]⟩ todo with mode:=.returning} (cl::cs)) w:=λt w todo⟨v,h1,h2⟩=>
  zq2b hJ hb rfl hf (λτ d=>zq3a h1 τ d) (hq v w h2)
 refine zqas (Q:=λs' e a' w'=>s'=s/\(e=.normal\/e=.ret)/\a'.defers=[]/\Φ a' w') hJ hcalm hP hc Φ Φ hΦ hΦ (λτ d=>?_) (λt w h=>⟨rfl,.inl rfl,rfl,h⟩) (λt w h=>⟨rfl,.inr rfl,rfl,h⟩) b [] (cl::cs) (by rw[hb];decide) ?_
 . refine Code.wp_mono ?_ (h τ d);intro e a w hh;cases e with
   |normal=>obtain⟨h1,v,h2,v',h3,h4⟩:=hh;cases h3;exact⟨h1,v,h2,h4⟩
   |ret=>obtain⟨h1,v,h2,v',h3,h4⟩:=hh;cases h3;exact⟨h1,v,h2,h4⟩
   |panic ch=>obtain⟨h1,v,h2,_⟩:=hh;cases h2
   |outgrown=>obtain⟨v,h2,_⟩:=hh;cases h2
   |_=>exact hh
 . rintro s' e ⟨t',ds⟩ w' ⟨rfl,he,hd,h⟩;simp only at hd;subst hd;rcases he with rfl |rfl
   . exact hJ.ctl (λw=>stepG_end) (hleave t' w' [] h)
   . exact λtodo=>hleave t' w' todo h
end
end Go.Car
