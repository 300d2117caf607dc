/- YtnjpcibdaanpeaaSBound10: part 5 of the proof (the texts behind it, in order). -/
import Derived.Test.YtnjpcibdaanpeaaL04
set_option linter.unusedSimpArgs false
set_option linter.unusedVariables false
set_option linter.unusedSectionVars false
set_option linter.unnecessarySimpa false
set_option maxHeartbeats 1000000
set_option maxRecDepth 100000
namespace Go.Proofs
open Go Go.Conc Go.RowKit Go.Car
structure RS where
 C:List Int
 T:Nat->RT
 ord:List Nat
def turnR(i:Nat)(r:List Int×RT)(a:RS)(ord:List Nat):RS:=⟨r.1,upd' a.T i r.2,ord⟩
def beginRS(ops:Nat->List OpX)(C:List Int):Nat->RS
 |0=>⟨C,λ_=>rt0,[]⟩
 |n+1=>turnR n ((beginRS ops C n).C,setlR (ops n) rt0) (beginRS ops C n) (beginRS ops C n).ord
def goR(NS:Nat)(ops:Nat->List OpX)(i:Nat)(a:RS):List Int×RT:=match (ops i)[(a.T i).at']? with
 |some op=>((stepR NS op a.C (a.T i)).1,setlR (ops i) (stepR NS op a.C (a.T i)).2)
 |none=>(a.C,a.T i)
def step1R(NS:Nat)(ops:Nat->List OpX)(N most:Nat)(x:Int)(a:RS):RS:=
 if x<0\/(N:Int)<=x\/(a.T x.toNat).pc=0\/a.ord.length=most then a else turnR x.toNat (goR NS ops x.toNat a) a (a.ord++[x.toNat])
def stepsR'(NS:Nat)(ops:Nat->List OpX)(N most:Nat)(l:List Int)(a:RS):RS:=l.foldl (λa x=>step1R NS ops N most x a) a
def ovR(a:RS)(i:Nat):Bool:=decide ((a.T i).pc=0)
def roundsR'(NS:Nat)(ops:Nat->List OpX)(N most:Nat):Nat->RS->RS
 |0,a=>a
 |f+1,a=>if 0<leftN (ovR a) N/\a.ord.length<most then roundsR' NS ops N most f (stepsR' NS ops N most (upto N) a)else a
def playR(ops:Nat->List OpX)(N most:Nat)(l:List Int)(C:List Int):RS:=roundsR' C.length ops N most (most+1) (stepsR' C.length ops N most l (beginRS ops C N))
section
variable {NS N most:Nat} {ops:Nat->List OpX}
structure RelR(NS n:Nat)(ops:Nat->List OpX)(a:TSt SS)(s:RS):Prop where
 c:a.s.1=s.C
 len:s.C.length=NS
 ans:∀i,a.s.2 i=(s.T i).ans
 thr:∀i,i<n->a.t i=treeOf NS i (ops i) (s.T i)/\a.ov i=decide ((s.T i).pc=0)/\OkT NS (ops i) (s.T i)
 un:∀i,n<=i->s.T i=rt0/\a.ov i=false
 ord:a.ord=s.ord
theorem tree_isRet{i:Nat}{op:List OpX}{t:RT}(h:OkT NS op t):(treeOf NS i op t).isRet=decide (t.pc=0):=by
 unfold treeOf
 by_cases hp:t.pc=0
 · rw[if_pos hp];simp[hp,Tree.isRet]
 · rw[if_neg hp];obtain⟨o,ho,_⟩:=h.stand hp;simp only[ho];simp[treeThen,Tree.isRet,hp]
theorem ok_settle(hN:0<NS){l:List OpX}:∀(f:Nat)(t:RT),OkT NS l t->OkT NS l (settleR l f t):=by
 intro f
 induction f with
 |zero=>exact λt h=>h
 |succ f ih=>
  intro t h;unfold settleR;split
  · split
    · rename_i op hop;refine ih _ ⟨λhp=>?_⟩;unfold beginR at hp ⊢;cases hg:goodK op with
      |false=>rw[hg]at hp;exact absurd rfl hp
      |true=>exact⟨op,hop,hg,λ_=>rfl,λ_=>hN,λ_=>(by show 1<=2;decide),λ_=>⟨by show 1<=_;omega,by simp⟩⟩
    · exact h
  · exact h
theorem ok_step(hN:0<NS){l:List OpX}{op:OpX}{t:RT}{C:List Int}(h:OkT NS l t)(hp:t.pc≠0)(hop:l[t.at']?=some op):OkT NS l (stepR NS op C t).2:=by
 obtain⟨op',e,hg,o1,o2,o4,o5⟩:=h.stand hp;rw[hop]at e;obtain rfl:=Option.some.inj e;have hg':=hg;unfold goodK at hg';simp only[Bool.and_eq_true,decide_eq_true_eq]at hg';have ended:∀(t1:RT)(a:Ans),OkT NS l (endR t1 a):=λt1 a=>⟨λhp=>absurd rfl hp⟩;unfold stepR;simp only
 by_cases h1:op.k=1
 · rw[if_pos h1];exact ended _ _
 rw[if_neg h1]
 by_cases h2:op.k=2\/op.k=3
 · rw[if_pos h2];have hb:=o2 h2
   by_cases hk:t.pc - 1+1=NS
   · rw[if_pos hk];exact ended _ _
   · rw[if_neg hk];exact⟨λ_=>⟨op,hop,hg,λx=>by omega,λ_=>by show t.pc - 1+2<=NS;omega,λx=>by omega,λx=>by omega⟩⟩
 rw[if_neg h2]
 by_cases h4:op.k=4
 · rw[if_pos h4]
   by_cases hk:t.pc - 1=0
   · rw[if_pos hk];exact⟨λ_=>⟨op,hop,hg,λx=>by omega,λx=>by omega,λ_=>by show t.pc - 1+2<=2;omega,λx=>by omega⟩⟩
   · rw[if_neg hk];exact ended _ _
 rw[if_neg h4];obtain⟨hb,hs⟩:=o5 (by omega)
 by_cases hk:t.pc - 1<NS
 · rw[if_pos hk];exact⟨λ_=>⟨op,hop,hg,λx=>by omega,λx=>by omega,λx=>by omega,λ_=>⟨by show t.pc - 1+2<=2*NS;omega,by show(t.seen++[_]).length=min (t.pc - 1+2 - 1) NS;simp;omega⟩⟩⟩
 · rw[if_neg hk]
   by_cases hv:C.getD (t.pc - 1 - NS) 0≠t.seen.getD (t.pc - 1 - NS) 0
   · rw[if_pos hv];exact ended _ _
   · rw[if_neg hv]
     by_cases hl:t.pc - 1+1=2*NS
     · rw[if_pos hl];exact ended _ _
     · rw[if_neg hl];exact⟨λ_=>⟨op,hop,hg,λx=>by omega,λx=>by omega,λx=>by omega,λ_=>⟨by show t.pc - 1+2<=2*NS;omega,by show t.seen.length=min (t.pc - 1+2 - 1) NS;omega⟩⟩⟩
theorem stepR_len(op:OpX)(C:List Int)(t:RT):(stepR NS op C t).1.length=C.length:=by
 unfold stepR;simp only
 repeat' split
 all_goals simp
theorem rel_turn{n i:Nat}{a:TSt SS}{s:RS}(h:RelR NS n ops a s)(hi:i<=n){C':List Int}{t':RT}{ord':List Nat}(hl:C'.length=NS)(hok:OkT NS (ops i) t')(hov:a.ov i=false):
 RelR NS (max n (i+1)) ops (turnT i ((C',upd' a.s.2 i t'.ans),treeOf NS i (ops i) t') a ord') (turnR i (C',t') s ord'):=by
 refine⟨rfl,hl,λj=>?_,λj hj=>?_,λj hj=>?_,rfl⟩
 · show upd' a.s.2 i t'.ans j=(upd' s.T i t' j).ans
   by_cases e:j=i
   · subst e;simp
   · rw[upd'_ne _ _ e,upd'_ne _ _ e];exact h.ans j
 · show upd' a.t i (treeOf NS i (ops i) t') j=treeOf NS j (ops j) (upd' s.T i t' j)/\(if(treeOf NS i (ops i) t').isRet then(λj=>if j=i then true else a.ov j)else a.ov) j=decide ((upd' s.T i t' j).pc=0)/\OkT NS (ops j) (upd' s.T i t' j);rw[tree_isRet hok]
   by_cases e:j=i
   · subst e;rw[upd'_same,upd'_same];refine⟨rfl,?_,hok⟩
     by_cases hp:t'.pc=0
     · simp[hp]
     · simp[hp,hov]
   · rw[upd'_ne _ _ e,upd'_ne _ _ e];obtain⟨k1,k2,k3⟩:=h.thr j (by omega);refine⟨k1,?_,k3⟩;rw[←k2];split
     · simp[e]
     · rfl
 · show upd' s.T i t' j=rt0/\(if(treeOf NS i (ops i) t').isRet then(λj=>if j=i then true else a.ov j)else a.ov) j=false;have e:j≠i:=by omega
   rw[upd'_ne _ _ e];obtain⟨k1,k2⟩:=h.un j (by omega);refine⟨k1,?_⟩;split
   · simp[e,k2]
   · exact k2
theorem rel_begin(hN:0<NS){C:List Int}(hC:C.length=NS):∀n,RelR NS n ops (beginT (λi=>opsP i (doP NS) (ops i)) (C,λ_=>[]) n) (beginRS ops C n):=by
 intro n
 induction n with
 |zero=>exact⟨rfl,hC,λ_=>rfl,λi hi=>absurd hi (Nat.not_lt_zero _),λi _=>⟨rfl,rfl⟩,rfl⟩
 |succ n ih=>
  have hs:=settle_tree (N:=NS) (i:=n) (ops:=ops n) hN ((ops n).length+1) rt0 (beginT (λi=>opsP i (doP NS) (ops i)) (C,λ_=>[]) n).s.1 (beginT (λi=>opsP i (doP NS) (ops i)) (C,λ_=>[]) n).s.2 rfl (by show _<_+1+0;omega) (by rw[ih.ans n,(ih.un n (Nat.le_refl _)).1]);have hs':opsP n (doP NS) (ops n) (beginT (λi=>opsP i (doP NS) (ops i)) (C,λ_=>[]) n).s=(((beginT (λi=>opsP i (doP NS) (ops i)) (C,λ_=>[]) n).s.1,upd' (beginT (λi=>opsP i (doP NS) (ops i)) (C,λ_=>[]) n).s.2 n (setlR (ops n) rt0).ans),treeOf NS n (ops n) (setlR (ops n) rt0)):=hs;show RelR NS (n+1) ops (turnT n (opsP n (doP NS) (ops n) (beginT (λi=>opsP i (doP NS) (ops i)) (C,λ_=>[]) n).s) _ _) (turnR n _ _ _);rw[hs',ih.ord,ih.c];have:=rel_turn ih (Nat.le_refl n) (C':=(beginRS ops C n).C) (t':=setlR (ops n) rt0) (ord':=(beginRS ops C n).ord) ih.len (ok_settle hN _ _ ⟨λh=>absurd rfl h⟩) (ih.un n (Nat.le_refl _)).2
  rwa [show max n (n+1)=n+1 by omega]at this
theorem rel_step1(hN:0<NS){x:Int}{a:TSt SS}{s:RS}(h:RelR NS N ops a s):RelR NS N ops (step1T N most x a) (step1R NS ops N most x s):=by
 unfold step1T step1R
 by_cases hx:x<0\/(N:Int)<=x
 · rw[if_pos (by rcases hx with hx|hx;exact .inl hx;exact .inr (.inl hx)),if_pos (by rcases hx with hx|hx;exact .inl hx;exact .inr (.inl hx))];exact h
 · have hi:x.toNat<N:=by omega
   obtain⟨k1,k2,k3⟩:=h.thr x.toNat hi
   by_cases hp:(s.T x.toNat).pc=0
   · rw[if_pos (.inr (.inr (.inl (by rw[k2];simp[hp])))),if_pos (.inr (.inr (.inl hp)))];exact h
   · have hov:a.ov x.toNat=false:=by rw[k2];simp[hp]
     by_cases hm:s.ord.length=most
     · rw[if_pos (.inr (.inr (.inr (by rw[h.ord];exact hm)))),if_pos (.inr (.inr (.inr hm)))];exact h
     · rw[if_neg (by rw[h.ord,hov];rintro(e|e|e|e);exact hx (.inl e);exact hx (.inr e);cases e;exact hm e),if_neg (by rintro(e|e|e|e);exact hx (.inl e);exact hx (.inr e);exact hp e;exact hm e)];obtain⟨op,hop,_⟩:=k3.stand hp;have hst:=step_tree (i:=x.toNat) (A:=a.s.2) hN h.len (h.ans x.toNat) hop hp k3;have hgo:goT (a.t x.toNat) a.s=(((stepR NS op s.C (s.T x.toNat)).1,upd' a.s.2 x.toNat (setlR (ops x.toNat) (stepR NS op s.C (s.T x.toNat)).2).ans),treeOf NS x.toNat (ops x.toNat) (setlR (ops x.toNat) (stepR NS op s.C (s.T x.toNat)).2)):=by
        rw[←hst,k1];unfold treeOf;rw[if_neg hp];simp only[hop];have e:a.s=(s.C,a.s.2):=Prod.ext h.c rfl;rw[e];rfl
       have hgR:goR NS ops x.toNat s=((stepR NS op s.C (s.T x.toNat)).1,setlR (ops x.toNat) (stepR NS op s.C (s.T x.toNat)).2):=by
        unfold goR;simp only[hop]
       rw[hgo,hgR,h.ord];have:=rel_turn h (Nat.le_of_lt hi) (C':=(stepR NS op s.C (s.T x.toNat)).1) (t':=setlR (ops x.toNat) (stepR NS op s.C (s.T x.toNat)).2) (ord':=s.ord++[x.toNat]) (by rw[stepR_len];exact h.len) (ok_settle hN _ _ (ok_step hN k3 hp hop)) hov
       rwa [show max N (x.toNat+1)=N by omega]at this
theorem rel_steps(hN:0<NS):∀(l:List Int){a:TSt SS}{s:RS},RelR NS N ops a s->RelR NS N ops (stepsT N most l a) (stepsR' NS ops N most l s):=by
 intro l
 induction l with
 |nil=>exact λh=>h
 |cons x l ih=>exact λh=>ih (rel_step1 hN h)
theorem rel_left{a:TSt SS}{s:RS}(h:RelR NS N ops a s):leftN a.ov N=leftN (ovR s) N:=leftN_congr λi hi=>(h.thr i hi).2.1
theorem rel_rounds(hN:0<NS):∀(f:Nat){a:TSt SS}{s:RS},RelR NS N ops a s->RelR NS N ops (roundsT N most f a) (roundsR' NS ops N most f s):=by
 intro f
 induction f with
 |zero=>exact λh=>h
 |succ f ih=>
  intro a s h;unfold roundsT roundsR';rw[rel_left h,h.ord];split
  · exact ih (rel_steps hN _ h)
  · exact h
theorem play_ref{C:List Int}(hN:0<C.length)(l:List Int):RelR C.length N ops (playT (λi=>opsP i (doP C.length) (ops i)) N most l (C,λ_=>[])) (playR ops N most l C):=rel_rounds hN _ (rel_steps hN _ (rel_begin hN rfl N))
end
end Go.Proofs
namespace Go.Car
open Go Go.Conc Go.RowKit
theorem al_old{w:World}{o:Obj}{b:Nat}{y:Obj}(h:w.heap[b]?=some y):(w.alloc o).heap[b]?=some y:=by
 rw[zq2,if_neg (by have:=zq4 h;omega)];exact h
theorem al_new(w:World)(o:Obj):(w.alloc o).heap[w.heap.size]?=some o:=by rw[zq2,if_pos rfl]
theorem ownsRow_of{base n:Nat}{tv:Value}{xs:List Value}{w w':World}{T:TypeId}{k:Nat}(h:w.ownsRow base T k tv n xs)(hs:∀g,tv.ownBlock=some g->w'.heap[g]?=w.heap[g]?):w'.ownsRow base T k tv n xs:=by
 refine⟨h.1,?_⟩;rcases h.2 with hv|⟨g,cap,cur,hv,h1,h2,h3⟩
 · exact .inl hv
 · exact .inr ⟨g,cap,cur,hv,h1,(hs g (by rw[hv];rfl)).trans h2,h3⟩
theorem ownsRow_base{w:World}{B B' n k:Nat}{T:TypeId}{v:Value}{xs:List Value}(h:w.ownsRow B T k v n xs)(hb:B'<=B):w.ownsRow B' T k v n xs:=by
 refine⟨h.1,?_⟩;rcases h.2 with hv|⟨g,cap,cur,hv,h1,h2⟩
 · exact .inl hv
 · exact .inr ⟨g,cap,cur,hv,Nat.le_trans hb h1,h2⟩
theorem heap_type{w:World}{b:Nat}{c c':Array Value}{T T':TypeId}{f f':Nat×Nat}(h:w.heap[b]?=some (.cells c T f))(h':w.heap[b]?=some (.cells c' T' f')):T=T':=by
 rw[h]at h';simp only[al_oi,Obj.cells.injEq]at h';exact h'.2.1
theorem heap_ne{w:World}{b b':Nat}{c c':Array Value}{T T':TypeId}{f f':Nat×Nat}(h:w.heap[b]?=some (.cells c T f))(h':w.heap[b']?=some (.cells c' T' f'))(hne:T≠T'):b≠b':=λe=>by subst e;exact hne (heap_type h h')
theorem own_lt{w:World}{B k n g:Nat}{T:TypeId}{v:Value}{xs:List Value}(h:w.ownsRow B T k v n xs)(hg:v.ownBlock=some g):(∃c,w.heap[g]?=some (.cells c T))/\B<=g/\g<w.heap.size:=by
 rcases h.2 with⟨hv,_⟩|⟨g2,cap,cur,hv,hb,hh,_⟩
 · rw[hv]at hg;cases hg
 · rw[hv]at hg;simp only[Value.ownBlock,al_oi]at hg;subst hg;exact⟨⟨cur,hh⟩,hb,zq4 hh⟩
theorem own_ne{base n k b:Nat}{tv:Value}{xs:List Value}{w:World}{T T':TypeId}{c:Array Value}{f:Nat×Nat}(h:w.ownsRow base T k tv n xs)(hb:w.heap[b]?=some (.cells c T' f))(hne:T≠T'):tv.ownBlock≠some b:=by
 intro e;obtain⟨⟨c2,h2⟩,_⟩:=own_lt h e;exact hne (heap_type h2 hb)
theorem own_slice{w:World}{B n k:Nat}{T:TypeId}{v:Value}{xs:List Value}(h:w.ownsRow B T k v n xs):∃p c,v=.slice p n c/\v.ownBlock=p.map (·.block)/\∀a,p=some a->a=⟨a.block,0,none⟩:=by
 rcases h.2 with⟨hv,h0⟩|⟨g,cap,cur,hv,_⟩
 · subst h0;exact⟨none,0,hv,by rw[hv];rfl,λa h=>by cases h⟩
 · exact⟨_,cap,hv,by rw[hv];rfl,λa h=>by cases h;rfl⟩
theorem row_allocK{w:World}{B k:Nat}{e:TypeId}{v:Value}{n:Nat}{xs:List Value}(h:w.ownsRow B e k v n xs)(o:Obj):(w.alloc o).ownsRow B e k v n xs:=ownsRow_of h λg hg=>by rw[zq2,if_neg (by have:=(own_lt h hg).2.2;omega)]
theorem row_re{w:World}{B k:Nat}{e:TypeId}{v:Value}{n:Nat}{xs:List Value}(h:w.ownsRow B e k v n xs)(τ:Nat->Question->Nat)(d:Nat):(re w τ d).ownsRow B e k v n xs:=ownsRow_of h λg hg=>rfl
theorem one_new{w:World}{x:Value}{T:TypeId}{B:Nat}(hB:w.heap.size=B):∀j u,[x][j]?=some u->(w.alloc (.cells #[x] T)).cell? ((⟨B,0,none⟩:Addr).add j)=some u:=by subst hB;exact cell_one_new w x T
theorem news_new{w:World}{cs:Array Value}{T:TypeId}{B:Nat}(hB:w.heap.size=B):∀j u,cs.toList[j]?=some u->(w.alloc (.cells cs T)).cell? ((⟨B,0,none⟩:Addr).add j)=some u:=by subst hB;exact World.news_of_block (al_new w _)
theorem map_upd{α:Type}(f:Nat->α)(j:Nat)(x:α):(List.range (j+1)).map (λi=>if i=j then x else f i)=(List.range j).map f++[x]:=by
 rw[List.range_succ,List.map_append];congr 1
 · refine List.map_congr_left λi hi=>?_;have:=List.mem_range.1 hi;rw[if_neg (by omega)]
 · simp
theorem row_cell{w:World}{B N:Nat}{T:TypeId}{p:Option Addr}{C:Nat}{xs:List Value}(h:w.ownsRow B T 1 (.slice p N C) N xs){i:Nat}{x:Value}(hx:xs[i]?=some x):∃g,p=some ⟨g,0,none⟩/\B<=g/\w.cell? ⟨g,i,none⟩=some x/\w.frozen? ⟨g,i,none⟩=false:=by
 rcases h.2 with⟨hv,h0⟩|⟨g,cap,cur,hv,hb,hh,h1,h2,h3,h4⟩
 · have:=h.1;have hl:=(List.getElem?_eq_some_iff.1 hx).1;omega
 · cases hv;refine⟨g,rfl,hb,?_,zq5 hh⟩;rw[zq0 (off:=i) hh];rw[←h4,List.getElem?_take]at hx;split at hx
   · simpa using hx
   · cases hx
set_option maxHeartbeats 1000000
section
variable {w w':World} {B k n:Nat} {T:TypeId} {v:Value} {f:Nat->Nat->Value}
end
def idleOk(P:Program)(ops:Array Oper)(n:Nat)(same:List Nat):Bool:=
 (List.range ops.size).all (λi=>match ops[i]? with
  |some o=>okOp P (λ_=>false) o.op&&(match o.op with|.convert .. =>false|_=>true)&&o.guard.isNone&&(match o.dst with|some d=>decide (d<n)|none=>true)
  |none=>false)&&
 (List.range ops.size).all (λi=>(List.range i).all λj=>(dstOf ops i).isNone || dstOf ops i !=dstOf ops j)&&
 (List.range ops.size).all (λi=>match ops[i]? with
  |some o=>o.after.all (λe=>!Region.binds .any e || decide (e.on<i))&&
   o.op.operands.all (λx=>match tmpOf x with
    |some t=>same.contains t || (List.range ops.size).all λj=>dstOf ops j !=some t || waits ops i j
    |none=>true)
  |none=>false)
structure IdleOk(P:Program)(ops:Array Oper)(n:Nat)(same:List Nat):Prop where
 plain:∀i,i<ops.size->∃o,ops[i]?=some o/\okOp P (λ_=>false) o.op=true/\(∀s d x,o.op≠.convert s d x)/\o.guard=none/\∀d,o.dst=some d->d<n
 apart:∀i j d,i<ops.size->j<i->dstOf ops i=some d->dstOf ops j≠some d
 back:∀i o e,i<ops.size->ops[i]?=some o->e∈o.after->Region.binds .any e=true->e.on<i
 looks:∀i o x t j,i<ops.size->ops[i]?=some o->x∈o.op.operands->tmpOf x=some t->j<ops.size->dstOf ops j=some t->t∈same\/waits ops i j=true
theorem idleOk_spec{P:Program}{ops:Array Oper}{n:Nat}{same:List Nat}(h:idleOk P ops n same=true):IdleOk P ops n same:=by
 unfold idleOk at h;simp only[Bool.and_eq_true,List.all_eq_true,List.mem_range]at h;obtain⟨⟨h2,h3⟩,h4⟩:=h;refine⟨λi hi=>?_,λi j d hi hj hd hd'=>?_,λi o e hi ho he hb=>?_,λi o x t j hi ho hx ht hj hd=>?_⟩
 · have:=h2 i hi;cases ho:ops[i]? with
   |none=>rw[ho]at this;cases this
   |some o=>
    rw[ho]at this;simp only[Bool.and_eq_true,Option.isNone_iff_eq_none]at this;obtain⟨⟨⟨a1,a0⟩,a2⟩,a3⟩:=this;refine⟨o,rfl,a1,λs d x e=>?_,a2,λd hd=>?_⟩
    · rw[e]at a0;cases a0
    · rw[hd]at a3;simpa using a3
 · have:=h3 i hi j hj;rw[hd,hd']at this;simp at this
 · have:=h4 i hi;rw[ho]at this;simp only[Bool.and_eq_true,Array.all_eq_true_iff_forall_mem]at this;have:=this.1 e he;simpa[hb]using this
 · have:=h4 i hi;rw[ho]at this;simp only[Bool.and_eq_true,Array.all_eq_true_iff_forall_mem]at this;have:=this.2 x hx;rw[ht]at this;simp only[Bool.or_eq_true,List.all_eq_true,List.mem_range,List.contains_iff_mem]at this;rcases this with h|h
   · exact .inl h
   · have:=h j hj;exact .inr (by simpa[hd]using this)
structure Agree2(ops:Array Oper)(T a₀:Array Value)(listed:Array Bool)(tm:Array Value):Prop where
 size:tm.size=T.size
 on:∀i t,i<ops.size->listed.getD i false=true->dstOf ops i=some t->tm[t]?=T[t]?
 off:∀t,(∀i,i<ops.size->listed.getD i false=true->dstOf ops i≠some t)->tm[t]?=a₀[t]?
section
variable {P:Program} {main:Bool} {γ:Type} {J:γ->Goroutine->World->Prop}
theorem idle_go(hJ:JS P main (λ_=>none) J){b:Frame}{k:List Item}{cs:List Frame}(hb:b.kind≠.early){ops:Array Oper}{n:Nat}{same:List Nat}(hok:IdleOk P ops n same){T a₀:Array Value}{ds:List Deferred}{s:γ}{w:World}(hT:T.size=n)
 (hsame:∀t,t∈same->a₀[t]?=T[t]?) (hout:∀t,(∀i,i<ops.size->dstOf ops i≠some t)->T[t]?=a₀[t]?)
 (hval:∀i o,i<ops.size->ops[i]?=some o->(∃v d,o.dst=some d/\T[d]?=some v/\∀τ dd,(execOp (Act.mk T []).eval o).run P (re w τ dd)=.ok (.value v) (re w τ dd))\/(o.dst=none/\∀τ dd,(execOp (Act.mk T []).eval o).run P (re w τ dd)=.ok .skip (re w τ dd)))
 (hlast:J s (G (b.at ⟨T,ds⟩ (.inRegion ops []::k)) cs) w):
 ∀(fuel t:Nat)(listed:Array Bool)(tm:Array Value),listed.size=ops.size->left listed=fuel->
  (∀i o e,i<ops.size->ops[i]?=some o->listed.getD i false=true->e∈o.after->Region.binds .any e=true->listed.getD e.on false=true)->Agree2 ops T a₀ listed tm->
  J s (G (b.at ⟨tm,ds⟩ (.inRegion ops (Region.linearise.go .any ops fuel t listed [])::k)) cs) w:=by
 intro fuel
 induction fuel with
 |zero=>
  intro t listed tm hsz hl hclosed hag;have hall:∀i,i<ops.size->listed.getD i false=true:=λi hi=>by
   have hlt:i<listed.size:=by omega
   cases hv:listed[i]with
   |true=>simp[hlt,hv]
   |false=>have:=left_pos (listed:=listed) (i:=i) (by simp[hlt,hv]);omega
  have htm:tm=T:=by
   apply Array.ext_getElem?;intro x
   by_cases hx:∃j,j<ops.size/\dstOf ops j=some x
   · obtain⟨j,hj,hd⟩:=hx;exact hag.on j x hj (hall j hj) hd
   · rw[hag.off x (λj hj _ hd=>hx ⟨j,hj,hd⟩),hout x λj hj hd=>hx ⟨j,hj,hd⟩]
  rw[htm];exact hlast
 |succ fuel ih=>
  intro t listed tm hsz hl hclosed hag;simp only[Region.linearise.go];change J s (G (b.at ⟨tm,ds⟩ (.inRegion ops (match (Region.ready .any ops listed)[t % (Region.ready .any ops listed).length]? with
   |some i=>Region.linearise.go .any ops fuel (t / (Region.ready .any ops listed).length) (listed.setIfInBounds i true) [i]
   |none=>[].reverse)::k)) cs) w
  have hun:∃i,listed.getD i true=false:=by
   refine Classical.byContradiction λhn=>?_;have:left listed=0:=by
    unfold left;rw[List.length_eq_zero_iff,List.filter_eq_nil_iff];intro x hx hxx;obtain⟨i,hi,rfl⟩:=List.getElem_of_mem hx;have hi':i<listed.size:=by simpa using hi
    have e:listed.toList[i]=listed[i]:=by simp
    rw[e]at hxx;exact hn ⟨i,by simp[hi'];simpa using hxx⟩
   omega
  have hready:∃i,i∈Region.ready .any ops listed:=by
   have:∀m i,m=i->listed.getD i true=false->∃j,j∈Region.ready .any ops listed:=by
    intro m
    induction m using Nat.strongRecOn with
    |_ m ihm=>
     intro i hi hun;subst hi;have hops:m<ops.size:=by have:=getD_lt hun;omega
     by_cases hall:∀e∈(ops[m]'hops).after,Region.binds .any e=true->listed.getD e.on false=true
     · exact⟨m,mem_ready.2 ⟨hun,_,Array.getElem?_eq_getElem hops,hall⟩⟩
     · obtain⟨e,he⟩:=Classical.not_forall.1 hall;obtain⟨h1,he⟩:=Classical.not_imp.1 he;obtain⟨h2,he⟩:=Classical.not_imp.1 he;have hlt':=hok.back m _ e hops (Array.getElem?_eq_getElem hops) h1 h2;refine ihm e.on hlt' e.on rfl ?_;have:e.on<listed.size:=by omega
       simp[this]at he ⊢;exact he
   obtain⟨i,hi⟩:=hun;exact this i i rfl hi
  cases hi:(Region.ready .any ops listed)[t % (Region.ready .any ops listed).length]? with
  |none=>
   exfalso;obtain⟨i,hi'⟩:=hready;have hpos:0<(Region.ready .any ops listed).length:=List.length_pos_of_mem hi';have hlt:=Nat.mod_lt t hpos;rw[List.getElem?_eq_none_iff]at hi;omega
  |some i=>
   have hmem:=List.mem_of_getElem? hi;obtain⟨hun,o,ho,hall⟩:=mem_ready.1 hmem;have hilt:i<ops.size:=by have:=getD_lt hun;omega
   simp only[];rw[linearise_go_acc,List.reverse_singleton,List.singleton_append];obtain⟨o',ho',hok',hcv,hguard,hdn⟩:=hok.plain i hilt;rw[ho]at ho';obtain rfl:=Option.some.inj ho';have hex:execOp (Act.mk tm ds).eval o=execOp (Act.mk T []).eval o:=by
    refine execOp_congr o (λcs b h=>by rw[h]at hok';cases hok') λx hx=>eval_agree λt ht=>?_
    by_cases hxt:∃j,j<ops.size/\dstOf ops j=some t
    · obtain⟨j,hj,hd⟩:=hxt;rcases hok.looks i o x t j hilt ho hx ht hj hd with hs|hwt
      · by_cases hl':listed.getD j false=true
        · exact hag.on j t hj hl' hd
        · refine(hag.off t λq hq hlq hdq=>?_).trans (hsame t hs);rcases Nat.lt_trichotomy q j with h|h|h
          · exact hok.apart j q t hj h hd hdq
          · exact hl' (h▸hlq)
          · exact hok.apart q j t hq h hdq hd
      · obtain⟨oi,hoi,e,he1,he2,he3⟩:=waits_iff.1 hwt;rw[ho]at hoi;obtain rfl:=Option.some.inj hoi;subst he3;exact hag.on e.on t hj (hall e he1 he2) hd
    · rw[hag.off t (λj hj _ hd=>hxt ⟨j,hj,hd⟩),hout t λj hj hd=>hxt ⟨j,hj,hd⟩]
   have hw:Region.wanted o (yielded ops (Act.mk tm ds).tmps)=true:=by simp[Region.wanted,hguard]
   have htame:tame P true (execOp (Act.mk T []).eval o):=(execOp_ok (A:=λ_=>false) (λf h=>by cases h) o hok' _ (λf=>rfl)).1;have hld:left (listed.setIfInBounds i true)+1=left listed:=left_set hun;have hclosed':∀j oj e,j<ops.size->ops[j]?=some oj->(listed.setIfInBounds i true).getD j false=true->e∈oj.after->Region.binds .any e=true->(listed.setIfInBounds i true).getD e.on false=true:=by
    intro j oj e hj hoj hlj he hbe;refine getD_set_true ?_
    by_cases hji:i=j
    · subst hji;rw[ho]at hoj;obtain rfl:=Option.some.inj hoj;exact hall e he hbe
    · rw[getD_set_ne false hji]at hlj;exact hclosed j oj e hj hoj hlj he hbe
   refine at_cons hb hJ ho hw λτ dd=>?_;rw[hex];obtain⟨h1,h2⟩:=evs_free (Kc:=λ_=>none) htame rfl (re w τ dd);refine⟨h1,h2,?_⟩;rcases hval i o hilt ho with⟨v,d,hdst,hTv,hrun⟩|⟨hdst,hrun⟩
   · have hdi:dstOf ops i=some d:=by unfold dstOf;rw[ho];exact hdst
     rw[hrun];show J s (G (b.at (Act.put ⟨tm,ds⟩ o.dst v) _) cs) (re w τ dd);rw[hdst];refine hJ.re' _ _ _ _ _ ?_;show J s (G (b.at ⟨tm.setIfInBounds d v,ds⟩ _) cs) w;refine ih _ _ _ (by simpa using hsz) (by omega) hclosed' ?_;refine⟨by simpa using hag.size,λj t hj hlj hd=>?_,λt ht=>?_⟩
     · by_cases htd:d=t
       · subst htd;have:d<tm.size:=by rw[hag.size,hT];exact hdn d hdst
         simp[this,hTv]
       · rw[al_gn htd]
         by_cases hji:i=j
         · subst hji;rw[hdi]at hd;exact absurd (Option.some.inj hd) htd
         · rw[getD_set_ne false hji]at hlj;exact hag.on j t hj hlj hd
     · have htd:d≠t:=by
        intro e;subst e;refine ht i hilt ?_ hdi;have:=getD_lt hun;simp[this]
       rw[al_gn htd];refine hag.off t λj hj hlj=>?_;exact ht j hj (getD_set_true hlj)
   · have hdi:dstOf ops i=none:=by unfold dstOf;rw[ho];exact hdst
     rw[hrun];show J s (G (b.at (Act.put ⟨tm,ds⟩ o.dst undef) _) cs) (re w τ dd);rw[hdst];refine hJ.re' _ _ _ _ _ ?_;show J s (G (b.at ⟨tm,ds⟩ _) cs) w;refine ih _ _ _ (by simpa using hsz) (by omega) hclosed' ?_;refine⟨hag.size,λj t hj hlj hd=>?_,λt ht=>?_⟩
     · by_cases hji:i=j
       · subst hji;rw[hdi]at hd;cases hd
       · rw[getD_set_ne false hji]at hlj;exact hag.on j t hj hlj hd
     · exact hag.off t λj hj hlj=>ht j hj (getD_set_true hlj)
theorem at_idle(hJ:JS P main (λ_=>none) J){b:Frame}{k:List Item}{cs:List Frame}(hb:b.kind≠.early)(hm:P.follows .mixedOrders=true){id:Nat}{ops:Array Oper}{a:Act}{s:γ}{w:World}(same:List Nat)(T:Array Value)
 (hok:idleOk P ops a.tmps.size same=true) (hT:T.size=a.tmps.size) (hsame:∀t,t∈same->a.tmps[t]?=T[t]?) (hout:∀t,(∀i,i<ops.size->dstOf ops i≠some t)->T[t]?=a.tmps[t]?)
 (hval:∀i o,i<ops.size->ops[i]?=some o->(∃v d,o.dst=some d/\T[d]?=some v/\∀τ dd,(execOp (Act.mk T []).eval o).run P (re w τ dd)=.ok (.value v) (re w τ dd))\/(o.dst=none/\∀τ dd,(execOp (Act.mk T []).eval o).run P (re w τ dd)=.ok .skip (re w τ dd)))
 (hlast:J s (G (b.at ⟨T,a.defers⟩ (.inRegion ops []::k)) cs) w):J s (G (b.at a (.code (.region id ops true)::k)) cs) w:=by
 refine hJ.step _ _ _ rfl λτ d=>⟨_,_,#[],stepG_region_draw,?_,by simp,?_⟩
 · exact OkD.refl _ _ _
 · refine hJ.re' s _ w τ (d+1) ?_;simp only[Region.schedule,hm,Bool.true_or,if_true,Region.linearise];refine idle_go hJ hb (idleOk_spec hok) (a₀:=a.tmps) (T:=T) hT hsame hout hval hlast _ _ _ _ (by simp) ?_ ?_ ?_
   · unfold left;simp
   · intro i o e hi ho hl;simp[hi]at hl
   · refine⟨hT.symm,λi t hi hl=>?_,λt _=>rfl⟩;simp[hi]at hl
end
end Go.Car
set_option maxHeartbeats 1000000
namespace Go.Car
open Go Go.Conc Go.RowKit
open Go.ConcN (upd upd_ne upd_same)
section
variable {P:Program} {main:Bool} {γ:Type} {J:γ->Goroutine->World->Prop}
theorem at_opF(hJ:JS P main (λ_=>none) J){b:Frame}{k:List Item}{cs:List Frame}(hb:b.kind≠.early){ops:Array Oper}{i:Nat}{rest:List Nat}{o:Oper}{s:γ}{T:Array Value}{ds:List Deferred}{w:World}{d:Tmp}
 (ho:ops[i]?=some o) (hok:okOp P (λ_=>false) o.op=true) (hw:Region.wanted o (yielded ops T)=true) (hd:o.dst=some d)
 (hr:∀τ dd,∃v w',(execOp (Act.mk T []).eval o).run P (re w τ dd)=.ok (.value v) w'/\J s (G (b.at ⟨T.setIfInBounds d v,ds⟩ (.inRegion ops rest::k)) cs) w'):J s (G (b.at ⟨T,ds⟩ (.inRegion ops (i::rest)::k)) cs) w:=by
 refine at_cons hb hJ ho hw λτ dd=>?_;have htame:tame P true (execOp (Act.mk T ds).eval o):=(execOp_ok (A:=λ_=>false) (λf h=>by cases h) o hok _ (λf=>rfl)).1;obtain⟨h1,h2⟩:=evs_free (Kc:=λ_=>none) htame rfl (re w τ dd);refine⟨h1,h2,?_⟩;obtain⟨v,w',hrun,h⟩:=hr τ dd;have hrun':(execOp (Act.mk T ds).eval o).run P (re w τ dd)=.ok (.value v) w':=hrun;rw[hrun'];show J s (G (b.at (Act.put ⟨T,ds⟩ o.dst v) _) cs) w';rw[hd];exact h
theorem at_skipF(hJ:JS P main (λ_=>none) J){b:Frame}{k:List Item}{cs:List Frame}(hb:b.kind≠.early){ops:Array Oper}{i:Nat}{rest:List Nat}{o:Oper}{s:γ}{T:Array Value}{ds:List Deferred}{w:World}
 (ho:ops[i]?=some o) (hok:okOp P (λ_=>false) o.op=true) (hw:Region.wanted o (yielded ops T)=true) (hd:o.dst=none)
 (hr:∀τ dd,∃w',(execOp (Act.mk T []).eval o).run P (re w τ dd)=.ok .skip w'/\J s (G (b.at ⟨T,ds⟩ (.inRegion ops rest::k)) cs) w'):J s (G (b.at ⟨T,ds⟩ (.inRegion ops (i::rest)::k)) cs) w:=by
 refine at_cons hb hJ ho hw λτ dd=>?_;have htame:tame P true (execOp (Act.mk T ds).eval o):=(execOp_ok (A:=λ_=>false) (λf h=>by cases h) o hok _ (λf=>rfl)).1;obtain⟨h1,h2⟩:=evs_free (Kc:=λ_=>none) htame rfl (re w τ dd);refine⟨h1,h2,?_⟩;obtain⟨w',hrun,h⟩:=hr τ dd;have hrun':(execOp (Act.mk T ds).eval o).run P (re w τ dd)=.ok .skip w':=hrun;rw[hrun'];show J s (G (b.at (Act.put ⟨T,ds⟩ o.dst undef) _) cs) w';rw[hd];exact h
def backOk(P:Program)(ops:Array Oper):Bool:=(List.range ops.size).all λi=>match ops[i]? with
 |some o=>okOp P (λ_=>false) o.op&&o.guard.isNone&&o.after.all (λe=>!Region.binds .any e || decide (e.on<i))
 |none=>false
theorem at_draws(hJ:JS P main (λ_=>none) J){b:Frame}{k:List Item}{cs:List Frame}(hb:b.kind≠.early)(hm:P.follows .mixedOrders=true){id:Nat}{ops:Array Oper}{T₀:Array Value}{ds:List Deferred}{s:γ}{w:World}(I:(Nat->Bool)->Array Value->World->Prop)
 (hback:backOk P ops=true) (hre:∀L T w τ d,I L T w->I L T (re w τ d)) (hI:I (λ_=>false) T₀ w)
 (hstep:∀(L:Nat->Bool)(T:Array Value)(w:World)(i:Nat)(o:Oper),I L T w->L i=false->ops[i]?=some o->(∀e∈o.after,Region.binds .any e=true->L e.on=true)->
  (∃d,o.dst=some d/\∃v w',(execOp (Act.mk T []).eval o).run P w=.ok (.value v) w'/\I (upd L i true) (T.setIfInBounds d v) w')\/(o.dst=none/\∃w',(execOp (Act.mk T []).eval o).run P w=.ok .skip w'/\I (upd L i true) T w'))
 (hend:∀L T w,(∀i,i<ops.size->L i=true)->I L T w->J s (G (b.at ⟨T,ds⟩ (.inRegion ops []::k)) cs) w):J s (G (b.at ⟨T₀,ds⟩ (.code (.region id ops true)::k)) cs) w:=by
 have hb':∀i o,ops[i]?=some o->okOp P (λ_=>false) o.op=true/\o.guard=none/\∀e∈o.after,Region.binds .any e=true->e.on<i:=by
  intro i o ho;have hlt:=(Array.getElem?_eq_some_iff.1 ho).1;unfold backOk at hback;rw[List.all_eq_true]at hback;have:=hback i (List.mem_range.2 hlt);rw[ho]at this;simp only[Bool.and_eq_true,Option.isNone_iff_eq_none,Array.all_eq_true_iff_forall_mem]at this;exact⟨this.1.1,this.1.2,λe he hbe=>by have:=this.2 e he;simpa[hbe]using this⟩
 have key:∀(fuel t:Nat)(listed:Array Bool)(L:Nat->Bool)(T:Array Value)(w:World),listed.size=ops.size->left listed=fuel->(∀i,i<ops.size->listed.getD i false=L i)->I L T w->
  J s (G (b.at ⟨T,ds⟩ (.inRegion ops (Region.linearise.go .any ops fuel t listed [])::k)) cs) w:=by
  intro fuel
  induction fuel with
  |zero=>
   intro t listed L T w hsz hl hL hi;refine hend L T w (λi hlt=>?_) hi;rw[←hL i hlt];have hlt':i<listed.size:=by omega
   cases hv:listed[i]with
   |true=>simp[hlt',hv]
   |false=>have:=left_pos (listed:=listed) (i:=i) (by simp[hlt',hv]);omega
  |succ fuel ih=>
   intro t listed L T w hsz hl hL hi;simp only[Region.linearise.go];change J s (G (b.at ⟨T,ds⟩ (.inRegion ops (match (Region.ready .any ops listed)[t % (Region.ready .any ops listed).length]? with
    |some i=>Region.linearise.go .any ops fuel (t / (Region.ready .any ops listed).length) (listed.setIfInBounds i true) [i]
    |none=>[].reverse)::k)) cs) w
   have hun:∃i,listed.getD i true=false:=by
    refine Classical.byContradiction λhn=>?_;have:left listed=0:=by
     unfold left;rw[List.length_eq_zero_iff,List.filter_eq_nil_iff];intro x hx hxx;obtain⟨i,hi,rfl⟩:=List.getElem_of_mem hx;have hi':i<listed.size:=by simpa using hi
     have e:listed.toList[i]=listed[i]:=by simp
     rw[e]at hxx;exact hn ⟨i,by simp[hi'];simpa using hxx⟩
    omega
   have hready:∃i,i∈Region.ready .any ops listed:=by
    have:∀m i,m=i->listed.getD i true=false->∃j,j∈Region.ready .any ops listed:=by
     intro m
     induction m using Nat.strongRecOn with
     |_ m ihm=>
      intro i hi hun;subst hi;have hops:m<ops.size:=by have:=getD_lt hun;omega
      by_cases hall:∀e∈(ops[m]'hops).after,Region.binds .any e=true->listed.getD e.on false=true
      · exact⟨m,mem_ready.2 ⟨hun,_,Array.getElem?_eq_getElem hops,hall⟩⟩
      · obtain⟨e,he⟩:=Classical.not_forall.1 hall;obtain⟨h1,he⟩:=Classical.not_imp.1 he;obtain⟨h2,he⟩:=Classical.not_imp.1 he;have hlt':=(hb' m _ (Array.getElem?_eq_getElem hops)).2.2 e h1 h2;refine ihm e.on hlt' e.on rfl ?_;have:e.on<listed.size:=by omega
        simp[this]at he ⊢;exact he
    obtain⟨i,hi⟩:=hun;exact this i i rfl hi
   cases hi':(Region.ready .any ops listed)[t % (Region.ready .any ops listed).length]? with
   |none=>
    exfalso;obtain⟨i,hi''⟩:=hready;have hpos:0<(Region.ready .any ops listed).length:=List.length_pos_of_mem hi'';have hlt:=Nat.mod_lt t hpos;rw[List.getElem?_eq_none_iff]at hi';omega
   |some i=>
    have hmem:=List.mem_of_getElem? hi';obtain⟨hun,o,ho,hall⟩:=mem_ready.1 hmem;have hilt:i<ops.size:=by have:=getD_lt hun;omega
    simp only[];rw[linearise_go_acc,List.reverse_singleton,List.singleton_append];obtain⟨hok,hg,hbk⟩:=hb' i o ho;have hLi:L i=false:=by
     rw[←hL i hilt];have hlt':i<listed.size:=by omega
     simp[hlt']at hun ⊢;exact hun
    have hw:Region.wanted o (yielded ops T)=true:=by simp[Region.wanted,hg]
    have hld:left (listed.setIfInBounds i true)+1=left listed:=left_set hun;have hL':∀j,j<ops.size->(listed.setIfInBounds i true).getD j false=upd L i true j:=λj hj=>by
     by_cases e:i=j
     · subst e;have:i<listed.size:=by omega
       rw[upd_same];simp[this]
     · rw[getD_set_ne false e,upd_ne _ _ (λx=>e x.symm)];exact hL j hj
    have hall':∀e∈o.after,Region.binds .any e=true->L e.on=true:=λe he hbe=>by
     rw[←hL e.on (by have:=hbk e he hbe;omega)];exact hall e he hbe
    have hst:=λτ dd=>hstep L T (re w τ dd) i o (hre _ _ _ τ dd hi) hLi ho hall';cases hdst:o.dst with
    |some d=>
     refine at_opF hJ hb ho hok hw hdst λτ dd=>?_;rcases hst τ dd with⟨d',hd',v,w',hr,hI'⟩|⟨hd',_⟩
     · rw[hdst]at hd';obtain rfl:=Option.some.inj hd';exact⟨v,w',hr,ih _ _ (upd L i true) _ _ (by simpa using hsz) (by omega) hL' hI'⟩
     · rw[hdst]at hd';cases hd'
    |none=>
     refine at_skipF hJ hb ho hok hw hdst λτ dd=>?_;rcases hst τ dd with⟨d',hd',_⟩|⟨hd',w',hr,hI'⟩
     · rw[hdst]at hd';cases hd'
     · exact⟨w',hr,ih _ _ (upd L i true) _ _ (by simpa using hsz) (by omega) hL' hI'⟩
 refine hJ.step _ _ _ rfl λτ d=>⟨_,_,#[],stepG_region_draw (a:=⟨T₀,ds⟩),?_,by simp,?_⟩
 · exact OkD.refl _ _ _
 · refine hJ.re' s _ w τ (d+1) ?_;simp only[Region.schedule,hm,Bool.true_or,if_true,Region.linearise];refine key _ _ _ (λ_=>false) _ _ (by simp) ?_ (λi hi=>by simp[hi]) hI;unfold left;simp
end
section
variable {P:Program} {main:Bool} {Kc:Addr->Option Value} {γ:Type} {J:γ->Goroutine->World->Prop}
end
end Go.Car
set_option maxHeartbeats 1000000
namespace Go.Car
open Go Go.Conc Go.RowKit
section
variable {P:Program} {main:Bool} {Kc:Addr->Option Value} {γ:Type} {J:γ->Goroutine->World->Prop}
end
end Go.Car
set_option maxHeartbeats 1000000
namespace Go.Car
open Go Go.RowKit
def yieldsTo(P:Program)(a:Act)(o:Oper)(W:World)(v:Value)(W':World):Prop:=
 (execOp a.eval o).run P W=.ok (.value v) W'\/∃f args,(execOp a.eval o).run P W=.ok (.enter f args) W/\Calls P f args W λe w'=>e=.returned v/\w'=W'
def chkV(ops:Array Oper)(k n:Nat):Bool:=
 (List.range k).all (λi=>match ops[i]? with
  |some o=>o.guard.isNone&&(match o.dst with|some d=>decide (d<n)|none=>false)&&(match o.op with|.select .. =>false|_=>true)&&
   o.op.operands.all (λx=>match tmpOf x with
    |some t=>(List.range k).all λj=>dstOf ops j !=some t || waits ops i j
    |none=>true)
  |none=>false)&&
 (List.range k).all (λi=>(List.range i).all λj=>dstOf ops i !=dstOf ops j)
section
variable {P:Program} {ops:Array Oper}
theorem wp_of_yields{a a':Act}{o:Oper}{W W':World}{v:Value}{K:Act->World->Prop}{Q:Exit->Act->World->Prop}(he:execOp a.eval o=execOp a'.eval o)(h:yieldsTo P a' o W v W')(hK:K (a.put o.dst v) W'):o.wp P a W K Q:=by
 unfold Oper.wp;rw[he];rcases h with h|⟨f,args,h,hc⟩
 · rw[h];exact hK
 · rw[h];refine Calls.mono hc ?_;rintro e w' ⟨rfl,rfl⟩;exact hK
theorem wp_region_one{id k s:Nat}{Q':Exit->Act->World->Prop}{T₀:Array Value}{ds:List Deferred}{w W0 W1:World}(hm:P.follows .mixedOrders=true)(hback:backB .any ops k=true)(hwait:allWaitB .any ops k=true)(hchk:chkV ops k T₀.size=true)(hsk:s<k)
 (vals:List Value) (hlen:vals.length=k) (h0:W0={w with drawn:=w.drawn+1})
 (hread:∀i o,i<k->i≠s->ops[i]?=some o->∀W,W=W0\/W=W1->yieldsTo P ⟨putv ops vals 0 T₀,[]⟩ o W (vals.getD i undef) W)
 (hone:∀o,ops[s]?=some o->yieldsTo P ⟨putv ops vals 0 T₀,[]⟩ o W0 (vals.getD s undef) W1)
 (hend:wpAny P .any ops Q' (ops.size - k) (Array.ofFn λi:Fin ops.size=>decide (i.val<k)) ⟨putv ops vals 0 T₀,ds⟩ W1):(Code.region id ops true).wp P Q' ⟨T₀,ds⟩ w:=by
 have hk:k<=ops.size:=by
  have:=hback;unfold backB at this;simp only[Bool.and_eq_true,decide_eq_true_eq]at this;exact this.1
 unfold chkV at hchk;simp only[Bool.and_eq_true,List.all_eq_true,List.mem_range]at hchk;obtain⟨h1,h2⟩:=hchk;have plain:∀i,i<k->∃o d,ops[i]?=some o/\o.guard=none/\o.dst=some d/\dstOf ops i=some d/\d<T₀.size/\(∀cs b,o.op≠.select cs b)/\∀x∈o.op.operands,∀t,tmpOf x=some t->∀j,j<k->dstOf ops j=some t->waits ops i j=true:=λi hi=>by
  have:=h1 i hi;cases ho:ops[i]? with
  |none=>rw[ho]at this;cases this
  |some o=>
   rw[ho]at this;simp only[Bool.and_eq_true]at this;obtain⟨⟨⟨a1,a2⟩,a3⟩,a4⟩:=this;cases hd:o.dst with
   |none=>rw[hd]at a2;cases a2
   |some d=>
    rw[hd]at a2;refine⟨o,d,rfl,Option.isNone_iff_eq_none.1 a1,hd,by unfold dstOf;rw[ho];exact hd,by simpa using a2,(λcs b h=>by rw[h]at a3;cases a3),λx hx t ht j hj hdj=>?_⟩;rw[Array.all_eq_true_iff_forall_mem]at a4;have:=a4 x hx;rw[ht]at this;simp only[List.all_eq_true,List.mem_range]at this;have:=this j hj;simpa[hdj]using this
 have apart:∀(i j:Nat)(d:Tmp),i<k->j<k->dstOf ops i=some d->dstOf ops j=some d->i=j:=λi j d hi hj hd hd'=>by
  rcases Nat.lt_trichotomy i j with h|h|h
  · have:=h2 j hj i h;rw[hd,hd']at this;simp at this
  · exact h
  · have:=h2 i hi j h;rw[hd,hd']at this;simp at this
 have hTs:(putv ops vals 0 T₀).size=T₀.size:=putv_size _ _ _;have final:∀i x,i<k->dstOf ops i=some x->(putv ops vals 0 T₀)[x]?=some (vals.getD i undef):=λi x hi hd=>by
  obtain⟨o,d,ho,_,_,hd',hlt,_⟩:=plain i hi;rw[hd]at hd';obtain rfl:=Option.some.inj hd';refine putv_at vals 0 _ i _ x (by simp[hlen,hi]) (by rw[Nat.zero_add];exact hd) hlt λm a b e=>?_;have:=apart m i x (by omega) hi e hd;omega
 refine wp_region_inv hm hback hwait (λL a w'=>a.defers=ds/\a.tmps.size=T₀.size/\(∀t,(∀j,j<k->dstOf ops j≠some t)->a.tmps[t]?=T₀[t]?)/\(∀j t,j<k->dstOf ops j=some t->L.getD j false=true->a.tmps[t]?=(putv ops vals 0 T₀)[t]?)/\w'=if L.getD s false=true then W1 else W0) ?_ ?_ ?_
 · refine⟨rfl,rfl,λ_ _=>rfl,λj t _ _ hl=>?_,?_⟩
   · exfalso;simp[al_gd,Array.getElem?_replicate]at hl;split at hl<;>simp at hl
   · rw[if_neg,h0];intro hl;simp[al_gd,Array.getElem?_replicate]at hl;split at hl<;>simp at hl
 · rintro L a w' i hL hi hun hdep ⟨hd,hsz,hout,hin,hw'⟩;obtain⟨o,d,ho,hg,hdst,hdo,hlt,hsel,hops⟩:=plain i hi;have hun':L.getD i false=false:=by
    have:i<L.size:=by omega
    simp[this]at hun ⊢;exact hun
   have hex:execOp a.eval o=execOp (Act.mk (putv ops vals 0 T₀) []).eval o:=by
    obtain⟨tm,dd⟩:=a;refine execOp_congr o hsel λx hx=>eval_agree λt ht=>?_
    by_cases hxt:∃j,j<k/\dstOf ops j=some t
    · obtain⟨j,hj,hdj⟩:=hxt;obtain⟨oi,hoi,e,he1,he2,he3⟩:=waits_iff.1 (hops x hx t ht j hj hdj);subst he3;exact hin e.on t hj hdj (hdep oi hoi e he1 he2)
    · have hno:∀j,j<k->dstOf ops j≠some t:=λj hj hd=>hxt ⟨j,hj,hd⟩;rw[hout t hno];refine(putv_out vals 0 _ t λj _ hj=>hno j (by omega)).symm
   have hwan:Region.wanted o (yielded ops a.tmps)=true:=by simp[Region.wanted,hg]
   have hnext:∀W',(if(L.setIfInBounds i true).getD s false=true then W1 else W0)=W'->(a.put o.dst (vals.getD i undef)).defers=ds/\(a.put o.dst (vals.getD i undef)).tmps.size=T₀.size/\(∀t,(∀j,j<k->dstOf ops j≠some t)->(a.put o.dst (vals.getD i undef)).tmps[t]?=T₀[t]?)/\
    (∀j t,j<k->dstOf ops j=some t->(L.setIfInBounds i true).getD j false=true->(a.put o.dst (vals.getD i undef)).tmps[t]?=(putv ops vals 0 T₀)[t]?)/\W'=if(L.setIfInBounds i true).getD s false=true then W1 else W0:=by
    intro W' hW;rw[hdst];refine⟨hd,by simp[Act.put,hsz],λt ht=>?_,λj t hj hdj hl=>?_,hW.symm⟩
    · have:d≠t:=λe=>ht i hi (e▸hdo);simp only[Act.put];rw[al_gn this];exact hout t ht
    · by_cases e:d=t
      · subst e;rw[final i d hi hdo];have:d<a.tmps.size:=by rw[hsz];exact hlt
        simp[Act.put,this]
      · simp only[Act.put];rw[al_gn e];have hji:i≠j:=λe2=>by subst e2;rw[hdo]at hdj;exact e (Option.some.inj hdj)
        rw[getD_set_ne false hji]at hl;exact hin j t hj hdj hl
   unfold wpOp;simp only[ho,hwan,if_true];refine .inl ?_
   by_cases his:i=s
   · subst his;rw[hun']at hw';simp only[Bool.false_eq_true,if_false]at hw';subst hw';refine wp_of_yields hex (hone o ho) (hnext W1 ?_);have:i<L.size:=by omega
     simp[this]
   · have hg':(L.setIfInBounds i true).getD s false=L.getD s false:=getD_set_ne false his;refine wp_of_yields hex (hread i o hi his ho w' ?_) (hnext w' ?_)
     · rw[hw'];split
       · exact .inr rfl
       · exact .inl rfl
     · rw[hg'];exact hw'.symm
 · rintro⟨T,dd⟩ w' ⟨hd,hsz,hout,hin,hw'⟩;have hL:∀j,j<k->(Array.ofFn λi:Fin ops.size=>decide (i.val<k)).getD j false=true:=λj hj=>by
    have:j<ops.size:=by omega
    simp[this,hj]
   rw[if_pos (hL s hsk)]at hw';subst hw';simp only at hd hsz hout hin;subst hd;have:T=putv ops vals 0 T₀:=by
    apply Array.ext_getElem?;intro x
    by_cases hx:∃j,j<k/\dstOf ops j=some x
    · obtain⟨j,hj,hdj⟩:=hx;exact hin j x hj hdj (hL j hj)
    · have hno:∀j,j<k->dstOf ops j≠some x:=λj hj hd=>hx ⟨j,hj,hd⟩;rw[hout x hno];exact(putv_out vals 0 _ x λj _ hj=>hno j (by omega)).symm
   rw[this];exact hend
end
section
variable {P:Program} {ops:Array Oper}
theorem wp_region_vals{id k:Nat}{Q':Exit->Act->World->Prop}{T₀:Array Value}{ds:List Deferred}{w W0:World}(hm:P.follows .mixedOrders=true)(hback:backB .any ops k=true)(hwait:allWaitB .any ops k=true)(hchk:chkV ops k T₀.size=true)
 (vals:List Value) (hlen:vals.length=k) (h0:W0={w with drawn:=w.drawn+1})
 (WW:Array Bool->World) (hW0:WW (Array.replicate ops.size false)=W0)
 (hstep:∀(L:Array Bool)i o,L.size=ops.size->i<k->L.getD i false=false->ops[i]?=some o->(∀e∈o.after,Region.binds .any e=true->L.getD e.on false=true)->(∀j oj,ops[j]?=some oj->L.getD j false=true->∀e∈oj.after,Region.binds .any e=true->L.getD e.on false=true)->yieldsTo P ⟨putv ops vals 0 T₀,[]⟩ o (WW L) (vals.getD i undef) (WW (L.setIfInBounds i true)))
 (hend:wpAny P .any ops Q' (ops.size - k) (Array.ofFn λi:Fin ops.size=>decide (i.val<k)) ⟨putv ops vals 0 T₀,ds⟩ (WW (Array.ofFn λi:Fin ops.size=>decide (i.val<k)))):(Code.region id ops true).wp P Q' ⟨T₀,ds⟩ w:=by
 have hk:k<=ops.size:=by
  have:=hback;unfold backB at this;simp only[Bool.and_eq_true,decide_eq_true_eq]at this;exact this.1
 unfold chkV at hchk;simp only[Bool.and_eq_true,List.all_eq_true,List.mem_range]at hchk;obtain⟨h1,h2⟩:=hchk;have plain:∀i,i<k->∃o d,ops[i]?=some o/\o.guard=none/\o.dst=some d/\dstOf ops i=some d/\d<T₀.size/\(∀cs b,o.op≠.select cs b)/\∀x∈o.op.operands,∀t,tmpOf x=some t->∀j,j<k->dstOf ops j=some t->waits ops i j=true:=λi hi=>by
  have:=h1 i hi;cases ho:ops[i]? with
  |none=>rw[ho]at this;cases this
  |some o=>
   rw[ho]at this;simp only[Bool.and_eq_true]at this;obtain⟨⟨⟨a1,a2⟩,a3⟩,a4⟩:=this;cases hd:o.dst with
   |none=>rw[hd]at a2;cases a2
   |some d=>
    rw[hd]at a2;refine⟨o,d,rfl,Option.isNone_iff_eq_none.1 a1,hd,by unfold dstOf;rw[ho];exact hd,by simpa using a2,(λcs b h=>by rw[h]at a3;cases a3),λx hx t ht j hj hdj=>?_⟩;rw[Array.all_eq_true_iff_forall_mem]at a4;have:=a4 x hx;rw[ht]at this;simp only[List.all_eq_true,List.mem_range]at this;have:=this j hj;simpa[hdj]using this
 have apart:∀(i j:Nat)(d:Tmp),i<k->j<k->dstOf ops i=some d->dstOf ops j=some d->i=j:=λi j d hi hj hd hd'=>by
  rcases Nat.lt_trichotomy i j with h|h|h
  · have:=h2 j hj i h;rw[hd,hd']at this;simp at this
  · exact h
  · have:=h2 i hi j h;rw[hd,hd']at this;simp at this
 have hTs:(putv ops vals 0 T₀).size=T₀.size:=putv_size _ _ _;have final:∀i x,i<k->dstOf ops i=some x->(putv ops vals 0 T₀)[x]?=some (vals.getD i undef):=λi x hi hd=>by
  obtain⟨o,d,ho,_,_,hd',hlt,_⟩:=plain i hi;rw[hd]at hd';obtain rfl:=Option.some.inj hd';refine putv_at vals 0 _ i _ x (by simp[hlen,hi]) (by rw[Nat.zero_add];exact hd) hlt λm a b e=>?_;have:=apart m i x (by omega) hi e hd;omega
 refine wp_region_inv hm hback hwait (λL a w'=>a.defers=ds/\a.tmps.size=T₀.size/\(∀t,(∀j,j<k->dstOf ops j≠some t)->a.tmps[t]?=T₀[t]?)/\(∀j t,j<k->dstOf ops j=some t->L.getD j false=true->a.tmps[t]?=(putv ops vals 0 T₀)[t]?)/\w'=WW L/\(∀j oj,ops[j]?=some oj->L.getD j false=true->∀e∈oj.after,Region.binds .any e=true->L.getD e.on false=true)) ?_ ?_ ?_
 · refine⟨rfl,rfl,λ_ _=>rfl,λj t _ _ hl=>?_,?_⟩
   · exfalso;simp[al_gd,Array.getElem?_replicate]at hl;split at hl<;>simp at hl
   · refine⟨by rw[hW0,h0],λj oj _ hl=>?_⟩;exfalso;simp[al_gd,Array.getElem?_replicate]at hl;split at hl<;>simp at hl
 · rintro L a w' i hL hi hun hdep ⟨hd,hsz,hout,hin,hw',hcl⟩;obtain⟨o,d,ho,hg,hdst,hdo,hlt,hsel,hops⟩:=plain i hi;have hun':L.getD i false=false:=by
    have:i<L.size:=by omega
    simp[this]at hun ⊢;exact hun
   have hex:execOp a.eval o=execOp (Act.mk (putv ops vals 0 T₀) []).eval o:=by
    obtain⟨tm,dd⟩:=a;refine execOp_congr o hsel λx hx=>eval_agree λt ht=>?_
    by_cases hxt:∃j,j<k/\dstOf ops j=some t
    · obtain⟨j,hj,hdj⟩:=hxt;obtain⟨oi,hoi,e,he1,he2,he3⟩:=waits_iff.1 (hops x hx t ht j hj hdj);subst he3;exact hin e.on t hj hdj (hdep oi hoi e he1 he2)
    · have hno:∀j,j<k->dstOf ops j≠some t:=λj hj hd=>hxt ⟨j,hj,hd⟩;rw[hout t hno];refine(putv_out vals 0 _ t λj _ hj=>hno j (by omega)).symm
   have hwan:Region.wanted o (yielded ops a.tmps)=true:=by simp[Region.wanted,hg]
   have hnext:∀W',WW (L.setIfInBounds i true)=W'->(a.put o.dst (vals.getD i undef)).defers=ds/\(a.put o.dst (vals.getD i undef)).tmps.size=T₀.size/\(∀t,(∀j,j<k->dstOf ops j≠some t)->(a.put o.dst (vals.getD i undef)).tmps[t]?=T₀[t]?)/\
    (∀j t,j<k->dstOf ops j=some t->(L.setIfInBounds i true).getD j false=true->(a.put o.dst (vals.getD i undef)).tmps[t]?=(putv ops vals 0 T₀)[t]?)/\W'=WW (L.setIfInBounds i true)/\(∀j oj,ops[j]?=some oj->(L.setIfInBounds i true).getD j false=true->∀e∈oj.after,Region.binds .any e=true->(L.setIfInBounds i true).getD e.on false=true):=by
    intro W' hW;rw[hdst];refine⟨hd,by simp[Act.put,hsz],λt ht=>?_,λj t hj hdj hl=>?_,hW.symm,λj oj hoj hl e he hb=>?_⟩
    · have:d≠t:=λe=>ht i hi (e▸hdo);simp only[Act.put];rw[al_gn this];exact hout t ht
    · by_cases e:d=t
      · subst e;rw[final i d hi hdo];have:d<a.tmps.size:=by rw[hsz];exact hlt
        simp[Act.put,this]
      · simp only[Act.put];rw[al_gn e];have hji:i≠j:=λe2=>by subst e2;rw[hdo]at hdj;exact e (Option.some.inj hdj)
        rw[getD_set_ne false hji]at hl;exact hin j t hj hdj hl
    · by_cases hji:i=j
      · subst hji;exact getD_set_true (hdep oj hoj e he hb)
      · rw[getD_set_ne false hji]at hl;exact getD_set_true (hcl j oj hoj hl e he hb)
   unfold wpOp;simp only[ho,hwan,if_true];refine .inl ?_;subst hw';exact wp_of_yields hex (hstep L i o hL hi hun' ho (λe he hb=>hdep o ho e he hb) hcl) (hnext _ rfl)
 · rintro⟨T,dd⟩ w' ⟨hd,hsz,hout,hin,hw',_⟩;have hL:∀j,j<k->(Array.ofFn λi:Fin ops.size=>decide (i.val<k)).getD j false=true:=λj hj=>by
    have:j<ops.size:=by omega
    simp[this,hj]
   subst hw';simp only at hd hsz hout hin;subst hd;have:T=putv ops vals 0 T₀:=by
    apply Array.ext_getElem?;intro x
    by_cases hx:∃j,j<k/\dstOf ops j=some x
    · obtain⟨j,hj,hdj⟩:=hx;exact hin j x hj hdj (hL j hj)
    · have hno:∀j,j<k->dstOf ops j≠some x:=λj hj hd=>hx ⟨j,hj,hd⟩;rw[hout x hno];exact(putv_out vals 0 _ x λj _ hj=>hno j (by omega)).symm
   rw[this];exact hend
theorem wp_region_two{id k s t:Nat}{Q':Exit->Act->World->Prop}{T₀:Array Value}{ds:List Deferred}{w W0 W1 W2:World}(hm:P.follows .mixedOrders=true)(hback:backB .any ops k=true)(hwait:allWaitB .any ops k=true)(hchk:chkV ops k T₀.size=true)(hsk:s<k)(htk:t<k)(hst:s≠t)(hts:waits ops t s=true)
 (vals:List Value) (hlen:vals.length=k) (h0:W0={w with drawn:=w.drawn+1})
 (hread:∀i o,i<k->i≠s->i≠t->ops[i]?=some o->∀W,W=W0\/W=W1\/W=W2->yieldsTo P ⟨putv ops vals 0 T₀,[]⟩ o W (vals.getD i undef) W)
 (hone:∀o,ops[s]?=some o->yieldsTo P ⟨putv ops vals 0 T₀,[]⟩ o W0 (vals.getD s undef) W1)
 (htwo:∀o,ops[t]?=some o->yieldsTo P ⟨putv ops vals 0 T₀,[]⟩ o W1 (vals.getD t undef) W2)
 (hend:wpAny P .any ops Q' (ops.size - k) (Array.ofFn λi:Fin ops.size=>decide (i.val<k)) ⟨putv ops vals 0 T₀,ds⟩ W2):(Code.region id ops true).wp P Q' ⟨T₀,ds⟩ w:=by
 have hk:k<=ops.size:=by
  have:=hback;unfold backB at this;simp only[Bool.and_eq_true,decide_eq_true_eq]at this;exact this.1
 have rep:∀j,(Array.replicate ops.size false).getD j false=false:=λj=>by
  simp only[al_gd,Array.getElem?_replicate];split<;>rfl
 have full:∀j,j<k->(Array.ofFn λi:Fin ops.size=>decide (i.val<k)).getD j false=true:=λj hj=>by
  have:j<ops.size:=by omega
  simp[this,hj]
 refine wp_region_vals hm hback hwait hchk vals hlen h0 (λL=>if L.getD t false=true then W2 else if L.getD s false=true then W1 else W0) ?_ ?_ ?_
 · simp only[rep];rfl
 · intro L i o hL hi hun ho hdep hcl;have hiL:i<L.size:=by omega
   by_cases his:i=s
   · subst his;have ht:L.getD t false=false:=by
      cases h:L.getD t false with
      |false=>rfl
      |true=>
       obtain⟨oi,hoi,e,he1,he2,he3⟩:=waits_iff.1 hts;have:=hcl t oi hoi h e he1 he2;rw[he3,hun]at this;cases this
     have e1:(L.setIfInBounds i true).getD t false=L.getD t false:=getD_set_ne false hst;have e2:(L.setIfInBounds i true).getD i false=true:=by simp[hiL]
     simp only[e1,e2,ht,hun];exact hone o ho
   · by_cases hit:i=t
     · subst hit;have hs:L.getD s false=true:=by
        obtain⟨oi,hoi,e,he1,he2,he3⟩:=waits_iff.1 hts;rw[ho]at hoi;obtain rfl:=Option.some.inj hoi;rw[←he3];exact hdep e he1 he2
       have e2:(L.setIfInBounds i true).getD i false=true:=by simp[hiL]
       simp only[e2,hs,hun];exact htwo o ho
     · have e1:(L.setIfInBounds i true).getD t false=L.getD t false:=getD_set_ne false hit;have e2:(L.setIfInBounds i true).getD s false=L.getD s false:=getD_set_ne false his;simp only[e1,e2];refine hread i o hi his hit ho _ ?_;split
       · exact .inr (.inr rfl)
       · split
         · exact .inr (.inl rfl)
         · exact .inl rfl
 · simp only[full t htk,full s hsk];exact hend
end
end Go.Car
set_option maxHeartbeats 4000000
set_option maxRecDepth 100000
namespace Go.Proofs
open Go Go.Conc Go.RowKit Go.Car
section
variable {mb B n:Nat} {opv:Nat->Value} {C:List Int} {T:Nat->RT} {cv tv:Value} {av sv:Nat->Value} {w w':World}
end
section
variable {mb B n:Nat} {opv:Nat->Value} {C:List Int} {T:Nat->RT} {cv tv:Value} {av sv:Nat->Value} {w w':World}
end
def OpsB(B:Nat)(w:World)(v:Value)(ops:List OpX):Prop:=∃sp cap,v=.slice sp ops.length cap/\∀(k:Nat)(op:OpX),ops[k]?=some op->∃g off,sp=some ⟨g,off,none⟩/\g<B/\w.cell? ⟨g,off+k*4,none⟩=some (.int .i64 op.k)/\w.cell? ⟨g,off+k*4+1,none⟩=some (.int .i64 op.a)/\w.cell? ⟨g,off+k*4+2,none⟩=some (.int .i64 op.b)/\w.cell? ⟨g,off+k*4+3,none⟩=some (.int .i64 op.c)
section
variable {mb B n:Nat} {opv:Nat->Value} {C:List Int} {T:Nat->RT} {cv tv:Value} {av sv:Nat->Value} {w w':World}
end
section
variable {mb B n:Nat} {opv:Nat->Value} {C:List Int} {T:Nat->RT} {cv tv:Value} {av sv:Nat->Value} {w w':World}
end
section
variable {ops:List OpX}
structure FitT(ops:List OpX)(t:RT):Prop where
 le:t.at'<=ops.length
 ans:t.ans.length=t.at'
theorem fit_end{t:RT}(h:FitT ops t)(hlt:t.at'<ops.length)(a:Ans):FitT ops (endR t a):=⟨hlt,by show(t.ans++[a]).length=t.at'+1;rw[List.length_append,h.ans];rfl⟩
theorem fit_begin{t:RT}{op:OpX}(h:FitT ops t)(hop:ops[t.at']?=some op):FitT ops (beginR t op):=by
 unfold beginR;split
 · exact⟨h.le,h.ans⟩
 · exact fit_end h (List.getElem?_eq_some_iff.1 hop).1 _
theorem fit_settle:∀(f:Nat)(t:RT),FitT ops t->FitT ops (settleR ops f t):=by
 intro f
 induction f with
 |zero=>exact λt h=>h
 |succ f ih=>
  intro t h;unfold settleR;split
  · cases hop:ops[t.at']? with
    |none=>exact h
    |some op=>exact ih _ (fit_begin h hop)
  · exact h
end
section
variable {mb B n:Nat} {opv:Nat->Value} {C:List Int} {T:Nat->RT} {cv tv:Value} {av sv:Nat->Value} {w w':World}
end
theorem leftN_poq{ov:Nat->Bool}{n i:Nat}(hi:i<n)(h:ov i=false):0<leftN ov n:=by
 induction n with
 |zero=>omega
 |succ n ih=>
  unfold leftN
  by_cases e:i=n
  · subst e;rw[h];simp
  · have:=ih (by omega);omega
section
variable {mb B n:Nat} {opv:Nat->Value} {C:List Int} {T:Nat->RT} {cv tv:Value} {av sv:Nat->Value} {w w':World}
end
theorem make_stripes(w:World)(W:Nat)(hW:W<=1099511627776):(Instr.makeSlice 61 (.int .i64 W) (.int .i64 W)).run Try.prog w=.ok (.slice (some ⟨w.heap.size,0,none⟩) W W) (w.alloc (.cells (Array.replicate W (.int .i64 0)) 60)):=by
 obtain⟨ti,hti,hz0,hz1,hz2⟩:∃ti,Try.prog.info? 60=some ti/\ti.zero.map (·.cells)=some #[.int .i64 0]/\ti.size=1/\ti.bytes=8:=⟨_,rfl,by rfl,rfl,rfl⟩;obtain⟨z,hz,hzc⟩:∃z,ti.zero=some z/\z.cells=#[.int .i64 0]:=by
  cases h:ti.zero with
  |none=>rw[h]at hz0;cases hz0
  |some z=>rw[h]at hz0;exact⟨z,rfl,by simpa using hz0⟩
 have:=run_make (P:=Try.prog) w 61 60 ti z (by kernel_rfl) hti hz .i64 .i64 W W (by omega) (Int.le_refl _) (by rw[hz2];omega) (by omega);simp only[Int.toNat_natCast,hz1,Nat.mul_one]at this;rw[this];congr 3;rw[hzc];apply Array.ext_getElem?;intro i
 by_cases hi:i<W
 · simp[madeCells,hi,Nat.mod_one]
 · simp[madeCells,hi]
def stripesN(x:Int):Nat:=(min (max x 1) 64).toNat
theorem stripesN_pos(x:Int):0<stripesN x/\stripesN x<=64:=by unfold stripesN;omega
structure NewStr(w:World)(N:Nat)(l:List Int)(w':World):Prop where
 rep:StrRep (w.heap.size+1) (some w.heap.size) N l w'
 size:w'.heap.size=w.heap.size+2
 old:∀b,b<w.heap.size->w'.heap[b]?=w.heap[b]?
theorem NewStr.made (w:World){N:Nat}(h0:0<N)(h1:N<=64):NewStr w N (List.replicate N 0) ((w.alloc (.cells (Array.replicate N (.int .i64 0)) 60)).alloc (.cells #[.int .i64 0,.slice (some ⟨w.heap.size,0,none⟩) N N] 63)):=by
 refine⟨⟨by simp,h0,h1,?_,λmb hm=>?_,λh=>(by cases h)⟩,by simp only[zq3],λb hb=>?_⟩
 · rw[zq2,if_pos (by simp only[zq3])];rfl
 · cases hm;refine(al_old (al_new w _)).trans ?_;simp
 · rw[zq2,if_neg (by simp only[zq3];omega),zq2,if_neg (by omega)]
theorem NewStr.re {w w':World}{N:Nat}{l:List Int}(h:NewStr w N l w')(τ:Nat->Question->Nat)(d:Nat):NewStr w N l (Go.Car.re w' τ d):=⟨(strCore _ _ _).frame _ _ _ h.rep λ_ _=>rfl,h.size,h.old⟩
theorem new_lone(x:Int)(w:World):Calls Try.prog 12 #[.int .i64 x] w λe w'=>e=.returned (.pointer (some ⟨w.heap.size+1,0,none⟩))/\NewStr w (stripesN x) (List.replicate (stripesN x) 0) w':=by
 have hp:=stripesN_pos x;have H1:=Lib.hid (NewStr.made w hp.1 hp.2);have e1:min (max x 1) 64=((stripesN x:Nat):Int):=by unfold stripesN;omega
 have hm:=make_stripes w (stripesN x) (by omega);generalize stripesN x=N at hp H1 e1 hm ⊢
 go_enter Try.func12,Try.ntmps12
 rcases(by omega:x<1\/(1<=x/\x<=64)\/64<x)with hc|⟨hc,hc'⟩|hc
 · have e2:(N:Int)=1:=by omega
   have h1:x<=1:=by omega
   rw[e2]at hm;have E:=Lib.hid (And.intro e1 (And.intro e2 hp));clear e1 e2 hp;go_wp2;go_ret;exact⟨rfl,H1.out⟩
 · have e2:(N:Int)=x:=by omega
   rw[e2]at hm;have E:=Lib.hid (And.intro e1 (And.intro e2 hp));clear e1 e2 hp;go_wp2;go_ret;exact⟨rfl,H1.out⟩
 · have e2:(N:Int)=64:=by omega
   have h1:1<=x:=by omega
   have h2:¬x<=64:=by omega
   rw[e2]at hm;have E:=Lib.hid (And.intro e1 (And.intro e2 hp));clear e1 e2 hp;go_wp2;go_ret;exact⟨rfl,H1.out⟩
structure IntsRes(w:World)(l:List Int)(v:Value)(w':World):Prop where
 size:w.heap.size<=w'.heap.size
 old:∀b,b<w.heap.size->w'.heap[b]?=w.heap[b]?
 row:w'.ownsRow w.heap.size 2 1 v l.length (l.map (Value.int .i64))
theorem IntsRes.re {w w':World}{l:List Int}{v:Value}(h:IntsRes w l v w')(τ:Nat->Question->Nat)(d:Nat):IntsRes w l v (Go.Car.re w' τ d):=⟨h.size,h.old,h.row⟩
section
variable {cb:Nat} {z:Option Nat} {N:Nat} {l:List Int} {w:World}
theorem idx_nat{k N:Nat}(h:k<N):idx k N=k:=by
 unfold idx;rw[Int.emod_eq_of_lt (by omega) (by omega)];omega
theorem all_lone(h:StrRep cb z N l w):Calls Try.prog 17 #[.pointer (some ⟨cb,0,none⟩)] w λe w'=>∃v,e=.returned v/\IntsRes w l v w':=by
 have hl:=h.len;have hp:=h.pos;have hle:=h.le;have HS:=Lib.hid h;have hs:=stripes_lone h.head;have HC:=Lib.hid (λ(w':World)(hh:∀b,b<w.heap.size->w'.heap[b]?=w.heap[b]?)=>(strCore cb z N).frame _ _ _ h (λb hb=>hh b ((strCore cb z N).lt _ _ _ h hb)));clear h
 go_enter Try.func17,Try.ntmps17
 go_wp2_with (fail)
 refine Calls.mono hs ?_;rintro e w' ⟨rfl,rfl⟩
 go_wp2_with (fail)
 clear hs;have hN1:(0:Int)<N:=by omega
 go_loopg [3,7] N (λk s i wr=>∃(j:Nat)(v:Value),v=s/\k=N - j/\j<=N/\i=.int .i64 j/\IntsRes w' (l.take j) v wr)
 case atStart=>exact⟨0,.slice none 0 0,rfl,rfl,Nat.zero_le _,rfl,Nat.le_refl _,λ_ _=>rfl,World.ownsRow_nil _ _ _ _⟩
 case round=>
  obtain⟨j,v,hv,hk,hj,rfl,hR⟩:=hrel;subst hv;have HR:=Lib.hid hR;clear hR
  by_cases hlt:j<N
  · have hlt':(j:Int)<(N:Int):=by omega
    have hj0:(0:Int)<=j:=by omega
    have hRep:=HC.out wr HR.out.old;have hst:=stripe_lone hRep.head (j:Int);obtain⟨ad,had⟩:∃ad,loc cb z N j=ad:=⟨_,rfl⟩;have hcl:=hRep.cell (j:Int);rw[had]at hst hcl;have HCL:=Lib.hid hcl;clear hRep hcl
    go_wp2_with (fail)
    refine Calls.mono hst ?_;rintro e w2 ⟨rfl,τ,d,rfl⟩;have hld:=load_lone ad (l.getD (idx j N) 0) (re wr τ d) HCL.out
    go_wp2_with (fail)
    refine Calls.mono hld ?_;rintro e w2 ⟨rfl,rfl⟩;obtain⟨tj,htj,hy0,hy1,hy2⟩:∃ti,Try.prog.info? 2=some ti/\ti.zero=some (.int .i64 0)/\ti.size=1/\ti.bytes=8:=⟨_,rfl,rfl,rfl,rfl⟩;have TJ:=Lib.hid (And.intro htj (And.intro hy0 (And.intro hy1 hy2)));clear htj hy0 hy1 hy2 hld hst;have hrow:(re wr τ d).ownsRow w'.heap.size 2 1 v j ((l.take j).map (Value.int .i64)):=by
     have:=(HR.out.re τ d).row
     rwa [show(l.take j).length=j by simp;omega]at this
    have HRW:=Lib.hid hrow;clear hrow;have hsz:=HR.out.size;have HLT:=Lib.hid (And.intro hlt (And.intro hl hle))
    go_wp2_with (at_builtin;go_loud (refine wpList_append_lies _ rfl (.tmp 10) (.tmp 15) 22 rfl w'.heap.size 2 tj (.int .i64 0) 1 8 (by kernel_rfl) TJ.out.1 TJ.out.2.1 TJ.out.2.2.1 TJ.out.2.2.2 rfl (by decide) _ j ((l.take j).map (Value.int .i64)) rfl (row_allocK HRW.out _) _ 1 1 [.int .i64 (l.getD (idx (↑j) N) 0)] rfl rfl (one_new rfl) (by simp[Value.oneCell']) (by decide) (by simp only[maxLen];omega) (by omega) (by rw[zq3];show w'.heap.size<=wr.heap.size+1;omega) _ rfl ?next))
    case next=>
     intro g7 cap7 w7 hown7 hgrow7 hat7 hlt7;have L7:=Lib.hid (And.intro hown7 (And.intro hgrow7 hat7));clear hown7 hgrow7 hat7 hlt7;go_wp2;go_roundg (N - (j+1))
     case measure=>omega
     case rel=>
      obtain⟨o7,q7,a7⟩:=L7.out;have hne:∀b,b<w'.heap.size->v.ownBlock≠some b:=λb hb e=>by have:=(own_lt HRW.out e).2.1;omega
      have e1:(l.take (j+1)).length=j+1:=by simp;omega
      refine⟨j+1,_,rfl,rfl,by omega,rfl,?_,λb hb=>?_,?_⟩
      · have:=q7.size;rw[zq3]at this;exact Nat.le_trans hsz (Nat.le_trans (Nat.le_succ _) this)
      · rw[q7.block b (by rw[zq3];show b<wr.heap.size+1;omega) (λe=>hne b hb e.symm),zq2,if_neg (by show b≠wr.heap.size;omega)];exact HR.out.old b hb
      · rw[e1];have e2:(l.take (j+1)).map (Value.int .i64)=(l.take j).map (Value.int .i64)++[.int .i64 (l.getD (idx (↑j) N) 0)]:=by
         rw[idx_nat hlt,List.take_add_one,List.map_append];simp[show j<l.length by omega]
        rw[e2,List.map_take];exact o7
  · obtain rfl:j=N:=by omega
    have hlt':¬(j:Int)<(j:Int):=by omega
    go_wp2;go_ret;refine⟨_,rfl,?_⟩;have:=HR.out
    rwa [List.take_of_length_le (by omega)]at this
def totalL(l:List Int):Int:=l.foldl (λa v=>wrap64 (a+v)) 0
theorem totalL_snoc(l:List Int)(x:Int):totalL (l++[x])=wrap64 (totalL l+x):=by simp[totalL]
theorem total_lone(h:StrRep cb z N l w):Calls Try.prog 18 #[.pointer (some ⟨cb,0,none⟩)] w λe w'=>e=.returned (.int .i64 (totalL l))/\w.heap.size<=w'.heap.size/\∀b,b<w.heap.size->w'.heap[b]?=w.heap[b]?:=by
 have hl:=h.len;have hle:=h.le;have hs:=all_lone h;clear h
 go_enter Try.func18,Try.ntmps18
 go_wp2_with (fail)
 refine Calls.mono hs ?_;rintro e w1 ⟨v,rfl,hR⟩;clear hs;obtain⟨p,C,rfl,-,-⟩:=own_slice hR.row;have HRW:=Lib.hid (And.intro hR.size hR.old);have HP:RowKit.Hid (0<l.length->∃g,p=some ⟨g,0,none⟩/\∀i x,l[i]?=some x->w1.cell? ⟨g,i,none⟩=some (.int .i64 x)):=by
  refine Lib.hid (λh0=>?_);rcases hR.row.2 with⟨hv,h1⟩|⟨g,cap,cur,hv,hb,hh,h1,h2,h3,h4⟩
  · omega
  · cases hv;refine⟨g,rfl,λi x hx=>?_⟩;rw[zq0 hh];have hi:=(List.getElem?_eq_some_iff.1 hx).1;have e:(l.map (Value.int .i64))[i]?=some (.int .i64 x):=by simp[hx]
    rw[←h4,List.getElem?_take,if_pos (by omega)]at e;simpa using e
 clear hR;obtain⟨n,hn⟩:∃n,l.length=n:=⟨_,rfl⟩;rw[hn]at hl HP ⊢;have HN:=Lib.hid (And.intro hn (And.intro hl hle));clear hn hl hle
 go_wp2_with (fail)
 go_loopg [3,9] n (λk s i wr=>∃(j:Nat),k=n - j/\j<=n/\i=.int .i64 j/\s=.int .i64 (totalL (l.take j))/\wr=w1)
 case atStart=>exact⟨0,rfl,Nat.zero_le _,rfl,rfl,rfl⟩
 case round=>
  obtain⟨j,hk,hj,rfl,rfl,rfl⟩:=hrel;obtain⟨hn,hl,hle⟩:=HN.out
  by_cases hlt:j<n
  · obtain⟨g,rfl,hc⟩:=HP.out (by omega);have hlt':(j:Int)<(n:Int):=by omega
    have hj0:(0:Int)<=j:=by omega
    obtain⟨x,hx⟩:∃x,l[j]?=some x:=⟨_,List.getElem?_eq_getElem (by omega)⟩;have c1:=hc j x hx;have HX:=Lib.hid (And.intro hx (And.intro hn (And.intro hl hle)));have e1:IntKind.i64.wrap ((j:Int)+1)=((j+1:Nat):Int):=by rw[IntWalk.i64_in _ (by omega)];omega
    clear hc hx hn hl hle;obtain⟨acc,hacc⟩:∃acc,totalL (l.take j)=acc:=⟨_,rfl⟩;rw[hacc];have HA:=Lib.hid hacc;clear hacc;go_wp2;go_roundg (n - (j+1))
    case measure=>omega
    case rel=>
     obtain⟨hx,hn,hl,hle⟩:=HX.out;refine⟨j+1,rfl,by omega,by simp,?_,rfl⟩;rw[List.take_add_one,hx,Option.toList_some,totalL_snoc,HA.out]
  · obtain rfl:j=n:=by omega
    have hlt':¬(j:Int)<(j:Int):=by omega
    have e2:l.take j=l:=List.take_of_length_le (by omega);rw[e2];clear hn hl hle;go_wp2;go_ret;exact⟨rfl,HRW.out⟩
end
def begL(ws:List Int)(N j:Nat):List Int:=(List.range N).map λi=>if i<j then ws.getD i 0 else 0
theorem begL_zero(ws:List Int)(N:Nat):begL ws N 0=List.replicate N 0:=by
 apply List.ext_getElem?;intro i
 by_cases hi:i<N<;>simp[begL,hi]
theorem begL_set(ws:List Int){N j:Nat}(hj:j<N):(begL ws N j).set j (ws.getD j 0)=begL ws N (j+1):=by
 apply List.ext_getElem?;intro i;unfold begL
 by_cases hi:i<N
 · by_cases e:i=j
   · subst e;simp[hi]
   · rw[List.getElem?_set_ne (by omega)];have:(i<j+1)=(i<j):=by simp;omega
     simp[hi,this]
 · have hs:∀(l:List Int),l.length=N->l[i]?=none:=λl hl=>List.getElem?_eq_none (by omega);rw[hs _ (by simp),hs _ (by simp)]
def begunL(ws:List Int):List Int:=begL ws (stripesN ws.length) (min ws.length 64)
theorem begunL_eq(ws:List Int):begunL ws=if ws=[]then [0]else ws.take 64:=by
 unfold begunL
 by_cases h:ws=[]
 · subst h;rfl
 · rw[if_neg h];have h0:0<ws.length:=List.length_pos_iff.2 h;have e:stripesN ws.length=min ws.length 64:=by unfold stripesN;omega
   rw[e];apply List.ext_getElem?;intro i;unfold begL
   by_cases hi:i<min ws.length 64
   · simp[hi,show i<ws.length by omega,show i<64 by omega]
   · rw[List.getElem?_eq_none (by simp;omega),List.getElem?_eq_none (by simp;omega)]
theorem begun_lone{p:Option Addr}{n C:Nat}{ws:List Int}(w:World)(hl:ws.length=n)(hn:n<=4611686018427387904)(hw:0<n->∃wb wo,p=some ⟨wb,wo,none⟩/\∀i,i<n->w.cell? ⟨wb,wo+i,none⟩=some (.int .i64 (ws.getD i 0))):
 Calls Try.prog 25 #[.slice p n C] w λe w'=>e=.returned (.pointer (some ⟨w.heap.size+1,0,none⟩))/\NewStr w (stripesN n) (begunL ws) w':=by
 have HS:=Lib.hid hw;have hnew:=new_lone (n:Int) w;have hp:=stripesN_pos (n:Int);have HK:=Lib.hid (And.intro hl hp);clear hw hl hp
 go_enter Try.func25,Try.ntmps25
 go_wp2_with (fail)
 refine Calls.mono hnew ?_;rintro e w1 ⟨rfl,hR⟩;have HP:=Lib.hid hR;clear hnew hR;obtain⟨H,hH⟩:∃H,w.heap.size=H:=⟨_,rfl⟩;rw[hH];have HH:=Lib.hid hH;clear hH;obtain⟨m,hm⟩:∃m,min n 64=m:=⟨_,rfl⟩;have e1:(if(n:Int)<=64 then(n:Int)else 64)=(m:Int):=by split<;>omega
 have HM:=Lib.hid hm
 by_cases hc:(n:Int)<=64
 · have e2:(n:Int)=(m:Int):=by omega
   have E:=Lib.hid e2;clear hm e1 e2
   go_wp2_with (fail)
   rw[E.out];have e0:=begL_zero ws (stripesN n);obtain⟨N,hN⟩:∃N,stripesN n=N:=⟨_,rfl⟩;rw[hN]at HP HK e0;rw[←e0]at HP;have HN:=Lib.hid hN;clear hN e0
   go_loopg [11] m (λk i wr=>∃(j:Nat),k=m - j/\j<=m/\i=.int .i64 j/\NewStr w N (begL ws N j) wr)
   case atStart=>exact⟨0,rfl,Nat.zero_le _,rfl,HP.out⟩
   case round=>
    obtain⟨j,hk,hj,rfl,hR⟩:=hrel;have HR:=Lib.hid hR;have hmn:m<=n/\m<=64:=by have:=HM.out;omega
    by_cases hlt:j<m
    · obtain⟨wb,wo,rfl,hcw⟩:=HS.out (by omega);have hcj:=hcw j (by omega);have c2:wr.cell? ⟨wb,wo+j,none⟩=some (.int .i64 (ws.getD j 0)):=(cell_of_same (hR.old wb (cell_lt hcj))).trans hcj;have c1:wr.cell? ⟨w.heap.size+1,1,none⟩=some (.slice (some ⟨w.heap.size,0,none⟩) N N):=hR.rep.head.cell;have hjN:j<N:=by have:=HM.out;have:=HN.out;have:=E.out;unfold stripesN at *;omega
      have c3:=hR.rep.cell (j:Int);have f3:=hR.rep.frozen (j:Int);rw[show loc (w.heap.size+1) (some w.heap.size) N (j:Int)=⟨w.heap.size,j,none⟩by simp[loc,idx_nat hjN]]at c3 f3;rw[HH.out]at c1 c3 f3;obtain⟨x,hx⟩:∃x,ws.getD j 0=x:=⟨_,rfl⟩;rw[hx]at c2;have HX:=Lib.hid (And.intro hx hjN);clear hx;generalize (begL ws N j).getD (idx (↑j) N) 0=y at c3;have C3:=Lib.hid (And.intro c3 f3);have hlt':(j:Int)<(m:Int):=by omega
      have hj0:(0:Int)<=j:=by omega
      have hjn:(j:Int)<(n:Int):=by omega
      have hjN':(j:Int)<(N:Int):=by omega
      have HMN:=Lib.hid hmn;clear hcw hcj c3 f3 hR hmn
      go_wp2_with (fail)
      refine wp_region_pre (k:=10) (C:=λw'=>∃n,w'=wr.drewN n) (by kernel_rfl) (by kernel_rfl) (by kernel_rfl) (by kernel_rfl) (by kernel_rfl) ⟨1,rfl⟩ ?_;simp only[List.take_succ_cons,List.take_zero]
      repeat (quiet_step (fail))
      refine wpQuiet_nil ?_;rintro w' ⟨nq,rfl⟩;refine wpAny_one (i:=10) (by kernel_rfl) ?_;simp only[wpOp,al_gl,al_g0,al_g1];rw[if_pos (by rfl)];refine .inl ?_;go_simp;refine Calls.mono (store_lone ⟨H,j,none⟩ y x (wr.drewN nq) C3.out.1 C3.out.2) ?_;rintro e w' ⟨rfl,rfl⟩;refine wpAny_end (by kernel_rfl) ?_;go_wp2;go_roundg (m - (j+1))
      case measure=>omega
      case rel=>
       refine⟨j+1,rfl,by omega,by simp,?_⟩;have h1:StrRep (w.heap.size+1) (some w.heap.size) N (begL ws N j) (wr.drewN nq):=(strCore _ _ _).frame _ _ _ HR.out.rep λ_ _=>rfl;have h2:=h1.set (j:Int) x;have e3:=HX.out.2;rw[show loc (w.heap.size+1) (some w.heap.size) N (j:Int)=⟨w.heap.size,j,none⟩by simp[loc,idx_nat e3],idx_nat e3,←HX.out.1,begL_set _ e3]at h2;rw[HX.out.1]at h2;rw[←HH.out];refine⟨h2,by rw[hp_size_set];exact HR.out.size,λb hb=>?_⟩;rw[hp_set_ne _ _ _ _ (by show b≠w.heap.size;omega)];exact HR.out.old b hb
    · obtain rfl:j=m:=by omega
      have hlt':¬(j:Int)<(j:Int):=by omega
      have e9:NewStr w N (begunL ws) wr:=by
       have:=HR.out;unfold begunL;rw[HK.out.1,HN.out,HM.out];exact this
      clear hR hmn;have HE:=Lib.hid e9;clear e9;go_wp2;go_ret;refine⟨by rw[HH.out];rfl,?_⟩;rw[HN.out];exact HE.out
 · have e2:(64:Int)=(m:Int):=by omega
   have E:=Lib.hid e2;have hc2:¬(n:Int)<64:=by omega
   have hc3:(64:Int)<=(n:Int):=by omega
   clear hm e1 e2
   go_wp2_with (fail)
   rw[E.out];have e0:=begL_zero ws (stripesN n);obtain⟨N,hN⟩:∃N,stripesN n=N:=⟨_,rfl⟩;rw[hN]at HP HK e0;rw[←e0]at HP;have HN:=Lib.hid hN;clear hN e0
   go_loopg [11] m (λk i wr=>∃(j:Nat),k=m - j/\j<=m/\i=.int .i64 j/\NewStr w N (begL ws N j) wr)
   case atStart=>exact⟨0,rfl,Nat.zero_le _,rfl,HP.out⟩
   case round=>
    obtain⟨j,hk,hj,rfl,hR⟩:=hrel;have HR:=Lib.hid hR;have hmn:m<=n/\m<=64:=by have:=HM.out;omega
    by_cases hlt:j<m
    · obtain⟨wb,wo,rfl,hcw⟩:=HS.out (by omega);have hcj:=hcw j (by omega);have c2:wr.cell? ⟨wb,wo+j,none⟩=some (.int .i64 (ws.getD j 0)):=(cell_of_same (hR.old wb (cell_lt hcj))).trans hcj;have c1:wr.cell? ⟨w.heap.size+1,1,none⟩=some (.slice (some ⟨w.heap.size,0,none⟩) N N):=hR.rep.head.cell;have hjN:j<N:=by have:=HM.out;have:=HN.out;have:=E.out;unfold stripesN at *;omega
      have c3:=hR.rep.cell (j:Int);have f3:=hR.rep.frozen (j:Int);rw[show loc (w.heap.size+1) (some w.heap.size) N (j:Int)=⟨w.heap.size,j,none⟩by simp[loc,idx_nat hjN]]at c3 f3;rw[HH.out]at c1 c3 f3;obtain⟨x,hx⟩:∃x,ws.getD j 0=x:=⟨_,rfl⟩;rw[hx]at c2;have HX:=Lib.hid (And.intro hx hjN);clear hx;generalize (begL ws N j).getD (idx (↑j) N) 0=y at c3;have C3:=Lib.hid (And.intro c3 f3);have hlt':(j:Int)<(m:Int):=by omega
      have hj0:(0:Int)<=j:=by omega
      have hjn:(j:Int)<(n:Int):=by omega
      have hjN':(j:Int)<(N:Int):=by omega
      have HMN:=Lib.hid hmn;clear hcw hcj c3 f3 hR hmn
      go_wp2_with (fail)
      refine wp_region_pre (k:=10) (C:=λw'=>∃n,w'=wr.drewN n) (by kernel_rfl) (by kernel_rfl) (by kernel_rfl) (by kernel_rfl) (by kernel_rfl) ⟨1,rfl⟩ ?_;simp only[List.take_succ_cons,List.take_zero]
      repeat (quiet_step (fail))
      refine wpQuiet_nil ?_;rintro w' ⟨nq,rfl⟩;refine wpAny_one (i:=10) (by kernel_rfl) ?_;simp only[wpOp,al_gl,al_g0,al_g1];rw[if_pos (by rfl)];refine .inl ?_;go_simp;refine Calls.mono (store_lone ⟨H,j,none⟩ y x (wr.drewN nq) C3.out.1 C3.out.2) ?_;rintro e w' ⟨rfl,rfl⟩;refine wpAny_end (by kernel_rfl) ?_;go_wp2;go_roundg (m - (j+1))
      case measure=>omega
      case rel=>
       refine⟨j+1,rfl,by omega,by simp,?_⟩;have h1:StrRep (w.heap.size+1) (some w.heap.size) N (begL ws N j) (wr.drewN nq):=(strCore _ _ _).frame _ _ _ HR.out.rep λ_ _=>rfl;have h2:=h1.set (j:Int) x;have e3:=HX.out.2;rw[show loc (w.heap.size+1) (some w.heap.size) N (j:Int)=⟨w.heap.size,j,none⟩by simp[loc,idx_nat e3],idx_nat e3,←HX.out.1,begL_set _ e3]at h2;rw[HX.out.1]at h2;rw[←HH.out];refine⟨h2,by rw[hp_size_set];exact HR.out.size,λb hb=>?_⟩;rw[hp_set_ne _ _ _ _ (by show b≠w.heap.size;omega)];exact HR.out.old b hb
    · obtain rfl:j=m:=by omega
      have hlt':¬(j:Int)<(j:Int):=by omega
      have e9:NewStr w N (begunL ws) wr:=by
       have:=HR.out;unfold begunL;rw[HK.out.1,HN.out,HM.out];exact this
      clear hR hmn;have HE:=Lib.hid e9;clear e9;go_wp2;go_ret;refine⟨by rw[HH.out];rfl,?_⟩;rw[HN.out];exact HE.out
end Go.Proofs
set_option maxHeartbeats 1000000
namespace Go.Car
open Go Go.Conc Go.RowKit
end Go.Car
set_option maxHeartbeats 4000000
set_option maxRecDepth 100000
namespace Go.Proofs
open Go Go.Conc Go.RowKit Go.Car
section
variable {mb B n:Nat} {opv:Nat->Value} {C:List Int} {T:Nat->RT} {cv tv:Value} {av sv:Nat->Value} {w w':World}
end
end Go.Proofs
set_option maxHeartbeats 1000000
namespace Go.Car
open Go Go.Conc Go.RowKit
section
variable {P:Program}
def FinOf(P:Program)(Post:Value->World->Prop)(m:Machine)(T:Trace):Prop:=
 ∃N last o w' t',runNT P (N+1) m T=(.ended o w',t')/\runN P N m=.next last/\step P last=.ended o w'/\Conc.Good P (λv w=>Post v w/\w.os=m.world.os/\w.output=m.world.output) last o w' t'
theorem back_fin(Post:Value->World->Prop):Back P (FinOf P Post):=by
 intro N m T m' T' hrun e1 e2 ⟨M,last,o,w',t',h1,h2,h3,h4⟩;rw[e1,e2]at h4;have hn:runN P N m=.next m':=by rw[←runNT_fst P _ _ T,hrun]
 refine⟨N+M,last,o,w',t',?_,?_,h3,h4⟩
 · rw[Nat.add_assoc,runNT_add,hrun];exact h1
 · rw[runN_add,hn];exact h2
theorem j0_end{Post:Value->World->Prop}(hPost:∀v w τ d,Post v w->Post v (re w τ d)){n:Nat}{b:Frame}(hb:b.kind=.normal)(hini:P.inits.idxOf? b.fn=none){fn:Func}(hf:P.funcs[b.fn]?=some fn){t:Array Value}{todo:List Item}{w:World}{v:Value}
 (hr:(results fn t).run P w=.ok v w) (hp:Post v w):J0 P (FinOf P Post) n (G {b.at ⟨t,[]⟩ todo with mode:=.returning} []) w:=by
 intro τ d Mem B gs sl T q hM hsz hg hR;obtain⟨hL,hP⟩:=ring_end hR hM (λ_ _=>rfl);obtain⟨es,hes⟩:∃es,((results fn t).runT P w #[]).2=es:=⟨_,rfl⟩;have hT:∀τ d,(results fn t).runT P (re w τ d) #[]=(.ok v (re w τ d),es):=λτ d=>by
  obtain⟨_,_,h3⟩:=runT_re _ (tame_more _ (tame_results (P:=P) fn t)) w #[];have h4:((results fn t).runT P w #[]).1=.ok v w:=by rw[Sem.runT_eq];exact hr
  have:=h3 τ d (λj hj=>by rw[h4]at hj;simp only[resW]at hj;omega);rw[h4,hes]at this;simp only[resRe,resW,Nat.sub_self,Nat.add_zero]at this;exact this
 have hcalm:∀e∈es,calmEv true e:=λe he=>by
  rw[←hes]at he;have:=(runT_calm _ (tame_results (P:=P) fn t) w #[] e he).resolve_left (by simp);exact⟨this.1,λh=>by cases h⟩
 obtain⟨B2,hB2⟩:=low_exists es;have hP2:Past (λ_=>False) (max B B2) T:=hP.mono (Nat.le_max_left _ _);refine beside_ends (Shun:=λ_=>False) (B:=max B B2) (D:=λ_ _ _=>False) (n:=0) (λ_ _ _ h=>h.elim) hg hL hP2 ?_;rintro w₁ ⟨d₁,rfl⟩;have hw:∃τ' d',(((re w τ 0).at d).at d₁)=re w τ' d':=⟨τ,d₁,rfl⟩;obtain⟨τ',d',hw⟩:=hw;rw[hw];refine⟨rfl,v,seen P b.fn es,?_,λe he=>?_,hPost _ _ _ _ hp,rfl,rfl⟩
 · simp only[G,stepG,unwind,Frame.at,hf,hT τ' d',GStep.after,doReturn];simp[GStep.after,hb,hini]
 · have he':=mem_seen he;obtain⟨k1,k2⟩:=calm_marks (hcalm e he');exact⟨λx _ h=>h.elim,k1,k2,MemAct.low_mono (Nat.le_max_right _ _) (hB2 e he')⟩
theorem j0_run{Post:Value->World->Prop}{f:FuncId}{fn:Func}{c:Code}{args:Array Value}{W:World}(hf:P.funcs[f]?=some fn)(hb:fn.body=some c)
 (h:J0 P (FinOf P Post) 1 (G (Frame.enter P f args .normal) []) W):FinOf P Post (solo (G (Frame.enter P f args .normal) []) W) #[]:=by
 have hL:Leavers P (#[]:Trace) #[G (Frame.enter P f args .normal) []] (λ_=>0):=⟨λi g hi hg=>by
  rcases i with _|i
  · omega
  · simp at hg,λj _=>rfl⟩
 have hP:Past (λ_=>False) 0 (#[]:Trace):=past_nil;have hR:=ring_begin (P:=P) (K:=KK (λ_=>none)) (Still:=StillK (λ_=>none)) (w:=W.at W.drawn) (B:=0) (λl⟨a,v,_,hv⟩=>by cases hv) hL hP (KK_none _);have:=h W.tape W.drawn (λg=>g=0) 0 #[G (Frame.enter P f args .normal) []] none #[] (λ_=>0) rfl rfl rfl hR;rw[solo_eq_crowd];exact this
end
end Go.Car
namespace Go.Car
open Go Go.Conc Go.RowKit
section
variable {P:Program} {A:FuncId->Bool}
theorem at_rest_end{Post:Value->World->Prop}(hPost:∀v w τ d,Post v w->Post v (re w τ d))(hP:Plain P A){c:Code}(hc:okCode P A c=true){n:Nat}{b:Frame}(hb:b.kind=.normal)(hini:P.inits.idxOf? b.fn=none){fn:Func}(hf:P.funcs[b.fn]?=some fn){t:Array Value}{w:World}
 (h:∀τ d,Code.wp P c (bodyPost P fn λe w'=>∃v,e=.returned v/\Post v w') ⟨t,[]⟩ (re w τ d)):J0 P (FinOf P Post) n (G (b.at ⟨t,[]⟩ [.code c]) []) w:=by
 have hFin:=back_fin (P:=P) Post;have hJ:=j0_JS hFin;have hC:=j0_calm hFin
 let Φ:Act->World->Prop:=λa w=>∃v,(results fn a.tmps).run P w=.ok v w/\Post v w
 have hΦ:∀a w τ d,Φ a w->Φ a (re w τ d):=λa w τ d⟨v,h1,h2⟩=>⟨v,results_re h1 τ d,hPost _ _ _ _ h2⟩;have hleave:∀(t:Array Value)(w:World)(todo:List Item),Φ ⟨t,[]⟩ w->J0 P (FinOf P Post) n (G {b.at ⟨t,[]⟩ todo with mode:=.returning} []) w:=λt w todo⟨v,h1,h2⟩=>j0_end hPost hb hini hf h1 h2;refine wpJ_lone (Q:=λs' e a' w'=>s'=n/\(e=.normal\/e=.ret)/\a'.defers=[]/\Φ a' w') hJ hC hP hc Φ Φ hΦ hΦ (λτ d=>?_) (λt w h=>⟨rfl,.inl rfl,rfl,h⟩) (λt w h=>⟨rfl,.inr rfl,rfl,h⟩) b [] [] (by rw[hb];decide) ?_
 · refine Code.wp_mono ?_ (h τ d);intro e a w hh;cases e with
   |normal=>obtain⟨h1,v,h2,v',h3,h4⟩:=hh;cases h3;exact⟨h1,v,h2,h4⟩
   |ret=>obtain⟨h1,v,h2,v',h3,h4⟩:=hh;cases h3;exact⟨h1,v,h2,h4⟩
   |panic ch=>obtain⟨h1,v,h2,_⟩:=hh;cases h2
   |outgrown=>obtain⟨v,h2,_⟩:=hh;cases h2
   |_=>exact hh
 · rintro s' e ⟨t',ds⟩ w' ⟨rfl,he,hd,h⟩;simp only at hd;subst hd;rcases he with rfl |rfl
   · exact hJ.ctl (λw=>stepG_end) (hleave t' w' [] h)
   · exact λtodo=>hleave t' w' todo h
end
end Go.Car
set_option maxHeartbeats 1000000
namespace Go.Car
open Go Go.Conc Go.RowKit
section
variable {P:Program} {A:FuncId->Bool}
end
theorem lit_list(T:Array Value):∃x:Nat->Value,(∀i,i<T.size->T[i]?=some (x i))/\T.toList=(List.range T.size).map x:=by
 refine⟨λi=>T.getD i undef,λi hi=>by simp[hi],?_⟩;apply List.ext_getElem
 · simp
 · intro i h1 h2;have h3:i<T.size:=by simpa using h1
   simp[h3]
end Go.Car
set_option maxHeartbeats 4000000
set_option maxRecDepth 100000
namespace Go.Proofs
open Go Go.Conc Go.RowKit Go.Car
section
variable {mb B n:Nat} {opv:Nat->Value} {C:List Int} {T:Nat->RT} {cv tv:Value} {av sv:Nat->Value} {w w':World}
end
section
variable {mb B n:Nat} {opv:Nat->Value} {C:List Int} {T:Nat->RT} {cv tv:Value} {av sv:Nat->Value} {w w':World}
end
section
variable {mb B n:Nat} {opv:Nat->Value} {C:List Int} {T:Nat->RT} {cv tv:Value} {av sv:Nat->Value} {w w':World}
end
section
variable {mb B n:Nat} {opv:Nat->Value} {C:List Int} {T:Nat->RT} {cv tv:Value} {av sv:Nat->Value} {w w':World}
end
section
variable {mb B n:Nat} {opv:Nat->Value} {C:List Int} {T:Nat->RT} {cv tv:Value} {av sv:Nat->Value} {w w':World}
end
section
variable {mb B n:Nat} {opv:Nat->Value} {C:List Int} {T:Nat->RT} {cv tv:Value} {av sv:Nat->Value} {w w':World}
end
section
variable {mb B n:Nat} {opv:Nat->Value} {C:List Int} {T:Nat->RT} {cv tv:Value} {av sv:Nat->Value} {w w':World}
end
section
variable {mb B n:Nat} {opv:Nat->Value} {C:List Int} {T:Nat->RT} {cv tv:Value} {av sv:Nat->Value} {w w':World}
end
section
variable {mb B n:Nat} {opv:Nat->Value} {C:List Int} {T:Nat->RT} {cv tv:Value} {av sv:Nat->Value} {w w':World}
end
section
variable {mb B n:Nat} {opv:Nat->Value} {C:List Int} {T:Nat->RT} {cv tv:Value} {av sv:Nat->Value} {w w':World}
end
section
variable {mb B n:Nat} {opv:Nat->Value} {C:List Int} {T:Nat->RT} {cv tv:Value} {av sv:Nat->Value} {w w':World}
end
section
variable {mb B n:Nat} {opv:Nat->Value} {C:List Int} {T:Nat->RT} {cv tv:Value} {av sv:Nat->Value} {w w':World}
end
section
variable {mb B n:Nat} {opv:Nat->Value} {C:List Int} {T:Nat->RT} {cv tv:Value} {av sv:Nat->Value} {w w':World}
end
section
variable {mb B n:Nat} {opv:Nat->Value} {C:List Int} {T:Nat->RT} {cv tv:Value} {av sv:Nat->Value} {w w':World}
end
set_option maxHeartbeats 1000000
set_option maxRecDepth 100000
section
variable {NS N most:Nat} {ops:Nat->List OpX}
theorem fit_step{l:List OpX}{op:OpX}{t:RT}{C:List Int}(h:FitT l t)(hop:l[t.at']?=some op):FitT l (stepR NS op C t).2:=by
 have hlt:=(List.getElem?_eq_some_iff.1 hop).1;have he:∀(t1:RT)(a:Ans),t1.at'=t.at'->t1.ans=t.ans->FitT l (endR t1 a):=λt1 a h1 h2=>fit_end ⟨by rw[h1];exact h.le,by rw[h1,h2];exact h.ans⟩ (by rw[h1];exact hlt) a;have hs:∀(t1:RT),t1.at'=t.at'->t1.ans=t.ans->FitT l t1:=λt1 h1 h2=>⟨by rw[h1];exact h.le,by rw[h1,h2];exact h.ans⟩;unfold stepR;simp only
 repeat' split
 all_goals first|exact he _ _ rfl rfl |exact hs _ rfl rfl
theorem fit_setl{l:List OpX}{t:RT}(h:FitT l t):FitT l (setlR l t):=fit_settle _ _ h
structure InvR(NS n:Nat)(ops:Nat->List OpX)(most:Nat)(r:RS):Prop where
 len:r.C.length=NS
 ord:r.ord.length<=most
 thr:∀i,i<n->FitT (ops i) (r.T i)/\OkT NS (ops i) (r.T i)
theorem beginRS_C(C:List Int):∀n,(beginRS ops C n).C=C/\(beginRS ops C n).ord=[]:=by
 intro n
 induction n with
 |zero=>exact⟨rfl,rfl⟩
 |succ n ih=>exact⟨ih.1,ih.2⟩
theorem fit_rt0(l:List OpX):FitT l rt0:=⟨Nat.zero_le _,rfl⟩
theorem ok_rt0(l:List OpX):OkT NS l rt0:=⟨λh=>absurd rfl h⟩
theorem inv_begin(hN:0<NS){C:List Int}(hC:C.length=NS):∀n,InvR NS n ops most (beginRS ops C n):=by
 intro n
 induction n with
 |zero=>exact⟨hC,Nat.zero_le _,λi hi=>absurd hi (Nat.not_lt_zero _)⟩
 |succ n ih=>
  refine⟨ih.len,ih.ord,λi hi=>?_⟩;show FitT (ops i) (upd' _ n _ i)/\OkT NS (ops i) (upd' _ n _ i)
  by_cases e:i=n
  · subst e;rw[upd'_same];exact⟨fit_setl (fit_rt0 _),ok_settle hN _ _ (ok_rt0 _)⟩
  · rw[upd'_ne _ _ e];exact ih.thr i (by omega)
theorem goR_eq{i:Nat}{r:RS}{op:OpX}(hop:(ops i)[(r.T i).at']?=some op):goR NS ops i r=((stepR NS op r.C (r.T i)).1,setlR (ops i) (stepR NS op r.C (r.T i)).2):=by
 unfold goR;rw[hop]
theorem inv_turn(hN:0<NS){n i:Nat}{r:RS}(h:InvR NS n ops most r)(hi:i<n)(hpc:(r.T i).pc≠0)(hlt:r.ord.length<most):InvR NS n ops most (turnR i (goR NS ops i r) r (r.ord++[i])):=by
 obtain⟨hf,hk⟩:=h.thr i hi;obtain⟨op,hop,-⟩:=hk.stand hpc;rw[goR_eq hop];refine⟨by show(stepR NS op r.C (r.T i)).1.length=NS;rw[stepR_len];exact h.len,by show(r.ord++[i]).length<=most;rw[List.length_append];exact hlt,λj hj=>?_⟩;show FitT (ops j) (upd' _ i _ j)/\OkT NS (ops j) (upd' _ i _ j)
 by_cases e:j=i
 · subst e;rw[upd'_same];exact⟨fit_setl (fit_step hf hop),ok_settle hN _ _ (ok_step hN hk hpc hop)⟩
 · rw[upd'_ne _ _ e];exact h.thr j hj
theorem step1R_go{x:Int}{r:RS}(h0:0<=x)(h1:x<N)(hp:(r.T x.toNat).pc≠0)(hm:r.ord.length<most):step1R NS ops N most x r=turnR x.toNat (goR NS ops x.toNat r) r (r.ord++[x.toNat]):=by
 unfold step1R;rw[if_neg];rintro(h|h|h|h)
 · omega
 · omega
 · exact hp h
 · omega
theorem step1R_skip{x:Int}{r:RS}(h:x<0\/(N:Int)<=x\/(r.T x.toNat).pc=0\/r.ord.length=most):step1R NS ops N most x r=r:=by
 unfold step1R;rw[if_pos h]
theorem step1R_ord(x:Int)(r:RS):step1R NS ops N most x r=r\/(step1R NS ops N most x r).ord.length=r.ord.length+1:=by
 unfold step1R;split
 · exact .inl rfl
 · refine .inr ?_;show(r.ord++[x.toNat]).length=_;rw[List.length_append];rfl
theorem stepsR_ord:∀(l:List Int)(r:RS),r.ord.length<=(stepsR' NS ops N most l r).ord.length:=by
 intro l
 induction l with
 |nil=>exact λ_=>Nat.le_refl _
 |cons x l ih=>
  intro r;refine Nat.le_trans ?_ (ih (step1R NS ops N most x r));rcases step1R_ord (NS:=NS) (ops:=ops) (N:=N) (most:=most) x r with h|h
  · rw[h];exact Nat.le_refl _
  · omega
theorem stepsR_still:∀(l:List Int)(r:RS),(stepsR' NS ops N most l r).ord.length=r.ord.length->∀x∈l,step1R NS ops N most x r=r:=by
 intro l
 induction l with
 |nil=>intro r _ x hx;cases hx
 |cons y l ih=>
  intro r h x hx;have h':(stepsR' NS ops N most l (step1R NS ops N most y r)).ord.length=r.ord.length:=h;rcases step1R_ord (NS:=NS) (ops:=ops) (N:=N) (most:=most) y r with e|e
  · rw[e]at h';rcases List.mem_cons.1 hx with rfl |hx
    · exact e
    · exact ih r h' x hx
  · have:=stepsR_ord (NS:=NS) (ops:=ops) (N:=N) (most:=most) l (step1R NS ops N most y r);omega
theorem leftN_some{ov:Nat->Bool}{n:Nat}(h:0<leftN ov n):∃i,i<n/\ov i=false:=by
 induction n with
 |zero=>unfold leftN at h;omega
 |succ n ih=>
  unfold leftN at h
  by_cases e:ov n=false
  · exact⟨n,Nat.lt_succ_self _,e⟩
  · rw[if_pos (by simpa using e)]at h;obtain⟨i,hi,hv⟩:=ih (by omega);exact⟨i,by omega,hv⟩
theorem round_grows{r:RS}(hl:0<leftN (ovR r) N)(hm:r.ord.length<most):r.ord.length<(stepsR' NS ops N most (upto N) r).ord.length:=by
 rcases Nat.lt_or_ge r.ord.length (stepsR' NS ops N most (upto N) r).ord.length with h|h
 · exact h
 · exfalso;have e:=Nat.le_antisymm h (stepsR_ord (upto N) r);obtain⟨i,hi,hv⟩:=leftN_some hl;have hs:=stepsR_still (upto N) r e (i:Int) (List.mem_map.2 ⟨i,List.mem_range.2 hi,rfl⟩);have hp:(r.T i).pc≠0:=by unfold ovR at hv;simpa using hv
   rw[step1R_go (by omega) (by omega) hp hm]at hs;have:(r.ord++[(i:Int).toNat]).length=r.ord.length:=congrArg (λr=>r.ord.length) hs;rw[List.length_append]at this;simp at this
theorem upto_get{N j:Nat}(h:j<N):(upto N)[j]?=some (j:Int):=by
 unfold upto;rw[List.getElem?_map,List.getElem?_range h];rfl
theorem upto_len(N:Nat):(upto N).length=N:=by unfold upto;simp
end
set_option maxHeartbeats 4000000
set_option maxRecDepth 100000
structure RunIn(B:Nat)(w:World)(pp:Option Addr)(np N:Nat)(sp:Nat->Option Addr)(L Cp:Nat->Nat)(opv:Nat->Value)(ops:Nat->List OpX):Prop where
 eq:N=min np 64
 le:np<=4611686018427387904
 at':0<np->∃tb to',pp=some ⟨tb,to',none⟩/\tb<B/\∀i,i<N->w.cell? ⟨tb,to'+i,none⟩=some (.slice (sp i) (L i) (Cp i))
 row:∀i,i<N->L i<=Cp i/\L i<=4611686018427387904/\(0<L i->∃g o,sp i=some ⟨g,o,none⟩)
 len:∀i,i<N->(ops i).length=min (L i) 65536
 val:∀i,i<N->opv i=.slice (sp i) (min (L i) 65536) (Cp i)
 ops:∀i,i<N->OpsB B w (opv i) (ops i)
section
variable {mb B n:Nat} {opv:Nat->Value} {C:List Int} {T:Nat->RT} {cv tv:Value} {av sv:Nat->Value} {w w':World}
end
end Go.Proofs
set_option maxHeartbeats 1000000
namespace Go.Car
open Go Go.Conc Go.RowKit
theorem upd'_row{α:Type}(hv:Nat->α)(N i:Nat)(x:α):((List.range N).map hv).toArray.setIfInBounds i x=((List.range N).map (upd' hv i x)).toArray:=by
 apply Array.ext_getElem?;intro j;simp only[al_gs,al_gl,List.getElem?_map,List.size_toArray,List.length_map,List.length_range]
 by_cases e:i=j
 · subst e
   by_cases h:i<N
   · simp[h]
   · simp[h]
 · rw[if_neg e]
   by_cases h:j<N
   · simp[h,upd'_ne hv x (λe'=>e e'.symm)]
   · simp[h]
section
variable {P:Program} {M1 S1:Type} {C:Core M1 S1} {T:AnsT} {ab N i:Nat} {ro:Nat->Option Obj} {m:BM (M1×AnsM)} {wc:World}
theorem ans_push(hB:BRep (prodCore C (ansCore T ab N)) ro m wc)(hi:i<N)(t ty:TypeId)(ti:TypeInfo)(z:Value)(ht:P.underlying t=some (.slice T.tA))(hti:P.info? T.tA=some ti)(hz:ti.zero=some z)(hsz:ti.size=3)(hby:ti.bytes=40)(hzs:z.cells.size=3)
 {B Y:Nat->Option Obj} {a:Ans} {sl:Value} (hY:RowB Y T.tI 1 sl a.l.length (a.l.map (Value.int .i64))) (hYB:∀b o,Y b=some o->m.box i b=some o) (hBB:∀b o,B b=some o->m.box i b=some o) (hYn:∀b,Y b≠none->B b=none)
 (hlen:(m.l.2.st i).length<=65536) (τ:Nat->Question->Nat) (d:Nat):
 ∃g cap w2 m',(Builtin.append_ #[t,t] ty #[m.l.2.hv i,.slice (some ⟨wc.heap.size,0,none⟩) 1 1]).run P ((Car.re wc τ d).alloc (.cells #[.bool a.ok,.int .i64 a.n,sl] T.tA))=.ok (.slice (some ⟨g,0,none⟩) ((m.l.2.st i).length+1) cap) w2/\
  (∀b,b<wc.heap.size->m.l.2.X i b=none->w2.heap[b]?=wc.heap[b]?)/\m'.st=upd' m.l.2.st i (m.l.2.st i++[a])/\
  ∀τ' d',Moved (prodCore C (ansCore T ab N)) m.l (m.box i) wc (m.l.1,m') B (Car.re (w2.setCell ⟨ab,i,none⟩ (.slice (some ⟨g,0,none⟩) ((m.l.2.st i).length+1) cap)) τ' d'):=by
 have hone:sl.oneCell'=true:=by rcases hY.2 with⟨rfl,_⟩|⟨_,_,_,rfl,_⟩<;>rfl
 have hD:AnsRep T ab N m.l.2 wc:=hB.core.2.1;have hdis:∀b,C.foot m.l.1 b->¬(ansCore T ab N).foot m.l.2 b:=hB.core.2.2;obtain⟨Xr,XL,cs,hr,hL,hX,hd⟩:=hD.row i hi;have hXr:∀b,Xr b≠none->m.l.2.X i b≠none:=λb hb=>by
  rw[hX];cases ho:Xr b with
  |none=>exact absurd ho hb
  |some o=>simp[orB,ho]
 have hfoot:∀b,m.l.2.X i b≠none->(ansCore T ab N).foot m.l.2 b:=λb hb=>.inr ⟨i,hi,hb⟩;have hfr:∀b,Xr b≠none->(ansCore T ab N).foot m.l.2 b:=λb hb=>hfoot b (hXr b hb);have hboxf:∀b,m.box i b≠none->¬(ansCore T ab N).foot m.l.2 b:=λb hb hf=>hB.apart i b hb (.inr hf);have hboxC:∀b,m.box i b≠none->¬C.foot m.l.1 b:=λb hb hf=>hB.apart i b hb (.inl hf);have hYbox:∀b,Y b≠none->m.box i b≠none:=λb hb=>by
  cases ho:Y b with
  |none=>exact absurd ho hb
  |some o=>rw[hYB b o ho];simp
 have hBbox:∀b,B b≠none->m.box i b≠none:=λb hb=>by
  cases ho:B b with
  |none=>exact absurd ho hb
  |some o=>rw[hBB b o ho];simp
 have hlt:∀b,(ansCore T ab N).foot m.l.2 b->b<wc.heap.size:=λb hb=>(ansCore T ab N).lt _ _ _ hD hb;have hltB:∀b,m.box i b≠none->b<wc.heap.size:=λb hb=>hB.own'.lt hb;obtain⟨w1,hw1⟩:∃w1,(Car.re wc τ d).alloc (.cells #[.bool a.ok,.int .i64 a.n,sl] T.tA)=w1:=⟨_,rfl⟩;have hs1:w1.heap.size=wc.heap.size+1:=by rw[←hw1,zq3];rfl
 have hold1:∀b,b<wc.heap.size->w1.heap[b]?=wc.heap[b]?:=λb hb=>by
  rw[←hw1,zq2,if_neg (by show b≠wc.heap.size;omega)];rfl
 have hnew1:w1.heap[wc.heap.size]?=some (.cells #[.bool a.ok,.int .i64 a.n,sl] T.tA):=by
  rw[←hw1,zq2];exact if_pos rfl
 have hrow:w1.ownsRow 0 T.tA 3 (m.l.2.hv i) (m.l.2.st i).length cs:=hr.own λb o hb=>by
  have hx:m.l.2.X i b=some o:=by rw[hX];simp[orB,hb]
  have hh:=hD.blk i b o hi hx;rw[hold1 b (heap_lt hh)];exact hh
 obtain⟨g,cap,w2,hrun,hown,hg,hat,hlt2⟩:=run_append_lies (P:=P) w1 t ty 0 T.tA ti z 3 40 ht hti hz hsz hby hzs (by decide) (m.l.2.hv i) (m.l.2.st i).length cs hrow ⟨wc.heap.size,0,none⟩ 1 1 [.bool a.ok,.int .i64 a.n,sl] (by simp) (World.news_of_block hnew1) (λu hu=>by simp only[List.mem_cons,List.not_mem_nil,or_false]at hu;exact hu.elim (λe=>by rw[e];rfl) (λh=>h.elim (λe=>by rw[e];rfl) (λe=>by rw[e];exact hone))) (by decide) (by simp only[maxLen];omega) (by omega) (Nat.zero_le _) _ rfl;have hold2:∀b,b<wc.heap.size->Xr b=none->w2.heap[b]?=wc.heap[b]?:=λb hb hx=>by
  rw[hg.block b (by omega) (λe=>(hr.block b).2 e.symm hx)];exact hold1 b hb
 have hs2:wc.heap.size<=w2.heap.size:=by have:=hg.size;omega
 obtain⟨hl,h2⟩:=hown;rcases h2 with⟨e,_⟩|⟨g',cap',cur,e,_,hh,c1,c2,c3,c4⟩
 · cases e
 cases e;have hgx:Xr g≠none\/wc.heap.size<g:=hat.imp (λe=>(hr.block g).2 e) (λe=>by omega);have hgab:g≠ab:=λe=>by
  subst e;rcases hgx with x|x
  · exact hXr _ x (hD.nab i hi)
  · have:=hlt g (.inl rfl);omega
 have hgfoot:(ansCore T ab N).foot m.l.2 g\/wc.heap.size<=g:=hgx.imp (hfr g) (λx=>Nat.le_of_lt x)
 let X':Nat->Option Obj:=λb=>if b=g then some (.cells cur T.tA (0,0))else none
 have hX'g:X' g=some (.cells cur T.tA (0,0)):=by simp[X']
 have hX'n:∀b,b≠g->X' b=none:=λb hb=>by simp[X',hb]
 have hX':∀b,X' b≠none->b=g:=λb hb=>Classical.byContradiction λe=>hb (hX'n b e);have hXL:∀b,XL b≠none->m.l.2.X i b≠none/\Xr b=none:=λb hb=>by
  have hx:Xr b=none:=Classical.byContradiction λx=>hb (hd b x);refine⟨?_,hx⟩;rw[hX];simp[orB,hx];exact hb
 have hYXL:∀b,Y b≠none->XL b=none:=λb hb=>Classical.byContradiction λx=>hboxf b (hYbox b hb) (hfoot b (hXL b x).1);have hYg:∀b,Y b≠none->b≠g:=λb hb e=>by
  subst e;exact hgfoot.elim (hboxf b (hYbox b hb)) (λx=>by have:=hltB b (hYbox b hb);omega)
 have hXLg:∀b,XL b≠none->b≠g:=λb hb e=>by
  subst e;rcases hgx with x|x
  · exact x (hXL b hb).2
  · have:=hlt b (hfoot b (hXL b hb).1);omega
 have hgn:orB Y XL g=none:=by
  have h1:Y g=none:=Classical.byContradiction λx=>hYg g x rfl;have h2:XL g=none:=Classical.byContradiction λx=>hXLg g x rfl;simp[orB,h1,h2]
 have hnewX:∀b,orB X' (orB Y XL) b≠none->b=g\/Y b≠none\/XL b≠none:=λb hb=>by
  by_cases e:b=g
  · exact .inl e
  · right
    by_cases hy:Y b=none
    · right
      simpa[orB,hX'n b e,hy]using hb
    · exact .inl hy
 have hrowN:AnsR T.tA T.tI (orB X' (orB Y XL)) (.slice (some ⟨g,0,none⟩) ((m.l.2.st i).length+1) cap) (m.l.2.st i++[a]):=
  AnsR.push (Xr:=Xr) hL ⟨sl,rfl,hY⟩ hYXL ⟨hl,.inr ⟨g,cap,cur,rfl,rfl,c1,c2,c3,c4⟩⟩ λb hb=>by rw[hX' b hb];exact hgn
 refine⟨g,cap,w2,⟨upd' m.l.2.hv i (.slice (some ⟨g,0,none⟩) ((m.l.2.st i).length+1) cap),upd' m.l.2.X i (orB X' (orB Y XL)),upd' m.l.2.st i (m.l.2.st i++[a])⟩,by rw[hw1];exact hrun,λb hb hx=>hold2 b hb (Classical.byContradiction λx=>hXr b x hx),rfl,λτ' d'=>?_⟩;have hw3:∀b,b≠ab->(Car.re (w2.setCell ⟨ab,i,none⟩ (.slice (some ⟨g,0,none⟩) ((m.l.2.st i).length+1) cap)) τ' d').heap[b]?=w2.heap[b]?:=λb hb=>hp_set_ne _ _ _ _ hb;have habX:Xr ab=none:=Classical.byContradiction λx=>hXr ab x (hD.nab i hi);have hab2:w2.heap[ab]?=some (.cells ((List.range N).map m.l.2.hv).toArray T.tAs):=(hold2 ab (hlt ab (.inl rfl)) habX).trans hD.hd;have hY2:∀b,Y b≠none->Xr b=none:=λb hb=>Classical.byContradiction λx=>hboxf b (hYbox b hb) (hfr b x);have hkeepF:∀b,¬(ansCore T ab N).foot m.l.2 b->b<wc.heap.size->(Car.re (w2.setCell ⟨ab,i,none⟩ (.slice (some ⟨g,0,none⟩) ((m.l.2.st i).length+1) cap)) τ' d').heap[b]?=wc.heap[b]?:=λb hf hb=>by
  rw[hw3 b (λe=>hf (.inl e))];exact hold2 b hb (Classical.byContradiction λx=>hf (hfr b x))
 have hAns:AnsRep T ab N ⟨upd' m.l.2.hv i (.slice (some ⟨g,0,none⟩) ((m.l.2.st i).length+1) cap),upd' m.l.2.X i (orB X' (orB Y XL)),upd' m.l.2.st i (m.l.2.st i++[a])⟩ (Car.re (w2.setCell ⟨ab,i,none⟩ (.slice (some ⟨g,0,none⟩) ((m.l.2.st i).length+1) cap)) τ' d'):=by
  refine⟨?_,λj hj=>?_,λj b o hj hb=>?_,λj hj=>?_,λj k b hj hk hne hb=>?_⟩
  · refine(hp_set_same _ _ _ _ hab2).trans ?_;rw[upd'_row]
  · by_cases e:j=i
    · subst e;simp only[upd'_same];exact hrowN
    · simp only[upd'_ne _ _ e];exact hD.row j hj
  · by_cases e:j=i
    · subst e;simp only[upd'_same]at hb;rcases hnewX b (by rw[hb];simp)with e|hy|hx
      · subst e;rw[hw3 b hgab];have:orB X' (orB Y XL) b=some (.cells cur T.tA (0,0)):=by simp[orB,hX'g]
        rw[this]at hb;cases hb;exact hh
      · have hby:Y b=some o:=by
         have h1:=hX'n b (hYg b hy);cases ho:Y b with
         |none=>exact absurd ho hy
         |some o'=>simp[orB,h1,ho]at hb;rw[hb]
        rw[hkeepF b (hboxf b (hYbox b hy)) (hltB b (hYbox b hy))];exact hB.box j b o (hYB b o hby)
      · have hbx:XL b=some o:=by
         have h1:=hX'n b (hXLg b hx);have h2:Y b=none:=Classical.byContradiction λy=>hx (hYXL b y);simpa[orB,h1,h2]using hb
        have hx2:=hXL b hx;have hxb:m.l.2.X j b=some o:=by rw[hX];simp[orB,hx2.2,hbx]
        rw[hw3 b (λe=>by subst e;exact hx2.1 (hD.nab j hj)),hold2 b (hlt b (hfoot b hx2.1)) hx2.2];exact hD.blk j b o hj hxb
    · simp only[upd'_ne _ _ e]at hb;have hn:m.l.2.X j b≠none:=by rw[hb];simp
      rw[hw3 b (λe'=>by subst e';exact hn (hD.nab j hj)),hold2 b (hlt b (.inr ⟨j,hj,hn⟩)) (Classical.byContradiction λx=>hXr b x (hD.sep j i b hj hi e hn))];exact hD.blk j b o hj hb
  · by_cases e:j=i
    · subst e;simp only[upd'_same];refine Classical.byContradiction λx=>?_;rcases hnewX ab x with e|hy|hx
      · exact hgab e.symm
      · exact hboxf ab (hYbox ab hy) (.inl rfl)
      · exact(hXL ab hx).1 (hD.nab j hj)
    · simp only[upd'_ne _ _ e];exact hD.nab j hj
  ·
   have key:∀x b,x<N->x≠i->m.l.2.X x b≠none->orB X' (orB Y XL) b=none:=λx b0 hx0 hne0 hb0=>by
    refine Classical.byContradiction λx1=>?_;have hf:(ansCore T ab N).foot m.l.2 b0:=.inr ⟨x,hx0,hb0⟩;rcases hnewX b0 x1 with e|hy|hx
    · rw[e]at hb0 hf;rcases hgx with y|y
      · exact hXr g y (hD.sep x i g hx0 hi hne0 hb0)
      · have:=hlt g hf;omega
    · exact hboxf b0 (hYbox b0 hy) hf
    · exact(hXL b0 hx).1 (hD.sep x i b0 hx0 hi hne0 hb0)
   by_cases e:j=i
   · subst e;simp only[upd'_same]at hb;simp only[upd'_ne _ _ (λe=>hne e.symm)];exact Classical.byContradiction λx=>hb (key k b hk (λe=>hne e.symm) x)
   · simp only[upd'_ne _ _ e]at hb
     by_cases e2:k=i
     · subst e2;simp only[upd'_same];exact key j b hj e hb
     · simp only[upd'_ne _ _ e2];exact hD.sep j k b hj hk hne hb
 have hnf:∀b,(ansCore T ab N).foot ⟨upd' m.l.2.hv i (.slice (some ⟨g,0,none⟩) ((m.l.2.st i).length+1) cap),upd' m.l.2.X i (orB X' (orB Y XL)),upd' m.l.2.st i (m.l.2.st i++[a])⟩ b->(ansCore T ab N).foot m.l.2 b\/Y b≠none\/wc.heap.size<=b:=by
  rintro b (e|⟨j,hj,hb⟩)
  · exact .inl (.inl e)
  · by_cases e:j=i
    · subst e;have hb2:orB X' (orB Y XL) b≠none:=λh=>hb (by show upd' m.l.2.X j _ j b=none;rw[upd'_same];exact h);rcases hnewX b hb2 with e|hy|hx
      · subst e;exact hgfoot.imp id .inr
      · exact .inr (.inl hy)
      · exact .inl (hfoot b (hXL b hx).1)
    · have hb2:m.l.2.X j b≠none:=λh=>hb (by show upd' m.l.2.X i _ j b=none;rw[upd'_ne _ _ e];exact h);exact .inl (.inr ⟨j,hj,hb2⟩)
 refine⟨?_,λb hb hf hn=>hkeepF b (λx=>hf (.inr x)) hb,⟨C.frame _ _ _ hB.core.1 λb hb=>hkeepF b (hdis b hb) (C.lt _ _ _ hB.core.1 hb),hAns,λb hb hf=>?_⟩,λb o hb=>?_,λb hb=>?_,λb hb=>.inl (hBbox b hb),λb hb=>?_,rfl⟩
 · show wc.heap.size<=(w2.setCell _ _).heap.size;rw[hp_size_set];exact hs2
 · rcases hnf b hf with x|x|x
   · exact hdis b hb x
   · exact hboxC b (hYbox b x) hb
   · exact absurd (C.lt _ _ _ hB.core.1 hb) (Nat.not_lt_of_le x)
 · have hbx:=hBB b o hb;have hn:m.box i b≠none:=by rw[hbx];simp
   rw[hkeepF b (hboxf b hn) (hltB b hn)];exact hB.box i b o hbx
 · rcases hb with hb|hb
   · exact .inl (.inl hb)
   · rcases hnf b hb with x|x|x
     · exact .inl (.inr x)
     · exact .inr (.inl (hYbox b x))
     · exact .inr (.inr x)
 · refine Classical.byContradiction λx=>?_;have hbx:=hBbox b x;rcases hb with hb|hb
   · exact hboxC b hbx hb
   · rcases hnf b hb with y|y|y
     · exact hboxf b hbx y
     · exact x (hYn b y)
     · have:=hltB b hbx;omega
end
end Go.Car
