/- YtmgmbciplfkddaaESaf16: part 6 of the proof (the texts behind it, in order). -/
import Derived.Test.YtmgmbciplfkddaaS05
set_option maxHeartbeats 4000000
set_option maxRecDepth 100000
set_option linter.all false
namespace Go.Proofs
open Go Go.Conc Go.RowKit Go.Car
open Go.ConcN (upd upd_ne upd_same)
section
variable {M:Type}
theorem Cf.move {T:Thr M}{A:OA}{Kc:Addr->Option Value}{E E':Nat->Option Obj}{k s:Nat}{ov brk:Nat->Bool}{m:M}{inb inb':Nat->Option Seat}{w w':World}(h:Cf T A Kc E k s ov brk m inb w)
 (hsz:w.heap.size<=w'.heap.size) (D:Nat->Prop) (hD:∀b,D b->∃o,E b=some o) (hold:∀b,b<w.heap.size->¬D b->w'.heap[b]?=w.heap[b]?) (hE:∀b o,E' b=some o->w'.heap[b]?=some o) (hE2:∀b o,E' b=some o->(∃o',E b=some o')\/w.heap.size<=b)
 (hinb:∀j,j≠0->inb' j=inb j) (hn0:0<A.n0):Cf T A Kc E' k s ov brk m inb' w':=by
 have nd:∀b,b<w.heap.size->A.own b->w'.heap[b]?=w.heap[b]?:=λb hb ho=>hold b hb λhd=>by obtain⟨o,ho'⟩:=hD b hd;exact(h.extfree b o ho').1 ho
 have nb:∀j b,j<s->A.box j b->w'.heap[b]?=w.heap[b]?:=λj b hj hb=>hold b (h.boxlt j b hj hb) λhd=>by obtain⟨o,ho'⟩:=hD b hd;exact(h.extfree b o ho').2.2 j hj hb
 refine⟨h.ow.of_same λb hb=>nd b (h.ow.own_lt hb) hb,T.frame _ _ _ h.rep λb hb=>hold b (T.lt _ _ _ h.rep hb) λhd=>by obtain⟨o,ho'⟩:=hD b hd;exact(h.extfree b o ho').2.1 hb,h.free,h.le,λj hj ho=>?_,h.above,h.boxes,h.boxfree,λj b hj hb=>Nat.lt_of_lt_of_le (h.boxlt j b hj hb) hsz,λj hj ho=>?_,λj hj hall=>?_,hE,λb o hb=>?_,h.lft⟩
 . exact(h.run j hj ho).of_same (nb j _ hj (.inl rfl)) (nb j _ hj (.inr (.inl rfl))) (nb j _ hj (.inr (.inr rfl)))
 . obtain⟨c,cs,h1,h2⟩:=h.seat j hj ho;exact⟨c,cs,by rw[hinb _ (by omega)];exact h1,h2⟩
 . rw[hinb _ hj];exact h.gone j hj hall
 . rcases hE2 b o hb with⟨o',ho'⟩|hlt
   . exact h.extfree b o' ho'
   . refine⟨λho=>?_,λhf=>?_,λj hj hx=>?_⟩
     . have:=h.ow.own_lt ho;omega
     . have:=T.lt _ _ _ h.rep hf;omega
     . have:=h.boxlt j b hj hx;omega
structure Bx where
 bN:Nat
 bM:Nat
 bO:Nat
 bL:Nat
 B0:Nat
structure Bx.Ok (B:Bx):Prop where
 ge:B.B0<=B.bN/\B.B0<=B.bM/\B.B0<=B.bO/\B.B0<=B.bL
 ne:B.bN≠B.bM/\B.bN≠B.bO/\B.bN≠B.bL/\B.bM≠B.bO/\B.bM≠B.bL/\B.bO≠B.bL
structure Inv(T:Thr M)(A:OA)(B:Bx)(Kc:Addr->Option Value)(w₀:World)(m₀:M)(most s:Nat)(E:Nat->Option Obj)(k:Nat)(a:OSt M)(left:Nat)(v:Value)(inb:Nat->Option Seat)(w:World):Prop where
 ok:A.Ok
 bok:B.Ok
 kept:Kept A Kc
 cf:Cf T A Kc E k s a.ov a.brk a.m inb w
 eN:E B.bN=some (.cells #[.int .i64 A.N] 3)
 eM:E B.bM=some (.cells #[.int .i64 most] 3)
 eO:E B.bO=some (.cells #[v] 24)
 eL:E B.bL=some (.cells #[.int .i64 left] 3)
 own:∀b,A.own b->B.B0<=b
 row:w.ownsRow B.B0 3 1 v a.ord.length (a.ord.map λ(i:Nat)=>.int .i64 i)
 erow:∀g,v.ownBlock=some g->E g=w.heap[g]?/\g≠B.bN/\g≠B.bM/\g≠B.bO/\g≠B.bL
 old:∀b,b<B.B0->¬T.foot m₀ b->E b=w₀.heap[b]?
 len:a.ord.length<=most
 most:most<=1048576
 N:A.N<=64
 base:B.B0<=w.heap.size
 lft:left<=64
theorem Inv.cell {T:Thr M}{A:OA}{B:Bx}{Kc:Addr->Option Value}{w₀:World}{m₀:M}{most s:Nat}{E:Nat->Option Obj}{k:Nat}{a:OSt M}{left:Nat}{v:Value}{inb:Nat->Option Seat}{w:World}(h:Inv T A B Kc w₀ m₀ most s E k a left v inb w){b:Nat}{x:Value}{t:TypeId}(hb:E b=some (.cells #[x] t)):
 w.cell? ⟨b,0,none⟩=some x/\w.frozen? ⟨b,0,none⟩=false/\Kc ⟨b,0,none⟩=none/\w.heap[b]?=some (.cells #[x] t):=by
 have h1:=h.cf.ext b _ hb;refine⟨(zq1 h1).trans rfl,zqh h1,?_,h1⟩;cases hk:Kc ⟨b,0,none⟩with
 |none=>rfl
 |some u=>exact absurd (h.kept.own _ u hk) (h.cf.extfree b _ hb).1
theorem Inv.slice {T:Thr M}{A:OA}{B:Bx}{Kc:Addr->Option Value}{w₀:World}{m₀:M}{most s:Nat}{E:Nat->Option Obj}{k:Nat}{a:OSt M}{left:Nat}{v:Value}{inb:Nat->Option Seat}{w:World}(h:Inv T A B Kc w₀ m₀ most s E k a left v inb w):
 ∃p cap,v=.slice p a.ord.length cap:=by
 rcases h.row.2 with⟨hv,hn⟩|⟨g,cap,cur,hv,_⟩
 . exact⟨none,0,by rw[hn];exact hv⟩
 . exact⟨_,cap,hv⟩
theorem zq3d{E:Nat->Option Obj}{b x:Nat}{o o':Obj}(h:upd E b (some o) x=some o'):(x=b/\o'=o)\/(x≠b/\E x=some o'):=by
 by_cases e:x=b
 . subst e;rw[upd_same]at h;exact .inl ⟨rfl,(Option.some.inj h).symm⟩
 . rw[upd_ne _ _ e]at h;exact .inr ⟨e,h⟩
theorem Inv.setL {T:Thr M}{A:OA}{B:Bx}{Kc:Addr->Option Value}{w₀:World}{m₀:M}{most s:Nat}{E:Nat->Option Obj}{k:Nat}{a:OSt M}{left:Nat}{v:Value}{inb:Nat->Option Seat}{w:World}(h:Inv T A B Kc w₀ m₀ most s E k a left v inb w)(left':Nat)(hl:left'<=64):
 Inv T A B Kc w₀ m₀ most s (upd E B.bL (some (.cells #[.int .i64 left'] 3))) k a left' v inb (w.setCell ⟨B.bL,0,none⟩ (.int .i64 left')):=by
 have hne:=h.bok.ne;have hcl:=(h.cell h.eL).2.2.2;have hs:=zqy w B.bL 0 (.int .i64 left') hcl;have hsn:∀b,b≠B.bL->(w.setCell ⟨B.bL,0,none⟩ (.int .i64 left')).heap[b]?=w.heap[b]?:=λb hb=>zql _ _ _ _ hb;have hsz:(w.setCell ⟨B.bL,0,none⟩ (.int .i64 left')).heap.size=w.heap.size:=zqz _ _ _;refine⟨h.ok,h.bok,h.kept,?_,by rw[upd_ne _ _ hne.2.2.1];exact h.eN,by rw[upd_ne _ _ hne.2.2.2.2.1];exact h.eM,by rw[upd_ne _ _ hne.2.2.2.2.2];exact h.eO,upd_same _ _ _,h.own,?_,λg hg=>?_,λb hb hf=>?_,h.len,h.most,h.N,by rw[hsz];exact h.base,hl⟩
 . refine h.cf.move (by rw[hsz];exact Nat.le_refl _) (λb=>b=B.bL) (λb hb=>by subst hb;exact⟨_,h.eL⟩) (λb _ hb=>hsn b hb) (λb o hb=>?_) (λb o hb=>?_) (λ_ _=>rfl) h.ok.n0
   . rcases zq3d hb with⟨rfl,rfl⟩|⟨h1,h2⟩
     . exact hs.trans (by rfl)
     . rw[hsn b h1];exact h.cf.ext b o h2
   . rcases zq3d hb with⟨rfl,rfl⟩|⟨h1,h2⟩
     . exact .inl ⟨_,h.eL⟩
     . exact .inl ⟨_,h2⟩
 . refine⟨h.row.1,?_⟩;rcases h.row.2 with hv|⟨g,cap,cur,hv,h1,h2,h3⟩
   . exact .inl hv
   . exact .inr ⟨g,cap,cur,hv,h1,by rw[hsn g ((h.erow g (by rw[hv];rfl)).2.2.2.2)];exact h2,h3⟩
 . obtain⟨h1,h2⟩:=h.erow g hg;exact⟨by rw[upd_ne _ _ h2.2.2.2,hsn g h2.2.2.2];exact h1,h2⟩
 . rw[upd_ne _ _ (by have:=h.bok.ge;omega)];exact h.old b hb hf
theorem Inv.setO {T:Thr M}{A:OA}{B:Bx}{Kc:Addr->Option Value}{w₀:World}{m₀:M}{most s:Nat}{E:Nat->Option Obj}{k:Nat}{a:OSt M}{left:Nat}{v v':Value}{inb:Nat->Option Seat}{w w':World}(h:Inv T A B Kc w₀ m₀ most s E k a left v inb w)(i:Nat)(hlen:a.ord.length+1<=most)
 (hr:w'.ownsRow B.B0 3 1 v' (a.ord.length+1) (a.ord.map (λ(i:Nat)=>(.int .i64 i:Value))++[.int .i64 i])) (hsz:w.heap.size<=w'.heap.size) (hold:∀b,b<w.heap.size->some b≠v.ownBlock->w'.heap[b]?=w.heap[b]?) (hob:v'.ownBlock=v.ownBlock\/∃g,v'.ownBlock=some g/\w.heap.size<=g):
 ∃E',Inv T A B Kc w₀ m₀ most s E' k {a with ord:=a.ord++[i]} left v' inb (w'.setCell ⟨B.bO,0,none⟩ v'):=by
 have hne:=h.bok.ne;have hlO:=zqi (h.cell h.eO).2.2.2;have hgO:some B.bO≠v.ownBlock:=λe=>by have:=(h.erow _ e.symm).2;omega
 have hcl:w'.heap[B.bO]?=some (.cells #[v] 24):=(hold _ hlO hgO).trans (h.cell h.eO).2.2.2;have hs:=zqy w' B.bO 0 v' hcl;have hsn:∀b,b≠B.bO->(w'.setCell ⟨B.bO,0,none⟩ v').heap[b]?=w'.heap[b]?:=λb hb=>zql _ _ _ _ hb;have hsz':(w'.setCell ⟨B.bO,0,none⟩ v').heap.size=w'.heap.size:=zqz _ _ _;obtain⟨g,cap,cur,hv',hg1,hg2,hg3⟩:∃g cap cur,v'=.slice (some ⟨g,0,none⟩) (a.ord.length+1) cap/\B.B0<=g/\w'.heap[g]?=some (.cells cur 3 (0,0))/\_:=by
  rcases hr.2 with⟨_,hn⟩|hx
  . exact absurd hn (Nat.succ_ne_zero _)
  . exact hx
 have hog:v'.ownBlock=some g:=by rw[hv'];rfl
 have hgE:(∃o,E g=some o)\/w.heap.size<=g:=by
  rcases hob with hob|⟨g',hob,hlt⟩
  . rw[hog]at hob;have h1:=(h.erow g hob.symm).1;cases hw:w.heap[g]? with
    |some o=>exact .inl ⟨o,h1.trans hw⟩
    |none=>
     rcases h.row.2 with⟨hv,_⟩|⟨g2,cap2,cur2,hv,_,hh,_⟩
     . rw[hv]at hob;cases hob
     . rw[hv]at hob;simp only[Value.ownBlock,al_oi]at hob;subst hob;rw[hw]at hh;cases hh
  . rw[hog]at hob;cases hob;exact .inr hlt
 have hgne:g≠B.bN/\g≠B.bM/\g≠B.bO/\g≠B.bL:=by
  rcases hob with hob|⟨g',hob,hlt⟩
  . rw[hog]at hob;exact(h.erow g hob.symm).2
  . rw[hog]at hob;cases hob;have:=zqi (h.cell h.eN).2.2.2;have:=zqi (h.cell h.eM).2.2.2;have:=zqi (h.cell h.eL).2.2.2;omega
 let E₁:Nat->Option Obj:=λb=>if some b=v.ownBlock then none else E b
 have hE₁:∀b,some b≠v.ownBlock->E₁ b=E b:=λb hb=>if_neg hb;have hE₁':∀b o,E₁ b=some o->some b≠v.ownBlock/\E b=some o:=λb o hb=>by
  by_cases e:some b=v.ownBlock
  . simp only[E₁,if_pos e]at hb;cases hb
  . exact⟨e,by rw[<-hE₁ b e];exact hb⟩
 have nb:∀b,(b=B.bN\/b=B.bM\/b=B.bO\/b=B.bL)->some b≠v.ownBlock:=λb hb e=>by have:=(h.erow b e.symm).2;omega
 refine⟨upd (upd E₁ g (some (.cells cur 3))) B.bO (some (.cells #[v'] 24)),h.ok,h.bok,h.kept,?_,?_,?_,upd_same _ _ _,?_,h.own,?_,λg' hg'=>?_,λb hb hf=>?_,?_,h.most,h.N,by rw[hsz'];exact Nat.le_trans h.base hsz,h.lft⟩
 . refine h.cf.move (by rw[hsz'];exact hsz) (λb=>b=B.bO\/some b=v.ownBlock) (λb hb=>?_) (λb hlt hb=>?_) (λb o hb=>?_) (λb o hb=>?_) (λ_ _=>rfl) h.ok.n0
   . rcases hb with rfl |hb
     . exact⟨_,h.eO⟩
     . have h1:=(h.erow b hb.symm).1;rcases h.row.2 with⟨hv,_⟩|⟨g2,cap2,cur2,hv,_,hh,_⟩
       . rw[hv]at hb;cases hb
       . rw[hv]at hb;simp only[Value.ownBlock,al_oi]at hb;subst hb;exact⟨_,h1.trans hh⟩
   . rw[hsn b (λe=>hb (.inl e)),hold b hlt (λe=>hb (.inr e))]
   . rcases zq3d hb with⟨rfl,rfl⟩|⟨h1,h2⟩
     . exact hs.trans (by rfl)
     . rcases zq3d h2 with⟨rfl,rfl⟩|⟨h3,h4⟩
       . rw[hsn b h1];exact hg2
       . obtain⟨h5,h6⟩:=hE₁' b o h4;have h7:=h.cf.ext b o h6;rw[hsn b h1,hold b (zqi h7) h5];exact h7
   . rcases zq3d hb with⟨rfl,rfl⟩|⟨h1,h2⟩
     . exact .inl ⟨_,h.eO⟩
     . rcases zq3d h2 with⟨rfl,rfl⟩|⟨h3,h4⟩
       . exact hgE
       . exact .inl ⟨_,(hE₁' b o h4).2⟩
 . rw[upd_ne _ _ hne.2.1,upd_ne _ _ hgne.1.symm,hE₁ _ (nb _ (.inl rfl))];exact h.eN
 . rw[upd_ne _ _ hne.2.2.2.1,upd_ne _ _ hgne.2.1.symm,hE₁ _ (nb _ (.inr (.inl rfl)))];exact h.eM
 . rw[upd_ne _ _ hne.2.2.2.2.2.symm,upd_ne _ _ hgne.2.2.2.symm,hE₁ _ (nb _ (.inr (.inr (.inr rfl))))];exact h.eL
 . have hl:(a.ord++[i]).length=a.ord.length+1:=by simp
   show World.ownsRow _ _ _ _ _ (a.ord++[i]).length _;rw[hl,List.map_append];refine⟨hr.1,.inr ⟨g,cap,cur,hv',hg1,by rw[hsn g hgne.2.2.1];exact hg2,hg3⟩⟩
 . rw[hog]at hg';cases hg';exact⟨by rw[upd_ne _ _ hgne.2.2.1,upd_same,hsn g hgne.2.2.1];exact hg2.symm,hgne⟩
 . have:=h.bok.ge;have hbn:some b≠v.ownBlock:=λe=>by
    rcases h.row.2 with⟨hv,_⟩|⟨g2,cap2,cur2,hv,hge,_⟩
    . rw[hv]at e;cases e
    . rw[hv]at e;simp only[Value.ownBlock,al_oi]at e;omega
   rw[upd_ne _ _ (by omega),upd_ne _ _ (by omega),hE₁ _ hbn];exact h.old b hb hf
 . simp;omega
end
structure HeadW(A:OA)(B:Bx)(most n:Nat)(ov:Nat->Bool)(p:Option Addr)(cap:Nat)(w:World):Prop where
 cN:w.cell? ⟨B.bN,0,none⟩=some (.int .i64 A.N)
 cX:w.cell? ⟨A.bX,0,none⟩=some (.pointer (some ⟨A.bT,0,none⟩))
 cS:0<A.N->w.cell? ⟨A.bT,1,none⟩=some (.slice (some ⟨A.bS,0,none⟩) A.N A.cap)
 cs:∀i:Nat,i<A.N->w.cell? ⟨A.bS,i,none⟩=some (.pointer (some ⟨A.st i,0,none⟩))
 cv:∀i:Nat,i<A.N->w.cell? ⟨A.st i,2,none⟩=some (.bool (ov i))
 cO:w.cell? ⟨B.bO,0,none⟩=some (.slice p n cap)
 cM:w.cell? ⟨B.bM,0,none⟩=some (.int .i64 most)
def noStep(A:OA)(most n:Nat)(ov:Nat->Bool)(x:Int):Prop:=x<0\/(A.N:Int)<=x\/ov x.toNat=true\/n=most
noncomputable def zq53:Code:=match Try.f61.body with|some (.seq _ c)=>c|_=>.skip
theorem zqhe{Kc:Addr->Option Value}{J:Goroutine->World->Prop}(hJ:JM Try.prog Kc J){A:OA}{B:Bx}{most n cap:Nat}{ov:Nat->Bool}{p:Option Addr}{w:World}(h:HeadW A B most n ov p cap w){x:Int}{c:Frame}{cs:List Frame}
 (hno:noStep A most n ov x->J (G (c.finish (.tuple #[])) cs) w)
 (hgo:¬noStep A most n ov x->∀T:Array Value,T.size=51->T[0]?=some (.int .i64 x)->T[2]?=some (.pointer (some ⟨A.bX,0,none⟩))->T[3]?=some (.pointer (some ⟨B.bO,0,none⟩))->T[5]?=some (.pointer (some ⟨B.bL,0,none⟩))->
  J (G ((bN 61).at ⟨T,[]⟩ [.code zq53]) (c::cs)) w):
 J (G (Frame.enter Try.prog 61 #[.int .i64 x,.pointer (some ⟨B.bN,0,none⟩),.pointer (some ⟨A.bX,0,none⟩),.pointer (some ⟨B.bO,0,none⟩),.pointer (some ⟨B.bM,0,none⟩),.pointer (some ⟨B.bL,0,none⟩)] .normal) (c::cs)) w:=by
 have e:Frame.enter Try.prog 61 #[.int .i64 x,.pointer (some ⟨B.bN,0,none⟩),.pointer (some ⟨A.bX,0,none⟩),.pointer (some ⟨B.bO,0,none⟩),.pointer (some ⟨B.bM,0,none⟩),.pointer (some ⟨B.bL,0,none⟩)] .normal=
  (bN 61).at (zqm Try.f61 #[.int .i64 x,.pointer (some ⟨B.bN,0,none⟩),.pointer (some ⟨A.bX,0,none⟩),.pointer (some ⟨B.bO,0,none⟩),.pointer (some ⟨B.bM,0,none⟩),.pointer (some ⟨B.bL,0,none⟩)]) [.code ((Try.f61.body).getD .skip)]:=rfl
 rw[e];obtain⟨h1,h2,h3,h4,h5,h6,h7⟩:=h;have hret:∀(T:Array Value)(todo:List Item),J (G (c.finish (.tuple #[])) cs) w->J (G {(bN 61).at ⟨T,[]⟩ todo with mode:=.returning} (c::cs)) w:=λT todo hj=>
  zq2b (J:=λ(_:Unit)=>J) (s:=()) hJ (b:=bN 61) rfl rfl Try.func61 (λτ d=>by simp[results,Try.f61]) hj
 simp only[Try.f61,zqm,al_od,List.size_toArray,List.length_cons,List.length_nil,Nat.reduceAdd,Nat.reduceSub,Array.replicate_succ,Array.replicate_zero,List.push_toArray,List.append_toArray,List.nil_append,List.cons_append];refine hJ.ctl (s:=()) (λw=>stepG_seq) ?_;refine hJ.ctl (s:=()) (λw=>stepG_seq) ?_;refine hJ.ctl (s:=()) (λw=>stepG_region) ?_;refine zqg (J:=λ(_:Unit)=>J) (s:=()) (by decide) hJ (zqf _) true (.inl rfl) 0 25 0 rfl rfl rfl (by rfl) ?_;intro τ d;simp only[List.drop_zero,List.take_succ_cons,List.take_zero];have hall:∀i:Nat,i<A.N->x=i->noStep A most n ov x=(ov i=true\/n=most):=λi hi hx=>by
  subst hx;refine propext ⟨?_,?_⟩
  . rintro(h|h|h|h)
    . omega
    . omega
    . exact .inl (by simpa using h)
    . exact .inr h
  . rintro(h|h)
    . exact .inr (.inr (.inl (by simpa using h)))
    . exact .inr (.inr (.inr h))
 have close:∀T:Array Value,noStep A most n ov x->J (G ((bN 61).at ⟨T,[]⟩ [.code .ret,.code zq53]) (c::cs)) w:=λT hn=>
  hJ.ctl (s:=()) (λw=>stepG_ret') (hret _ _ (hno hn))
 by_cases hx0:x<0
 . have hn:noStep A most n ov x:=.inl hx0;clear hgo hno hall h4 h5;go_wp2;simp only[zq7];refine hJ.re' () _ _ τ d ?_;refine hJ.ctl (s:=()) (λw=>stepG_region_end) ?_;refine hJ.ctl (s:=()) (λw=>stepG_cond (t:=true) rfl) ?_;exact close _ hn
 by_cases hxN:(A.N:Int)<=x
 . have hn:noStep A most n ov x:=.inr (.inl hxN);have hx0':(0:Int)<=x:=by omega
   clear hgo hno hall h4 h5 hx0;go_wp2;simp only[zq7];refine hJ.re' () _ _ τ d ?_;refine hJ.ctl (s:=()) (λw=>stepG_region_end) ?_;refine hJ.ctl (s:=()) (λw=>stepG_cond (t:=true) rfl) ?_;exact close _ hn
 obtain⟨i,rfl⟩:∃i:Nat,x=i:=⟨x.toNat,by omega⟩;have hi:i<A.N:=by omega
 replace h3:=h3 (Nat.lt_of_le_of_lt (Nat.zero_le _) hi);have g4:=h4 i hi;have g5:=h5 i hi;have hiN:(i:Int)<A.N:=by omega
 have hi0:(0:Int)<=i:=by omega
 have hall':=hall i hi rfl;have d1:decide ((i:Int)<0)=false:=by simp
 have d2:decide (A.N<=i)=false:=by simp;omega
 clear h4 h5 hall hx0 hxN;cases hov:ov i with
 |true=>
  have hn:noStep A most n ov i:=by rw[hall'];exact .inl hov
  rw[hov]at g5;clear hgo hno hall' hov;go_wp2;simp only[zq7];refine hJ.re' () _ _ τ d ?_;refine hJ.ctl (s:=()) (λw=>stepG_region_end) ?_;refine hJ.ctl (s:=()) (λw=>stepG_cond (t:=true) rfl) ?_;exact close _ hn
 |false=>
  rw[hov]at g5
  by_cases hm:n=most
  . have hn:noStep A most n ov i:=by rw[hall'];exact .inr hm
    subst hm;clear hgo hno hall' hov;go_wp2;simp only[zq7];refine hJ.re' () _ _ τ d ?_;refine hJ.ctl (s:=()) (λw=>stepG_region_end) ?_;refine hJ.ctl (s:=()) (λw=>stepG_cond (t:=true) rfl) ?_;exact close _ hn
  . have hn:¬noStep A most n ov i:=by rw[hall',hov];simp[hm]
    have hm':((n:Int)==(most:Int))=false:=by simp;omega
    have hg:=hgo hn;clear hgo hno hall' hov close hret;go_wp2;simp only[zq7];refine hJ.re' () _ _ τ d ?_;refine hJ.ctl (s:=()) (λw=>stepG_region_end) ?_;refine hJ.ctl (s:=()) (λw=>stepG_cond (t:=false) rfl) ?_;refine hJ.ctl (s:=()) (λw=>stepG_skip) ?_;exact hg _ rfl rfl rfl rfl rfl
section
variable {M:Type}
theorem Inv.head {T:Thr M}{A:OA}{B:Bx}{Kc:Addr->Option Value}{w₀:World}{m₀:M}{most s:Nat}{E:Nat->Option Obj}{k:Nat}{a:OSt M}{left:Nat}{v:Value}{inb:Nat->Option Seat}{w:World}(h:Inv T A B Kc w₀ m₀ most s E k a left v inb w):
 ∃p cap,v=.slice p a.ord.length cap/\HeadW A B most a.ord.length a.ov p cap w:=by
 obtain⟨p,cap,hv⟩:=h.slice;refine⟨p,cap,hv,(h.cell h.eN).1,(zq1 h.cf.ow.box).trans rfl,λhN=>(zq1 (h.cf.ow.tsS h.ok hN)).trans rfl,λi hi=>(zq1 (h.cf.ow.sts (by omega))).trans (h.ok.row i hi),λi hi=>(zq1 (h.cf.ow.std i hi)).trans rfl,?_,(h.cell h.eM).1⟩;rw[<-hv];exact(h.cell h.eO).1
theorem Inv.turned {T:Thr M}{A:OA}{B:Bx}{Kc:Addr->Option Value}{w₀:World}{m₀:M}{most s:Nat}{E:Nat->Option Obj}{k k':Nat}{a:OSt M}{left:Nat}{v:Value}{inb inb':Nat->Option Seat}{w w':World}(h:Inv T A B Kc w₀ m₀ most s E k a left v inb w){m':M}{ov' brk':Nat->Bool}
 (hc:Cf T A Kc E k' s ov' brk' m' inb' w'):Inv T A B Kc w₀ m₀ most s E k' ⟨m',ov',brk',a.ord⟩ left v inb' w':=by
 have hg:∀g,v.ownBlock=some g->w'.heap[g]?=w.heap[g]?:=λg hg=>by
  rcases h.row.2 with⟨hv,_⟩|⟨g2,cap,cur,hv,h1,h2,h3⟩
  . rw[hv]at hg;cases hg
  . rw[hv]at hg;simp only[Value.ownBlock,al_oi]at hg;subst hg;rw[h2];exact hc.ext _ _ ((h.erow _ (by rw[hv];rfl)).1.trans h2)
 refine⟨h.ok,h.bok,h.kept,hc,h.eN,h.eM,h.eO,h.eL,h.own,⟨h.row.1,?_⟩,λg hgv=>⟨by rw[hg g hgv];exact(h.erow g hgv).1,(h.erow g hgv).2⟩,h.old,h.len,h.most,h.N,?_,h.lft⟩
 . rcases h.row.2 with hv|⟨g,cap,cur,hv,h1,h2,h3⟩
   . exact .inl hv
   . exact .inr ⟨g,cap,cur,hv,h1,by rw[hg g (by rw[hv];rfl)];exact h2,h3⟩
 . have:=zqi (hc.ext _ _ h.eN);have:=h.bok.ge;omega
theorem zqhg{Fin:Machine->Trace->Prop}(hFin:Back Try.prog Fin){T:Thr M}{A:OA}{B:Bx}{Kc:Addr->Option Value}{w₀:World}{m₀:M}{most n:Nat}{E:Nat->Option Obj}{k:Nat}{a:OSt M}{v:Value}{inb:Nat->Option Seat}{w:World}
 (h:Inv T A B Kc w₀ m₀ most A.N E (k+1) a (leftN a.ov A.N) v inb w) {i:Nat} (hi:i<A.N) (ho:a.ov i=false) (hm:a.ord.length≠most) (hn:A.n0+A.N<=n) {c:Frame} {cs:List Frame} {Ts:Array Value} (hsz:Ts.size=51)
 (t0:Ts[0]?=some (.int .i64 i)) (t2:Ts[2]?=some (.pointer (some ⟨A.bX,0,none⟩))) (t3:Ts[3]?=some (.pointer (some ⟨B.bO,0,none⟩))) (t5:Ts[5]?=some (.pointer (some ⟨B.bL,0,none⟩)))
 (hmain:∀a' E' v' inb' w',Step1 T A.N most i a a'->Inv T A B Kc w₀ m₀ most A.N E' k a' (leftN a'.ov A.N) v' inb' w'->HoldR Try.prog Fin Kc inb' 0 n (G (c.finish (.tuple #[])) cs) w'):
 HoldR Try.prog Fin Kc inb 0 n (G ((bN 61).at ⟨Ts,[]⟩ [.code zq53]) (c::cs)) w:=by
 have hJ:=zq10 hFin Kc inb n;obtain⟨x0,x1,x2,x3,x4,x5,x6,x7,x8,x9,x10,x11,x12,x13,x14,x15,x16,x17,x18,x19,x20,x21,x22,x23,x24,x25,x26,x27,x28,x29,x30,x31,x32,x33,x34,x35,x36,x37,x38,x39,x40,x41,x42,x43,x44,x45,x46,x47,x48,x49,x50,rfl⟩:=lit51 Ts hsz;simp only[al_gl,al_g0,al_g1,al_oi]at t0 t2 t3 t5;subst t0 t2 t3 t5;clear hsz;have hlen:a.ord.length+1<=most:=by have:=h.len;omega
 have cO:=(h.cell h.eO).1;have zO:=(h.cell h.eO).2.1;simp only[zq53,Try.f61];refine hJ.ctl (s:=()) (λw=>stepG_seq) ?_;refine hJ.ctl (s:=()) (λw=>stepG_region) ?_;refine zqg (J:=λ(_:Unit)=>HoldR Try.prog Fin Kc inb 0 n) (s:=()) (by decide) hJ (zqf _) true (.inl rfl) 0 3 2 rfl rfl rfl (by rfl) ?_;intro τ d;simp only[List.drop_zero,List.take_succ_cons,List.take_zero];have hm2:=Lib.hid hmain;clear hmain;go_wp2;simp only[zq7,zq3v];refine hJ.re' () _ _ τ d ?_;generalize hw1:w.alloc (Obj.cells #[Value.int IntKind.i64 ↑i] 3)=w1;have s1:w1.heap.size=w.heap.size+1:=by rw[<-hw1,zq8]
 have o1:∀b,b<w.heap.size->w1.heap[b]?=w.heap[b]?:=λb hb=>by rw[<-hw1,zqc,if_neg (by omega)]
 have n1:w1.heap[w.heap.size]?=some (.cells #[.int .i64 i] 3):=by rw[<-hw1,zqc,if_pos rfl]
 have hown:w1.ownsRow B.B0 3 1 v a.ord.length (a.ord.map λ(i:Nat)=>.int .i64 i):=by
  refine⟨h.row.1,?_⟩;rcases h.row.2 with hv|⟨g,cap,cur,hv,h1,h2,h3⟩
  . exact .inl hv
  . exact .inr ⟨g,cap,cur,hv,h1,by rw[o1 g (zqi h2)];exact h2,h3⟩
 obtain⟨ti,hti,hz0,hz1,hz2⟩:∃ti,Try.prog.info? 3=some ti/\ti.zero=some (.int .i64 0)/\ti.size=1/\ti.bytes=8:=⟨_,rfl,rfl,rfl,rfl⟩;have hfree:∀g,v.ownBlock=some g->∀y:Addr,y.block=g->Kc y=none:=λg hg y hy=>by
  cases hk:Kc y with
  |none=>rfl
  |some u=>
   have h1:=h.kept.own _ u hk;have h2:=(h.erow g hg).1;rcases h.row.2 with⟨hv',_⟩|⟨g2,cap2,cur2,hv',_,hh,_⟩
   . rw[hv']at hg;cases hg
   . rw[hv']at hg;simp only[Value.ownBlock,al_oi]at hg;subst hg;exact absurd (hy▸h1) (h.cf.extfree _ _ (h2.trans hh)).1
 refine zqb1 (J:=λ(_:Unit)=>HoldR Try.prog Fin Kc inb 0 n) (sg:=()) (by decide) hJ (j:=3) (rest:=[4]) rfl rfl (.tmp 32) (.tmp 34) 24 rfl B.B0 3 ti (.int .i64 0) 1 8 (by kernel_rfl) hti hz0 hz1 hz2 rfl (by decide)
  v a.ord.length _ rfl hown ⟨w.heap.size,0,none⟩ 1 1 [.int .i64 i] rfl rfl (λj u hu=>?_) (λu hu=>?_) (by have:=h.most;unfold maxLen;omega) (by have:=h.most;omega) (by have:=h.base;omega) hfree ?_
 . cases j with
   |zero=>cases hu;exact(zq1 n1).trans rfl
   |succ j=>cases hu
 . simp at hu;subst hu;rfl
 intro v' w' hrow hsz' hold hob;have hgO:some B.bO≠v.ownBlock:=λe=>by have:=(h.erow _ e.symm).2;omega
 have hclO:w'.heap[B.bO]?=some (.cells #[v] 24):=(hold _ (by have:=zqi (h.cell h.eO).2.2.2;omega) hgO).trans ((o1 _ (zqi (h.cell h.eO).2.2.2)).trans (h.cell h.eO).2.2.2);have hKO:=(h.cell h.eO).2.2.1
 walk_nrm
 have cO':=(zq1 (off:=0) hclO).trans rfl;have zO':w'.frozen? ⟨B.bO,0,none⟩=false:=zqh hclO;obtain⟨E1,hI⟩:=h.setO i hlen hrow (by omega) (λb hb hne=>(hold b (by omega) hne).trans (o1 b hb)) (by
  rcases hob with hob|hob
  . exact .inl hob
  . exact .inr ⟨_,hob,by omega⟩)
 have hv'c:v'.cells.size=1:=by
  rcases hrow.2 with⟨_,hn⟩|⟨g,cap,cur,hv,_⟩
  . exact absurd hn (Nat.succ_ne_zero _)
  . rw[hv];rfl
 refine zq29 (J:=λ(_:Unit)=>HoldR Try.prog Fin Kc inb 0 n) (s:=()) (i:=4) (rest:=[]) (by decide) hJ rfl rfl (ad:=⟨B.bO,0,none⟩) rfl (λj hj=>zq4o hKO (by rw[<-hv'c];exact hj)) ⟨_,_,_,hclO⟩ ?_;intro τ d;obtain⟨p',cap',hv'⟩:∃p cap,v'=.slice p (a.ord.length+1) cap:=by obtain⟨p,cap,e⟩:=hI.slice;exact⟨p,cap,by rw[e];simp⟩
 subst hv';go_wp2;simp only[zq7,zq1w];refine hJ.re' () _ _ τ d ?_;generalize w'.setCell ⟨B.bO,0,none⟩ _=w2 at hI |-;clear hrow hsz' hold hob hgO hclO hKO cO' zO' hv'c hfree hown n1 o1 s1 hw1 cO zO;refine hJ.ctl (s:=()) (λw=>stepG_region_end) ?_;refine hJ.ctl (s:=()) (λw=>stepG_seq) ?_;refine hJ.ctl (s:=()) (λw=>stepG_region) ?_;have cX:=(zq1 (off:=0) hI.cf.ow.box).trans rfl;refine zqg (J:=λ(_:Unit)=>HoldR Try.prog Fin Kc inb 0 n) (s:=()) (by decide) hJ (zqf _) true (.inl rfl) 0 2 1 rfl rfl rfl (by rfl) ?_;intro τ d;simp only[List.drop_zero,List.take_succ_cons,List.take_zero];go_wp2;simp only[zq7];refine hJ.re' () _ _ τ d ?_;refine zq14 (J:=λ(_:Unit)=>HoldR Try.prog Fin Kc inb 0 n) (s:=()) (by decide) hJ rfl rfl (f:=62) (args:=#[.pointer (some ⟨A.bT,0,none⟩),.int .i64 i,.bool true]) (λτ d=>?_) (λτ d=>?_) ?_
 . simp[go_sem,execOp,Act.eval,resolve,Deferred.ofValue,invoke,callFunc,Try.func62,Try.f62]
 . intro e he;simp[go_sem,execOp,Act.eval,resolve,Deferred.ofValue,invoke,callFunc,Try.func62,Try.f62,Sem.runT_eq]at he
 refine let_turn hFin hI.ok hI.kept hI.cf hi ho hn λm' ov' brk' inb' w3 hT hC=>?_;have hI3:=hI.turned hC;have hJ3:=zq10 hFin Kc inb' n;have hst:Step1 T A.N most i a ⟨m',ov',brk',a.ord++[i]⟩:=.go i rfl hi ho hm hT;rw[Frame.finish_at]
 try walk_nrm
 refine hJ3.ctl (s:=()) (λw=>stepG_region_end) ?_;refine hJ3.ctl (s:=()) (λw=>stepG_seq) ?_;refine hJ3.ctl (s:=()) (λw=>stepG_region) ?_;obtain⟨p3,cap3,hv3,hd3⟩:=hI3.head;have cX:=hd3.cX;have cS:=hd3.cS (Nat.lt_of_le_of_lt (Nat.zero_le _) hi);have cs':=hd3.cs i hi;have cv:=hd3.cv i hi;have hiN:(i:Int)<A.N:=by omega
 have hi0:(0:Int)<=i:=by omega
 have cL:=(hI3.cell hI3.eL).1;have zL:=(hI3.cell hI3.eL).2.1;have kL:=(hI3.cell hI3.eL).2.2.1;have qL:=(hI3.cell hI3.eL).2.2.2;refine zqg (J:=λ(_:Unit)=>HoldR Try.prog Fin Kc inb' 0 n) (s:=()) (by decide) hJ3 (zqf _) true (.inl rfl) 0 10 0 rfl rfl rfl (by rfl) ?_;intro τ d;simp only[List.drop_zero,List.take_succ_cons,List.take_zero];have hret:∀(mc:Frame)(Tx:Array Value)(w:World),HoldR Try.prog Fin Kc inb' 0 n (G (c.finish (.tuple #[])) cs) w->HoldR Try.prog Fin Kc inb' 0 n (G ((bN 61).at ⟨Tx,[]⟩ []) (c::cs)) w:=λ_ Tx w hj=>
  hJ3.ctl (s:=()) (λw=>stepG_end) (zq2b (J:=λ(_:Unit)=>HoldR Try.prog Fin Kc inb' 0 n) (s:=()) hJ3 (b:=bN 61) rfl rfl Try.func61 (λτ d=>by simp[results,Try.f61]) hj)
 clear hd3;cases hov:ov' i with
 |false=>
  have hl:leftN ov' A.N=leftN a.ov A.N:=by
   cases hT with
   |yield h=>rfl
   |done h=>simp at hov
   |broke h=>simp at hov
  have cv':w3.cell? ⟨A.st i,2,none⟩=some (.bool false):=by rw[<-hov];exact cv
  clear cv;go_wp2;simp only[zq7];refine hJ3.re' () _ _ τ d ?_;refine hJ3.ctl (s:=()) (λw=>stepG_region_end) ?_;refine hJ3.ctl (s:=()) (λw=>stepG_cond (t:=false) rfl) ?_;refine hJ3.ctl (s:=()) (λw=>stepG_skip) ?_;have hI4:=hI3;rw[<-hl]at hI4;exact hret c _ _ (hm2.out _ _ _ _ _ hst hI4)
 |true=>
  have hl:leftN ov' A.N+1=leftN a.ov A.N:=by
   cases hT with
   |yield h=>rw[ho]at hov;cases hov
   |done h=>exact zq7q hi ho
   |broke h=>exact zq7q hi ho
  have hlN:=zq7o a.ov A.N;have hN64:=hI3.N;have cv':w3.cell? ⟨A.st i,2,none⟩=some (.bool true):=by rw[<-hov];exact cv
  clear cv;go_wp2;simp only[zq7];refine hJ3.re' () _ _ τ d ?_;refine hJ3.ctl (s:=()) (λw=>stepG_region_end) ?_;refine hJ3.ctl (s:=()) (λw=>stepG_cond (t:=true) rfl) ?_;simp only[if_true];refine hJ3.ctl (s:=()) (λw=>stepG_region) ?_;refine zqg (J:=λ(_:Unit)=>HoldR Try.prog Fin Kc inb' 0 n) (s:=()) (by decide) hJ3 (zqf _) true (.inl rfl) 0 2 1 rfl rfl rfl (by rfl) ?_;intro τ d;simp only[List.drop_zero,List.take_succ_cons,List.take_zero];have hwr:IntKind.i64.wrap ((leftN a.ov A.N:Int) - 1)=(leftN ov' A.N:Int):=by
   rw[show(leftN a.ov A.N:Int) - 1=(leftN ov' A.N:Int)by omega];exact IntWalk.i64_in _ (by omega)
  go_wp2;simp only[zq7];refine hJ3.re' () _ _ τ d ?_;refine zq29 (J:=λ(_:Unit)=>HoldR Try.prog Fin Kc inb' 0 n) (s:=()) (i:=2) (rest:=[]) (by decide) hJ3 rfl rfl (ad:=⟨B.bL,0,none⟩) rfl (λj hj=>zq4o kL hj) ⟨_,_,_,qL⟩ ?_;intro τ d;go_wp2;simp only[zq7,zq1w];refine hJ3.re' () _ _ τ d ?_;refine hJ3.ctl (s:=()) (λw=>stepG_region_end) ?_;exact hret c _ _ (hm2.out _ _ _ _ _ hst (hI3.setL (leftN ov' A.N) (by omega)))
theorem zq99{Fin:Machine->Trace->Prop}(hFin:Back Try.prog Fin){T:Thr M}{A:OA}{B:Bx}{Kc:Addr->Option Value}{w₀:World}{m₀:M}{most n:Nat}{E:Nat->Option Obj}{k:Nat}{a:OSt M}{v:Value}{inb:Nat->Option Seat}{w:World}
 (h:Inv T A B Kc w₀ m₀ most A.N E (k+1) a (leftN a.ov A.N) v inb w) (x:Int) (hn:A.n0+A.N<=n) {c:Frame} {cs:List Frame}
 (hmain:∀a' E' k' v' inb' w',Step1 T A.N most x a a'->k+a.ord.length+1<=k'+a'.ord.length->Inv T A B Kc w₀ m₀ most A.N E' k' a' (leftN a'.ov A.N) v' inb' w'->HoldR Try.prog Fin Kc inb' 0 n (G (c.finish (.tuple #[])) cs) w'):
 HoldR Try.prog Fin Kc inb 0 n (G (Frame.enter Try.prog 61 #[.int .i64 x,.pointer (some ⟨B.bN,0,none⟩),.pointer (some ⟨A.bX,0,none⟩),.pointer (some ⟨B.bO,0,none⟩),.pointer (some ⟨B.bM,0,none⟩),.pointer (some ⟨B.bL,0,none⟩)] .normal) (c::cs)) w:=by
 obtain⟨p,cap,hv,hd⟩:=h.head;refine zqhe (zq10 hFin Kc inb n) hd (λhno=>?_) (λhgo Ts hsz t0 t2 t3 t5=>?_)
 . exact hmain a E (k+1) v inb w (.not hno) (by omega) h
 . have hg:¬(x<0\/(A.N:Int)<=x\/a.ov x.toNat=true\/a.ord.length=most):=hgo;simp only[not_or]at hg;obtain⟨g1,g2,g3,g4⟩:=hg;obtain⟨i,rfl⟩:∃i:Nat,x=i:=⟨x.toNat,by omega⟩;have g3':a.ov i=false:=by simpa using g3
   refine zqhg hFin h (by omega) g3' g4 hn hsz t0 t2 t3 t5 λa' E' v' inb' w' hst hI=>?_;refine hmain a' E' k v' inb' w' hst ?_ hI;cases hst with
   |not h=>rcases h with h|h|h|h<;>first|omega |(rw[show((i:Int).toNat)=i by omega]at h;rw[g3']at h;cases h)
   |go=>simp;omega
end
def tailN:Nat->Code->Code
 |0,c=>c
 |n+1,.seq _ c=>tailN n c
 |_,c=>c
def headC:Code->Code
 |.seq a _=>a
 |c=>c
noncomputable def lpC:Code:=match headC (tailN 8 (Try.f54.body.getD .skip))with|.seq _ (.block _ (.loop c))=>c|_=>.skip
structure Fr(A:OA)(B:Bx)(thr sch:Value)(T:Array Value):Prop where
 size:T.size=129
 t0:T[0]?=some thr
 t1:T[1]?=some sch
 t5:T[5]?=some (.pointer (some ⟨B.bM,0,none⟩))
 t6:T[6]?=some (.pointer (some ⟨B.bO,0,none⟩))
 t9:T[9]?=some (.pointer (some ⟨B.bN,0,none⟩))
 t10:T[10]?=some (.pointer (some ⟨A.bX,0,none⟩))
 t11:T[11]?=some (.pointer (some ⟨B.bL,0,none⟩))
 t13:T[13]?=some (.func (.func 61) #[] #[.pointer (some ⟨B.bN,0,none⟩),.pointer (some ⟨A.bX,0,none⟩),.pointer (some ⟨B.bO,0,none⟩),.pointer (some ⟨B.bM,0,none⟩),.pointer (some ⟨B.bL,0,none⟩)])
section
variable {M:Type}
theorem Inv.heap_old {T:Thr M}{A:OA}{B:Bx}{Kc:Addr->Option Value}{w₀:World}{m₀:M}{most s:Nat}{E:Nat->Option Obj}{k:Nat}{a:OSt M}{left:Nat}{v:Value}{inb:Nat->Option Seat}{w:World}(h:Inv T A B Kc w₀ m₀ most s E k a left v inb w){b:Nat}(hb:b<B.B0)(hf:¬T.foot m₀ b){o:Obj}(ho:w₀.heap[b]?=some o):w.heap[b]?=some o:=
 h.cf.ext b o ((h.old b hb hf).trans ho)
def stepV(A:OA)(B:Bx):Value:=.func (.func 61) #[] #[.pointer (some ⟨B.bN,0,none⟩),.pointer (some ⟨A.bX,0,none⟩),.pointer (some ⟨B.bO,0,none⟩),.pointer (some ⟨B.bM,0,none⟩),.pointer (some ⟨B.bL,0,none⟩)]
theorem zqec{Fin:Machine->Trace->Prop}(hFin:Back Try.prog Fin){T:Thr M}{A:OA}{B:Bx}{Kc:Addr->Option Value}{w₀:World}{m₀:M}{most n:Nat}{E:Nat->Option Obj}{k:Nat}{a:OSt M}{v:Value}{inb:Nat->Option Seat}{w:World}
 (h:Inv T A B Kc w₀ m₀ most A.N E (k+1) a (leftN a.ov A.N) v inb w) (hn:A.n0+A.N<=n) {thr sch:Value} {sb off C j L:Nat} {x:Int} {Ts:Array Value} (hF:Fr A B thr sch Ts) (hj:j<L) (hL:L<=4611686018427387904) (t76:Ts[76]?=some (.slice (some ⟨sb,off,none⟩) L C)) (t77:Ts[77]?=some (.int .i64 L)) (t78:Ts[78]?=some (.int .i64 j)) (hx:w.cell? ⟨sb,off+j,none⟩=some (.int .i64 x))
 {b:Frame} (hb:b.kind≠.early) {ds:List Deferred} {K:List Item} {cs:List Frame}
 (hmain:∀a' E' k' v' inb' w'(Ts':Array Value),Step1 T A.N most x a a'->k+a.ord.length+1<=k'+a'.ord.length->Inv T A B Kc w₀ m₀ most A.N E' k' a' (leftN a'.ov A.N) v' inb' w'->Fr A B thr sch Ts'->Ts'[76]?=some (.slice (some ⟨sb,off,none⟩) L C)->Ts'[77]?=some (.int .i64 L)->Ts'[78]?=some (.int .i64 (j+1:Nat))->
  HoldR Try.prog Fin Kc inb' 0 n (G (b.at ⟨Ts',ds⟩ (.inLoop lpC::.inBlock 4::K)) cs) w'):
 HoldR Try.prog Fin Kc inb 0 n (G (b.at ⟨Ts,ds⟩ (.code lpC::.inLoop lpC::.inBlock 4::K)) cs) w:=by
 have hJ:=zq10 hFin Kc inb n;obtain⟨hsz,f2,f3,f4,f5,f6,f7,f8,f9⟩:=hF;have hm:=Lib.hid hmain;clear hmain;have elp:lpC=match headC (tailN 8 (Try.f54.body.getD .skip))with|.seq _ (.block _ (.loop c))=>c|_=>.skip:=rfl
 simp only[headC,tailN,Try.f54,al_od]at elp;generalize hlp:lpC=lp at elp |- hm;subst elp;have hjL:(j:Int)<L:=by omega
 have hj0:(0:Int)<=j:=by omega
 refine hJ.ctl (s:=()) (λw=>stepG_seq) ?_;refine hJ.ctl (s:=()) (λw=>stepG_region) ?_;refine zqr (J:=λ(_:Unit)=>HoldR Try.prog Fin Kc inb 0 n) (s:=()) hJ hb 0 [.bool true] [] rfl (by simp) (by rfl) ?_ ?_
 . intro τ d;simp only[zqo,dstOf,al_gl,al_g0,al_g1,al_ob];refine⟨?_,trivial⟩<;>(intro o ho;simp only[al_oi]at ho;subst ho)
   all_goals(try simp only[execOp,Act.eval,al_gd])
   all_goals(try simp only[al_gs,al_gz,hsz,f2,f3,f4,f5,f6,f7,f8,f9,t76,t77,t78,Nat.reduceEqDiff,Nat.reduceLT,↓reduceIte,al_od])
   all_goals(have hlt:∀i,i<129->i<(Ts).size:=λi hi=>(by rw[hsz];exact hi))
   all_goals(clear hsz f2 f3 f4 f5 f6 f7 f8 f9 t76 t77 t78)
   all_goals(try go_simp)
   all_goals(try omega)
 simp only[putv,dstOf,al_gl,al_g0,al_g1,al_ob];obtain⟨T1,hT⟩:∃X,X=(Ts).setIfInBounds 79 (.bool true):=⟨_,rfl⟩;rw[<-hT];have hT1:T1.size=129:=by rw[hT];simp[hsz]
 have T1_0:=sg1 hT f2;have T1_1:=sg1 hT f3;have T1_5:=sg1 hT f4;have T1_6:=sg1 hT f5;have T1_9:=sg1 hT f6;have T1_10:=sg1 hT f7;have T1_11:=sg1 hT f8;have T1_13:T1[13]?=some (stepV A B):=sg1 hT f9;have T1_76:=sg1 hT t76;have T1_77:=sg1 hT t77;have T1_78:=sg1 hT t78;have T1_79:T1[79]?=some (.bool true):=by rw[hT];simp[al_gs,hsz]
 clear hT f2 f3 f4 f5 f6 f7 f8 f9 t76 t77 t78 hsz;refine hJ.ctl (s:=()) (λw=>stepG_region_end) ?_;refine hJ.ctl (s:=()) (λw=>stepG_seq) ?_;refine hJ.ctl (s:=()) (λw=>stepG_cond (t:=true) (by simp[Act.eval,al_gd,T1_79])) ?_;simp only[if_true];refine hJ.ctl (s:=()) (λw=>stepG_skip) ?_;refine hJ.ctl (s:=()) (λw=>stepG_seq) ?_;refine hJ.ctl (s:=()) (λw=>stepG_block) ?_;refine hJ.ctl (s:=()) (λw=>stepG_seq) ?_;refine hJ.ctl (s:=()) (λw=>stepG_region) ?_;refine zqr (J:=λ(_:Unit)=>HoldR Try.prog Fin Kc inb 0 n) (s:=()) hJ hb 0 [.pointer (some ⟨sb,off+j,none⟩),.int .i64 x,.int .i64 x] [] rfl (by simp) (by rfl) ?_ ?_
 . intro τ d;simp only[zqo,dstOf,al_gl,al_g0,al_g1,al_ob];refine⟨?_,?_,?_,trivial⟩<;>(intro o ho;simp only[al_oi]at ho;subst ho)
   all_goals(try simp only[execOp,Act.eval,al_gd])
   all_goals(try simp only[al_gs,al_gz,hT1,T1_0,T1_1,T1_5,T1_6,T1_9,T1_10,T1_11,T1_13,T1_76,T1_77,T1_78,T1_79,Nat.reduceEqDiff,Nat.reduceLT,↓reduceIte,al_od])
   all_goals(have hlt:∀i,i<129->i<(T1).size:=λi hi=>(by rw[hT1];exact hi))
   all_goals(clear hT1 T1_0 T1_1 T1_5 T1_6 T1_9 T1_10 T1_11 T1_13 T1_76 T1_77 T1_78 T1_79)
   all_goals(try go_simp)
   all_goals(try omega)
 simp only[putv,dstOf,al_gl,al_g0,al_g1,al_ob];obtain⟨T2,hT⟩:∃X,X=(((T1).setIfInBounds 80 (.pointer (some ⟨sb,off+j,none⟩))).setIfInBounds 81 (.int .i64 x)).setIfInBounds 15 (.int .i64 x):=⟨_,rfl⟩;rw[<-hT];have hT2:T2.size=129:=by rw[hT];simp[hT1]
 have T2_0:=sg3 hT T1_0;have T2_1:=sg3 hT T1_1;have T2_5:=sg3 hT T1_5;have T2_6:=sg3 hT T1_6;have T2_9:=sg3 hT T1_9;have T2_10:=sg3 hT T1_10;have T2_11:=sg3 hT T1_11;have T2_13:T2[13]?=some (stepV A B):=sg3 hT T1_13;have T2_76:=sg3 hT T1_76;have T2_77:=sg3 hT T1_77;have T2_78:=sg3 hT T1_78;have T2_79:=sg3 hT T1_79;have T2_80:T2[80]?=some (.pointer (some ⟨sb,off+j,none⟩)):=by rw[hT];simp[al_gs,hT1]
 have T2_81:T2[81]?=some (.int .i64 x):=by rw[hT];simp[al_gs,hT1]
 have T2_15:T2[15]?=some (.int .i64 x):=by rw[hT];simp[al_gs,hT1]
 clear hT T1_0 T1_1 T1_5 T1_6 T1_9 T1_10 T1_11 T1_13 T1_76 T1_77 T1_78 T1_79 hT1;refine hJ.ctl (s:=()) (λw=>stepG_region_end) ?_;refine hJ.ctl (s:=()) (λw=>stepG_region) ?_;refine zqr (J:=λ(_:Unit)=>HoldR Try.prog Fin Kc inb 0 n) (s:=()) hJ hb 0 [stepV A B,.int .i64 x] [2] rfl (by simp) (by rfl) ?_ ?_
 . intro τ d;simp only[zqo,dstOf,al_gl,al_g0,al_g1,al_ob];refine⟨?_,?_,trivial⟩<;>(intro o ho;simp only[al_oi]at ho;subst ho)
   all_goals(try simp only[execOp,Act.eval,al_gd])
   all_goals(try simp only[al_gs,al_gz,hT2,T2_0,T2_1,T2_5,T2_6,T2_9,T2_10,T2_11,T2_13,T2_76,T2_77,T2_78,T2_79,T2_80,T2_81,T2_15,Nat.reduceEqDiff,Nat.reduceLT,↓reduceIte,al_od])
   all_goals(have hlt:∀i,i<129->i<(T2).size:=λi hi=>(by rw[hT2];exact hi))
   all_goals(clear hT2 T2_0 T2_1 T2_5 T2_6 T2_9 T2_10 T2_11 T2_13 T2_76 T2_77 T2_78 T2_79 T2_80 T2_81 T2_15)
   all_goals(try go_simp)
   all_goals(try omega)
 simp only[putv,dstOf,al_gl,al_g0,al_g1,al_ob];obtain⟨T3,hT⟩:∃X,X=((T2).setIfInBounds 82 (stepV A B)).setIfInBounds 83 (.int .i64 x):=⟨_,rfl⟩;rw[<-hT];have hT3:T3.size=129:=by rw[hT];simp[hT2]
 have T3_0:=sg2 hT T2_0;have T3_1:=sg2 hT T2_1;have T3_5:=sg2 hT T2_5;have T3_6:=sg2 hT T2_6;have T3_9:=sg2 hT T2_9;have T3_10:=sg2 hT T2_10;have T3_11:=sg2 hT T2_11;have T3_13:T3[13]?=some (stepV A B):=sg2 hT T2_13;have T3_76:=sg2 hT T2_76;have T3_77:=sg2 hT T2_77;have T3_78:=sg2 hT T2_78;have T3_79:=sg2 hT T2_79;have T3_80:=sg2 hT T2_80;have T3_81:=sg2 hT T2_81;have T3_15:=sg2 hT T2_15;have T3_82:T3[82]?=some (stepV A B):=by rw[hT];simp[al_gs,hT2]
 have T3_83:T3[83]?=some (.int .i64 x):=by rw[hT];simp[al_gs,hT2]
 clear hT T2_0 T2_1 T2_5 T2_6 T2_9 T2_10 T2_11 T2_13 T2_76 T2_77 T2_78 T2_79 T2_80 T2_81 T2_15 hT2;refine zq14 (J:=λ(_:Unit)=>HoldR Try.prog Fin Kc inb 0 n) (s:=()) hb hJ rfl (by simp[Region.wanted]) (f:=61) (args:=#[.int .i64 x,.pointer (some ⟨B.bN,0,none⟩),.pointer (some ⟨A.bX,0,none⟩),.pointer (some ⟨B.bO,0,none⟩),.pointer (some ⟨B.bM,0,none⟩),.pointer (some ⟨B.bL,0,none⟩)]) (λτ d=>?_) (λτ d=>?_) ?_
 . simp[go_sem,execOp,Act.eval,resolve,Deferred.ofValue,invoke,callFunc,Try.func61,Try.f61,stepV,al_gd,T3_82,T3_83]
 . intro e he;simp[go_sem,execOp,Act.eval,resolve,Deferred.ofValue,invoke,callFunc,Try.func61,Try.f61,Sem.runT_eq,stepV,al_gd,T3_82,T3_83]at he
 refine zq99 hFin h x hn λa' E' k' v' inb' w' hst hk hI=>?_;have hJ3:=zq10 hFin Kc inb' n;rw[Frame.finish_at]
 try walk_nrm
 obtain⟨T4,hT⟩:∃X,X=(T3).setIfInBounds 84 (.tuple #[]):=⟨_,rfl⟩;rw[<-hT];have hT4:T4.size=129:=by rw[hT];simp[hT3]
 have T4_0:=sg1 hT T3_0;have T4_1:=sg1 hT T3_1;have T4_5:=sg1 hT T3_5;have T4_6:=sg1 hT T3_6;have T4_9:=sg1 hT T3_9;have T4_10:=sg1 hT T3_10;have T4_11:=sg1 hT T3_11;have T4_13:T4[13]?=some (stepV A B):=sg1 hT T3_13;have T4_76:=sg1 hT T3_76;have T4_77:=sg1 hT T3_77;have T4_78:=sg1 hT T3_78;have T4_79:=sg1 hT T3_79;have T4_80:=sg1 hT T3_80;have T4_81:=sg1 hT T3_81;have T4_15:=sg1 hT T3_15;have T4_82:T4[82]?=some (stepV A B):=sg1 hT T3_82;have T4_83:=sg1 hT T3_83;have T4_84:T4[84]?=some (.tuple #[]):=by rw[hT];simp[al_gs,hT3]
 clear hT T3_0 T3_1 T3_5 T3_6 T3_9 T3_10 T3_11 T3_13 T3_76 T3_77 T3_78 T3_79 T3_80 T3_81 T3_15 T3_82 T3_83 hT3;refine hJ3.ctl (s:=()) (λw=>stepG_region_end) ?_;refine hJ3.ctl (s:=()) (λw=>stepG_inBlock) ?_;refine hJ3.ctl (s:=()) (λw=>stepG_region) ?_;have hwr:IntKind.i64.wrap ((j:Int)+1)=((j+1:Nat):Int):=by
  rw[show(j:Int)+1=((j+1:Nat):Int)by omega];exact IntWalk.i64_in _ (by omega)
 clear hx;refine zqr (J:=λ(_:Unit)=>HoldR Try.prog Fin Kc inb' 0 n) (s:=()) hJ3 hb 0 [.int .i64 ((j+1:Nat):Int),.int .i64 ((j+1:Nat):Int)] [] rfl (by simp) (by rfl) ?_ ?_
 . intro τ d;simp only[zqo,dstOf,al_gl,al_g0,al_g1,al_ob];refine⟨?_,?_,trivial⟩<;>(intro o ho;simp only[al_oi]at ho;subst ho)
   all_goals(try simp only[execOp,Act.eval,al_gd])
   all_goals(try simp only[al_gs,al_gz,hT4,T4_0,T4_1,T4_5,T4_6,T4_9,T4_10,T4_11,T4_13,T4_76,T4_77,T4_78,T4_79,T4_80,T4_81,T4_15,T4_82,T4_83,T4_84,Nat.reduceEqDiff,Nat.reduceLT,↓reduceIte,al_od])
   all_goals(have hlt:∀i,i<129->i<(T4).size:=λi hi=>(by rw[hT4];exact hi))
   all_goals(clear hT4 T4_0 T4_1 T4_5 T4_6 T4_9 T4_10 T4_11 T4_13 T4_76 T4_77 T4_78 T4_79 T4_80 T4_81 T4_15 T4_82 T4_83 T4_84)
   all_goals(try go_simp)
   all_goals(try omega)
 simp only[putv,dstOf,al_gl,al_g0,al_g1,al_ob];obtain⟨T5,hT⟩:∃X,X=((T4).setIfInBounds 85 (.int .i64 ((j+1:Nat):Int))).setIfInBounds 78 (.int .i64 ((j+1:Nat):Int)):=⟨_,rfl⟩;rw[<-hT];have hT5:T5.size=129:=by rw[hT];simp[hT4]
 have T5_0:=sg2 hT T4_0;have T5_1:=sg2 hT T4_1;have T5_5:=sg2 hT T4_5;have T5_6:=sg2 hT T4_6;have T5_9:=sg2 hT T4_9;have T5_10:=sg2 hT T4_10;have T5_11:=sg2 hT T4_11;have T5_13:T5[13]?=some (stepV A B):=sg2 hT T4_13;have T5_76:=sg2 hT T4_76;have T5_77:=sg2 hT T4_77;have T5_79:=sg2 hT T4_79;have T5_80:=sg2 hT T4_80;have T5_81:=sg2 hT T4_81;have T5_15:=sg2 hT T4_15;have T5_82:T5[82]?=some (stepV A B):=sg2 hT T4_82;have T5_83:=sg2 hT T4_83;have T5_84:=sg2 hT T4_84;have T5_85:T5[85]?=some (.int .i64 ((j+1:Nat):Int)):=by rw[hT];simp[al_gs,hT4]
 have T5_78:T5[78]?=some (.int .i64 ((j+1:Nat):Int)):=by rw[hT];simp[al_gs,hT4]
 clear hT T4_0 T4_1 T4_5 T4_6 T4_9 T4_10 T4_11 T4_13 T4_76 T4_77 T4_78 T4_79 T4_80 T4_81 T4_15 T4_82 T4_83 T4_84 hT4;refine hJ3.ctl (s:=()) (λw=>stepG_region_end) ?_;exact hm.out _ E' k' v' inb' w' _ hst hk hI ⟨hT5,T5_0,T5_1,T5_5,T5_6,T5_9,T5_10,T5_11,T5_13⟩ T5_76 T5_77 T5_78
end
section
variable {M:Type}
theorem zq8f{Fin:Machine->Trace->Prop}(hFin:Back Try.prog Fin){A:OA}{B:Bx}{Kc:Addr->Option Value}{n:Nat}{inb:Nat->Option Seat}{w:World}{thr sch:Value}{L:Nat}{Ts:Array Value}(hF:Fr A B thr sch Ts)(t77:Ts[77]?=some (.int .i64 L))(t78:Ts[78]?=some (.int .i64 L))
 {b:Frame} (hb:b.kind≠.early) {ds:List Deferred} {K:List Item} {cs:List Frame} (hmain:∀Ts',Fr A B thr sch Ts'->HoldR Try.prog Fin Kc inb 0 n (G (b.at ⟨Ts',ds⟩ K) cs) w):
 HoldR Try.prog Fin Kc inb 0 n (G (b.at ⟨Ts,ds⟩ (.code lpC::.inLoop lpC::.inBlock 4::K)) cs) w:=by
 have hJ:=zq10 hFin Kc inb n;obtain⟨hsz,f2,f3,f4,f5,f6,f7,f8,f9⟩:=hF;have hm:=Lib.hid hmain;clear hmain;have elp:lpC=match headC (tailN 8 (Try.f54.body.getD .skip))with|.seq _ (.block _ (.loop c))=>c|_=>.skip:=rfl
 simp only[headC,tailN,Try.f54,al_od]at elp;generalize hlp:lpC=lp at elp |- hm;subst elp;refine hJ.ctl (s:=()) (λw=>stepG_seq) ?_;refine hJ.ctl (s:=()) (λw=>stepG_region) ?_;refine zqr (J:=λ(_:Unit)=>HoldR Try.prog Fin Kc inb 0 n) (s:=()) hJ hb 0 [.bool false] [] rfl (by simp) (by rfl) ?_ ?_
 . intro τ d;simp only[zqo,dstOf,al_gl,al_g0,al_g1,al_ob];refine⟨?_,trivial⟩<;>(intro o ho;simp only[al_oi]at ho;subst ho)
   all_goals(try simp only[execOp,Act.eval,al_gd])
   all_goals(try simp only[al_gs,al_gz,hsz,f2,f3,f4,f5,f6,f7,f8,f9,t77,t78,Nat.reduceEqDiff,Nat.reduceLT,↓reduceIte,al_od])
   all_goals(have hlt:∀i,i<129->i<(Ts).size:=λi hi=>(by rw[hsz];exact hi))
   all_goals(clear hsz f2 f3 f4 f5 f6 f7 f8 f9 t77 t78)
   all_goals(try go_simp)
   all_goals(try omega)
 simp only[putv,dstOf,al_gl,al_g0,al_g1,al_ob];obtain⟨T1,hT⟩:∃X,X=(Ts).setIfInBounds 79 (.bool false):=⟨_,rfl⟩;rw[<-hT];have hT1:T1.size=129:=by rw[hT];simp[hsz]
 have T1_0:=sg1 hT f2;have T1_1:=sg1 hT f3;have T1_5:=sg1 hT f4;have T1_6:=sg1 hT f5;have T1_9:=sg1 hT f6;have T1_10:=sg1 hT f7;have T1_11:=sg1 hT f8;have T1_13:T1[13]?=some (stepV A B):=sg1 hT f9;have T1_77:=sg1 hT t77;have T1_78:=sg1 hT t78;have T1_79:T1[79]?=some (.bool false):=by rw[hT];simp[al_gs,hsz]
 clear hT f2 f3 f4 f5 f6 f7 f8 f9 t77 t78 hsz;refine hJ.ctl (s:=()) (λw=>stepG_region_end) ?_;refine hJ.ctl (s:=()) (λw=>stepG_seq) ?_;refine hJ.ctl (s:=()) (λw=>stepG_cond (t:=false) (by simp[Act.eval,al_gd,T1_79])) ?_;simp only[Bool.false_eq_true,if_false];refine hJ.ctl (s:=()) (λw=>stepG_exit (k':=K) rfl) ?_;exact hm.out _ ⟨hT1,T1_0,T1_1,T1_5,T1_6,T1_9,T1_10,T1_11,T1_13⟩
theorem zq82{T:Thr M}{A:OA}{B:Bx}{Kc:Addr->Option Value}{w₀:World}{m₀:M}{most s:Nat}{E:Nat->Option Obj}{k:Nat}{a:OSt M}{left:Nat}{v:Value}{inb:Nat->Option Seat}{w:World}(h:Inv T A B Kc w₀ m₀ most s E k a left v inb w){ad:Addr}{x:Value}(hc:w₀.cell? ad=some x)(hb:ad.block<B.B0)(hf:¬T.foot m₀ ad.block):w.cell? ad=some x:=by
 have hlt:=Go.Car.cell_lt hc;have h1:w₀.heap[ad.block]?=some w₀.heap[ad.block]:=Array.getElem?_eq_getElem hlt;rw[<-hc];exact zq17 ((h.heap_old hb hf h1).trans h1.symm)
theorem zqeb{Fin:Machine->Trace->Prop}(hFin:Back Try.prog Fin){T:Thr M}{A:OA}{B:Bx}{Kc:Addr->Option Value}{w₀:World}{m₀:M}{most n:Nat}(hn:A.n0+A.N<=n){thr sch:Value}{sb off C:Nat}{sched:List Int}(hL:sched.length<=4611686018427387904)
 (hmem:∀j x,sched[j]?=some x->(w₀.cell? ⟨sb,off+j,none⟩=some (.int .i64 x)/\sb<B.B0/\¬T.foot m₀ sb)\/∀m w,T.Rep m w->w.cell? ⟨sb,off+j,none⟩=some (.int .i64 x)) {b:Frame} (hb:b.kind≠.early) {ds:List Deferred} {K:List Item} {cs:List Frame}:
 ∀(r j:Nat),j+r=sched.length->∀{E:Nat->Option Obj}{k:Nat}{a:OSt M}{v:Value}{inb:Nat->Option Seat}{w:World}{Ts:Array Value},Inv T A B Kc w₀ m₀ most A.N E k a (leftN a.ov A.N) v inb w->most+100<=k+a.ord.length->Fr A B thr sch Ts->
  Ts[76]?=some (.slice (some ⟨sb,off,none⟩) sched.length C)->Ts[77]?=some (.int .i64 sched.length)->Ts[78]?=some (.int .i64 j)->
  (∀a' E' k' v' inb' w' Ts',StepsR T A.N most (sched.drop j) a a'->most+100<=k'+a'.ord.length->Inv T A B Kc w₀ m₀ most A.N E' k' a' (leftN a'.ov A.N) v' inb' w'->Fr A B thr sch Ts'->HoldR Try.prog Fin Kc inb' 0 n (G (b.at ⟨Ts',ds⟩ K) cs) w')->
  HoldR Try.prog Fin Kc inb 0 n (G (b.at ⟨Ts,ds⟩ (.code lpC::.inLoop lpC::.inBlock 4::K)) cs) w:=by
 intro r
 induction r with
 |zero=>
  intro j hj E k a v inb w Ts hI hk hF t76 t77 t78 hmain;have e:j=sched.length:=by omega
  subst e;refine zq8f hFin (B:=B) (A:=A) hF t77 t78 hb λTs' hF'=>?_;exact hmain a E k v inb w Ts' (by rw[List.drop_length];exact .nil a) hk hI hF'
 |succ r ih=>
  intro j hj E k a v inb w Ts hI hk hF t76 t77 t78 hmain;have hjl:j<sched.length:=by omega
  have hx:sched[j]?=some sched[j]:=List.getElem?_eq_getElem hjl;obtain⟨k,rfl⟩:∃k',k=k'+1:=⟨k - 1,by have:=hI.len;omega⟩;refine zqec hFin hI hn hF hjl hL t76 t77 t78 ((hmem j _ hx).elim (λh=>zq82 hI h.1 h.2.1 h.2.2) λh=>h _ _ hI.cf.rep) hb λa' E' k' v' inb' w' Ts' hst hk' hI' hF' u76 u77 u78=>?_;have hJ':=zq10 hFin Kc inb' n;refine hJ'.ctl (s:=()) (λw=>stepG_inLoop) ?_;refine ih (j+1) (by omega) hI' (by omega) hF' u76 u77 u78 λa'' E'' k'' v'' inb'' w'' Ts'' hss hk'' hI'' hF''=>?_;refine hmain a'' E'' k'' v'' inb'' w'' Ts'' ?_ hk'' hI'' hF'';rw[List.drop_eq_getElem_cons hjl];exact .cons hst hss
noncomputable def lpD:Code:=match headC (tailN 9 (Try.f54.body.getD .skip))with|.block _ (.loop c)=>c|_=>.skip
noncomputable def lpE:Code:=match lpD with|.seq _ (.block _ (.seq _ (.block _ (.loop c))))=>c|_=>.skip
theorem zqcs{Fin:Machine->Trace->Prop}(hFin:Back Try.prog Fin){T:Thr M}{A:OA}{B:Bx}{Kc:Addr->Option Value}{w₀:World}{m₀:M}{most n:Nat}{E:Nat->Option Obj}{k:Nat}{a:OSt M}{v:Value}{inb:Nat->Option Seat}{w:World}
 (h:Inv T A B Kc w₀ m₀ most A.N E (k+1) a (leftN a.ov A.N) v inb w) (hn:A.n0+A.N<=n) {thr sch:Value} {j:Nat} {Ts:Array Value} (hF:Fr A B thr sch Ts) (hj:j<A.N) (t94:Ts[94]?=some (.int .i64 A.N)) (t95:Ts[95]?=some (.int .i64 j))
 {b:Frame} (hb:b.kind≠.early) {ds:List Deferred} {K:List Item} {cs:List Frame}
 (hmain:∀a' E' k' v' inb' w'(Ts':Array Value),Step1 T A.N most j a a'->k+a.ord.length+1<=k'+a'.ord.length->Inv T A B Kc w₀ m₀ most A.N E' k' a' (leftN a'.ov A.N) v' inb' w'->Fr A B thr sch Ts'->Ts'[94]?=some (.int .i64 A.N)->Ts'[95]?=some (.int .i64 (j+1:Nat))->
  HoldR Try.prog Fin Kc inb' 0 n (G (b.at ⟨Ts',ds⟩ (.inLoop lpE::.inBlock 8::K)) cs) w'):
 HoldR Try.prog Fin Kc inb 0 n (G (b.at ⟨Ts,ds⟩ (.code lpE::.inLoop lpE::.inBlock 8::K)) cs) w:=by
 have hJ:=zq10 hFin Kc inb n;have hN64:=h.N;obtain⟨hsz,f2,f3,f4,f5,f6,f7,f8,f9⟩:=hF;have hm:=Lib.hid hmain;clear hmain;have elp:lpE=match lpD with|.seq _ (.block _ (.seq _ (.block _ (.loop c))))=>c|_=>.skip:=rfl
 simp only[lpD,headC,tailN,Try.f54,al_od]at elp;generalize hlp:lpE=lp at elp |- hm;subst elp;have hjL:(j:Int)<A.N:=by omega
 have hj0:(0:Int)<=j:=by omega
 refine hJ.ctl (s:=()) (λw=>stepG_seq) ?_;refine hJ.ctl (s:=()) (λw=>stepG_region) ?_;refine zqr (J:=λ(_:Unit)=>HoldR Try.prog Fin Kc inb 0 n) (s:=()) hJ hb 0 [.bool true] [] rfl (by simp) (by rfl) ?_ ?_
 . intro τ d;simp only[zqo,dstOf,al_gl,al_g0,al_g1,al_ob];refine⟨?_,trivial⟩<;>(intro o ho;simp only[al_oi]at ho;subst ho)
   all_goals(try simp only[execOp,Act.eval,al_gd])
   all_goals(try simp only[al_gs,al_gz,hsz,f2,f3,f4,f5,f6,f7,f8,f9,t94,t95,Nat.reduceEqDiff,Nat.reduceLT,↓reduceIte,al_od])
   all_goals(have hlt:∀i,i<129->i<(Ts).size:=λi hi=>(by rw[hsz];exact hi))
   all_goals(clear hsz f2 f3 f4 f5 f6 f7 f8 f9 t94 t95)
   all_goals(try go_simp)
   all_goals(try omega)
 simp only[putv,dstOf,al_gl,al_g0,al_g1,al_ob];obtain⟨T1,hT⟩:∃X,X=(Ts).setIfInBounds 96 (.bool true):=⟨_,rfl⟩;rw[<-hT];have hT1:T1.size=129:=by rw[hT];simp[hsz]
 have T1_0:=sg1 hT f2;have T1_1:=sg1 hT f3;have T1_5:=sg1 hT f4;have T1_6:=sg1 hT f5;have T1_9:=sg1 hT f6;have T1_10:=sg1 hT f7;have T1_11:=sg1 hT f8;have T1_13:T1[13]?=some (stepV A B):=sg1 hT f9;have T1_94:=sg1 hT t94;have T1_95:=sg1 hT t95;have T1_96:T1[96]?=some (.bool true):=by rw[hT];simp[al_gs,hsz]
 clear hT f2 f3 f4 f5 f6 f7 f8 f9 t94 t95 hsz;refine hJ.ctl (s:=()) (λw=>stepG_region_end) ?_;refine hJ.ctl (s:=()) (λw=>stepG_seq) ?_;refine hJ.ctl (s:=()) (λw=>stepG_cond (t:=true) (by simp[Act.eval,al_gd,T1_96])) ?_;simp only[if_true];refine hJ.ctl (s:=()) (λw=>stepG_skip) ?_;refine hJ.ctl (s:=()) (λw=>stepG_seq) ?_;refine hJ.ctl (s:=()) (λw=>stepG_block) ?_;refine hJ.ctl (s:=()) (λw=>stepG_seq) ?_;refine hJ.ctl (s:=()) (λw=>stepG_region) ?_;refine zqr (J:=λ(_:Unit)=>HoldR Try.prog Fin Kc inb 0 n) (s:=()) hJ hb 0 [.int .i64 j,.int .i64 j] [] rfl (by simp) (by rfl) ?_ ?_
 . intro τ d;simp only[zqo,dstOf,al_gl,al_g0,al_g1,al_ob];refine⟨?_,?_,trivial⟩<;>(intro o ho;simp only[al_oi]at ho;subst ho)
   all_goals(try simp only[execOp,Act.eval,al_gd])
   all_goals(try simp only[al_gs,al_gz,hT1,T1_0,T1_1,T1_5,T1_6,T1_9,T1_10,T1_11,T1_13,T1_94,T1_95,T1_96,Nat.reduceEqDiff,Nat.reduceLT,↓reduceIte,al_od])
   all_goals(have hlt:∀i,i<129->i<(T1).size:=λi hi=>(by rw[hT1];exact hi))
   all_goals(clear hT1 T1_0 T1_1 T1_5 T1_6 T1_9 T1_10 T1_11 T1_13 T1_94 T1_95 T1_96)
   all_goals(try go_simp)
   all_goals(try omega)
 simp only[putv,dstOf,al_gl,al_g0,al_g1,al_ob];obtain⟨T2,hT⟩:∃X,X=((T1).setIfInBounds 97 (.int .i64 j)).setIfInBounds 16 (.int .i64 j):=⟨_,rfl⟩;rw[<-hT];have hT2:T2.size=129:=by rw[hT];simp[hT1]
 have T2_0:=sg2 hT T1_0;have T2_1:=sg2 hT T1_1;have T2_5:=sg2 hT T1_5;have T2_6:=sg2 hT T1_6;have T2_9:=sg2 hT T1_9;have T2_10:=sg2 hT T1_10;have T2_11:=sg2 hT T1_11;have T2_13:T2[13]?=some (stepV A B):=sg2 hT T1_13;have T2_94:=sg2 hT T1_94;have T2_95:=sg2 hT T1_95;have T2_96:=sg2 hT T1_96;have T2_97:T2[97]?=some (.int .i64 j):=by rw[hT];simp[al_gs,hT1]
 have T2_16:T2[16]?=some (.int .i64 j):=by rw[hT];simp[al_gs,hT1]
 clear hT T1_0 T1_1 T1_5 T1_6 T1_9 T1_10 T1_11 T1_13 T1_94 T1_95 T1_96 hT1;refine hJ.ctl (s:=()) (λw=>stepG_region_end) ?_;refine hJ.ctl (s:=()) (λw=>stepG_region) ?_;refine zqr (J:=λ(_:Unit)=>HoldR Try.prog Fin Kc inb 0 n) (s:=()) hJ hb 0 [stepV A B,.int .i64 j] [2] rfl (by simp) (by rfl) ?_ ?_
 . intro τ d;simp only[zqo,dstOf,al_gl,al_g0,al_g1,al_ob];refine⟨?_,?_,trivial⟩<;>(intro o ho;simp only[al_oi]at ho;subst ho)
   all_goals(try simp only[execOp,Act.eval,al_gd])
   all_goals(try simp only[al_gs,al_gz,hT2,T2_0,T2_1,T2_5,T2_6,T2_9,T2_10,T2_11,T2_13,T2_94,T2_95,T2_96,T2_97,T2_16,Nat.reduceEqDiff,Nat.reduceLT,↓reduceIte,al_od])
   all_goals(have hlt:∀i,i<129->i<(T2).size:=λi hi=>(by rw[hT2];exact hi))
   all_goals(clear hT2 T2_0 T2_1 T2_5 T2_6 T2_9 T2_10 T2_11 T2_13 T2_94 T2_95 T2_96 T2_97 T2_16)
   all_goals(try go_simp)
   all_goals(try omega)
 simp only[putv,dstOf,al_gl,al_g0,al_g1,al_ob];obtain⟨T3,hT⟩:∃X,X=((T2).setIfInBounds 98 (stepV A B)).setIfInBounds 99 (.int .i64 j):=⟨_,rfl⟩;rw[<-hT];have hT3:T3.size=129:=by rw[hT];simp[hT2]
 have T3_0:=sg2 hT T2_0;have T3_1:=sg2 hT T2_1;have T3_5:=sg2 hT T2_5;have T3_6:=sg2 hT T2_6;have T3_9:=sg2 hT T2_9;have T3_10:=sg2 hT T2_10;have T3_11:=sg2 hT T2_11;have T3_13:T3[13]?=some (stepV A B):=sg2 hT T2_13;have T3_94:=sg2 hT T2_94;have T3_95:=sg2 hT T2_95;have T3_96:=sg2 hT T2_96;have T3_97:=sg2 hT T2_97;have T3_16:=sg2 hT T2_16;have T3_98:T3[98]?=some (stepV A B):=by rw[hT];simp[al_gs,hT2]
 have T3_99:T3[99]?=some (.int .i64 j):=by rw[hT];simp[al_gs,hT2]
 clear hT T2_0 T2_1 T2_5 T2_6 T2_9 T2_10 T2_11 T2_13 T2_94 T2_95 T2_96 T2_97 T2_16 hT2;refine zq14 (J:=λ(_:Unit)=>HoldR Try.prog Fin Kc inb 0 n) (s:=()) hb hJ rfl (by simp[Region.wanted]) (f:=61) (args:=#[.int .i64 j,.pointer (some ⟨B.bN,0,none⟩),.pointer (some ⟨A.bX,0,none⟩),.pointer (some ⟨B.bO,0,none⟩),.pointer (some ⟨B.bM,0,none⟩),.pointer (some ⟨B.bL,0,none⟩)]) (λτ d=>?_) (λτ d=>?_) ?_
 . simp[go_sem,execOp,Act.eval,resolve,Deferred.ofValue,invoke,callFunc,Try.func61,Try.f61,stepV,al_gd,T3_98,T3_99]
 . intro e he;simp[go_sem,execOp,Act.eval,resolve,Deferred.ofValue,invoke,callFunc,Try.func61,Try.f61,Sem.runT_eq,stepV,al_gd,T3_98,T3_99]at he
 refine zq99 hFin h (j:Int) hn λa' E' k' v' inb' w' hst hk hI=>?_;have hJ3:=zq10 hFin Kc inb' n;rw[Frame.finish_at]
 try walk_nrm
 obtain⟨T4,hT⟩:∃X,X=(T3).setIfInBounds 100 (.tuple #[]):=⟨_,rfl⟩;rw[<-hT];have hT4:T4.size=129:=by rw[hT];simp[hT3]
 have T4_0:=sg1 hT T3_0;have T4_1:=sg1 hT T3_1;have T4_5:=sg1 hT T3_5;have T4_6:=sg1 hT T3_6;have T4_9:=sg1 hT T3_9;have T4_10:=sg1 hT T3_10;have T4_11:=sg1 hT T3_11;have T4_13:T4[13]?=some (stepV A B):=sg1 hT T3_13;have T4_94:=sg1 hT T3_94;have T4_95:=sg1 hT T3_95;have T4_96:=sg1 hT T3_96;have T4_97:=sg1 hT T3_97;have T4_16:=sg1 hT T3_16;have T4_98:T4[98]?=some (stepV A B):=sg1 hT T3_98;have T4_99:=sg1 hT T3_99;have T4_100:T4[100]?=some (.tuple #[]):=by rw[hT];simp[al_gs,hT3]
 clear hT T3_0 T3_1 T3_5 T3_6 T3_9 T3_10 T3_11 T3_13 T3_94 T3_95 T3_96 T3_97 T3_16 T3_98 T3_99 hT3;refine hJ3.ctl (s:=()) (λw=>stepG_region_end) ?_;refine hJ3.ctl (s:=()) (λw=>stepG_inBlock) ?_;refine hJ3.ctl (s:=()) (λw=>stepG_region) ?_;have hwr:IntKind.i64.wrap ((j:Int)+1)=((j+1:Nat):Int):=by
  rw[show(j:Int)+1=((j+1:Nat):Int)by omega];exact IntWalk.i64_in _ (by omega)
 refine zqr (J:=λ(_:Unit)=>HoldR Try.prog Fin Kc inb' 0 n) (s:=()) hJ3 hb 0 [.int .i64 ((j+1:Nat):Int),.int .i64 ((j+1:Nat):Int)] [] rfl (by simp) (by rfl) ?_ ?_
 . intro τ d;simp only[zqo,dstOf,al_gl,al_g0,al_g1,al_ob];refine⟨?_,?_,trivial⟩<;>(intro o ho;simp only[al_oi]at ho;subst ho)
   all_goals(try simp only[execOp,Act.eval,al_gd])
   all_goals(try simp only[al_gs,al_gz,hT4,T4_0,T4_1,T4_5,T4_6,T4_9,T4_10,T4_11,T4_13,T4_94,T4_95,T4_96,T4_97,T4_16,T4_98,T4_99,T4_100,Nat.reduceEqDiff,Nat.reduceLT,↓reduceIte,al_od])
   all_goals(have hlt:∀i,i<129->i<(T4).size:=λi hi=>(by rw[hT4];exact hi))
   all_goals(clear hT4 T4_0 T4_1 T4_5 T4_6 T4_9 T4_10 T4_11 T4_13 T4_94 T4_95 T4_96 T4_97 T4_16 T4_98 T4_99 T4_100)
   all_goals(try go_simp)
   all_goals(try omega)
 simp only[putv,dstOf,al_gl,al_g0,al_g1,al_ob];obtain⟨T5,hT⟩:∃X,X=((T4).setIfInBounds 101 (.int .i64 ((j+1:Nat):Int))).setIfInBounds 95 (.int .i64 ((j+1:Nat):Int)):=⟨_,rfl⟩;rw[<-hT];have hT5:T5.size=129:=by rw[hT];simp[hT4]
 have T5_0:=sg2 hT T4_0;have T5_1:=sg2 hT T4_1;have T5_5:=sg2 hT T4_5;have T5_6:=sg2 hT T4_6;have T5_9:=sg2 hT T4_9;have T5_10:=sg2 hT T4_10;have T5_11:=sg2 hT T4_11;have T5_13:T5[13]?=some (stepV A B):=sg2 hT T4_13;have T5_94:=sg2 hT T4_94;have T5_96:=sg2 hT T4_96;have T5_97:=sg2 hT T4_97;have T5_16:=sg2 hT T4_16;have T5_98:T5[98]?=some (stepV A B):=sg2 hT T4_98;have T5_99:=sg2 hT T4_99;have T5_100:=sg2 hT T4_100;have T5_101:T5[101]?=some (.int .i64 ((j+1:Nat):Int)):=by rw[hT];simp[al_gs,hT4]
 have T5_95:T5[95]?=some (.int .i64 ((j+1:Nat):Int)):=by rw[hT];simp[al_gs,hT4]
 clear hT T4_0 T4_1 T4_5 T4_6 T4_9 T4_10 T4_11 T4_13 T4_94 T4_95 T4_96 T4_97 T4_16 T4_98 T4_99 T4_100 hT4;refine hJ3.ctl (s:=()) (λw=>stepG_region_end) ?_;exact hm.out _ E' k' v' inb' w' _ hst hk hI ⟨hT5,T5_0,T5_1,T5_5,T5_6,T5_9,T5_10,T5_11,T5_13⟩ T5_94 T5_95
theorem zqcq{Fin:Machine->Trace->Prop}(hFin:Back Try.prog Fin){A:OA}{B:Bx}{Kc:Addr->Option Value}{n:Nat}{inb:Nat->Option Seat}{w:World}{thr sch:Value}{Ts:Array Value}(hF:Fr A B thr sch Ts)(t94:Ts[94]?=some (.int .i64 A.N))(t95:Ts[95]?=some (.int .i64 A.N))
 {b:Frame} (hb:b.kind≠.early) {ds:List Deferred} {K:List Item} {cs:List Frame} (hmain:∀Ts',Fr A B thr sch Ts'->HoldR Try.prog Fin Kc inb 0 n (G (b.at ⟨Ts',ds⟩ K) cs) w):
 HoldR Try.prog Fin Kc inb 0 n (G (b.at ⟨Ts,ds⟩ (.code lpE::.inLoop lpE::.inBlock 8::K)) cs) w:=by
 have hJ:=zq10 hFin Kc inb n;obtain⟨hsz,f2,f3,f4,f5,f6,f7,f8,f9⟩:=hF;have hm:=Lib.hid hmain;clear hmain;have elp:lpE=match lpD with|.seq _ (.block _ (.seq _ (.block _ (.loop c))))=>c|_=>.skip:=rfl
 simp only[lpD,headC,tailN,Try.f54,al_od]at elp;generalize hlp:lpE=lp at elp |- hm;subst elp;refine hJ.ctl (s:=()) (λw=>stepG_seq) ?_;refine hJ.ctl (s:=()) (λw=>stepG_region) ?_;refine zqr (J:=λ(_:Unit)=>HoldR Try.prog Fin Kc inb 0 n) (s:=()) hJ hb 0 [.bool false] [] rfl (by simp) (by rfl) ?_ ?_
 . intro τ d;simp only[zqo,dstOf,al_gl,al_g0,al_g1,al_ob];refine⟨?_,trivial⟩<;>(intro o ho;simp only[al_oi]at ho;subst ho)
   all_goals(try simp only[execOp,Act.eval,al_gd])
   all_goals(try simp only[al_gs,al_gz,hsz,f2,f3,f4,f5,f6,f7,f8,f9,t94,t95,Nat.reduceEqDiff,Nat.reduceLT,↓reduceIte,al_od])
   all_goals(have hlt:∀i,i<129->i<(Ts).size:=λi hi=>(by rw[hsz];exact hi))
   all_goals(clear hsz f2 f3 f4 f5 f6 f7 f8 f9 t94 t95)
   all_goals(try go_simp)
   all_goals(try omega)
 simp only[putv,dstOf,al_gl,al_g0,al_g1,al_ob];obtain⟨T1,hT⟩:∃X,X=(Ts).setIfInBounds 96 (.bool false):=⟨_,rfl⟩;rw[<-hT];have hT1:T1.size=129:=by rw[hT];simp[hsz]
 have T1_0:=sg1 hT f2;have T1_1:=sg1 hT f3;have T1_5:=sg1 hT f4;have T1_6:=sg1 hT f5;have T1_9:=sg1 hT f6;have T1_10:=sg1 hT f7;have T1_11:=sg1 hT f8;have T1_13:T1[13]?=some (stepV A B):=sg1 hT f9;have T1_94:=sg1 hT t94;have T1_95:=sg1 hT t95;have T1_96:T1[96]?=some (.bool false):=by rw[hT];simp[al_gs,hsz]
 clear hT f2 f3 f4 f5 f6 f7 f8 f9 t94 t95 hsz;refine hJ.ctl (s:=()) (λw=>stepG_region_end) ?_;refine hJ.ctl (s:=()) (λw=>stepG_seq) ?_;refine hJ.ctl (s:=()) (λw=>stepG_cond (t:=false) (by simp[Act.eval,al_gd,T1_96])) ?_;simp only[Bool.false_eq_true,if_false];refine hJ.ctl (s:=()) (λw=>stepG_exit (k':=K) rfl) ?_;exact hm.out _ ⟨hT1,T1_0,T1_1,T1_5,T1_6,T1_9,T1_10,T1_11,T1_13⟩
theorem zqcr{Fin:Machine->Trace->Prop}(hFin:Back Try.prog Fin){T:Thr M}{A:OA}{B:Bx}{Kc:Addr->Option Value}{w₀:World}{m₀:M}{most n:Nat}(hn:A.n0+A.N<=n){thr sch:Value}{b:Frame}(hb:b.kind≠.early){ds:List Deferred}{K:List Item}{cs:List Frame}:
 ∀(r j:Nat),j+r=A.N->∀{E:Nat->Option Obj}{k:Nat}{a:OSt M}{v:Value}{inb:Nat->Option Seat}{w:World}{Ts:Array Value},Inv T A B Kc w₀ m₀ most A.N E k a (leftN a.ov A.N) v inb w->most+100<=k+a.ord.length->Fr A B thr sch Ts->
  Ts[94]?=some (.int .i64 A.N)->Ts[95]?=some (.int .i64 j)->
  (∀a' E' k' v' inb' w' Ts',StepsR T A.N most ((upto A.N).drop j) a a'->most+100<=k'+a'.ord.length->Inv T A B Kc w₀ m₀ most A.N E' k' a' (leftN a'.ov A.N) v' inb' w'->Fr A B thr sch Ts'->HoldR Try.prog Fin Kc inb' 0 n (G (b.at ⟨Ts',ds⟩ K) cs) w')->
  HoldR Try.prog Fin Kc inb 0 n (G (b.at ⟨Ts,ds⟩ (.code lpE::.inLoop lpE::.inBlock 8::K)) cs) w:=by
 intro r
 induction r with
 |zero=>
  intro j hj E k a v inb w Ts hI hk hF t94 t95 hmain;have e:j=A.N:=by omega
  subst e;refine zqcq hFin (B:=B) (A:=A) hF t94 t95 hb λTs' hF'=>?_;exact hmain a E k v inb w Ts' (by rw[List.drop_of_length_le (by rw[zqao];exact Nat.le_refl _)];exact .nil a) hk hI hF'
 |succ r ih=>
  intro j hj E k a v inb w Ts hI hk hF t94 t95 hmain;have hjl:j<(upto A.N).length:=by rw[zqao];omega
  obtain⟨k,rfl⟩:∃k',k=k'+1:=⟨k - 1,by have:=hI.len;omega⟩;refine zqcs hFin hI hn hF (by omega) t94 t95 hb λa' E' k' v' inb' w' Ts' hst hk' hI' hF' u94 u95=>?_;have hJ':=zq10 hFin Kc inb' n;refine hJ'.ctl (s:=()) (λw=>stepG_inLoop) ?_;refine ih (j+1) (by omega) hI' (by omega) hF' u94 u95 λa'' E'' k'' v'' inb'' w'' Ts'' hss hk'' hI'' hF''=>?_;refine hmain a'' E'' k'' v'' inb'' w'' Ts'' ?_ hk'' hI'' hF'';have hg:(upto A.N)[j]'hjl=(j:Int):=by
   have:=upto_get (N:=A.N) (j:=j) (by omega);rw[List.getElem?_eq_getElem hjl]at this;exact Option.some.inj this
  rw[List.drop_eq_getElem_cons hjl,hg];exact .cons hst hss
end
section
variable {M:Type}
theorem zq86{Kc:Addr->Option Value}{J:Goroutine->World->Prop}(hJ:JM Try.prog Kc J){A:OA}{B:Bx}{w:World}{thr sch:Value}{L len cap most:Nat}{p:Option Addr}{Ts:Array Value}(hF:Fr A B thr sch Ts)
 (cL:w.cell? ⟨B.bL,0,none⟩=some (.int .i64 L)) (cO:w.cell? ⟨B.bO,0,none⟩=some (.slice p len cap)) (cM:w.cell? ⟨B.bM,0,none⟩=some (.int .i64 most))
 {b:Frame} (hb:b.kind≠.early) {ds:List Deferred} {K:List Item} {cs:List Frame}
 (hno:¬(0<L/\len<most)->∀Ts',Fr A B thr sch Ts'->J (G (b.at ⟨Ts',ds⟩ K) cs) w)
 (hgo:0<L/\len<most->∀Ts',Fr A B thr sch Ts'->J (G (b.at ⟨Ts',ds⟩ (.code (match lpD with|.seq _ c=>c|_=>.skip)::.inLoop lpD::.inBlock 6::K)) cs) w):
 J (G (b.at ⟨Ts,ds⟩ (.code lpD::.inLoop lpD::.inBlock 6::K)) cs) w:=by
 obtain⟨hsz,f2,f3,f4,f5,f6,f7,f8,f9⟩:=hF;have elp:lpD=match headC (tailN 9 (Try.f54.body.getD .skip))with|.block _ (.loop c)=>c|_=>.skip:=rfl
 simp only[headC,tailN,Try.f54,al_od]at elp;have hgo':Hid (0<L/\len<most->∀Ts',Fr A B thr sch Ts'->J (G (b.at ⟨Ts',ds⟩ (.code (match lpD with|.seq _ c=>c|_=>.skip)::.inLoop lpD::.inBlock 6::K)) cs) w):=Lib.hid hgo;have hno':=Lib.hid hno;clear hgo hno;generalize hlp:lpD=lp at elp |- hgo';subst elp;simp only[]at hgo'
 by_cases h0:L=0
 . subst h0;refine hJ.ctl (s:=()) (λw=>stepG_seq) ?_;refine hJ.ctl (s:=()) (λw=>stepG_seq) ?_;refine hJ.ctl (s:=()) (λw=>stepG_region) ?_;refine zq5e (J:=λ(_:Unit)=>J) (s:=()) hJ hb 0 [some (.int .i64 (0:Nat)),some (.bool false),some (.bool false),none,none,none,none,some (.bool false)] [] rfl (by simp) (by rfl) ?_ ?_
   . intro τ d;simp only[zq2p,dstOf,al_gl,al_g0,al_g1,al_ob];refine⟨?_,?_,?_,?_,?_,?_,?_,?_,trivial⟩<;>(intro o ho;simp only[al_oi]at ho;subst ho)
     all_goals(first|refine⟨by simp[Region.wanted,yielded,al_gs,hsz,f2,f3,f4,f5,f6,f7,f8,f9],?_⟩|(simp[Region.wanted,yielded,al_gs,hsz,f2,f3,f4,f5,f6,f7,f8,f9];done))
     all_goals(try simp only[execOp,Act.eval,al_gd])
     all_goals(try simp only[al_gs,al_gz,hsz,f2,f3,f4,f5,f6,f7,f8,f9,Nat.reduceEqDiff,Nat.reduceLT,↓reduceIte,al_od])
     all_goals(have hlt:∀i,i<129->i<(Ts).size:=λi hi=>(by rw[hsz];exact hi))
     all_goals(clear hsz f2 f3 f4 f5 f6 f7 f8 f9)
     all_goals(try go_simp)
     all_goals(try omega)
   simp only[putG,dstOf,al_gl,al_g0,al_g1,al_ob,al_od,Option.getD_none];obtain⟨T1,hT⟩:∃X,X=((((((((Ts).setIfInBounds 86 (.int .i64 (0:Nat))).setIfInBounds 87 (.bool false)).setIfInBounds 88 (.bool false)).setIfInBounds 89 (undef)).setIfInBounds 90 (undef)).setIfInBounds 91 (undef)).setIfInBounds 92 (undef)).setIfInBounds 93 (.bool false):=⟨_,rfl⟩;rw[<-hT];have hT1:T1.size=129:=by rw[hT];simp[hsz]
   have T1_0:=sg8 hT f2;have T1_1:=sg8 hT f3;have T1_5:=sg8 hT f4;have T1_6:=sg8 hT f5;have T1_9:=sg8 hT f6;have T1_10:=sg8 hT f7;have T1_11:=sg8 hT f8;have T1_13:T1[13]?=some (stepV A B):=sg8 hT f9;have T1_86:T1[86]?=some (.int .i64 (0:Nat)):=by rw[hT];simp[al_gs,hsz]
   have T1_87:T1[87]?=some (.bool false):=by rw[hT];simp[al_gs,hsz]
   have T1_88:T1[88]?=some (.bool false):=by rw[hT];simp[al_gs,hsz]
   have T1_89:T1[89]?=some (undef):=by rw[hT];simp[al_gs,hsz]
   have T1_90:T1[90]?=some (undef):=by rw[hT];simp[al_gs,hsz]
   have T1_91:T1[91]?=some (undef):=by rw[hT];simp[al_gs,hsz]
   have T1_92:T1[92]?=some (undef):=by rw[hT];simp[al_gs,hsz]
   have T1_93:T1[93]?=some (.bool false):=by rw[hT];simp[al_gs,hsz]
   clear hT f2 f3 f4 f5 f6 f7 f8 f9 hsz;refine hJ.ctl (s:=()) (λw=>stepG_region_end) ?_;refine hJ.ctl (s:=()) (λw=>stepG_cond (t:=false) (by simp[Act.eval,al_gd,T1_93])) ?_;simp only[Bool.false_eq_true,if_false];refine hJ.ctl (s:=()) (λw=>stepG_exit (k':=K) rfl) ?_;exact hno'.out (by omega) _ ⟨hT1,T1_0,T1_1,T1_5,T1_6,T1_9,T1_10,T1_11,T1_13⟩
 have h0i:(0:Int)<L:=by omega
 by_cases h1:len<most
 . have h1i:(len:Int)<most:=by omega
   refine hJ.ctl (s:=()) (λw=>stepG_seq) ?_;refine hJ.ctl (s:=()) (λw=>stepG_seq) ?_;refine hJ.ctl (s:=()) (λw=>stepG_region) ?_;refine zq5e (J:=λ(_:Unit)=>J) (s:=()) hJ hb 0 [some (.int .i64 L),some (.bool true),some (.bool true),some (.slice p len cap),some (.int .i64 len),some (.int .i64 most),some (.bool true),some (.bool true)] [] rfl (by simp) (by rfl) ?_ ?_
   . intro τ d;simp only[zq2p,dstOf,al_gl,al_g0,al_g1,al_ob];refine⟨?_,?_,?_,?_,?_,?_,?_,?_,trivial⟩<;>(intro o ho;simp only[al_oi]at ho;subst ho)
     all_goals(first|refine⟨by simp[Region.wanted,yielded,al_gs,hsz,f2,f3,f4,f5,f6,f7,f8,f9],?_⟩|(simp[Region.wanted,yielded,al_gs,hsz,f2,f3,f4,f5,f6,f7,f8,f9];done))
     all_goals(try simp only[execOp,Act.eval,al_gd])
     all_goals(try simp only[al_gs,al_gz,hsz,f2,f3,f4,f5,f6,f7,f8,f9,Nat.reduceEqDiff,Nat.reduceLT,↓reduceIte,al_od])
     all_goals(have hlt:∀i,i<129->i<(Ts).size:=λi hi=>(by rw[hsz];exact hi))
     all_goals(clear hsz f2 f3 f4 f5 f6 f7 f8 f9)
     all_goals(try go_simp)
     all_goals(try omega)
   simp only[putG,dstOf,al_gl,al_g0,al_g1,al_ob,al_od,Option.getD_none];obtain⟨T1,hT⟩:∃X,X=((((((((Ts).setIfInBounds 86 (.int .i64 L)).setIfInBounds 87 (.bool true)).setIfInBounds 88 (.bool true)).setIfInBounds 89 (.slice p len cap)).setIfInBounds 90 (.int .i64 len)).setIfInBounds 91 (.int .i64 most)).setIfInBounds 92 (.bool true)).setIfInBounds 93 (.bool true):=⟨_,rfl⟩;rw[<-hT];have hT1:T1.size=129:=by rw[hT];simp[hsz]
   have T1_0:=sg8 hT f2;have T1_1:=sg8 hT f3;have T1_5:=sg8 hT f4;have T1_6:=sg8 hT f5;have T1_9:=sg8 hT f6;have T1_10:=sg8 hT f7;have T1_11:=sg8 hT f8;have T1_13:T1[13]?=some (stepV A B):=sg8 hT f9;have T1_86:T1[86]?=some (.int .i64 L):=by rw[hT];simp[al_gs,hsz]
   have T1_87:T1[87]?=some (.bool true):=by rw[hT];simp[al_gs,hsz]
   have T1_88:T1[88]?=some (.bool true):=by rw[hT];simp[al_gs,hsz]
   have T1_89:T1[89]?=some (.slice p len cap):=by rw[hT];simp[al_gs,hsz]
   have T1_90:T1[90]?=some (.int .i64 len):=by rw[hT];simp[al_gs,hsz]
   have T1_91:T1[91]?=some (.int .i64 most):=by rw[hT];simp[al_gs,hsz]
   have T1_92:T1[92]?=some (.bool true):=by rw[hT];simp[al_gs,hsz]
   have T1_93:T1[93]?=some (.bool true):=by rw[hT];simp[al_gs,hsz]
   clear hT f2 f3 f4 f5 f6 f7 f8 f9 hsz;refine hJ.ctl (s:=()) (λw=>stepG_region_end) ?_;refine hJ.ctl (s:=()) (λw=>stepG_cond (t:=true) (by simp[Act.eval,al_gd,T1_93])) ?_;simp only[if_true];refine hJ.ctl (s:=()) (λw=>stepG_skip) ?_;exact hgo'.out ⟨by omega,by omega⟩ _ ⟨hT1,T1_0,T1_1,T1_5,T1_6,T1_9,T1_10,T1_11,T1_13⟩
 . have h1i:decide ((len:Int)<most)=false:=by simp;omega
   have h1n:decide (len<most)=false:=by simp;omega
   refine hJ.ctl (s:=()) (λw=>stepG_seq) ?_;refine hJ.ctl (s:=()) (λw=>stepG_seq) ?_;refine hJ.ctl (s:=()) (λw=>stepG_region) ?_;refine zq5e (J:=λ(_:Unit)=>J) (s:=()) hJ hb 0 [some (.int .i64 L),some (.bool true),some (.bool true),some (.slice p len cap),some (.int .i64 len),some (.int .i64 most),some (.bool false),some (.bool false)] [] rfl (by simp) (by rfl) ?_ ?_
   . intro τ d;simp only[zq2p,dstOf,al_gl,al_g0,al_g1,al_ob];refine⟨?_,?_,?_,?_,?_,?_,?_,?_,trivial⟩<;>(intro o ho;simp only[al_oi]at ho;subst ho)
     all_goals(first|refine⟨by simp[Region.wanted,yielded,al_gs,hsz,f2,f3,f4,f5,f6,f7,f8,f9],?_⟩|(simp[Region.wanted,yielded,al_gs,hsz,f2,f3,f4,f5,f6,f7,f8,f9];done))
     all_goals(try simp only[execOp,Act.eval,al_gd])
     all_goals(try simp only[al_gs,al_gz,hsz,f2,f3,f4,f5,f6,f7,f8,f9,Nat.reduceEqDiff,Nat.reduceLT,↓reduceIte,al_od])
     all_goals(have hlt:∀i,i<129->i<(Ts).size:=λi hi=>(by rw[hsz];exact hi))
     all_goals(clear hsz f2 f3 f4 f5 f6 f7 f8 f9)
     all_goals(try go_simp)
     all_goals(try omega)
   simp only[putG,dstOf,al_gl,al_g0,al_g1,al_ob,al_od,Option.getD_none];obtain⟨T1,hT⟩:∃X,X=((((((((Ts).setIfInBounds 86 (.int .i64 L)).setIfInBounds 87 (.bool true)).setIfInBounds 88 (.bool true)).setIfInBounds 89 (.slice p len cap)).setIfInBounds 90 (.int .i64 len)).setIfInBounds 91 (.int .i64 most)).setIfInBounds 92 (.bool false)).setIfInBounds 93 (.bool false):=⟨_,rfl⟩;rw[<-hT];have hT1:T1.size=129:=by rw[hT];simp[hsz]
   have T1_0:=sg8 hT f2;have T1_1:=sg8 hT f3;have T1_5:=sg8 hT f4;have T1_6:=sg8 hT f5;have T1_9:=sg8 hT f6;have T1_10:=sg8 hT f7;have T1_11:=sg8 hT f8;have T1_13:T1[13]?=some (stepV A B):=sg8 hT f9;have T1_86:T1[86]?=some (.int .i64 L):=by rw[hT];simp[al_gs,hsz]
   have T1_87:T1[87]?=some (.bool true):=by rw[hT];simp[al_gs,hsz]
   have T1_88:T1[88]?=some (.bool true):=by rw[hT];simp[al_gs,hsz]
   have T1_89:T1[89]?=some (.slice p len cap):=by rw[hT];simp[al_gs,hsz]
   have T1_90:T1[90]?=some (.int .i64 len):=by rw[hT];simp[al_gs,hsz]
   have T1_91:T1[91]?=some (.int .i64 most):=by rw[hT];simp[al_gs,hsz]
   have T1_92:T1[92]?=some (.bool false):=by rw[hT];simp[al_gs,hsz]
   have T1_93:T1[93]?=some (.bool false):=by rw[hT];simp[al_gs,hsz]
   clear hT f2 f3 f4 f5 f6 f7 f8 f9 hsz;refine hJ.ctl (s:=()) (λw=>stepG_region_end) ?_;refine hJ.ctl (s:=()) (λw=>stepG_cond (t:=false) (by simp[Act.eval,al_gd,T1_93])) ?_;simp only[Bool.false_eq_true,if_false];refine hJ.ctl (s:=()) (λw=>stepG_exit (k':=K) rfl) ?_;exact hno'.out (by omega) _ ⟨hT1,T1_0,T1_1,T1_5,T1_6,T1_9,T1_10,T1_11,T1_13⟩
theorem zqe6{Fin:Machine->Trace->Prop}(hFin:Back Try.prog Fin){A:OA}{B:Bx}{Kc:Addr->Option Value}{n:Nat}{inb:Nat->Option Seat}{w:World}{thr sch:Value}{Ts:Array Value}(hF:Fr A B thr sch Ts)(cN:w.cell? ⟨B.bN,0,none⟩=some (.int .i64 A.N))
 {b:Frame} (hb:b.kind≠.early) {ds:List Deferred} {K:List Item} {cs:List Frame}
 (hmain:∀Ts',Fr A B thr sch Ts'->Ts'[94]?=some (.int .i64 A.N)->Ts'[95]?=some (.int .i64 (0:Nat))->HoldR Try.prog Fin Kc inb 0 n (G (b.at ⟨Ts',ds⟩ (.code lpE::.inLoop lpE::.inBlock 8::.inBlock 7::K)) cs) w):
 HoldR Try.prog Fin Kc inb 0 n (G (b.at ⟨Ts,ds⟩ (.code (match lpD with|.seq _ c=>c|_=>.skip)::K)) cs) w:=by
 have hJ:=zq10 hFin Kc inb n;obtain⟨hsz,f2,f3,f4,f5,f6,f7,f8,f9⟩:=hF;have hm:=Lib.hid hmain;clear hmain;have elp:(match lpD with|.seq _ c=>c|_=>.skip:Code)=(match (match headC (tailN 9 (Try.f54.body.getD .skip))with|.block _ (.loop c)=>c|_=>.skip:Code)with|.seq _ c=>c|_=>.skip):=rfl;simp only[headC,tailN,Try.f54,al_od]at elp;have ele:lpE=match lpD with|.seq _ (.block _ (.seq _ (.block _ (.loop c))))=>c|_=>.skip:=rfl
 simp only[lpD,headC,tailN,Try.f54,al_od]at ele;generalize hlp:(match lpD with|.seq _ c=>c|_=>.skip:Code)=lp at elp |-;generalize hle:lpE=le at ele hm;subst elp ele;refine hJ.ctl (s:=()) (λw=>stepG_block) ?_;refine hJ.ctl (s:=()) (λw=>stepG_seq) ?_;refine hJ.ctl (s:=()) (λw=>stepG_region) ?_;refine zqr (J:=λ(_:Unit)=>HoldR Try.prog Fin Kc inb 0 n) (s:=()) hJ hb 0 [.int .i64 A.N,.int .i64 (0:Nat)] [] rfl (by simp) (by rfl) ?_ ?_
 . intro τ d;simp only[zqo,dstOf,al_gl,al_g0,al_g1,al_ob];refine⟨?_,?_,trivial⟩<;>(intro o ho;simp only[al_oi]at ho;subst ho)
   all_goals(try simp only[execOp,Act.eval,al_gd])
   all_goals(try simp only[al_gs,al_gz,hsz,f2,f3,f4,f5,f6,f7,f8,f9,Nat.reduceEqDiff,Nat.reduceLT,↓reduceIte,al_od])
   all_goals(have hlt:∀i,i<129->i<(Ts).size:=λi hi=>(by rw[hsz];exact hi))
   all_goals(clear hsz f2 f3 f4 f5 f6 f7 f8 f9)
   all_goals(try go_simp)
   all_goals(try omega)
 simp only[putv,dstOf,al_gl,al_g0,al_g1,al_ob];obtain⟨T1,hT⟩:∃X,X=((Ts).setIfInBounds 94 (.int .i64 A.N)).setIfInBounds 95 (.int .i64 (0:Nat)):=⟨_,rfl⟩;rw[<-hT];have hT1:T1.size=129:=by rw[hT];simp[hsz]
 have T1_0:=sg2 hT f2;have T1_1:=sg2 hT f3;have T1_5:=sg2 hT f4;have T1_6:=sg2 hT f5;have T1_9:=sg2 hT f6;have T1_10:=sg2 hT f7;have T1_11:=sg2 hT f8;have T1_13:T1[13]?=some (stepV A B):=sg2 hT f9;have T1_94:T1[94]?=some (.int .i64 A.N):=by rw[hT];simp[al_gs,hsz]
 have T1_95:T1[95]?=some (.int .i64 (0:Nat)):=by rw[hT];simp[al_gs,hsz]
 clear hT f2 f3 f4 f5 f6 f7 f8 f9 hsz;refine hJ.ctl (s:=()) (λw=>stepG_region_end) ?_;refine hJ.ctl (s:=()) (λw=>stepG_block) ?_;refine hJ.ctl (s:=()) (λw=>stepG_loop) ?_;exact hm.out _ ⟨hT1,T1_0,T1_1,T1_5,T1_6,T1_9,T1_10,T1_11,T1_13⟩ T1_94 T1_95
theorem zqe5{Fin:Machine->Trace->Prop}(hFin:Back Try.prog Fin){T:Thr M}{A:OA}{B:Bx}{Kc:Addr->Option Value}{w₀:World}{m₀:M}{most n:Nat}(hn:A.n0+A.N<=n){thr sch:Value}{b:Frame}(hb:b.kind≠.early){ds:List Deferred}{K:List Item}{cs:List Frame}:
 ∀(f:Nat){E:Nat->Option Obj}{k:Nat}{a:OSt M}{v:Value}{inb:Nat->Option Seat}{w:World}{Ts:Array Value},most - a.ord.length<=f->Inv T A B Kc w₀ m₀ most A.N E k a (leftN a.ov A.N) v inb w->most+100<=k+a.ord.length->Fr A B thr sch Ts->
  (∀a' E' k' v' inb' w' Ts',zq31 T A.N most a a'->most+100<=k'+a'.ord.length->Inv T A B Kc w₀ m₀ most A.N E' k' a' (leftN a'.ov A.N) v' inb' w'->Fr A B thr sch Ts'->HoldR Try.prog Fin Kc inb' 0 n (G (b.at ⟨Ts',ds⟩ K) cs) w')->
  HoldR Try.prog Fin Kc inb 0 n (G (b.at ⟨Ts,ds⟩ (.code lpD::.inLoop lpD::.inBlock 6::K)) cs) w:=by
 intro f
 induction f with
 |zero=>
  intro E k a v inb w Ts hf hI hk hF hmain;obtain⟨p,cap,hv,hd⟩:=hI.head;refine zq86 (zq10 hFin Kc inb n) hF (hI.cell hI.eL).1 hd.cO hd.cM hb (λhno Ts' hF'=>hmain a E k v inb w Ts' (.stop a hno) hk hI hF') (λhgo=>by omega)
 |succ f ih=>
  intro E k a v inb w Ts hf hI hk hF hmain;obtain⟨p,cap,hv,hd⟩:=hI.head;refine zq86 (zq10 hFin Kc inb n) hF (hI.cell hI.eL).1 hd.cO hd.cM hb (λhno Ts' hF'=>hmain a E k v inb w Ts' (.stop a hno) hk hI hF') (λhgo Ts' hF'=>?_);refine zqe6 hFin (A:=A) (B:=B) hF' hd.cN hb λTs2 hF2 u94 u95=>?_;refine zqcr hFin hn hb A.N 0 (by omega) hI hk hF2 u94 u95 λa' E' k' v' inb' w' Ts3 hss hk' hI' hF3=>?_;have hJ':=zq10 hFin Kc inb' n;refine hJ'.ctl (s:=()) (λw=>stepG_inBlock) ?_;refine hJ'.ctl (s:=()) (λw=>stepG_inLoop) ?_;have hss':StepsR T A.N most (upto A.N) a a':=by simpa using hss
  obtain⟨i,hi,ho⟩:=zq7p hgo.1;have hp:=hss'.progress hi (mem_upto hi) ho hgo.2;refine ih (by omega) hI' hk' hF3 λa'' E'' k'' v'' inb'' w'' Ts'' hr hk'' hI'' hF''=>?_;exact hmain a'' E'' k'' v'' inb'' w'' Ts'' (.more hgo hss' hr) hk'' hI'' hF''
end
end Go.Proofs
