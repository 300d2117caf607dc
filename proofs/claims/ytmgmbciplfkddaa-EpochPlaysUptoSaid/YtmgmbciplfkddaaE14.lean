/- YtmgmbciplfkddaaEPlays2: part 14 of the proof (the texts behind it, in order). -/
import Derived.Test.YtmgmbciplfkddaaE13
set_option maxHeartbeats 4000000
set_option maxRecDepth 100000
set_option linter.all false
namespace Go.Proofs
open Go Go.Conc Go.RowKit Go.Car
structure HeldE(B:Nat)(w w':World):Prop where
 size:w.heap.size<=w'.heap.size
 old:∀b,b<B->b<w.heap.size->w'.heap[b]?=w.heap[b]?
theorem HeldE.trans {B:Nat}{a b c:World}(h:HeldE B a b)(k:HeldE B b c):HeldE B a c:=⟨Nat.le_trans h.size k.size,λx hx hs=>(k.old x hx (Nat.lt_of_lt_of_le hs h.size)).trans (h.old x hx hs)⟩
theorem Tch.held {S:Nat->Prop}{B:Nat}{w w':World}(h:Tch S w w')(hS:∀b,S b->B<=b):HeldE B w w':=⟨h.size,λb hb hs=>h.old b hs λk=>by have:=hS b k;omega⟩
def KeepQ(w w':World):Prop:=∀(b:Nat)(c:Array Value)(T:TypeId),w.heap[b]?=some (.cells c T)->T≠60->T≠2->T≠115->T≠52->T≠117->T≠103->T≠48->w'.heap[b]?=w.heap[b]?
theorem KeepQ.trans {a b c:World}(h:KeepQ a b)(k:KeepQ b c):KeepQ a c:=λx o T h0 h1 h2 h3 h4 h5 h6 h7=>by
 have e:=h x o T h0 h1 h2 h3 h4 h5 h6 h7;exact(k x o T (e.trans h0) h1 h2 h3 h4 h5 h6 h7).trans e
def zq70(G:Nat->Option Obj)(K:CR)(lv:Value)(op:OpX)(t t':RTh):Prop:=
 (∃lp ln lc l t1,K.done=true/\lv=.slice lp ln lc/\LsP G ⟨K.ok,K.n,l⟩ (.slice lp ln lc)/\t'=RTh.fin t1 ⟨K.ok,K.n,l⟩/\t1.at'=t.at'/\t1.ans=t.ans)\/
 (K.done=false/\lv=.slice none 0 0/\K=crOf op t'/\t'.at'=t.at'/\t'.ans=t.ans/\t'.pc≠0)
def EStep(G:Nat->Option Obj)(B rb gm gM N n:Nat)(opv:Nat->Value)(ops:Nat->List OpX)(T:Nat->RTh)(ov cp:Nat->Value)(tb:Nat->Nat)(lvs:Nat->List Value)(x cb:Nat)(op:OpX)(R:EpS×RTh)(w:World)(e':Ending)(w':World):Prop:=
 e'=.returned (.tuple #[])/\∃G' hv' K lv,ERep (λi=>i=x) G' B rb gm gM N n opv ops R.1 T hv' ov cp tb lvs w'/\CrAt cb x K lv w'/\HeldE B w w'/\KeepQ w w'/\zq70 G' K lv op (T x) R.2
section
variable {G:Nat->Option Obj} {B rb gm gM N n:Nat} {opv:Nat->Value} {ops:Nat->List OpX} {C C':EpS} {T:Nat->RTh} {hv ov cp:Nat->Value} {tb:Nat->Nat} {lvs:Nat->List Value} {w w':World} {x cb:Nat} {op:OpX}
theorem Tch.heldE (h:Tch (TcE gm gM cb rb) w w')(hlo:B<=rb/\B<=gm/\B<=gM)(hcb:B<=cb):HeldE B w w':=h.held λb hb=>by
 rcases hb with e|e|e|e<;>omega
theorem ERep.keepS (h:ERep (λ_=>False) G B rb gm gM N n opv ops C T hv ov cp tb lvs w){K:CR}{lv:Value}(hxN:x<N)(hc:CrAt cb x K lv w)(k:Tch (λb=>TcE gm gM cb rb b\/(hv x).ownBlock=some b) w w'):KeepQ w w':=λb c T' h0 h1 h2 h3 h4 h5 h6 h7=>k.old b (zqc h0) λe=>by
 rcases e with(e|e|e|e)|e
 . exact zqf h0 h.d.mar h2 e
 . exact zqf h0 h.d.mem h3 e
 . exact zqf h0 hc h4 e
 . exact zqf h0 h.d.dom h1 e
 . exact zqx (h.row x hxN) h0 (λq=>h5 q.symm) e
theorem wrapE(x:Int):IntKind.i64.wrap x=wrap64 x:=by rw[IntKind.wrap_i64];simp only[wrap64];try omega
theorem zqd8(h:ERep (λ_=>False) G B rb gm gM N n opv ops C T hv ov cp tb lvs w)(hx:x<n)(hxN:x<N)(hN:N<=64)(hBs:B<=w.heap.size)(hcb:B<=cb)(hc:CrAt cb x (crOf op (T x)) (.slice none 0 0) w)(hO:OkE N op (T x))(hL:(C.th x).length<=1048576):
 Calls Try.prog 15 #[.pointer (some ⟨rb,0,none⟩),.pointer (some ⟨cb,0,none⟩)] w λe' w'=>EStep G B rb gm gM N n opv ops T ov cp tb lvs x cb op (epStp N x op C (T x)) w e' w':=by
 have hE:EcAt rb gm gM N cb x C.e (zq18 C N) (memR C hv N) (crOf op (T x)) (.slice none 0 0) w:=⟨h.d,hc⟩;have hlo:B<=rb/\B<=gm/\B<=gM:=⟨h.lo.1,h.lo.2.1,h.lo.2.2.1⟩;have hm:=zq3k (C:=C) hxN;have hM:=zq8k (C:=C) (hv:=hv) hxN;have hH:=memR_hv (C:=C) (hv:=hv) hxN;have hg:=hO.good
 by_cases h1:op.k=1
 . have hs:epStp N x op C (T x)=zq3f x C (T x):=by unfold epStp;rw[if_pos h1]
   rw[hs];unfold zq3f;rcases hO.k1 h1 with e|e
   . rw[if_pos e];refine Calls.mono (zq96 hE h1 (zqfw hE e)) ?_;rintro e' w' ⟨rfl,k1,k2⟩;refine⟨rfl,G,hv,_,_,h.acted hc k1.d rfl k2,k1.c,k2.heldE hlo hcb,h.keepS hxN hc (k2.mono λb hb=>.inl hb),.inr ⟨rfl,rfl,zq7o C.e,rfl,rfl,Nat.succ_ne_zero _⟩⟩
   . rw[if_neg (by omega)];refine Calls.mono (zq96 hE h1 (zqfx hE e hxN hN hm hM)) ?_;rintro e' w' ⟨rfl,k1,k2⟩;refine⟨rfl,G,hv,_,_,h.acted (C':=(C.putM x (wrap64 ((T x).n 0+1))).putI x true) hc ?_ rfl k2,k1.c,k2.heldE hlo hcb,h.keepS hxN hc (k2.mono λb hb=>.inl hb),.inl ⟨none,0,0,[],T x,rfl,rfl,LsP.nil _ _ _,rfl,rfl,rfl⟩⟩;have:=k1.d;rw[zq8j,zq8n,show IntKind.i64.wrap ((crOf op (T x)).e+1)=wrap64 ((T x).n 0+1)from wrapE _]at this;exact this
 by_cases h2:op.k=2
 . have hs:epStp N x op C (T x)=(C.putM x 0,(T x).fin ⟨true,0,[]⟩):=by unfold epStp;rw[if_neg h1,if_pos h2]
   rw[hs];refine Calls.mono (zqg6 hE h2 hxN hN hm) ?_;rintro e' w' ⟨rfl,k1,k2⟩;refine⟨rfl,G,hv,_,_,h.acted (C':=C.putM x 0) hc ?_ rfl k2,k1.c,k2.heldE hlo hcb,h.keepS hxN hc (k2.mono λb hb=>.inl hb),.inl ⟨none,0,0,[],T x,rfl,rfl,LsP.nil _ _ _,rfl,rfl,rfl⟩⟩;have:=k1.d;rw[zq8j]at this;exact this
 by_cases h3:op.k=3
 . have hs:epStp N x op C (T x)=(C.putT x (C.th x++[(op.a,C.e)]),(T x).fin ⟨true,C.e,[]⟩):=by unfold epStp;rw[if_neg h1,if_neg h2,if_pos h3]
   rw[hs];refine Calls.mono (zqg7 hE h3 hxN hN hH (h.row x hxN) hBs hL) ?_;rintro e' w' ⟨rfl,hv',k1,k2,k3,k4⟩;refine⟨rfl,G,_,_,_,h.thinged (C':=C.putT x (C.th x++[(op.a,C.e)])) hxN hc (hv':=hv') ?_ ?_ ?_ k3 k4,k1.c,k3.held ?_,h.keepS hxN hc k3,.inl ⟨none,0,0,[],T x,rfl,rfl,LsP.nil _ _ _,rfl,rfl,rfl⟩⟩
   . have:=k1.d;rw[zq8m (C:=C) (C':=C.putT x (C.th x++[(op.a,C.e)])) hv' rfl]at this;exact this
   . intro j hj;exact zqd _ _ hj
   . have e:(C.putT x (C.th x++[(op.a,C.e)])).th x=C.th x++[(op.a,C.e)]:=upd'_same _ _ _;rw[e];exact k2
   . intro b hb;rcases hb with(e|e|e|e)|e
     . omega
     . omega
     . omega
     . omega
     . exact(own_lt (h.row x hxN) e).2.1
 by_cases h4:op.k=4
 . have hs:epStp N x op C (T x)=epAdv N C (T x):=by unfold epStp;rw[if_neg h1,if_neg h2,if_neg h3,if_pos h4]
   rcases hO.k4 h4 with⟨e,e1⟩|⟨e,e1,e2⟩|e
   . rw[hs];unfold epAdv;rw[if_pos e];refine Calls.mono (zq5a hE h4 (zqfg hE e)) ?_;rintro e' w' ⟨rfl,k1,k2⟩;exact⟨rfl,G,hv,_,_,h.acted hc k1.d rfl k2,k1.c,k2.heldE hlo hcb,h.keepS hxN hc (k2.mono λb hb=>.inl hb),.inr ⟨rfl,rfl,zq7o C.e,rfl,rfl,Nat.succ_ne_zero _⟩⟩
   . have hi:((T x).n 1).toNat<N:=by omega
     refine Calls.mono (zq5a hE h4 (zqfh hE e hi hN (zq3k hi))) ?_;rintro e' w' ⟨rfl,k1,k2⟩;have ei:(crOf op (T x)).i=((T x).n 1).toNat:=rfl;rw[ei]at k1;rcases cr_adv (N:=N) (C:=C) e e1 h4 x with⟨_,q1,q2,q3,t1,q4,q5,q6⟩|⟨_,q1,q2,q3,q4,q5⟩
     . rw[q4];exact⟨rfl,G,hv,_,_,h.acted hc k1.d rfl k2,k1.c,k2.heldE hlo hcb,h.keepS hxN hc (k2.mono λb hb=>.inl hb),.inl ⟨none,0,0,[],t1,q1,rfl,by rw[q2,q3];exact LsP.nil _ _ _,by rw[q2,q3],q5,q6⟩⟩
     . refine⟨rfl,G,hv,_,_,h.acted (C':=(epStp N x op C (T x)).1) hc (by rw[q1];exact k1.d) (by rw[q1]) k2,k1.c,k2.heldE hlo hcb,h.keepS hxN hc (k2.mono λb hb=>.inl hb),.inr ⟨by rw[q2];rfl,rfl,q2,q3,q4,q5⟩⟩
   . rw[hs];unfold epAdv;rw[if_neg (by omega),if_neg (by omega)]
     by_cases he:C.e=(T x).n 0
     . rw[if_pos he];refine Calls.mono (zq5a hE h4 (zqfi hE e he)) ?_;rintro e' w' ⟨rfl,k1,k2⟩;exact⟨rfl,G,hv,_,_,h.acted (C':=C.putE (wrap64 ((T x).n 0+1))) hc k1.d rfl k2,k1.c,k2.heldE hlo hcb,h.keepS hxN hc (k2.mono λb hb=>.inl hb),.inl ⟨none,0,0,[],T x,rfl,rfl,LsP.nil _ _ _,rfl,rfl,rfl⟩⟩
     . rw[if_neg he];refine Calls.mono (zq5a hE h4 (zqfj hE e he)) ?_;rintro e' w' ⟨rfl,k1,k2⟩;exact⟨rfl,G,hv,_,_,h.acted hc k1.d rfl k2,k1.c,k2.heldE hlo hcb,h.keepS hxN hc (k2.mono λb hb=>.inl hb),.inl ⟨none,0,0,[],T x,rfl,rfl,LsP.nil _ _ _,rfl,rfl,rfl⟩⟩
 have h5:op.k=5:=by omega
 have hs:epStp N x op C (T x)=zq3s x C (T x):=by unfold epStp;rw[if_neg h1,if_neg h2,if_neg h3,if_neg h4]
 rw[hs];unfold zq3s;obtain⟨p,c,hp,hpo,hpa⟩:=zq1b (h.row x hxN);have hcell:∀j y,(C.th x)[j]?=some y->∃g,p=some ⟨g,0,none⟩/\g≠cb/\w.cell? ⟨g,j*2,none⟩=some (.int .i64 y.1)/\w.cell? ⟨g,j*2+1,none⟩=some (.int .i64 y.2):=by
  intro j y hy;have hjl:=(List.getElem?_eq_some_iff.1 hy).1;rcases(h.row x hxN).2 with⟨hv0,h0⟩|⟨g,cap,cur,hv0,hb,hgc,q1,q2,q3,q4⟩
  . omega
  . have hpe:p=some ⟨g,0,none⟩:=by rw[hp]at hv0;simp only[Value.slice.injEq]at hv0;exact hv0.1
    have hcl:∀k v,k<(C.th x).length*2->(thC (C.th x))[k]?=some v->w.cell? ⟨g,k,none⟩=some v:=λk v hk hv=>by
     rw[zq0 hgc];rw[<-q4,List.getElem?_take,if_pos hk]at hv;simpa using hv
    obtain⟨t0,t1⟩:=zqbm hy;exact⟨g,hpe,zqf hgc hc (by decide),hcl _ _ (by omega) t0,hcl _ _ (by omega) t1⟩
 refine Calls.mono (zqg8 hE h5 (zqfu hE hxN hN (by rw[hH,hp]) hL hcell)) ?_;rintro e' w' ⟨rfl,dv,hv',k1,k2,k3,k4⟩;have hC':(C.putT x (leftL C.e (C.th x))).th x=leftL C.e (C.th x):=upd'_same _ _ _;have hR:=h.thinged (C':=C.putT x (leftL C.e (C.th x))) hxN hc (hv':=hv') (w':=w') (by
  have:=k1.d;rw[zq8m (C:=C) (C':=C.putT x (leftL C.e (C.th x))) hv' rfl]at this;exact this) (λj hj=>zqd _ _ hj) (by rw[hC'];exact zq33 k3 hBs) (k4.mono λb hb=>.inl hb) (λg hg=>.inr (own_lt k3 hg).2.1)
 obtain⟨G',g1,g2,g3⟩:=hR.list k2 (zqc h.d.mar) hBs;obtain⟨dp,dc,rfl,_⟩:=zq1b k2;exact⟨rfl,G',_,_,_,g2,k1.c,k4.heldE hlo hcb,h.keepS hxN hc (k4.mono λb hb=>.inl hb),.inl ⟨dp,_,dc,doneL C.e (C.th x),T x,rfl,rfl,g3 _ _,rfl,rfl,rfl⟩⟩
end
section
variable {P:Ans->Value->Prop} {B rb gm gM N who tb:Nat} {opv:Value} {hv:Nat->Value} {ov0:Value} {w wr:World} {C:EpS} {t:RTh} {cp ov:Value} {lvs:List Value}
def NxFree(M:RM EpS)(who:Nat)(ops:List OpX)(R:EpS×RTh)(k:Nat)(C:EpS)(t:RTh)(cp:Value):Prop:=∃f,f<=k/\cp=.pointer none/\t.pc=0/\zq14 M who ops f (C,t)=R/\(ops.length<f+t.at')
def zq4j(P:Ans->Value->Prop)(M:RM EpS)(who:Nat)(ops:List OpX)(R:EpS×RTh)(k:Nat)(C:EpS)(t:RTh)(cp:Value)(wr:World):Prop:=∃f cb K lp ln lc l,f<k/\cp=.pointer (some ⟨cb,0,none⟩)/\CrAt cb who K (.slice lp ln lc) wr/\K.done=true/\P ⟨K.ok,K.n,l⟩ (.slice lp ln lc)/\zq14 M who ops f (C,t.fin ⟨K.ok,K.n,l⟩)=R/\ops.length<f+(t.at'+1)/\t.at'<ops.length
def NxPost(P:Ans->Value->Prop)(B rb gm gM N who tb:Nat)(opv:Value)(ops:List OpX)(hv:Nat->Value)(ov0:Value)(R:EpS×RTh)(w:World)(e':Ending)(w':World):Prop:=
 e'=.returned (.bool (decide (ops.length<=R.2.at')))/\∃cp ov lvs,NxI P B rb gm gM N who tb opv hv ov0 w R.1 R.2 cp ov lvs w'/\((R.2.pc=0/\cp=.pointer none)\/(R.2.pc≠0/\∃cb op,cp=.pointer (some ⟨cb,0,none⟩)/\w.heap.size<=cb/\ops[R.2.at']?=some op/\CrAt cb who (crOf op R.2) (.slice none 0 0) w'))
theorem zq91{ops:List OpX}{R:EpS×RTh}(h:NxI P B rb gm gM N who tb opv hv ov0 w C t cp ov lvs w)(hP0:P Ans.none (.slice none 0 0))(hops:OpsE B w opv ops)(hlo:B<=gM/\B<=tb/\B<=w.heap.size)(hbo:∀g,ov0.ownBlock=some g->B<=g/\g<w.heap.size)(hw:who<N)(hN:N<=64)(hL:ops.length<=65536)(hal:t.ans.length<=t.at')(hat:t.at'<=ops.length)
 (hen:NxFree (epR N) who ops R (ops.length+2) C t cp\/zq4j P (epR N) who ops R (ops.length+2) C t cp w):
 Calls Try.prog 37 #[.pointer (some ⟨rb,0,none⟩),.pointer (some ⟨tb,0,none⟩)] w λe' w'=>NxPost P B rb gm gM N who tb opv ops hv ov0 R w e' w':=by
 obtain⟨sp,cap,rfl,hrd⟩:=hops;obtain⟨L,hLL⟩:∃L,ops.length=L:=⟨_,rfl⟩;have HI:=Lib.hid (And.intro h (And.intro hP0 (And.intro hlo (And.intro hbo (And.intro hw (And.intro hN (And.intro hL (And.intro hal (And.intro hat hen)))))))));have HR:=Lib.hid hrd;have HLL:=Lib.hid hLL;clear h hP0 hlo hbo hL hal hat hen hrd;rw[hLL];clear hLL
 go_enter Try.func37,Try.ntmps37
 go_wp2_with (fail)
 go_loopg [] (ops.length+2) (λk wr=>∃(C:EpS)(t:RTh)(cp ov:Value)(lvs:List Value),NxI P B rb gm gM N who tb (.slice sp ops.length cap) hv ov0 w C t cp ov lvs wr/\t.ans.length<=t.at'/\t.at'<=ops.length/\(NxFree (epR N) who ops R k C t cp\/zq4j P (epR N) who ops R k C t cp wr))
 case atStart=>
  obtain⟨h,_,_,_,_,_,_,hal,hat,hen⟩:=HI.out;exact⟨C,t,cp,ov,lvs,h,hal,hat,hen⟩
 case round=>
  obtain⟨C,t,cp,ov,lvs,h,hal,hat,hen⟩:=hrel;have hth:=h.th;rw[HLL.out]at hth hat;have c0:wr.cell? ⟨tb,0,none⟩=some (.int .i64 who):=(zq0 hth).trans rfl;have c1:wr.cell? ⟨tb,1,none⟩=some (.slice sp L cap):=(zq0 hth).trans rfl;have c2:wr.cell? ⟨tb,2,none⟩=some (.int .i64 t.at'):=(zq0 hth).trans rfl;have c3:wr.cell? ⟨tb,3,none⟩=some cp:=(zq0 hth).trans rfl;have f3:=zq6 (off:=3) hth;have HJ:=Lib.hid (And.intro h (And.intro hal (And.intro hat hen)));clear h hth hal hen
  by_cases hlt:t.at'<L
  . have hlt':(t.at':Int)<(L:Int):=by omega
    obtain⟨op,hop⟩:∃op,ops[t.at']?=some op:=⟨_,List.getElem?_eq_getElem (by rw[HLL.out];exact hlt)⟩
    go_wp2_with (fail)
    go_quiet (fail)
    have h5:=HJ.out.1.more (w':=wr.drewN nq) (Nat.le_refl _) (λ_ _=>rfl);replace c0:(wr.drewN nq).cell? ⟨tb,0,none⟩=some (.int .i64 who):=c0;replace c1:(wr.drewN nq).cell? ⟨tb,1,none⟩=some (.slice sp L cap):=c1;replace c2:(wr.drewN nq).cell? ⟨tb,2,none⟩=some (.int .i64 t.at'):=c2;replace c3:(wr.drewN nq).cell? ⟨tb,3,none⟩=some cp:=c3;replace f3:(wr.drewN nq).frozen? ⟨tb,3,none⟩=false:=f3;have hdn:zq4j P (epR N) who ops R gk C t cp wr->zq4j P (epR N) who ops R gk C t cp (wr.drewN nq):=λx=>x;generalize wr.drewN nq=w5 at h5 c0 c1 c2 c3 f3 hdn |-;have H5:=Lib.hid h5;have HLT:=Lib.hid hlt;rcases HJ.out.2.2.2 with hfree|hdone
    . obtain⟨fu,hfk,rfl,hpc,hset,hfu⟩:=hfree;obtain⟨og,off,rfl,hog,z0,z1,z2,z3⟩:=HR.out t.at' op hop;have hnS:¬TcN gM tb ov0 og:=by
       have hl:=HI.out.2.2.1;have hb:=HI.out.2.2.2.1;rintro(x|x|x)
       . omega
       . omega
       . have:=hb og x;omega
      have hoo:w5.heap[og]?=w.heap[og]?:=h5.tch.old og (cell_lt z0) hnS;have y0:w5.cell? ⟨og,off+t.at'*4,none⟩=some (.int .i64 op.k):=(zqu hoo).trans z0;have y1:w5.cell? ⟨og,off+t.at'*4+1,none⟩=some (.int .i64 op.a):=(zqu hoo).trans z1;have y2:w5.cell? ⟨og,off+t.at'*4+2,none⟩=some (.int .i64 op.b):=(zqu hoo).trans z2;have y3:w5.cell? ⟨og,off+t.at'*4+3,none⟩=some (.int .i64 op.c):=(zqu hoo).trans z3;have hB:∀w',(∀b,b<w5.heap.size->w'.heap[b]?=w5.heap[b]?)->Calls Try.prog 14 #[.pointer (some ⟨rb,0,none⟩),.int .i64 who,.agg #[.int .i64 op.k,.int .i64 op.a,.int .i64 op.b,.int .i64 op.c]] w' λe' w''=>zq1u rb gm gM N who C.e (zq18 C N) (memR C hv N) op (C.ins who) w' e' w'':=λw' hw'=>zqft (h5.d.more (w':=w') hw') hw hN (zq8k hw);have HB:=Lib.hid hB;have HF:=Lib.hid (And.intro hpc (And.intro hset (And.intro hfu (And.intro hop hfk))));have hat0:(0:Int)<=(t.at':Int):=by omega
      clear hpc hset hfu hfk hop hB z0 z1 z2 z3 hog hnS hoo hdn h5 hlt
      go_wp2_with (fail)
      go_region_law (first
       |(go_simp;go_at_call 14;refine Calls.mono (HB.out _ (λ_ _=>rfl)) ?_
         rintro e' w6 ⟨cb,rfl,hcb,hE,hT⟩;have h6:=(H5.out.more (w':=w5.drew) (Nat.le_refl _) (λ_ _=>rfl)).begun (op:=op) hE.d hT;have s3:w6.cell? ⟨tb,3,none⟩=some (.pointer none):=(zq0 h6.th).trans rfl;have sf:=zq6 (off:=3) h6.th;have H6:=Lib.hid (And.intro h6 (And.intro hcb (And.intro hE.c hT)));clear h6 hcb hE hT))
      all_goals(
       have h7:=H6.out.1.setT (t':=t) (cp':=.pointer (some ⟨cb,0,none⟩)) 3 (.pointer (some ⟨cb,0,none⟩)) rfl rfl;have c7:CrAt cb who (bgK op (C.ins who)) (.slice none 0 0) (w6.setCell ⟨tb,3,none⟩ (.pointer (some ⟨cb,0,none⟩))):=(zq8 _ _ _ _ (zqf H6.out.2.2.1 H6.out.1.th (by decide))).trans H6.out.2.2.1;have hcw:w.heap.size<=cb:=Nat.le_trans H5.out.tch.size H6.out.2.1;clear c0 c1 c2 c3 f3 y0 y1 y2 y3 s3 sf H6;generalize w6.setCell ⟨tb,3,none⟩ (.pointer (some ⟨cb,0,none⟩))=w7 at h7 c7 |-
       by_cases he:bgEnd op (C.ins who)
       . have hbe:=bg_end (t:=t) he;have hk:bgK op (C.ins who)=(bgK0 op).fin false 0:=if_pos he;rw[hbe]at h7;rw[hk]at c7;obtain⟨K,hK⟩:∃K,(bgK0 op).fin false 0=K:=⟨_,rfl⟩;have hans:(⟨K.ok,K.n,[]⟩:Ans)=Ans.none:=by rw[<-hK];rfl
         have hdn2:K.done=true:=by rw[<-hK];rfl
         rw[hK]at c7;have H7:=Lib.hid h7;have C7:=Lib.hid (And.intro c7 (And.intro hdn2 (by rw[hans];exact HI.out.2.1:P ⟨K.ok,K.n,[]⟩ (.slice none 0 0))));have HG:RowKit.Hid (∃f,f<=gk - 1/\zq14 (epR N) who ops f (C,t.fin ⟨K.ok,K.n,[]⟩)=R/\ops.length<f+(t.at'+1)):=Lib.hid (by
          obtain⟨hpc,hset,hfu,hop,hfk⟩:=HF.out;have hlt:=HLT.out;have hll:=HLL.out;obtain⟨f,rfl⟩:∃f,fu=f+1:=⟨fu - 1,by omega⟩;refine⟨f,by omega,?_,by omega⟩;rw[zq5d hpc hop]at hset;rw[hans];have hb2:(epR N).bg who op C t=(C,t.fin Ans.none):=hbe;rw[hb2]at hset;exact hset)
         have HG2:RowKit.Hid (0<gk):=Lib.hid (by have:=HF.out;have:=HLT.out;have:=HLL.out;omega);clear h7 c7 hdn2 hans hK hk hbe he hcw;have hth7:=H7.out.th;rw[HLL.out]at hth7;obtain⟨po,Co,hov,_⟩:=zq1b H7.out.out;obtain⟨La,hLa⟩:∃x,t.ans.length=x:=⟨_,rfl⟩;obtain⟨Z,hZ⟩:∃x,w7.heap.size=x:=⟨_,rfl⟩;rw[hLa]at hov;subst hov;have b3:w7.cell? ⟨tb,3,none⟩=some (.pointer (some ⟨cb,0,none⟩)):=(zq0 hth7).trans rfl;have b4:w7.cell? ⟨tb,4,none⟩=some (.slice po La Co):=(zq0 hth7).trans rfl;have b4a:∀o:Obj,(w7.alloc o).cell? ⟨tb,4,none⟩=some (.slice po La Co):=λo=>(zq0 (zqk (o:=o) hth7)).trans rfl;have k6:w7.cell? ⟨cb,6,none⟩=some (.bool true):=by rw[<-C7.out.2.1];exact C7.out.1.c.2.2.2.2.2.2.1
         have k7:w7.cell? ⟨cb,7,none⟩=some (.bool K.ok):=C7.out.1.c.2.2.2.2.2.2.2.1;have k8:w7.cell? ⟨cb,8,none⟩=some (.int .i64 K.n):=C7.out.1.c.2.2.2.2.2.2.2.2.1;have k9:w7.cell? ⟨cb,9,none⟩=some (.slice none 0 0):=C7.out.1.c.2.2.2.2.2.2.2.2.2;have hrow:(w7.alloc (.cells #[.bool K.ok,.int .i64 K.n,.slice none 0 0] 48)).drew.ownsRow B 48 3 (.slice po La Co) La (avC t.ans lvs):=by
          have h9:=zq1d H7.out.out (.cells #[.bool K.ok,.int .i64 K.n,.slice none 0 0] 48);rw[hLa]at h9;exact h9
         have hnw:∀jj u,[Value.bool K.ok,.int .i64 K.n,.slice none 0 0][jj]?=some u->(w7.alloc (.cells #[.bool K.ok,.int .i64 K.n,.slice none 0 0] 48)).drew.cell? ((⟨Z,0,none⟩:Addr).add jj)=some u:=λjj u hj=>zq43 (w:=w7) (cs:=#[.bool K.ok,.int .i64 K.n,.slice none 0 0]) (T:=48) hZ jj u hj;have hvk:∀w2,((w7.alloc (.cells #[.bool K.ok,.int .i64 K.n,.slice none 0 0] 48)).drew).grownBy w2 (Value.slice po La Co).ownBlock->w2.heap[tb]?=some (.cells #[.int .i64 who,.slice (some ⟨og,off,none⟩) L cap,.int .i64 t.at',.pointer (some ⟨cb,0,none⟩),.slice po La Co] 103):=λw2 hg=>by
          have h1:=zqk (o:=.cells #[.bool K.ok,.int .i64 K.n,.slice none 0 0] 48) hth7;refine(hg.block tb (zqc h1) (λe=>?_)).trans h1;have hh:=zqx (c:=#[.int .i64 who,.slice (some ⟨og,off,none⟩) L cap,.int .i64 t.at',.pointer (some ⟨cb,0,none⟩),.slice po La Co]) hrow h1 (by decide);exact hh e.symm
         obtain⟨tj,htj,hy0,hy1,hy2⟩:∃ti,Try.prog.info? 48=some ti/\ti.zero=some (.agg #[.bool false,.int .i64 0,.slice none 0 0])/\ti.size=3/\ti.bytes=40:=⟨_,rfl,rfl,rfl,rfl⟩;have hund:Try.prog.underlying 56=some (.slice 48):=by kernel_rfl
         have TJ:=Lib.hid (And.intro htj (And.intro hy0 (And.intro hy1 (And.intro hy2 hund))));have HX:=Lib.hid (And.intro hrow (And.intro hnw (And.intro hvk (And.intro hZ hLa))));have HLa:RowKit.Hid (La<=65536/\t.at'<L/\L<=65536):=Lib.hid (by have:=HJ.out.2.1;have:=HLT.out;have:=HI.out.2.2.2.2.2.2.1;have:=HLL.out;omega);clear hrow hnw hvk hth7 htj hy0 hy1 hy2 hund hLa
         go_wp2_with (fail)
         go_region_law (first
          |(refine step_append_lies _ rfl (.tmp 51) (.tmp 59) 56 rfl B 48 tj _ 3 40 TJ.out.2.2.2.2 TJ.out.1 TJ.out.2.1 TJ.out.2.2.1 TJ.out.2.2.2.1 rfl (by decide) (.slice po La Co) La (avC t.ans lvs) rfl HX.out.1 ⟨Z,0,none⟩ 1 1 [.bool K.ok,.int .i64 K.n,.slice none 0 0] rfl rfl HX.out.2.1 ?_ Nat.one_pos ?_ ?_ ?_ (Z+1) ?_ ?_
            . intro u hu;simp only[List.mem_cons,List.not_mem_nil,or_false]at hu;rcases hu with rfl |rfl |rfl<;>rfl
            . have:=HLa.out.1;simp only[maxLen];omega
            . have:=HLa.out.1;omega
            . have h1:=HI.out.2.2.1.2.2;have h2:=H7.out.tch.size;show _<=(w7.alloc _).heap.size;rw[zq3];omega
            . show(w7.alloc _).heap.size=_;rw[zq3,HX.out.2.2.2.1]
            intro g9 cap9 w9 j1 j2 j3 j4;have HK:=Lib.hid (And.intro j1 (And.intro j2 j3));have cS:w9.cell? ⟨tb,4,none⟩=some (.slice po La Co):=(zq0 (HX.out.2.2.1 _ j2)).trans rfl;have fS:=zq6 (off:=4) (HX.out.2.2.1 _ j2);clear j1 j2 j3 j4))
         all_goals(
          have hP9:=H7.out.push (λg hg=>(HI.out.2.2.2.1 g hg).2) (W:=(w7.alloc (.cells #[.bool K.ok,.int .i64 K.n,.slice none 0 0] 48)).drew) (w2:=w9) (g:=g9) (cap:=cap9) (a:=⟨K.ok,K.n,[]⟩) (lv:=.slice none 0 0) C7.out.2.2 (λb hb=>by show(w7.alloc _).heap[b]?=_;rw[zq5,if_neg (by omega)]) (by show _<=(w7.alloc _).heap.size;rw[zq3];omega) (by rw[HX.out.2.2.2.2];exact HK.out.1) HK.out.2.1 (HK.out.2.2.elim .inl λe=>.inr (by omega));rw[HX.out.2.2.2.2]at hP9;clear b3 b4 b4a k6 k7 k8 k9 cS fS HK HX TJ hZ;generalize w9.setCell ⟨tb,4,none⟩ (.slice (some ⟨g9,0,none⟩) (La+1) cap9)=w10 at hP9 |-;have v2:w10.cell? ⟨tb,2,none⟩=some (.int .i64 t.at'):=(zq0 hP9.th).trans rfl;have v3:w10.cell? ⟨tb,3,none⟩=some (.pointer (some ⟨cb,0,none⟩)):=(zq0 hP9.th).trans rfl;have v2f:=zq6 (off:=2) hP9.th;have v3f:=zq6 (off:=3) hP9.th;have H10:=Lib.hid ((hP9.setT (t':={t with ans:=t.ans++[⟨K.ok,K.n,[]⟩]}) (cp':=.pointer none) 3 (.pointer none) rfl rfl).setT (t':=t.fin ⟨K.ok,K.n,[]⟩) (cp':=.pointer none) 2 (.int .i64 ((t.at'+1:Nat):Int)) rfl rfl);clear hP9;have hwr:IntKind.i64.wrap ((t.at':Int)+1)=((t.at'+1:Nat):Int):=by
           have:=HLa.out;rw[show(t.at':Int)+1=((t.at'+1:Nat):Int)by omega];exact IntWalk.i64_in _ (by omega)
          have hLa2:=HLa.out;go_wp2;go_roundg (gk - 1)
          case measure=>have:=HG2.out;omega
          case rel=>
           have hal:=HJ.out.2.1;have hll:=HLL.out;refine⟨C,t.fin ⟨K.ok,K.n,[]⟩,_,_,_,H10.out,?_,?_,.inl (by obtain⟨f,f1,f2,f3⟩:=HG.out;exact⟨f,f1,rfl,rfl,f2,f3⟩)⟩
           . show(t.ans++[_]).length<=t.at'+1;rw[List.length_append];exact Nat.succ_le_succ hal
           . show t.at'+1<=ops.length;omega)
       . have hbo:=bg_on (t:=t) he;have hk:bgK op (C.ins who)=bgK0 op:=if_neg he;rw[hk]at c7;have b3:w7.cell? ⟨tb,3,none⟩=some (.pointer (some ⟨cb,0,none⟩)):=(zq0 h7.th).trans rfl;have k6:w7.cell? ⟨cb,6,none⟩=some (.bool false):=c7.c.2.2.2.2.2.2.1;have H7:=Lib.hid (And.intro h7 (And.intro c7 (And.intro hcw hbo)));clear h7 c7 hcw hbo he hk;go_wp2;go_ret;obtain⟨hpc,hset,hfu,hop,hfk⟩:=HF.out;have hlt:=HLT.out;have hll:=HLL.out;obtain⟨f,rfl⟩:∃f,fu=f+1:=⟨fu - 1,by omega⟩;rw[zq5d hpc hop]at hset;have hbo:=H7.out.2.2.2;have hR:R=epBg who op C t:=by
          rw[<-hset];exact zq2e (by show(epBg who op C t).2.pc≠0;rw[hbo];exact Nat.succ_ne_zero _)
         subst hR;have h7:=H7.out.1;rw[hll]at h7;refine⟨?_,.pointer (some ⟨cb,0,none⟩),ov,lvs,?_,.inr ⟨?_,cb,op,rfl,H7.out.2.2.1,?_,?_⟩⟩
         . rw[hbo];have:¬ops.length<=t.at':=by omega
           simp[this]
         . have e2:(epBg who op C t).2.at'=t.at'/\(epBg who op C t).2.ans=t.ans:=by rw[hbo];exact⟨rfl,rfl⟩
           exact⟨h7.d,by rw[e2.1];exact h7.th,by rw[e2.2];exact h7.out,by rw[e2.2];exact h7.len,by rw[e2.2];exact h7.lst,h7.tch,h7.so⟩
         . rw[hbo];exact Nat.succ_ne_zero _
         . rw[hbo];exact hop
         . rw[hbo];exact H7.out.2.1)
    . obtain⟨fu,cb,K,lp,ln,lc,l,hfk,rfl,kC,kD,kP,hset,hfu,hfl⟩:=hdn hdone;have H7:=H5;have C7:=Lib.hid (And.intro kC (And.intro kD kP));have HF:=Lib.hid (And.intro hset (And.intro hfu hfk));clear hset hfu hfk hfl kC kD kP hdone hdn h5 c0 c1 c2 c3 f3 hlt hlt';generalize w5=w7 at H7 C7 H5 |-;have hth7:=H7.out.th;rw[HLL.out]at hth7;obtain⟨po,Co,hov,_⟩:=zq1b H7.out.out;obtain⟨La,hLa⟩:∃x,t.ans.length=x:=⟨_,rfl⟩;obtain⟨Z,hZ⟩:∃x,w7.heap.size=x:=⟨_,rfl⟩;rw[hLa]at hov;subst hov;have b3:w7.cell? ⟨tb,3,none⟩=some (.pointer (some ⟨cb,0,none⟩)):=(zq0 hth7).trans rfl;have b4:w7.cell? ⟨tb,4,none⟩=some (.slice po La Co):=(zq0 hth7).trans rfl;have b4a:∀o:Obj,(w7.alloc o).cell? ⟨tb,4,none⟩=some (.slice po La Co):=λo=>(zq0 (zqk (o:=o) hth7)).trans rfl;have k6:w7.cell? ⟨cb,6,none⟩=some (.bool true):=by rw[<-C7.out.2.1];exact C7.out.1.c.2.2.2.2.2.2.1
      have k7:w7.cell? ⟨cb,7,none⟩=some (.bool K.ok):=C7.out.1.c.2.2.2.2.2.2.2.1;have k8:w7.cell? ⟨cb,8,none⟩=some (.int .i64 K.n):=C7.out.1.c.2.2.2.2.2.2.2.2.1;have k9:w7.cell? ⟨cb,9,none⟩=some (.slice lp ln lc):=C7.out.1.c.2.2.2.2.2.2.2.2.2;have hrow:(w7.alloc (.cells #[.bool K.ok,.int .i64 K.n,.slice lp ln lc] 48)).drew.ownsRow B 48 3 (.slice po La Co) La (avC t.ans lvs):=by
       have h9:=zq1d H7.out.out (.cells #[.bool K.ok,.int .i64 K.n,.slice lp ln lc] 48);rw[hLa]at h9;exact h9
      have hnw:∀jj u,[Value.bool K.ok,.int .i64 K.n,.slice lp ln lc][jj]?=some u->(w7.alloc (.cells #[.bool K.ok,.int .i64 K.n,.slice lp ln lc] 48)).drew.cell? ((⟨Z,0,none⟩:Addr).add jj)=some u:=λjj u hj=>zq43 (w:=w7) (cs:=#[.bool K.ok,.int .i64 K.n,.slice lp ln lc]) (T:=48) hZ jj u hj;have hvk:∀w2,((w7.alloc (.cells #[.bool K.ok,.int .i64 K.n,.slice lp ln lc] 48)).drew).grownBy w2 (Value.slice po La Co).ownBlock->w2.heap[tb]?=some (.cells #[.int .i64 who,.slice sp L cap,.int .i64 t.at',.pointer (some ⟨cb,0,none⟩),.slice po La Co] 103):=λw2 hg=>by
       have h1:=zqk (o:=.cells #[.bool K.ok,.int .i64 K.n,.slice lp ln lc] 48) hth7;refine(hg.block tb (zqc h1) (λe=>?_)).trans h1;have hh:=zqx (c:=#[.int .i64 who,.slice sp L cap,.int .i64 t.at',.pointer (some ⟨cb,0,none⟩),.slice po La Co]) hrow h1 (by decide);exact hh e.symm
      obtain⟨tj,htj,hy0,hy1,hy2⟩:∃ti,Try.prog.info? 48=some ti/\ti.zero=some (.agg #[.bool false,.int .i64 0,.slice none 0 0])/\ti.size=3/\ti.bytes=40:=⟨_,rfl,rfl,rfl,rfl⟩;have hund:Try.prog.underlying 56=some (.slice 48):=by kernel_rfl
      have TJ:=Lib.hid (And.intro htj (And.intro hy0 (And.intro hy1 (And.intro hy2 hund))));have HX:=Lib.hid (And.intro hrow (And.intro hnw (And.intro hvk (And.intro hZ hLa))));have HLa:RowKit.Hid (La<=65536/\t.at'<L/\L<=65536):=Lib.hid (by have:=HJ.out.2.1;have:=HLT.out;have:=HI.out.2.2.2.2.2.2.1;have:=HLL.out;omega);clear hrow hnw hvk hth7 htj hy0 hy1 hy2 hund hLa
      go_wp2_with (fail)
      go_region_law (first
       |(refine step_append_lies _ rfl (.tmp 51) (.tmp 59) 56 rfl B 48 tj _ 3 40 TJ.out.2.2.2.2 TJ.out.1 TJ.out.2.1 TJ.out.2.2.1 TJ.out.2.2.2.1 rfl (by decide) (.slice po La Co) La (avC t.ans lvs) rfl HX.out.1 ⟨Z,0,none⟩ 1 1 [.bool K.ok,.int .i64 K.n,.slice lp ln lc] rfl rfl HX.out.2.1 ?_ Nat.one_pos ?_ ?_ ?_ (Z+1) ?_ ?_
         . intro u hu;simp only[List.mem_cons,List.not_mem_nil,or_false]at hu;rcases hu with rfl |rfl |rfl<;>rfl
         . have:=HLa.out.1;simp only[maxLen];omega
         . have:=HLa.out.1;omega
         . have h1:=HI.out.2.2.1.2.2;have h2:=H7.out.tch.size;show _<=(w7.alloc _).heap.size;rw[zq3];omega
         . show(w7.alloc _).heap.size=_;rw[zq3,HX.out.2.2.2.1]
         intro g9 cap9 w9 j1 j2 j3 j4;have HK:=Lib.hid (And.intro j1 (And.intro j2 j3));have cS:w9.cell? ⟨tb,4,none⟩=some (.slice po La Co):=(zq0 (HX.out.2.2.1 _ j2)).trans rfl;have fS:=zq6 (off:=4) (HX.out.2.2.1 _ j2);clear j1 j2 j3 j4))
      all_goals(
       have hP9:=H7.out.push (λg hg=>(HI.out.2.2.2.1 g hg).2) (W:=(w7.alloc (.cells #[.bool K.ok,.int .i64 K.n,.slice lp ln lc] 48)).drew) (w2:=w9) (g:=g9) (cap:=cap9) (a:=⟨K.ok,K.n,l⟩) (lv:=.slice lp ln lc) C7.out.2.2 (λb hb=>by show(w7.alloc _).heap[b]?=_;rw[zq5,if_neg (by omega)]) (by show _<=(w7.alloc _).heap.size;rw[zq3];omega) (by rw[HX.out.2.2.2.2];exact HK.out.1) HK.out.2.1 (HK.out.2.2.elim .inl λe=>.inr (by omega));rw[HX.out.2.2.2.2]at hP9;clear b3 b4 b4a k6 k7 k8 k9 cS fS HK HX TJ hZ;generalize w9.setCell ⟨tb,4,none⟩ (.slice (some ⟨g9,0,none⟩) (La+1) cap9)=w10 at hP9 |-;have v2:w10.cell? ⟨tb,2,none⟩=some (.int .i64 t.at'):=(zq0 hP9.th).trans rfl;have v3:w10.cell? ⟨tb,3,none⟩=some (.pointer (some ⟨cb,0,none⟩)):=(zq0 hP9.th).trans rfl;have v2f:=zq6 (off:=2) hP9.th;have v3f:=zq6 (off:=3) hP9.th;have H10:=Lib.hid ((hP9.setT (t':={t with ans:=t.ans++[⟨K.ok,K.n,l⟩]}) (cp':=.pointer none) 3 (.pointer none) rfl rfl).setT (t':=t.fin ⟨K.ok,K.n,l⟩) (cp':=.pointer none) 2 (.int .i64 ((t.at'+1:Nat):Int)) rfl rfl);clear hP9;have hwr:IntKind.i64.wrap ((t.at':Int)+1)=((t.at'+1:Nat):Int):=by
        have:=HLa.out;rw[show(t.at':Int)+1=((t.at'+1:Nat):Int)by omega];exact IntWalk.i64_in _ (by omega)
       have hLa2:=HLa.out;go_wp2;go_roundg (gk - 1)
       case measure=>have:=HF.out;omega
       case rel=>
        have hal:=HJ.out.2.1;have hll:=HLL.out;refine⟨C,t.fin ⟨K.ok,K.n,l⟩,_,_,_,H10.out,?_,?_,.inl ⟨fu,by have:=HF.out;omega,rfl,rfl,HF.out.1,HF.out.2.1⟩⟩
        . show(t.ans++[_]).length<=t.at'+1;rw[List.length_append];exact Nat.succ_le_succ hal
        . show t.at'+1<=ops.length;omega)
  . have hlt':¬(t.at':Int)<(L:Int):=by omega
    clear c0 c3 f3
    go_wp2_with (fail)
    go_quiet (fail)
    rename_i nq;have HJ2:=Lib.hid (HJ.out.1.more (w':=wr.drewN nq) (Nat.le_refl _) (λ_ _=>rfl));clear c1 c2;go_wp2;go_ret;obtain⟨h,hal,hat,hen⟩:=HJ.out;rcases hen with⟨f,ef,e1,e2,e3,e4⟩|⟨f,cb,K,lp,ln,lc,l,ef,e1,e2,e3,e4,e5,e6,e7⟩
    . have hR:R=(C,t):=by
       rw[<-e3];cases k:f with
       |zero=>rfl
       |succ f=>
        show(if t.pc=0 then _ else _)=_;rw[if_pos e2];have:ops[t.at']?=none:=List.getElem?_eq_none (by rw[HLL.out];omega);simp only[this]
      subst hR;refine⟨by rw[HLL.out];simp;omega,cp,ov,lvs,(by have h9:=HJ2.out;rw[HLL.out]at h9;exact h9),.inl ⟨e2,e1⟩⟩
    . exfalso;rw[HLL.out]at e7;omega
end
theorem zqg1{rb tb who cb n cap at':Nat}{sp:Option Addr}{ov lv:Value}{K:CR}{w:World}(hn:n<=1099511627776)(h:ThAt tb who (.slice sp n cap) at' (.pointer (some ⟨cb,0,none⟩)) ov w)(hc:CrAt cb who K lv w)(hd:K.done=false)(hat:at'<n):
 Calls Try.prog 37 #[.pointer (some ⟨rb,0,none⟩),.pointer (some ⟨tb,0,none⟩)] w λe' w'=>e'=.returned (.bool false)/\∃n,w'=w.drewN n:=by
 have c1:w.cell? ⟨tb,1,none⟩=some (.slice sp n cap):=(zq0 h).trans rfl;have c2:w.cell? ⟨tb,2,none⟩=some (.int .i64 at'):=(zq0 h).trans rfl;have c3:w.cell? ⟨tb,3,none⟩=some (.pointer (some ⟨cb,0,none⟩)):=(zq0 h).trans rfl;have k6:w.cell? ⟨cb,6,none⟩=some (.bool false):=by rw[<-hd];exact hc.c.2.2.2.2.2.2.1
 have hlt':(at':Int)<(n:Int):=by omega
 clear h hc hd
 go_enter Try.func37,Try.ntmps37
 go_wp2_with (fail)
 go_loopg [] 0 (λk wr=>k=0/\wr=w)
 case atStart=>exact⟨rfl,rfl⟩
 case round=>
  obtain⟨rfl,rfl⟩:=hrel
  go_wp2_with (fail)
  go_quiet (fail)
  rename_i nq;replace c3:(wr.drewN nq).cell? ⟨tb,3,none⟩=some (.pointer (some ⟨cb,0,none⟩)):=c3;replace k6:(wr.drewN nq).cell? ⟨cb,6,none⟩=some (.bool false):=k6;clear c1 c2;go_wp2;go_ret;exact⟨rfl,_,rfl⟩
def LenE(ops:List OpX)(t:RTh):Prop:=t.ans.length=t.at'/\t.at'<=ops.length/\∀a∈t.ans,a.l.length<=65536
section
variable {N i:Nat} {op:OpX} {ops:List OpX} {C:EpS} {t:RTh}
theorem LenE.fin (h:LenE ops t)(hlt:t.at'<ops.length){a:Ans}(ha:a.l.length<=65536):LenE ops (t.fin a):=
 ⟨by show(t.ans++[_]).length=t.at'+1;rw[List.length_append,h.1];rfl,hlt,λb hb=>by
  have hb':b∈t.ans++[a]:=hb;rcases List.mem_append.1 hb' with q|q
  . exact h.2.2 b q
  . rw[List.mem_singleton.1 q];exact ha⟩
theorem zqd0(h:LenE ops t)(ho:ops[t.at']?=some op)(hth:(C.th i).length<=65536):LenE ops (epStp N i op C t).2:=by
 have hlt:=(List.getElem?_eq_some_iff.1 ho).1;have hf:∀ok n,LenE ops (t.fin ⟨ok,n,[]⟩):=λok n=>h.fin hlt (Nat.zero_le _);unfold epStp;split
 . unfold zq3f;split
   . exact h
   . exact hf _ _
 split
 . exact hf _ _
 split
 . exact hf _ _
 split
 . unfold epAdv;simp only
   repeat' split
   all_goals first|exact h|exact hf _ _|exact LenE.fin (t:={t with n:=_}) h hlt (Nat.zero_le _)
 . unfold zq3s;refine h.fin hlt ?_;show(oldsE i C).length<=_;unfold oldsE;rw[List.length_map];exact Nat.le_trans (List.length_filter_le _ _) hth
theorem epBg_len(h:LenE ops t)(ho:ops[t.at']?=some op):LenE ops (epBg i op C t).2:=by
 have hlt:=(List.getElem?_eq_some_iff.1 ho).1;have hf:LenE ops (t.fin Ans.none):=h.fin hlt (Nat.zero_le _);unfold epBg;split
 . exact hf
 split
 . exact hf
 split<;>exact h
theorem zqgk:∀(f:Nat)(C:EpS)(t:RTh),LenE ops t->LenE ops (zq14 (epR N) i ops f (C,t)).2:=by
 intro f
 induction f with
 |zero=>exact λC t h=>h
 |succ f ih=>
  intro C t h
  by_cases hp:t.pc=0
  . cases ho:ops[t.at']? with
    |none=>
     have:zq14 (epR N) i ops (f+1) (C,t)=(C,t):=by
      show(if t.pc=0 then _ else _)=_;rw[if_pos hp];simp only[ho]
     rw[this];exact h
    |some op=>
     rw[zq5d hp ho];exact ih _ _ (epBg_len h ho)
  . rw[zq2e hp];exact h
theorem zqgl:∀(f:Nat)(x:EpS×RTh),(zq14 (epR N) i ops f x).1.th=x.1.th:=by
 intro f
 induction f with
 |zero=>exact λx=>rfl
 |succ f ih=>
  rintro⟨C,t⟩
  by_cases hp:t.pc=0
  . cases ho:ops[t.at']? with
    |none=>
     have:zq14 (epR N) i ops (f+1) (C,t)=(C,t):=by
      show(if t.pc=0 then _ else _)=_;rw[if_pos hp];simp only[ho]
     rw[this]
    |some op=>
     rw[zq5d hp ho,ih];exact(epBg_e i op C t).2.2
  . rw[zq2e hp]
theorem zq9h(x:EpS×RTh)(h:LenE ops x.2):LenE ops (setlG (epR N) i ops x).2:=zqgk _ x.1 x.2 h
theorem setlE_th(x:EpS×RTh):(setlG (epR N) i ops x).1.th=x.1.th:=zqgl _ x
end
def ENext(G:Nat->Option Obj)(B rb gm gM N n:Nat)(opv:Nat->Value)(ops:Nat->List OpX)(T:Nat->RTh)(hv ov cp:Nat->Value)(tb:Nat->Nat)(lvs:Nat->List Value)(x:Nat)(R:EpS×RTh)(w:World)(e':Ending)(w':World):Prop:=
 e'=.returned (.bool R.2.en)/\∃cp' ov' lvs',ERep (λ_=>False) G B rb gm gM N n opv ops R.1 (upd' T x R.2) hv (upd' ov x ov') (upd' cp x cp') tb (upd' lvs x lvs') w'/\HeldE B w w'/\KeepQ w w'
section
variable {X:Nat->Prop} {G:Nat->Option Obj} {B rb gm gM N n:Nat} {opv:Nat->Value} {ops:Nat->List OpX} {C:EpS} {T:Nat->RTh} {hv ov cp:Nat->Value} {tb:Nat->Nat} {lvs:Nat->List Value} {w w':World} {x cb:Nat} {op:OpX} {t':RTh} {K:CR} {lv:Value}
theorem ERep.keepN (h:ERep X G B rb gm gM N n opv ops C T hv ov cp tb lvs w)(hx:x<n)(k:Tch (TcN gM (tb x) (ov x)) w w'):KeepQ w w':=λb c T' h0 h1 h2 h3 h4 h5 h6 h7=>k.old b (zqc h0) λe=>by
 rcases e with e|e|e
 . exact zqf h0 h.d.mem h3 e
 . exact zqf h0 (h.th x hx) h6 e
 . exact zqx (h.out x hx) h0 (λq=>h7 q.symm) e
theorem ERep.heldN (h:ERep X G B rb gm gM N n opv ops C T hv ov cp tb lvs w)(hx:x<n)(k:Tch (TcN gM (tb x) (ov x)) w w'):HeldE B w w':=k.held λb e=>by
 rcases e with e|e|e
 . rw[e];exact h.lo.2.2.1
 . rw[e];exact h.lo.2.2.2 x hx
 . exact(own_lt (h.out x hx) e).2.1
theorem ERep.nexted (h:ERep X G B rb gm gM N n opv ops C T hv ov cp tb lvs w)(hx:x<n)(hXX:∀i,X i->i=x){C0:EpS}{t0:RTh}(hC0:C0.th=C.th)(hBs:B<=w.heap.size){e':Ending}
 (hp:NxPost (LsP G) B rb gm gM N x (tb x) (opv x) (ops x) hv (ov x) (zq14 (epR N) x (ops x) ((ops x).length+1) (C0,t0)) w e' w'):
 ENext G B rb gm gM N n opv ops T hv ov cp tb lvs x (setlG (epR N) x (ops x) (C0,t0)) w e' w':=by
 obtain⟨he,cp',ov',lvs',k,hc⟩:=hp;refine⟨he,cp',ov',lvs',h.went hx hXX (C':=(setlG (epR N) x (ops x) (C0,t0)).1) (t':=(setlG (epR N) x (ops x) (C0,t0)).2) ?_ ((setlE_th _).trans hC0) ?_,h.heldN hx k.tch,h.keepN hx k.tch⟩
 . exact⟨k.d,k.th,k.out,k.len,k.lst,k.tch,k.so⟩
 . rcases hc with⟨q1,q2⟩|⟨q1,cb,op,q2,q3,q4,q5⟩
   . exact .inl ⟨q1,q2⟩
   . exact .inr ⟨q1,cb,op,q2,q4,Nat.le_trans hBs q3,q5⟩
theorem ERep.ownlt (h:ERep X G B rb gm gM N n opv ops C T hv ov cp tb lvs w)(hx:x<n):∀g,(ov x).ownBlock=some g->B<=g/\g<w.heap.size:=λg hg=>(own_lt (h.out x hx) hg).2
theorem zqcx(h:ERep (λ_=>False) G B rb gm gM N n opv ops C T hv ov cp tb lvs w)(hx:x<n)(hxN:x<N)(hN:N<=64)(hBs:B<=w.heap.size)(hops:OpsE B w (opv x) (ops x))(hL:(ops x).length<=65536)(hl:LenE (ops x) (T x))(hpc:(T x).pc=0)(hcp:cp x=.pointer none):
 Calls Try.prog 37 #[.pointer (some ⟨rb,0,none⟩),.pointer (some ⟨tb x,0,none⟩)] w λe' w'=>ENext G B rb gm gM N n opv ops T hv ov cp tb lvs x (setlG (epR N) x (ops x) (C,T x)) w e' w':=by
 refine Calls.mono (zq91 (h.nx hx) (LsP.zero G) hops ⟨h.lo.2.2.1,h.lo.2.2.2 x hx,hBs⟩ (h.ownlt hx) hxN hN hL (Nat.le_of_eq hl.1) hl.2.1 (.inl ⟨(ops x).length+1,by omega,hcp,hpc,rfl,by omega⟩)) ?_;intro e' w' hp;exact h.nexted hx (λ_ q=>q.elim) rfl hBs hp
theorem zqcw(h:ERep (λi=>i=x) G B rb gm gM N n opv ops C T hv ov cp tb lvs w)(hx:x<n)(hxN:x<N)(hN:N<=64)(hBs:B<=w.heap.size)(hops:OpsE B w (opv x) (ops x))(hL:(ops x).length<=65536)(hl:LenE (ops x) (T x))(hcp:cp x=.pointer (some ⟨cb,0,none⟩))(hop:(ops x)[(T x).at']?=some op)(hcb:B<=cb)(hc:CrAt cb x K lv w)(hw:zq70 G K lv op (T x) t'):
 Calls Try.prog 37 #[.pointer (some ⟨rb,0,none⟩),.pointer (some ⟨tb x,0,none⟩)] w λe' w'=>ENext G B rb gm gM N n opv ops T hv ov cp tb lvs x (setlG (epR N) x (ops x) (C,t')) w e' w':=by
 have hlt:=(List.getElem?_eq_some_iff.1 hop).1;rcases hw with⟨lp,ln,lc,l,t1,q1,rfl,q3,q4,q5,q6⟩|⟨q1,rfl,q3,q4,q5,q6⟩
 . rw[q4];have h0:NxI (LsP G) B rb gm gM N x (tb x) (opv x) hv (ov x) w C t1 (cp x) (ov x) (lvs x) w:=by
    have k:=h.nx hx;exact⟨k.d,by rw[q5];exact k.th,by rw[q6];exact k.out,by rw[q6];exact k.len,by rw[q6];exact k.lst,k.tch,k.so⟩
   have hl1:LenE (ops x) t1:=by unfold LenE;rw[q5,q6];exact hl
   refine Calls.mono (zq91 h0 (LsP.zero G) hops ⟨h.lo.2.2.1,h.lo.2.2.2 x hx,hBs⟩ (h.ownlt hx) hxN hN hL (Nat.le_of_eq hl1.1) hl1.2.1 (.inr ⟨(ops x).length+1,cb,K,lp,ln,lc,l,by omega,hcp,hc,q1,q3,rfl,by omega,by rw[q5];exact hlt⟩)) ?_;intro e' w' hp;exact h.nexted hx (λ_ q=>q) rfl hBs hp
 . obtain⟨sp,cap,hv0,_⟩:=hops;have hat:t'.at'<(ops x).length:=by rw[q4];exact hlt
   refine Calls.mono (zqg1 (n:=(ops x).length) (sp:=sp) (cap:=cap) (by omega) (by rw[<-hv0,<-hcp];exact h.th x hx) hc q1 hlt) ?_;rintro e' w' ⟨rfl,m,rfl⟩;have hse:setlG (epR N) x (ops x) (C,t')=(C,{t' with en:=decide ((ops x).length<=t'.at')}):=by
    unfold setlG;rw[zq2e q6];rfl
   rw[hse];have ht:Tch (TcN gM (tb x) (ov x)) w (w.drewN m):=(Tch.refl _ _).drew m;have hen:decide ((ops x).length<=t'.at')=false:=by simp;omega
   refine⟨by rw[hen],cp x,ov x,lvs x,h.went hx (λ_ q=>q) (C':=C) ?_ rfl ?_,h.heldN hx ht,h.keepN hx ht⟩
   . have k:=(h.more (w':=w.drewN m) λ_ _=>rfl).nx hx;refine⟨k.d,by show ThAt _ _ _ t'.at' _ _ _;rw[q4];exact k.th,by show World.ownsRow _ _ _ _ _ t'.ans.length (avC t'.ans _);rw[q5];exact k.out,by show _=t'.ans.length;rw[q5];exact k.len,by show ∀(j:Nat)(a:Ans)(v:Value),t'.ans[j]?=some a->_;rw[q5];exact k.lst,ht,k.so⟩
   . refine .inr ⟨q6,cb,op,hcp,by show(ops x)[t'.at']?=_;rw[q4];exact hop,hcb,?_⟩;have:CrAt cb x K (.slice none 0 0) (w.drewN m):=hc;rw[q3]at this;exact this
end
structure KeepM(w w':World):Prop where
 size:w.heap.size<=w'.heap.size
 old:∀(b:Nat)(c:Array Value)(T:TypeId),w.heap[b]?=some (.cells c T)->T=60\/T=2\/T=115\/T=52\/T=117\/T=103\/T=48->w'.heap[b]?=w.heap[b]?
theorem KeepM.of {w w':World}(hs:w.heap.size<=w'.heap.size)(h:∀b,b<w.heap.size->w'.heap[b]?=w.heap[b]?):KeepM w w':=⟨hs,λb c T h0 _=>h b (zqc h0)⟩
theorem KeepM.set (w:World){g:Nat}{c:Array Value}{T:TypeId}(hg:w.heap[g]?=some (.cells c T))(i:Nat)(v:Value)(hT:¬(T=60\/T=2\/T=115\/T=52\/T=117\/T=103\/T=48)):KeepM w (w.setCell ⟨g,i,none⟩ v):=
 ⟨by rw[zqv];exact Nat.le_refl _,λb c' T' h0 h1=>zq8 _ _ _ _ λ(e:b=g)=>hT (by rw[e]at h0;rw[zq4x hg h0];exact h1)⟩
theorem KeepM.grown {w w':World}{o:Obj}{v:Value}{B n k:Nat}{T:TypeId}{xs:List Value}(hr:w.ownsRow B T k v n xs)(hg:(w.alloc o).grownBy w' v.ownBlock)(hT:¬(T=60\/T=2\/T=115\/T=52\/T=117\/T=103\/T=48)):KeepM w w':=
 ⟨by have:=hg.size;rw[zq3]at this;omega,λb c T' h0 h1=>by
  have hb:=zqc h0;rw[hg.block b (by rw[zq3];omega) (λe=>hT ?_),zq5,if_neg (by omega)];obtain⟨⟨c2,h2⟩,_⟩:=own_lt hr e.symm;rw[zq4x h2 h0];exact h1⟩
section
variable {X:Nat->Prop} {G:Nat->Option Obj} {B rb gm gM N n:Nat} {opv:Nat->Value} {ops:Nat->List OpX} {C:EpS} {T:Nat->RTh} {hv ov cp:Nat->Value} {tb:Nat->Nat} {lvs:Nat->List Value} {w w':World}
theorem ERep.keepM (h:ERep X G B rb gm gM N n opv ops C T hv ov cp tb lvs w)(k:KeepM w w'):ERep X G B rb gm gM N n opv ops C T hv ov cp tb lvs w' where
 d:=h.d.of (k.old _ _ _ h.d.dom (.inl rfl)) (k.old _ _ _ h.d.mar (.inr (.inl rfl))) (k.old _ _ _ h.d.mem (.inr (.inr (.inl rfl))))
 row i hi:=zqj (h.row i hi) λg hg=>by
  obtain⟨⟨c,hc⟩,_⟩:=own_lt (h.row i hi) hg;exact k.old _ _ _ hc (.inr (.inr (.inr (.inr (.inl rfl)))))
 hsep:=h.hsep
 th i hi:=(k.old _ _ _ (h.th i hi) (.inr (.inr (.inr (.inr (.inr (.inl rfl))))))).trans (h.th i hi)
 call i hi hX:=by
  rcases h.call i hi hX with q|⟨q1,cb,op,q2,q3,q4,q5⟩
  . exact .inl q
  . exact .inr ⟨q1,cb,op,q2,q3,q4,(k.old _ _ _ q5 (.inr (.inr (.inr (.inl rfl))))).trans q5⟩
 out i hi:=zqj (h.out i hi) λg hg=>by
  obtain⟨⟨c,hc⟩,_⟩:=own_lt (h.out i hi) hg;exact k.old _ _ _ hc (.inr (.inr (.inr (.inr (.inr (.inr rfl))))))
 osep:=h.osep
 len:=h.len
 lst:=h.lst
 gho b o hb:=by
  obtain⟨k1,k2,k3,c,rfl⟩:=h.gho b o hb;exact⟨(k.old _ _ _ k1 (.inr (.inl rfl))).trans k1,k2,k3,c,rfl⟩
 lo:=h.lo
theorem ERep.add (h:ERep (λ_=>False) G B rb gm gM N n opv ops C T hv ov cp tb lvs w)(hBs:B<=w.heap.size)(hz:T n=RTh.z)(vo:Value):
 ERep (λ_=>False) G B rb gm gM N (n+1) (upd' opv n vo) ops C T hv (upd' ov n (.slice none 0 0)) (upd' cp n (.pointer none)) (upd' tb n w.heap.size) (upd' lvs n []) (w.alloc (.cells #[.int .i64 n,vo,.int .i64 0,.pointer none,.slice none 0 0] 103)):=by
 have h1:=h.more (w':=w.alloc (.cells #[.int .i64 n,vo,.int .i64 0,.pointer none,.slice none 0 0] 103)) λb hb=>by rw[zq5,if_neg (by omega)]
 have lt:∀i,i<n+1->i≠n->i<n:=λi hi hn=>by omega
 refine⟨h1.d,h1.row,h1.hsep,λi hi=>?_,λi hi hX=>?_,λi hi=>?_,λi j g hi hj e1 e2=>?_,λi hi=>?_,λi hi=>?_,h1.gho,h.lo.1,h.lo.2.1,h.lo.2.2.1,λi hi=>?_⟩
 . by_cases e:i=n
   . subst e;simp only[upd'_same];rw[hz];exact zqo _ _
   . simp only[zqd _ _ e];exact h1.th i (lt i hi e)
 . by_cases e:i=n
   . subst e
     left
     rw[upd'_same,hz];exact⟨rfl,rfl⟩
   . simp only[zqd _ _ e];exact h1.call i (lt i hi e) hX
 . by_cases e:i=n
   . subst e;simp only[upd'_same];rw[hz];exact World.ownsRow_nil _ _ _ _
   . simp only[zqd _ _ e];exact h1.out i (lt i hi e)
 . by_cases ei:i=n
   . subst ei;rw[upd'_same]at e1;cases e1
   . by_cases ej:j=n
     . subst ej;rw[upd'_same]at e2;cases e2
     . rw[zqd _ _ ei]at e1;rw[zqd _ _ ej]at e2;exact h.osep i j g (lt i hi ei) (lt j hj ej) e1 e2
 . by_cases e:i=n
   . subst e;rw[upd'_same,hz];rfl
   . rw[zqd _ _ e];exact h.len i (lt i hi e)
 . by_cases e:i=n
   . subst e;rw[hz];intro j a v hj;simp[RTh.z]at hj
   . rw[zqd _ _ e];exact h.lst i (lt i hi e)
 . by_cases e:i=n
   . subst e;rw[upd'_same];exact hBs
   . rw[zqd _ _ e];exact h.lo.2.2.2 i (lt i hi e)
end
def thrL(tb:Nat->Nat)(n:Nat):List Value:=(List.range n).map λi=>.pointer (some ⟨tb i,0,none⟩)
theorem zqlt(tb:Nat->Nat)(n:Nat):thrL tb (n+1)=thrL tb n++[.pointer (some ⟨tb n,0,none⟩)]:=by unfold thrL;rw[List.range_succ,List.map_append];rfl
theorem thrL_upd(tb:Nat->Nat)(n x:Nat):thrL (upd' tb n x) n=thrL tb n:=by
 unfold thrL;refine List.map_congr_left λi hi=>?_;rw[zqd _ _ (by have:=List.mem_range.1 hi;omega)]
theorem zq6u{tb:Nat->Nat}{n i:Nat}(hi:i<n):(thrL tb n)[i]?=some (.pointer (some ⟨tb i,0,none⟩)):=by simp[thrL,hi]
def enL(T:Nat->RTh)(n:Nat):List Value:=boolL (λi=>(T i).en) n
theorem enL_snoc(T:Nat->RTh)(n:Nat):enL T (n+1)=enL T n++[.bool (T n).en]:=by unfold enL boolL;rw[List.range_succ,List.map_append];rfl
theorem enL_upd(T:Nat->RTh){n m:Nat}(h:n<=m)(x:RTh):enL (upd' T m x) n=enL T n:=by
 unfold enL boolL;refine List.map_congr_left λi hi=>?_;simp only[zqd T x (show i≠m by have:=List.mem_range.1 hi;omega)]
theorem zq7s(T:Nat->RTh){n i:Nat}(h:i<n)(x:RTh):(enL T n).set i (.bool x.en)=enL (upd' T i x) n:=by
 apply List.ext_getElem?;intro k;rw[List.getElem?_set];unfold enL boolL
 by_cases hk:k<n
 . by_cases e:i=k
   . subst e;simp[hk]
   . rw[if_neg e];simp[hk,zqd T x (λq:k=i=>e q.symm)]
 . by_cases e:i=k
   . omega
   . rw[if_neg e];simp[hk]
structure PlE(G:Nat->Option Obj)(B rb gm gM N n k q:Nat)(lv ev:Value)(opv:Nat->Value)(ops:Nat->List OpX)(C:EpS)(T:Nat->RTh)(hv ov cp:Nat->Value)(tb:Nat->Nat)(lvs:Nat->List Value)(w:World):Prop where
 m:ERep (λ_=>False) G B rb gm gM N n opv ops C T hv ov cp tb lvs w
 lrow:w.ownsRow B 100 1 lv k (thrL tb k)
 erow:w.ownsRow B 4 1 ev q (enL T q)
 opa:∀i,i<n->OpsE B w (opv i) (ops i)
 len:∀i,i<n->LenE (ops i) (T i)
 be:B<=w.heap.size
section
variable {G:Nat->Option Obj} {B rb gm gM N n k m:Nat} {lv ev:Value} {opv:Nat->Value} {ops:Nat->List OpX} {C:EpS} {T:Nat->RTh} {hv ov cp:Nat->Value} {tb:Nat->Nat} {lvs:Nat->List Value} {w w':World}
theorem OpsE.held {v:Value}{l:List OpX}(h:OpsE B w v l)(hb:B<=w.heap.size)(k:HeldE B w w'):OpsE B w' v l:=by
 obtain⟨sp,cap,e,hc⟩:=h;refine⟨sp,cap,e,λk' op hk=>?_⟩;obtain⟨g,off,e2,hg,c1,c2,c3,c4⟩:=hc k' op hk;have hs:=k.old g hg (by omega);exact⟨g,off,e2,hg,(zqu (a:=⟨g,_,none⟩) hs).trans c1,(zqu (a:=⟨g,_,none⟩) hs).trans c2,(zqu (a:=⟨g,_,none⟩) hs).trans c3,(zqu (a:=⟨g,_,none⟩) hs).trans c4⟩
theorem PlE.keepM (h:PlE G B rb gm gM N n k m lv ev opv ops C T hv ov cp tb lvs w)(q:KeepM w w')(hh:HeldE B w w'){k' m':Nat}{lv' ev':Value}(hl:w'.ownsRow B 100 1 lv' k' (thrL tb k'))(he:w'.ownsRow B 4 1 ev' m' (enL T m')):PlE G B rb gm gM N n k' m' lv' ev' opv ops C T hv ov cp tb lvs w':=
 ⟨h.m.keepM q,hl,he,λi hi=>(h.opa i hi).held h.be hh,h.len,Nat.le_trans h.be q.size⟩
theorem PlE.more (h:PlE G B rb gm gM N n k m lv ev opv ops C T hv ov cp tb lvs w)(hs:w.heap.size<=w'.heap.size)(ho:∀b,b<w.heap.size->w'.heap[b]?=w.heap[b]?):PlE G B rb gm gM N n k m lv ev opv ops C T hv ov cp tb lvs w':=
 h.keepM (KeepM.of hs ho) ⟨hs,λb _ hb=>ho b hb⟩ (zqj h.lrow λg hg=>ho g (own_lt h.lrow hg).2.2) (zqj h.erow λg hg=>ho g (own_lt h.erow hg).2.2)
theorem PlE.add (h:PlE G B rb gm gM N n n n lv ev opv ops C T hv ov cp tb lvs w)(hz:T n=RTh.z){vo:Value}(hvo:OpsE B w vo (ops n)):
 PlE G B rb gm gM N (n+1) n n lv ev (upd' opv n vo) ops C T hv (upd' ov n (.slice none 0 0)) (upd' cp n (.pointer none)) (upd' tb n w.heap.size) (upd' lvs n []) (w.alloc (.cells #[.int .i64 n,vo,.int .i64 0,.pointer none,.slice none 0 0] 103)):=by
 have h1:=h.more (w':=w.alloc (.cells #[.int .i64 n,vo,.int .i64 0,.pointer none,.slice none 0 0] 103)) (by rw[zq3];omega) λb hb=>by rw[zq5,if_neg (by omega)]
 have hh:HeldE B w (w.alloc (.cells #[.int .i64 n,vo,.int .i64 0,.pointer none,.slice none 0 0] 103)):=⟨by rw[zq3];omega,λb _ hb=>by rw[zq5,if_neg (by omega)]⟩;refine⟨h.m.add h.be hz vo,by rw[thrL_upd];exact h1.lrow,h1.erow,λi hi=>?_,λi hi=>?_,h1.be⟩
 . by_cases e:i=n
   . subst e;rw[upd'_same];exact hvo.held h.be hh
   . rw[zqd _ _ e];exact h1.opa i (by omega)
 . by_cases e:i=n
   . subst e;rw[hz];exact⟨rfl,Nat.zero_le _,λa ha=>by cases ha⟩
   . exact h.len i (by omega)
theorem KeepQ.row {B n k:Nat}{T:TypeId}{v:Value}{xs:List Value}(q:KeepQ w w')(hr:w.ownsRow B T k v n xs)(h1:T≠60)(h2:T≠2)(h3:T≠115)(h4:T≠52)(h5:T≠117)(h6:T≠103)(h7:T≠48):w'.ownsRow B T k v n xs:=zqj hr λg hg=>by
 obtain⟨⟨c,hc⟩,_⟩:=own_lt hr hg;exact q _ _ _ hc h1 h2 h3 h4 h5 h6 h7
theorem PlE.nexted (h:PlE G B rb gm gM N n k m lv ev opv ops C T hv ov cp tb lvs w){x:Nat}(hx:x<n)(hm:m<=x){R:EpS×RTh}(hR:LenE (ops x) R.2){e':Ending}(q:ENext G B rb gm gM N n opv ops T hv ov cp tb lvs x R w e' w'):
 e'=.returned (.bool R.2.en)/\(∃cp' ov' lvs',PlE G B rb gm gM N n k m lv ev opv ops R.1 (upd' T x R.2) hv (upd' ov x ov') (upd' cp x cp') tb (upd' lvs x lvs') w')/\HeldE B w w'/\KeepQ w w':=by
 obtain⟨e,cp',ov',lvs',k1,k2,k3⟩:=q;refine⟨e,⟨cp',ov',lvs',k1,k3.row h.lrow (by decide) (by decide) (by decide) (by decide) (by decide) (by decide) (by decide),?_,λi hi=>(h.opa i hi).held h.be k2,λi hi=>?_,Nat.le_trans h.be k2.size⟩,k2,k3⟩
 . rw[enL_upd T hm];exact k3.row h.erow (by decide) (by decide) (by decide) (by decide) (by decide) (by decide) (by decide)
 . by_cases e:i=x
   . subst e;rw[upd'_same];exact hR
   . rw[zqd _ _ e];exact h.len i hi
theorem PlE.turned {eb ec:Nat}(h:PlE G B rb gm gM N n n n lv (.slice (some ⟨eb,0,none⟩) n ec) opv ops C T hv ov cp tb lvs w){x:Nat}(hx:x<n){G':Nat->Option Obj}{C1:EpS}{hv':Nat->Value}{R:EpS×RTh}(hR:LenE (ops x) R.2){w1 w2:World}{e':Ending}
 (h1:ERep (λi=>i=x) G' B rb gm gM N n opv ops C1 T hv' ov cp tb lvs w1) (hh1:HeldE B w w1) (hk1:KeepQ w w1) (q:ENext G' B rb gm gM N n opv ops T hv' ov cp tb lvs x R w1 e' w2):
 e'=.returned (.bool R.2.en)/\(∃cp' ov' lvs',PlE G' B rb gm gM N n n n lv (.slice (some ⟨eb,0,none⟩) n ec) opv ops R.1 (upd' T x R.2) hv' (upd' ov x ov') (upd' cp x cp') tb (upd' lvs x lvs') (w2.setCell ⟨eb,x,none⟩ (.bool R.2.en)))/\HeldE B w (w2.setCell ⟨eb,x,none⟩ (.bool R.2.en))/\KeepQ w w2/\w2.ownsRow B 4 1 (.slice (some ⟨eb,0,none⟩) n ec) n (enL T n):=by
 obtain⟨e,cp',ov',lvs',k1,k2,k3⟩:=q;have kk:=hk1.trans k3;have hh:=hh1.trans k2;have hE2:=kk.row h.erow (by decide) (by decide) (by decide) (by decide) (by decide) (by decide) (by decide);have hL2:=kk.row h.lrow (by decide) (by decide) (by decide) (by decide) (by decide) (by decide) (by decide);obtain⟨⟨c,hc⟩,hBe,_⟩:=own_lt hE2 (g:=eb) rfl;have hM:=KeepM.set w2 hc x (.bool R.2.en) (by decide);have hh3:HeldE B w (w2.setCell ⟨eb,x,none⟩ (.bool R.2.en)):=hh.trans ⟨by rw[zqv];exact Nat.le_refl _,λb hb _=>zq8 _ _ _ _ (by show b≠eb;omega)⟩;refine⟨e,⟨cp',ov',lvs',k1.keepM hM,?_,?_,λi hi=>(h.opa i hi).held h.be hh3,λi hi=>?_,Nat.le_trans h.be hh3.size⟩,hh3,kk,hE2⟩
 . refine zqj hL2 λg hg=>zq8 _ _ _ _ λ(q:g=eb)=>?_
   obtain⟨⟨c2,hc2⟩,_⟩:=own_lt hL2 hg;exact zqf hc2 hc (by decide) q
 . have:=zq95 hE2 x (.bool R.2.en);rw[zq7s T hx]at this;exact this
 . by_cases e:i=x
   . subst e;rw[upd'_same];exact hR
   . rw[zqd _ _ e];exact h.len i hi
end
noncomputable def erpT(n:Nat):Code:=tailN n (Try.f10.body.getD .skip)
structure AnE(w0:World)(H1 j:Nat)(av:List Value)(ans ordv sv:Value)(b:Bool)(wr:World):Prop where
 size:w0.heap.size<=wr.heap.size
 old:∀x,x<w0.heap.size->x≠H1->wr.heap[x]?=w0.heap[x]?
 var:wr.heap[H1]?=some (.cells #[ans,ordv,sv,.bool b] 29)
 arow:wr.ownsRow w0.heap.size 56 1 ans j av
theorem AnE.next {w0:World}{H1 j:Nat}{av:List Value}{ans ordv sv x:Value}{b:Bool}{wr w5:World}(h:AnE w0 H1 j av ans ordv sv b wr)(hH:H1<w0.heap.size){g cap n:Nat}
 (hown:w5.ownsRow w0.heap.size 56 1 (.slice (some ⟨g,0,none⟩) (j+1) cap) (j+1) (av++[x])) (hgrow:((wr.drewN n).alloc (.cells #[x] 56)).grownBy w5 ans.ownBlock):
 AnE w0 H1 (j+1) (av++[x]) (.slice (some ⟨g,0,none⟩) (j+1) cap) ordv sv b (w5.setCell ⟨H1,0,none⟩ (.slice (some ⟨g,0,none⟩) (j+1) cap)):=by
 have hs:=h.size;have hs5:wr.heap.size+1<=w5.heap.size:=by have:=hgrow.size;rw[zq3]at this;exact this
 have h5:∀b,b<wr.heap.size->ans.ownBlock≠some b->w5.heap[b]?=wr.heap[b]?:=λb hb hne=>by
  rw[hgrow.block b (by rw[zq3];exact Nat.lt_succ_of_lt hb) (λe=>hne e.symm),zq5,if_neg (by show b≠wr.heap.size;omega)];rfl
 have hlo:∀g,ans.ownBlock=some g->w0.heap.size<=g:=λg hg=>(own_lt h.arow hg).2.1;have hv5:w5.heap[H1]?=_:=(h5 _ (by omega) (λe=>by have:=hlo _ e;omega)).trans h.var;refine⟨by rw[zqv];omega,λb hb hne=>?_,(zqn _ _ _ _ hv5).trans rfl,?_⟩
 . rw[zq8 _ _ _ _ hne,h5 b (by omega) (λe=>by have:=hlo _ e;omega)];exact h.old b hb hne
 . refine zqj hown λg' hg'=>zq8 _ _ _ _ ?_;have:=(own_lt hown hg').2.1;show g'≠H1;omega
structure EnI(H H1 N:Nat)(lp:Option Addr)(tb:Nat->Nat)(ov:Nat->Value)(ordv sv:Value)(b:Bool)(w:World):Prop where
 res:w.heap[H]?=some (.cells #[.slice none 0 0,.slice none 0 0,.slice none 0 0,.bool false] 29)
 var:w.heap[H1]?=some (.cells #[.slice none 0 0,ordv,sv,.bool b] 29)
 ne:H≠H1
 lrow:0<N->∃lb,lp=some ⟨lb,0,none⟩/\lb≠H1/\∀i,i<N->w.cell? ⟨lb,i,none⟩=some (.pointer (some ⟨tb i,0,none⟩))
 out:∀i,i<N->tb i≠H1/\w.cell? ⟨tb i,4,none⟩=some (ov i)
 sl:∀i,i<N->∃p n c,ov i=.slice p n c
def frD(H H1 N lC:Nat)(lp:Option Addr)(v:Nat->Value):Array Value:=#[v 0,v 1,v 2,v 3,v 4,v 5,v 6,v 7,.pointer (some ⟨H,0,none⟩),v 9,v 10,.slice lp N lC,v 12,v 13,v 14,v 15,v 16,v 17,.pointer (some ⟨H1,0,none⟩),v 19,v 20,v 21,v 22,v 23,v 24,v 25,v 26,v 27,v 28,v 29,v 30,v 31,v 32,v 33,v 34,v 35,v 36,v 37,v 38,v 39,v 40,v 41,v 42,v 43,v 44,v 45,v 46,v 47,v 48,v 49,v 50,v 51,v 52,v 53,v 54,v 55,v 56,v 57,v 58,v 59,v 60,v 61,v 62,v 63,v 64,v 65,v 66,v 67,v 68,v 69,v 70,v 71,v 72,v 73,v 74,v 75,v 76,v 77,v 78,v 79,v 80,v 81,v 82,v 83,v 84,v 85,v 86,v 87,v 88,v 89,v 90,v 91,v 92,v 93,v 94,v 95,v 96,v 97,v 98,v 99,v 100,v 101,v 102,v 103,v 104,v 105,v 106,v 107,v 108,v 109,v 110,v 111,v 112,v 113,v 114,v 115,v 116,v 117,v 118,v 119,v 120,v 121,v 122,v 123,v 124,v 125,v 126,v 127,v 128,v 129,v 130,v 131]
theorem eplay_d{R:Ending->World->Prop}{T:Array Value}{w:World}{H H1 N on oC sn sC lC:Nat}{lp op sp:Option Addr}{tb:Nat->Nat}{ov:Nat->Value}{b:Bool}(hT:T=frD H H1 N lC lp (λi=>T.getD i undef))(hN:N<=64)(h:EnI H H1 N lp tb ov (.slice op on oC) (.slice sp sn sC) b w)
 (hR:∀ans wr w9,AnE w H1 N ((List.range N).map ov) ans (.slice op on oC) (.slice sp sn sC) b wr->wr.heap.size<=w9.heap.size->(∀x,x≠H->w9.heap[x]?=wr.heap[x]?)->R (.returned (.agg #[ans,.slice op on oC,.slice sp sn sC,.bool b])) w9):
 Code.wp Try.prog (erpT 12) (bodyPost Try.prog Try.f10 R) ⟨T,[]⟩ w:=by
 obtain⟨v,hv⟩:∃v,T=frD H H1 N lC lp v:=⟨_,hT⟩;clear hT;subst hv;unfold frD;have hH1:=zqc h.var;have hHl:=zqc h.res;have HI:=Lib.hid (And.intro h (And.intro hH1 (And.intro hHl hR)));clear h hH1 hHl hR;obtain⟨u_,hu_⟩:∃c,erpT 12=c:=⟨_,rfl⟩;have eu_:=hu_;rw[hu_];simp only[erpT,headC,tailN,Try.f10,al_od]at eu_;subst eu_;clear hu_
 go_wp2_with (fail)
 go_loopg [19] N (λk i wr=>∃(j:Nat)(ans:Value),k=N - j/\j<=N/\i=.int .i64 j/\AnE w H1 j ((List.range j).map ov) ans (.slice op on oC) (.slice sp sn sC) b wr)
 case atStart=>exact⟨0,.slice none 0 0,rfl,Nat.zero_le _,rfl,⟨Nat.le_refl _,λ_ _ _=>rfl,HI.out.1.var,World.ownsRow_nil _ _ _ _⟩⟩
 case round=>
  obtain⟨j,ans,hk,hj,rfl,hA⟩:=hrel;have HA2:=Lib.hid hA;clear hA
  by_cases hlt:j<N
  . obtain⟨lb,rfl,hlb1,hlc⟩:=HI.out.1.lrow (by omega);have c1:=(zqu (a:=⟨lb,j,none⟩) (HA2.out.old lb (cell_lt (hlc j hlt)) hlb1)).trans (hlc j hlt);obtain⟨htb1,hto⟩:=HI.out.1.out j hlt;have c2:=(zqu (a:=⟨tb j,4,none⟩) (HA2.out.old (tb j) (cell_lt hto) htb1)).trans hto;obtain⟨xp,xn,xc,hx⟩:=HI.out.1.sl j hlt;rw[hx]at c2;obtain⟨tbj,htbj⟩:∃x,tb j=x:=⟨_,rfl⟩;rw[htbj]at c1 c2;have HX2:=Lib.hid hx;have hlt':(j:Int)<(N:Int):=by omega
    have hj0:(0:Int)<=j:=by omega
    have c3:=(zq0 (off:=0) HA2.out.var).trans rfl;have hbl:tbj<wr.heap.size:=cell_lt c2;have hll:lb<wr.heap.size:=cell_lt c1;have hHl:H1<wr.heap.size:=cell_lt c3;clear hx htbj hlc hto htb1 hlb1;have C1:=Lib.hid c1;have C2:=Lib.hid c2;have C3:=Lib.hid c3;clear c1 c2 c3
    go_wp2_with (fail)
    refine zq4f (k:=10) (s:=9) (W0:=wr.drewN 1) (W1:=(wr.drewN 1).alloc (.cells #[.slice xp xn xc] 56)) (by kernel_rfl) (by kernel_rfl) (by kernel_rfl) (by kernel_rfl) (by decide)
     [.pointer (some ⟨H1,0,none⟩),ans,.slice (some ⟨lb,0,none⟩) N lC,.int .i64 j,.pointer (some ⟨lb,j,none⟩),.pointer (some ⟨tbj,0,none⟩),.pointer (some ⟨tbj,0,none⟩),.pointer (some ⟨tbj,4,none⟩),.slice xp xn xc,.slice (some ⟨wr.heap.size,0,none⟩) 1 1] rfl rfl ?_ ?_ ?_
    . intro i o hi his ho W hWW;have hbe:Beyond wr W:=by
       rcases hWW with rfl |rfl
       . exact Beyond.drew _ _
       . exact(Beyond.drew _ _).trans (Beyond.alloc _ _)
      have q1:=hbe.cell C1.out;have q2:=hbe.cell C2.out;have q3:=hbe.cell C3.out;clear hWW hbe;simp only[putv,dstOf,al_gl,al_g0,al_g1,al_ob,al_g2,List.set_cons_succ,List.set_cons_zero];obtain rfl |rfl |rfl |rfl |rfl |rfl |rfl |rfl |rfl:i=0\/i=1\/i=2\/i=3\/i=4\/i=5\/i=6\/i=7\/i=8:=by omega
      all_goals(simp only[al_gl,al_g0,al_g1,al_oi]at ho;subst ho;refine .inl ?_)
      all_goals(simp only[execOp,Act.eval,al_gd,al_gl,al_g0,al_g1,al_od])
      all_goals(try go_simp)
    . intro o ho;simp only[putv,dstOf,al_gl,al_g0,al_g1,al_ob,al_g2,List.set_cons_succ,List.set_cons_zero];simp only[al_gl,al_g0,al_g1,al_oi]at ho;subst ho;refine .inl ?_;simp only[execOp,Act.eval,al_gd,al_gl,al_g0,al_g1,al_od];go_simp
    simp only[putv,dstOf,al_gl,al_g0,al_g1,al_ob,al_g2,List.set_cons_succ,List.set_cons_zero];refine zq1c (i:=10) (by kernel_rfl) ?_;simp only[wpOp,al_gl,al_g0,al_g1];rw[if_pos (by rfl)];refine .inl ?_;obtain⟨ti,hti,hz0,hz1,hz2⟩:∃ti,Try.prog.info? 56=some ti/\ti.zero=some (.slice none 0 0)/\ti.size=1/\ti.bytes=24:=⟨_,rfl,rfl,rfl,rfl⟩;have harow:((wr.drewN 1).alloc (.cells #[.slice xp xn xc] 56)).ownsRow w.heap.size 56 1 ans j ((List.range j).map ov):=zq1d (zqj HA2.out.arow λ_ _=>rfl) _;refine wp_append_lies _ (.tmp 120) (.tmp 128) 27 (by rfl) w.heap.size 56 ti (.slice none 0 0) 1 24 (by kernel_rfl) hti hz0 hz1 hz2 (by rfl) (by decide) ans j ((List.range j).map ov) (by rfl) harow ⟨wr.heap.size,0,none⟩ 1 1 [.slice xp xn xc] (by rfl) rfl (zq22 rfl) (by simp[Value.oneCell']) (by decide) (by simp only[maxLen];omega) (by omega) (by have:=HA2.out.size;rw[zq3];show _<=wr.heap.size+1;omega) _ rfl λg2 cap w6 hown hgrow hat hlt6=>?_;have L5:=Lib.hid (HA2.out.next HI.out.2.1 hown hgrow);have h5b:w6.heap[H1]?=some (.cells #[ans,.slice op on oC,.slice sp sn sC,.bool b] 29):=by
     rw[hgrow.block H1 (by rw[zq3];exact Nat.lt_succ_of_lt hHl) (λe=>by have h1:=(own_lt HA2.out.arow e.symm).2.1;have:=HI.out.2.1;omega),zq5,if_neg (by show H1≠wr.heap.size;omega)];exact HA2.out.var
    have h5v:=(zq0 (off:=0) h5b).trans rfl;have h5z:=zq6 (off:=0) h5b;clear h5b hown hgrow hat hlt6 harow hti hz0 hz1 hz2;refine zq1c (i:=11) (by kernel_rfl) ?_;simp only[wpOp,al_gl,al_g0,al_g1];rw[if_pos (by rfl)];refine .inl ?_;go_simp;refine zq1c (i:=12) (by kernel_rfl) ?_;simp only[wpOp,al_gl,al_g0,al_g1];rw[if_pos (by rfl)];refine .inl ?_;go_simp;refine zq1o (by kernel_rfl) ?_;clear h5v h5z;go_wp2;go_roundg (N - (j+1))
    case measure=>omega
    case rel=>
     refine⟨j+1,.slice (some ⟨g2,0,none⟩) (j+1) cap,rfl,by omega,rfl,?_⟩;rw[List.range_succ,List.map_append];simp only[List.map_cons,List.map_nil,HX2.out];exact L5.out
  . obtain rfl:N=j:=by omega
    obtain⟨pa,ca,rfl,_⟩:=zq1b HA2.out.arow;have hvar:=HA2.out.var;have v0:=(zq0 (off:=0) hvar).trans rfl;have v1:=(zq0 (off:=1) hvar).trans rfl;have v2:=(zq0 (off:=2) hvar).trans rfl;have v3:=(zq0 (off:=3) hvar).trans rfl;have hres:=(HA2.out.old H HI.out.2.2.1 HI.out.1.ne).trans HI.out.1.res;have r0:=(zq0 (off:=0) hres).trans rfl;have r1:=(zq0 (off:=1) hres).trans rfl;have r2:=(zq0 (off:=2) hres).trans rfl;have r3:=(zq0 (off:=3) hres).trans rfl;have z0:=zq6 (off:=0) hres;have z1:=zq6 (off:=1) hres;have z2:=zq6 (off:=2) hres;have z3:=zq6 (off:=3) hres;have hne:¬(H=H1):=HI.out.1.ne;have hne2:¬(H1=H):=λe=>HI.out.1.ne e.symm;have HRES:=Lib.hid hres;clear hvar hres;go_wp2;have b0:=HRES.out;have b1:=zqn wr H 0 (.slice pa N ca) b0;have b2:=zqn _ H 1 (.slice op on oC) b1;have b3:=zqn _ H 2 (.slice sp sn sC) b2;have b4:=zqn _ H 3 (.bool b) b3;clear r0 r1 r2 r3 z0 z1 z2 z3 v0 v1 v2 v3 b0 b1 b2 b3;have k0:=(zq0 (off:=0) b4).trans rfl;have k1:=(zq0 (off:=1) b4).trans rfl;have k2:=(zq0 (off:=2) b4).trans rfl;have k3:=(zq0 (off:=3) b4).trans rfl;have hfin:wr.heap.size<=((((wr.setCell ⟨H,0,none⟩ (.slice pa N ca)).setCell ⟨H,1,none⟩ (.slice op on oC)).setCell ⟨H,2,none⟩ (.slice sp sn sC)).setCell ⟨H,3,none⟩ (.bool b)).heap.size/\∀x,x≠H->((((wr.setCell ⟨H,0,none⟩ (.slice pa N ca)).setCell ⟨H,1,none⟩ (.slice op on oC)).setCell ⟨H,2,none⟩ (.slice sp sn sC)).setCell ⟨H,3,none⟩ (.bool b)).heap[x]?=wr.heap[x]?:=by
     refine⟨by simp only[zqv];exact Nat.le_refl _,λx hb=>?_⟩;rw[zq8 _ _ _ _ (show x≠H from hb),zq8 _ _ _ _ (show x≠H from hb),zq8 _ _ _ _ (show x≠H from hb),zq8 _ _ _ _ (show x≠H from hb)]
    generalize ((((wr.setCell ⟨H,0,none⟩ (.slice pa N ca)).setCell ⟨H,1,none⟩ (.slice op on oC)).setCell ⟨H,2,none⟩ (.slice sp sn sC)).setCell ⟨H,3,none⟩ (.bool b))=w9 at *;refine bodyPost_ret (v:=.agg #[.slice pa N ca,.slice op on oC,.slice sp sn sC,.bool b]) ?_ rfl (HI.out.2.2.2 _ wr w9 HA2.out hfin.1 hfin.2);simp only[results,Try.f10];simp[go_sem,k0,k1,k2,k3]
structure EcI(H ub rb gm N:Nat)(mv:Value)(lp:Option Addr)(tb:Nat->Nat)(ov:Nat->Value)(C:EpS)(op:Option Addr)(on oC:Nat)(ev:Value)(bo:Bool)(w:World):Prop where
 res:w.heap[H]?=some (.cells #[.slice none 0 0,.slice none 0 0,.slice none 0 0,.bool false] 29)
 ordc:w.cell? ⟨ub,4,none⟩=some (.slice op on oC)
 over:∀W,Beyond w W->Calls Try.prog 40 #[ev] W λe w'=>e=.returned (.bool bo)/\w'=W
 lrow:0<N->∃lb,lp=some ⟨lb,0,none⟩/\∀i,i<N->w.cell? ⟨lb,i,none⟩=some (.pointer (some ⟨tb i,0,none⟩))
 out:∀i,i<N->w.cell? ⟨tb i,4,none⟩=some (ov i)
 sl:∀i,i<N->∃p n c,ov i=.slice p n c
 dom:w.heap[rb]?=some (.cells #[.int .i64 C.e,.slice (some ⟨gm,0,none⟩) N N,mv] 60)
 mar:w.heap[gm]?=some (.cells (zq18 C N) 2)
structure EtI(H1:Nat)(w w':World)(ordv sv:Value)(b:Bool):Prop where
 size:H1+1<=w'.heap.size
 old:∀x,x<H1->w'.heap[x]?=w.heap[x]?
 var:w'.heap[H1]?=some (.cells #[.slice none 0 0,ordv,sv,.bool b] 29)
theorem EtI.row {H1:Nat}{w w' w2:World}{ordv sv sv' v':Value}{b:Bool}{B:Nat}{n k:Nat}{xs xs':List Value}(h:EtI H1 w w' ordv sv b)(hr:w'.ownsRow B 2 1 v' n xs)(hB:H1<B)(hb:w'.heap.size<=w2.heap.size)(h2:∀x,x<w'.heap.size->v'.ownBlock≠some x->w2.heap[x]?=w'.heap[x]?)
 (hr2:w2.ownsRow B 2 1 sv' k xs'):EtI H1 w (w2.setCell ⟨H1,2,none⟩ sv') ordv sv' b/\(w2.setCell ⟨H1,2,none⟩ sv').ownsRow B 2 1 sv' k xs':=by
 have hs:=h.size;have hl:∀g,v'.ownBlock=some g->B<=g:=λg hg=>(own_lt hr hg).2.1;have e:=(h2 H1 (by omega) (λe=>by have:=hl _ e;omega)).trans h.var;refine⟨⟨by rw[zqv];omega,λx hx=>?_,(zqn _ _ _ _ e).trans rfl⟩,zqj hr2 λg hg=>zq8 _ _ _ _ ?_⟩
 . rw[zq8 _ _ _ _ (by show x≠H1;omega),h2 x (by omega) (λe=>by have:=hl _ e;omega)];exact h.old x hx
 . have:=(own_lt hr2 hg).2.1;show g≠H1;omega
theorem wp_arun{o:Oper}{a:Act}{K:Act->World->Prop}{Q:Exit->Act->World->Prop}{w w':World}{v:Value}(s x:Operand)(t:TypeId)
 (ho:o.op=.call {callee:=.builtin .append,args:=#[s,x],argTypes:=#[t,t]}) (hr:(Builtin.append_ #[t,t] o.type #[a.eval s,a.eval x]).run Try.prog w=.ok v w') (h:K (a.put o.dst v) w'):o.wp Try.prog a w K Q:=by
 unfold Oper.wp execOp;simp only[ho,resolve,invoke,builtin,Sem.run_bind,Sem.run_pure,Result.andThen_ok,List.map_toArray,List.map_cons,List.map_nil,hr];exact h
theorem zqej(C:EpS)(N j:Nat)(u:Value)(h:((markL C N).map (Value.int .i64))[j]?=some u):(zq18 C N)[j]?=some u:=by
 have hj:j<N:=by have:=(List.getElem?_eq_some_iff.1 h).1;rwa [List.length_map,zq31]at this
 rw[zq3k hj];unfold markL at h;simp[hj]at h;rw[<-h]
def frC(H rb N lC ub:Nat)(lp:Option Addr)(ev:Value)(v:Nat->Value):Array Value:=#[v 0,v 1,v 2,v 3,v 4,v 5,v 6,v 7,.pointer (some ⟨H,0,none⟩),v 9,.pointer (some ⟨rb,0,none⟩),.slice lp N lC,ev,v 13,v 14,.pointer (some ⟨ub,0,none⟩),v 16,v 17,v 18,v 19,v 20,v 21,v 22,v 23,v 24,v 25,v 26,v 27,v 28,v 29,v 30,v 31,v 32,v 33,v 34,v 35,v 36,v 37,v 38,v 39,v 40,v 41,v 42,v 43,v 44,v 45,v 46,v 47,v 48,v 49,v 50,v 51,v 52,v 53,v 54,v 55,v 56,v 57,v 58,v 59,v 60,v 61,v 62,v 63,v 64,v 65,v 66,v 67,v 68,v 69,v 70,v 71,v 72,v 73,v 74,v 75,v 76,v 77,v 78,v 79,v 80,v 81,v 82,v 83,v 84,v 85,v 86,v 87,v 88,v 89,v 90,v 91,v 92,v 93,v 94,v 95,v 96,v 97,v 98,v 99,v 100,v 101,v 102,v 103,v 104,v 105,v 106,v 107,v 108,v 109,v 110,v 111,v 112,v 113,v 114,v 115,v 116,v 117,v 118,v 119,v 120,v 121,v 122,v 123,v 124,v 125,v 126,v 127,v 128,v 129,v 130,v 131]
theorem eplay_c{R:Ending->World->Prop}{T:Array Value}{w:World}{H ub rb gm N on oC lC:Nat}{mv ev:Value}{lp op:Option Addr}{tb:Nat->Nat}{ov:Nat->Value}{C:EpS}{bo:Bool}(hT:T=frC H rb N lC ub lp ev (λi=>T.getD i undef))(hN:N<=64)(h:EcI H ub rb gm N mv lp tb ov C op on oC ev bo w)
 (hR:∀ans sv w',IntsAt w' sv (epL C N)->(∃tp tc,ans=.slice tp N tc/\(0<N->∃b,tp=some ⟨b,0,none⟩/\∀i,i<N->w'.cell? ⟨b,i,none⟩=some (ov i)))->w.heap.size<=w'.heap.size->(∀b,b<w.heap.size->b≠H->w'.heap[b]?=w.heap[b]?)->R (.returned (.agg #[ans,.slice op on oC,sv,.bool (!bo)])) w'):
 Code.wp Try.prog (erpT 9) (bodyPost Try.prog Try.f10 R) ⟨T,[]⟩ w:=by
 obtain⟨v,hv⟩:∃v,T=frC H rb N lC ub lp ev v:=⟨_,hT⟩;clear hT;subst hv;unfold frC;obtain⟨H1,hH1⟩:∃x,w.heap.size=x:=⟨_,rfl⟩;have hHl:=zqc h.res;have hrl:=zqc h.dom;have hgl:=zqc h.mar;have hov:∀W:World,W=w.drewN 1\/W=(w.drewN 1).alloc (.cells #[.slice none 0 0,.slice none 0 0,.slice none 0 0,.bool false] 29)->Beyond w W:=λW hW=>by
  rcases hW with rfl |rfl
  . exact Beyond.drew _ _
  . exact(Beyond.drew _ _).trans (Beyond.alloc _ _)
 have c4:=h.ordc;have HI:=Lib.hid (And.intro h (And.intro hH1 (And.intro hR (And.intro hov (And.intro c4 (And.intro hHl (And.intro hrl hgl)))))));clear h hR hov c4 hHl hrl hgl;show Code.wp Try.prog (.seq (headC (erpT 9)) (.seq (headC (erpT 10)) (.seq (headC (erpT 11)) (erpT 12)))) _ _ _;obtain⟨R12,hR12⟩:∃R,erpT 12=R:=⟨_,rfl⟩;rw[hR12];obtain⟨u_,hu_⟩:∃c,headC (erpT 9)=c:=⟨_,rfl⟩;have eu_:=hu_;rw[hu_];simp only[erpT,headC,tailN,Try.f10,al_od]at eu_;subst eu_;clear hu_;obtain⟨u_,hu_⟩:∃c,headC (erpT 10)=c:=⟨_,rfl⟩;have eu_:=hu_;rw[hu_];simp only[erpT,headC,tailN,Try.f10,al_od]at eu_;subst eu_;clear hu_;obtain⟨u_,hu_⟩:∃c,headC (erpT 11)=c:=⟨_,rfl⟩;have eu_:=hu_;rw[hu_];simp only[erpT,headC,tailN,Try.f10,al_od]at eu_;subst eu_;clear hu_;have HRR:=Lib.hid hR12;clear hR12
 go_wp2_with (fail)
 refine zq4f (k:=9) (s:=8) (W0:=w.drewN 1) (W1:=(w.drewN 1).alloc (.cells #[.slice none 0 0,.slice none 0 0,.slice none 0 0,.bool false] 29)) (by kernel_rfl) (by kernel_rfl) (by kernel_rfl) (by kernel_rfl) (by decide)
  [.pointer (some ⟨ub,0,none⟩),.pointer (some ⟨ub,0,none⟩),.pointer (some ⟨ub,4,none⟩),.slice op on oC,ev,.bool bo,.bool (!bo),.agg #[.slice none 0 0,.slice op on oC,.slice none 0 0,.bool (!bo)],.pointer (some ⟨H1,0,none⟩)] rfl rfl ?_ ?_ ?_
 . intro i o hi his ho W hWW;have q4:=(HI.out.2.2.2.1 W hWW).cell HI.out.2.2.2.2.1;have qov:=HI.out.1.over W (HI.out.2.2.2.1 W hWW);clear hWW;simp only[putv,dstOf,al_gl,al_g0,al_g1,al_ob,al_g2,List.set_cons_succ,List.set_cons_zero];obtain rfl |rfl |rfl |rfl |rfl |rfl |rfl |rfl:i=5\/i=0\/i=1\/i=2\/i=3\/i=4\/i=6\/i=7:=by omega
   . simp only[al_gl,al_g0,al_g1,al_oi]at ho;subst ho;refine .inr ⟨40,#[ev],?_,qov⟩;simp[go_sem,execOp,Act.eval,resolve,Deferred.ofValue,invoke,callFunc,Try.func40,Try.f40]
   all_goals(simp only[al_gl,al_g0,al_g1,al_oi]at ho;subst ho;refine .inl ?_)
   all_goals(simp only[execOp,Act.eval,al_gd,al_gl,al_g0,al_g1,al_od])
   all_goals(clear qov)
   all_goals(try go_simp)
 . intro o ho;simp only[putv,dstOf,al_gl,al_g0,al_g1,al_ob,al_g2,List.set_cons_succ,List.set_cons_zero];simp only[al_gl,al_g0,al_g1,al_oi]at ho;subst ho;refine .inl ?_;simp only[execOp,Act.eval,al_gd,al_gl,al_g0,al_g1,al_od];go_simp
 simp only[putv,dstOf,al_gl,al_g0,al_g1,al_ob,al_g2,List.set_cons_succ,List.set_cons_zero];refine zq1c (i:=9) (by kernel_rfl) ?_;simp only[wpOp,al_gl,al_g0,al_g1];rw[if_pos (by rfl)];refine .inl ?_;go_simp;refine zq1o (by kernel_rfl) ?_;have hT0:EtI H1 w ((w.drewN 1).alloc (.cells #[.slice none 0 0,.slice op on oC,.slice none 0 0,.bool (!bo)] 29)) (.slice op on oC) (.slice none 0 0) (!bo):=
  ⟨by rw[zq3,<-hH1];exact Nat.le_refl _,λb hb=>((Beyond.drew w 1).trans (Beyond.alloc _ _)).2 b (by rw[hH1];exact hb),by rw[<-hH1];exact zqo (w.drewN 1) _⟩
 generalize (w.drewN 1).alloc (.cells #[.slice none 0 0,.slice op on oC,.slice none 0 0,.bool (!bo)] 29)=w5 at hT0 |-;have hdom5:=(hT0.old rb (by rw[<-HI.out.2.1];exact HI.out.2.2.2.2.2.2.1)).trans HI.out.1.dom;have s2:w5.cell? ⟨H1,2,none⟩=some (.slice none 0 0):=(zq0 hT0.var).trans rfl;have e0:w5.cell? ⟨rb,0,none⟩=some (.int .i64 C.e):=(zq0 hdom5).trans rfl;obtain⟨Z,hZ⟩:∃x,w5.heap.size=x:=⟨_,rfl⟩;obtain⟨ev0,hev0⟩:∃x,C.e=x:=⟨_,rfl⟩;rw[hev0]at e0;have HT0:=Lib.hid (And.intro hT0 (And.intro hZ hev0));have S2:=Lib.hid s2;have E0:=Lib.hid e0;clear hT0 hdom5 s2 e0
 go_wp2_with (fail)
 refine zq4f (k:=7) (s:=6) (W0:=w5.drewN 1) (W1:=(w5.drewN 1).alloc (.cells #[.int .i64 ev0] 2)) (by kernel_rfl) (by kernel_rfl) (by kernel_rfl) (by kernel_rfl) (by decide)
  [.pointer (some ⟨H1,2,none⟩),.slice none 0 0,.pointer (some ⟨rb,0,none⟩),.pointer (some ⟨rb,0,none⟩),.pointer (some ⟨rb,0,none⟩),.int .i64 ev0,.slice (some ⟨Z,0,none⟩) 1 1] rfl rfl ?_ ?_ ?_
 . intro i o hi his ho W hWW;have hbe:Beyond w5 W:=by
    rcases hWW with rfl |rfl
    . exact Beyond.drew _ _
    . exact(Beyond.drew _ _).trans (Beyond.alloc _ _)
   have q1:=hbe.cell S2.out;have q2:=hbe.cell E0.out;clear hWW hbe;simp only[putv,dstOf,al_gl,al_g0,al_g1,al_ob,al_g2,List.set_cons_succ,List.set_cons_zero];obtain rfl |rfl |rfl |rfl |rfl |rfl:i=0\/i=1\/i=2\/i=3\/i=4\/i=5:=by omega
   all_goals(simp only[al_gl,al_g0,al_g1,al_oi]at ho;subst ho;refine .inl ?_)
   all_goals(simp only[execOp,Act.eval,al_gd,al_gl,al_g0,al_g1,al_od])
   all_goals(try go_simp)
 . intro o ho;simp only[putv,dstOf,al_gl,al_g0,al_g1,al_ob,al_g2,List.set_cons_succ,List.set_cons_zero];simp only[al_gl,al_g0,al_g1,al_oi]at ho;subst ho;refine .inl ?_;simp only[execOp,Act.eval,al_gd,al_gl,al_g0,al_g1,al_od];go_simp
 simp only[putv,dstOf,al_gl,al_g0,al_g1,al_ob,al_g2,List.set_cons_succ,List.set_cons_zero];refine zq1c (i:=7) (by kernel_rfl) ?_;simp only[wpOp,al_gl,al_g0,al_g1];rw[if_pos (by rfl)];refine .inl ?_;obtain⟨ti,hti,hz0,hz1,hz2⟩:∃ti,Try.prog.info? 2=some ti/\ti.zero=some (.int .i64 0)/\ti.size=1/\ti.bytes=8:=⟨_,rfl,rfl,rfl,rfl⟩;refine wp_append_lies _ (.tmp 97) (.tmp 102) 22 (by rfl) Z 2 ti (.int .i64 0) 1 8 (by kernel_rfl) hti hz0 hz1 hz2 (by rfl) (by decide) (.slice none 0 0) 0 [] (by rfl) (World.ownsRow_nil _ _ _ _) ⟨Z,0,none⟩ 1 1 [.int .i64 ev0] (by rfl) rfl (by rw[<-HT0.out.2.1];exact zq22 rfl) (by simp[Value.oneCell']) (by decide) (by decide) (by decide) (by rw[zq3];show Z<=w5.heap.size+1;rw[HT0.out.2.1];exact Nat.le_succ _) _ rfl λg2 cap w6 hown hgrow hat hlt6=>?_;have k6:∀x,x<w5.heap.size->w6.heap[x]?=w5.heap[x]?:=λx hx=>by
  rw[hgrow.block x (by rw[zq3];exact Nat.lt_succ_of_lt hx) (λe=>by cases e),zq5,if_neg (by show x≠w5.heap.size;omega)];rfl
 have s6:w5.heap.size<=w6.heap.size:=by have:=hgrow.size;rw[zq3]at this;have h9:(w5.drewN 1).heap.size=w5.heap.size:=rfl;omega
 have L5:=Lib.hid (HT0.out.1.row (World.ownsRow_nil _ _ _ _) (show H1<Z by have:=HT0.out.1.size;have:=HT0.out.2.1;omega) s6 (λx hx _=>k6 x hx) hown);have h5b:=(k6 H1 (by have:=HT0.out.1.size;omega)).trans HT0.out.1.var;have h5v:=(zq0 (off:=2) h5b).trans rfl;have h5z:=zq6 (off:=2) h5b;have HK6:=Lib.hid (And.intro k6 s6);clear h5b hown hgrow hat hlt6 k6 s6;refine zq1c (i:=8) (by kernel_rfl) ?_;simp only[wpOp,al_gl,al_g0,al_g1];rw[if_pos (by rfl)];refine .inl ?_;go_simp;refine zq1c (i:=9) (by kernel_rfl) ?_;simp only[wpOp,al_gl,al_g0,al_g1];rw[if_pos (by rfl)];refine .inl ?_;go_simp;refine zq1o (by kernel_rfl) ?_;clear h5v h5z;generalize w6.setCell ⟨H1,2,none⟩ (.slice (some ⟨g2,0,none⟩) 1 cap)=w7 at L5 |-;obtain⟨hT7,hr7⟩:=L5.out;have hdom7:=(hT7.old rb (by rw[<-HI.out.2.1];exact HI.out.2.2.2.2.2.2.1)).trans HI.out.1.dom;have hmar7:=(hT7.old gm (by rw[<-HI.out.2.1];exact HI.out.2.2.2.2.2.2.2)).trans HI.out.1.mar;have s7:w7.cell? ⟨H1,2,none⟩=some (.slice (some ⟨g2,0,none⟩) 1 cap):=(zq0 hT7.var).trans rfl;have s7z:=zq6 (off:=2) hT7.var;have e7:w7.cell? ⟨rb,1,none⟩=some (.slice (some ⟨gm,0,none⟩) N N):=(zq0 hdom7).trans rfl;have HT7:=Lib.hid (And.intro hT7 (And.intro hr7 hmar7));clear hT7 hr7 hdom7 hmar7 L5
 go_wp2_with (fail)
 refine zq2u (k:=6) (C:=λw'=>∃n,w'=w7.drewN n) (by kernel_rfl) (by kernel_rfl) (by kernel_rfl) (by kernel_rfl) (by kernel_rfl) ⟨1,rfl⟩ ?_;simp only[List.take_succ_cons,List.take_zero]
 repeat (quiet_step (fail))
 refine wpQuiet_nil ?_;rintro _ ⟨nq,rfl⟩;refine zq1c (i:=6) (by kernel_rfl) ?_;simp only[wpOp,al_gl,al_g0,al_g1];rw[if_pos (by rfl)];refine .inl ?_;have hr8:(w7.drewN nq).ownsRow Z 2 1 (.slice (some ⟨g2,0,none⟩) 1 cap) 1 [.int .i64 ev0]:=HT7.out.2.1;obtain⟨v',w8,hrun,ho,hw,hat,_,_⟩:=app_wr (P:=Try.prog) (w7.drewN nq) 22 22 2 ti (.int .i64 0) 1 8 (by kernel_rfl) hti hz0 hz1 hz2 rfl (by decide) hr8 (by have h1:=HT7.out.1.size;have h2:=(own_lt HT7.out.2.1 (g:=g2) rfl).2;show Z<=w7.heap.size;omega) (some ⟨gm,0,none⟩) N N ((markL C N).map (Value.int .i64)) (by simp[zq31]) (λh0=>⟨_,rfl,λj u hj=>by
  rw[Go.Proofs.add_at rfl,show 0+j=j from by omega];exact(zq0 (w:=w7.drewN nq) HT7.out.2.2).trans (zqej C N j u hj)⟩) (by simp[Value.oneCell']) (by simp only[maxLen];omega) (by omega)
 refine wp_arun (.tmp 106) (.tmp 110) 22 rfl hrun ?_;obtain⟨p3,c3,rfl,-,-⟩:=zq1b ho;have k8:∀x,x<w7.heap.size->(Value.slice (some ⟨g2,0,none⟩) 1 cap).ownBlock≠some x->w8.heap[x]?=w7.heap[x]?:=λx hx hn=>hw.old x hx hn;have L8:=Lib.hid (HT7.out.1.row HT7.out.2.1 (show H1<Z by have:=HT0.out.1.size;have:=HT0.out.2.1;omega) (show w7.heap.size<=w8.heap.size from hw.size) k8 ho);have h8b:=(k8 H1 (by have:=HT7.out.1.size;omega) (λe=>by have h1:=(own_lt HT7.out.2.1 e).2.1;have:=HT0.out.1.size;have:=HT0.out.2.1;omega)).trans HT7.out.1.var;have h8v:=(zq0 (off:=2) h8b).trans rfl;have h8z:=zq6 (off:=2) h8b;clear h8b ho hw hat k8 hrun hr8 s7 s7z e7;refine zq1c (i:=7) (by kernel_rfl) ?_;simp only[wpOp,al_gl,al_g0,al_g1];rw[if_pos (by rfl)];refine .inl ?_;go_simp;refine zq1c (i:=8) (by kernel_rfl) ?_;simp only[wpOp,al_gl,al_g0,al_g1];rw[if_pos (by rfl)];refine .inl ?_;go_simp;refine zq1o (by kernel_rfl) ?_;clear h8v h8z;generalize w8.setCell ⟨H1,2,none⟩ (.slice p3 (1+N) c3)=w9 at L8 |-
 go_wp2_with (fail)
 rw[<-HRR.out];clear HRR R12;have hHH:H<H1:=by rw[<-HI.out.2.1];exact HI.out.2.2.2.2.2.1
 have lt:∀{a:Addr}{x:Value},w.cell? a=some x->a.block<H1:=λhc=>by rw[<-HI.out.2.1];exact cell_lt hc
 refine eplay_d (op:=op) (on:=on) (oC:=oC) (sp:=p3) (sn:=1+N) (sC:=c3) (lC:=lC) (H:=H) (H1:=H1) (tb:=tb) (ov:=ov) (b:=!bo) rfl hN ?_ ?_
 . refine⟨(L8.out.1.old H hHH).trans HI.out.1.res,L8.out.1.var,by omega,λh0=>?_,λi hi=>?_,HI.out.1.sl⟩
   . obtain⟨lb,e,hc⟩:=HI.out.1.lrow h0;have:=lt (hc 0 h0);refine⟨lb,e,by simp only at this;omega,λi hi=>?_⟩;exact(zqu (a:=⟨lb,i,none⟩) (L8.out.1.old lb this)).trans (hc i hi)
   . have hc:=HI.out.1.out i hi;have:=lt hc;exact⟨by simp only at this;omega,(zqu (a:=⟨tb i,4,none⟩) (L8.out.1.old (tb i) this)).trans hc⟩
 . intro ans wr w' hA hs ho;have hs9:=L8.out.1.size;have h1:=HI.out.2.1;refine HI.out.2.2.1 _ _ _ ?_ ?_ (by have:=hA.size;omega) (λb hb hne=>?_)
   . have hrow:=L8.out.2;have:w'.ownsRow Z 2 1 (.slice p3 (1+N) c3) (1+N) ((epL C N).map (Value.int .i64)):=by
      unfold epL;rw[HT0.out.2.2,List.map_cons];refine zqj hrow λg hg=>?_;obtain⟨⟨cc,hcc⟩,k1,k2⟩:=own_lt hrow hg;have hz1:=HT0.out.1.size;have hz2:=HT0.out.2.1;rw[ho g (by omega),hA.old g k2 (by omega)]
     have e:(epL C N).length=1+N:=by unfold epL;rw[List.length_cons,zq31];omega
     refine zq3i (B:=Z) (T:=2) (v:=.slice p3 (1+N) c3) ?_;rw[e];exact this
   . obtain⟨tp,tc,rfl,_,hc⟩:=zq2m hA.arow;refine⟨tp,tc,rfl,λh0=>?_⟩;obtain⟨g,e,e2,hc⟩:=hc h0;refine⟨g,e,λi hi=>?_⟩;have hgl:=(own_lt hA.arow e2).2.1;exact(zqu (a:=⟨g,i,none⟩) (ho g (by omega))).trans (hc i _ (by simp[hi]))
   . rw[ho b hne,hA.old b (by omega) (by omega)];exact L8.out.1.old b (by omega)
def dopE(N:Nat):Nat->OpX->Proc SE Ans:=λi=>opE N i
def OkE'(N:Nat):Nat->OpX->RTh->Prop:=λ_=>OkE N
theorem epLaw'{N:Nat}(hN:0<N):RLawQ (epR N) (dopE N) (OkE' N) (epC N) QE 65536:=epLaw hN
theorem PkI.keepQ {ub:Nat}{slv:Value}{most:Nat}{l:List Int}{a r:Nat}{ov:Value}{ord:List Nat}{ev:Value}{en:Nat->Bool}{N base:Nat}{w w':World}(h:PkI ub slv most l a r ov ord ev en N base w)(q:KeepQ w w'):PkI ub slv most l a r ov ord ev en N base w':=
 ⟨⟨(q _ _ _ h.t.hm (by decide) (by decide) (by decide) (by decide) (by decide) (by decide) (by decide)).trans h.t.hm⟩,
  q.row h.lrow (by decide) (by decide) (by decide) (by decide) (by decide) (by decide) (by decide),
  q.row h.orow (by decide) (by decide) (by decide) (by decide) (by decide) (by decide) (by decide),
  q.row h.erow (by decide) (by decide) (by decide) (by decide) (by decide) (by decide) (by decide),h.sep⟩
theorem PkI.setE {ub:Nat}{slv:Value}{most:Nat}{l:List Int}{a r:Nat}{ov:Value}{ord:List Nat}{eb ec:Nat}{T:Nat->RTh}{N base:Nat}{w:World}(h:PkI ub slv most l a r ov ord (.slice (some ⟨eb,0,none⟩) N ec) (λi=>(T i).en) N base w){x:Nat}(hx:x<N)(t':RTh):
 PkI ub slv most l a r ov ord (.slice (some ⟨eb,0,none⟩) N ec) (λi=>(upd' T x t' i).en) N base (w.setCell ⟨eb,x,none⟩ (.bool t'.en)):=by
 obtain⟨⟨c,hc⟩,_⟩:=own_lt h.erow (g:=eb) rfl;refine⟨⟨(zq8 _ _ _ _ (zqf h.t.hm hc (by decide))).trans h.t.hm⟩,zqj h.lrow λg hg=>zq8 _ _ _ _ ?_,zqj h.orow λg hg=>zq8 _ _ _ _ ?_,?_,h.sep⟩
 . obtain⟨⟨c2,hc2⟩,_⟩:=own_lt h.lrow hg;exact zqf hc2 hc (by decide)
 . obtain⟨⟨c2,hc2⟩,_⟩:=own_lt h.orow hg;exact zqf hc2 hc (by decide)
 . have:=zq95 h.erow x (.bool t'.en);have e:(boolL (λi=>(T i).en) N).set x (.bool t'.en)=boolL (λi=>(upd' T x t' i).en) N:=zq7s T hx t';rw[e]at this;exact this
structure RnE(B rb gm gM N most ub:Nat)(lv ev slv:Value)(opv:Nat->Value)(ops:Nat->List OpX)(tb:Nat->Nat)(l:List Int)(P:TSt SE)(w0:World)(G:Nat->Option Obj)(C:EpS)(T:Nat->RTh)(hv ov cp:Nat->Value)(lvs:Nat->List Value)(a r:Nat)(sov:Value)(s:TSt SE)(w:World):Prop where
 p:PlE G B rb gm gM N N N N lv ev opv ops C T hv ov cp tb lvs w
 k:PkI ub slv most l a r sov s.ord ev (λi=>(T i).en) N B w
 ub:B<=ub
 rel:RelQ (dopE N) (epC N) (OkE' N) QE N ops s C T
 inv:zq44 l N most P a r s
 le:a<=l.length/\r<=N/\s.ord.length<=most
 held:HeldE B w0 w
section
variable {B rb gm gM N most ub:Nat} {lv ev slv:Value} {opv:Nat->Value} {ops:Nat->List OpX} {tb:Nat->Nat} {l:List Int} {P:TSt SE} {w0:World} {G:Nat->Option Obj} {C:EpS} {T:Nat->RTh} {hv ov cp:Nat->Value} {lvs:Nat->List Value} {a r:Nat} {sov:Value} {s:TSt SE} {w w2:World}
theorem RnE.rest (h:RnE B rb gm gM N most ub lv ev slv opv ops tb l P w0 G C T hv ov cp lvs a r sov s w)(hR:RestU ub sov.ownBlock w w2):PlE G B rb gm gM N N N N lv ev opv ops C T hv ov cp tb lvs w2/\HeldE B w w2:=by
 have hu:=h.k.t.hm;have ho:=h.k.orow;have keep:∀(b:Nat)(c:Array Value)(T':TypeId),w.heap[b]?=some (.cells c T')->T'≠110->T'≠3->w2.heap[b]?=w.heap[b]?:=λb c T' h0 h1 h2=>hR.old b (zqc h0) (zqf h0 hu h1) (zqx ho h0 (λq=>h2 q.symm));have hh:HeldE B w w2:=⟨hR.size,λb hb hs=>hR.old b hs (by have:=h.ub;omega) (λe=>by have:=(own_lt ho e).2.1;omega)⟩;refine⟨h.p.keepM ⟨hR.size,λb c T' h0 h1=>keep b c T' h0 ?_ ?_⟩ hh (zqj h.p.lrow λg hg=>?_) (zqj h.p.erow λg hg=>?_),hh⟩
 . rcases h1 with rfl |rfl |rfl |rfl |rfl |rfl |rfl<;>decide
 . rcases h1 with rfl |rfl |rfl |rfl |rfl |rfl |rfl<;>decide
 . obtain⟨⟨c,hc⟩,_⟩:=own_lt h.p.lrow hg;exact keep g c _ hc (by decide) (by decide)
 . obtain⟨⟨c,hc⟩,_⟩:=own_lt h.p.erow hg;exact keep g c _ hc (by decide) (by decide)
theorem RnE.call (h:RnE B rb gm gM N most ub lv ev slv opv ops tb l P w0 G C T hv ov cp lvs a r sov s w)(hR:RestU ub sov.ownBlock w w2)(hL:∀i,(ops i).length<=65536){x:Nat}(hx:x<N)(he:(T x).en=false)(ord':List Nat):
 ∃cb op,cp x=.pointer (some ⟨cb,0,none⟩)/\(ops x)[(T x).at']?=some op/\B<=cb/\CrAt cb x (crOf op (T x)) (.slice none 0 0) w2/\OkE N op (T x)/\(C.th x).length<=65536/\
  RelQ (dopE N) (epC N) (OkE' N) QE N ops (turnT x (goT (s.t x) s.s) s ord') (setlG (epR N) x (ops x) (epStp N x op C (T x))).1 (upd' T x (setlG (epR N) x (ops x) (epStp N x op C (T x))).2):=by
 obtain⟨op,hop,hpc,hok,hrel⟩:=h.rel.step (epLaw' (by omega)) hL hx he (ord':=ord');have hq:(C.th x).length<=(T x).at':=h.rel.q x;have hlt:=(List.getElem?_eq_some_iff.1 hop).1;have hl:=hL x;rcases(h.rest hR).1.m.call x hx (λq=>q)with⟨q1,_⟩|⟨q1,cb,op',q2,q3,q4,q5⟩
 . exact absurd q1 hpc
 . rw[hop]at q3;cases q3;exact⟨cb,op,q2,hop,q4,q5,hok,by omega,hrel⟩
theorem skip_enE(hr:RelQ (dopE N) (epC N) (OkE' N) QE N ops s C T):∀y,skipN N (λi=>(T i).en) y->skipN N s.ov y:=λy hy=>by
 rcases hy with h1|h1|h1
 . exact .inl h1
 . exact .inr (.inl h1)
 . by_cases h2:y<0
   . exact .inl h2
   by_cases h3:(N:Int)<=y
   . exact .inr (.inl h3)
   . exact .inr (.inr (by rw[(hr.rel.thr _ (by omega)).2.1];exact h1))
theorem pick_enE(hr:RelQ (dopE N) (epC N) (OkE' N) QE N ops s C T){x a' r':Nat}(hp:PickR l N (λi=>(T i).en) a r x a' r'):PickR l N s.ov a r x a' r':=by
 have hsk:=skip_enE hr;have hx:=hp.lt.1;cases hp with
 |list hka hxx hN he hs=>exact .list hka hxx hN (by rw[(hr.rel.thr _ hN).2.1];exact he) λj y h1 h2 h3=>hsk y (hs j y h1 h2 h3)
 |round hs hr' hxx hN he hv ha=>exact .round (λj y h1 h2=>hsk y (hs j y h1 h2)) hr' hxx hN (by rw[(hr.rel.thr _ hx).2.1];exact he) (λj h1 h2=>by rw[(hr.rel.thr _ (Nat.mod_lt _ hN)).2.1];exact hv j h1 h2) ha
theorem RnE.turn {eb ec:Nat}(h:RnE B rb gm gM N most ub lv (.slice (some ⟨eb,0,none⟩) N ec) slv opv ops tb l P w0 G C T hv ov cp lvs a r sov s w)(hR:RestU ub sov.ownBlock w w2)(hL:∀i,(ops i).length<=65536){x a' r':Nat}{sov':Value}(hne:s.ord.length<most)
 (hpk:PickR l N (λi=>(T i).en) a r x a' r') (ha':a'<=l.length) (hk:PkI ub slv most l a' r' sov' (s.ord++[x]) (.slice (some ⟨eb,0,none⟩) N ec) (λi=>(T i).en) N B w2)
 {op:OpX} (hop:(ops x)[(T x).at']?=some op) (hq:(C.th x).length<=65536)
 (hrel:RelQ (dopE N) (epC N) (OkE' N) QE N ops (turnT x (goT (s.t x) s.s) s (s.ord++[x])) (setlG (epR N) x (ops x) (epStp N x op C (T x))).1 (upd' T x (setlG (epR N) x (ops x) (epStp N x op C (T x))).2))
 {e2:Ending} {w3 w4:World} {G':Nat->Option Obj} {hv':Nat->Value}
 (hE:ERep (λi=>i=x) G' B rb gm gM N N opv ops (epStp N x op C (T x)).1 T hv' ov cp tb lvs w3) (hh3:HeldE B w2 w3) (hk3:KeepQ w2 w3)
 (hX:ENext G' B rb gm gM N N opv ops T hv' ov cp tb lvs x (setlG (epR N) x (ops x) ((epStp N x op C (T x)).1,(epStp N x op C (T x)).2)) w3 e2 w4):
 ∃b,e2=.returned (.bool b)/\w4.ownsRow B 4 1 (.slice (some ⟨eb,0,none⟩) N ec) N (enL T N)/\∃C' T' ov' cp' lvs',RnE B rb gm gM N most ub lv (.slice (some ⟨eb,0,none⟩) N ec) slv opv ops tb l P w0 G' C' T' hv' ov' cp' lvs' a' r' sov' (turnT x (goT (s.t x) s.s) s (s.ord++[x])) (w4.setCell ⟨eb,x,none⟩ (.bool b)):=by
 obtain⟨hx,hex⟩:=hpk.lt;obtain⟨p2,hh2⟩:=h.rest hR;have hlen:LenE (ops x) (setlG (epR N) x (ops x) ((epStp N x op C (T x)).1,(epStp N x op C (T x)).2)).2:=zq9h _ (zqd0 (h.p.len x hx) hop hq);obtain⟨he,⟨cp',ov',lvs',k1⟩,k2,k3,k4⟩:=p2.turned hx hlen hE hh3 hk3 hX;refine⟨_,he,k4,_,_,_,_,_,k1,?_,h.ub,hrel,zq90 h.inv hne (pick_enE h.rel hpk),⟨ha',?_,?_⟩,h.held.trans (hh2.trans k2)⟩
 . exact(hk.keepQ k3).setE hx _
 . cases hpk with
   |list hk hxx hN he hs=>exact h.le.2.1
   |round hs hr hxx hN he hv ha=>exact hx
 . show(s.ord++[x]).length<=most;rw[List.length_append];exact hne
theorem RnE.over (h:RnE B rb gm gM N most ub lv ev slv opv ops tb l P w0 G C T hv ov cp lvs a r sov s w)(hs:allB (λi=>(T i).en) N=true\/s.ord.length=most):P=s:=by
 refine zqfc h.inv ?_;rcases hs with hs|hs
 . left
   rcases Nat.eq_zero_or_pos (leftN s.ov N)with h0|h0
   . exact h0
   . obtain⟨i,hi,he⟩:=zq4y h0;rw[(h.rel.rel.thr i hi).2.1,allB_iff.1 hs i hi]at he;cases he
 . exact .inr hs
theorem zqby{en ov:Nat->Bool}{N:Nat}(h:∀i,i<N->ov i=en i):(!allB en N)=decide (0<leftN ov N):=by
 cases ha:allB en N with
 |true=>
  have h0:leftN ov N=0:=by
   rcases Nat.eq_zero_or_pos (leftN ov N)with h0|h0
   . exact h0
   . obtain⟨i,hi,he⟩:=zq4y h0;rw[h i hi,allB_iff.1 ha i hi]at he;cases he
  simp[h0]
 |false=>
  have:0<leftN ov N:=by
   rcases Nat.eq_zero_or_pos (leftN ov N)with h0|h0
   . have:allB en N=true:=allB_iff.2 λi hi=>by rw[<-h i hi];exact zq8f h0 hi
     rw[ha]at this;cases this
   . exact h0
  simp[this]
end
def ERPost(N most H:Nat)(ops:Nat->List OpX)(P:TSt SE)(w0:World)(v:Value)(w':World):Prop:=
 TraceAt w' v N (λi=>P.s.2 i) (P.ord.map λ(i:Nat)=>(i:Int)) (epL P.s.1 N) (decide (0<leftN P.ov N))/\(w0.heap.size<=w'.heap.size/\∀b,b<H->w'.heap[b]?=w0.heap[b]?)/\P.ord.length<=most/\∀i,i<N->LenE (ops i) ⟨(P.s.2 i).length,0,λ_=>0,P.s.2 i,false⟩
section
variable {B rb gm gM N most ub H:Nat} {lv ev slv:Value} {opv:Nat->Value} {ops:Nat->List OpX} {tb:Nat->Nat} {l:List Int} {P:TSt SE} {w0:World} {G:Nat->Option Obj} {C:EpS} {T:Nat->RTh} {hv ov cp:Nat->Value} {lvs:Nat->List Value} {a r:Nat} {sov:Value} {s:TSt SE} {w w':World} {lp:Option Addr} {lC:Nat}
theorem zqeo(ord:List Nat):natL ord=(ord.map λ(i:Nat)=>(i:Int)).map (Value.int .i64):=by unfold natL;rw[List.map_map];rfl
theorem RnE.ends (h:RnE B rb gm gM N most ub (.slice lp N lC) ev slv opv ops tb l P w0 G C T hv ov cp lvs a r sov s w)(hN:N<=64)(hH:H<B)(hB0:B<=w0.heap.size)(hres:w0.heap[H]?=some (.cells #[.slice none 0 0,.slice none 0 0,.slice none 0 0,.bool false] 29)){op:Option Addr}{oC:Nat}(hsov:sov=.slice op s.ord.length oC):
 EcI H ub rb gm N (.slice (some ⟨gM,0,none⟩) N N) lp tb ov C op s.ord.length oC ev (allB (λi=>(T i).en) N) w where
 res:=(h.held.old H hH (by omega)).trans hres
 ordc:=by rw[<-hsov];exact h.k.t.c4
 over W hW:=zq65 (by omega) (h.k.eb.beyond hW)
 lrow h0:=by
  obtain⟨p,c,e,_,hc⟩:=zq2m h.p.lrow;cases e;obtain⟨g,e2,_,hc⟩:=hc h0;exact⟨g,e2,λi hi=>hc i _ (zq6u hi)⟩
 out i hi:=(zq0 (h.p.m.th i hi)).trans rfl
 sl i hi:=by
  obtain⟨p,c,e,_⟩:=zq1b (h.p.m.out i hi);exact⟨p,_,c,e⟩
 dom:=h.p.m.d.dom
 mar:=h.p.m.d.mar
theorem RnE.tell (h:RnE B rb gm gM N most ub (.slice lp N lC) ev slv opv ops tb l P w0 G C T hv ov cp lvs a r sov s w)(hH:H<B)(hB0:B<=w0.heap.size)(hP:P=s){op:Option Addr}{oC:Nat}(hsov:sov=.slice op s.ord.length oC)
 {ans sv:Value} (h1:IntsAt w' sv (epL C N)) (h2:∃tp tc,ans=.slice tp N tc/\(0<N->∃b,tp=some ⟨b,0,none⟩/\∀i,i<N->w'.cell? ⟨b,i,none⟩=some (ov i))) (h3:w.heap.size<=w'.heap.size) (h4:∀b,b<w.heap.size->b≠H->w'.heap[b]?=w.heap[b]?):
 ERPost N most H ops P w0 (.agg #[ans,.slice op s.ord.length oC,sv,.bool (!allB (λi=>(T i).en) N)]) w':=by
 subst hP;obtain⟨tp,tc,rfl,hc⟩:=h2;have hst:(!allB (λi=>(T i).en) N)=decide (0<leftN P.ov N):=zqby λi hi=>(h.rel.rel.thr i hi).2.1;rw[hst];refine⟨⟨tp,tc,_,sv,rfl,?_,by rw[h.rel.rel.c];exact h1,λh0=>?_⟩,⟨Nat.le_trans h.held.size h3,λb hb=>?_⟩,h.le.2.2,λi hi=>?_⟩
 . have hr:w'.ownsRow B 3 1 sov P.ord.length (natL P.ord):=zqj h.k.orow λg hg=>by
    obtain⟨_,k1,k2⟩:=own_lt h.k.orow hg;exact h4 g k2 (by omega)
   rw[zqeo]at hr;rw[<-hsov];refine zq3i (B:=B) (T:=3) ?_;rw[List.length_map];exact hr
 . obtain⟨b,e,hc⟩:=hc h0;refine⟨b,0,e,λi hi=>⟨ov i,by rw[Nat.zero_add];exact hc i hi,?_⟩⟩;have hr:w'.ownsRow B 48 3 (ov i) (T i).ans.length (avC (T i).ans (lvs i)):=zqj (h.p.m.out i hi) λg hg=>by
    obtain⟨_,k1,k2⟩:=own_lt (h.p.m.out i hi) hg;exact h4 g k2 (by omega)
   show AnsAt w' (ov i) (P.s.2 i);rw[h.rel.rel.ans i];refine ansE_at hr (h.p.m.len i hi) (h.p.m.lst i hi) λb o hb=>?_;obtain⟨k1,_,k2,_⟩:=h.p.m.gho b o hb;exact(h4 b (zqc k1) (by omega)).trans k1
 . rw[h4 b (by have:=h.held.size;omega) (by omega)];exact h.held.old b (by omega) (by omega)
 . obtain⟨k1,k2,k3⟩:=h.p.len i hi;rw[h.rel.rel.ans i];exact⟨rfl,by show(T i).ans.length<=_;omega,k3⟩
theorem eplay_b{R:Ending->World->Prop}{T0:Array Value}(hT:T0=frC H rb N lC ub lp ev (λi=>T0.getD i undef))(hN:N<=64)(hl:l.length<=1099511627776)(hm:most<=1048576)(hL:∀i,(ops i).length<=65536)(hH:H<B)(hB0:B<=w0.heap.size)(hres:w0.heap[H]?=some (.cells #[.slice none 0 0,.slice none 0 0,.slice none 0 0,.bool false] 29))
 (h:RnE B rb gm gM N most ub (.slice lp N lC) ev slv opv ops tb l P w0 G C T hv ov cp lvs a r sov s w) (hR:∀v w',ERPost N most H ops P w0 v w'->R (.returned v) w'):
 Code.wp Try.prog (erpT 8) (bodyPost Try.prog Try.f10 R) ⟨T0,[]⟩ w:=by
 obtain⟨v,hv0⟩:∃v,T0=frC H rb N lC ub lp ev v:=⟨_,hT⟩;clear hT;subst hv0;unfold frC;have HI:=Lib.hid (And.intro h (And.intro hH (And.intro hB0 (And.intro hres (And.intro hR (And.intro hL (And.intro hm hl)))))));clear h hH hB0 hres hR hL;show Code.wp Try.prog (.seq (headC (erpT 8)) (erpT 9)) _ _ _;obtain⟨R9,hR9⟩:∃R,erpT 9=R:=⟨_,rfl⟩;rw[hR9];obtain⟨u_,hu_⟩:∃c,headC (erpT 8)=c:=⟨_,rfl⟩;have eu_:=hu_;rw[hu_];simp only[erpT,headC,tailN,Try.f10,al_od]at eu_;subst eu_;clear hu_;have HRR:=Lib.hid hR9;clear hR9
 go_wp2_with (fail)
 go_loopg [] (most - s.ord.length) (λk wr=>∃(G:Nat->Option Obj)(C:EpS)(T:Nat->RTh)(hv ov cp:Nat->Value)(lvs:Nat->List Value)(a r:Nat)(sov:Value)(s:TSt SE),k=most - s.ord.length/\RnE B rb gm gM N most ub (.slice lp N lC) ev slv opv ops tb l P w0 G C T hv ov cp lvs a r sov s wr)
 case atStart=>exact⟨_,_,_,_,_,_,_,_,_,_,_,rfl,HI.out.1⟩
 case round=>
  obtain⟨G,C,T,hv,ov,cp,lvs,a,r,sov,s,hk,h⟩:=hrel;have HJ:=Lib.hid h;have hle:=h.le;have hbe:=h.p.be;clear h
  go_wp2_with (fail)
  refine Calls.mono (zqf8 hN hl hle.1 hle.2.1 (by omega) hm hbe HJ.out.k) ?_;rintro e w3 (⟨hst,rfl,nn,rfl⟩|⟨hall,hne,x,a',r',sov',rfl,hpk,ha',hk2,hRU,hown⟩)
  . have HS:=Lib.hid (HJ.out.over hst);clear hst
    go_wp2_with (fail)
    rw[<-HRR.out];obtain⟨op,oC,hsov,_⟩:=zq1b HJ.out.k.orow;obtain⟨h,hH,hB0,hres,hR,_⟩:=HI.out;have hE:=HJ.out.ends hN hH hB0 hres hsov;refine eplay_c (lp:=lp) (lC:=lC) (ev:=ev) (H:=H) (ub:=ub) (rb:=rb) (gm:=gm) (N:=N) (mv:=.slice (some ⟨gM,0,none⟩) N N) (tb:=tb) (ov:=ov) (C:=C) (op:=op) (on:=s.ord.length) (oC:=oC) (bo:=allB (λi=>(T i).en) N) rfl hN ⟨hE.res,hE.ordc,λW hW=>hE.over W ⟨hW.1,hW.2⟩,hE.lrow,hE.out,hE.sl,hE.dom,hE.mar⟩ ?_;intro ans sv w' q1 q2 q3 q4;exact hR _ _ (HJ.out.tell hH hB0 HS.out hsov q1 q2 q3 q4)
  . obtain⟨hx,hex⟩:=hpk.lt;have hlt:s.ord.length<most:=by omega
    obtain⟨cb,op,hcp,hop,hcb,hca,hok,hq,hrel⟩:=HJ.out.call hRU HI.out.2.2.2.2.2.1 hx hex (s.ord++[x]);obtain⟨p2,hh2⟩:=HJ.out.rest hRU;obtain⟨q1,C1,e1,_,hq1⟩:=zq2m p2.lrow;cases e1;obtain⟨lb,rfl,_,hlc⟩:=hq1 (by omega);obtain⟨q2,C2,rfl,_,hq2⟩:=zq2m p2.erow;obtain⟨eb,rfl,_,_⟩:=hq2 (by omega);clear hq1 hq2;have lc:=hlc x _ (zq6u hx);have c3:w3.cell? ⟨tb x,3,none⟩=some (.pointer (some ⟨cb,0,none⟩)):=by rw[<-hcp];exact(zq0 (p2.m.th x hx)).trans rfl
    obtain⟨tbx,htbx⟩:∃y,tb x=y:=⟨_,rfl⟩;rw[htbx]at lc c3;have hx0:(0:Int)<=x:=by omega
    have hx1:(x:Int)<(N:Int):=by omega
    have HS:=Lib.hid (zqd8 p2.m hx hx hN p2.be hcb hca hok (by omega));have HK:=Lib.hid (And.intro hpk (And.intro ha' (And.intro hk2 (And.intro hRU (And.intro hrel (And.intro hop (And.intro hq (And.intro hcb (And.intro hcp (And.intro p2 (And.intro hh2 (And.intro hlt htbx))))))))))));clear hpk ha' hk2 hRU hrel hop hq hcb hcp p2 hh2 hlt htbx hne hall hex hlc hown hca hok
    go_wp2_with (fail)
    refine Calls.mono HS.out ?_;rintro e' w4 ⟨rfl,G',hv',K,lvK,hE4,hC4,hh4,hk4,hw4⟩;have HE:=Lib.hid (And.intro hE4 (And.intro hC4 (And.intro hh4 (And.intro hk4 hw4))));have hl4:=hk4.row HK.out.2.2.2.2.2.2.2.2.2.1.lrow (by decide) (by decide) (by decide) (by decide) (by decide) (by decide) (by decide);have lc4:=zq69 hl4 (zq6u hx);rw[HK.out.2.2.2.2.2.2.2.2.2.2.2.2]at lc4;have HN:=Lib.hid (zqcw hE4 hx hx hN (Nat.le_trans HK.out.2.2.2.2.2.2.2.2.2.1.be hh4.size) ((HK.out.2.2.2.2.2.2.2.2.2.1.opa x hx).held HK.out.2.2.2.2.2.2.2.2.2.1.be hh4) (HI.out.2.2.2.2.2.1 x) (HK.out.2.2.2.2.2.2.2.2.2.1.len x hx) HK.out.2.2.2.2.2.2.2.2.1 HK.out.2.2.2.2.2.1 HK.out.2.2.2.2.2.2.2.1 hC4 hw4);rw[HK.out.2.2.2.2.2.2.2.2.2.2.2.2]at HN;clear hE4 hC4 hh4 hk4 hw4 hl4 lc c3 HS
    go_wp2_with (fail)
    refine Calls.mono HN.out ?_;rintro e2 w5 hX;obtain⟨hpk,ha',hk2,hRU,hrel,hop,hq,hcb,hcp,p2,hh2,hlt,htbx⟩:=HK.out;obtain⟨hE4,hC4,hh4,hk4,hw4⟩:=HE.out;obtain⟨b,rfl,her,C',T',ov',cp',lvs',hfin⟩:=HJ.out.turn hRU HI.out.2.2.2.2.2.1 hlt hpk ha' hk2 hop hq hrel hE4 hh4 hk4 hX;have ec4:=zq69 her (i:=x) (x:=.bool (T x).en) (by simp[enL,boolL,hx]);obtain⟨⟨ce4,heb4⟩,_⟩:=own_lt her (g:=eb) rfl;have fz4:w5.frozen? ⟨eb,x,none⟩=false:=zq6 heb4;have HF:=Lib.hid hfin;have HLT:=Lib.hid hlt;clear hX hpk ha' hk2 hRU hrel hop hq hcb hcp p2 hh2 hlt htbx hE4 hC4 hh4 hk4 hw4 her heb4 hfin lc4 HN;go_wp2;go_roundg (most - (s.ord.length+1))
    case measure=>have:=HLT.out;omega
    case rel=>exact⟨_,_,_,_,_,_,_,_,_,_,_,by show _=most - (s.ord++[x]).length;rw[List.length_append];rfl,HF.out⟩
end
theorem zqg2(p:Option Addr)(n C:Nat)(hn:n<=1099511627776)(hC:n<=C)(hp:p=none->C=0)(w:World):Calls Try.prog 36 #[.slice p n C] w λe w'=>∃C',e=.returned (.slice p (min n 65536) C')/\w'=w:=by
 by_cases h:65536<n
 . have h1:((65536:Int)<(n:Int)):=by omega
   have hne:p≠none:=λe=>by have:=hp e;omega
   obtain⟨a,rfl⟩:∃a,p=some a:=by
    cases p with
    |none=>exact absurd rfl hne
    |some a=>exact⟨a,rfl⟩
   have hm:min n 65536=65536:=by omega
   have h2:(65536:Int)<=(C:Int):=by omega
   have h3:65536<=C:=by omega
   rw[hm];clear hp hne hm
   go_enter Try.func36,Try.ntmps36
   go_wp2;go_ret;exact⟨_,rfl,rfl⟩
 . have h1:¬((65536:Int)<(n:Int)):=by omega
   have hm:min n 65536=n:=by omega
   rw[hm];clear hp hm
   go_enter Try.func36,Try.ntmps36
   go_wp2;go_ret
   first
    |exact⟨_,rfl,rfl⟩
    |exact rfl
    |exact⟨⟨_,rfl⟩,rfl⟩
end Go.Proofs
