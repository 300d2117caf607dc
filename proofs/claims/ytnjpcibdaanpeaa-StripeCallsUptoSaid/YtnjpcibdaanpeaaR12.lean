/- YtnjpcibdaanpeaaSCalls11: part 12 of the proof (the texts behind it, in order). -/
import Derived.Test.YtnjpcibdaanpeaaR11
set_option linter.unusedSimpArgs false
set_option linter.unusedVariables false
set_option linter.unusedSectionVars false
set_option linter.unnecessarySimpa false
set_option maxHeartbeats 1000000
namespace Go.Car
open Go Go.Conc Go.RowKit
def RecRow(w:World)(B:Nat)(T:TypeId)(k:Nat)(v:Value)(n:Nat)(f:Nat->Nat->Value):Prop:=
 ∃xs,w.ownsRow B T k v n xs/\∀i j,i<n->j<k->xs[i*k+j]?=some (f i j)
section
variable {w w':World} {B k n:Nat} {T:TypeId} {v:Value} {f:Nat->Nat->Value}
theorem rec_idx{i j i' j' k:Nat}(hj:j<k)(hj':j'<k)(h:i*k+j=i'*k+j'):i=i'/\j=j':=by
 have h1:(i*k+j) / k=i:=by rw[Nat.mul_comm,Nat.mul_add_div (by omega),Nat.div_eq_of_lt hj];omega
 have h2:(i'*k+j') / k=i':=by rw[Nat.mul_comm,Nat.mul_add_div (by omega),Nat.div_eq_of_lt hj'];omega
 have:i=i':=by rw[←h1,←h2,h]
 subst this;exact⟨rfl,by omega⟩
theorem rec_lt{i j n k:Nat}(hi:i<n)(hj:j<k):i*k+j<n*k:=by
 have:i*k+k<=n*k:=by rw[←Nat.succ_mul];exact Nat.mul_le_mul_right k hi
 omega
theorem RecRow.nil (w:World)(B:Nat)(T:TypeId)(k:Nat)(f:Nat->Nat->Value):RecRow w B T k (.slice none 0 0) 0 f:=⟨[],World.ownsRow_nil _ _ _ _,λi j hi=>absurd hi (Nat.not_lt_zero _)⟩
theorem RecRow.of (h:RecRow w B T k v n f)(hs:∀g,v.ownBlock=some g->w'.heap[g]?=w.heap[g]?):RecRow w' B T k v n f:=by
 obtain⟨xs,h1,h2⟩:=h;exact⟨xs,zqs h1 hs,h2⟩
theorem RecRow.lt (h:RecRow w B T k v n f){g:Nat}(hg:v.ownBlock=some g):(∃c,w.heap[g]?=some (.cells c T))/\B<=g/\g<w.heap.size:=by
 obtain⟨xs,h1,_⟩:=h;exact own_lt h1 hg
theorem RecRow.form (h:RecRow w B T k v n f):∃p C,v=.slice p n C/\(0<n->∃g,p=some ⟨g,0,none⟩/\v.ownBlock=some g):=by
 obtain⟨xs,h1,_⟩:=h;rcases h1.2 with⟨hv,h0⟩|⟨g,cap,cur,hv,_⟩
 · subst h0;exact⟨none,0,hv,λh=>absurd h (Nat.lt_irrefl _)⟩
 · exact⟨_,cap,hv,λ_=>⟨g,rfl,by rw[hv];rfl⟩⟩
theorem RecRow.cell {g C:Nat}(h:RecRow w B T k (.slice (some ⟨g,0,none⟩) n C) n f){i j:Nat}(hi:i<n)(hj:j<k):w.cell? ⟨g,i*k+j,none⟩=some (f i j)/\w.frozen? ⟨g,i*k+j,none⟩=false:=by
 obtain⟨xs,h1,h2⟩:=h;rcases h1.2 with⟨hv,_⟩|⟨g2,cap,cur,hv,hb,hh,e1,e2,e3,e4⟩
 · cases hv
 · cases hv;refine⟨?_,zq3 hh⟩;rw[zq0 (off:=i*k+j) hh];have h3:=h2 i j hi hj;rw[←e4,List.getElem?_take,if_pos (rec_lt hi hj)]at h3;simpa using h3
theorem RecRow.set {g C:Nat}(h:RecRow w B T k (.slice (some ⟨g,0,none⟩) n C) n f){i j:Nat}(hi:i<n)(hj:j<k)(x:Value):RecRow (w.setCell ⟨g,i*k+j,none⟩ x) B T k (.slice (some ⟨g,0,none⟩) n C) n (λa b=>if a=i/\b=j then x else f a b):=by
 obtain⟨xs,h1,h2⟩:=h;have hlen:=h1.1;rcases h1.2 with⟨hv,_⟩|⟨g2,cap2,cur,hv,e1,e2,e3,e4,e5,e6⟩
 · cases hv
 · cases hv;refine⟨xs.set (i*k+j) x,⟨by rw[List.length_set];exact hlen,.inr ⟨g,C,cur.setIfInBounds (i*k+j) x,rfl,e1,zqb _ _ _ _ e2,e3,e4,by simpa using e5,?_⟩⟩,λa b ha hb=>?_⟩
   · rw[←e6,Array.toList_setIfInBounds,List.take_set]
   · by_cases e:a=i/\b=j
     · obtain⟨rfl,rfl⟩:=e;simp only[and_self,if_true];rw[List.getElem?_set_self (by rw[hlen];exact rec_lt ha hb)]
     · simp only[if_neg e];rw[List.getElem?_set_ne (λe2=>e (by obtain⟨r1,r2⟩:=rec_idx hj hb e2;exact⟨r1.symm,r2.symm⟩)),h2 a b ha hb]
theorem RecRow.push {xs cs:List Value}{v':Value}(h:w.ownsRow B T k v n xs)(h2:∀i j,i<n->j<k->xs[i*k+j]?=some (f i j))(h3:w'.ownsRow B T k v' (n+1) (xs++cs))(hc:cs.length=k)(F:Nat->Nat->Value)(hF:∀i j,i<n->j<k->F i j=f i j)(hn:∀j,j<k->cs[j]?=some (F n j)):RecRow w' B T k v' (n+1) F:=by
 refine⟨xs++cs,h3,λi j hi hj=>?_⟩;have hl:=h.1
 by_cases e:i=n
 · subst e;rw[List.getElem?_append_right (by omega),hl];rw[show i*k+j - i*k=j by omega];exact hn j hj
 · have:=rec_lt (show i<n by omega) hj;rw[List.getElem?_append_left (by omega),h2 i j (by omega) hj,hF i j (by omega) hj]
theorem RecRow.congr (h:RecRow w B T k v n f){F:Nat->Nat->Value}(hF:∀i j,i<n->j<k->F i j=f i j):RecRow w B T k v n F:=by
 obtain⟨xs,h1,h2⟩:=h;exact⟨xs,h1,λi j hi hj=>by rw[h2 i j hi hj,hF i j hi hj]⟩
end
def zq1p(l:List Ans):List Value:=l.flatMap λa=>[.bool a.ok,.int .i64 a.n,.slice none 0 0]
theorem ansCells_snoc(l:List Ans)(a:Ans):zq1p (l++[a])=zq1p l++[.bool a.ok,.int .i64 a.n,.slice none 0 0]:=by simp[zq1p]
theorem ansCells_get:∀(l:List Ans)(i:Nat)(a:Ans),l[i]?=some a->(zq1p l)[i*3]?=some (.bool a.ok)/\(zq1p l)[i*3+1]?=some (.int .i64 a.n)/\(zq1p l)[i*3+2]?=some (.slice none 0 0)
 |[],_,_,h=>by simp at h
 |x::l,0,a,h=>by
  simp only[al_g0,al_oi]at h;subst h;exact⟨rfl,rfl,rfl⟩
 |x::l,i+1,a,h=>by
  simp only[al_g1]at h;obtain⟨h1,h2,h3⟩:=ansCells_get l i a h;have e:∀j,(zq1p (x::l))[(i+1)*3+j]?=(zq1p l)[i*3+j]?:=λj=>by
   rw[show(i+1)*3+j=3+(i*3+j)by omega];show([_,_,_]++zq1p l)[3+(i*3+j)]?=_;rw[List.getElem?_append_right (by simp)];simp
  exact⟨(e 0).trans h1,(e 1).trans h2,(e 2).trans h3⟩
end Go.Car
set_option maxHeartbeats 4000000
set_option maxRecDepth 100000
namespace Go.Proofs
open Go Go.Conc Go.RowKit Go.Car
def thF(opv:Nat->Value)(T:Nat->RT)(av sv:Nat->Value)(i j:Nat):Value:=match j with
 |0=>opv i
 |1=>av i
 |2=>.int .i64 i
 |3=>.int .i64 (T i).at'
 |4=>.int .i64 (T i).pc
 |5=>.int .i64 (T i).sum
 |6=>sv i
 |_=>undef
structure RefRep(mb B n:Nat)(opv:Nat->Value)(C:List Int)(T:Nat->RT)(cv tv:Value)(av sv:Nat->Value)(w:World):Prop where
 mach:w.heap[mb]?=some (.cells #[cv,tv] 94)
 crow:w.ownsRow B 2 1 cv C.length (C.map (Value.int .i64))
 trow:RecRow w B 96 7 tv n (thF opv T av sv)
 arow:∀i,i<n->w.ownsRow B 43 3 (av i) (T i).ans.length (zq1p (T i).ans)
 srow:∀i,i<n->w.ownsRow B 2 1 (sv i) (T i).seen.length ((T i).seen.map (Value.int .i64))
 asep:∀i j g,i<n->j<n->i≠j->(av i).ownBlock=some g->(av j).ownBlock≠some g
 ssep:∀i j g,i<n->j<n->i≠j->(sv i).ownBlock=some g->(sv j).ownBlock≠some g
 csep:∀i g,i<n->(sv i).ownBlock=some g->cv.ownBlock≠some g
 lo:B<=mb
def outT(T:TypeId):Prop:=T≠2/\T≠43/\T≠96/\T≠94
structure KeepB(B:Nat)(w w':World):Prop where
 size:w.heap.size<=w'.heap.size
 old:∀b,b<B->w'.heap[b]?=w.heap[b]?
 typ:∀(b:Nat)(c:Array Value)(T:TypeId)(f:Nat×Nat),w.heap[b]?=some (.cells c T f)->outT T->w'.heap[b]?=some (.cells c T f)
theorem KeepB.refl (B:Nat)(w:World):KeepB B w w:=⟨Nat.le_refl _,λ_ _=>rfl,λ_ _ _ _ h _=>h⟩
theorem KeepB.trans {B:Nat}{a b c:World}(h:KeepB B a b)(k:KeepB B b c):KeepB B a c:=⟨Nat.le_trans h.size k.size,λx hx=>(k.old x hx).trans (h.old x hx),λb c T f hb hT=>k.typ b c T f (h.typ b c T f hb hT) hT⟩
def InT(w:World)(b:Nat):Prop:=∃(c:Array Value)(T:TypeId)(f:Nat×Nat),w.heap[b]?=some (.cells c T f)/\¬outT T
theorem InT.ne {w:World}{b x:Nat}(h:InT w b){c:Array Value}{T:TypeId}{f:Nat×Nat}(hx:w.heap[x]?=some (.cells c T f))(hT:outT T):x≠b:=λe=>by
 obtain⟨c',T',f',h1,h2⟩:=h;rw[←e]at h1;exact h2 (zq1t hx h1▸hT)
theorem RefRep.inT {mb B n g Ct:Nat}{opv:Nat->Value}{C:List Int}{T:Nat->RT}{cv:Value}{av sv:Nat->Value}{w:World}(h:RefRep mb B n opv C T cv (.slice (some ⟨g,0,none⟩) n Ct) av sv w):InT w g:=by
 obtain⟨⟨c,hc⟩,_⟩:=h.trow.lt (show(Value.slice (some ⟨g,0,none⟩) n Ct).ownBlock=some g from rfl);exact⟨c,_,_,hc,λh=>h.2.2.1 rfl⟩
theorem RefRep.inC {mb B n gc Cc N:Nat}{opv:Nat->Value}{C:List Int}{T:Nat->RT}{tv:Value}{av sv:Nat->Value}{w:World}(h:RefRep mb B n opv C T (.slice (some ⟨gc,0,none⟩) N Cc) tv av sv w):InT w gc:=by
 obtain⟨⟨c,hc⟩,_⟩:=own_lt h.crow (show(Value.slice (some ⟨gc,0,none⟩) N Cc).ownBlock=some gc from rfl);exact⟨c,_,_,hc,λh=>h.1 rfl⟩
section
variable {mb B n:Nat} {opv:Nat->Value} {C:List Int} {T:Nat->RT} {cv tv:Value} {av sv:Nat->Value} {w w':World}
theorem RefRep.of (h:RefRep mb B n opv C T cv tv av sv w)(hs:∀(b:Nat)(o:Obj),w.heap[b]?=some o->w'.heap[b]?=some o):RefRep mb B n opv C T cv tv av sv w':=by
 have k:∀b,b<w.heap.size->w'.heap[b]?=w.heap[b]?:=λb hb=>by
  have:w.heap[b]?=some w.heap[b]:=Array.getElem?_eq_getElem hb;rw[this];exact hs b _ this
 exact⟨hs _ _ h.mach,zqs h.crow λg hg=>k g (own_lt h.crow hg).2.2,h.trow.of λg hg=>k g (h.trow.lt hg).2.2,λi hi=>zqs (h.arow i hi) λg hg=>k g (own_lt (h.arow i hi) hg).2.2,λi hi=>zqs (h.srow i hi) λg hg=>k g (own_lt (h.srow i hi) hg).2.2,h.asep,h.ssep,h.csep,h.lo⟩
theorem RefRep.alloc (h:RefRep mb B n opv C T cv tv av sv w)(o:Obj):RefRep mb B n opv C T cv tv av sv (w.alloc o):=h.of λb x hx=>zqe hx
theorem RefRep.drew (h:RefRep mb B n opv C T cv tv av sv w)(k:Nat):RefRep mb B n opv C T cv tv av sv (w.drewN k):=h.of λb x hx=>hx
theorem RefRep.setN {g Ct:Nat}(h:RefRep mb B n opv C T cv (.slice (some ⟨g,0,none⟩) n Ct) av sv w){i j:Nat}(hi:i<n)(hj:j=3\/j=4\/j=5){x:Value}{t':RT}(hx:x=thF opv (upd' T i t') av sv i j)(ha:t'.ans=(T i).ans)(hse:t'.seen=(T i).seen)(h3:j=3\/t'.at'=(T i).at')(h4:j=4\/t'.pc=(T i).pc)(h5:j=5\/t'.sum=(T i).sum):
 RefRep mb B n opv C (upd' T i t') cv (.slice (some ⟨g,0,none⟩) n Ct) av sv (w.setCell ⟨g,i*7+j,none⟩ x):=by
 have hgo:(Value.slice (some ⟨g,0,none⟩) n Ct).ownBlock=some g:=rfl;obtain⟨⟨c,hc⟩,hB,hlt⟩:=h.trow.lt hgo;have kr:∀{T':TypeId}{k m:Nat}{u:Value}{xs:List Value},w.ownsRow B T' k u m xs->T'≠96->(w.setCell ⟨g,i*7+j,none⟩ x).ownsRow B T' k u m xs:=λhr hT=>zqs hr λq hq=>zq4 _ _ _ _ λe=>zqw hr hc hT (by rw[hq,show q=g from e]);have eT:∀a,(upd' T i t' a).ans=(T a).ans/\(upd' T i t' a).seen=(T a).seen:=λa=>by
  by_cases e:a=i
  · subst e;rw[upd'_same];exact⟨ha,hse⟩
  · rw[zqc _ _ e];exact⟨rfl,rfl⟩
 refine⟨?_,kr h.crow (by decide),(h.trow.set hi (by omega) x).congr λa b ha' hb=>?_,λa ha'=>?_,λa ha'=>?_,h.asep,h.ssep,h.csep,h.lo⟩
 · rw[zq4 _ _ _ _ (λe=>absurd (zq1t hc (by rw[←show mb=g from e];exact h.mach)) (by decide))];exact h.mach
 · by_cases e:a=i/\b=j
   · obtain⟨rfl,rfl⟩:=e;simp only[and_self,if_true];exact hx.symm
   · simp only[if_neg e]
     by_cases ea:a=i
     · subst ea;have hbj:b≠j:=λx=>e ⟨rfl,x⟩;obtain rfl |rfl |rfl |rfl |rfl |rfl |rfl:b=0\/b=1\/b=2\/b=3\/b=4\/b=5\/b=6:=by omega
       · rfl
       · rfl
       · rfl
       · simp only[thF,upd'_same];rw[h3.resolve_left (λx=>hbj x.symm)]
       · simp only[thF,upd'_same];rw[h4.resolve_left (λx=>hbj x.symm)]
       · simp only[thF,upd'_same];rw[h5.resolve_left (λx=>hbj x.symm)]
       · rfl
     · unfold thF;rw[zqc _ _ ea]
 · rw[(eT a).1];exact kr (h.arow a ha') (by decide)
 · rw[(eT a).2];exact kr (h.srow a ha') (by decide)
end
theorem at_lone'(a:Int){N:Nat}(hN:0<N)(hN2:N<=64)(w:World):Calls Try.prog 53 #[.int .i64 a,.int .i64 N] w λe w'=>e=.returned (.int .i64 (idx a N:Nat))/\w'=w:=by
 have hne:¬(N:Int)=0:=by omega
 have h1: -(N:Int)<a.tmod N:=Int.lt_tmod_of_pos a (by omega);have h2:a.tmod N<N:=Int.tmod_lt_of_pos a (by omega);have e0:IntKind.i64.wrap (a.tmod N)=a.tmod N:=IntWalk.i64_in _ (by omega);have hm:(if a.tmod N<0 then a.tmod N+N else a.tmod N)=(idx a N:Nat):=by
  have h3:=Int.emod_nonneg a (b:=(N:Int)) (by omega);have h4:=Int.emod_lt_of_pos a (b:=(N:Int)) (by omega);have h0:(a.tmod N) % (N:Int)=a % N:=by
   rw[Int.tmod_def,Int.sub_emod,Int.mul_emod_right];simp
  have h5:(a.tmod N<0->a.tmod N+N=a % N)/\(¬a.tmod N<0->a.tmod N=a % N):=by
   refine⟨λh=>?_,λh=>?_⟩
   · rw[←h0,←Int.add_emod_right,Int.emod_eq_of_lt (by omega) (by omega)]
   · rw[←h0,Int.emod_eq_of_lt (by omega) h2]
  obtain⟨h6,h7⟩:=h5;unfold idx;split
  · rename_i h;have:=h6 h;omega
  · rename_i h;have:=h7 h;omega
 have HM:=Lib.hid (And.intro hm h2)
 by_cases hlt:a.tmod N<0
 · rw[if_pos hlt]at hm;have e1:IntKind.i64.wrap (a.tmod N+N)=a.tmod N+N:=IntWalk.i64_in _ (by omega);clear HM;have HM:=Lib.hid hm;clear hm
   go_enter Try.func53,Try.ntmps53
   go_wp2;go_ret
   first|exact⟨rfl,rfl⟩|exact⟨by rw[←HM.out];rfl,rfl⟩
 · rw[if_neg hlt]at hm;have HM:=Lib.hid hm;clear hm
   go_enter Try.func53,Try.ntmps53
   go_wp2;go_ret
   first|exact⟨rfl,rfl⟩|exact⟨by rw[←HM.out];rfl,rfl⟩
section
variable {mb B n:Nat} {opv:Nat->Value} {C:List Int} {T:Nat->RT} {cv tv:Value} {av sv:Nat->Value} {w w':World}
theorem KeepB.set {b:Nat}(hb:B<=b)(hin:InT w b)(off:Nat)(x:Value):KeepB B w (w.setCell ⟨b,off,none⟩ x):=⟨by rw[zqq];exact Nat.le_refl _,λy hy=>zq4 _ _ _ _ (show y≠b by omega),λy c T f hy hT=>(zq4 _ _ _ _ (hin.ne hy hT)).trans hy⟩
theorem KeepB.al (hb:B<=w.heap.size)(o:Obj):KeepB B w (w.alloc o):=⟨by rw[zq5];omega,λy hy=>by rw[zq2,if_neg (by omega)],λ_ _ _ _ hy _=>zqe hy⟩
theorem KeepB.drew (k:Nat):KeepB B w (w.drewN k):=⟨Nat.le_refl _,λ_ _=>rfl,λ_ _ _ _ h _=>h⟩
theorem RefRep.pushA {g Ct i g2:Nat}{W1 w2:World}{v':Value}(h:RefRep mb B n opv C T cv (.slice (some ⟨g,0,none⟩) n Ct) av sv W1)(hi:i<n){a:Ans}(hown:w2.ownsRow B 43 3 v' ((T i).ans.length+1) (zq1p (T i).ans++[.bool a.ok,.int .i64 a.n,.slice none 0 0]))
 (hgrow:W1.grownBy w2 (av i).ownBlock) (hv':v'.ownBlock=some g2) (hat:(av i).ownBlock=some g2\/g2=W1.heap.size):
 RefRep mb B n opv C (upd' T i {T i with ans:=(T i).ans++[a]}) cv (.slice (some ⟨g,0,none⟩) n Ct) (upd' av i v') sv (w2.setCell ⟨g,i*7+1,none⟩ v'):=by
 have hgo:(Value.slice (some ⟨g,0,none⟩) n Ct).ownBlock=some g:=rfl;obtain⟨⟨c,hc⟩,hB,hlt⟩:=h.trow.lt hgo;have keep:∀b,b<W1.heap.size->(av i).ownBlock≠some b->w2.heap[b]?=W1.heap[b]?:=λb hb hn=>hgrow.block b hb (λe=>hn e.symm);have hgk:w2.heap[g]?=W1.heap[g]?:=keep g hlt (zqw (h.arow i hi) hc (by decide));have hset:∀b,b<W1.heap.size->(av i).ownBlock≠some b->b≠g->(w2.setCell ⟨g,i*7+1,none⟩ v').heap[b]?=W1.heap[b]?:=λb hb hn hne=>by
  rw[zq4 _ _ _ _ hne];exact keep b hb hn
 have kr:∀{T':TypeId}{k m:Nat}{u:Value}{xs:List Value},W1.ownsRow B T' k u m xs->T'≠96->(∀q,u.ownBlock=some q->(av i).ownBlock≠some q)->(w2.setCell ⟨g,i*7+1,none⟩ v').ownsRow B T' k u m xs:=λhr hT hne=>zqs hr λq hq=>
  hset q (own_lt hr hq).2.2 (hne q hq) λe=>zqw hr hc hT (by rw[hq,show q=g from e])
 have hty:∀{T':TypeId}{k m q:Nat}{u:Value}{xs:List Value},W1.ownsRow B T' k u m xs->T'≠43->u.ownBlock=some q->(av i).ownBlock≠some q:=λhr hT hq=>by
  obtain⟨⟨c',hc'⟩,_⟩:=own_lt hr hq;exact zqw (h.arow i hi) hc' (λe=>hT e.symm)
 have eT:∀x,(upd' T i {T i with ans:=(T i).ans++[a]} x).seen=(T x).seen:=λx=>by
  by_cases e:x=i
  · subst e;rw[upd'_same]
  · rw[zqc _ _ e]
 have hg2:∀q,q≠i->q<n->(av q).ownBlock≠some g2:=λq hq hqn e=>by
  rcases hat with h1|h1
  · exact h.asep i q g2 hi hqn (λx=>hq x.symm) h1 e
  · have:=(own_lt (h.arow q hqn) e).2.2;omega
 refine⟨?_,kr h.crow (by decide) λq hq=>hty h.crow (by decide) hq,?_,λq hq=>?_,λq hq=>?_,λp q x hp hq hne e=>?_,h.ssep,h.csep,h.lo⟩
 · rw[hset mb (zq7 h.mach) (zqw (h.arow i hi) h.mach (by decide)) (λe=>absurd (zq1t hc (by rw[←e];exact h.mach)) (by decide))];exact h.mach
 · refine RecRow.congr ((h.trow.of (w':=w2) λq hq=>?_).set hi (by decide) v') λx y hx hy=>?_
   · rw[hgo]at hq;obtain rfl:=Option.some.inj hq;exact hgk
   · by_cases e:x=i/\y=1
     · obtain⟨rfl,rfl⟩:=e;simp only[and_self,if_true,thF,upd'_same]
     · simp only[if_neg e]
       by_cases ea:x=i
       · subst ea;have hy1:y≠1:=λz=>e ⟨rfl,z⟩;obtain rfl |rfl |rfl |rfl |rfl |rfl |rfl:y=0\/y=1\/y=2\/y=3\/y=4\/y=5\/y=6:=by omega
         · rfl
         · exact absurd rfl hy1
         · rfl
         · simp only[thF,upd'_same]
         · simp only[thF,upd'_same]
         · simp only[thF,upd'_same]
         · rfl
       · unfold thF;rw[zqc _ _ ea,zqc _ _ ea]
 · by_cases e:q=i
   · subst e;rw[upd'_same,upd'_same];show(w2.setCell _ _).ownsRow B _ 3 v' ((T q).ans++[a]).length (zq1p ((T q).ans++[a]));rw[ansCells_snoc,List.length_append];refine zqs hown λx hx=>zq4 _ _ _ _ λe=>?_;obtain⟨⟨c',hc'⟩,_⟩:=own_lt hown hx;rw[show x=g from e,hgk]at hc';exact absurd (zq1t hc hc') (by decide)
   · rw[zqc _ _ e,zqc _ _ e];exact kr (h.arow q hq) (by decide) λx hx e2=>h.asep i q x hi hq (λz=>e z.symm) e2 hx
 · rw[eT q];exact kr (h.srow q hq) (by decide) λx hx=>hty (h.srow q hq) (by decide) hx
 · by_cases ep:p=i
   · subst ep;rw[upd'_same,hv']at e;obtain rfl:=Option.some.inj e;rw[zqc _ _ (λz=>hne z.symm)];exact hg2 q (λz=>hne z.symm) hq
   · rw[zqc _ _ ep]at e
     by_cases eq:q=i
     · subst eq;rw[upd'_same,hv'];intro e2;obtain rfl:=Option.some.inj e2;exact hg2 p ep hp e
     · rw[zqc _ _ eq];exact h.asep p q x hp hq hne e
theorem zq2t{i:Nat}{a:Ans}(h:RefRep mb B n opv C T cv tv av sv w)(hi:i<n)(hn:n<=64)(hl:(T i).ans.length<=1048576)(hat:(T i).at'<=1048576):
 Calls Try.prog 54 #[.pointer (some ⟨mb,0,none⟩),.int .i64 i,.agg #[.bool a.ok,.int .i64 a.n,.slice none 0 0]] w λe w'=>e=.returned (.tuple #[])/\(∃av',RefRep mb B n opv C (upd' T i (endR (T i) a)) cv tv av' sv w')/\KeepB B w w':=by
 obtain⟨tp,Ct,rfl,htp⟩:=h.trow.form;obtain⟨g,rfl,_⟩:=htp (by omega);obtain⟨H,hH⟩:∃H,w.heap.size=H:=⟨_,rfl⟩;have hBs:B<=w.heap.size:=Nat.le_trans h.lo (Nat.le_of_lt (zq7 h.mach));obtain⟨pa,Ca,hav,-,-⟩:=zq12 (h.arow i hi);obtain⟨La,hLa⟩:∃x,(T i).ans.length=x:=⟨_,rfl⟩;rw[hLa]at hav hl;obtain⟨ti,hti,hz0,hz1,hz2⟩:∃ti,Try.prog.info? 43=some ti/\ti.zero=some (.agg #[.bool false,.int .i64 0,.slice none 0 0])/\ti.size=3/\ti.bytes=40:=⟨_,rfl,rfl,rfl,rfl⟩;have h1:=((h.alloc (.cells #[.bool a.ok,.int .i64 a.n,.slice none 0 0] 43)).drew 1).alloc (.cells #[.bool a.ok,.int .i64 a.n,.slice none 0 0] 43);have hsz0:((w.alloc (.cells #[.bool a.ok,.int .i64 a.n,.slice none 0 0] 43)).drewN 1).heap.size=H+1:=by show(w.alloc _).heap.size=_;rw[zq5,hH]
 have hsz1:(((w.alloc (.cells #[.bool a.ok,.int .i64 a.n,.slice none 0 0] 43)).drewN 1).alloc (.cells #[.bool a.ok,.int .i64 a.n,.slice none 0 0] 43)).heap.size=H+2:=by rw[zq5,hsz0]
 have hrow1:=h1.arow i hi;rw[hLa]at hrow1;obtain⟨g2,cap,w2,hrun,hown,hgrow,hat2,hlt2⟩:=run_append_lies (P:=Try.prog) _ 41 41 B 43 ti _ 3 40 (by kernel_rfl) hti hz0 hz1 hz2 rfl (by decide) (av i) La (zq1p (T i).ans) hrow1 ⟨H+1,0,none⟩ 1 1 [.bool a.ok,.int .i64 a.n,.slice none 0 0] rfl (λj u hj=>news_new hsz0 j u hj) (by simp[Value.oneCell']) (by decide) (by simp only[maxLen];omega) (by omega) (by rw[hsz1];omega) _ rfl;rw[hav]at hrun hgrow hat2;have hmb:mb<H:=by rw[←hH];exact zq7 h.mach
 obtain⟨⟨cg,hcg⟩,hgB,hgl⟩:=h.trow.lt (show(Value.slice (some ⟨g,0,none⟩) n Ct).ownBlock=some g from rfl);have hown1:=h.arow i hi;rw[hav,hLa]at hown1;have hne:∀b,b<H+1->(∀q,(Value.slice pa La Ca).ownBlock=some q->q≠b)->w2.heap[b]?=(((w.alloc (.cells #[.bool a.ok,.int .i64 a.n,.slice none 0 0] 43)).drewN 1).alloc (.cells #[.bool a.ok,.int .i64 a.n,.slice none 0 0] 43)).heap[b]?:=λb hb hq=>hgrow.block b (by rw[hsz1];omega) (λe=>hq b e.symm rfl);have hfacts:∀W,W=((w.alloc (.cells #[.bool a.ok,.int .i64 a.n,.slice none 0 0] 43)).drewN 1)\/W=((w.alloc (.cells #[.bool a.ok,.int .i64 a.n,.slice none 0 0] 43)).drewN 1).alloc (.cells #[.bool a.ok,.int .i64 a.n,.slice none 0 0] 43)\/W=w2->W.cell? ⟨mb,1,none⟩=some (.slice (some ⟨g,0,none⟩) n Ct)/\W.cell? ⟨g,i*7+1,none⟩=some (.slice pa La Ca)/\W.cell? ⟨H,0,none⟩=some (.bool a.ok)/\W.cell? ⟨H,1,none⟩=some (.int .i64 a.n)/\W.cell? ⟨H,2,none⟩=some (.slice none 0 0)/\W.frozen? ⟨g,i*7+1,none⟩=false:=by
  have m0:((w.alloc (.cells #[.bool a.ok,.int .i64 a.n,.slice none 0 0] 43)).drewN 1).heap[mb]?=some (.cells #[cv,.slice (some ⟨g,0,none⟩) n Ct] 94):=zqe h.mach;have g0:=((h.alloc (.cells #[.bool a.ok,.int .i64 a.n,.slice none 0 0] 43)).drew 1).trow.cell hi (show 1<7 by decide);have b0:((w.alloc (.cells #[.bool a.ok,.int .i64 a.n,.slice none 0 0] 43)).drewN 1).heap[H]?=some (.cells #[.bool a.ok,.int .i64 a.n,.slice none 0 0] 43):=by rw[←hH];exact zqr _ _
  have gc0:((w.alloc (.cells #[.bool a.ok,.int .i64 a.n,.slice none 0 0] 43)).drewN 1).heap[g]?=some (.cells cg 96):=zqe hcg;have k:∀W:World,W.heap[mb]?=((w.alloc (.cells #[.bool a.ok,.int .i64 a.n,.slice none 0 0] 43)).drewN 1).heap[mb]?->W.heap[g]?=((w.alloc (.cells #[.bool a.ok,.int .i64 a.n,.slice none 0 0] 43)).drewN 1).heap[g]?->W.heap[H]?=((w.alloc (.cells #[.bool a.ok,.int .i64 a.n,.slice none 0 0] 43)).drewN 1).heap[H]?->W.cell? ⟨mb,1,none⟩=some (.slice (some ⟨g,0,none⟩) n Ct)/\W.cell? ⟨g,i*7+1,none⟩=some (.slice pa La Ca)/\W.cell? ⟨H,0,none⟩=some (.bool a.ok)/\W.cell? ⟨H,1,none⟩=some (.int .i64 a.n)/\W.cell? ⟨H,2,none⟩=some (.slice none 0 0)/\W.frozen? ⟨g,i*7+1,none⟩=false:=λW e1 e2 e3=>
   ⟨(zq0 (e1.trans m0)).trans rfl,(zqd e2).trans (g0.1.trans (by rw[←hav];rfl)),(zq0 (e3.trans b0)).trans rfl,(zq0 (e3.trans b0)).trans rfl,(zq0 (e3.trans b0)).trans rfl,zq3 (e2.trans gc0)⟩
  have a0:∀b,b<H+1->(((w.alloc (.cells #[.bool a.ok,.int .i64 a.n,.slice none 0 0] 43)).drewN 1).alloc (.cells #[.bool a.ok,.int .i64 a.n,.slice none 0 0] 43)).heap[b]?=((w.alloc (.cells #[.bool a.ok,.int .i64 a.n,.slice none 0 0] 43)).drewN 1).heap[b]?:=λb hb=>by rw[zq2,if_neg (by rw[hsz0];omega)]
  rintro W (rfl |rfl |rfl)
  · exact k _ rfl rfl rfl
  · exact k _ (a0 mb (by omega)) (a0 g (by omega)) (a0 H (by omega))
  · exact k _ ((hne mb (by omega) λq hq e=>zqw hown1 h.mach (by decide) (by rw[hq,e])).trans (a0 mb (by omega))) ((hne g (by omega) λq hq e=>zqw hown1 hcg (by decide) (by rw[hq,e])).trans (a0 g (by omega))) ((hne H (by omega) λq hq e=>by have:=(own_lt hown1 hq).2.2;omega).trans (a0 H (by omega)))
 have hpush:=h1.pushA hi (a:=a) (v':=.slice (some ⟨g2,0,none⟩) (La+1) cap) (g2:=g2) (by rw[hLa];exact hown) (by rw[hav];exact hgrow) rfl (by rw[hav];exact hat2);have hkeep:KeepB B w (w2.setCell ⟨g,i*7+1,none⟩ (.slice (some ⟨g2,0,none⟩) (La+1) cap)):=by
  refine⟨by rw[zqq];have:=hgrow.size;rw[hsz1]at this;omega,λb hb=>?_,λb c T2 f hb hT=>?_⟩
  · have hb2:b<H:=by omega
    rw[zq4 _ _ _ _ (show b≠g by omega),hne b (by omega) λq hq e=>by have:=(own_lt hown1 hq).2.1;omega,zq2,if_neg (by rw[hsz0];omega)];show(w.alloc _).heap[b]?=_;rw[zq2,if_neg (by omega)]
  · have hb2:b<H:=by rw[←hH];exact zq7 hb
    rw[zq4 _ _ _ _ (h.inT.ne hb hT),hne b (by omega) λq hq e=>zqw hown1 hb hT.2.1.symm (by rw[hq,e]),zq2,if_neg (by rw[hsz0];omega)];show(w.alloc _).heap[b]?=_;rw[zq2,if_neg (by omega)];exact hb
 have hi0:(0:Int)<=(i:Int):=by omega
 have hin:(i:Int)<(n:Int):=by omega
 have HF:=Lib.hid hfacts;have HP:=Lib.hid (And.intro hpush hkeep);have HR:=Lib.hid hrun;have HS:=Lib.hid (And.intro hsz0 (And.intro hH hav));have HI:=Lib.hid (And.intro hi (And.intro hat hLa));clear hfacts hpush hkeep hrun hown hgrow hat2 hlt2 hrow1 hown1 hne h1 hsz1 hsz0 hz0 hz1 hz2 hti hBs hcg hgB hgl hmb hav hLa h hi hat hl
 go_enter Try.func54,Try.ntmps54
 go_wp2_with (fail)
 try rw[HS.out.2.1]
 refine zq3a (k:=18) (s:=14) (t:=15) (W0:=((w.alloc (.cells #[.bool a.ok,.int .i64 a.n,.slice none 0 0] 43)).drewN 1)) (W1:=((w.alloc (.cells #[.bool a.ok,.int .i64 a.n,.slice none 0 0] 43)).drewN 1).alloc (.cells #[.bool a.ok,.int .i64 a.n,.slice none 0 0] 43)) (W2:=w2) (by kernel_rfl) (by kernel_rfl) (by kernel_rfl) (by kernel_rfl) (by decide) (by decide) (by decide) (by kernel_rfl)
  [.pointer (some ⟨mb,0,none⟩),.pointer (some ⟨mb,0,none⟩),.pointer (some ⟨mb,1,none⟩),.slice (some ⟨g,0,none⟩) n Ct,.int .i64 i,.pointer (some ⟨mb,0,none⟩),.pointer (some ⟨mb,0,none⟩),.pointer (some ⟨mb,1,none⟩),.slice (some ⟨g,0,none⟩) n Ct,.int .i64 i,.pointer (some ⟨g,i*7,none⟩),.pointer (some ⟨g,i*7+1,none⟩),.slice pa La Ca,.agg #[.bool a.ok,.int .i64 a.n,.slice none 0 0],.slice (some ⟨H+1,0,none⟩) 1 1,.slice (some ⟨g2,0,none⟩) (La+1) cap,.pointer (some ⟨g,i*7,none⟩),.pointer (some ⟨g,i*7+1,none⟩)] rfl rfl ?_ ?_ ?_ ?_
 · intro j oo hj hj7 hj8 hoo W hWW;obtain⟨d1,d2,d3,d4,d5,_⟩:=HF.out W hWW;clear hWW;simp only[putv,dstOf,al_gl,al_g0,al_g1,al_ob,al_g2,List.set_cons_succ,List.set_cons_zero];obtain rfl |rfl |rfl |rfl |rfl |rfl |rfl |rfl |rfl |rfl |rfl |rfl |rfl |rfl |rfl |rfl:j=0\/j=1\/j=2\/j=3\/j=4\/j=5\/j=6\/j=7\/j=8\/j=9\/j=10\/j=11\/j=12\/j=13\/j=16\/j=17:=by omega
   all_goals(simp only[al_gl,al_g0,al_g1,al_oi]at hoo;subst hoo;refine .inl ?_)
   all_goals(simp only[execOp,Act.eval,al_gd,al_gl,al_g0,al_g1,al_od])
   all_goals(try go_simp)
 · intro oo hoo;simp only[putv,dstOf,al_gl,al_g0,al_g1,al_ob,al_g2,List.set_cons_succ,List.set_cons_zero];simp only[al_gl,al_g0,al_g1,al_oi]at hoo;subst hoo;refine .inl ?_;have hs0:=HS.out.1;generalize ((w.alloc (.cells #[.bool a.ok,.int .i64 a.n,.slice none 0 0] 43)).drewN 1)=W0 at hs0 ⊢;simp only[execOp,Act.eval,al_gd,al_gl,al_g0,al_g1,al_od];go_simp
 · intro oo hoo;have hrun:=HR.out;simp only[putv,dstOf,al_gl,al_g0,al_g1,al_ob,al_g2,List.set_cons_succ,List.set_cons_zero];simp only[al_gl,al_g0,al_g1,al_oi]at hoo;subst hoo;refine .inl ?_;unfold execOp;simp only[resolve,invoke,builtin,Sem.run_bind,Sem.run_pure,Result.andThen_ok,List.map_toArray,List.map_cons,List.map_nil,Act.eval,al_gd,al_gl,al_g0,al_g1,al_od,hrun];rfl
 simp only[putv,dstOf,al_gl,al_g0,al_g1,al_ob,al_g2,List.set_cons_succ,List.set_cons_zero];obtain⟨_,d2,_,_,_,d6⟩:=HF.out w2 (.inr (.inr rfl));refine zq19 (i:=18) (by kernel_rfl) ?_;simp only[wpOp,al_gl,al_g0,al_g1];rw[if_pos (by rfl)];refine .inl ?_;go_simp;refine zq18 (by kernel_rfl) ?_;clear d2 d6 HF HR;generalize w2.setCell ⟨g,i*7+1,none⟩ (.slice (some ⟨g2,0,none⟩) (La+1) cap)=w3 at HP ⊢;have hR3:=HP.out.1;have m3:=(zq0 (off:=1) hR3.mach).trans rfl;obtain⟨t3,f3⟩:=hR3.trow.cell HI.out.1 (show 3<7 by decide);replace t3:w3.cell? ⟨g,i*7+3,none⟩=some (.int .i64 ((T i).at':Nat)):=by
  rw[t3];simp only[thF,upd'_same]
 have e3:IntKind.i64.wrap (((T i).at':Int)+1)=(((T i).at'+1:Nat):Int):=by rw[IntWalk.i64_in _ (by have:=HI.out.2.1;omega)];omega
 obtain⟨ta,hta⟩:∃x,(T i).at'=x:=⟨_,rfl⟩;rw[hta]at t3 e3;have HT:=Lib.hid hta;have F3:=Lib.hid f3;clear hR3 hta f3
 go_wp2_with (fail)
 refine zq23 (k:=16) (C:=λw'=>∃n,w'=w3.drewN n) (by kernel_rfl) (by kernel_rfl) (by kernel_rfl) (by kernel_rfl) (by kernel_rfl) ⟨1,rfl⟩ ?_;simp only[List.take_succ_cons,List.take_zero]
 repeat (quiet_step (fail))
 refine wpQuiet_nil ?_;rintro w' ⟨nq,rfl⟩;refine zq19 (i:=16) (by kernel_rfl) ?_;simp only[wpOp,al_gl,al_g0,al_g1];rw[if_pos (by rfl)];refine .inl ?_;have f3:(w3.drewN nq).frozen? ⟨g,i*7+3,none⟩=false:=F3.out;have t3':(w3.drewN nq).cell? ⟨g,i*7+3,none⟩=some (.int .i64 (ta:Nat)):=t3;clear t3;go_simp;refine zq18 (by kernel_rfl) ?_;clear f3 t3' m3 F3;have hR4:=((HP.out.1.drew nq).setN (j:=3) HI.out.1 (.inl rfl) (x:=.int .i64 (ta+1:Nat)) (t':={T i with ans:=(T i).ans++[a],at':=ta+1}) (by simp only[thF,upd'_same]) (by rw[upd'_same]) (by rw[upd'_same]) (.inl rfl) (.inr (by rw[upd'_same])) (.inr (by rw[upd'_same])));rw[zq17]at hR4;have hk4:KeepB B w ((w3.drewN nq).setCell ⟨g,i*7+3,none⟩ (.int .i64 (ta+1:Nat))):=HP.out.2.trans (KeepB.trans (KeepB.drew nq) (KeepB.set (HP.out.1.trow.lt (show(Value.slice (some ⟨g,0,none⟩) n Ct).ownBlock=some g from rfl)).2.1 (HP.out.1.drew nq).inT (i*7+3) (.int .i64 (ta+1:Nat))));have H4:=Lib.hid (And.intro hR4 hk4);clear hR4 hk4 HP;rw[show((ta:Int)+1)=(((ta+1:Nat)):Int)from by omega];generalize (w3.drewN nq).setCell ⟨g,i*7+3,none⟩ (.int .i64 (ta+1:Nat))=w4 at H4 ⊢;have m4:=(zq0 (off:=1) H4.out.1.mach).trans rfl;obtain⟨t4,f4⟩:=H4.out.1.trow.cell HI.out.1 (show 4<7 by decide);clear e3;go_wp2
 go_end0
 have hR5:=H4.out.1.setN (j:=4) HI.out.1 (.inr (.inl rfl)) (x:=.int .i64 0) (t':=endR (T i) a) (by simp only[thF,upd'_same];rfl) (by rw[upd'_same];rfl) (by rw[upd'_same];rfl) (.inr (by rw[upd'_same,←HT.out];rfl)) (.inl rfl) (.inr (by rw[upd'_same];rfl));rw[zq17]at hR5;refine⟨rfl,⟨_,hR5⟩,H4.out.2.trans (KeepB.set (H4.out.1.trow.lt (show(Value.slice (some ⟨g,0,none⟩) n Ct).ownBlock=some g from rfl)).2.1 H4.out.1.inT (i*7+4) (.int .i64 0))⟩
end
theorem own_set1{w:World}{B n g c i:Nat}{T:TypeId}{xs:List Value}(h:w.ownsRow B T 1 (.slice (some ⟨g,0,none⟩) n c) n xs)(hi:i<n)(x:Value):(w.setCell ⟨g,i,none⟩ x).ownsRow B T 1 (.slice (some ⟨g,0,none⟩) n c) n (xs.set i x):=by
 have hlen:=h.1;rcases h.2 with⟨hv,_⟩|⟨g2,cap2,cur,hv,e1,e2,e3,e4,e5,e6⟩
 · cases hv
 · cases hv;exact⟨by rw[List.length_set];exact hlen,.inr ⟨g,c,cur.setIfInBounds i x,rfl,e1,zqb _ _ _ _ e2,e3,e4,by simpa using e5,by rw[←e6,Array.toList_setIfInBounds,List.take_set]⟩⟩
def OpsB(B:Nat)(w:World)(v:Value)(ops:List OpX):Prop:=∃sp cap,v=.slice sp ops.length cap/\∀(k:Nat)(op:OpX),ops[k]?=some op->∃g off,sp=some ⟨g,off,none⟩/\g<B/\w.cell? ⟨g,off+k*4,none⟩=some (.int .i64 op.k)/\w.cell? ⟨g,off+k*4+1,none⟩=some (.int .i64 op.a)/\w.cell? ⟨g,off+k*4+2,none⟩=some (.int .i64 op.b)/\w.cell? ⟨g,off+k*4+3,none⟩=some (.int .i64 op.c)
theorem OpsB.keep {B:Nat}{w w':World}{v:Value}{ops:List OpX}(h:OpsB B w v ops)(hk:KeepB B w w'):OpsB B w' v ops:=by
 obtain⟨sp,cap,hv,h⟩:=h;refine⟨sp,cap,hv,λk op hop=>?_⟩;obtain⟨g,off,h1,h2,h3,h4,h5,h6⟩:=h k op hop;have e:=hk.old g h2;exact⟨g,off,h1,h2,(zqd e).trans h3,(zqd e).trans h4,(zqd e).trans h5,(zqd e).trans h6⟩
section
variable {mb B n:Nat} {opv:Nat->Value} {C:List Int} {T:Nat->RT} {cv tv:Value} {av sv:Nat->Value} {w w':World}
theorem RefRep.thr (h:RefRep mb B n opv C T cv tv av sv w)(hn:0<n):∃g Ct,tv=.slice (some ⟨g,0,none⟩) n Ct/\B<=g:=by
 obtain⟨tp,Ct,rfl,htp⟩:=h.trow.form;obtain⟨g,rfl,hg⟩:=htp hn;exact⟨g,Ct,rfl,(h.trow.lt hg).2.1⟩
theorem RefRep.str (h:RefRep mb B n opv C T cv tv av sv w)(hn:0<C.length):∃g Cc,cv=.slice (some ⟨g,0,none⟩) C.length Cc/\B<=g:=by
 rcases h.crow.2 with hz|⟨g,cap,cur,hv,hB,_⟩
 · have:=hz.2;omega
 · exact⟨g,cap,hv,hB⟩
theorem RefRep.strCell {gc Cc:Nat}(h:RefRep mb B n opv C T (.slice (some ⟨gc,0,none⟩) C.length Cc) tv av sv w){s:Nat}(hs:s<C.length):w.cell? ⟨gc,s,none⟩=some (.int .i64 (C.getD s 0))/\w.frozen? ⟨gc,s,none⟩=false:=by
 obtain⟨g,hg,_,h1,h2⟩:=row_cell h.crow (i:=s) (x:=.int .i64 (C.getD s 0)) (by rw[List.getElem?_map,List.getD_eq_getElem?_getD,List.getElem?_eq_getElem hs];rfl);cases hg;exact⟨h1,h2⟩
theorem RefRep.setC {gc Cc:Nat}(h:RefRep mb B n opv C T (.slice (some ⟨gc,0,none⟩) C.length Cc) tv av sv w){s:Nat}(hs:s<C.length)(x:Int):RefRep mb B n opv (C.set s x) T (.slice (some ⟨gc,0,none⟩) C.length Cc) tv av sv (w.setCell ⟨gc,s,none⟩ (.int .i64 x)):=by
 have hgo:(Value.slice (some ⟨gc,0,none⟩) C.length Cc).ownBlock=some gc:=rfl;obtain⟨⟨c,hc⟩,hB,hlt⟩:=own_lt h.crow hgo;have hset:=own_set1 h.crow hs (.int .i64 x);refine⟨?_,?_,h.trow.of λq hq=>zq4 _ _ _ _ λe=>?_,λi hi=>zqs (h.arow i hi) λq hq=>zq4 _ _ _ _ λe=>zqw (h.arow i hi) hc (by decide) (by rw[hq,show q=gc from e]),λi hi=>zqs (h.srow i hi) λq hq=>zq4 _ _ _ _ λe=>h.csep i q hi hq (by rw[hgo,show q=gc from e]),h.asep,h.ssep,h.csep,h.lo⟩
 · rw[zq4 _ _ _ _ (λe=>absurd (zq1t hc (by rw[←show mb=gc from e];exact h.mach)) (by decide))];exact h.mach
 · rw[List.map_set];rw[List.length_set];exact hset
 · obtain⟨⟨c',hc'⟩,_⟩:=h.trow.lt hq;rw[show q=gc from e]at hc';exact absurd (zq1t hc hc') (by decide)
theorem RefRep.setS {g Ct i:Nat}{W1 w2:World}{v':Value}(h:RefRep mb B n opv C T cv (.slice (some ⟨g,0,none⟩) n Ct) av sv W1)(hi:i<n){t':RT}(ha:t'.ans=(T i).ans)(h3:t'.at'=(T i).at')(h4:t'.pc=(T i).pc)(h5:t'.sum=(T i).sum)(hown:w2.ownsRow B 2 1 v' t'.seen.length (t'.seen.map (Value.int .i64)))
 (keep:∀b,b<W1.heap.size->(sv i).ownBlock≠some b->w2.heap[b]?=W1.heap[b]?) (hat:∀g2,v'.ownBlock=some g2->(sv i).ownBlock=some g2\/W1.heap.size<=g2):
 RefRep mb B n opv C (upd' T i t') cv (.slice (some ⟨g,0,none⟩) n Ct) av (upd' sv i v') (w2.setCell ⟨g,i*7+6,none⟩ v'):=by
 have hgo:(Value.slice (some ⟨g,0,none⟩) n Ct).ownBlock=some g:=rfl;obtain⟨⟨c,hc⟩,hB,hlt⟩:=h.trow.lt hgo;have hgk:w2.heap[g]?=W1.heap[g]?:=keep g hlt (zqw (h.srow i hi) hc (by decide));have hset:∀b,b<W1.heap.size->(sv i).ownBlock≠some b->b≠g->(w2.setCell ⟨g,i*7+6,none⟩ v').heap[b]?=W1.heap[b]?:=λb hb hn hne=>by
  rw[zq4 _ _ _ _ hne];exact keep b hb hn
 have kr:∀{T':TypeId}{k m:Nat}{u:Value}{xs:List Value},W1.ownsRow B T' k u m xs->T'≠96->(∀q,u.ownBlock=some q->(sv i).ownBlock≠some q)->(w2.setCell ⟨g,i*7+6,none⟩ v').ownsRow B T' k u m xs:=λhr hT hne=>zqs hr λq hq=>
  hset q (own_lt hr hq).2.2 (hne q hq) λe=>zqw hr hc hT (by rw[hq,show q=g from e])
 have hty:∀{T':TypeId}{k m q:Nat}{u:Value}{xs:List Value},W1.ownsRow B T' k u m xs->T'≠2->u.ownBlock=some q->(sv i).ownBlock≠some q:=λhr hT hq=>by
  obtain⟨⟨c',hc'⟩,_⟩:=own_lt hr hq;exact zqw (h.srow i hi) hc' (λe=>hT e.symm)
 have eT:∀x,(upd' T i t' x).ans=(T x).ans:=λx=>by
  by_cases e:x=i
  · subst e;rw[upd'_same];exact ha
  · rw[zqc _ _ e]
 have hout:∀g2,v'.ownBlock=some g2->(∀q,q≠i->q<n->(sv q).ownBlock≠some g2)/\cv.ownBlock≠some g2:=λg2 hv'=>by
  rcases hat g2 hv' with h1|h1
  · exact⟨λq hq hqn=>h.ssep i q g2 hi hqn (λx=>hq x.symm) h1,h.csep i g2 hi h1⟩
  · exact⟨λq hq hqn e=>by have:=(own_lt (h.srow q hqn) e).2.2;omega,λe=>by have:=(own_lt h.crow e).2.2;omega⟩
 refine⟨?_,kr h.crow (by decide) λq hq e=>h.csep i q hi e hq,?_,λq hq=>?_,λq hq=>?_,h.asep,λp q x hp hq hne e=>?_,λp x hp e=>?_,h.lo⟩
 · rw[hset mb (zq7 h.mach) (zqw (h.srow i hi) h.mach (by decide)) (λe=>absurd (zq1t hc (by rw[←e];exact h.mach)) (by decide))];exact h.mach
 · refine RecRow.congr ((h.trow.of (w':=w2) λq hq=>?_).set hi (by decide) v') λx y hx hy=>?_
   · rw[hgo]at hq;obtain rfl:=Option.some.inj hq;exact hgk
   · by_cases e:x=i/\y=6
     · obtain⟨rfl,rfl⟩:=e;simp only[and_self,if_true,thF,upd'_same]
     · simp only[if_neg e]
       by_cases ea:x=i
       · subst ea;have hy1:y≠6:=λz=>e ⟨rfl,z⟩;obtain rfl |rfl |rfl |rfl |rfl |rfl |rfl:y=0\/y=1\/y=2\/y=3\/y=4\/y=5\/y=6:=by omega
         · rfl
         · rfl
         · rfl
         · simp only[thF,upd'_same];rw[h3]
         · simp only[thF,upd'_same];rw[h4]
         · simp only[thF,upd'_same];rw[h5]
         · exact absurd rfl hy1
       · unfold thF;rw[zqc _ _ ea,zqc _ _ ea]
 · rw[eT q];exact kr (h.arow q hq) (by decide) λx hx=>hty (h.arow q hq) (by decide) hx
 · by_cases e:q=i
   · subst e;rw[upd'_same,upd'_same];refine zqs hown λx hx=>zq4 _ _ _ _ λe=>?_;obtain⟨⟨c',hc'⟩,_⟩:=own_lt hown hx;rw[show x=g from e,hgk]at hc';exact absurd (zq1t hc hc') (by decide)
   · rw[zqc _ _ e,zqc _ _ e];exact kr (h.srow q hq) (by decide) λx hx e2=>h.ssep i q x hi hq (λz=>e z.symm) e2 hx
 · by_cases ep:p=i
   · subst ep;rw[upd'_same]at e;rw[zqc _ _ (λz=>hne z.symm)];exact(hout x e).1 q (λz=>hne z.symm) hq
   · rw[zqc _ _ ep]at e
     by_cases eq:q=i
     · subst eq;rw[upd'_same];intro e2;exact(hout x e2).1 p ep hp e
     · rw[zqc _ _ eq];exact h.ssep p q x hp hq hne e
 · by_cases ep:p=i
   · subst ep;rw[upd'_same]at e;exact(hout x e).2
   · rw[zqc _ _ ep]at e;exact h.csep p x hp e
theorem RefRep.pushT {W1 w2:World}{v':Value}{o:Value}(h:RefRep mb B n opv C T cv tv av sv W1)(hown:∀xs,W1.ownsRow B 96 7 tv n xs->w2.ownsRow B 96 7 v' (n+1) (xs++[o,.slice none 0 0,.int .i64 n,.int .i64 0,.int .i64 0,.int .i64 0,.slice none 0 0]))
 (keep:∀b,b<W1.heap.size->tv.ownBlock≠some b->w2.heap[b]?=W1.heap[b]?) (hT:T n=rt0):
 RefRep mb B (n+1) (upd' opv n o) C T cv v' (upd' av n (.slice none 0 0)) (upd' sv n (.slice none 0 0)) (w2.setCell ⟨mb,1,none⟩ v'):=by
 have hmk:w2.heap[mb]?=W1.heap[mb]?:=keep mb (zq7 h.mach) λe=>by
  obtain⟨⟨c',hc'⟩,_⟩:=h.trow.lt e;exact absurd (zq1t h.mach hc') (by decide)
 have hm2:w2.heap[mb]?=some (.cells #[cv,tv] 94):=hmk.trans h.mach;have kr:∀{T':TypeId}{k m:Nat}{u:Value}{xs:List Value},W1.ownsRow B T' k u m xs->T'≠96->T'≠94->(w2.setCell ⟨mb,1,none⟩ v').ownsRow B T' k u m xs:=λhr hT hM=>zqs hr λq hq=>by
  obtain⟨⟨c',hc'⟩,_,hl⟩:=own_lt hr hq;rw[zq4 _ _ _ _ (λe=>hM (zq1t hc' (by rw[show q=mb from e];exact h.mach)))];exact keep q hl λe=>by
   obtain⟨⟨c2,hc2⟩,_⟩:=h.trow.lt e;exact hT (zq1t hc' hc2)
 refine⟨?_,kr h.crow (by decide) (by decide),?_,λq hq=>?_,λq hq=>?_,λp q x hp hq hne e=>?_,λp q x hp hq hne e=>?_,λp x hp e=>?_,h.lo⟩
 · rw[zqb _ _ _ _ hm2];rfl
 · obtain⟨xs,h1,h2⟩:=h.trow;have h3:=hown xs h1;refine RecRow.push h1 h2 (zqs h3 λx hx=>zq4 _ _ _ _ λe=>?_) rfl _ (λi j hi hj=>?_) (λj hj=>?_)
   · obtain⟨⟨c2,hc2⟩,_⟩:=own_lt h3 hx;rw[show x=mb from e,hm2]at hc2;cases hc2
   · unfold thF;rw[zqc _ _ (by omega),zqc _ _ (by omega),zqc _ _ (by omega)]
   · obtain rfl |rfl |rfl |rfl |rfl |rfl |rfl:j=0\/j=1\/j=2\/j=3\/j=4\/j=5\/j=6:=by omega
     all_goals(simp only[thF,upd'_same,hT];rfl)
 · by_cases e:q=n
   · subst e;rw[upd'_same,hT];exact World.ownsRow_nil _ _ _ _
   · rw[zqc _ _ e];exact kr (h.arow q (by omega)) (by decide) (by decide)
 · by_cases e:q=n
   · subst e;rw[upd'_same,hT];exact World.ownsRow_nil _ _ _ _
   · rw[zqc _ _ e];exact kr (h.srow q (by omega)) (by decide) (by decide)
 · by_cases ep:p=n
   · subst ep;rw[upd'_same]at e;cases e
   · rw[zqc _ _ ep]at e
     by_cases eq:q=n
     · subst eq;rw[upd'_same];intro e2;cases e2
     · rw[zqc _ _ eq];exact h.asep p q x (by omega) (by omega) hne e
 · by_cases ep:p=n
   · subst ep;rw[upd'_same]at e;cases e
   · rw[zqc _ _ ep]at e
     by_cases eq:q=n
     · subst eq;rw[upd'_same];intro e2;cases e2
     · rw[zqc _ _ eq];exact h.ssep p q x (by omega) (by omega) hne e
 · by_cases ep:p=n
   · subst ep;rw[upd'_same]at e;cases e
   · rw[zqc _ _ ep]at e;exact h.csep p x (by omega) e
end
section
variable {mb B n:Nat} {opv:Nat->Value} {C:List Int} {T:Nat->RT} {cv tv:Value} {av sv:Nat->Value} {w w':World}
def zq1a(mb B n:Nat)(opv:Nat->Value)(C:List Int)(T:Nat->RT)(cv tv:Value)(w w':World):Prop:=(∃av sv,RefRep mb B n opv C T cv tv av sv w')/\KeepB B w w'
theorem RefRep.mach_ne {g Ct:Nat}(h:RefRep mb B n opv C T cv (.slice (some ⟨g,0,none⟩) n Ct) av sv w):mb≠g:=λe=>by
 obtain⟨⟨c',hc'⟩,_⟩:=h.trow.lt (show(Value.slice (some ⟨g,0,none⟩) n Ct).ownBlock=some g from rfl);rw[←e]at hc';exact absurd (zq1t h.mach hc') (by decide)
theorem begin_bad{i:Nat}{op:OpX}(h:RefRep mb B n opv C T cv tv av sv w)(hi:i<n)(hn:n<=64)(hl:(T i).ans.length<=1048576)(hat:(T i).at'<=1048576)(hg:goodK op=false):
 Calls Try.prog 52 #[.pointer (some ⟨mb,0,none⟩),.int .i64 i,op.val] w λe w'=>e=.returned (.tuple #[])/\zq1a mb B n opv C (upd' T i (endR (T i) Ans.none)) cv tv w w':=by
 have he:=zq2t (a:=Ans.none) (h.alloc (.cells #[.int .i64 op.k,.int .i64 op.a,.int .i64 op.b,.int .i64 op.c] 46)) hi hn hl hat;have hB:B<=w.heap.size:=Nat.le_trans h.lo (Nat.le_of_lt (zq7 h.mach));have hk:=KeepB.al hB (.cells #[.int .i64 op.k,.int .i64 op.a,.int .i64 op.b,.int .i64 op.c] 46);have hg2:op.k<1\/(1<=op.k/\5<op.k):=by
  unfold goodK at hg;simp only[Bool.and_eq_false_iff,decide_eq_false_iff_not]at hg;omega
 have HE:=Lib.hid he;have HK:=Lib.hid hk;clear h hi hn hl hat hg he hk hB;unfold OpX.val;rcases hg2 with h1|⟨h1,h5⟩
 · go_enter Try.func52,Try.ntmps52
   go_wp2_with (fail)
   refine Calls.mono HE.out ?_;rintro e w' ⟨rfl,⟨av',hR⟩,hk2⟩
   go_wp2_with (fail)
   try simp only[Exit.inBlock,Exit.then]
   refine bodyPost_ret (results_none rfl _ _ _) rfl ?_;exact⟨rfl,⟨_,_,hR⟩,HK.out.trans hk2⟩
 · go_enter Try.func52,Try.ntmps52
   go_wp2_with (fail)
   refine Calls.mono HE.out ?_;rintro e w' ⟨rfl,⟨av',hR⟩,hk2⟩
   go_wp2_with (fail)
   try simp only[Exit.inBlock,Exit.then]
   refine bodyPost_ret (results_none rfl _ _ _) rfl ?_;exact⟨rfl,⟨_,_,hR⟩,HK.out.trans hk2⟩
theorem begin_good{i:Nat}{op:OpX}(h:RefRep mb B n opv C T cv tv av sv w)(hi:i<n)(hn:n<=64)(hg:goodK op=true):
 Calls Try.prog 52 #[.pointer (some ⟨mb,0,none⟩),.int .i64 i,op.val] w λe w'=>e=.returned (.tuple #[])/\zq1a mb B n opv C (upd' T i {T i with pc:=1,sum:=0,seen:=[]}) cv tv w w':=by
 obtain⟨g,Ct,rfl,hgB⟩:=h.thr (by omega);have h1:=h.alloc (.cells #[.int .i64 op.k,.int .i64 op.a,.int .i64 op.b,.int .i64 op.c] 46);have hB:B<=w.heap.size:=Nat.le_trans h.lo (Nat.le_of_lt (zq7 h.mach));have hk:=KeepB.al hB (.cells #[.int .i64 op.k,.int .i64 op.a,.int .i64 op.b,.int .i64 op.c] 46);have s1:=h1.setN (j:=4) hi (.inr (.inl rfl)) (x:=.int .i64 1) (t':={T i with pc:=1}) (by simp only[thF,upd'_same];rfl) rfl rfl (.inr rfl) (.inl rfl) (.inr rfl);have s2:=s1.setN (j:=5) hi (.inr (.inr rfl)) (x:=.int .i64 0) (t':={T i with pc:=1,sum:=0}) (by simp only[thF,upd'_same]) (by rw[upd'_same]) (by rw[upd'_same]) (.inr (by rw[upd'_same])) (.inr (by rw[upd'_same])) (.inl rfl);rw[zq17]at s2;have s3:=s2.setS (i:=i) (w2:=_) (v':=.slice none 0 0) hi (t':={T i with pc:=1,sum:=0,seen:=[]}) (by rw[upd'_same]) (by rw[upd'_same]) (by rw[upd'_same]) (by rw[upd'_same]) (World.ownsRow_nil _ _ _ _) (λb _ _=>rfl) (λg2 e=>by cases e);rw[zq17]at s3;have hfin:=And.intro s3 (((hk.trans (KeepB.set hgB h1.inT (i*7+4) (.int .i64 1))).trans (KeepB.set hgB s1.inT (i*7+5) (.int .i64 0))).trans (KeepB.set hgB s2.inT (i*7+6) (.slice none 0 0)));have m1:(w.alloc (.cells #[.int .i64 op.k,.int .i64 op.a,.int .i64 op.b,.int .i64 op.c] 46)).cell? ⟨mb,1,none⟩=some (.slice (some ⟨g,0,none⟩) n Ct):=(zq0 (off:=1) h1.mach).trans rfl;obtain⟨t4,f4⟩:=h1.trow.cell hi (show 4<7 by decide);obtain⟨t5,f5⟩:=h1.trow.cell hi (show 5<7 by decide);obtain⟨t6,f6⟩:=h1.trow.cell hi (show 6<7 by decide);have hmg:mb≠g:=h1.mach_ne;have hg2:1<=op.k/\op.k<=5:=by
  unfold goodK at hg;simpa only[Bool.and_eq_true,decide_eq_true_eq]using hg
 obtain⟨hk1,hk5⟩:=hg2;have hi0:(0:Int)<=(i:Int):=by omega
 have hin:(i:Int)<(n:Int):=by omega
 have HFIN:=Lib.hid hfin;clear h h1 s1 s2 s3 hfin hk hi hn hg hB hgB;unfold OpX.val
 go_enter Try.func52,Try.ntmps52
 go_wp2_with (fail)
 go_end0
 exact⟨rfl,⟨_,_,HFIN.out.1⟩,HFIN.out.2⟩
end
section
variable {ops:List OpX}
theorem settle_fuel:∀(f f':Nat)(t:RT),ops.length<f+t.at'->ops.length<f'+t.at'->zq11 ops f t=zq11 ops f' t:=by
 intro f
 induction f with
 |zero=>
  intro f' t h h';cases f' with
  |zero=>rfl
  |succ f'=>
   unfold zq11;split
   · rw[List.getElem?_eq_none (by omega)]
   · rfl
 |succ f ih=>
  intro f' t h h';cases f' with
  |zero=>
   unfold zq11;split
   · rw[List.getElem?_eq_none (by omega)]
   · rfl
  |succ f'=>
   unfold zq11;split
   · cases hop:ops[t.at']? with
     |none=>rfl
     |some op=>
      simp only
      by_cases hg:goodK op
      · have:(zqz t op).pc=1:=by unfold zqz;rw[if_pos hg]
        cases f with
        |zero=>
         cases f' with
         |zero=>rfl
         |succ f'=>show zqz t op=_;unfold zq11;rw[if_neg (by omega)]
        |succ f=>
         cases f' with
         |zero=>show _=zqz t op;unfold zq11;rw[if_neg (by omega)]
         |succ f'=>unfold zq11;rw[if_neg (by omega),if_neg (by omega)]
      · have:(zqz t op).at'=t.at'+1:=by unfold zqz;rw[if_neg hg];rfl
        exact ih f' _ (by omega) (by omega)
   · rfl
theorem setlR_next{t:RT}{op:OpX}(h:t.pc=0)(hop:ops[t.at']?=some op):setlR ops t=setlR ops (zqz t op):=by
 unfold setlR
 conv=>lhs;unfold zq11
 rw[if_pos h,hop];simp only
 by_cases hg:goodK op
 · have hp:(zqz t op).pc=1:=by unfold zqz;rw[if_pos hg]
   have hl:0<ops.length:=by have:=(List.getElem?_eq_some_iff.1 hop).1;omega
   obtain⟨m,hm⟩:∃m,ops.length=m+1:=⟨ops.length - 1,by omega⟩;rw[hm];unfold zq11;rw[if_neg (by omega),if_neg (by omega)]
 · have:(zqz t op).at'=t.at'+1:=by unfold zqz;rw[if_neg hg];rfl
   exact settle_fuel _ _ _ (by omega) (by omega)
theorem setlR_stop{t:RT}(h:ops.length<=t.at'):setlR ops t=t:=by
 unfold setlR zq11;split
 · rw[List.getElem?_eq_none h]
 · rfl
structure FitT(ops:List OpX)(t:RT):Prop where
 le:t.at'<=ops.length
 ans:t.ans.length=t.at'
theorem fit_end{t:RT}(h:FitT ops t)(hlt:t.at'<ops.length)(a:Ans):FitT ops (endR t a):=⟨hlt,by show(t.ans++[a]).length=t.at'+1;rw[List.length_append,h.ans];rfl⟩
theorem fit_begin{t:RT}{op:OpX}(h:FitT ops t)(hop:ops[t.at']?=some op):FitT ops (zqz t op):=by
 unfold zqz;split
 · exact⟨h.le,h.ans⟩
 · exact fit_end h (List.getElem?_eq_some_iff.1 hop).1 _
theorem fit_settle:∀(f:Nat)(t:RT),FitT ops t->FitT ops (zq11 ops f t):=by
 intro f
 induction f with
 |zero=>exact λt h=>h
 |succ f ih=>
  intro t h;unfold zq11;split
  · cases hop:ops[t.at']? with
    |none=>exact h
    |some op=>exact ih _ (fit_begin h hop)
  · exact h
end
section
variable {mb B n:Nat} {opv:Nat->Value} {C:List Int} {T:Nat->RT} {cv tv:Value} {av sv:Nat->Value} {w w':World}
theorem begin_lone{i:Nat}{op:OpX}(h:RefRep mb B n opv C T cv tv av sv w)(hi:i<n)(hn:n<=64)(hl:(T i).ans.length<=1048576)(hat:(T i).at'<=1048576):
 Calls Try.prog 52 #[.pointer (some ⟨mb,0,none⟩),.int .i64 i,op.val] w λe w'=>e=.returned (.tuple #[])/\zq1a mb B n opv C (upd' T i (zqz (T i) op)) cv tv w w':=by
 unfold zqz;cases hg:goodK op with
 |true=>exact begin_good h hi hn hg
 |false=>exact begin_bad h hi hn hl hat hg
theorem settle_lone{i:Nat}{ops:List OpX}(h:RefRep mb B n opv C T cv tv av sv w)(hi:i<n)(hn:n<=64)(hops:OpsB B w (opv i) ops)(hlen:ops.length<=65536)(hfit:FitT ops (T i)):
 Calls Try.prog 39 #[.pointer (some ⟨mb,0,none⟩),.int .i64 i] w λe w'=>e=.returned (.tuple #[])/\zq1a mb B n opv C (upd' T i (setlR ops (T i))) cv tv w w':=by
 obtain⟨g,Ct,rfl,hgB⟩:=h.thr (by omega);have hmg:=h.mach_ne;obtain⟨p0,hp0⟩:∃k,(ops.length - (T i).at')+(if(T i).pc=0 then 1 else 0)=k:=⟨_,rfl⟩;have hRel:∃t,p0=(ops.length - t.at')+(if t.pc=0 then 1 else 0)/\FitT ops t/\setlR ops t=setlR ops (T i)/\zq1a mb B n opv C (upd' T i t) cv (.slice (some ⟨g,0,none⟩) n Ct) w w:=⟨T i,hp0.symm,hfit,rfl,⟨av,sv,by rw[zq2x];exact h⟩,KeepB.refl _ _⟩;have HREL:=Lib.hid hRel;have HO:=Lib.hid hops;have HL:=Lib.hid (And.intro hlen (And.intro hi hn));have hi0:(0:Int)<=(i:Int):=by omega
 have hin:(i:Int)<(n:Int):=by omega
 clear h hops hfit hlen hRel hp0 hi hn
 go_enter Try.func39,Try.ntmps39
 go_wp2_with (fail)
 go_loopg [] p0 (λk wr=>∃t,k=(ops.length - t.at')+(if t.pc=0 then 1 else 0)/\FitT ops t/\setlR ops t=setlR ops (T i)/\zq1a mb B n opv C (upd' T i t) cv (.slice (some ⟨g,0,none⟩) n Ct) w wr)
 case atStart=>exact HREL.out
 case round=>
  obtain⟨t,hk,hf,hset,⟨av',sv',hR⟩,hkb⟩:=hrel;clear HREL;have m:wr.cell? ⟨mb,1,none⟩=some (.slice (some ⟨g,0,none⟩) n Ct):=(zq0 (off:=1) hR.mach).trans rfl;obtain⟨q4,hq4⟩:∃p,t.pc=p:=⟨_,rfl⟩;obtain⟨q3,hq3⟩:∃p,t.at'=p:=⟨_,rfl⟩;have t4:wr.cell? ⟨g,i*7+4,none⟩=some (.int .i64 (q4:Nat)):=by
   have:=(hR.trow.cell HL.out.2.1 (show 4<7 by decide)).1;rw[this];simp only[thF,upd'_same];rw[hq4]
  have t3:wr.cell? ⟨g,i*7+3,none⟩=some (.int .i64 (q3:Nat)):=by
   have:=(hR.trow.cell HL.out.2.1 (show 3<7 by decide)).1;rw[this];simp only[thF,upd'_same];rw[hq3]
  have t0':wr.cell? ⟨g,i*7,none⟩=some (opv i):=by
   have:=(hR.trow.cell HL.out.2.1 (show 0<7 by decide)).1;exact this
  obtain⟨sp,cap,hopv,hrd⟩:=HO.out.keep hkb;rw[hopv]at t0';obtain⟨L,hL⟩:∃p,ops.length=p:=⟨_,rfl⟩;rw[hL]at t0';have HRD:=Lib.hid hrd;have HF:=Lib.hid (And.intro hf (And.intro hset (And.intro hk hopv)));have HQ:=Lib.hid (And.intro hL (And.intro hq4 hq3));have HR:=Lib.hid (And.intro hR hkb);clear hR hkb hrd hf hset hk hL hq4 hq3 hopv
  by_cases hp:q4=0
  · subst hp;have t4':wr.cell? ⟨g,i*7+4,none⟩=some (.int .i64 0):=t4;clear t4
    by_cases hlt:q3<L
    · have hd2:decide ((q3:Int)<(L:Int))=true:=by simp;omega
      have hlt':(q3:Int)<(L:Int):=by omega
      have hq0:(0:Int)<=(q3:Int):=by omega
      go_wp2_with (fail)
      go_quiet (fail)
      go_wp2_with (fail)
      obtain⟨op,hop⟩:∃op,ops[q3]?=some op:=⟨_,List.getElem?_eq_getElem (by rw[HQ.out.1];exact hlt)⟩;obtain⟨go,off,hsp,hgo,c0,c1,c2,c3⟩:=HRD.out q3 op hop;subst hsp;have hb:=begin_lone (i:=i) (op:=op) (HR.out.1.drew nq) HL.out.2.1 HL.out.2.2 (by rw[upd'_same,HF.out.1.ans];have:=HF.out.1.le;have:=HL.out.1;omega) (by rw[upd'_same];have:=HF.out.1.le;have:=HL.out.1;omega);have hbk:∀k,KeepB B w ((wr.drewN nq).drewN k):=λk=>(HR.out.2.trans (KeepB.drew nq)).trans (KeepB.drew k);have hbc:∀k,Calls Try.prog 52 #[.pointer (some ⟨mb,0,none⟩),.int .i64 i,.agg #[.int .i64 op.k,.int .i64 op.a,.int .i64 op.b,.int .i64 op.c]] ((wr.drewN nq).drewN k) λe w'=>e=.returned (.tuple #[])/\zq1a mb B n opv C (upd' T i (zqz t op)) cv (.slice (some ⟨g,0,none⟩) n Ct) w w':=λk=>by
       have:=begin_lone (i:=i) (op:=op) ((HR.out.1.drew nq).drew k) HL.out.2.1 HL.out.2.2 (by rw[upd'_same,HF.out.1.ans];have:=HF.out.1.le;have:=HL.out.1;omega) (by rw[upd'_same];have:=HF.out.1.le;have:=HL.out.1;omega);rw[upd'_same,zq17]at this;exact Calls.mono this λe w' hh=>⟨hh.1,hh.2.1,(hbk k).trans hh.2.2⟩
      have HB:=Lib.hid hbc;have HOP:=Lib.hid hop;clear hb hbk hbc hop hd2 t4';have m':(wr.drewN nq).cell? ⟨mb,1,none⟩=some (.slice (some ⟨g,0,none⟩) n Ct):=m;have t3':(wr.drewN nq).cell? ⟨g,i*7+3,none⟩=some (.int .i64 (q3:Nat)):=t3;have t0'':(wr.drewN nq).cell? ⟨g,i*7,none⟩=some (.slice (some ⟨go,off,none⟩) L cap):=t0';have c0':(wr.drewN nq).cell? ⟨go,off+q3*4,none⟩=some (.int .i64 op.k):=c0;have c1':(wr.drewN nq).cell? ⟨go,off+q3*4+1,none⟩=some (.int .i64 op.a):=c1;have c2':(wr.drewN nq).cell? ⟨go,off+q3*4+2,none⟩=some (.int .i64 op.b):=c2;have c3':(wr.drewN nq).cell? ⟨go,off+q3*4+3,none⟩=some (.int .i64 op.c):=c3;clear m t3 t0' c0 c1 c2 c3;generalize wr.drewN nq=w2 at HB m' t3' t0'' c0' c1' c2' c3' ⊢;refine zq23 (k:=20) (C:=λw'=>∃n,w'=w2.drewN n) (by kernel_rfl) (by kernel_rfl) (by kernel_rfl) (by kernel_rfl) (by kernel_rfl) ⟨1,rfl⟩ ?_;simp only[List.take_succ_cons,List.take_zero]
      repeat (quiet_step (fail))
      refine wpQuiet_nil ?_;rintro w' ⟨nq,rfl⟩;refine zq19 (i:=20) (by kernel_rfl) ?_;simp only[wpOp,al_gl,al_g0,al_g1];rw[if_pos (by rfl)];refine .inl ?_;clear m' t3' t0'' c0' c1' c2' c3';go_simp;refine Calls.mono (HB.out nq) ?_;rintro e w4 ⟨rfl,hpost⟩;refine zq18 (by kernel_rfl) ?_
      go_wp2_with (fail)
      go_roundg ((ops.length - (zqz t op).at')+(if(zqz t op).pc=0 then 1 else 0))
      case measure=>
       rw[HF.out.2.2.1,if_pos HQ.out.2.1];have h1:=HQ.out.2.2;have h2:=HQ.out.1;unfold zqz;split
       · show ops.length - t.at'+(if(1:Nat)=0 then 1 else 0)<_;rw[if_neg (by decide)];omega
       · show ops.length - (t.at'+1)+(if(0:Nat)=0 then 1 else 0)<_;rw[if_pos rfl];omega
      case rel=>
       have hop':ops[t.at']?=some op:=by rw[HQ.out.2.2];exact HOP.out
       exact⟨zqz t op,rfl,fit_begin HF.out.1 hop',by rw[←setlR_next HQ.out.2.1 hop'];exact HF.out.2.1,hpost⟩
    · have hd2:decide ((q3:Int)<(L:Int))=false:=by simp;omega
      go_wp2_with (fail)
      go_quiet (fail)
      go_wp2
      go_end0
      have e:setlR ops t=t:=setlR_stop (by have:=HQ.out.1;have:=HQ.out.2.2;omega);refine⟨rfl,⟨av',sv',?_⟩,HR.out.2.trans (KeepB.drew _)⟩;rw[←HF.out.2.1,e];exact HR.out.1.drew _
  · have hd1:decide ((q4:Int)=0)=false:=by simp;omega
    go_wp2_with (fail)
    go_quiet (fail)
    go_wp2
    go_end0
    have e:setlR ops t=t:=setlR_on (by have:=HQ.out.2.1;omega);refine⟨rfl,⟨av',sv',?_⟩,HR.out.2.trans (KeepB.drew _)⟩;rw[←HF.out.2.1,e];exact HR.out.1.drew _
end
theorem leftN_pos{ov:Nat->Bool}{n i:Nat}(hi:i<n)(h:ov i=false):0<leftN ov n:=by
 induction n with
 |zero=>omega
 |succ n ih=>
  unfold leftN
  by_cases e:i=n
  · subst e;rw[h];simp
  · have:=ih (by omega);omega
def ovT(T:Nat->RT)(i:Nat):Bool:=decide ((T i).pc=0)
section
variable {mb B n:Nat} {opv:Nat->Value} {C:List Int} {T:Nat->RT} {cv tv:Value} {av sv:Nat->Value} {w w':World}
theorem left_lone(h:RefRep mb B n opv C T cv tv av sv w)(hn:n<=64):
 Calls Try.prog 41 #[.pointer (some ⟨mb,0,none⟩)] w λe w'=>e=.returned (.bool (decide (0<leftN (ovT T) n)))/\w'=w:=by
 obtain⟨tp,Ct,rfl,htp⟩:=h.trow.form;have m:w.cell? ⟨mb,1,none⟩=some (.slice tp n Ct):=(zq0 (off:=1) h.mach).trans rfl;have hcell:∀j,j<n->∃g,tp=some ⟨g,0,none⟩/\w.cell? ⟨g,j*7+4,none⟩=some (.int .i64 ((T j).pc:Nat)):=λj hj=>by
  obtain⟨g,rfl,_⟩:=htp (by omega);exact⟨g,rfl,(h.trow.cell hj (show 4<7 by decide)).1⟩
 have HC:=Lib.hid hcell;clear htp hcell h
 go_enter Try.func41,Try.ntmps41
 go_wp2_with (fail)
 go_loopg [3] n (λk s wr=>∃j:Nat,k=n - j/\j<=n/\s=.int .i64 j/\leftN (ovT T) j=0/\wr=w)
 case atStart=>exact⟨0,rfl,Nat.zero_le _,rfl,rfl,rfl⟩
 case round=>
  obtain⟨j,hk,hj,rfl,hl,rfl⟩:=hrel;have HL:=Lib.hid (And.intro hk hl);clear hk hl
  by_cases hlt:j<n
  · have hlt':(j:Int)<(n:Int):=by omega
    have hj0:(0:Int)<=j:=by omega
    obtain⟨g,rfl,hc⟩:=HC.out j hlt;obtain⟨p,hp⟩:∃p,(T j).pc=p:=⟨_,rfl⟩;rw[hp]at hc;have HP:=Lib.hid hp;clear hp
    by_cases h0:p=0
    · subst h0;have hc':wr.cell? ⟨g,j*7+4,none⟩=some (.int .i64 0):=hc;clear hc;go_wp2;go_roundg (n - (j+1))
      case measure=>have:=HL.out.1;omega
      case rel=>exact⟨j+1,rfl,hlt,rfl,by show leftN (ovT T) j+_=0;rw[HL.out.2];unfold ovT;rw[HP.out];rfl,rfl⟩
    · have hp':(0:Int)<(p:Int):=by omega
      have hpos:0<leftN (ovT T) n:=leftN_pos hlt (by unfold ovT;rw[HP.out];simpa using h0);have HPS:=Lib.hid hpos;clear hpos;go_wp2;go_ret;exact⟨by rw[decide_eq_true HPS.out];rfl,rfl⟩
  · obtain rfl:j=n:=by omega
    have hlt':¬(j:Int)<(j:Int):=by omega
    go_wp2;go_ret;exact⟨by rw[HL.out.2];rfl,rfl⟩
theorem state_lone(h:RefRep mb B n opv C T cv tv av sv w)(hC0:0<C.length)(hC1:C.length<=64):
 Calls Try.prog 42 #[.pointer (some ⟨mb,0,none⟩)] w λe w'=>∃v,e=.returned v/\w'.ownsRow w.heap.size 2 1 v C.length (C.map (Value.int .i64))/\KeepB w.heap.size w w':=by
 obtain⟨gc,Cc,rfl,hgB⟩:=h.str hC0;obtain⟨N,hN⟩:∃N,C.length=N:=⟨_,rfl⟩;have m:w.cell? ⟨mb,0,none⟩=some (.slice (some ⟨gc,0,none⟩) N Cc):=by rw[←hN];exact(zq0 (off:=0) h.mach).trans rfl
 have hcell:∀j u,(C.map (Value.int .i64))[j]?=some u->w.cell? ((⟨gc,0,none⟩:Addr).add j)=some u:=λj u hu=>by
  rw[List.getElem?_map]at hu;have hj:j<C.length:=by
   rcases Nat.lt_or_ge j C.length with h1|h1
   · exact h1
   · rw[List.getElem?_eq_none h1]at hu;cases hu
  have:=(h.strCell hj).1;rw[List.getElem?_eq_getElem hj]at hu;cases hu;rw[List.getD_eq_getElem?_getD,List.getElem?_eq_getElem hj]at this
  by_cases e:j=0
  · subst e;simpa[Addr.add]using this
  · simpa[Addr.add,e]using this
 obtain⟨tj,htj,hy0,hy1,hy2⟩:∃ti,Try.prog.info? 2=some ti/\ti.zero=some (.int .i64 0)/\ti.size=1/\ti.bytes=8:=⟨_,rfl,rfl,rfl,rfl⟩;have TJ:=Lib.hid (And.intro htj (And.intro hy0 (And.intro hy1 hy2)));have HC:=Lib.hid (And.intro hcell (And.intro hN (And.intro hC1 hC0)));clear hcell h htj hy0 hy1 hy2 hC0 hN hC1
 go_enter Try.func42,Try.ntmps42
 go_wp2_with (at_builtin;go_loud (refine wpList_append_lies _ rfl (.tmp 4) (.tmp 8) 22 rfl w.heap.size 2 tj (.int .i64 0) 1 8 (by kernel_rfl) TJ.out.1 TJ.out.2.1 TJ.out.2.2.1 TJ.out.2.2.2 rfl (by decide) _ 0 [] rfl (World.ownsRow_nil _ _ _ _) _ N Cc (C.map (Value.int .i64)) rfl (by rw[List.length_map,Nat.mul_one];exact HC.out.2.1) HC.out.1 (by simp[Value.oneCell']) (by have:=HC.out.2.2;have:=HC.out.2.1;omega) (by have:=HC.out.2.2;have:=HC.out.2.1;simp only[maxLen];omega) (by have:=HC.out.2.2;have:=HC.out.2.1;omega) (Nat.le_refl _) _ rfl ?next))
 case next=>
  intro g7 cap7 w7 hown7 hgrow7 hat7 hlt7;have L7:=Lib.hid (And.intro hown7 hgrow7);clear hown7 hgrow7 hat7 hlt7;go_wp2;go_ret;have o:=L7.out.1;refine⟨_,rfl,?_,L7.out.2.size,λb hb=>L7.out.2.block b hb (by intro e;cases e),λb c T f hb hT=>(L7.out.2.block b (zq7 hb) (by intro e;cases e)).trans hb⟩;rw[HC.out.2.1];simpa using o
end
end Go.Proofs
set_option maxHeartbeats 1000000
namespace Go.Car
open Go Go.Conc Go.RowKit
theorem app_one{P:Program}(t ty:TypeId)(e:TypeId)(i:TypeInfo)(z:Value)(k bytes:Nat)(ht:P.underlying t=some (.slice e))(hi:P.info? e=some i)(hz:i.zero=some z)(hsize:i.size=k)(hby:i.bytes=bytes)(hzs:z.cells.size=k)(hk:0<k)
 {w0:World} {B n:Nat} {v:Value} {xs cs:List Value} (hown:w0.ownsRow B e k v n xs) (hcs:cs.length=k) (h1:∀u∈cs,u.oneCell'=true) (h63:n+1<=maxLen) (hbytes:(n+1)*bytes<=140737488355328) (hB:B<=w0.heap.size):
 ∃g cap w2,(Builtin.append_ #[t,t] ty #[v,.slice (some ⟨w0.heap.size,0,none⟩) 1 1]).run P ((w0.drewN 1).alloc (.cells cs.toArray e))=.ok (.slice (some ⟨g,0,none⟩) (n+1) cap) w2/\
  w2.ownsRow B e k (.slice (some ⟨g,0,none⟩) (n+1) cap) (n+1) (xs++cs)/\
  (∀W,W=w0.drewN 1\/W=(w0.drewN 1).alloc (.cells cs.toArray e)\/W=w2->∀b,b<w0.heap.size->v.ownBlock≠some b->W.heap[b]?=w0.heap[b]?)/\
  (v.ownBlock=some g\/w0.heap.size<=g)/\w0.heap.size<=w2.heap.size:=by
 have hs0:(w0.drewN 1).heap.size=w0.heap.size:=rfl;have hs1:((w0.drewN 1).alloc (.cells cs.toArray e)).heap.size=w0.heap.size+1:=by rw[zq5,hs0]
 have hrow:((w0.drewN 1).alloc (.cells cs.toArray e)).ownsRow B e k v n xs:=zq2w (zqs hown λg hg=>rfl) _;obtain⟨g,cap,w2,hrun,ho,hg,hat,hlt⟩:=run_append_lies (P:=P) _ t ty B e i z k bytes ht hi hz hsize hby hzs hk v n xs hrow ⟨w0.heap.size,0,none⟩ 1 1 cs (by rw[hcs,Nat.one_mul]) (λj u hj=>news_new (T:=e) hs0 j u (by simpa using hj)) h1 (by decide) h63 hbytes (by rw[hs1];omega) _ rfl;have a0:∀b,b<w0.heap.size->((w0.drewN 1).alloc (.cells cs.toArray e)).heap[b]?=w0.heap[b]?:=λb hb=>by rw[zq2,if_neg (by rw[hs0];omega)];rfl
 refine⟨g,cap,w2,hrun,ho,?_,?_,?_⟩
 · rintro W (rfl |rfl |rfl) b hb hne
   · rfl
   · exact a0 b hb
   · exact(hg.block b (by rw[hs1];omega) (λe=>hne e.symm)).trans (a0 b hb)
 · rcases hat with h|h
   · exact .inl h
   · rw[hs1]at h;exact .inr (by omega)
 · have:=hg.size;rw[hs1]at this;omega
end Go.Car
set_option maxHeartbeats 4000000
set_option maxRecDepth 100000
namespace Go.Proofs
open Go Go.Conc Go.RowKit Go.Car
section
variable {mb B n:Nat} {opv:Nat->Value} {C:List Int} {T:Nat->RT} {cv tv:Value} {av sv:Nat->Value} {w w':World}
theorem RefRep.pushC {w0 w2:World}{v':Value}{C':List Int}(h:RefRep mb B 0 opv C T cv (.slice none 0 0) av sv w0)(hown:w2.ownsRow B 2 1 v' C'.length (C'.map (Value.int .i64)))(hm:w2.heap[mb]?=w0.heap[mb]?):
 RefRep mb B 0 opv C' T v' (.slice none 0 0) av sv (w2.setCell ⟨mb,0,none⟩ v'):=by
 have hm2:=hm.trans h.mach;refine⟨by rw[zqb _ _ _ _ hm2];rfl,zqs hown λx hx=>zq4 _ _ _ _ λe=>?_,RecRow.nil _ _ _ _ _,λi hi=>absurd hi (Nat.not_lt_zero _),λi hi=>absurd hi (Nat.not_lt_zero _),λi _ _ hi=>absurd hi (Nat.not_lt_zero _),λi _ _ hi=>absurd hi (Nat.not_lt_zero _),λi _ hi=>absurd hi (Nat.not_lt_zero _),h.lo⟩;obtain⟨⟨c,hc⟩,_⟩:=own_lt hown hx;rw[show x=mb from e,hm2]at hc;cases hc
theorem refnew_lone{p:Option Addr}{N Cp:Nat}{ws:List Int}(w:World)(hl:ws.length=N)(hn:N<=4611686018427387904)(hw:0<N->∃wb wo,p=some ⟨wb,wo,none⟩/\∀i,i<N->w.cell? ⟨wb,wo+i,none⟩=some (.int .i64 (ws.getD i 0))):
 Calls Try.prog 28 #[.slice p N Cp] w λe w'=>e=.returned (.pointer (some ⟨w.heap.size,0,none⟩))/\(∃cv,RefRep w.heap.size w.heap.size 0 opv (zq13 ws) T cv (.slice none 0 0) av sv w')/\KeepB w.heap.size w w':=by
 have HS:=Lib.hid hw;have h0:RefRep w.heap.size w.heap.size 0 opv [] T (.slice none 0 0) (.slice none 0 0) av sv (w.alloc (.cells #[.slice none 0 0,.slice none 0 0] 94)):=
  ⟨zqr _ _,World.ownsRow_nil _ _ _ _,RecRow.nil _ _ _ _ _,λi hi=>absurd hi (Nat.not_lt_zero _),λi hi=>absurd hi (Nat.not_lt_zero _),λi _ _ hi=>absurd hi (Nat.not_lt_zero _),λi _ _ hi=>absurd hi (Nat.not_lt_zero _),λi _ hi=>absurd hi (Nat.not_lt_zero _),Nat.le_refl _⟩
 have k0:=KeepB.al (Nat.le_refl w.heap.size) (.cells #[.slice none 0 0,.slice none 0 0] 94);obtain⟨H,hH⟩:∃H,w.heap.size=H:=⟨_,rfl⟩;rw[hH]at h0 k0 ⊢;obtain⟨m,hm⟩:∃m,min N 64=m:=⟨_,rfl⟩;have HI:=Lib.hid (And.intro hl (And.intro hm hH));have H0:=Lib.hid (And.intro h0 k0);clear hw h0 k0 hl hm hH
 go_enter Try.func28,Try.ntmps28
 go_wp2_with (fail)
 rw[HI.out.2.2]
 go_loopg [4] m (λk s wr=>∃(j:Nat)(cv:Value),k=m - j/\j<=m/\s=.int .i64 j/\RefRep H H 0 opv (ws.take j) T cv (.slice none 0 0) av sv wr/\KeepB H w wr)
 case atStart=>exact⟨0,_,rfl,Nat.zero_le _,rfl,H0.out.1,H0.out.2⟩
 case round=>
  obtain⟨j,cv,hk,hj,rfl,hR,hkb⟩:=hrel;have hj0:(0:Int)<=j:=by omega
  by_cases hlt:j<m
  · obtain⟨wb,wo,rfl,hcw⟩:=HS.out (by have:=HI.out.2.1;omega);have hcj:=hcw j (by have:=HI.out.2.1;omega);have hwbH:wb<H:=by rw[←HI.out.2.2];exact cell_lt hcj
    have c2:wr.cell? ⟨wb,wo+j,none⟩=some (.int .i64 (ws.getD j 0)):=(zqd (hkb.old wb hwbH)).trans hcj;obtain⟨x,hx⟩:∃x,ws.getD j 0=x:=⟨_,rfl⟩;rw[hx]at c2;have hlj:(ws.take j).length=j:=by have:=HI.out.1;have:=HI.out.2.1;simp;omega
    obtain⟨pa,Ca,hcv,-,-⟩:=zq12 hR.crow;rw[hlj]at hcv;obtain⟨tj,htj,hy0,hy1,hy2⟩:∃ti,Try.prog.info? 2=some ti/\ti.zero=some (.int .i64 0)/\ti.size=1/\ti.bytes=8:=⟨_,rfl,rfl,rfl,rfl⟩;have hrow:=hR.crow;rw[hlj]at hrow;have hBs:H<=wr.heap.size:=Nat.le_trans (Nat.le_of_eq HI.out.2.2.symm) hkb.size;have hmB:H<wr.heap.size:=zq7 hR.mach;obtain⟨g,cap,w2,hrun,hown,hsame,hat,hsz⟩:=app_one (P:=Try.prog) 22 22 2 tj (.int .i64 0) 1 8 (by kernel_rfl) htj hy0 hy1 hy2 rfl (by decide) (cs:=[.int .i64 x]) hrow rfl (by simp[Value.oneCell']) (by have:=HI.out.2.1;simp only[maxLen];omega) (by have:=HI.out.2.1;omega) hBs;have hn1:cv.ownBlock≠some H:=zqw hrow hR.mach (by decide);have hn2:cv.ownBlock≠some wb:=λe=>by have:=(own_lt hrow e).2.1;omega
    have hfacts:∀W,W=wr.drewN 1\/W=(wr.drewN 1).alloc (.cells #[.int .i64 x] 2)\/W=w2->W.cell? ⟨H,0,none⟩=some (.slice pa j Ca)/\W.cell? ⟨wb,wo+j,none⟩=some (.int .i64 x)/\W.frozen? ⟨H,0,none⟩=false:=λW hW=>
     ⟨(zq0 (off:=0) ((hsame W hW H hmB hn1).trans hR.mach)).trans (by rw[hcv];rfl),(zqd (hsame W hW wb (by omega) hn2)).trans c2,zq3 ((hsame W hW H hmB hn1).trans hR.mach)⟩
    have hC2:ws.take j++[x]=ws.take (j+1):=by
     have hjl:j<ws.length:=by have:=HI.out.1;have:=HI.out.2.1;omega
     rw[List.take_add_one,List.getElem?_eq_getElem hjl,←hx,List.getD_eq_getElem?_getD,List.getElem?_eq_getElem hjl];rfl
    have hR2:=hR.pushC (w2:=w2) (v':=.slice (some ⟨g,0,none⟩) (j+1) cap) (C':=ws.take (j+1)) (by
     rw[←hC2,List.length_append,hlj,List.map_append];exact hown) (hsame w2 (.inr (.inr rfl)) H hmB hn1)
    have hk2:KeepB H w (w2.setCell ⟨H,0,none⟩ (.slice (some ⟨g,0,none⟩) (j+1) cap)):=hkb.trans (KeepB.trans ⟨hsz,λb hb=>hsame w2 (.inr (.inr rfl)) b (by omega) λe=>by have:=(own_lt hrow e).2.1;omega,λb c T2 f hb hT=>(hsame w2 (.inr (.inr rfl)) b (zq7 hb) (zqw hrow hb hT.1.symm)).trans hb⟩ (KeepB.set (Nat.le_refl H) ⟨_,_,_,(hsame w2 (.inr (.inr rfl)) H hmB hn1).trans hR.mach,λh=>h.2.2.2 rfl⟩ 0 _));have hjN:(j:Int)<(N:Int):=by have:=HI.out.2.1;omega
    have hj64:(j:Int)<64:=by have:=HI.out.2.1;omega
    rw[hcv]at hrun;obtain⟨S,hS⟩:∃S,wr.heap.size=S:=⟨_,rfl⟩;rw[hS]at hrun;have HF:=Lib.hid hfacts;have HP:=Lib.hid (And.intro hR2 hk2);have HR:=Lib.hid hrun;have HT:=Lib.hid (And.intro hS hk);have HLT:=Lib.hid hlt;clear hR hkb hcw hcj hwbH c2 hx hlj hcv htj hy0 hy1 hy2 hrow hBs hmB hrun hown hsame hat hsz hn1 hn2 hfacts hC2 hR2 hk2 hS hlt hk
    go_wp2_with (fail)
    refine zq3a (k:=13) (s:=9) (t:=10) (W0:=wr.drewN 1) (W1:=(wr.drewN 1).alloc (.cells #[.int .i64 x] 2)) (W2:=w2) (by kernel_rfl) (by kernel_rfl) (by kernel_rfl) (by kernel_rfl) (by decide) (by decide) (by decide) (by kernel_rfl)
     [.pointer (some ⟨H,0,none⟩),.pointer (some ⟨H,0,none⟩),.pointer (some ⟨H,0,none⟩),.pointer (some ⟨H,0,none⟩),.slice pa j Ca,.slice (some ⟨wb,wo,none⟩) N Cp,.int .i64 j,.pointer (some ⟨wb,wo+j,none⟩),.int .i64 x,.slice (some ⟨S,0,none⟩) 1 1,.slice (some ⟨g,0,none⟩) (j+1) cap,.pointer (some ⟨H,0,none⟩),.pointer (some ⟨H,0,none⟩)] rfl rfl ?_ ?_ ?_ ?_
    · intro jj oo hjj h9 h10 hoo W hWW;obtain⟨d1,d2,_⟩:=HF.out W hWW;clear hWW;simp only[putv,dstOf,al_gl,al_g0,al_g1,al_ob,al_g2,List.set_cons_succ,List.set_cons_zero];obtain rfl |rfl |rfl |rfl |rfl |rfl |rfl |rfl |rfl |rfl |rfl:jj=0\/jj=1\/jj=2\/jj=3\/jj=4\/jj=5\/jj=6\/jj=7\/jj=8\/jj=11\/jj=12:=by omega
      all_goals(simp only[al_gl,al_g0,al_g1,al_oi]at hoo;subst hoo;refine .inl ?_)
      all_goals(simp only[execOp,Act.eval,al_gd,al_gl,al_g0,al_g1,al_od])
      all_goals(try go_simp)
    · intro oo hoo;simp only[putv,dstOf,al_gl,al_g0,al_g1,al_ob,al_g2,List.set_cons_succ,List.set_cons_zero];simp only[al_gl,al_g0,al_g1,al_oi]at hoo;subst hoo;refine .inl ?_;have hs0:(wr.drewN 1).heap.size=S:=HT.out.1;generalize wr.drewN 1=W0 at hs0 ⊢;simp only[execOp,Act.eval,al_gd,al_gl,al_g0,al_g1,al_od];go_simp
    · intro oo hoo;have hrun:(Builtin.append_ #[22,22] 22 #[Value.slice pa j Ca,.slice (some ⟨S,0,none⟩) 1 1]).run Try.prog ((wr.drewN 1).alloc (.cells #[.int .i64 x] 2))=.ok (.slice (some ⟨g,0,none⟩) (j+1) cap) w2:=HR.out;simp only[putv,dstOf,al_gl,al_g0,al_g1,al_ob,al_g2,List.set_cons_succ,List.set_cons_zero];simp only[al_gl,al_g0,al_g1,al_oi]at hoo;subst hoo;refine .inl ?_;unfold execOp;simp only[resolve,invoke,builtin,Sem.run_bind,Sem.run_pure,Result.andThen_ok,List.map_toArray,List.map_cons,List.map_nil,Act.eval,al_gd,al_gl,al_g0,al_g1,al_od,hrun];rfl
    simp only[putv,dstOf,al_gl,al_g0,al_g1,al_ob,al_g2,List.set_cons_succ,List.set_cons_zero];obtain⟨d1,_,d6⟩:=HF.out w2 (.inr (.inr rfl));refine zq19 (i:=13) (by kernel_rfl) ?_;simp only[wpOp,al_gl,al_g0,al_g1];rw[if_pos (by rfl)];refine .inl ?_;go_simp;refine zq18 (by kernel_rfl) ?_;clear d1 d6 HF HR;generalize w2.setCell ⟨H,0,none⟩ (.slice (some ⟨g,0,none⟩) (j+1) cap)=w3 at HP ⊢;go_wp2;go_roundg (m - (j+1))
    case measure=>have:=HT.out.2;have:=HLT.out;omega
    case rel=>exact⟨j+1,_,rfl,HLT.out,by simp,HP.out.1,HP.out.2⟩
  · obtain rfl:j=m:=by omega
    obtain⟨pa,Ca,hcv,-,-⟩:=zq12 hR.crow;have hlj:(ws.take j).length=j:=by have:=HI.out.1;have:=HI.out.2.1;simp;omega
    rw[hlj]at hcv;have d1:wr.cell? ⟨H,0,none⟩=some (.slice pa j Ca):=(zq0 (off:=0) hR.mach).trans (by rw[hcv];rfl);have d2:wr.frozen? ⟨H,0,none⟩=false:=zq3 hR.mach;have hmB:H<wr.heap.size:=zq7 hR.mach
    by_cases h0:j=0
    · have hnew:(wr.alloc (.cells #[.int .i64 0] 2)).ownsRow H 2 1 (.slice (some ⟨wr.heap.size,0,none⟩) 1 1) [(0:Int)].length ([(0:Int)].map (Value.int .i64)):=⟨rfl,.inr ⟨wr.heap.size,1,#[.int .i64 0],rfl,Nat.le_of_lt hmB,zqr _ _,by decide,by decide,by decide,rfl⟩⟩;have hR2:=hR.pushC (w2:=wr.alloc (.cells #[.int .i64 0] 2)) hnew (by rw[zq2,if_neg (by omega)]);have hk2:KeepB H w ((wr.alloc (.cells #[.int .i64 0] 2)).setCell ⟨H,0,none⟩ (.slice (some ⟨wr.heap.size,0,none⟩) 1 1)):=hkb.trans (KeepB.trans (KeepB.al (Nat.le_of_lt hmB) _) (KeepB.set (Nat.le_refl H) ⟨_,_,_,zqe hR.mach,λh=>h.2.2.2 rfl⟩ 0 _));have hN0:N=0:=by have:=HI.out.2.1;omega
      have HN0:=Lib.hid hN0;have hN0':¬(j:Int)<(N:Int):=by omega
      have hj00:((j:Int)==0)=true:=by simp;omega
      have HP:=Lib.hid (And.intro hR2 hk2);obtain⟨S,hS⟩:∃S,wr.heap.size=S:=⟨_,rfl⟩;have HSS:=Lib.hid hS;have hHS:H≠wr.heap.size:=by omega
      have fA:(wr.alloc (.cells #[.int .i64 0] 2)).frozen? ⟨H,0,none⟩=false:=zq3 (zqe hR.mach);have cA:(wr.alloc (.cells #[.int .i64 0] 2)).cell? ⟨H,0,none⟩=some (.slice pa j Ca):=(zq0 (off:=0) (zqe hR.mach)).trans (by rw[hcv];rfl);rw[hS]at HP;clear hR hkb hcv hlj hnew hR2 hk2 hk hj hlt hmB hS h0 hN0;go_wp2
      · first|rw[HSS.out]|skip
        go_ret;refine⟨rfl,⟨.slice (some ⟨S,0,none⟩) 1 1,?_⟩,HP.out.2⟩;have e:zq13 ws=[0]:=by
         rw[begunL_eq,if_pos];have:=HI.out.1;exact List.eq_nil_of_length_eq_zero (by have:=HN0.out;omega)
        rw[e];exact HP.out.1
    · have hj1:¬(j:Int)=0:=by omega
      have hfin:ws.take j=zq13 ws:=by
       rw[begunL_eq,if_neg (λe=>by rw[e]at hlj;simp at hlj;omega)];have:=HI.out.2.1;have:=HI.out.1
       by_cases h64:N<=64
       · rw[List.take_of_length_le (by omega),List.take_of_length_le (by omega)]
       · rw[show j=64 by omega]
      rw[hfin]at hR;have HP:=Lib.hid (And.intro hR hkb);clear hR hkb hcv hlj hk hj hlt hmB hfin
      by_cases h64:N<=64
      · have hjN:¬(j:Int)<(N:Int):=by have:=HI.out.2.1;omega
        go_wp2;go_ret;exact⟨rfl,⟨_,HP.out.1⟩,HP.out.2⟩
      · have hjN:(j:Int)<(N:Int):=by have:=HI.out.2.1;omega
        have hj64:¬(j:Int)<64:=by have:=HI.out.2.1;omega
        go_wp2;go_ret;exact⟨rfl,⟨_,HP.out.1⟩,HP.out.2⟩
end
end Go.Proofs
set_option maxHeartbeats 1000000
namespace Go.Car
open Go Go.Conc Go.RowKit
section
variable {P:Program} {A:FuncId->Bool}
theorem at_lone_end{Post:Value->World->Prop}(hPost:∀v w τ d,Post v w->Post v (re w τ d))(hP:Plain P A){c:Code}(hc:zqk P A c=true)(Φ:Array Value->World->Prop)(hΦ:∀t w τ d,Φ t w->Φ t (re w τ d)){n:Nat}{b:Frame}(hb:b.kind=.normal)(hini:P.inits.idxOf? b.fn=none){fn:Func}(hf:P.funcs[b.fn]?=some fn){t:Array Value}{w:World}{k:List Item}
 (h:∀τ d,Code.wp P c (ends (λa w=>Φ a.tmps w) (λa w=>∃v,(results fn a.tmps).run P w=.ok v w/\Post v w)) ⟨t,[]⟩ (re w τ d))
 (hq:∀t w',Φ t w'->J0 P (FinOf P Post) n (G (b.at ⟨t,[]⟩ k) []) w'):J0 P (FinOf P Post) n (G (b.at ⟨t,[]⟩ (.code c::k)) []) w:=by
 have hFin:=back_fin (P:=P) Post;have hJ:=j0_JS hFin;have hC:=zq1n hFin;refine wpJ_lone (Q:=λs' e a' w'=>s'=n/\a'.defers=[]/\((e=.normal/\Φ a'.tmps w')\/(e=.ret/\∃v,(results fn a'.tmps).run P w'=.ok v w'/\Post v w'))) hJ hC hP hc (λa w=>Φ a.tmps w) (λa w=>∃v,(results fn a.tmps).run P w=.ok v w/\Post v w) (λa w τ d h=>hΦ _ _ _ _ h) (λa w τ d⟨v,h1,h2⟩=>⟨v,zq2l h1 τ d,hPost _ _ _ _ h2⟩) h (λt w h=>⟨rfl,rfl,.inl ⟨rfl,h⟩⟩) (λt w h=>⟨rfl,rfl,.inr ⟨rfl,h⟩⟩) b k [] (by rw[hb];decide) ?_;rintro s' e ⟨t,ds⟩ w' ⟨rfl,hd,(⟨rfl,h⟩|⟨rfl,v,h1,h2⟩)⟩
 · simp only at hd;subst hd;exact hq t w' h
 · simp only at hd;subst hd;intro todo;exact j0_end hPost hb hini hf h1 h2
end
theorem lit_list(T:Array Value):∃x:Nat->Value,(∀i,i<T.size->T[i]?=some (x i))/\T.toList=(List.range T.size).map x:=by
 refine⟨λi=>T.getD i undef,λi hi=>by simp[hi],?_⟩;apply List.ext_getElem
 · simp
 · intro i h1 h2;have h3:i<T.size:=by simpa using h1
   simp[h3]
end Go.Car
set_option maxHeartbeats 4000000
set_option maxRecDepth 100000
namespace Go.Proofs
open Go Go.Conc Go.RowKit Go.Car
section
variable {mb B n:Nat} {opv:Nat->Value} {C:List Int} {T:Nat->RT} {cv tv:Value} {av sv:Nat->Value} {w w':World}
theorem RefRep.strCell' {gc Cc N:Nat}(hN:C.length=N)(h:RefRep mb B n opv C T (.slice (some ⟨gc,0,none⟩) N Cc) tv av sv w){s:Nat}(hs:s<N):w.cell? ⟨gc,s,none⟩=some (.int .i64 (C.getD s 0))/\w.frozen? ⟨gc,s,none⟩=false:=by
 subst hN;exact h.strCell hs
theorem RefRep.setC' {gc Cc N:Nat}(hN:C.length=N)(h:RefRep mb B n opv C T (.slice (some ⟨gc,0,none⟩) N Cc) tv av sv w){s:Nat}(hs:s<N)(x:Int):RefRep mb B n opv (C.set s x) T (.slice (some ⟨gc,0,none⟩) N Cc) tv av sv (w.setCell ⟨gc,s,none⟩ (.int .i64 x)):=by
 subst hN;exact h.setC hs x
theorem getD_set_eq{l:List Int}{s:Nat}(hs:s<l.length)(x:Int):(l.set s x).getD s 0=x:=by
 rw[List.getD_eq_getElem?_getD,List.getElem?_set_self hs];rfl
end
section
variable {mb B n:Nat} {opv:Nat->Value} {C:List Int} {T:Nat->RT} {cv tv:Value} {av sv:Nat->Value} {w w':World}
def tlN:Nat->Code->Code
 |n+1,.seq _ b=>tlN n b
 |_,c=>c
def hdC:Code->Code
 |.seq a _=>a
 |c=>c
noncomputable def stpT(n:Nat):Code:=tlN n (Try.f40.body.getD .skip)
theorem step_back{Tm:Array Value}{w:World}{Q':Exit->Act->World->Prop}{K:Act->World->Prop}(hK:∀a w,Code.wp Try.prog (stpT 5) Q' a w->K a w)(h:Code.wp Try.prog (hdC (stpT 4)) (Exit.then (Code.wp Try.prog (stpT 5) Q') Q') ⟨Tm,[]⟩ w):Code.wp Try.prog (hdC (stpT 4)) (Exit.then K Q') ⟨Tm,[]⟩ w:=by
 refine Code.wp_mono (λe a w hh=>?_) h;cases e with
 |normal=>exact hK _ _ hh
 |_=>exact hh
theorem step_fin{Tm:Array Value}{w:World}{c:Code}{Q:Exit->Act->World->Prop}{v0 v1 v4 v5 v6:Value}(hs:Tm.size=281)(h0:Tm[0]?=some v0)(h1:Tm[1]?=some v1)(h4:Tm[4]?=some v4)(h5:Tm[5]?=some v5)(h6:Tm[6]?=some v6)
 (hq:∀x:Nat->Value,Code.wp Try.prog c Q ⟨#[v0,v1,x 2,x 3,v4,v5,v6,x 7,x 8,x 9,x 10,x 11,x 12,x 13,x 14,x 15,x 16,x 17,x 18,x 19,x 20,x 21,x 22,x 23,x 24,x 25,x 26,x 27,x 28,x 29,x 30,x 31,x 32,x 33,x 34,x 35,x 36,x 37,x 38,x 39,x 40,x 41,x 42,x 43,x 44,x 45,x 46,x 47,x 48,x 49,x 50,x 51,x 52,x 53,x 54,x 55,x 56,x 57,x 58,x 59,x 60,x 61,x 62,x 63,x 64,x 65,x 66,x 67,x 68,x 69,x 70,x 71,x 72,x 73,x 74,x 75,x 76,x 77,x 78,x 79,x 80,x 81,x 82,x 83,x 84,x 85,x 86,x 87,x 88,x 89,x 90,x 91,x 92,x 93,x 94,x 95,x 96,x 97,x 98,x 99,x 100,x 101,x 102,x 103,x 104,x 105,x 106,x 107,x 108,x 109,x 110,x 111,x 112,x 113,x 114,x 115,x 116,x 117,x 118,x 119,x 120,x 121,x 122,x 123,x 124,x 125,x 126,x 127,x 128,x 129,x 130,x 131,x 132,x 133,x 134,x 135,x 136,x 137,x 138,x 139,x 140,x 141,x 142,x 143,x 144,x 145,x 146,x 147,x 148,x 149,x 150,x 151,x 152,x 153,x 154,x 155,x 156,x 157,x 158,x 159,x 160,x 161,x 162,x 163,x 164,x 165,x 166,x 167,x 168,x 169,x 170,x 171,x 172,x 173,x 174,x 175,x 176,x 177,x 178,x 179,x 180,x 181,x 182,x 183,x 184,x 185,x 186,x 187,x 188,x 189,x 190,x 191,x 192,x 193,x 194,x 195,x 196,x 197,x 198,x 199,x 200,x 201,x 202,x 203,x 204,x 205,x 206,x 207,x 208,x 209,x 210,x 211,x 212,x 213,x 214,x 215,x 216,x 217,x 218,x 219,x 220,x 221,x 222,x 223,x 224,x 225,x 226,x 227,x 228,x 229,x 230,x 231,x 232,x 233,x 234,x 235,x 236,x 237,x 238,x 239,x 240,x 241,x 242,x 243,x 244,x 245,x 246,x 247,x 248,x 249,x 250,x 251,x 252,x 253,x 254,x 255,x 256,x 257,x 258,x 259,x 260,x 261,x 262,x 263,x 264,x 265,x 266,x 267,x 268,x 269,x 270,x 271,x 272,x 273,x 274,x 275,x 276,x 277,x 278,x 279,x 280],[]⟩ w):Code.wp Try.prog c Q ⟨Tm,[]⟩ w:=by
 obtain⟨x,h2,h3⟩:=lit_list Tm;rw[hs]at h2 h3;have e0:x 0=v0:=Option.some.inj ((h2 0 (by decide)).symm.trans h0);have e1:x 1=v1:=Option.some.inj ((h2 1 (by decide)).symm.trans h1);have e4:x 4=v4:=Option.some.inj ((h2 4 (by decide)).symm.trans h4);have e5:x 5=v5:=Option.some.inj ((h2 5 (by decide)).symm.trans h5);have e6:x 6=v6:=Option.some.inj ((h2 6 (by decide)).symm.trans h6);have hT:Tm=((List.range 281).map x).toArray:=by rw[←h3]
 have hl:((List.range 281).map x).toArray=#[x 0,x 1,x 2,x 3,x 4,x 5,x 6,x 7,x 8,x 9,x 10,x 11,x 12,x 13,x 14,x 15,x 16,x 17,x 18,x 19,x 20,x 21,x 22,x 23,x 24,x 25,x 26,x 27,x 28,x 29,x 30,x 31,x 32,x 33,x 34,x 35,x 36,x 37,x 38,x 39,x 40,x 41,x 42,x 43,x 44,x 45,x 46,x 47,x 48,x 49,x 50,x 51,x 52,x 53,x 54,x 55,x 56,x 57,x 58,x 59,x 60,x 61,x 62,x 63,x 64,x 65,x 66,x 67,x 68,x 69,x 70,x 71,x 72,x 73,x 74,x 75,x 76,x 77,x 78,x 79,x 80,x 81,x 82,x 83,x 84,x 85,x 86,x 87,x 88,x 89,x 90,x 91,x 92,x 93,x 94,x 95,x 96,x 97,x 98,x 99,x 100,x 101,x 102,x 103,x 104,x 105,x 106,x 107,x 108,x 109,x 110,x 111,x 112,x 113,x 114,x 115,x 116,x 117,x 118,x 119,x 120,x 121,x 122,x 123,x 124,x 125,x 126,x 127,x 128,x 129,x 130,x 131,x 132,x 133,x 134,x 135,x 136,x 137,x 138,x 139,x 140,x 141,x 142,x 143,x 144,x 145,x 146,x 147,x 148,x 149,x 150,x 151,x 152,x 153,x 154,x 155,x 156,x 157,x 158,x 159,x 160,x 161,x 162,x 163,x 164,x 165,x 166,x 167,x 168,x 169,x 170,x 171,x 172,x 173,x 174,x 175,x 176,x 177,x 178,x 179,x 180,x 181,x 182,x 183,x 184,x 185,x 186,x 187,x 188,x 189,x 190,x 191,x 192,x 193,x 194,x 195,x 196,x 197,x 198,x 199,x 200,x 201,x 202,x 203,x 204,x 205,x 206,x 207,x 208,x 209,x 210,x 211,x 212,x 213,x 214,x 215,x 216,x 217,x 218,x 219,x 220,x 221,x 222,x 223,x 224,x 225,x 226,x 227,x 228,x 229,x 230,x 231,x 232,x 233,x 234,x 235,x 236,x 237,x 238,x 239,x 240,x 241,x 242,x 243,x 244,x 245,x 246,x 247,x 248,x 249,x 250,x 251,x 252,x 253,x 254,x 255,x 256,x 257,x 258,x 259,x 260,x 261,x 262,x 263,x 264,x 265,x 266,x 267,x 268,x 269,x 270,x 271,x 272,x 273,x 274,x 275,x 276,x 277,x 278,x 279,x 280]:=by kernel_rfl
 rw[hl]at hT;subst hT;subst e0 e1 e4 e5 e6;exact hq x
theorem zq28{i:Nat}{ops:List OpX}{kk oa ob oc:Int}{Post:Ending->World->Prop}(h:RefRep mb B n opv C T cv tv av sv w)(hi:i<n)(hn:n<=64)(hops:OpsB B w (opv i) ops)(hlen:ops.length<=65536)(hfit:FitT ops (T i))(hok:OkT C.length ops (T i))(hpc:(T i).pc≠0)(hop:ops[(T i).at']?=some (⟨kk,oa,ob,oc⟩:OpX))(hC0:0<C.length)(hC1:C.length<=64)
 (hq:∀(g Ct gc Cc N at0 pc0 L H:Nat)(w3:World)(x:Nat->Value),cv=.slice (some ⟨gc,0,none⟩) C.length Cc->tv=.slice (some ⟨g,0,none⟩) n Ct->
  RowKit.Hid (RefRep mb B n opv C (upd' T i {T i with pc:=pc0+2}) (.slice (some ⟨gc,0,none⟩) N Cc) (.slice (some ⟨g,0,none⟩) n Ct) av sv w3/\KeepB B w w3/\w3.heap[H]?=some (.cells #[.int .i64 kk,.int .i64 oa,.int .i64 ob,.int .i64 oc] 46))->
  RowKit.Hid (RefRep mb B n opv C T (.slice (some ⟨gc,0,none⟩) N Cc) (.slice (some ⟨g,0,none⟩) n Ct) av sv w/\i<n/\n<=64/\ops.length<=65536/\FitT ops (T i)/\OkT N ops (T i)/\0<N/\N<=64/\C.length=N)->
  RowKit.Hid (ops[at0]?=some (⟨kk,oa,ob,oc⟩:OpX)/\(T i).at'=at0/\(T i).pc=pc0+1/\ops.length=L/\at0<L/\B<=w.heap.size)->
  RowKit.Hid (w.heap.size=H/\mb<H/\g<H/\gc<H)->B<=g->B<=gc->mb≠g->(pc0:Int)<=200->
  w3.cell? ⟨mb,1,none⟩=some (.slice (some ⟨g,0,none⟩) n Ct)->w3.cell? ⟨mb,0,none⟩=some (.slice (some ⟨gc,0,none⟩) N Cc)->w3.cell? ⟨H,0,none⟩=some (.int .i64 kk)->w3.cell? ⟨H,1,none⟩=some (.int .i64 oa)->w3.cell? ⟨H,2,none⟩=some (.int .i64 ob)->w3.cell? ⟨H,3,none⟩=some (.int .i64 oc)->
  Code.wp Try.prog (hdC (stpT 4)) (Exit.then (Code.wp Try.prog (stpT 5) (bodyPost Try.prog Try.f40 Post)) (bodyPost Try.prog Try.f40 Post)) ⟨#[.pointer (some ⟨mb,0,none⟩),.int .i64 i,x 2,x 3,.pointer (some ⟨H,0,none⟩),.int .i64 N,.int .i64 pc0,x 7,x 8,x 9,x 10,x 11,x 12,x 13,x 14,x 15,x 16,x 17,x 18,x 19,x 20,x 21,x 22,x 23,x 24,x 25,x 26,x 27,x 28,x 29,x 30,x 31,x 32,x 33,x 34,x 35,x 36,x 37,x 38,x 39,x 40,x 41,x 42,x 43,x 44,x 45,x 46,x 47,x 48,x 49,x 50,x 51,x 52,x 53,x 54,x 55,x 56,x 57,x 58,x 59,x 60,x 61,x 62,x 63,x 64,x 65,x 66,x 67,x 68,x 69,x 70,x 71,x 72,x 73,x 74,x 75,x 76,x 77,x 78,x 79,x 80,x 81,x 82,x 83,x 84,x 85,x 86,x 87,x 88,x 89,x 90,x 91,x 92,x 93,x 94,x 95,x 96,x 97,x 98,x 99,x 100,x 101,x 102,x 103,x 104,x 105,x 106,x 107,x 108,x 109,x 110,x 111,x 112,x 113,x 114,x 115,x 116,x 117,x 118,x 119,x 120,x 121,x 122,x 123,x 124,x 125,x 126,x 127,x 128,x 129,x 130,x 131,x 132,x 133,x 134,x 135,x 136,x 137,x 138,x 139,x 140,x 141,x 142,x 143,x 144,x 145,x 146,x 147,x 148,x 149,x 150,x 151,x 152,x 153,x 154,x 155,x 156,x 157,x 158,x 159,x 160,x 161,x 162,x 163,x 164,x 165,x 166,x 167,x 168,x 169,x 170,x 171,x 172,x 173,x 174,x 175,x 176,x 177,x 178,x 179,x 180,x 181,x 182,x 183,x 184,x 185,x 186,x 187,x 188,x 189,x 190,x 191,x 192,x 193,x 194,x 195,x 196,x 197,x 198,x 199,x 200,x 201,x 202,x 203,x 204,x 205,x 206,x 207,x 208,x 209,x 210,x 211,x 212,x 213,x 214,x 215,x 216,x 217,x 218,x 219,x 220,x 221,x 222,x 223,x 224,x 225,x 226,x 227,x 228,x 229,x 230,x 231,x 232,x 233,x 234,x 235,x 236,x 237,x 238,x 239,x 240,x 241,x 242,x 243,x 244,x 245,x 246,x 247,x 248,x 249,x 250,x 251,x 252,x 253,x 254,x 255,x 256,x 257,x 258,x 259,x 260,x 261,x 262,x 263,x 264,x 265,x 266,x 267,x 268,x 269,x 270,x 271,x 272,x 273,x 274,x 275,x 276,x 277,x 278,x 279,x 280],[]⟩ w3):
 Calls Try.prog 40 #[.pointer (some ⟨mb,0,none⟩),.int .i64 i] w Post:=by
 have HQ:=Lib.hid hq;clear hq;obtain⟨g,Ct,rfl,hgB⟩:=h.thr (by omega);obtain⟨gc,Cc,rfl,hcB⟩:=h.str hC0;obtain⟨N,hN⟩:∃N,C.length=N:=⟨_,rfl⟩;have hmg:=h.mach_ne;obtain⟨sp,cap,hopv,hrd⟩:=hops;obtain⟨at0,hat0⟩:∃p,(T i).at'=p:=⟨_,rfl⟩;obtain⟨pc0,hpc0⟩:∃p,(T i).pc=p+1:=⟨(T i).pc - 1,by omega⟩;obtain⟨L,hL⟩:∃p,ops.length=p:=⟨_,rfl⟩;rw[hat0]at hop;obtain⟨go,off,rfl,hgo,c0',c1',c2',c3'⟩:=hrd at0 _ hop;have c0:w.cell? ⟨go,off+at0*4,none⟩=some (.int .i64 kk):=c0';have c1:w.cell? ⟨go,off+at0*4+1,none⟩=some (.int .i64 oa):=c1';have c2:w.cell? ⟨go,off+at0*4+2,none⟩=some (.int .i64 ob):=c2';have c3:w.cell? ⟨go,off+at0*4+3,none⟩=some (.int .i64 oc):=c3';clear c0' c1' c2' c3';have hlt:at0<L:=by rw[←hL];exact(List.getElem?_eq_some_iff.1 hop).1
 have hB:B<=w.heap.size:=Nat.le_trans h.lo (Nat.le_of_lt (zq7 h.mach));obtain⟨H,hH⟩:∃H,w.heap.size=H:=⟨_,rfl⟩;have m:w.cell? ⟨mb,1,none⟩=some (.slice (some ⟨g,0,none⟩) n Ct):=(zq0 (off:=1) h.mach).trans rfl;have t3:w.cell? ⟨g,i*7+3,none⟩=some (.int .i64 (at0:Nat)):=by
  rw[(h.trow.cell hi (show 3<7 by decide)).1];simp only[thF];rw[hat0]
 have t0:w.cell? ⟨g,i*7,none⟩=some (.slice (some ⟨go,off,none⟩) L cap):=by
  have:=(h.trow.cell hi (show 0<7 by decide)).1;exact this.trans (by show some (opv i)=_;rw[hopv,hL])
 have hsame:∀W,W=w.drewN 1\/W=(w.drewN 1).alloc (.cells #[.int .i64 0,.int .i64 0,.int .i64 0,.int .i64 0] 46)->∀b,b<H->W.heap[b]?=w.heap[b]?:=λW hW b hb=>by
  rcases hW with rfl |rfl
  · rfl
  · rw[zq2,if_neg (by show b≠w.heap.size;omega)];rfl
 have hmH:mb<H:=by rw[←hH];exact zq7 h.mach
 have hgH:g<H:=by rw[←hH];exact(h.trow.lt (show(Value.slice (some ⟨g,0,none⟩) n Ct).ownBlock=some g from rfl)).2.2
 have hcH:gc<H:=by rw[←hH];exact(own_lt h.crow (show(Value.slice (some ⟨gc,0,none⟩) C.length Cc).ownBlock=some gc from rfl)).2.2
 have hfacts:∀W,W=w.drewN 1\/W=(w.drewN 1).alloc (.cells #[.int .i64 0,.int .i64 0,.int .i64 0,.int .i64 0] 46)->W.cell? ⟨mb,1,none⟩=some (.slice (some ⟨g,0,none⟩) n Ct)/\W.cell? ⟨g,i*7+3,none⟩=some (.int .i64 (at0:Nat))/\W.cell? ⟨g,i*7,none⟩=some (.slice (some ⟨go,off,none⟩) L cap)/\W.cell? ⟨go,off+at0*4,none⟩=some (.int .i64 kk)/\W.cell? ⟨go,off+at0*4+1,none⟩=some (.int .i64 oa)/\W.cell? ⟨go,off+at0*4+2,none⟩=some (.int .i64 ob)/\W.cell? ⟨go,off+at0*4+3,none⟩=some (.int .i64 oc):=λW hW=>
  ⟨(zqd (hsame W hW mb hmH)).trans m,(zqd (hsame W hW g hgH)).trans t3,(zqd (hsame W hW g hgH)).trans t0,(zqd (hsame W hW go (by omega))).trans c0,(zqd (hsame W hW go (by omega))).trans c1,(zqd (hsame W hW go (by omega))).trans c2,(zqd (hsame W hW go (by omega))).trans c3⟩
 have hi0:(0:Int)<=(i:Int):=by omega
 have hin:(i:Int)<(n:Int):=by omega
 have ha0:(0:Int)<=(at0:Int):=by omega
 have hal:(at0:Int)<(L:Int):=by omega
 rw[hN]at hok hC0 hC1 h;have HF:=Lib.hid hfacts;have HH:=Lib.hid (And.intro hH (And.intro hmH (And.intro hgH hcH)));have HALL:=Lib.hid (And.intro h (And.intro hi (And.intro hn (And.intro hlen (And.intro hfit (And.intro hok (And.intro hC0 (And.intro hC1 hN))))))));have HOP:=Lib.hid (And.intro hop (And.intro hat0 (And.intro hpc0 (And.intro hL (And.intro hlt hB)))));clear hfacts hsame hmH hgH hcH hH h hi hn hlen hfit hok hpc hC0 hC1 hN hop hat0 hpc0 hL hlt hB m t3 t0 c0 c1 c2 c3 hrd hopv
 go_enter Try.func40,Try.ntmps40
 go_wp2_with (fail)
 refine zq3r (k:=19) (s:=18) (W0:=w.drewN 1) (W1:=(w.drewN 1).alloc (.cells #[.int .i64 0,.int .i64 0,.int .i64 0,.int .i64 0] 46)) (by kernel_rfl) (by kernel_rfl) (by kernel_rfl) (by kernel_rfl) (by decide)
  [.pointer (some ⟨mb,0,none⟩),.pointer (some ⟨mb,0,none⟩),.pointer (some ⟨mb,1,none⟩),.slice (some ⟨g,0,none⟩) n Ct,.int .i64 i,.pointer (some ⟨g,i*7,none⟩),.pointer (some ⟨g,i*7,none⟩),.slice (some ⟨go,off,none⟩) L cap,.pointer (some ⟨mb,0,none⟩),.pointer (some ⟨mb,0,none⟩),.pointer (some ⟨mb,1,none⟩),.slice (some ⟨g,0,none⟩) n Ct,.int .i64 i,.pointer (some ⟨g,i*7,none⟩),.pointer (some ⟨g,i*7+3,none⟩),.int .i64 at0,.pointer (some ⟨go,off+at0*4,none⟩),.agg #[.int .i64 kk,.int .i64 oa,.int .i64 ob,.int .i64 oc],.pointer (some ⟨H,0,none⟩)] rfl rfl ?_ ?_ ?_
 · intro jj oo hjj h18 hoo W hWW;obtain⟨d1,d2,d3,d4,d5,d6,d7⟩:=HF.out W hWW;clear hWW;simp only[putv,dstOf,al_gl,al_g0,al_g1,al_ob,al_g2,List.set_cons_succ,List.set_cons_zero];obtain rfl |rfl |rfl |rfl |rfl |rfl |rfl |rfl |rfl |rfl |rfl |rfl |rfl |rfl |rfl |rfl |rfl |rfl:jj=0\/jj=1\/jj=2\/jj=3\/jj=4\/jj=5\/jj=6\/jj=7\/jj=8\/jj=9\/jj=10\/jj=11\/jj=12\/jj=13\/jj=14\/jj=15\/jj=16\/jj=17:=by omega
   all_goals(simp only[al_gl,al_g0,al_g1,al_oi]at hoo;subst hoo;refine .inl ?_)
   all_goals(simp only[execOp,Act.eval,al_gd,al_gl,al_g0,al_g1,al_od])
   all_goals(try go_simp)
 · intro oo hoo;simp only[putv,dstOf,al_gl,al_g0,al_g1,al_ob,al_g2,List.set_cons_succ,List.set_cons_zero];simp only[al_gl,al_g0,al_g1,al_oi]at hoo;subst hoo;refine .inl ?_;have hs0:(w.drewN 1).heap.size=H:=HH.out.1;generalize w.drewN 1=W0 at hs0 ⊢;simp only[execOp,Act.eval,al_gd,al_gl,al_g0,al_g1,al_od];go_simp
 simp only[putv,dstOf,al_gl,al_g0,al_g1,al_ob,al_g2,List.set_cons_succ,List.set_cons_zero];refine zq19 (i:=19) (by kernel_rfl) ?_;simp only[wpOp,al_gl,al_g0,al_g1];rw[if_pos (by rfl)];refine .inl ?_;have hnb:((w.drewN 1).alloc (.cells #[.int .i64 0,.int .i64 0,.int .i64 0,.int .i64 0] 46)).heap[H]?=some (.cells #[.int .i64 0,.int .i64 0,.int .i64 0,.int .i64 0] 46):=by rw[←HH.out.1];exact zqr (w.drewN 1) _
 have hold:∀b o,w.heap[b]?=some o->((w.drewN 1).alloc (.cells #[.int .i64 0,.int .i64 0,.int .i64 0,.int .i64 0] 46)).heap[b]?=some o:=λb o hb=>zqe (w:=w.drewN 1) hb;have hsz:w.heap.size<=((w.drewN 1).alloc (.cells #[.int .i64 0,.int .i64 0,.int .i64 0,.int .i64 0] 46)).heap.size:=by rw[zq5];exact Nat.le_succ _
 have a0:=(zq0 (off:=0) hnb).trans rfl;have a1:=(zq0 (off:=1) hnb).trans rfl;have a2:=(zq0 (off:=2) hnb).trans rfl;have a3:=(zq0 (off:=3) hnb).trans rfl;have fz:∀off,((w.drewN 1).alloc (.cells #[.int .i64 0,.int .i64 0,.int .i64 0,.int .i64 0] 46)).frozen? ⟨H,off,none⟩=false:=λoff=>zq3 hnb;have f0:=fz 0;have f1:=fz 1;have f2:=fz 2;have f3:=fz 3;have HNB:=Lib.hid (And.intro hnb (And.intro hold hsz));clear hnb fz hold hsz;generalize (w.drewN 1).alloc (.cells #[.int .i64 0,.int .i64 0,.int .i64 0,.int .i64 0] 46)=w1 at a0 a1 a2 a3 f0 f1 f2 f3 HNB ⊢;go_simp;refine zq18 (by kernel_rfl) ?_;clear a0 a1 a2 a3 f0 f1 f2 f3 HF;obtain⟨w2,hw2⟩:∃w2,((((w1.setCell ⟨H,0,none⟩ (.int .i64 kk)).setCell ⟨H,1,none⟩ (.int .i64 oa)).setCell ⟨H,2,none⟩ (.int .i64 ob)).setCell ⟨H,3,none⟩ (.int .i64 oc))=w2:=⟨_,rfl⟩;have hb2:w2.heap[H]?=some (.cells #[.int .i64 kk,.int .i64 oa,.int .i64 ob,.int .i64 oc] 46):=by
  rw[←hw2];exact(zqb _ _ 3 _ (zqb _ _ 2 _ (zqb _ _ 1 _ (zqb w1 H 0 _ HNB.out.1)))).trans rfl
 have ho2:∀b o,w.heap[b]?=some o->w2.heap[b]?=some o:=λb o hb=>by
  have hbH:b≠H:=by have:=zq7 hb;have:=HH.out.1;omega
  rw[←hw2,zq4 _ _ _ _ hbH,zq4 _ _ _ _ hbH,zq4 _ _ _ _ hbH,zq4 _ _ _ _ hbH];exact HNB.out.2.1 b o hb
 have hs2:w.heap.size<=w2.heap.size:=by
  rw[←hw2,zqq,zqq,zqq,zqq];exact HNB.out.2.2
 rw[hw2];clear hw2 HNB;have hR2:=HALL.out.1.of ho2;have hk2:KeepB B w w2:=⟨hs2,λb hb=>by
  have hlt:b<w.heap.size:=Nat.lt_of_lt_of_le hb HOP.out.2.2.2.2.2;have e:w.heap[b]?=some w.heap[b]:=Array.getElem?_eq_getElem hlt;rw[e];exact ho2 b _ e,λb c T2 f hb _=>ho2 b _ hb⟩
 have hpb:(pc0:Int)<=200:=by
  obtain⟨op',e,hg,o1,o2,o4,o5⟩:=HALL.out.2.2.2.2.2.1.stand (by rw[HOP.out.2.2.1];exact Nat.succ_ne_zero _);rw[HOP.out.2.1,HOP.out.1]at e;obtain rfl:=Option.some.inj e;rw[HOP.out.2.2.1]at o1 o2 o4 o5;have hN:=HALL.out.2.2.2.2.2.2.2.1;unfold goodK at hg;simp only[Bool.and_eq_true,decide_eq_true_eq]at hg;obtain rfl |rfl |rfl |rfl |rfl:kk=1\/kk=2\/kk=3\/kk=4\/kk=5:=by omega
  all_goals first|(have:=o1 rfl;omega)|(have:=o2 (.inl rfl);omega)|(have:=o2 (.inr rfl);omega)|(have:=o4 rfl;omega)|(have:=(o5 rfl).1;omega)
 have hp0:(0:Int)<=(pc0:Int):=by omega
 have m:w2.cell? ⟨mb,1,none⟩=some (.slice (some ⟨g,0,none⟩) n Ct):=(zq0 (off:=1) hR2.mach).trans rfl;have mc:w2.cell? ⟨mb,0,none⟩=some (.slice (some ⟨gc,0,none⟩) N Cc):=(zq0 (off:=0) hR2.mach).trans rfl;have t4:w2.cell? ⟨g,i*7+4,none⟩=some (.int .i64 ((pc0:Int)+1)):=by
  rw[(hR2.trow.cell HALL.out.2.1 (show 4<7 by decide)).1];simp only[thF];rw[HOP.out.2.2.1];rfl
 have f4:=(hR2.trow.cell HALL.out.2.1 (show 4<7 by decide)).2;have HR:=Lib.hid (And.intro hR2 (And.intro hk2 hb2));clear hR2 hk2 hb2 ho2 hs2
 go_upto_region 4 with(fail)
 have hR3:=HR.out.1.setN (j:=4) HALL.out.2.1 (.inr (.inl rfl)) (x:=.int .i64 ((pc0:Int)+2)) (t':={T i with pc:=pc0+2}) (by simp only[thF,upd'_same];rfl) rfl rfl (.inr rfl) (.inl rfl) (.inr rfl);have hk3:=HR.out.2.1.trans (KeepB.set hgB HR.out.1.inT (i*7+4) (.int .i64 ((pc0:Int)+2)));have hb3:(w2.setCell ⟨g,i*7+4,none⟩ (.int .i64 ((pc0:Int)+2))).heap[H]?=some (.cells #[.int .i64 kk,.int .i64 oa,.int .i64 ob,.int .i64 oc] 46):=(zq4 _ _ _ _ (show H≠g by have:=HH.out.2.2.1;omega)).trans HR.out.2.2;have H3:=Lib.hid (And.intro hR3 (And.intro hk3 hb3));clear m mc t4 f4 HR hR3 hk3 hb3;generalize w2.setCell ⟨g,i*7+4,none⟩ (.int .i64 ((pc0:Int)+2))=w3 at H3 ⊢;have m:w3.cell? ⟨mb,1,none⟩=some (.slice (some ⟨g,0,none⟩) n Ct):=(zq0 (off:=1) H3.out.1.mach).trans rfl;have mc:w3.cell? ⟨mb,0,none⟩=some (.slice (some ⟨gc,0,none⟩) N Cc):=(zq0 (off:=0) H3.out.1.mach).trans rfl;have b0:w3.cell? ⟨H,0,none⟩=some (.int .i64 kk):=(zq0 (off:=0) H3.out.2.2).trans rfl;have b1:w3.cell? ⟨H,1,none⟩=some (.int .i64 oa):=(zq0 (off:=1) H3.out.2.2).trans rfl;have b2:w3.cell? ⟨H,2,none⟩=some (.int .i64 ob):=(zq0 (off:=2) H3.out.2.2).trans rfl;have b3:w3.cell? ⟨H,3,none⟩=some (.int .i64 oc):=(zq0 (off:=3) H3.out.2.2).trans rfl;refine step_back (by assumption) (step_fin rfl rfl rfl rfl rfl rfl λx=>HQ.out g Ct gc Cc N at0 pc0 L H w3 x (by rw[HALL.out.2.2.2.2.2.2.2.2]) rfl H3 HALL HOP HH hgB hcB hmg hpb m mc b0 b1 b2 b3)
end
section
variable {mb B n:Nat} {opv:Nat->Value} {C:List Int} {T:Nat->RT} {cv tv:Value} {av sv:Nat->Value} {w w':World}
theorem step1_lone{i:Nat}{ops:List OpX}{oa ob oc:Int}(h:RefRep mb B n opv C T cv tv av sv w)(hi:i<n)(hn:n<=64)(hops:OpsB B w (opv i) ops)(hlen:ops.length<=65536)(hfit:FitT ops (T i))(hok:OkT C.length ops (T i))(hpc:(T i).pc≠0)(hop:ops[(T i).at']?=some (⟨1,oa,ob,oc⟩:OpX))(hC0:0<C.length)(hC1:C.length<=64):
 Calls Try.prog 40 #[.pointer (some ⟨mb,0,none⟩),.int .i64 i] w λe w'=>e=.returned (.tuple #[])/\zq1a mb B n opv (stepR C.length (⟨1,oa,ob,oc⟩:OpX) C (T i)).1 (upd' T i (stepR C.length (⟨1,oa,ob,oc⟩:OpX) C (T i)).2) cv tv w w':=by
 refine zq28 h hi hn hops hlen hfit hok hpc hop hC0 hC1 ?_;clear h hops hlen hfit hok hpc hop hC0 hC1;intro g Ct gc Cc N at0 pc0 L H w3 x hcv htv H3 HALL HOP HH hgB hcB hmg hpb m mc b0 b1 b2 b3;subst hcv htv;rw[HALL.out.2.2.2.2.2.2.2.2];have hp0:(0:Int)<=(pc0:Int):=by omega
 have hi0:(0:Int)<=(i:Int):=by omega
 have hin:(i:Int)<(n:Int):=by omega
 clear hi hn;obtain⟨u,hu⟩:∃c,hdC (stpT 4)=c:=⟨_,rfl⟩;obtain⟨u5,hu5⟩:∃c,stpT 5=c:=⟨_,rfl⟩;have eu:=hu;have eu5:=hu5;rw[hu,hu5];simp only[stpT,tlN,hdC,Try.f40,al_od]at eu eu5;subst eu eu5;clear hu hu5;obtain⟨s,hs⟩:∃s,idx oa N=s:=⟨_,rfl⟩;have hsN:s<N:=by rw[←hs];exact idx_lt oa HALL.out.2.2.2.2.2.2.1
 obtain⟨cs,fs⟩:=H3.out.1.strCell' HALL.out.2.2.2.2.2.2.2.2 hsN;obtain⟨y,hy⟩:∃y,C.getD s 0=y:=⟨_,rfl⟩;rw[hy]at cs;have hsN':(s:Int)<(N:Int):=by omega
 have hs0:(0:Int)<=(s:Int):=by omega
 have hAt:=at_lone' oa HALL.out.2.2.2.2.2.2.1 HALL.out.2.2.2.2.2.2.2.1 w3;rw[hs]at hAt;have HS:=Lib.hid (And.intro hs (And.intro hsN hy));have HAT:=Lib.hid hAt;clear hs hsN hy hAt
 go_wp2_with (fail)
 refine Calls.mono HAT.out ?_;rintro e wq ⟨rfl,rfl⟩
 go_wp2_with (fail)
 refine zq23 (k:=16) (C:=λw'=>∃n,w'=wq.drewN n) (by kernel_rfl) (by kernel_rfl) (by kernel_rfl) (by kernel_rfl) (by kernel_rfl) ⟨1,rfl⟩ ?_;simp only[List.take_succ_cons,List.take_zero]
 repeat (quiet_step (fail))
 refine wpQuiet_nil ?_;rintro w4 ⟨nq,rfl⟩;refine zq19 (i:=16) (by kernel_rfl) ?_;simp only[wpOp,al_gl,al_g0,al_g1];rw[if_pos (by rfl)];refine .inl ?_;have fs':(wq.drewN nq).frozen? ⟨gc,s,none⟩=false:=fs;have cs':(wq.drewN nq).cell? ⟨gc,s,none⟩=some (.int .i64 y):=cs;clear cs fs m mc b0 b1 b2 b3;go_simp;refine zq18 (by kernel_rfl) ?_;have hR4:=(H3.out.1.drew nq).setC' HALL.out.2.2.2.2.2.2.2.2 HS.out.2.1 (IntKind.i64.wrap (y+ob));have hk4:=H3.out.2.1.trans ((KeepB.drew nq).trans (KeepB.set (w:=wq.drewN nq) hcB (H3.out.1.drew nq).inC s (.int .i64 (IntKind.i64.wrap (y+ob)))));obtain⟨v,hv⟩:∃v,IntKind.i64.wrap (y+ob)=v:=⟨_,rfl⟩;rw[hv]at hR4 hk4;clear cs' fs'
 try rw[hv]
 have H4:=Lib.hid (And.intro hR4 (And.intro hk4 hv));clear hR4 hk4 hv;generalize (wq.drewN nq).setCell ⟨gc,s,none⟩ (.int .i64 v)=w4 at H4 ⊢;have m:w4.cell? ⟨mb,1,none⟩=some (.slice (some ⟨g,0,none⟩) n Ct):=(zq0 (off:=1) H4.out.1.mach).trans rfl;have mc:w4.cell? ⟨mb,0,none⟩=some (.slice (some ⟨gc,0,none⟩) N Cc):=(zq0 (off:=0) H4.out.1.mach).trans rfl;have cs:w4.cell? ⟨gc,s,none⟩=some (.int .i64 v):=by
  rw[(H4.out.1.strCell' (by rw[List.length_set];exact HALL.out.2.2.2.2.2.2.2.2) HS.out.2.1).1,getD_set_eq (by rw[HALL.out.2.2.2.2.2.2.2.2];exact HS.out.2.1)]
 have he:=zq2t (i:=i) (a:=⟨true,v,[]⟩) H4.out.1 HALL.out.2.1 HALL.out.2.2.1 (by rw[upd'_same];show(T i).ans.length<=_;rw[HALL.out.2.2.2.2.1.ans];have:=HALL.out.2.2.2.2.1.le;have:=HALL.out.2.2.2.1;omega) (by rw[upd'_same];show(T i).at'<=_;have:=HALL.out.2.2.2.2.1.le;have:=HALL.out.2.2.2.1;omega);have hst:stepR N (⟨1,oa,ob,oc⟩:OpX) C (T i)=(C.set s v,endR {T i with pc:=pc0+2} ⟨true,v,[]⟩):=by
  unfold stepR;rw[if_pos rfl];show(C.set (idx oa N) (IntKind.i64.wrap (C.getD (idx oa N) 0+ob)),endR {T i with pc:=(T i).pc - 1+2} ⟨true,IntKind.i64.wrap (C.getD (idx oa N) 0+ob),[]⟩)=_;rw[HS.out.1,HS.out.2.2,H4.out.2.2,HOP.out.2.2.1];rfl
 have HE:=Lib.hid he;have HE2:=Lib.hid (And.intro H4.out.2.1 hst);clear he hst
 go_wp2_with (fail)
 refine Calls.mono HE.out ?_;rintro e w5 ⟨rfl,⟨av',hR5⟩,hk5⟩
 go_wp2_with (fail)
 go_end0
 refine⟨rfl,⟨av',sv,?_⟩,HE2.out.1.trans hk5⟩;rw[HE2.out.2];rw[zq17,upd'_same]at hR5;exact hR5
end
end Go.Proofs
