/- YtnjpcibdaanpeaaSCalls11: part 15 of the proof (the texts behind it, in order). -/
import Derived.Test.YtnjpcibdaanpeaaR14
set_option linter.unusedSimpArgs false
set_option linter.unusedVariables false
set_option linter.unusedSectionVars false
set_option linter.unnecessarySimpa false
set_option maxHeartbeats 8000000
set_option maxRecDepth 100000
namespace Go.Proofs
open Go Go.Conc Go.RowKit Go.Car
open Go.ConcN (upd upd_ne upd_same)
theorem lit134{T:Array Value}(h:T.size=134):∃x:Nat->Value,T=#[x 0,x 1,x 2,x 3,x 4,x 5,x 6,x 7,x 8,x 9,x 10,x 11,x 12,x 13,x 14,x 15,x 16,x 17,x 18,x 19,x 20,x 21,x 22,x 23,x 24,x 25,x 26,x 27,x 28,x 29,x 30,x 31,x 32,x 33,x 34,x 35,x 36,x 37,x 38,x 39,x 40,x 41,x 42,x 43,x 44,x 45,x 46,x 47,x 48,x 49,x 50,x 51,x 52,x 53,x 54,x 55,x 56,x 57,x 58,x 59,x 60,x 61,x 62,x 63,x 64,x 65,x 66,x 67,x 68,x 69,x 70,x 71,x 72,x 73,x 74,x 75,x 76,x 77,x 78,x 79,x 80,x 81,x 82,x 83,x 84,x 85,x 86,x 87,x 88,x 89,x 90,x 91,x 92,x 93,x 94,x 95,x 96,x 97,x 98,x 99,x 100,x 101,x 102,x 103,x 104,x 105,x 106,x 107,x 108,x 109,x 110,x 111,x 112,x 113,x 114,x 115,x 116,x 117,x 118,x 119,x 120,x 121,x 122,x 123,x 124,x 125,x 126,x 127,x 128,x 129,x 130,x 131,x 132,x 133]/\∀i,i<134->T[i]?=some (x i):=by
 obtain⟨x,h1,h2⟩:=lit_list T;rw[h]at h1 h2;refine⟨x,?_,h1⟩;have h3:T=((List.range 134).map x).toArray:=by rw[←h2]
 exact h3.trans (show((List.range 134).map x).toArray=#[x 0,x 1,x 2,x 3,x 4,x 5,x 6,x 7,x 8,x 9,x 10,x 11,x 12,x 13,x 14,x 15,x 16,x 17,x 18,x 19,x 20,x 21,x 22,x 23,x 24,x 25,x 26,x 27,x 28,x 29,x 30,x 31,x 32,x 33,x 34,x 35,x 36,x 37,x 38,x 39,x 40,x 41,x 42,x 43,x 44,x 45,x 46,x 47,x 48,x 49,x 50,x 51,x 52,x 53,x 54,x 55,x 56,x 57,x 58,x 59,x 60,x 61,x 62,x 63,x 64,x 65,x 66,x 67,x 68,x 69,x 70,x 71,x 72,x 73,x 74,x 75,x 76,x 77,x 78,x 79,x 80,x 81,x 82,x 83,x 84,x 85,x 86,x 87,x 88,x 89,x 90,x 91,x 92,x 93,x 94,x 95,x 96,x 97,x 98,x 99,x 100,x 101,x 102,x 103,x 104,x 105,x 106,x 107,x 108,x 109,x 110,x 111,x 112,x 113,x 114,x 115,x 116,x 117,x 118,x 119,x 120,x 121,x 122,x 123,x 124,x 125,x 126,x 127,x 128,x 129,x 130,x 131,x 132,x 133]by kernel_rfl)
structure ScE(W:World)(K N:Nat)(l:List Int)(c:Nat)(w:World):Prop where
 be:Beyond W w
 one:StrRep (K+1) (some K) N l w
 two:StrRep (K+3) (some (K+2)) N l w
 cnt:w.heap[K+4]?=some (.cells #[.int .i64 (wrap64 (c:Int))] 39)
 lo:W.heap.size<=K/\K+5<=w.heap.size
theorem ScE.beyond {W w w':World}{K N c:Nat}{l:List Int}(h:ScE W K N l c w)(hb:Beyond w w'):ScE W K N l c w':=
 ⟨h.be.trans hb,(zq6 _ _ _).frame _ _ _ h.one λb hf=>hb.2 b ((zq6 _ _ _).lt _ _ _ h.one hf),(zq6 _ _ _).frame _ _ _ h.two λb hf=>hb.2 b ((zq6 _ _ _).lt _ _ _ h.two hf),hb.heap h.cnt,h.lo.1,Nat.le_trans h.lo.2 hb.1⟩
structure ScK(W:World)(Wb ab ao cA:Nat)(qv ov sv:Value)(ans:List Ans)(ord st:List Int):Prop where
 hd:W.heap[Wb]?=some (.cells #[.slice (some ⟨ab,ao,none⟩) 1 cA,ov,sv,.bool false] 31)
 row:W.cell? ⟨ab,ao,none⟩=some qv
 an:AnsAt W qv ans
 nol:∀a∈ans,a.l=[]
 ov:IntsAt W ov ord
 sv:IntsAt W sv st
theorem ans_two{w:World}{A:Ans}{x:Value}(hl:A.l=[])(hx:IntsAt w x []):AnsAt (w.alloc (.cells #[.bool A.ok,.int .i64 A.n,x,.bool A.ok,.int .i64 A.n,x] 43)) (.slice (some ⟨w.heap.size,0,none⟩) 2 2) [A,A]:=by
 have hn:=zqr w (.cells #[.bool A.ok,.int .i64 A.n,x,.bool A.ok,.int .i64 A.n,x] 43);refine⟨_,_,rfl,λ_=>⟨w.heap.size,0,rfl,λi a hi=>?_⟩⟩;have hi1:=(List.getElem?_eq_some_iff.1 hi).1;simp only[List.length_cons,List.length_nil]at hi1;have ha:a=A:=by
  obtain rfl |rfl:i=0\/i=1:=by omega
  all_goals(simp at hi;exact hi.symm)
 subst ha;rw[hl];have hx':=hx.beyond (Beyond.alloc w (.cells #[.bool a.ok,.int .i64 a.n,x,.bool a.ok,.int .i64 a.n,x] 43));obtain rfl |rfl:i=0\/i=1:=by omega
 · exact⟨(zq0 hn).trans rfl,(zq0 hn).trans rfl,x,(zq0 hn).trans rfl,hx'⟩
 · exact⟨(zq0 hn).trans rfl,(zq0 hn).trans rfl,x,(zq0 hn).trans rfl,hx'⟩
structure ScQ(w0:World)(spec:List Value)(A:Ans)(L:Nat->Bool)(vals:List Value)(w:World):Prop where
 be:Beyond w0 w
 v:∀i,i<20->i≠2->i≠17->L i=true->vals[i]?=spec[i]?
 p:L 2=true->∃x,vals[2]?=some x/\AnsAt w x [A,A]
 q:L 17=true->∃x,vals[17]?=some x/\AnsAt w x [A,A]
section
variable {w0 w w':World} {spec:List Value} {A:Ans} {L:Nat->Bool} {vals:List Value}
theorem ScQ.read (h:ScQ w0 spec A L vals w)(hb:Beyond w w')(hlen:vals.length=20){i:Nat}{v:Value}(hi:i<20)(h2:i≠2)(h17:i≠17)(hv:spec[i]?=some v):ScQ w0 spec A (upd L i true) (vals.set i v) w':=by
 refine⟨h.be.trans hb,λj hj j8 j17 hl=>?_,λhl=>?_,λhl=>?_⟩
 · by_cases e:j=i
   · subst e;rw[hv];simp[hlen,hj]
   · rw[upd_ne _ _ e]at hl;rw[List.getElem?_set_ne (λx=>e x.symm)];exact h.v j hj j8 j17 hl
 · rw[upd_ne _ _ (Ne.symm h2)]at hl;obtain⟨v,h1,h2'⟩:=h.p hl;exact⟨v,by rw[List.getElem?_set_ne h2];exact h1,h2'.beyond hb⟩
 · rw[upd_ne _ _ (Ne.symm h17)]at hl;obtain⟨v,h1,h2'⟩:=h.q hl;exact⟨v,by rw[List.getElem?_set_ne h17];exact h1,h2'.beyond hb⟩
theorem ScQ.new2 (h:ScQ w0 spec A L vals w)(hlen:vals.length=20){x:Value}(hl:A.l=[])(hx:IntsAt w x []):ScQ w0 spec A (upd L 2 true) (vals.set 2 (.slice (some ⟨w.heap.size,0,none⟩) 2 2)) (w.alloc (.cells #[.bool A.ok,.int .i64 A.n,x,.bool A.ok,.int .i64 A.n,x] 43)):=by
 have hb:=Beyond.alloc w (.cells #[.bool A.ok,.int .i64 A.n,x,.bool A.ok,.int .i64 A.n,x] 43);refine⟨h.be.trans hb,λj hj j8 j17 hl=>?_,λ_=>⟨_,by simp[hlen],ans_two hl hx⟩,λhl=>?_⟩
 · rw[upd_ne _ _ j8]at hl;rw[List.getElem?_set_ne (λx=>j8 x.symm)];exact h.v j hj j8 j17 hl
 · rw[upd_ne _ _ (by decide)]at hl;obtain⟨v,h1,h2'⟩:=h.q hl;exact⟨v,by rw[List.getElem?_set_ne (by decide)];exact h1,h2'.beyond hb⟩
theorem ScQ.new17 (h:ScQ w0 spec A L vals w)(hlen:vals.length=20){x:Value}(hl:A.l=[])(hx:IntsAt w x []):ScQ w0 spec A (upd L 17 true) (vals.set 17 (.slice (some ⟨w.heap.size,0,none⟩) 2 2)) (w.alloc (.cells #[.bool A.ok,.int .i64 A.n,x,.bool A.ok,.int .i64 A.n,x] 43)):=by
 have hb:=Beyond.alloc w (.cells #[.bool A.ok,.int .i64 A.n,x,.bool A.ok,.int .i64 A.n,x] 43);refine⟨h.be.trans hb,λj hj j8 j17 hl=>?_,λhl=>?_,λ_=>⟨_,by simp[hlen],ans_two hl hx⟩⟩
 · rw[upd_ne _ _ j17]at hl;rw[List.getElem?_set_ne (λx=>j17 x.symm)];exact h.v j hj j8 j17 hl
 · rw[upd_ne _ _ (by decide)]at hl;obtain⟨v,h1,h2'⟩:=h.p hl;exact⟨v,by rw[List.getElem?_set_ne (by decide)];exact h1,h2'.beyond hb⟩
end
noncomputable def scQR:Array Oper:=match cqL (cqR scI)with
 |.region _ o _=>o
 |_=>#[]
theorem scQ0:cqR scI=.seq (.region 12 scQR true) (.cond (.tmp 91) (cqR (cqR scI) |> λ_=>match cqR (cqR scI)with|.cond _ a _=>a|_=>.skip) .skip):=by kernel_rfl
theorem sc_cmp{Fin:Machine->Trace->Prop}(hFin:Back Try.prog Fin){s:Nat}{w0:World}{Wb ab ao cA qb qo la Cq j b11 b12:Nat}{A:Ans}{lv ov sv:Value}{T₀:Array Value}(h6:T₀[6]?=some (.pointer (some ⟨Wb,0,none⟩)))(h10:T₀[10]?=some (.int .i64 j))(h11:T₀[11]?=some (.pointer (some ⟨b11,0,none⟩)))(h12:T₀[12]?=some (.pointer (some ⟨b12,0,none⟩)))
 (HO:RowKit.Hid ((j<la/\la<=4611686018427387904)/\w0.heap[b11]?=some (.cells #[.bool A.ok,.int .i64 A.n,.slice none 0 0] 43)/\w0.heap[b12]?=some (.cells #[.bool A.ok,.int .i64 A.n,.slice none 0 0] 43)/\w0.heap[Wb]?=some (.cells #[.slice (some ⟨ab,ao,none⟩) 1 cA,ov,sv,.bool false] 31)/\w0.cell? ⟨ab,ao,none⟩=some (.slice (some ⟨qb,qo,none⟩) la Cq)/\(w0.cell? ⟨qb,qo+j*3,none⟩=some (.bool A.ok)/\w0.cell? ⟨qb,qo+j*3+1,none⟩=some (.int .i64 A.n)/\w0.cell? ⟨qb,qo+j*3+2,none⟩=some lv)/\IntsAt w0 lv []/\A.l=[])):
 ∀(L:Nat->Bool)(vals:List Value)(T:Array Value)(w:World)(i:Nat)(o:Oper),vals.length=scQR.size->ScQ w0 [.agg #[.bool A.ok,.int .i64 A.n,.slice none 0 0],.agg #[.bool A.ok,.int .i64 A.n,.slice none 0 0],undef,.pointer (some ⟨Wb,0,none⟩),.slice (some ⟨ab,ao,none⟩) 1 cA,.pointer (some ⟨ab,ao,none⟩),.slice (some ⟨qb,qo,none⟩) la Cq,.int .i64 j,.pointer (some ⟨qb,qo+j*3,none⟩),.agg #[.bool A.ok,.int .i64 A.n,lv],.pointer (some ⟨Wb,0,none⟩),.slice (some ⟨ab,ao,none⟩) 1 cA,.pointer (some ⟨ab,ao,none⟩),.slice (some ⟨qb,qo,none⟩) la Cq,.int .i64 j,.pointer (some ⟨qb,qo+j*3,none⟩),.agg #[.bool A.ok,.int .i64 A.n,lv],undef,.bool true,.bool false] A L vals w->L i=false->scQR[i]?=some o->(∀e∈o.after,Region.binds .any e=true->L e.on=true)->
  (∀j t,dstOf scQR j=some t->L j=true->T[t]?=vals[j]?)->(∀t,noD scQR t=true->T[t]?=T₀[t]?)->
  DrawS Try.prog (J0 Try.prog Fin) s T o w (λv w'=>ScQ w0 [.agg #[.bool A.ok,.int .i64 A.n,.slice none 0 0],.agg #[.bool A.ok,.int .i64 A.n,.slice none 0 0],undef,.pointer (some ⟨Wb,0,none⟩),.slice (some ⟨ab,ao,none⟩) 1 cA,.pointer (some ⟨ab,ao,none⟩),.slice (some ⟨qb,qo,none⟩) la Cq,.int .i64 j,.pointer (some ⟨qb,qo+j*3,none⟩),.agg #[.bool A.ok,.int .i64 A.n,lv],.pointer (some ⟨Wb,0,none⟩),.slice (some ⟨ab,ao,none⟩) 1 cA,.pointer (some ⟨ab,ao,none⟩),.slice (some ⟨qb,qo,none⟩) la Cq,.int .i64 j,.pointer (some ⟨qb,qo+j*3,none⟩),.agg #[.bool A.ok,.int .i64 A.n,lv],undef,.bool true,.bool false] A (upd L i true) (vals.set i v) w') (λw'=>ScQ w0 [.agg #[.bool A.ok,.int .i64 A.n,.slice none 0 0],.agg #[.bool A.ok,.int .i64 A.n,.slice none 0 0],undef,.pointer (some ⟨Wb,0,none⟩),.slice (some ⟨ab,ao,none⟩) 1 cA,.pointer (some ⟨ab,ao,none⟩),.slice (some ⟨qb,qo,none⟩) la Cq,.int .i64 j,.pointer (some ⟨qb,qo+j*3,none⟩),.agg #[.bool A.ok,.int .i64 A.n,lv],.pointer (some ⟨Wb,0,none⟩),.slice (some ⟨ab,ao,none⟩) 1 cA,.pointer (some ⟨ab,ao,none⟩),.slice (some ⟨qb,qo,none⟩) la Cq,.int .i64 j,.pointer (some ⟨qb,qo+j*3,none⟩),.agg #[.bool A.ok,.int .i64 A.n,lv],undef,.bool true,.bool false] A (upd L i true) vals w'):=by
 intro L vals T w i o hlen h hLi ho hdep hT hT0;have hi:i<20:=(Array.getElem?_eq_some_iff.1 ho).1;replace hlen:vals.length=20:=hlen;obtain⟨u3,hu3⟩:∃c,scQR=c:=⟨_,rfl⟩;have eu3:=hu3;simp only[scQR,scI,scB,cqL,cqR,cqB,cqO,scT,headC,tailN,Try.f4,al_od]at eu3;rw[hu3,←eu3]at ho;clear eu3 hu3;have hlt':(j:Int)<(la:Int):=by have:=HO.out.1.1;omega
 have hj0:(0:Int)<=j:=by omega
 obtain rfl |rfl |rfl |rfl |rfl |rfl |rfl |rfl |rfl |rfl |rfl |rfl |rfl |rfl |rfl |rfl |rfl |rfl |rfl |rfl:i=0\/i=1\/i=2\/i=3\/i=4\/i=5\/i=6\/i=7\/i=8\/i=9\/i=10\/i=11\/i=12\/i=13\/i=14\/i=15\/i=16\/i=17\/i=18\/i=19:=by omega
 ·
  simp only[al_gl,al_g0,al_g1,al_oi]at ho;subst ho;have e11:T[11]?=some (.pointer (some ⟨b11,0,none⟩)):=(hT0 11 (by kernel_rfl)).trans h11;have m:=h.be.heap HO.out.2.1;have c0:w.cell? ⟨b11,0,none⟩=some (.bool A.ok):=(zq0 (off:=0) m).trans rfl;have c1:w.cell? ⟨b11,1,none⟩=some (.int .i64 A.n):=(zq0 (off:=1) m).trans rfl;have c2:w.cell? ⟨b11,2,none⟩=some (.slice none 0 0):=(zq0 (off:=2) m).trans rfl;refine .inl ⟨rfl,.inl ⟨72,.agg #[.bool A.ok,.int .i64 A.n,.slice none 0 0],w,rfl,?_,ScQ.read h (Beyond.refl w) hlen (i:=0) (by decide) (by decide) (by decide) rfl⟩⟩;simp only[execOp,Act.eval,al_gd,e11,al_od];go_simp
 ·
  simp only[al_gl,al_g0,al_g1,al_oi]at ho;subst ho;have e12:T[12]?=some (.pointer (some ⟨b12,0,none⟩)):=(hT0 12 (by kernel_rfl)).trans h12;have m:=h.be.heap HO.out.2.2.1;have c0:w.cell? ⟨b12,0,none⟩=some (.bool A.ok):=(zq0 (off:=0) m).trans rfl;have c1:w.cell? ⟨b12,1,none⟩=some (.int .i64 A.n):=(zq0 (off:=1) m).trans rfl;have c2:w.cell? ⟨b12,2,none⟩=some (.slice none 0 0):=(zq0 (off:=2) m).trans rfl;refine .inl ⟨rfl,.inl ⟨73,.agg #[.bool A.ok,.int .i64 A.n,.slice none 0 0],w,rfl,?_,ScQ.read h (Beyond.refl w) hlen (i:=1) (by decide) (by decide) (by decide) rfl⟩⟩;simp only[execOp,Act.eval,al_gd,e12,al_od];go_simp
 ·
  simp only[al_gl,al_g0,al_g1,al_oi]at ho;subst ho;have e72:T[72]?=some (.agg #[.bool A.ok,.int .i64 A.n,.slice none 0 0]):=(hT 0 72 rfl (hdep ⟨0,.data⟩ (by simp) rfl)).trans (h.v 0 (by decide) (by decide) (by decide) (hdep ⟨0,.data⟩ (by simp) rfl));have e73:T[73]?=some (.agg #[.bool A.ok,.int .i64 A.n,.slice none 0 0]):=(hT 1 73 rfl (hdep ⟨1,.data⟩ (by simp) rfl)).trans (h.v 1 (by decide) (by decide) (by decide) (hdep ⟨1,.data⟩ (by simp) rfl));refine .inl ⟨rfl,.inl ⟨74,_,_,rfl,?_,ScQ.new2 h hlen (x:=.slice none 0 0) HO.out.2.2.2.2.2.2.2 ⟨none,0,rfl,λe=>absurd rfl e⟩⟩⟩;simp only[execOp,Act.eval,al_gd,e72,e73,al_od,ansPV];go_simp
 ·
  simp only[al_gl,al_g0,al_g1,al_oi]at ho;subst ho;have e6:T[6]?=some (.pointer (some ⟨Wb,0,none⟩)):=(hT0 6 (by kernel_rfl)).trans h6;refine .inl ⟨rfl,.inl ⟨75,.pointer (some ⟨Wb,0,none⟩),w,rfl,?_,ScQ.read h (Beyond.refl w) hlen (i:=3) (by decide) (by decide) (by decide) rfl⟩⟩;simp only[execOp,Act.eval,al_gd,e6,al_od];go_simp
 ·
  simp only[al_gl,al_g0,al_g1,al_oi]at ho;subst ho;have e75:T[75]?=some (.pointer (some ⟨Wb,0,none⟩)):=(hT 3 75 rfl (hdep ⟨3,.data⟩ (by simp) rfl)).trans (h.v 3 (by decide) (by decide) (by decide) (hdep ⟨3,.data⟩ (by simp) rfl));have c0:w.cell? ⟨Wb,0,none⟩=some (.slice (some ⟨ab,ao,none⟩) 1 cA):=(zq0 (off:=0) (h.be.heap HO.out.2.2.2.1)).trans rfl;refine .inl ⟨rfl,.inl ⟨76,.slice (some ⟨ab,ao,none⟩) 1 cA,w,rfl,?_,ScQ.read h (Beyond.refl w) hlen (i:=4) (by decide) (by decide) (by decide) rfl⟩⟩;simp only[execOp,Act.eval,al_gd,e75,al_od];go_simp
 ·
  simp only[al_gl,al_g0,al_g1,al_oi]at ho;subst ho;have e76:T[76]?=some (.slice (some ⟨ab,ao,none⟩) 1 cA):=(hT 4 76 rfl (hdep ⟨4,.data⟩ (by simp) rfl)).trans (h.v 4 (by decide) (by decide) (by decide) (hdep ⟨4,.data⟩ (by simp) rfl));refine .inl ⟨rfl,.inl ⟨77,.pointer (some ⟨ab,ao,none⟩),w,rfl,?_,ScQ.read h (Beyond.refl w) hlen (i:=5) (by decide) (by decide) (by decide) rfl⟩⟩;simp only[execOp,Act.eval,al_gd,e76,al_od];go_simp
 ·
  simp only[al_gl,al_g0,al_g1,al_oi]at ho;subst ho;have e77:T[77]?=some (.pointer (some ⟨ab,ao,none⟩)):=(hT 5 77 rfl (hdep ⟨5,.data⟩ (by simp) rfl)).trans (h.v 5 (by decide) (by decide) (by decide) (hdep ⟨5,.data⟩ (by simp) rfl));have c0:w.cell? ⟨ab,ao,none⟩=some (.slice (some ⟨qb,qo,none⟩) la Cq):=h.be.cell HO.out.2.2.2.2.1;refine .inl ⟨rfl,.inl ⟨78,.slice (some ⟨qb,qo,none⟩) la Cq,w,rfl,?_,ScQ.read h (Beyond.refl w) hlen (i:=6) (by decide) (by decide) (by decide) rfl⟩⟩;simp only[execOp,Act.eval,al_gd,e77,al_od];go_simp
 ·
  simp only[al_gl,al_g0,al_g1,al_oi]at ho;subst ho;have e10:T[10]?=some (.int .i64 j):=(hT0 10 (by kernel_rfl)).trans h10;refine .inl ⟨rfl,.inl ⟨79,.int .i64 j,w,rfl,?_,ScQ.read h (Beyond.refl w) hlen (i:=7) (by decide) (by decide) (by decide) rfl⟩⟩;simp only[execOp,Act.eval,al_gd,e10,al_od];go_simp
 ·
  simp only[al_gl,al_g0,al_g1,al_oi]at ho;subst ho;have e78:T[78]?=some (.slice (some ⟨qb,qo,none⟩) la Cq):=(hT 6 78 rfl (hdep ⟨6,.data⟩ (by simp) rfl)).trans (h.v 6 (by decide) (by decide) (by decide) (hdep ⟨6,.data⟩ (by simp) rfl));have e79:T[79]?=some (.int .i64 j):=(hT 7 79 rfl (hdep ⟨7,.data⟩ (by simp) rfl)).trans (h.v 7 (by decide) (by decide) (by decide) (hdep ⟨7,.data⟩ (by simp) rfl));refine .inl ⟨rfl,.inl ⟨80,.pointer (some ⟨qb,qo+j*3,none⟩),w,rfl,?_,ScQ.read h (Beyond.refl w) hlen (i:=8) (by decide) (by decide) (by decide) rfl⟩⟩;simp only[execOp,Act.eval,al_gd,e78,e79,al_od];go_simp
 ·
  simp only[al_gl,al_g0,al_g1,al_oi]at ho;subst ho;have e80:T[80]?=some (.pointer (some ⟨qb,qo+j*3,none⟩)):=(hT 8 80 rfl (hdep ⟨8,.data⟩ (by simp) rfl)).trans (h.v 8 (by decide) (by decide) (by decide) (hdep ⟨8,.data⟩ (by simp) rfl));obtain⟨g0,g1,g2⟩:=HO.out.2.2.2.2.2.1;have c0:=h.be.cell g0;have c1:=h.be.cell g1;have c2:=h.be.cell g2;refine .inl ⟨rfl,.inl ⟨81,.agg #[.bool A.ok,.int .i64 A.n,lv],w,rfl,?_,ScQ.read h (Beyond.refl w) hlen (i:=9) (by decide) (by decide) (by decide) rfl⟩⟩;simp only[execOp,Act.eval,al_gd,e80,al_od];go_simp
 ·
  simp only[al_gl,al_g0,al_g1,al_oi]at ho;subst ho;have e6:T[6]?=some (.pointer (some ⟨Wb,0,none⟩)):=(hT0 6 (by kernel_rfl)).trans h6;refine .inl ⟨rfl,.inl ⟨82,.pointer (some ⟨Wb,0,none⟩),w,rfl,?_,ScQ.read h (Beyond.refl w) hlen (i:=10) (by decide) (by decide) (by decide) rfl⟩⟩;simp only[execOp,Act.eval,al_gd,e6,al_od];go_simp
 ·
  simp only[al_gl,al_g0,al_g1,al_oi]at ho;subst ho;have e82:T[82]?=some (.pointer (some ⟨Wb,0,none⟩)):=(hT 10 82 rfl (hdep ⟨10,.data⟩ (by simp) rfl)).trans (h.v 10 (by decide) (by decide) (by decide) (hdep ⟨10,.data⟩ (by simp) rfl));have c0:w.cell? ⟨Wb,0,none⟩=some (.slice (some ⟨ab,ao,none⟩) 1 cA):=(zq0 (off:=0) (h.be.heap HO.out.2.2.2.1)).trans rfl;refine .inl ⟨rfl,.inl ⟨83,.slice (some ⟨ab,ao,none⟩) 1 cA,w,rfl,?_,ScQ.read h (Beyond.refl w) hlen (i:=11) (by decide) (by decide) (by decide) rfl⟩⟩;simp only[execOp,Act.eval,al_gd,e82,al_od];go_simp
 ·
  simp only[al_gl,al_g0,al_g1,al_oi]at ho;subst ho;have e83:T[83]?=some (.slice (some ⟨ab,ao,none⟩) 1 cA):=(hT 11 83 rfl (hdep ⟨11,.data⟩ (by simp) rfl)).trans (h.v 11 (by decide) (by decide) (by decide) (hdep ⟨11,.data⟩ (by simp) rfl));refine .inl ⟨rfl,.inl ⟨84,.pointer (some ⟨ab,ao,none⟩),w,rfl,?_,ScQ.read h (Beyond.refl w) hlen (i:=12) (by decide) (by decide) (by decide) rfl⟩⟩;simp only[execOp,Act.eval,al_gd,e83,al_od];go_simp
 ·
  simp only[al_gl,al_g0,al_g1,al_oi]at ho;subst ho;have e84:T[84]?=some (.pointer (some ⟨ab,ao,none⟩)):=(hT 12 84 rfl (hdep ⟨12,.data⟩ (by simp) rfl)).trans (h.v 12 (by decide) (by decide) (by decide) (hdep ⟨12,.data⟩ (by simp) rfl));have c0:w.cell? ⟨ab,ao,none⟩=some (.slice (some ⟨qb,qo,none⟩) la Cq):=h.be.cell HO.out.2.2.2.2.1;refine .inl ⟨rfl,.inl ⟨85,.slice (some ⟨qb,qo,none⟩) la Cq,w,rfl,?_,ScQ.read h (Beyond.refl w) hlen (i:=13) (by decide) (by decide) (by decide) rfl⟩⟩;simp only[execOp,Act.eval,al_gd,e84,al_od];go_simp
 ·
  simp only[al_gl,al_g0,al_g1,al_oi]at ho;subst ho;have e10:T[10]?=some (.int .i64 j):=(hT0 10 (by kernel_rfl)).trans h10;refine .inl ⟨rfl,.inl ⟨86,.int .i64 j,w,rfl,?_,ScQ.read h (Beyond.refl w) hlen (i:=14) (by decide) (by decide) (by decide) rfl⟩⟩;simp only[execOp,Act.eval,al_gd,e10,al_od];go_simp
 ·
  simp only[al_gl,al_g0,al_g1,al_oi]at ho;subst ho;have e85:T[85]?=some (.slice (some ⟨qb,qo,none⟩) la Cq):=(hT 13 85 rfl (hdep ⟨13,.data⟩ (by simp) rfl)).trans (h.v 13 (by decide) (by decide) (by decide) (hdep ⟨13,.data⟩ (by simp) rfl));have e86:T[86]?=some (.int .i64 j):=(hT 14 86 rfl (hdep ⟨14,.data⟩ (by simp) rfl)).trans (h.v 14 (by decide) (by decide) (by decide) (hdep ⟨14,.data⟩ (by simp) rfl));refine .inl ⟨rfl,.inl ⟨87,.pointer (some ⟨qb,qo+j*3,none⟩),w,rfl,?_,ScQ.read h (Beyond.refl w) hlen (i:=15) (by decide) (by decide) (by decide) rfl⟩⟩;simp only[execOp,Act.eval,al_gd,e85,e86,al_od];go_simp
 ·
  simp only[al_gl,al_g0,al_g1,al_oi]at ho;subst ho;have e87:T[87]?=some (.pointer (some ⟨qb,qo+j*3,none⟩)):=(hT 15 87 rfl (hdep ⟨15,.data⟩ (by simp) rfl)).trans (h.v 15 (by decide) (by decide) (by decide) (hdep ⟨15,.data⟩ (by simp) rfl));obtain⟨g0,g1,g2⟩:=HO.out.2.2.2.2.2.1;have c0:=h.be.cell g0;have c1:=h.be.cell g1;have c2:=h.be.cell g2;refine .inl ⟨rfl,.inl ⟨88,.agg #[.bool A.ok,.int .i64 A.n,lv],w,rfl,?_,ScQ.read h (Beyond.refl w) hlen (i:=16) (by decide) (by decide) (by decide) rfl⟩⟩;simp only[execOp,Act.eval,al_gd,e87,al_od];go_simp
 ·
  simp only[al_gl,al_g0,al_g1,al_oi]at ho;subst ho;have e81:T[81]?=some (.agg #[.bool A.ok,.int .i64 A.n,lv]):=(hT 9 81 rfl (hdep ⟨9,.data⟩ (by simp) rfl)).trans (h.v 9 (by decide) (by decide) (by decide) (hdep ⟨9,.data⟩ (by simp) rfl));have e88:T[88]?=some (.agg #[.bool A.ok,.int .i64 A.n,lv]):=(hT 16 88 rfl (hdep ⟨16,.data⟩ (by simp) rfl)).trans (h.v 16 (by decide) (by decide) (by decide) (hdep ⟨16,.data⟩ (by simp) rfl));refine .inl ⟨rfl,.inl ⟨89,_,_,rfl,?_,ScQ.new17 h hlen (x:=lv) HO.out.2.2.2.2.2.2.2 (HO.out.2.2.2.2.2.2.1.beyond h.be)⟩⟩;simp only[execOp,Act.eval,al_gd,e81,e88,al_od,ansPV];go_simp
 ·
  simp only[al_gl,al_g0,al_g1,al_oi]at ho;subst ho;obtain⟨va,ha1,ha⟩:=h.p (hdep ⟨2,.data⟩ (by simp) rfl);obtain⟨vb,hb1,hb⟩:=h.q (hdep ⟨17,.data⟩ (by simp) rfl);have e74:T[74]?=some va:=(hT 2 74 rfl (hdep ⟨2,.data⟩ (by simp) rfl)).trans ha1;have e89:T[89]?=some vb:=(hT 17 89 rfl (hdep ⟨17,.data⟩ (by simp) rfl)).trans hb1;refine .inr ⟨90,15,#[va,vb],rfl,λw=>?_,λw=>?_,?_⟩
  · simp only[execOp,Act.eval,al_gd,e74,e89,al_od,List.map_toArray,List.map_cons,List.map_nil];simp[go_sem,execOp,Act.eval,resolve,Deferred.ofValue,invoke,callFunc,Try.func15,Try.f15,e74,e89]
  · simp only[execOp,Act.eval,al_gd,e74,e89,al_od,List.map_toArray,List.map_cons,List.map_nil];simp[go_sem,execOp,Act.eval,resolve,Deferred.ofValue,invoke,callFunc,Try.func15,Try.f15,e74,e89]
  · intro cl cs' h1 _;refine zq2f (j0_JS hFin) (zq1n hFin) zql Try.func15 rfl (by kernel_rfl) (R:=λv w'=>v=.bool true/\Beyond w w') (λv w' τ d h=>⟨h.1,h.2.trans (Beyond.re _ _ _)⟩) (λτ d=>?_) ?_
    · have hAl:=HO.out.2.2.2.2.2.2.2;refine Calls.mono (answers_same (l:=[A,A]) (by simp) (λa ha=>by simp only[List.mem_cons,List.not_mem_nil,or_false,or_self]at ha;subst ha;rw[hAl];decide) (ha.beyond (Beyond.re w τ d)) (hb.beyond (Beyond.re w τ d))) ?_;rintro e w' ⟨rfl,n,rfl⟩;exact⟨_,rfl,rfl,(Beyond.re w τ d).trans (Beyond.drew _ _)⟩
    · rintro v w' ⟨rfl,hb2⟩;exact h1 s _ w' ⟨rfl,_,rfl,ScQ.read h hb2 hlen (i:=18) (by decide) (by decide) (by decide) rfl⟩
 ·
  simp only[al_gl,al_g0,al_g1,al_oi]at ho;subst ho;have e90:T[90]?=some (.bool true):=(hT 18 90 rfl (hdep ⟨18,.data⟩ (by simp) rfl)).trans (h.v 18 (by decide) (by decide) (by decide) (hdep ⟨18,.data⟩ (by simp) rfl));refine .inl ⟨rfl,.inl ⟨91,.bool false,w,rfl,?_,ScQ.read h (Beyond.refl w) hlen (i:=19) (by decide) (by decide) (by decide) rfl⟩⟩;simp only[execOp,Act.eval,al_gd,e90,al_od];go_simp
theorem sc_r9{W w:World}{K Wb n N ab ao cA la Cq j c:Nat}{st:Int}{l:List Int}{opsv ov sv:Value}{qp:Option Addr}{T:Array Value}(hF:ScF K Wb n st opsv T)(h10:T[10]?=some (.int .i64 j))(hE:ScE W K N l c w)
 (hd:W.heap[Wb]?=some (.cells #[.slice (some ⟨ab,ao,none⟩) 1 cA,ov,sv,.bool false] 31)) (hr:W.cell? ⟨ab,ao,none⟩=some (.slice qp la Cq)) (τ:Nat->Question->Nat) (d:Nat):
 Code.wp Try.prog (cqL (cqL scB)) (ends (λa' w'=>ScF K Wb n st opsv a'.tmps/\a'.tmps[10]?=some (.int .i64 j)/\a'.tmps[55]?=some (.bool (decide (j<la)))/\ScE W K N l c w') (λ_ _=>False)) ⟨T,[]⟩ (re w τ d):=by
 have HE:=Lib.hid (hE.beyond (Beyond.re w τ d));have c0:(re w τ d).cell? ⟨Wb,0,none⟩=some (.slice (some ⟨ab,ao,none⟩) 1 cA):=(zq0 (off:=0) (HE.out.be.heap hd)).trans rfl;have c1:(re w τ d).cell? ⟨ab,ao,none⟩=some (.slice qp la Cq):=HE.out.be.cell hr;clear hE hd hr;obtain⟨u,hu⟩:∃c,cqL (cqL scB)=c:=⟨_,rfl⟩;have eu:=hu;rw[hu];simp only[scI,scB,cqL,cqR,cqB,cqO,scT,headC,tailN,Try.f4,al_od]at eu;subst eu;clear hu;obtain⟨x,hT,hx⟩:=lit134 hF.sz;have e0:x 0=.int .i64 st:=Option.some.inj ((hx 0 (by decide)).symm.trans hF.t0);have e1:x 1=opsv:=Option.some.inj ((hx 1 (by decide)).symm.trans hF.t1);have e4:x 4=.bool false:=Option.some.inj ((hx 4 (by decide)).symm.trans hF.t4);have e5:x 5=.int .i64 n:=Option.some.inj ((hx 5 (by decide)).symm.trans hF.t5);have e6:x 6=.pointer (some ⟨Wb,0,none⟩):=Option.some.inj ((hx 6 (by decide)).symm.trans hF.t6);have e7:x 7=.pointer (some ⟨K+1,0,none⟩):=Option.some.inj ((hx 7 (by decide)).symm.trans hF.t7);have e8:x 8=.pointer (some ⟨K+3,0,none⟩):=Option.some.inj ((hx 8 (by decide)).symm.trans hF.t8);have e9:x 9=.pointer (some ⟨K+4,0,none⟩):=Option.some.inj ((hx 9 (by decide)).symm.trans hF.t9);have e10:x 10=.int .i64 j:=Option.some.inj ((hx 10 (by decide)).symm.trans h10);subst hT;simp only[e0,e1,e4,e5,e6,e7,e8,e9,e10];clear e0 e1 e4 e5 e6 e7 e8 e9 e10 hx hF h10;go_wp2;exact⟨rfl,⟨rfl,rfl,rfl,rfl,rfl,rfl,rfl,rfl,rfl⟩,rfl,rfl,HE.out⟩
theorem sc_r10{W w:World}{K Wb n N j c:Nat}{st:Int}{l:List Int}{opsv:Value}{T:Array Value}(hF:ScF K Wb n st opsv T)(h10:T[10]?=some (.int .i64 j))(hj:j<4611686018427387904)(hE:ScE W K N l c w)(τ:Nat->Question->Nat)(d:Nat):
 Code.wp Try.prog (cqR (cqR scB)) (ends (λa' w'=>ScF K Wb n st opsv a'.tmps/\a'.tmps[10]?=some (.int .i64 ((j+1:Nat):Int))/\ScE W K N l c w') (λ_ _=>False)) ⟨T,[]⟩ (re w τ d):=by
 have HE:=Lib.hid (hE.beyond (Beyond.re w τ d));have e1':IntKind.i64.wrap ((j:Int)+1)=((j+1:Nat):Int):=by rw[IntWalk.i64_in _ (by omega)];omega
 clear hE hj;obtain⟨u,hu⟩:∃c,cqR (cqR scB)=c:=⟨_,rfl⟩;have eu:=hu;rw[hu];simp only[scI,scB,cqL,cqR,cqB,cqO,scT,headC,tailN,Try.f4,al_od]at eu;subst eu;clear hu;obtain⟨x,hT,hx⟩:=lit134 hF.sz;have e0:x 0=.int .i64 st:=Option.some.inj ((hx 0 (by decide)).symm.trans hF.t0);have e1:x 1=opsv:=Option.some.inj ((hx 1 (by decide)).symm.trans hF.t1);have e4:x 4=.bool false:=Option.some.inj ((hx 4 (by decide)).symm.trans hF.t4);have e5:x 5=.int .i64 n:=Option.some.inj ((hx 5 (by decide)).symm.trans hF.t5);have e6:x 6=.pointer (some ⟨Wb,0,none⟩):=Option.some.inj ((hx 6 (by decide)).symm.trans hF.t6);have e7:x 7=.pointer (some ⟨K+1,0,none⟩):=Option.some.inj ((hx 7 (by decide)).symm.trans hF.t7);have e8:x 8=.pointer (some ⟨K+3,0,none⟩):=Option.some.inj ((hx 8 (by decide)).symm.trans hF.t8);have e9:x 9=.pointer (some ⟨K+4,0,none⟩):=Option.some.inj ((hx 9 (by decide)).symm.trans hF.t9);have e10:x 10=.int .i64 j:=Option.some.inj ((hx 10 (by decide)).symm.trans h10);subst hT;simp only[e0,e1,e4,e5,e6,e7,e8,e9,e10];clear e0 e1 e4 e5 e6 e7 e8 e9 e10 hx hF h10;go_wp2;exact⟨rfl,⟨rfl,rfl,rfl,rfl,rfl,rfl,rfl,rfl,rfl⟩,rfl,HE.out⟩
theorem zq2b{ops:Array Oper}{t:Tmp}(h:noD ops t=true)(vals:List Value)(T:Array Value):(putv ops vals 0 T)[t]?=T[t]?:=zq2g vals 0 T t λj _ _=>noD_iff h j
theorem ScF.putv {ops:Array Oper}{K Wb n:Nat}{st:Int}{opsv:Value}{T:Array Value}(h:ScF K Wb n st opsv T)(vals:List Value)(h0:noD ops 0=true)(h1:noD ops 1=true)(h4:noD ops 4=true)(h5:noD ops 5=true)(h6:noD ops 6=true)(h7:noD ops 7=true)(h8:noD ops 8=true)(h9:noD ops 9=true):ScF K Wb n st opsv (putv ops vals 0 T):=
 ⟨(putv_size _ _ _).trans h.sz,(zq2b h0 _ _).trans h.t0,(zq2b h1 _ _).trans h.t1,(zq2b h4 _ _).trans h.t4,(zq2b h5 _ _).trans h.t5,(zq2b h6 _ _).trans h.t6,(zq2b h7 _ _).trans h.t7,(zq2b h8 _ _).trans h.t8,(zq2b h9 _ _).trans h.t9⟩
def ScH(W:World)(K Wb n N:Nat)(st:Int)(opsv:Value)(ops:List OpX)(ans:List Ans)(stl:List Int)(nn j:Nat)(a:Act)(w:World):Prop:=
 a.defers=[]/\ScF K Wb n st opsv a.tmps/\a.tmps[10]?=some (.int .i64 j)/\∃l c,ScE W K N l c w/\seqL N (ops.drop j) l=stl/\seqA N (ops.drop j) l=ans.drop j/\c+seqN N (ops.drop j) l=nn
theorem scB0:scB=.seq (.seq (cqL (cqL scB)) (.cond (.tmp 55) .skip (.exit 0))) (.seq (.block 1 scI) (cqR (cqR scB))):=by kernel_rfl
theorem scI0:scI=.seq (cqL scI) (cqR scI):=by kernel_rfl
theorem sc_loop{Fin:Machine->Trace->Prop}(hFin:Back Try.prog Fin){s:Nat}{W:World}{K Wb n N ab ao cA nn:Nat}{st:Int}{opsv qv ov sv:Value}{ans:List Ans}{ord stl:List Int}{ops:List OpX}{a:Act}{w:World}(hK:ScK W Wb ab ao cA qv ov sv ans ord stl)(hlen:ans.length=ops.length)(hLo:ans.length<=65536)
 (hO:ops≠[]->∃g go Lo C,opsv=.slice (some ⟨g,go,none⟩) Lo C/\ops.length<=Lo/\Lo<=4611686018427387904/\∀(k:Nat)(c:OpX),ops[k]?=some c->∀j,j<4->W.cell? ⟨g,go+k*4+j,none⟩=c.cells[j]?)
 (hH:ScH W K Wb n N st opsv ops ans stl nn 0 a w):
 wpJ (J0 Try.prog Fin) (.block 0 (.loop scB)) (λs' e a' w'=>s'=s/\e=.normal/\ScH W K Wb n N st opsv ops ans stl nn ans.length a' w') s a w:=by
 have hJ:=j0_JS hFin;have hC:=zq1n hFin;have hJC:=hJ.jc;obtain⟨qp,Cq,rfl,hqa⟩:=hK.an;refine zq1y hJC (wpY_loop hJC (λs' a' w' m=>s'=s/\∃j,j+m=ans.length/\ScH W K Wb n N st opsv ops ans stl nn j a' w') ans.length ⟨rfl,0,by omega,hH⟩ ?_);rintro s1 ⟨T,ds⟩ w m ⟨hs1,j,hjm,hds,hF,h10,l,c,hE,hl,ha,hn⟩;obtain rfl:=hs1.symm;simp only at hds hF h10;subst hds;rw[scB0];refine zqn hJC (zqn hJC ?_);refine wpJ_lone hJ hC zql (by kernel_rfl) (λa' w'=>ScF K Wb n st opsv a'.tmps/\a'.tmps[10]?=some (.int .i64 j)/\a'.tmps[55]?=some (.bool (decide (j<ans.length)))/\ScE W K N l c w') (λ_ _=>False) (λa w τ d h=>⟨h.1,h.2.1,h.2.2.1,h.2.2.2.beyond (Beyond.re _ _ _)⟩) (λ_ _ _ _ h=>h) (sc_r9 hF h10 hE hK.hd hK.row) (λt w1 h9=>?_) (λ_ _ h=>h.elim);clear hF h10 hE hH;obtain⟨hF,h10,h55,hE⟩:=h9;simp only at hF h10 h55;show wpJ _ _ _ _ _ _;refine zq10 hJC (t:=decide (j<ans.length)) (by simp[Act.eval,al_gd,h55]) ?_
 by_cases hlt:j<ans.length
 · rw[if_pos (by simpa using hlt)];refine zq2q hJC ?_;show wpJ _ _ _ _ _ _;refine zqn hJC (zq1y hJC ?_);intro b k cs hb hk;have hjo:j<ops.length:=by omega
   obtain⟨g,go,Lo,C,rfl,hol,hol2,hcell⟩:=hO (λe=>by rw[e]at hjo;exact absurd hjo (Nat.not_lt_zero _));obtain⟨op,hop⟩:∃op,ops[j]?=some op:=⟨_,List.getElem?_eq_getElem hjo⟩;have hdr:ops.drop j=op::ops.drop (j+1):=by
    rw[List.drop_eq_getElem_cons hjo];rw[List.getElem?_eq_getElem hjo]at hop;rw[Option.some.inj hop]
   rw[hdr]at hl ha hn;have hadr:ans.drop j=doA N op l::seqA N (ops.drop (j+1)) (doL N op l):=ha.symm;have haj:ans[j]?=some (doA N op l):=by
    have:=congrArg (λx=>x[0]?) hadr;simpa using this
   have har:seqA N (ops.drop (j+1)) (doL N op l)=ans.drop (j+1):=by
    have:=congrArg List.tail hadr;simpa using this.symm
   have hal:(doA N op l).l=[]:=hK.nol _ (List.mem_of_getElem? haj);have HO:RowKit.Hid (j<Lo/\Lo<=4611686018427387904/\∀w',Beyond W w'->∀i x,op.cells[i]?=some x->w'.cell? ⟨g,go+j*4+i,none⟩=some x):=Lib.hid ⟨by omega,hol2,λw' hb i x hx=>hb.cell ((hcell j op hop i (by have:=(List.getElem?_eq_some_iff.1 hx).1;simpa[OpX.cells]using this)).trans hx)⟩;rw[scI0];refine hJ.ctl (s:=s) (λw=>stepG_seq) ?_;rw[scR0];refine at_drawsV hJ hb (by kernel_rfl) (by kernel_rfl) (by simp only[hF.sz];kernel_rfl) (ScW W K N (.slice (some ⟨g,go,none⟩) Lo C) (.pointer (some ⟨g,go+j*4,none⟩)) (j:Int) op.val (ansPV (doA N op l)) l (doL N op l) c (c+doN N op l) (doA N op l)) (λL v w τ d h=>h.re τ d) (List.replicate 18 undef) (by kernel_rfl) ⟨0,0,λi _ h=>(by cases h),⟨hE.be,hE.one,hE.two,hE.cnt,hE.lo,λh=>(by cases h),λh=>(by cases h),λh=>(by cases h),λh=>(by cases h),λh=>(by cases h)⟩⟩ (sc_draw hFin hF h10 HO) ?_;rintro L vals w2 hall hvl ⟨b11,b12,hv,hM⟩;replace hvl:vals.length=18:=hvl;have hall':∀i,i<18->L i=true:=hall;have d15:dstOf scR 15=some 12:=by kernel_rfl
   have d16:dstOf scR 16=none:=by kernel_rfl
   have d17:dstOf scR 17=none:=by kernel_rfl
   have h11:(putv scR vals 0 t)[11]?=some (.pointer (some ⟨b11,0,none⟩)):=putv_at vals 0 _ 14 _ 11 (hv 14 (by decide) (hall' 14 (by decide))) (by kernel_rfl) (by rw[hF.sz];decide) λm q1 q2 e=>by
    obtain rfl |rfl |rfl:m=15\/m=16\/m=17:=by omega
    · rw[d15]at e;cases e
    · rw[d16]at e;cases e
    · rw[d17]at e;cases e
   have h12:(putv scR vals 0 t)[12]?=some (.pointer (some ⟨b12,0,none⟩)):=putv_at vals 0 _ 15 _ 12 (hv 15 (by decide) (hall' 15 (by decide))) (by kernel_rfl) (by rw[hF.sz];decide) λm q1 q2 e=>by
    obtain rfl |rfl:m=16\/m=17:=by omega
    · rw[d16]at e;cases e
    · rw[d17]at e;cases e
   have hF1:=hF.putv vals (ops:=scR) (by kernel_rfl) (by kernel_rfl) (by kernel_rfl) (by kernel_rfl) (by kernel_rfl) (by kernel_rfl) (by kernel_rfl) (by kernel_rfl);have h10':(putv scR vals 0 t)[10]?=some (.int .i64 j):=(zq2b (by kernel_rfl) _ _).trans h10;generalize putv scR vals 0 t=t1 at h11 h12 hF1 h10' ⊢;have m11:=(hM.m11 (hall' 14 (by decide))).2;have m12:=(hM.m12 (hall' 15 (by decide))).2;rw[hall' 16 (by decide)]at m11;rw[hall' 17 (by decide)]at m12;have ho:=hM.one;have ht:=hM.two;have hc:=hM.cnt;rw[if_pos (hall' 5 (by decide))]at ho;rw[if_pos (hall' 13 (by decide))]at ht hc;have hE2:ScE W K N (doL N op l) (c+doN N op l) w2:=⟨hM.be,ho,ht,hc,hM.lo⟩;clear ho ht hc hv hall hall' hvl hM HO d15 d16 d17 hF h10 h55 hE;refine hJ.ctl (s:=s) (λw=>stepG_region_end) ?_;rw[scQ0];refine hJ.ctl (s:=s) (λw=>stepG_seq) ?_;have hlt0:0<ans.length:=by omega
   obtain⟨qb,qo,rfl,hqc⟩:=hqa (List.length_pos_iff.1 hlt0);obtain⟨c0,c1,lv,c2,hlv⟩:=hqc j _ haj;rw[hal]at hlv;have HO2:RowKit.Hid ((j<ans.length/\ans.length<=4611686018427387904)/\w2.heap[b11]?=some (.cells #[.bool (doA N op l).ok,.int .i64 (doA N op l).n,.slice none 0 0] 43)/\w2.heap[b12]?=some (.cells #[.bool (doA N op l).ok,.int .i64 (doA N op l).n,.slice none 0 0] 43)/\w2.heap[Wb]?=some (.cells #[.slice (some ⟨ab,ao,none⟩) 1 cA,ov,sv,.bool false] 31)/\w2.cell? ⟨ab,ao,none⟩=some (.slice (some ⟨qb,qo,none⟩) ans.length Cq)/\(w2.cell? ⟨qb,qo+j*3,none⟩=some (.bool (doA N op l).ok)/\w2.cell? ⟨qb,qo+j*3+1,none⟩=some (.int .i64 (doA N op l).n)/\w2.cell? ⟨qb,qo+j*3+2,none⟩=some lv)/\IntsAt w2 lv []/\(doA N op l).l=[]):=
    Lib.hid ⟨⟨hlt,by omega⟩,m11,m12,hE2.be.heap hK.hd,hE2.be.cell hK.row,⟨hE2.be.cell c0,hE2.be.cell c1,hE2.be.cell c2⟩,hlv.beyond hE2.be,hal⟩
   refine at_drawsV hJ hb (by kernel_rfl) (by kernel_rfl) (by simp only[hF1.sz];kernel_rfl) (ScQ w2 [.agg #[.bool (doA N op l).ok,.int .i64 (doA N op l).n,.slice none 0 0],.agg #[.bool (doA N op l).ok,.int .i64 (doA N op l).n,.slice none 0 0],undef,.pointer (some ⟨Wb,0,none⟩),.slice (some ⟨ab,ao,none⟩) 1 cA,.pointer (some ⟨ab,ao,none⟩),.slice (some ⟨qb,qo,none⟩) ans.length Cq,.int .i64 j,.pointer (some ⟨qb,qo+j*3,none⟩),.agg #[.bool (doA N op l).ok,.int .i64 (doA N op l).n,lv],.pointer (some ⟨Wb,0,none⟩),.slice (some ⟨ab,ao,none⟩) 1 cA,.pointer (some ⟨ab,ao,none⟩),.slice (some ⟨qb,qo,none⟩) ans.length Cq,.int .i64 j,.pointer (some ⟨qb,qo+j*3,none⟩),.agg #[.bool (doA N op l).ok,.int .i64 (doA N op l).n,lv],undef,.bool true,.bool false] (doA N op l)) (λL v w τ d h=>⟨h.be.trans (Beyond.re _ _ _),h.v,λhl=>by obtain⟨v,h1,h2⟩:=h.p hl;exact⟨v,h1,h2.beyond (Beyond.re _ _ _)⟩,λhl=>by obtain⟨v,h1,h2⟩:=h.q hl;exact⟨v,h1,h2.beyond (Beyond.re _ _ _)⟩⟩) (List.replicate 20 undef) (by kernel_rfl) ⟨Beyond.refl _,λi _ _ _ h=>(by cases h),λh=>(by cases h),λh=>(by cases h)⟩ (sc_cmp hFin hF1.t6 h10' h11 h12 HO2) ?_;rintro L2 vals2 w3 hall2 hvl2 hQ;replace hvl2:vals2.length=20:=hvl2;have h91:(putv scQR vals2 0 t1)[91]?=some (.bool false):=by
    have h:=hQ.v 19 (by decide) (by decide) (by decide) (hall2 19 (by decide));exact putv_at vals2 0 _ 19 _ 91 h (by kernel_rfl) (by rw[hF1.sz];decide) λm q1 q2 e=>by omega
   have hF2:=hF1.putv vals2 (ops:=scQR) (by kernel_rfl) (by kernel_rfl) (by kernel_rfl) (by kernel_rfl) (by kernel_rfl) (by kernel_rfl) (by kernel_rfl) (by kernel_rfl);have h10'':(putv scQR vals2 0 t1)[10]?=some (.int .i64 j):=(zq2b (by kernel_rfl) _ _).trans h10';generalize putv scQR vals2 0 t1=t2 at h91 hF2 h10'' ⊢;have hE3:=hE2.beyond hQ.be;clear hQ hall2 hvl2 h11 h12 hF1 h10' m11 m12 hE2 HO2 c0 c1 c2 hlv;refine hJ.ctl (s:=s) (λw=>stepG_region_end) ?_;refine hJ.ctl (s:=s) (λw=>stepG_cond (t:=false) (by simp[Act.eval,al_gd,h91])) ?_;rw[if_neg (by decide)];refine hJ.ctl (s:=s) (λw=>stepG_skip) ?_;refine hk s .normal ⟨t2,[]⟩ w3 ?_;show wpJ _ _ _ _ _ _;refine wpJ_lone hJ hC zql (by kernel_rfl) (λa' w'=>ScF K Wb n st (.slice (some ⟨g,go,none⟩) Lo C) a'.tmps/\a'.tmps[10]?=some (.int .i64 ((j+1:Nat):Int))/\ScE W K N (doL N op l) (c+doN N op l) w') (λ_ _=>False) (λa w τ d h=>⟨h.1,h.2.1,h.2.2.beyond (Beyond.re _ _ _)⟩) (λ_ _ _ _ h=>h) (sc_r10 hF2 h10'' (by omega) hE3) (λt3 w4 h=>?_) (λ_ _ h=>h.elim);obtain⟨hF3,h103,hE4⟩:=h;exact⟨m - 1,by omega,rfl,j+1,by omega,rfl,hF3,h103,_,_,hE4,hl,har,by rw[←hn];simp only[seqN];omega⟩
 · rw[if_neg (by simpa using hlt)];refine wpY_exit hJC ?_;obtain rfl:j=ans.length:=by omega
   exact⟨rfl,rfl,rfl,hF,h10,l,c,hE,hl,ha,hn⟩
end Go.Proofs
set_option maxHeartbeats 1000000
namespace Go.Car
open Go Go.Conc Go.RowKit
open Go.ConcN (upd upd_ne upd_same)
section
variable {P:Program} {main:Bool} {γ:Type} {J:γ->Goroutine->World->Prop}
theorem at_drawsX(hJ:JS P main (λ_=>none) J){b:Frame}{k:List Item}{cs:List Frame}(hb:b.kind≠.early)(hm:P.follows .mixedOrders=true){id:Nat}{ops:Array Oper}{T₀:Array Value}{ds:List Deferred}{s:γ}{w:World}(I:γ->(Nat->Bool)->Array Value->World->Prop)
 (hback:backOkJ ops=true) (hre:∀s L T w τ d,I s L T w->I s L T (re w τ d)) (hI:I s (λ_=>false) T₀ w)
 (hstep:∀(s:γ)(L:Nat->Bool)(T:Array Value)(w:World)(i:Nat)(o:Oper),I s L T w->L i=false->ops[i]?=some o->(∀e∈o.after,Region.binds .any e=true->L e.on=true)->
  ∀rest:List Nat,(∀s' T' w',I s' (upd L i true) T' w'->J s' (G (b.at ⟨T',ds⟩ (.inRegion ops rest::k)) cs) w')->J s (G (b.at ⟨T,ds⟩ (.inRegion ops (i::rest)::k)) cs) w)
 (hend:∀s L T w,(∀i,i<ops.size->L i=true)->I s L T w->J s (G (b.at ⟨T,ds⟩ (.inRegion ops []::k)) cs) w):J s (G (b.at ⟨T₀,ds⟩ (.code (.region id ops true)::k)) cs) w:=by
 have hb':∀i o,ops[i]?=some o->∀e∈o.after,Region.binds .any e=true->e.on<i:=by
  intro i o ho;have hlt:=(Array.getElem?_eq_some_iff.1 ho).1;unfold backOkJ at hback;rw[List.all_eq_true]at hback;have:=hback i (List.mem_range.2 hlt);rw[ho]at this;simp only[Array.all_eq_true_iff_forall_mem]at this;exact λe he hbe=>by have:=this e he;simpa[hbe]using this
 have key:∀(fuel t:Nat)(listed:Array Bool)(s:γ)(L:Nat->Bool)(T:Array Value)(w:World),listed.size=ops.size->left listed=fuel->(∀i,i<ops.size->listed.getD i false=L i)->I s L T w->
  J s (G (b.at ⟨T,ds⟩ (.inRegion ops (Region.linearise.go .any ops fuel t listed [])::k)) cs) w:=by
  intro fuel
  induction fuel with
  |zero=>
   intro t listed s L T w hsz hl hL hi;refine hend s L T w (λi hlt=>?_) hi;rw[←hL i hlt];have hlt':i<listed.size:=by omega
   cases hv:listed[i]with
   |true=>simp[hlt',hv]
   |false=>have:=left_pos (listed:=listed) (i:=i) (by simp[hlt',hv]);omega
  |succ fuel ih=>
   intro t listed s L T w hsz hl hL hi;simp only[Region.linearise.go];change J s (G (b.at ⟨T,ds⟩ (.inRegion ops (match (Region.ready .any ops listed)[t % (Region.ready .any ops listed).length]? with
    |some i=>Region.linearise.go .any ops fuel (t / (Region.ready .any ops listed).length) (listed.setIfInBounds i true) [i]
    |none=>[].reverse)::k)) cs) w
   have hun:∃i,listed.getD i true=false:=by
    refine Classical.byContradiction λhn=>?_;have:left listed=0:=by
     unfold left;rw[List.length_eq_zero_iff,List.filter_eq_nil_iff];intro x hx hxx;obtain⟨i,hi,rfl⟩:=List.getElem_of_mem hx;have hi':i<listed.size:=by simpa using hi
     have e:listed.toList[i]=listed[i]:=by simp
     rw[e]at hxx;exact hn ⟨i,by simp[hi'];simpa using hxx⟩
    omega
   have hready:∃i,i∈Region.ready .any ops listed:=by
    have:∀m i,m=i->listed.getD i true=false->∃j,j∈Region.ready .any ops listed:=by
     intro m
     induction m using Nat.strongRecOn with
     |_ m ihm=>
      intro i hi hun;subst hi;have hops:m<ops.size:=by have:=zq1s hun;omega
      by_cases hall:∀e∈(ops[m]'hops).after,Region.binds .any e=true->listed.getD e.on false=true
      · exact⟨m,mem_ready.2 ⟨hun,_,Array.getElem?_eq_getElem hops,hall⟩⟩
      · obtain⟨e,he⟩:=Classical.not_forall.1 hall;obtain⟨h1,he⟩:=Classical.not_imp.1 he;obtain⟨h2,he⟩:=Classical.not_imp.1 he;have hlt':=hb' m _ (Array.getElem?_eq_getElem hops) e h1 h2;refine ihm e.on hlt' e.on rfl ?_;have:e.on<listed.size:=by omega
        simp[this]at he ⊢;exact he
    obtain⟨i,hi⟩:=hun;exact this i i rfl hi
   cases hi':(Region.ready .any ops listed)[t % (Region.ready .any ops listed).length]? with
   |none=>
    exfalso;obtain⟨i,hi''⟩:=hready;have hpos:0<(Region.ready .any ops listed).length:=List.length_pos_of_mem hi'';have hlt:=Nat.mod_lt t hpos;rw[List.getElem?_eq_none_iff]at hi';omega
   |some i=>
    have hmem:=List.mem_of_getElem? hi';obtain⟨hun,o,ho,hall⟩:=mem_ready.1 hmem;have hilt:i<ops.size:=by have:=zq1s hun;omega
    simp only[];rw[linearise_go_acc,List.reverse_singleton,List.singleton_append];have hbk:=hb' i o ho;have hLi:L i=false:=by
     rw[←hL i hilt];have hlt':i<listed.size:=by omega
     simp[hlt']at hun ⊢;exact hun
    have hld:left (listed.setIfInBounds i true)+1=left listed:=left_set hun;have hL':∀j,j<ops.size->(listed.setIfInBounds i true).getD j false=upd L i true j:=λj hj=>by
     by_cases e:i=j
     · subst e;have:i<listed.size:=by omega
       rw[upd_same];simp[this]
     · rw[getD_set_ne false e,upd_ne _ _ (λx=>e x.symm)];exact hL j hj
    have hall':∀e∈o.after,Region.binds .any e=true->L e.on=true:=λe he hbe=>by
     rw[←hL e.on (by have:=hbk e he hbe;omega)];exact hall e he hbe
    exact hstep s L T w i o hi hLi ho hall' _ λs' T' w' hI'=>ih _ _ s' (upd L i true) _ _ (by simpa using hsz) (by omega) hL' hI'
 refine hJ.step _ _ _ rfl λτ d=>⟨_,_,#[],stepG_region_draw (a:=⟨T₀,ds⟩),?_,by simp,?_⟩
 · exact OkD.refl _ _ _
 · refine hJ.re' s _ w τ (d+1) ?_;simp only[Region.schedule,hm,Bool.true_or,if_true,Region.linearise];refine key _ _ _ _ (λ_=>false) _ _ (by simp) ?_ (λi hi=>by simp[hi]) hI;unfold left;simp
def DrawX(P:Program)(J:γ->Goroutine->World->Prop)(s:γ)(T:Array Value)(o:Oper)(w:World)(K:γ->Value->World->Prop)(K0:World->Prop):Prop:=
 (okOp P (λ_=>false) o.op=true/\((∃d v w',o.dst=some d/\(execOp (Act.mk T []).eval o).run P w=.ok (.value v) w'/\K s v w')\/(o.dst=none/\∃w',(execOp (Act.mk T []).eval o).run P w=.ok .skip w'/\K0 w')))\/
 (∃d f args,o.dst=some d/\(∀w,(execOp (Act.mk T []).eval o).run P w=.ok (.enter f args) w)/\(∀w,(execOp (Act.mk T []).eval o).events P w #[]=#[])/\zq1k P J f args (λs' e w'=>∃v,e=.returned v/\K s' v w') s w)
end
def chkGd(ops:Array Oper)(n:Nat):Bool:=
 (List.range ops.size).all (λi=>match ops[i]? with
  |some o=>match o.dst with|some d=>decide (d<n)|none=>true
  |none=>false)&&
 (List.range ops.size).all (λi=>(List.range i).all λj=>(dstOf ops i).isNone || dstOf ops i !=dstOf ops j)
section
variable {P:Program} {main:Bool} {γ:Type} {J:γ->Goroutine->World->Prop}
theorem at_drawsG(hJ:JS P main (λ_=>none) J){b:Frame}{k:List Item}{cs:List Frame}(hb:b.kind≠.early)(hm:P.follows .mixedOrders=true){id:Nat}{ops:Array Oper}{T₀:Array Value}{ds:List Deferred}{s:γ}{w:World}(hback:backOkJ ops=true)(hchk:chkGd ops T₀.size=true)
 (W:γ->(Nat->Bool)->List Value->World->Prop) (hWre:∀s L v w τ d,W s L v w->W s L v (re w τ d)) (v₀:List Value) (hv₀:v₀.length=ops.size) (hW:W s (λ_=>false) v₀ w)
 (hstep:∀(s:γ)(L:Nat->Bool)(vals:List Value)(T:Array Value)(w:World)(i:Nat)(o:Oper),vals.length=ops.size->W s L vals w->L i=false->ops[i]?=some o->(∀e∈o.after,Region.binds .any e=true->L e.on=true)->
  (∀j t,dstOf ops j=some t->L j=true->T[t]?=vals[j]?)->(∀t,noD ops t=true->T[t]?=T₀[t]?)->
  Region.wanted o (yielded ops T)=true/\DrawX P J s T o w (λs' v w'=>W s' (upd L i true) (vals.set i v) w') (λw'=>W s (upd L i true) vals w'))
 (hend:∀s L vals w,(∀i,i<ops.size->L i=true)->vals.length=ops.size->W s L vals w->J s (G (b.at ⟨putv ops vals 0 T₀,ds⟩ (.inRegion ops []::k)) cs) w):J s (G (b.at ⟨T₀,ds⟩ (.code (.region id ops true)::k)) cs) w:=by
 unfold chkGd at hchk;simp only[Bool.and_eq_true,List.all_eq_true,List.mem_range]at hchk;obtain⟨h1,h2⟩:=hchk;have plain:∀(i:Nat)(o:Oper),ops[i]?=some o->∀d,o.dst=some d->d<T₀.size:=λi o ho=>by
  have:=h1 i (Array.getElem?_eq_some_iff.1 ho).1;rw[ho]at this;simp only at this;intro d hd;rw[hd]at this;simpa using this
 have dlt:∀i d,dstOf ops i=some d->i<ops.size/\d<T₀.size:=λi d hd=>by
  unfold dstOf at hd;cases ho:ops[i]? with
  |none=>rw[ho]at hd;cases hd
  |some o=>rw[ho]at hd;exact⟨(Array.getElem?_eq_some_iff.1 ho).1,plain i o ho d hd⟩
 have apart:∀(i j:Nat)(d:Tmp),dstOf ops i=some d->dstOf ops j=some d->i=j:=λi j d hd hd'=>by
  rcases Nat.lt_trichotomy i j with h|h|h
  · have:=h2 j (dlt j d hd').1 i h;rw[hd,hd']at this;simp at this
  · exact h
  · have:=h2 i (dlt i d hd).1 j h;rw[hd,hd']at this;simp at this
 have final:∀(vals:List Value),vals.length=ops.size->∀i x,dstOf ops i=some x->(putv ops vals 0 T₀)[x]?=vals[i]?:=λvals hlen i x hd=>by
  obtain⟨hi,hlt⟩:=dlt i x hd;rw[List.getElem?_eq_getElem (by omega)];refine putv_at vals 0 _ i _ x (List.getElem?_eq_getElem (by omega)) (by rw[Nat.zero_add];exact hd) hlt λm a b e=>?_;have:=apart m i x e hd;omega
 let I:γ->(Nat->Bool)->Array Value->World->Prop:=λs L T w=>∃vals:List Value,vals.length=ops.size/\W s L vals w/\T.size=T₀.size/\(∀t,(∀j,dstOf ops j≠some t)->T[t]?=T₀[t]?)/\∀j t,dstOf ops j=some t->L j=true->T[t]?=vals[j]?
 refine at_drawsX hJ hb hm I hback (λs L T w τ d⟨vals,a1,a2,a3⟩=>⟨vals,a1,hWre _ _ _ _ _ _ a2,a3⟩) ⟨v₀,hv₀,hW,rfl,λ_ _=>rfl,λ_ _ _ h=>(by cases h)⟩ ?_ ?_
 · rintro s L T w i o ⟨vals,hlen,hw,hsz,hout,hin⟩ hLi ho hdep rest hnext;have hdo:=plain i o ho;have hil:i<ops.size:=(Array.getElem?_eq_some_iff.1 ho).1;have hst1:=λw hw=>hstep s L vals T w i o hlen hw hLi ho hdep hin λt ht=>hout t (noD_iff ht);have hst0:=λw hw=>(hst1 w hw).2;have hwan:=(hst1 w hw).1;have value:∀s' d v w',o.dst=some d->W s' (upd L i true) (vals.set i v) w'->I s' (upd L i true) (T.setIfInBounds d v) w':=λs' d v w' hd hW'=>by
    have hdi:dstOf ops i=some d:=by unfold dstOf;rw[ho];exact hd
    refine⟨vals.set i v,by simpa using hlen,hW',by simpa using hsz,λt ht=>?_,λj t hdj hl=>?_⟩
    · have:d≠t:=λe=>ht i (e▸hdi);rw[al_gn this];exact hout t ht
    · by_cases e:j=i
      · subst e;rw[hdi]at hdj;obtain rfl:=Option.some.inj hdj;have:d<T.size:=by rw[hsz];exact hdo d hd
        have hjl:j<vals.length:=by omega
        simp[this,hjl]
      · have hdt:d≠t:=λe2=>by subst e2;exact e (apart j i d hdj hdi)
        rw[upd_ne _ _ e]at hl;rw[al_gn hdt,List.getElem?_set_ne (λe2=>e e2.symm),hin j t hdj hl]
   have skip:∀w',o.dst=none->W s (upd L i true) vals w'->I s (upd L i true) T w':=λw' hd hW'=>by
    refine⟨vals,hlen,hW',hsz,hout,λj t hdj hl=>?_⟩;have e:j≠i:=λe=>by
     subst e;unfold dstOf at hdj;rw[ho]at hdj;simp only[al_ob]at hdj;rw[hd]at hdj;cases hdj
    rw[upd_ne _ _ e]at hl;exact hin j t hdj hl
   rcases hst0 w hw with⟨hok,hpl⟩|⟨d,f,args,hd,hrun,hev,hcall⟩
   · have hst:=λτ dd=>hst0 (re w τ dd) (hWre _ _ _ _ τ dd hw);cases hdst:o.dst with
     |some d=>
      refine at_opF hJ hb ho hok hwan hdst λτ dd=>?_;rcases hst τ dd with⟨_,⟨d',v,w',hd',hr,hI'⟩|⟨hd',_⟩⟩|⟨d',f,args,hd',hrun,hev,hcall⟩
      · exact⟨v,w',hr,hnext _ _ _ (value s d v w' hdst hI')⟩
      · rw[hdst]at hd';cases hd'
      · exfalso;rcases hpl with⟨_,v,w',_,hr,_⟩|⟨hd',_⟩
        · rw[hrun]at hr;cases hr
        · rw[hdst]at hd';cases hd'
     |none=>
      refine at_skipF hJ hb ho hok hwan hdst λτ dd=>?_;rcases hst τ dd with⟨_,⟨d',v,w',hd',_⟩|⟨hd',w',hr,hI'⟩⟩|⟨d',f,args,hd',_⟩
      · rw[hdst]at hd';cases hd'
      · exact⟨w',hr,hnext _ _ _ (skip w' hdst hI')⟩
      · rw[hdst]at hd';cases hd'
   · have hrun':∀w,(execOp (Act.mk T ds).eval o).run P w=.ok (.enter f args) w:=hrun;refine zq1f hb hJ ho hwan (λτ dd=>hrun' (re w τ dd)) (λτ dd e he=>?_) ?_
     · rw[Sem.runT_eq,show(execOp (Act.mk T ds).eval o).events P (re w τ dd) #[]=#[]from hev _]at he;simp at he
     · refine hcall _ _ ?_ ?_
       · rintro s' v w' ⟨v',e,hW'⟩;cases e;rw[Frame.finish_at,ho];have hp:(Act.mk T ds).put o.dst v=⟨T.setIfInBounds d v,ds⟩:=by rw[hd];rfl
         simp only[al_ob];have:=hnext _ _ _ (value s' d v w' hd hW');simpa[hp]using this
       · rintro s' ch w' ⟨v,e,_⟩;cases e
 · rintro s L T w hall ⟨vals,hlen,hw,hsz,hout,hin⟩;have:T=putv ops vals 0 T₀:=by
    apply Array.ext_getElem?;intro x
    by_cases hx:∃j,dstOf ops j=some x
    · obtain⟨j,hdj⟩:=hx;rw[hin j x hdj (hall j (dlt j x hdj).1),final vals hlen j x hdj]
    · have hno:∀j,dstOf ops j≠some x:=λj hd=>hx ⟨j,hd⟩;rw[hout x hno];exact(zq2g vals 0 _ x λj _ _=>hno j).symm
   rw[this];exact hend s L vals w hall hlen hw
end
end Go.Car
set_option maxHeartbeats 8000000
set_option maxRecDepth 100000
namespace Go.Proofs
open Go Go.Conc Go.RowKit Go.Car
open Go.ConcN (upd upd_ne upd_same)
theorem sc_tot{W w:World}{K Wb n N c:Nat}{st:Int}{l stl:List Int}{opsv ov:Value}{pv:Value}{sp:Option Addr}{Cs:Nat}{T:Array Value}(hF:ScF K Wb n st opsv T)(h13:T[13]?=some (.int .i64 0))(hE:ScE W K N l c w)
 (hd:W.heap[Wb]?=some (.cells #[pv,ov,.slice sp stl.length Cs,.bool false] 31)) (hs:IntsAt W (.slice sp stl.length Cs) stl) (hl:stl.length<=64) (τ:Nat->Question->Nat) (d:Nat):
 Code.wp Try.prog (headC (scT 8)) (ends (λa' w'=>ScF K Wb n st opsv a'.tmps/\a'.tmps[13]?=some (.int .i64 (zq1h stl))/\ScE W K N l c w') (λ_ _=>False)) ⟨T,[]⟩ (re w τ d):=by
 have HE:=Lib.hid (hE.beyond (Beyond.re w τ d));obtain⟨m,hm⟩:∃m,stl.length=m:=⟨_,rfl⟩;have HS:=Lib.hid (And.intro hs (And.intro hm hl));rw[hm]at hd;have c0:(re w τ d).cell? ⟨Wb,2,none⟩=some (.slice sp m Cs):=(zq0 (off:=2) (HE.out.be.heap hd)).trans rfl;clear hE hd hs hm hl;generalize re w τ d=w1 at HE c0 ⊢;obtain⟨u,hu⟩:∃c,headC (scT 8)=c:=⟨_,rfl⟩;have eu:=hu;rw[hu];simp only[scI,scB,cqL,cqR,cqB,cqO,scT,headC,tailN,Try.f4,al_od]at eu;subst eu;clear hu;obtain⟨x,hT,hx⟩:=lit134 hF.sz;have e0:x 0=.int .i64 st:=Option.some.inj ((hx 0 (by decide)).symm.trans hF.t0);have e1:x 1=opsv:=Option.some.inj ((hx 1 (by decide)).symm.trans hF.t1);have e4:x 4=.bool false:=Option.some.inj ((hx 4 (by decide)).symm.trans hF.t4);have e5:x 5=.int .i64 n:=Option.some.inj ((hx 5 (by decide)).symm.trans hF.t5);have e6:x 6=.pointer (some ⟨Wb,0,none⟩):=Option.some.inj ((hx 6 (by decide)).symm.trans hF.t6);have e7:x 7=.pointer (some ⟨K+1,0,none⟩):=Option.some.inj ((hx 7 (by decide)).symm.trans hF.t7);have e8:x 8=.pointer (some ⟨K+3,0,none⟩):=Option.some.inj ((hx 8 (by decide)).symm.trans hF.t8);have e9:x 9=.pointer (some ⟨K+4,0,none⟩):=Option.some.inj ((hx 9 (by decide)).symm.trans hF.t9);have e13:x 13=.int .i64 0:=Option.some.inj ((hx 13 (by decide)).symm.trans h13);subst hT;simp only[e0,e1,e4,e5,e6,e7,e8,e9,e13];clear h13 e13 e0 e1 e4 e5 e6 e7 e8 e9 hx hF
 go_wp2_with (fail)
 go_loopg [13,14] m (λk s13 s14 wr=>∃j:Nat,k=m - j/\j<=m/\s14=.int .i64 j/\s13=.int .i64 (zq1h (stl.take j))/\wr=w1)
 case atStart=>exact⟨0,rfl,Nat.zero_le _,rfl,rfl,rfl⟩
 case round=>
  obtain⟨j,hk,hj,rfl,rfl,rfl⟩:=hrel;have hj0:(0:Int)<=j:=by omega
  have hm64:(m:Int)<=64:=by have:=HS.out.2.1;have:=HS.out.2.2;omega
  by_cases hlt:j<m
  · have hlt':(j:Int)<(m:Int):=by omega
    obtain⟨p',C',he,hc⟩:=HS.out.1;obtain⟨b,o,e2,hc2⟩:=hc (λe=>by have:=HS.out.2.1;rw[e]at this;simp at this;omega);cases he;subst e2;have hcj:wr.cell? ⟨b,o+j,none⟩=some (.int .i64 (stl.getD j 0)):=HE.out.be.cell (hc2 j (by have:=HS.out.2.1;omega));obtain⟨z,hz⟩:∃z,stl.getD j 0=z:=⟨_,rfl⟩;obtain⟨q,hq⟩:∃q,zq1h (stl.take j)=q:=⟨_,rfl⟩;have ht:zq1h (stl.take (j+1))=wrap64 (q+z):=by
     have hjl:j<stl.length:=by have:=HS.out.2.1;omega
     rw[List.take_add_one,List.getElem?_eq_getElem hjl,Option.toList_some,totalL_snoc,hq,←hz,List.getD_eq_getElem?_getD,List.getElem?_eq_getElem hjl];rfl
    rw[hz]at hcj;rw[hq];have HT:=Lib.hid (And.intro ht (And.intro hk hlt));clear ht hk hq hz hc hc2 hlt hj
    go_wp2_with (fail)
    go_roundg (m - (j+1))
    case measure=>have:=HT.out.2.1;have:=HT.out.2.2;omega
    case rel=>exact⟨j+1,rfl,HT.out.2.2,rfl,by rw[HT.out.1],rfl⟩
  · obtain rfl:j=m:=by omega
    have hlt':¬(j:Int)<(j:Int):=by omega
    have htk:stl.take j=stl:=List.take_of_length_le (by have:=HS.out.2.1;omega);rw[htk];clear hk hj hlt
    go_wp2_with (fail)
    exact⟨rfl,⟨rfl,rfl,rfl,rfl,rfl,rfl,rfl,rfl,rfl⟩,rfl,HE.out⟩
structure ScZ(w0:World)(spec:List Value)(stl:List Int)(L:Nat->Bool)(vals:List Value)(w:World):Prop where
 be:Beyond w0 w
 v:∀i,i<29->i≠1->i≠7->L i=true->vals[i]?=spec[i]?
 p:L 1=true->∃x,vals[1]?=some x/\IntsAt w x stl
 q:L 7=true->∃x,vals[7]?=some x/\IntsAt w x stl
section
variable {w0 w w':World} {spec:List Value} {stl:List Int} {L:Nat->Bool} {vals:List Value}
theorem ScZ.read (h:ScZ w0 spec stl L vals w)(hb:Beyond w w')(hlen:vals.length=29){i:Nat}{v:Value}(hi:i<29)(h2:i≠1)(h17:i≠7)(hv:spec[i]?=some v):ScZ w0 spec stl (upd L i true) (vals.set i v) w':=by
 refine⟨h.be.trans hb,λj hj j8 j17 hl=>?_,λhl=>?_,λhl=>?_⟩
 · by_cases e:j=i
   · subst e;rw[hv];simp[hlen,hj]
   · rw[upd_ne _ _ e]at hl;rw[List.getElem?_set_ne (λx=>e x.symm)];exact h.v j hj j8 j17 hl
 · rw[upd_ne _ _ (Ne.symm h2)]at hl;obtain⟨v,h1,h2'⟩:=h.p hl;exact⟨v,by rw[List.getElem?_set_ne h2];exact h1,h2'.beyond hb⟩
 · rw[upd_ne _ _ (Ne.symm h17)]at hl;obtain⟨v,h1,h2'⟩:=h.q hl;exact⟨v,by rw[List.getElem?_set_ne h17];exact h1,h2'.beyond hb⟩
theorem ScZ.all (h:ScZ w0 spec stl L vals w)(hb:Beyond w w')(hlen:vals.length=29){i:Nat}{v:Value}(hi:i=1\/i=7)(hv:IntsAt w' v stl):ScZ w0 spec stl (upd L i true) (vals.set i v) w':=by
 refine⟨h.be.trans hb,λj hj j8 j17 hl=>?_,λhl=>?_,λhl=>?_⟩
 · have e:j≠i:=by omega
   rw[upd_ne _ _ e]at hl;rw[List.getElem?_set_ne (λx=>e x.symm)];exact h.v j hj j8 j17 hl
 · by_cases e:i=1
   · subst e;exact⟨v,by simp[hlen],hv⟩
   · rw[upd_ne _ _ (λx=>e x.symm)]at hl;obtain⟨v,h1,h2'⟩:=h.p hl;exact⟨v,by rw[List.getElem?_set_ne e];exact h1,h2'.beyond hb⟩
 · by_cases e:i=7
   · subst e;exact⟨v,by simp[hlen],hv⟩
   · rw[upd_ne _ _ (λx=>e x.symm)]at hl;obtain⟨v,h1,h2'⟩:=h.q hl;exact⟨v,by rw[List.getElem?_set_ne e];exact h1,h2'.beyond hb⟩
end
noncomputable def scZR:Array Oper:=match headC (scT 9)with
 |.region _ o _=>o
 |_=>#[]
theorem scZ0:scT 9=.seq (.region 19 scZR true) .ret:=by kernel_rfl
theorem scZ1:scT 7=.seq (headC (scT 7)) (.seq (headC (scT 8)) (scT 9)):=by kernel_rfl
theorem zq1j{ops:Array Oper}{T:Array Value}{j:Nat}{d:Tmp}{b:Bool}(h:dstOf ops j=some d)(hT:T[d]?=some (.bool b)):yielded ops T j=some b:=by
 unfold dstOf at h;unfold yielded;rw[h];simp only[al_ob,hT]
theorem sc_last{Fin:Machine->Trace->Prop}(hFin:Back Try.prog Fin){s:Nat}{W w0:World}{Wb K N lo Co:Nat}{op:Option Addr}{pv sv:Value}{tot cnt:Int}{stl:List Int}{n nn:Nat}{st:Int}{opsv:Value}{T₀:Array Value}(hF:ScF K Wb n st opsv T₀)(h13:T₀[13]?=some (.int .i64 tot))
 (HO:RowKit.Hid (ScE W K N stl nn w0/\w0.heap[Wb]?=some (.cells #[pv,.slice op lo Co,sv,.bool false] 31)/\IntsAt w0 sv stl/\stl.length<=64/\zq1h stl=tot/\wrap64 (nn:Int)=cnt/\cnt=(lo:Int))):
 ∀(s1:Nat)(L:Nat->Bool)(vals:List Value)(T:Array Value)(w:World)(i:Nat)(o:Oper),vals.length=scZR.size->(s1=s/\ScZ w0 [.pointer (some ⟨K+1,0,none⟩),undef,.pointer (some ⟨Wb,2,none⟩),sv,.bool true,.bool true,.pointer (some ⟨K+3,0,none⟩),undef,.pointer (some ⟨Wb,2,none⟩),sv,.bool true,.bool true,.bool true,.pointer (some ⟨K+1,0,none⟩),.int .i64 tot,.int .i64 tot,.bool true,.bool true,.bool true,.pointer (some ⟨K+4,0,none⟩),.pointer (some ⟨K+4,0,none⟩),.pointer (some ⟨K+4,0,none⟩),.int .i64 cnt,.pointer (some ⟨Wb,1,none⟩),.slice op lo Co,.int .i64 lo,.bool true,.bool true,.bool true] stl L vals w)->L i=false->scZR[i]?=some o->(∀e∈o.after,Region.binds .any e=true->L e.on=true)->
  (∀j t,dstOf scZR j=some t->L j=true->T[t]?=vals[j]?)->(∀t,noD scZR t=true->T[t]?=T₀[t]?)->
  Region.wanted o (yielded scZR T)=true/\DrawX Try.prog (J0 Try.prog Fin) s1 T o w (λs' v w'=>s'=s/\ScZ w0 [.pointer (some ⟨K+1,0,none⟩),undef,.pointer (some ⟨Wb,2,none⟩),sv,.bool true,.bool true,.pointer (some ⟨K+3,0,none⟩),undef,.pointer (some ⟨Wb,2,none⟩),sv,.bool true,.bool true,.bool true,.pointer (some ⟨K+1,0,none⟩),.int .i64 tot,.int .i64 tot,.bool true,.bool true,.bool true,.pointer (some ⟨K+4,0,none⟩),.pointer (some ⟨K+4,0,none⟩),.pointer (some ⟨K+4,0,none⟩),.int .i64 cnt,.pointer (some ⟨Wb,1,none⟩),.slice op lo Co,.int .i64 lo,.bool true,.bool true,.bool true] stl (upd L i true) (vals.set i v) w') (λw'=>s1=s/\ScZ w0 [.pointer (some ⟨K+1,0,none⟩),undef,.pointer (some ⟨Wb,2,none⟩),sv,.bool true,.bool true,.pointer (some ⟨K+3,0,none⟩),undef,.pointer (some ⟨Wb,2,none⟩),sv,.bool true,.bool true,.bool true,.pointer (some ⟨K+1,0,none⟩),.int .i64 tot,.int .i64 tot,.bool true,.bool true,.bool true,.pointer (some ⟨K+4,0,none⟩),.pointer (some ⟨K+4,0,none⟩),.pointer (some ⟨K+4,0,none⟩),.int .i64 cnt,.pointer (some ⟨Wb,1,none⟩),.slice op lo Co,.int .i64 lo,.bool true,.bool true,.bool true] stl (upd L i true) vals w'):=by
 rintro s1 L vals T w i o hlen ⟨rfl,h⟩ hLi ho hdep hT hT0;have hi:i<29:=(Array.getElem?_eq_some_iff.1 ho).1;replace hlen:vals.length=29:=hlen;have y5:dstOf scZR 5=some 111:=by kernel_rfl
 have y12:dstOf scZR 12=some 118:=by kernel_rfl
 have y18:dstOf scZR 18=some 124:=by kernel_rfl
 obtain⟨u3,hu3⟩:∃c,scZR=c:=⟨_,rfl⟩;have eu3:=hu3;simp only[scZR,scT,headC,tailN,Try.f4,al_od]at eu3;rw[hu3,←eu3]at ho;clear eu3 hu3;obtain rfl |rfl |rfl |rfl |rfl |rfl |rfl |rfl |rfl |rfl |rfl |rfl |rfl |rfl |rfl |rfl |rfl |rfl |rfl |rfl |rfl |rfl |rfl |rfl |rfl |rfl |rfl |rfl |rfl:i=0\/i=1\/i=2\/i=3\/i=4\/i=5\/i=6\/i=7\/i=8\/i=9\/i=10\/i=11\/i=12\/i=13\/i=14\/i=15\/i=16\/i=17\/i=18\/i=19\/i=20\/i=21\/i=22\/i=23\/i=24\/i=25\/i=26\/i=27\/i=28:=by omega
 ·
  simp only[al_gl,al_g0,al_g1,al_oi]at ho;subst ho;refine⟨rfl,?_⟩;have e7:T[7]?=some (.pointer (some ⟨K+1,0,none⟩)):=(hT0 7 (by kernel_rfl)).trans hF.t7;refine .inl ⟨rfl,.inl ⟨106,.pointer (some ⟨K+1,0,none⟩),w,rfl,?_,⟨rfl,ScZ.read h (Beyond.refl w) hlen (i:=0) (by decide) (by decide) (by decide) rfl⟩⟩⟩;simp only[execOp,Act.eval,al_gd,e7,al_od];go_simp
 ·
  simp only[al_gl,al_g0,al_g1,al_oi]at ho;subst ho;refine⟨rfl,?_⟩;have e106:T[106]?=some (.pointer (some ⟨K+1,0,none⟩)):=(hT 0 106 rfl (hdep ⟨0,.data⟩ (by simp) rfl)).trans (h.v 0 (by decide) (by decide) (by decide) (hdep ⟨0,.data⟩ (by simp) rfl));refine .inr ⟨107,17,#[.pointer (some ⟨K+1,0,none⟩)],rfl,λw=>?_,λw=>?_,?_⟩
  · simp only[execOp,Act.eval,al_gd,e106,al_od,List.map_toArray,List.map_cons,List.map_nil];simp[go_sem,execOp,Act.eval,resolve,Deferred.ofValue,invoke,callFunc,Try.func17,Try.f17,e106]
  · simp only[execOp,Act.eval,al_gd,e106,al_od,List.map_toArray,List.map_cons,List.map_nil];simp[go_sem,execOp,Act.eval,resolve,Deferred.ofValue,invoke,callFunc,Try.func17,Try.f17,e106]
  · intro cl cs' h1 _;have hr:=(HO.out.1.beyond h.be).one;refine zq2f (j0_JS hFin) (zq1n hFin) zql Try.func17 rfl (by kernel_rfl) (R:=λv w'=>IntsAt w' v stl/\Beyond w w') (λv w' τ d h=>⟨h.1.beyond (Beyond.re _ _ _),h.2.trans (Beyond.re _ _ _)⟩) (λτ d=>?_) ?_
    · refine Calls.mono (all_lone ((zq6 _ _ _).frame _ _ (re w τ d) hr λ_ _=>rfl)) ?_;rintro e w' ⟨v,rfl,hI⟩;exact⟨_,rfl,zq38 hI.row,(Beyond.re w τ d).trans ⟨hI.size,hI.old⟩⟩
    · rintro v w' ⟨hv,hb2⟩;exact h1 _ _ w' ⟨_,rfl,rfl,ScZ.all h hb2 hlen (.inl rfl) hv⟩
 ·
  simp only[al_gl,al_g0,al_g1,al_oi]at ho;subst ho;refine⟨rfl,?_⟩;have e6:T[6]?=some (.pointer (some ⟨Wb,0,none⟩)):=(hT0 6 (by kernel_rfl)).trans hF.t6;refine .inl ⟨rfl,.inl ⟨108,.pointer (some ⟨Wb,2,none⟩),w,rfl,?_,⟨rfl,ScZ.read h (Beyond.refl w) hlen (i:=2) (by decide) (by decide) (by decide) rfl⟩⟩⟩;simp only[execOp,Act.eval,al_gd,e6,al_od];go_simp
 ·
  simp only[al_gl,al_g0,al_g1,al_oi]at ho;subst ho;refine⟨rfl,?_⟩;have e108:T[108]?=some (.pointer (some ⟨Wb,2,none⟩)):=(hT 2 108 rfl (hdep ⟨2,.data⟩ (by simp) rfl)).trans (h.v 2 (by decide) (by decide) (by decide) (hdep ⟨2,.data⟩ (by simp) rfl));have c0:w.cell? ⟨Wb,2,none⟩=some sv:=(zq0 (off:=2) (h.be.heap HO.out.2.1)).trans rfl;refine .inl ⟨rfl,.inl ⟨109,sv,w,rfl,?_,⟨rfl,ScZ.read h (Beyond.refl w) hlen (i:=3) (by decide) (by decide) (by decide) rfl⟩⟩⟩;simp only[execOp,Act.eval,al_gd,e108,al_od];go_simp
 ·
  simp only[al_gl,al_g0,al_g1,al_oi]at ho;subst ho;refine⟨rfl,?_⟩;obtain⟨va,ha1,ha⟩:=h.p (hdep ⟨1,.data⟩ (by simp) rfl);have eA:T[107]?=some va:=(hT 1 107 rfl (hdep ⟨1,.data⟩ (by simp) rfl)).trans ha1;have e109:T[109]?=some (sv):=(hT 3 109 rfl (hdep ⟨3,.data⟩ (by simp) rfl)).trans (h.v 3 (by decide) (by decide) (by decide) (hdep ⟨3,.data⟩ (by simp) rfl));refine .inr ⟨110,16,#[va,sv],rfl,λw=>?_,λw=>?_,?_⟩
  · simp only[execOp,Act.eval,al_gd,eA,e109,al_od,List.map_toArray,List.map_cons,List.map_nil];simp[go_sem,execOp,Act.eval,resolve,Deferred.ofValue,invoke,callFunc,Try.func16,Try.f16,eA,e109]
  · simp only[execOp,Act.eval,al_gd,eA,e109,al_od,List.map_toArray,List.map_cons,List.map_nil];simp[go_sem,execOp,Act.eval,resolve,Deferred.ofValue,invoke,callFunc,Try.func16,Try.f16,eA,e109]
  · intro cl cs' h1 _;refine zq2f (j0_JS hFin) (zq1n hFin) zql Try.func16 rfl (by kernel_rfl) (R:=λv w'=>v=.bool true/\Beyond w w') (λv w' τ d h=>⟨h.1,h.2.trans (Beyond.re _ _ _)⟩) (λτ d=>?_) ?_
    · refine Calls.mono (zq3l (l:=stl) (by have:=HO.out.2.2.2.1;omega) (ha.beyond (Beyond.re w τ d)) (HO.out.2.2.1.beyond (h.be.trans (Beyond.re w τ d)))) ?_;rintro e w' ⟨rfl,n,rfl⟩;exact⟨_,rfl,rfl,(Beyond.re w τ d).trans (Beyond.drew _ _)⟩
    · rintro v w' ⟨rfl,hb2⟩;exact h1 _ _ w' ⟨_,rfl,rfl,ScZ.read h hb2 hlen (i:=4) (by decide) (by decide) (by decide) rfl⟩
 ·
  simp only[al_gl,al_g0,al_g1,al_oi]at ho;subst ho;refine⟨rfl,?_⟩;have e110:T[110]?=some (.bool true):=(hT 4 110 rfl (hdep ⟨4,.data⟩ (by simp) rfl)).trans (h.v 4 (by decide) (by decide) (by decide) (hdep ⟨4,.data⟩ (by simp) rfl));refine .inl ⟨rfl,.inl ⟨111,.bool true,w,rfl,?_,⟨rfl,ScZ.read h (Beyond.refl w) hlen (i:=5) (by decide) (by decide) (by decide) rfl⟩⟩⟩;simp only[execOp,Act.eval,al_gd,e110,al_od];go_simp
 ·
  simp only[al_gl,al_g0,al_g1,al_oi]at ho;subst ho;have eg:T[111]?=some (.bool true):=(hT 5 111 y5 (hdep ⟨5,.guard⟩ (by simp) rfl)).trans (h.v 5 (by decide) (by decide) (by decide) (hdep ⟨5,.guard⟩ (by simp) rfl));refine⟨by simp only[Region.wanted,zq1j y5 eg];rfl,?_⟩;have e8:T[8]?=some (.pointer (some ⟨K+3,0,none⟩)):=(hT0 8 (by kernel_rfl)).trans hF.t8;refine .inl ⟨rfl,.inl ⟨112,.pointer (some ⟨K+3,0,none⟩),w,rfl,?_,⟨rfl,ScZ.read h (Beyond.refl w) hlen (i:=6) (by decide) (by decide) (by decide) rfl⟩⟩⟩;simp only[execOp,Act.eval,al_gd,e8,al_od];go_simp
 ·
  simp only[al_gl,al_g0,al_g1,al_oi]at ho;subst ho;have eg:T[111]?=some (.bool true):=(hT 5 111 y5 (hdep ⟨5,.guard⟩ (by simp) rfl)).trans (h.v 5 (by decide) (by decide) (by decide) (hdep ⟨5,.guard⟩ (by simp) rfl));refine⟨by simp only[Region.wanted,zq1j y5 eg];rfl,?_⟩;have e112:T[112]?=some (.pointer (some ⟨K+3,0,none⟩)):=(hT 6 112 rfl (hdep ⟨6,.data⟩ (by simp) rfl)).trans (h.v 6 (by decide) (by decide) (by decide) (hdep ⟨6,.data⟩ (by simp) rfl));refine .inr ⟨113,17,#[.pointer (some ⟨K+3,0,none⟩)],rfl,λw=>?_,λw=>?_,?_⟩
  · simp only[execOp,Act.eval,al_gd,e112,al_od,List.map_toArray,List.map_cons,List.map_nil];simp[go_sem,execOp,Act.eval,resolve,Deferred.ofValue,invoke,callFunc,Try.func17,Try.f17,e112]
  · simp only[execOp,Act.eval,al_gd,e112,al_od,List.map_toArray,List.map_cons,List.map_nil];simp[go_sem,execOp,Act.eval,resolve,Deferred.ofValue,invoke,callFunc,Try.func17,Try.f17,e112]
  · intro cl cs' h1 _;have hr:=(HO.out.1.beyond h.be).two;refine zq2f (j0_JS hFin) (zq1n hFin) zql Try.func17 rfl (by kernel_rfl) (R:=λv w'=>IntsAt w' v stl/\Beyond w w') (λv w' τ d h=>⟨h.1.beyond (Beyond.re _ _ _),h.2.trans (Beyond.re _ _ _)⟩) (λτ d=>?_) ?_
    · refine Calls.mono (all_lone ((zq6 _ _ _).frame _ _ (re w τ d) hr λ_ _=>rfl)) ?_;rintro e w' ⟨v,rfl,hI⟩;exact⟨_,rfl,zq38 hI.row,(Beyond.re w τ d).trans ⟨hI.size,hI.old⟩⟩
    · rintro v w' ⟨hv,hb2⟩;exact h1 _ _ w' ⟨_,rfl,rfl,ScZ.all h hb2 hlen (.inr rfl) hv⟩
 ·
  simp only[al_gl,al_g0,al_g1,al_oi]at ho;subst ho;have eg:T[111]?=some (.bool true):=(hT 5 111 y5 (hdep ⟨5,.guard⟩ (by simp) rfl)).trans (h.v 5 (by decide) (by decide) (by decide) (hdep ⟨5,.guard⟩ (by simp) rfl));refine⟨by simp only[Region.wanted,zq1j y5 eg];rfl,?_⟩;have e6:T[6]?=some (.pointer (some ⟨Wb,0,none⟩)):=(hT0 6 (by kernel_rfl)).trans hF.t6;refine .inl ⟨rfl,.inl ⟨114,.pointer (some ⟨Wb,2,none⟩),w,rfl,?_,⟨rfl,ScZ.read h (Beyond.refl w) hlen (i:=8) (by decide) (by decide) (by decide) rfl⟩⟩⟩;simp only[execOp,Act.eval,al_gd,e6,al_od];go_simp
 ·
  simp only[al_gl,al_g0,al_g1,al_oi]at ho;subst ho;have eg:T[111]?=some (.bool true):=(hT 5 111 y5 (hdep ⟨5,.guard⟩ (by simp) rfl)).trans (h.v 5 (by decide) (by decide) (by decide) (hdep ⟨5,.guard⟩ (by simp) rfl));refine⟨by simp only[Region.wanted,zq1j y5 eg];rfl,?_⟩;have e114:T[114]?=some (.pointer (some ⟨Wb,2,none⟩)):=(hT 8 114 rfl (hdep ⟨8,.data⟩ (by simp) rfl)).trans (h.v 8 (by decide) (by decide) (by decide) (hdep ⟨8,.data⟩ (by simp) rfl));have c0:w.cell? ⟨Wb,2,none⟩=some sv:=(zq0 (off:=2) (h.be.heap HO.out.2.1)).trans rfl;refine .inl ⟨rfl,.inl ⟨115,sv,w,rfl,?_,⟨rfl,ScZ.read h (Beyond.refl w) hlen (i:=9) (by decide) (by decide) (by decide) rfl⟩⟩⟩;simp only[execOp,Act.eval,al_gd,e114,al_od];go_simp
 ·
  simp only[al_gl,al_g0,al_g1,al_oi]at ho;subst ho;have eg:T[111]?=some (.bool true):=(hT 5 111 y5 (hdep ⟨5,.guard⟩ (by simp) rfl)).trans (h.v 5 (by decide) (by decide) (by decide) (hdep ⟨5,.guard⟩ (by simp) rfl));refine⟨by simp only[Region.wanted,zq1j y5 eg];rfl,?_⟩;obtain⟨va,ha1,ha⟩:=h.q (hdep ⟨7,.data⟩ (by simp) rfl);have eA:T[113]?=some va:=(hT 7 113 rfl (hdep ⟨7,.data⟩ (by simp) rfl)).trans ha1;have e115:T[115]?=some (sv):=(hT 9 115 rfl (hdep ⟨9,.data⟩ (by simp) rfl)).trans (h.v 9 (by decide) (by decide) (by decide) (hdep ⟨9,.data⟩ (by simp) rfl));refine .inr ⟨116,16,#[va,sv],rfl,λw=>?_,λw=>?_,?_⟩
  · simp only[execOp,Act.eval,al_gd,eA,e115,al_od,List.map_toArray,List.map_cons,List.map_nil];simp[go_sem,execOp,Act.eval,resolve,Deferred.ofValue,invoke,callFunc,Try.func16,Try.f16,eA,e115]
  · simp only[execOp,Act.eval,al_gd,eA,e115,al_od,List.map_toArray,List.map_cons,List.map_nil];simp[go_sem,execOp,Act.eval,resolve,Deferred.ofValue,invoke,callFunc,Try.func16,Try.f16,eA,e115]
  · intro cl cs' h1 _;refine zq2f (j0_JS hFin) (zq1n hFin) zql Try.func16 rfl (by kernel_rfl) (R:=λv w'=>v=.bool true/\Beyond w w') (λv w' τ d h=>⟨h.1,h.2.trans (Beyond.re _ _ _)⟩) (λτ d=>?_) ?_
    · refine Calls.mono (zq3l (l:=stl) (by have:=HO.out.2.2.2.1;omega) (ha.beyond (Beyond.re w τ d)) (HO.out.2.2.1.beyond (h.be.trans (Beyond.re w τ d)))) ?_;rintro e w' ⟨rfl,n,rfl⟩;exact⟨_,rfl,rfl,(Beyond.re w τ d).trans (Beyond.drew _ _)⟩
    · rintro v w' ⟨rfl,hb2⟩;exact h1 _ _ w' ⟨_,rfl,rfl,ScZ.read h hb2 hlen (i:=10) (by decide) (by decide) (by decide) rfl⟩
 ·
  simp only[al_gl,al_g0,al_g1,al_oi]at ho;subst ho;refine⟨rfl,?_⟩;have e111:T[111]?=some (.bool true):=(hT 5 111 rfl (hdep ⟨5,.data⟩ (by simp) rfl)).trans (h.v 5 (by decide) (by decide) (by decide) (hdep ⟨5,.data⟩ (by simp) rfl));have e116:T[116]?=some (.bool true):=(hT 10 116 rfl (hdep ⟨10,.data⟩ (by simp) rfl)).trans (h.v 10 (by decide) (by decide) (by decide) (hdep ⟨10,.data⟩ (by simp) rfl));refine .inl ⟨rfl,.inl ⟨117,.bool true,w,rfl,?_,⟨rfl,ScZ.read h (Beyond.refl w) hlen (i:=11) (by decide) (by decide) (by decide) rfl⟩⟩⟩;simp only[execOp,Act.eval,al_gd,e111,e116,al_od];go_simp
 ·
  simp only[al_gl,al_g0,al_g1,al_oi]at ho;subst ho;refine⟨rfl,?_⟩;have e117:T[117]?=some (.bool true):=(hT 11 117 rfl (hdep ⟨11,.data⟩ (by simp) rfl)).trans (h.v 11 (by decide) (by decide) (by decide) (hdep ⟨11,.data⟩ (by simp) rfl));refine .inl ⟨rfl,.inl ⟨118,.bool true,w,rfl,?_,⟨rfl,ScZ.read h (Beyond.refl w) hlen (i:=12) (by decide) (by decide) (by decide) rfl⟩⟩⟩;simp only[execOp,Act.eval,al_gd,e117,al_od];go_simp
 ·
  simp only[al_gl,al_g0,al_g1,al_oi]at ho;subst ho;have eg:T[118]?=some (.bool true):=(hT 12 118 y12 (hdep ⟨12,.guard⟩ (by simp) rfl)).trans (h.v 12 (by decide) (by decide) (by decide) (hdep ⟨12,.guard⟩ (by simp) rfl));refine⟨by simp only[Region.wanted,zq1j y12 eg];rfl,?_⟩;have e7:T[7]?=some (.pointer (some ⟨K+1,0,none⟩)):=(hT0 7 (by kernel_rfl)).trans hF.t7;refine .inl ⟨rfl,.inl ⟨119,.pointer (some ⟨K+1,0,none⟩),w,rfl,?_,⟨rfl,ScZ.read h (Beyond.refl w) hlen (i:=13) (by decide) (by decide) (by decide) rfl⟩⟩⟩;simp only[execOp,Act.eval,al_gd,e7,al_od];go_simp
 ·
  simp only[al_gl,al_g0,al_g1,al_oi]at ho;subst ho;have eg:T[118]?=some (.bool true):=(hT 12 118 y12 (hdep ⟨12,.guard⟩ (by simp) rfl)).trans (h.v 12 (by decide) (by decide) (by decide) (hdep ⟨12,.guard⟩ (by simp) rfl));refine⟨by simp only[Region.wanted,zq1j y12 eg];rfl,?_⟩;have e119:T[119]?=some (.pointer (some ⟨K+1,0,none⟩)):=(hT 13 119 rfl (hdep ⟨13,.data⟩ (by simp) rfl)).trans (h.v 13 (by decide) (by decide) (by decide) (hdep ⟨13,.data⟩ (by simp) rfl));refine .inr ⟨120,18,#[.pointer (some ⟨K+1,0,none⟩)],rfl,λw=>?_,λw=>?_,?_⟩
  · simp only[execOp,Act.eval,al_gd,e119,al_od,List.map_toArray,List.map_cons,List.map_nil];simp[go_sem,execOp,Act.eval,resolve,Deferred.ofValue,invoke,callFunc,Try.func18,Try.f18,e119]
  · simp only[execOp,Act.eval,al_gd,e119,al_od,List.map_toArray,List.map_cons,List.map_nil];simp[go_sem,execOp,Act.eval,resolve,Deferred.ofValue,invoke,callFunc,Try.func18,Try.f18,e119]
  · intro cl cs' h1 _;have hr:=(HO.out.1.beyond h.be).one;refine zq2f (j0_JS hFin) (zq1n hFin) zql Try.func18 rfl (by kernel_rfl) (R:=λv w'=>v=.int .i64 tot/\Beyond w w') (λv w' τ d h=>⟨h.1,h.2.trans (Beyond.re _ _ _)⟩) (λτ d=>?_) ?_
    · refine Calls.mono (total_lone ((zq6 _ _ _).frame _ _ (re w τ d) hr λ_ _=>rfl)) ?_;rintro e w' ⟨rfl,hb1,hb2⟩;exact⟨_,rfl,by rw[HO.out.2.2.2.2.1],(Beyond.re w τ d).trans ⟨hb1,hb2⟩⟩
    · rintro v w' ⟨rfl,hb2⟩;exact h1 _ _ w' ⟨_,rfl,rfl,ScZ.read h hb2 hlen (i:=14) (by decide) (by decide) (by decide) rfl⟩
 ·
  simp only[al_gl,al_g0,al_g1,al_oi]at ho;subst ho;have eg:T[118]?=some (.bool true):=(hT 12 118 y12 (hdep ⟨12,.guard⟩ (by simp) rfl)).trans (h.v 12 (by decide) (by decide) (by decide) (hdep ⟨12,.guard⟩ (by simp) rfl));refine⟨by simp only[Region.wanted,zq1j y12 eg];rfl,?_⟩;have e13:T[13]?=some (.int .i64 tot):=(hT0 13 (by kernel_rfl)).trans h13;refine .inl ⟨rfl,.inl ⟨121,.int .i64 tot,w,rfl,?_,⟨rfl,ScZ.read h (Beyond.refl w) hlen (i:=15) (by decide) (by decide) (by decide) rfl⟩⟩⟩;simp only[execOp,Act.eval,al_gd,e13,al_od];go_simp
 ·
  simp only[al_gl,al_g0,al_g1,al_oi]at ho;subst ho;have eg:T[118]?=some (.bool true):=(hT 12 118 y12 (hdep ⟨12,.guard⟩ (by simp) rfl)).trans (h.v 12 (by decide) (by decide) (by decide) (hdep ⟨12,.guard⟩ (by simp) rfl));refine⟨by simp only[Region.wanted,zq1j y12 eg];rfl,?_⟩;have e120:T[120]?=some (.int .i64 tot):=(hT 14 120 rfl (hdep ⟨14,.data⟩ (by simp) rfl)).trans (h.v 14 (by decide) (by decide) (by decide) (hdep ⟨14,.data⟩ (by simp) rfl));have e121:T[121]?=some (.int .i64 tot):=(hT 15 121 rfl (hdep ⟨15,.data⟩ (by simp) rfl)).trans (h.v 15 (by decide) (by decide) (by decide) (hdep ⟨15,.data⟩ (by simp) rfl));refine .inl ⟨rfl,.inl ⟨122,.bool true,w,rfl,?_,⟨rfl,ScZ.read h (Beyond.refl w) hlen (i:=16) (by decide) (by decide) (by decide) rfl⟩⟩⟩;simp only[execOp,Act.eval,al_gd,e120,e121,al_od];go_simp
 ·
  simp only[al_gl,al_g0,al_g1,al_oi]at ho;subst ho;refine⟨rfl,?_⟩;have e118:T[118]?=some (.bool true):=(hT 12 118 rfl (hdep ⟨12,.data⟩ (by simp) rfl)).trans (h.v 12 (by decide) (by decide) (by decide) (hdep ⟨12,.data⟩ (by simp) rfl));have e122:T[122]?=some (.bool true):=(hT 16 122 rfl (hdep ⟨16,.data⟩ (by simp) rfl)).trans (h.v 16 (by decide) (by decide) (by decide) (hdep ⟨16,.data⟩ (by simp) rfl));refine .inl ⟨rfl,.inl ⟨123,.bool true,w,rfl,?_,⟨rfl,ScZ.read h (Beyond.refl w) hlen (i:=17) (by decide) (by decide) (by decide) rfl⟩⟩⟩;simp only[execOp,Act.eval,al_gd,e118,e122,al_od];go_simp
 ·
  simp only[al_gl,al_g0,al_g1,al_oi]at ho;subst ho;refine⟨rfl,?_⟩;have e123:T[123]?=some (.bool true):=(hT 17 123 rfl (hdep ⟨17,.data⟩ (by simp) rfl)).trans (h.v 17 (by decide) (by decide) (by decide) (hdep ⟨17,.data⟩ (by simp) rfl));refine .inl ⟨rfl,.inl ⟨124,.bool true,w,rfl,?_,⟨rfl,ScZ.read h (Beyond.refl w) hlen (i:=18) (by decide) (by decide) (by decide) rfl⟩⟩⟩;simp only[execOp,Act.eval,al_gd,e123,al_od];go_simp
 ·
  simp only[al_gl,al_g0,al_g1,al_oi]at ho;subst ho;have eg:T[124]?=some (.bool true):=(hT 18 124 y18 (hdep ⟨18,.guard⟩ (by simp) rfl)).trans (h.v 18 (by decide) (by decide) (by decide) (hdep ⟨18,.guard⟩ (by simp) rfl));refine⟨by simp only[Region.wanted,zq1j y18 eg];rfl,?_⟩;have e9:T[9]?=some (.pointer (some ⟨K+4,0,none⟩)):=(hT0 9 (by kernel_rfl)).trans hF.t9;refine .inl ⟨rfl,.inl ⟨125,.pointer (some ⟨K+4,0,none⟩),w,rfl,?_,⟨rfl,ScZ.read h (Beyond.refl w) hlen (i:=19) (by decide) (by decide) (by decide) rfl⟩⟩⟩;simp only[execOp,Act.eval,al_gd,e9,al_od];go_simp
 ·
  simp only[al_gl,al_g0,al_g1,al_oi]at ho;subst ho;have eg:T[124]?=some (.bool true):=(hT 18 124 y18 (hdep ⟨18,.guard⟩ (by simp) rfl)).trans (h.v 18 (by decide) (by decide) (by decide) (hdep ⟨18,.guard⟩ (by simp) rfl));refine⟨by simp only[Region.wanted,zq1j y18 eg];rfl,?_⟩;have e125:T[125]?=some (.pointer (some ⟨K+4,0,none⟩)):=(hT 19 125 rfl (hdep ⟨19,.data⟩ (by simp) rfl)).trans (h.v 19 (by decide) (by decide) (by decide) (hdep ⟨19,.data⟩ (by simp) rfl));refine .inl ⟨rfl,.inl ⟨126,.pointer (some ⟨K+4,0,none⟩),w,rfl,?_,⟨rfl,ScZ.read h (Beyond.refl w) hlen (i:=20) (by decide) (by decide) (by decide) rfl⟩⟩⟩;simp only[execOp,Act.eval,al_gd,e125,al_od];go_simp
 ·
  simp only[al_gl,al_g0,al_g1,al_oi]at ho;subst ho;have eg:T[124]?=some (.bool true):=(hT 18 124 y18 (hdep ⟨18,.guard⟩ (by simp) rfl)).trans (h.v 18 (by decide) (by decide) (by decide) (hdep ⟨18,.guard⟩ (by simp) rfl));refine⟨by simp only[Region.wanted,zq1j y18 eg];rfl,?_⟩;have e126:T[126]?=some (.pointer (some ⟨K+4,0,none⟩)):=(hT 20 126 rfl (hdep ⟨20,.data⟩ (by simp) rfl)).trans (h.v 20 (by decide) (by decide) (by decide) (hdep ⟨20,.data⟩ (by simp) rfl));refine .inl ⟨rfl,.inl ⟨127,.pointer (some ⟨K+4,0,none⟩),w,rfl,?_,⟨rfl,ScZ.read h (Beyond.refl w) hlen (i:=21) (by decide) (by decide) (by decide) rfl⟩⟩⟩;simp only[execOp,Act.eval,al_gd,e126,al_od];go_simp
 ·
  simp only[al_gl,al_g0,al_g1,al_oi]at ho;subst ho;have eg:T[124]?=some (.bool true):=(hT 18 124 y18 (hdep ⟨18,.guard⟩ (by simp) rfl)).trans (h.v 18 (by decide) (by decide) (by decide) (hdep ⟨18,.guard⟩ (by simp) rfl));refine⟨by simp only[Region.wanted,zq1j y18 eg];rfl,?_⟩;have e127:T[127]?=some (.pointer (some ⟨K+4,0,none⟩)):=(hT 21 127 rfl (hdep ⟨21,.data⟩ (by simp) rfl)).trans (h.v 21 (by decide) (by decide) (by decide) (hdep ⟨21,.data⟩ (by simp) rfl));have c0:w.cell? ⟨K+4,0,none⟩=some (.int .i64 cnt):=((zq0 (off:=0) (HO.out.1.beyond h.be).cnt).trans rfl).trans (by rw[HO.out.2.2.2.2.2.1];rfl);refine .inl ⟨rfl,.inl ⟨128,.int .i64 cnt,w,rfl,?_,⟨rfl,ScZ.read h (Beyond.refl w) hlen (i:=22) (by decide) (by decide) (by decide) rfl⟩⟩⟩;simp only[execOp,Act.eval,al_gd,e127,al_od];go_simp
 ·
  simp only[al_gl,al_g0,al_g1,al_oi]at ho;subst ho;have eg:T[124]?=some (.bool true):=(hT 18 124 y18 (hdep ⟨18,.guard⟩ (by simp) rfl)).trans (h.v 18 (by decide) (by decide) (by decide) (hdep ⟨18,.guard⟩ (by simp) rfl));refine⟨by simp only[Region.wanted,zq1j y18 eg];rfl,?_⟩;have e6:T[6]?=some (.pointer (some ⟨Wb,0,none⟩)):=(hT0 6 (by kernel_rfl)).trans hF.t6;refine .inl ⟨rfl,.inl ⟨129,.pointer (some ⟨Wb,1,none⟩),w,rfl,?_,⟨rfl,ScZ.read h (Beyond.refl w) hlen (i:=23) (by decide) (by decide) (by decide) rfl⟩⟩⟩;simp only[execOp,Act.eval,al_gd,e6,al_od];go_simp
 ·
  simp only[al_gl,al_g0,al_g1,al_oi]at ho;subst ho;have eg:T[124]?=some (.bool true):=(hT 18 124 y18 (hdep ⟨18,.guard⟩ (by simp) rfl)).trans (h.v 18 (by decide) (by decide) (by decide) (hdep ⟨18,.guard⟩ (by simp) rfl));refine⟨by simp only[Region.wanted,zq1j y18 eg];rfl,?_⟩;have e129:T[129]?=some (.pointer (some ⟨Wb,1,none⟩)):=(hT 23 129 rfl (hdep ⟨23,.data⟩ (by simp) rfl)).trans (h.v 23 (by decide) (by decide) (by decide) (hdep ⟨23,.data⟩ (by simp) rfl));have c0:w.cell? ⟨Wb,1,none⟩=some (.slice op lo Co):=(zq0 (off:=1) (h.be.heap HO.out.2.1)).trans rfl;refine .inl ⟨rfl,.inl ⟨130,.slice op lo Co,w,rfl,?_,⟨rfl,ScZ.read h (Beyond.refl w) hlen (i:=24) (by decide) (by decide) (by decide) rfl⟩⟩⟩;simp only[execOp,Act.eval,al_gd,e129,al_od];go_simp
 ·
  simp only[al_gl,al_g0,al_g1,al_oi]at ho;subst ho;have eg:T[124]?=some (.bool true):=(hT 18 124 y18 (hdep ⟨18,.guard⟩ (by simp) rfl)).trans (h.v 18 (by decide) (by decide) (by decide) (hdep ⟨18,.guard⟩ (by simp) rfl));refine⟨by simp only[Region.wanted,zq1j y18 eg];rfl,?_⟩;have e130:T[130]?=some (.slice op lo Co):=(hT 24 130 rfl (hdep ⟨24,.data⟩ (by simp) rfl)).trans (h.v 24 (by decide) (by decide) (by decide) (hdep ⟨24,.data⟩ (by simp) rfl));refine .inl ⟨rfl,.inl ⟨131,.int .i64 lo,w,rfl,?_,⟨rfl,ScZ.read h (Beyond.refl w) hlen (i:=25) (by decide) (by decide) (by decide) rfl⟩⟩⟩;simp only[execOp,Act.eval,al_gd,e130,al_od];go_simp
 ·
  simp only[al_gl,al_g0,al_g1,al_oi]at ho;subst ho;have eg:T[124]?=some (.bool true):=(hT 18 124 y18 (hdep ⟨18,.guard⟩ (by simp) rfl)).trans (h.v 18 (by decide) (by decide) (by decide) (hdep ⟨18,.guard⟩ (by simp) rfl));refine⟨by simp only[Region.wanted,zq1j y18 eg];rfl,?_⟩;have e128:T[128]?=some (.int .i64 cnt):=(hT 22 128 rfl (hdep ⟨22,.data⟩ (by simp) rfl)).trans (h.v 22 (by decide) (by decide) (by decide) (hdep ⟨22,.data⟩ (by simp) rfl));have e131:T[131]?=some (.int .i64 lo):=(hT 25 131 rfl (hdep ⟨25,.data⟩ (by simp) rfl)).trans (h.v 25 (by decide) (by decide) (by decide) (hdep ⟨25,.data⟩ (by simp) rfl));have hc:=HO.out.2.2.2.2.2.2;refine .inl ⟨rfl,.inl ⟨132,.bool true,w,rfl,?_,⟨rfl,ScZ.read h (Beyond.refl w) hlen (i:=26) (by decide) (by decide) (by decide) rfl⟩⟩⟩;simp only[execOp,Act.eval,al_gd,e128,e131,al_od];go_simp
 ·
  simp only[al_gl,al_g0,al_g1,al_oi]at ho;subst ho;refine⟨rfl,?_⟩;have e124:T[124]?=some (.bool true):=(hT 18 124 rfl (hdep ⟨18,.data⟩ (by simp) rfl)).trans (h.v 18 (by decide) (by decide) (by decide) (hdep ⟨18,.data⟩ (by simp) rfl));have e132:T[132]?=some (.bool true):=(hT 26 132 rfl (hdep ⟨26,.data⟩ (by simp) rfl)).trans (h.v 26 (by decide) (by decide) (by decide) (hdep ⟨26,.data⟩ (by simp) rfl));refine .inl ⟨rfl,.inl ⟨133,.bool true,w,rfl,?_,⟨rfl,ScZ.read h (Beyond.refl w) hlen (i:=27) (by decide) (by decide) (by decide) rfl⟩⟩⟩;simp only[execOp,Act.eval,al_gd,e124,e132,al_od];go_simp
 ·
  simp only[al_gl,al_g0,al_g1,al_oi]at ho;subst ho;refine⟨rfl,?_⟩;have e133:T[133]?=some (.bool true):=(hT 27 133 rfl (hdep ⟨27,.data⟩ (by simp) rfl)).trans (h.v 27 (by decide) (by decide) (by decide) (hdep ⟨27,.data⟩ (by simp) rfl));refine .inl ⟨rfl,.inl ⟨4,.bool true,w,rfl,?_,⟨rfl,ScZ.read h (Beyond.refl w) hlen (i:=28) (by decide) (by decide) (by decide) rfl⟩⟩⟩;simp only[execOp,Act.eval,al_gd,e133,al_od];go_simp
theorem sc_r14{W w:World}{K Wb n N c:Nat}{st:Int}{l:List Int}{opsv:Value}{T:Array Value}(hF:ScF K Wb n st opsv T)(hE:ScE W K N l c w)(τ:Nat->Question->Nat)(d:Nat):
 Code.wp Try.prog (headC (scT 7)) (ends (λa' w'=>ScF K Wb n st opsv a'.tmps/\a'.tmps[13]?=some (.int .i64 0)/\ScE W K N l c w') (λ_ _=>False)) ⟨T,[]⟩ (re w τ d):=by
 have HE:=Lib.hid (hE.beyond (Beyond.re w τ d));clear hE;obtain⟨u,hu⟩:∃c,headC (scT 7)=c:=⟨_,rfl⟩;have eu:=hu;rw[hu];simp only[scI,scB,cqL,cqR,cqB,cqO,scT,headC,tailN,Try.f4,al_od]at eu;subst eu;clear hu;obtain⟨x,hT,hx⟩:=lit134 hF.sz;have e0:x 0=.int .i64 st:=Option.some.inj ((hx 0 (by decide)).symm.trans hF.t0);have e1:x 1=opsv:=Option.some.inj ((hx 1 (by decide)).symm.trans hF.t1);have e4:x 4=.bool false:=Option.some.inj ((hx 4 (by decide)).symm.trans hF.t4);have e5:x 5=.int .i64 n:=Option.some.inj ((hx 5 (by decide)).symm.trans hF.t5);have e6:x 6=.pointer (some ⟨Wb,0,none⟩):=Option.some.inj ((hx 6 (by decide)).symm.trans hF.t6);have e7:x 7=.pointer (some ⟨K+1,0,none⟩):=Option.some.inj ((hx 7 (by decide)).symm.trans hF.t7);have e8:x 8=.pointer (some ⟨K+3,0,none⟩):=Option.some.inj ((hx 8 (by decide)).symm.trans hF.t8);have e9:x 9=.pointer (some ⟨K+4,0,none⟩):=Option.some.inj ((hx 9 (by decide)).symm.trans hF.t9);subst hT;simp only[e0,e1,e4,e5,e6,e7,e8,e9];clear e0 e1 e4 e5 e6 e7 e8 e9 hx hF;go_wp2;exact⟨rfl,⟨rfl,rfl,rfl,rfl,rfl,rfl,rfl,rfl,rfl⟩,rfl,HE.out⟩
theorem sc_rest{Post:Value->World->Prop}(hPost:∀v w τ d,Post v w->Post v (re w τ d)){s:Nat}{W w:World}{K Wb n N ab ao cA nn:Nat}{st:Int}{opsv qv ov sv:Value}{ans:List Ans}{ord stl:List Int}{ops:List OpX}{T:Array Value}(hK:ScK W Wb ab ao cA qv ov sv ans ord stl)(hlen:ans.length=ops.length)(hst:stl.length<=64)(hno:ord.length=nn)(hnn:nn<=1048576)
 (hH:ScH W K Wb n N st opsv ops ans stl nn ans.length ⟨T,[]⟩ w) (hend:∀w',Beyond W w'->Post (.bool true) w'):J0 Try.prog (FinOf Try.prog Post) s (G ((bN 4).at ⟨T,[]⟩ [.code (scT 7)]) []) w:=by
 have hFin:=back_fin (P:=Try.prog) Post;have hJ:=j0_JS hFin;have hC:=zq1n hFin;obtain⟨_,hF,h10,l,c,hE,hl,ha,hn⟩:=hH;rw[List.drop_eq_nil_of_le (by omega)]at hl hn;have hl':l=stl:=hl;have hn':c+0=nn:=hn;subst hl';obtain rfl:c=nn:=by omega
 clear hl hn hn' ha h10;simp only at hF;obtain⟨op,Co,rfl,hov⟩:=hK.ov;obtain⟨sp,Cs,rfl,hsv⟩:=hK.sv;rw[scZ1];refine hJ.ctl (s:=s) (λw=>stepG_seq) ?_;refine zq1l hJ hC zql (by kernel_rfl) (λt w'=>ScF K Wb n st opsv t/\t[13]?=some (.int .i64 0)/\ScE W K N l c w') (λt w' τ d h=>⟨h.1,h.2.1,h.2.2.beyond (Beyond.re _ _ _)⟩) (by decide) (sc_r14 hF hE) ?_;clear hF hE;rintro t1 w1 ⟨hF,h13,hE⟩;refine hJ.ctl (s:=s) (λw=>stepG_seq) ?_;refine zq1l hJ hC zql (by kernel_rfl) (λt w'=>ScF K Wb n st opsv t/\t[13]?=some (.int .i64 (zq1h l))/\ScE W K N l c w') (λt w' τ d h=>⟨h.1,h.2.1,h.2.2.beyond (Beyond.re _ _ _)⟩) (by decide) (sc_tot hF h13 hE hK.hd hK.sv hst) ?_;clear hF hE h13;rintro t2 w2 ⟨hF,h13,hE⟩;rw[scZ0];refine hJ.ctl (s:=s) (λw=>stepG_seq) ?_;have hw:wrap64 (c:Int)=(c:Int):=by simp only[wrap64]<;>omega
 have HO:=Lib.hid (And.intro hE (And.intro (hE.be.heap hK.hd) (And.intro (hK.sv.beyond hE.be) (And.intro hst (And.intro (rfl:zq1h l=zq1h l) (And.intro hw (show(c:Int)=(ord.length:Int)by rw[hno])))))));refine at_drawsG hJ (by decide) (by kernel_rfl) (by kernel_rfl) (by simp only[hF.sz];kernel_rfl) (λs1 L v w=>s1=s/\ScZ w2 [.pointer (some ⟨K+1,0,none⟩),undef,.pointer (some ⟨Wb,2,none⟩),.slice sp l.length Cs,.bool true,.bool true,.pointer (some ⟨K+3,0,none⟩),undef,.pointer (some ⟨Wb,2,none⟩),.slice sp l.length Cs,.bool true,.bool true,.bool true,.pointer (some ⟨K+1,0,none⟩),.int .i64 (zq1h l),.int .i64 (zq1h l),.bool true,.bool true,.bool true,.pointer (some ⟨K+4,0,none⟩),.pointer (some ⟨K+4,0,none⟩),.pointer (some ⟨K+4,0,none⟩),.int .i64 c,.pointer (some ⟨Wb,1,none⟩),.slice op ord.length Co,.int .i64 ord.length,.bool true,.bool true,.bool true] l L v w) (λs1 L v w τ d h=>⟨h.1,h.2.be.trans (Beyond.re _ _ _),h.2.v,λhl=>by obtain⟨v,h1,h2⟩:=h.2.p hl;exact⟨v,h1,h2.beyond (Beyond.re _ _ _)⟩,λhl=>by obtain⟨v,h1,h2⟩:=h.2.q hl;exact⟨v,h1,h2.beyond (Beyond.re _ _ _)⟩⟩) (List.replicate 29 undef) (by kernel_rfl) ⟨rfl,Beyond.refl _,λi _ _ _ h=>(by cases h),λh=>(by cases h),λh=>(by cases h)⟩ (sc_last hFin hF h13 HO) ?_;rintro s1 L vals w3 hall hvl ⟨rfl,hZ⟩;replace hvl:vals.length=29:=hvl;have h4:(putv scZR vals 0 t2)[4]?=some (.bool true):=by
  have h:=hZ.v 28 (by decide) (by decide) (by decide) (hall 28 (by decide));exact putv_at vals 0 _ 28 _ 4 h (by kernel_rfl) (by rw[hF.sz];decide) λm q1 q2 e=>by omega
 generalize putv scZR vals 0 t2=t3 at h4 ⊢;refine hJ.ctl (s:=s1) (λw=>stepG_region_end) ?_;refine at_rest_end (P:=Try.prog) hPost zql (by kernel_rfl) rfl (by kernel_rfl) Try.func4 (λτ d=>?_);have HE:=Lib.hid (hend _ ((hE.be.trans hZ.be).trans (Beyond.re w3 τ d)));clear hend hZ hE;go_wp2;refine bodyPost_ret (v:=.bool true) ?_ rfl ⟨_,rfl,HE.out⟩;simp only[results,Try.f4];simp[go_sem,h4]
structure Sc1(st:Int)(opsv:Value)(T:Array Value):Prop where
 sz:T.size=134
 t0:T[0]?=some (.int .i64 st)
 t1:T[1]?=some opsv
 t4:T[4]?=some (.bool false)
structure Sc3(n:Nat)(st:Int)(opsv:Value)(T:Array Value):Prop extends Sc1 st opsv T where
 t5:T[5]?=some (.int .i64 n)
structure Sc4(Wb n:Nat)(st:Int)(opsv:Value)(T:Array Value):Prop extends Sc3 n st opsv T where
 t6:T[6]?=some (.pointer (some ⟨Wb,0,none⟩))
structure ScIn(W:World)(p:Option Addr)(C:Nat)(ops:List OpX):Prop where
 len:ops.length<=1048576
 le:ops.length<=C
 at':ops≠[]->∃g go,p=some ⟨g,go,none⟩/\∀(k:Nat)(c:OpX),ops[k]?=some c->∀j,j<4->W.cell? ⟨g,go+k*4+j,none⟩=c.cells[j]?
structure ScKs(W:World)(Wb ab ao cA:Nat)(qv ov sv:Value)(ans:List Ans)(ord st:List Int)(stk:Bool):Prop where
 hd:W.heap[Wb]?=some (.cells #[.slice (some ⟨ab,ao,none⟩) 1 cA,ov,sv,.bool stk] 31)
 row:W.cell? ⟨ab,ao,none⟩=some qv
 an:AnsAt W qv ans
 nol:∀a∈ans,a.l=[]
 ov:IntsAt W ov ord
 sv:IntsAt W sv st
theorem ScKs.beyond {W w:World}{Wb ab ao cA:Nat}{qv ov sv:Value}{ans:List Ans}{ord st:List Int}{stk:Bool}(h:ScKs W Wb ab ao cA qv ov sv ans ord st stk)(hb:Beyond W w):ScKs w Wb ab ao cA qv ov sv ans ord st stk:=
 ⟨hb.heap h.hd,hb.cell h.row,h.an.beyond hb,h.nol,h.ov.beyond hb,h.sv.beyond hb⟩
theorem make_i64(w:World)(W:Nat)(hW:W<=1099511627776):(Instr.makeSlice 22 (.int .i64 W) (.int .i64 W)).run Try.prog w=.ok (.slice (some ⟨w.heap.size,0,none⟩) W W) (w.alloc (.cells (Array.replicate W (.int .i64 0)) 2)):=by
 obtain⟨ti,hti,hz,hz1,hz2⟩:∃ti,Try.prog.info? 2=some ti/\ti.zero=some (.int .i64 0)/\ti.size=1/\ti.bytes=8:=⟨_,rfl,rfl,rfl,rfl⟩;have:=run_make (P:=Try.prog) w 22 2 ti (.int .i64 0) (by kernel_rfl) hti hz .i64 .i64 W W (by omega) (Int.le_refl _) (by rw[hz2];omega) (by omega);simp only[Int.toNat_natCast,hz1,Nat.mul_one]at this;rw[this];congr 3;have hzc:(Value.int .i64 0).cells=#[Value.int .i64 0]:=rfl;rw[hzc];apply Array.ext_getElem?;intro i
 by_cases hi:i<W
 · simp[madeCells,hi,Nat.mod_one]
 · simp[madeCells,hi]
theorem sc_r3{W w:World}{st:Int}{opsv:Value}{T:Array Value}(hF:Sc1 st opsv T)(hb:Beyond W w)(τ:Nat->Question->Nat)(d:Nat):
 Code.wp Try.prog (headC (scT 2)) (ends (λa' w'=>Sc3 (stripesN st) st opsv a'.tmps/\Beyond W w') (λ_ _=>False)) ⟨T,[]⟩ (re w τ d):=by
 have HB:=Lib.hid (hb.trans (Beyond.re w τ d));have e1:min (max st 1) 64=((stripesN st:Nat):Int):=by unfold stripesN;omega
 clear hb;obtain⟨u,hu⟩:∃c,headC (scT 2)=c:=⟨_,rfl⟩;have eu:=hu;rw[hu];simp only[scI,scB,cqL,cqR,cqB,cqO,scT,headC,tailN,Try.f4,al_od]at eu;subst eu;clear hu;obtain⟨x,hT,hx⟩:=lit134 hF.sz;have e0:x 0=.int .i64 st:=Option.some.inj ((hx 0 (by decide)).symm.trans hF.t0);have e1:x 1=opsv:=Option.some.inj ((hx 1 (by decide)).symm.trans hF.t1);have e4:x 4=.bool false:=Option.some.inj ((hx 4 (by decide)).symm.trans hF.t4);subst hT;simp only[e0,e1,e4];clear e0 e1 e4 hx hF;rcases(by omega:st<1\/(1<=st/\st<=64)\/64<st)with hc|⟨hc,hc'⟩|hc
 · have e2:(stripesN st:Int)=1:=by omega
   have h1:st<=1:=by omega
   have E:=Lib.hid (And.intro e1 e2);clear e1 e2;go_wp2;exact⟨rfl,⟨⟨rfl,rfl,rfl,rfl⟩,by rw[E.out.2];rfl⟩,HB.out⟩
 · have e2:(stripesN st:Int)=st:=by omega
   have E:=Lib.hid (And.intro e1 e2);clear e1 e2;go_wp2;exact⟨rfl,⟨⟨rfl,rfl,rfl,rfl⟩,by rw[E.out.2];rfl⟩,HB.out⟩
 · have e2:(stripesN st:Int)=64:=by omega
   have h1:1<=st:=by omega
   have h2:¬st<=64:=by omega
   have E:=Lib.hid (And.intro e1 e2);clear e1 e2;go_wp2;exact⟨rfl,⟨⟨rfl,rfl,rfl,rfl⟩,by rw[E.out.2];rfl⟩,HB.out⟩
theorem sc_want{W w:World}{p:Option Addr}{C N:Nat}{ops:List OpX}{R:RS}(hN:N<=64)(hI:ScIn W p C ops)(hb:Beyond W w)(hR:playR (λ_=>ops.take 65536) 1 1048576 [] (zq13 (List.replicate N 0))=R){w2:World}(hw2:w2=(w.alloc (.cells (Array.replicate N (.int .i64 0)) 2)).alloc (.cells #[.slice p ops.length C] 34)):
 Beyond w w2/\Calls Try.prog 11 #[.slice (some ⟨w.heap.size,0,none⟩) N N,.slice (some ⟨w.heap.size+1,0,none⟩) 1 1,.slice none 0 0,.int .i64 1048576] w2 λe w'=>∃v,e=.returned v/\TraceAt w' v 1 (λi=>(R.T i).ans) (R.ord.map λ(i:Nat)=>(i:Int)) R.C (decide (0<leftN (ovR R) 1))/\Beyond w2 w':=by
 have hb2:Beyond w w2:=by rw[hw2];exact(Beyond.alloc _ _).trans (Beyond.alloc _ _)
 have hs:w2.heap.size=w.heap.size+2:=by rw[hw2,zq5,zq5]
 have h0:w2.heap[w.heap.size]?=some (.cells (Array.replicate N (.int .i64 0)) 2):=by rw[hw2];exact zqe (zqr _ _)
 have h1:w2.heap[w.heap.size+1]?=some (.cells #[.slice p ops.length C] 34):=by rw[hw2,zq2,if_pos (by rw[zq5])]
 refine⟨hb2,?_⟩;have hlen:=hI.len;have hbW:=hb.trans hb2;have hin:RunIn w2.heap.size w2 (some ⟨w.heap.size+1,0,none⟩) 1 1 (λ_=>p) (λ_=>ops.length) (λ_=>C) (λ_=>.slice p (min ops.length 65536) C) (λ_=>ops.take 65536):=by
  refine⟨rfl,by decide,λ_=>⟨_,_,rfl,by omega,λi hi=>?_⟩,λi hi=>⟨hI.le,by omega,λhlt=>?_⟩,λi hi=>by rw[List.length_take,Nat.min_comm],λi hi=>rfl,λi hi=>⟨p,C,by rw[List.length_take,Nat.min_comm],λk op hop=>?_⟩⟩
  · obtain rfl:i=0:=by omega
    exact(zq0 h1).trans rfl
  · obtain⟨g,go,e,_⟩:=hI.at' (List.length_pos_iff.1 hlt);exact⟨g,go,e⟩
  · rw[List.getElem?_take]at hop;split at hop
    · obtain⟨g,go,e,hc⟩:=hI.at' (λe=>by rw[e]at hop;simp at hop);have cc:∀j(v:Value),op.cells[j]?=some v->j<4->w2.cell? ⟨g,go+k*4+j,none⟩=some v:=λj v hv hj=>hbW.cell ((hc k op hop j hj).trans hv);exact⟨g,go,e,cell_lt (cc 0 _ rfl (by decide)),cc 0 _ rfl (by decide),cc 1 _ rfl (by decide),cc 2 _ rfl (by decide),cc 3 _ rfl (by decide)⟩
    · cases hop
 exact refplay_lone (ws:=List.replicate N 0) (sched:=[]) (mo:=1048576) (N:=1) w2 (List.length_replicate ..) (by omega) (λhlt=>⟨w.heap.size,0,rfl,λi hi=>by
  rw[zq0 h0,Nat.zero_add,List.getD_eq_getElem?_getD,List.getElem?_replicate,if_pos hi,Array.getElem?_replicate,if_pos hi];rfl⟩) hin (by simp) (λh=>absurd rfl h) hR
theorem sc_r4{W w:World}{st:Int}{p:Option Addr}{C n:Nat}{ops:List OpX}{R:RS}{stk:Bool}{T:Array Value}(hF:Sc3 n st (.slice p ops.length C) T)(hn:n<=64)(hI:ScIn W p C ops)(hb:Beyond W w)(hR:playR (λ_=>ops.take 65536) 1 1048576 [] (zq13 (List.replicate n 0))=R)(hstk:decide (0<leftN (ovR R) 1)=stk)(hnol:NoL (R.T 0))(τ:Nat->Question->Nat)(d:Nat):
 Code.wp Try.prog (headC (scT 3)) (ends (λa' w'=>∃Wb ab ao cA qv ov sv,Sc4 Wb n st (.slice p ops.length C) a'.tmps/\Beyond W w'/\ScKs w' Wb ab ao cA qv ov sv (R.T 0).ans (R.ord.map λ(i:Nat)=>(i:Int)) R.C stk) (λ_ _=>False)) ⟨T,[]⟩ (re w τ d):=by
 have hbr:=hb.trans (Beyond.re w τ d);have HB:=Lib.hid hbr;obtain⟨wr,hwr⟩:∃x,re w τ d=x:=⟨_,rfl⟩;rw[hwr]at hbr HB ⊢;have hw:=sc_want hn hI hbr hR rfl;have HW:=Lib.hid hw;have hm:=make_i64 wr n (by omega);have HX:=Lib.hid (And.intro hstk hnol);obtain⟨lo',hlo'⟩:∃x,ops.length=x:=⟨_,rfl⟩;rw[hlo']at hF HW ⊢;clear hb hI hbr hw hwr hstk hnol hR hn hlo';obtain⟨u,hu⟩:∃c,headC (scT 3)=c:=⟨_,rfl⟩;have eu:=hu;rw[hu];simp only[scI,scB,cqL,cqR,cqB,cqO,scT,headC,tailN,Try.f4,al_od]at eu;subst eu;clear hu;obtain⟨x,hT,hx⟩:=lit134 hF.sz;have e0:x 0=.int .i64 st:=Option.some.inj ((hx 0 (by decide)).symm.trans hF.t0);have e1:x 1=.slice p lo' C:=Option.some.inj ((hx 1 (by decide)).symm.trans hF.t1);have e4:x 4=.bool false:=Option.some.inj ((hx 4 (by decide)).symm.trans hF.t4);have e5:x 5=.int .i64 n:=Option.some.inj ((hx 5 (by decide)).symm.trans hF.t5);subst hT;simp only[e0,e1,e4,e5];clear e0 e1 e4 e5 hx hF
 go_wp2_with (fail)
 refine Calls.mono HW.out.2 ?_;rintro e w' ⟨v,rfl,hT,hb2⟩;obtain⟨pA,cA,ov,sv,rfl,hov,hsv,hrow⟩:=hT;obtain⟨ab,ao,rfl,hr⟩:=hrow (by decide);obtain⟨qv,hq1,hq2⟩:=hr 0 (by decide);have e1:=hov;have e2:=hsv;obtain⟨po,Co,rfl,-⟩:=e1;obtain⟨ps,Cs,rfl,-⟩:=e2;rw[HX.out.1];have HK:=Lib.hid (And.intro hov (And.intro hsv (And.intro hq1 (And.intro hq2 ((HB.out.trans HW.out.1).trans hb2)))));obtain⟨lo,hlo⟩:∃x,(R.ord.map λ(i:Nat)=>(i:Int)).length=x:=⟨_,rfl⟩;obtain⟨ls,hls⟩:∃x,R.C.length=x:=⟨_,rfl⟩;rw[hlo,hls]at HK ⊢;clear hov hsv hrow hr hq1 hq2 hb2 HW HB hm hlo hls;go_wp2;obtain⟨h1,h2,h3,h4,h5⟩:=HK.out;have hb3:=Beyond.alloc w' (.cells #[.slice (some ⟨ab,ao,none⟩) 1 cA,.slice po lo Co,.slice ps ls Cs,.bool stk] 31);exact⟨rfl,w'.heap.size,ab,ao,cA,qv,_,_,⟨⟨⟨rfl,rfl,rfl,rfl⟩,rfl⟩,rfl⟩,h5.trans hb3,⟨zqr _ _,hb3.cell h3,h4.beyond hb3,HX.out.2,h1.beyond hb3,h2.beyond hb3⟩⟩
theorem cnt_zero:wrap64 ((0:Nat):Int)=0:=by kernel_rfl
theorem sc_r5{w:World}{st:Int}{Wb:Nat}{opsv:Value}{T:Array Value}(hF:Sc4 Wb (stripesN st) st opsv T)(τ:Nat->Question->Nat)(d:Nat):
 Code.wp Try.prog (headC (scT 4)) (ends (λa' w'=>ScF w.heap.size Wb (stripesN st) st opsv a'.tmps/\ScE w w.heap.size (stripesN st) (List.replicate (stripesN st) 0) 0 w') (λ_ _=>False)) ⟨T,[]⟩ (re w τ d):=by
 have HN:=Lib.hid (new_lone st);obtain⟨n,hn⟩:∃n,stripesN st=n:=⟨_,rfl⟩;rw[hn]at hF HN ⊢;have HB:=Lib.hid (Beyond.re w τ d);obtain⟨K,hK⟩:∃K,w.heap.size=K:=⟨_,rfl⟩;have hs:(re w τ d).heap.size=K:=hK;rw[hK];generalize re w τ d=w0 at HB hs ⊢;have HS:=Lib.hid (And.intro hs hK);clear hs hK hn;obtain⟨u,hu⟩:∃c,headC (scT 4)=c:=⟨_,rfl⟩;have eu:=hu;rw[hu];simp only[scI,scB,cqL,cqR,cqB,cqO,scT,headC,tailN,Try.f4,al_od]at eu;subst eu;clear hu;obtain⟨x,hT,hx⟩:=lit134 hF.sz;have e0:x 0=.int .i64 st:=Option.some.inj ((hx 0 (by decide)).symm.trans hF.t0);have e1:x 1=opsv:=Option.some.inj ((hx 1 (by decide)).symm.trans hF.t1);have e4:x 4=.bool false:=Option.some.inj ((hx 4 (by decide)).symm.trans hF.t4);have e5:x 5=.int .i64 n:=Option.some.inj ((hx 5 (by decide)).symm.trans hF.t5);have e6:x 6=.pointer (some ⟨Wb,0,none⟩):=Option.some.inj ((hx 6 (by decide)).symm.trans hF.t6);subst hT;simp only[e0,e1,e4,e5,e6];clear e0 e1 e4 e5 e6 hx hF
 go_wp2_with (fail)
 refine Calls.mono (HN.out w0) ?_;rintro e w1 ⟨rfl,h1⟩;rw[HS.out.1];have H1:=Lib.hid h1;clear h1
 go_wp2_with (fail)
 refine Calls.mono (HN.out w1) ?_;rintro e w2 ⟨rfl,h2⟩;rw[show w1.heap.size=K+2 by rw[H1.out.size,HS.out.1]];have H2:=Lib.hid h2;have s2:w2.heap.size=K+4:=by rw[h2.size,H1.out.size,HS.out.1]
 clear h2;go_wp2
 try rw[s2]
 obtain⟨r1,z1,o1⟩:=H1.out;obtain⟨r2,z2,o2⟩:=H2.out;have hs0:=HS.out.1;rw[hs0]at r1 z1 o1;rw[z1]at r2 z2 o2;have b1:Beyond w0 w1:=⟨by omega,λb hb=>o1 b (by omega)⟩;have b2:Beyond w1 w2:=⟨by omega,λb hb=>o2 b (by omega)⟩;have b3:=Beyond.alloc w2 (.cells #[.int .i64 0] 39);refine⟨rfl,⟨rfl,rfl,rfl,rfl,rfl,rfl,rfl,rfl,rfl⟩,((HB.out.trans b1).trans b2).trans b3,?_,?_,?_,?_⟩
 · exact(zq6 _ _ _).frame _ _ _ r1 λb hb=>(b2.trans b3).2 b ((zq6 _ _ _).lt _ _ _ r1 hb)
 · exact(zq6 _ _ _).frame _ _ _ r2 λb hb=>b3.2 b ((zq6 _ _ _).lt _ _ _ r2 hb)
 · rw[cnt_zero,←s2];exact zqr _ _
 · exact⟨by rw[HS.out.2];exact Nat.le_refl _,by rw[zq5,s2];omega⟩
theorem sc_r6{Post:Value->World->Prop}{W w:World}{K Wb n ab ao cA c:Nat}{st:Int}{opsv qv ov sv:Value}{ans:List Ans}{ord stl l:List Int}{stk:Bool}{T:Array Value}(hK:ScKs W Wb ab ao cA qv ov sv ans ord stl stk)(hF:ScF K Wb n st opsv T)(hE:ScE W K n l c w)(hend:∀w',Beyond W w'->Post (.bool true) w')(τ:Nat->Question->Nat)(d:Nat):
 Code.wp Try.prog (headC (scT 5)) (ends (λa' w'=>stk=false/\ScF K Wb n st opsv a'.tmps/\ScE W K n l c w') (λa' w'=>∃v,(results Try.f4 a'.tmps).run Try.prog w'=.ok v w'/\Post v w')) ⟨T,[]⟩ (re w τ d):=by
 have hE':=hE.beyond (Beyond.re w τ d);generalize re w τ d=w0 at hE' ⊢;have HE:=Lib.hid hE';have HP:=Lib.hid (hend _ hE'.be);have c3:w0.cell? ⟨Wb,3,none⟩=some (.bool stk):=(zq0 (off:=3) (hE'.be.heap hK.hd)).trans rfl;clear hE' hE hend hK;obtain⟨u,hu⟩:∃c,headC (scT 5)=c:=⟨_,rfl⟩;have eu:=hu;rw[hu];simp only[scI,scB,cqL,cqR,cqB,cqO,scT,headC,tailN,Try.f4,al_od]at eu;subst eu;clear hu;obtain⟨x,hT,hx⟩:=lit134 hF.sz;have e0:x 0=.int .i64 st:=Option.some.inj ((hx 0 (by decide)).symm.trans hF.t0);have e1:x 1=opsv:=Option.some.inj ((hx 1 (by decide)).symm.trans hF.t1);have e4:x 4=.bool false:=Option.some.inj ((hx 4 (by decide)).symm.trans hF.t4);have e5:x 5=.int .i64 n:=Option.some.inj ((hx 5 (by decide)).symm.trans hF.t5);have e6:x 6=.pointer (some ⟨Wb,0,none⟩):=Option.some.inj ((hx 6 (by decide)).symm.trans hF.t6);have e7:x 7=.pointer (some ⟨K+1,0,none⟩):=Option.some.inj ((hx 7 (by decide)).symm.trans hF.t7);have e8:x 8=.pointer (some ⟨K+3,0,none⟩):=Option.some.inj ((hx 8 (by decide)).symm.trans hF.t8);have e9:x 9=.pointer (some ⟨K+4,0,none⟩):=Option.some.inj ((hx 9 (by decide)).symm.trans hF.t9);subst hT;simp only[e0,e1,e4,e5,e6,e7,e8,e9];clear e0 e1 e4 e5 e6 e7 e8 e9 hx hF;cases stk with
 |true=>
  go_wp2_with (fail)
  refine Calls.mono (zq34 HE.out.one.head) ?_;rintro e w' ⟨rfl,rfl⟩;go_wp2;refine⟨rfl,.bool true,?_,HP.out⟩;simp only[results,Try.f4];simp[go_sem]
 |false=>
  go_wp2_with (fail)
  refine Calls.mono (zq34 HE.out.one.head) ?_;rintro e w' ⟨rfl,rfl⟩;go_wp2;exact⟨rfl,⟨rfl,rfl,rfl,rfl,rfl,rfl,rfl,rfl,rfl⟩,HE.out⟩
theorem sc_r8{W w:World}{K Wb n N c:Nat}{st:Int}{l:List Int}{opsv:Value}{T:Array Value}(hF:ScF K Wb n st opsv T)(hE:ScE W K N l c w)(τ:Nat->Question->Nat)(d:Nat):
 Code.wp Try.prog (cqL (headC (scT 6))) (ends (λa' w'=>ScF K Wb n st opsv a'.tmps/\a'.tmps[10]?=some (.int .i64 ((0:Nat):Int))/\ScE W K N l c w') (λ_ _=>False)) ⟨T,[]⟩ (re w τ d):=by
 have HE:=Lib.hid (hE.beyond (Beyond.re w τ d));clear hE;obtain⟨u,hu⟩:∃c,cqL (headC (scT 6))=c:=⟨_,rfl⟩;have eu:=hu;rw[hu];simp only[scI,scB,cqL,cqR,cqB,cqO,scT,headC,tailN,Try.f4,al_od]at eu;subst eu;clear hu;obtain⟨x,hT,hx⟩:=lit134 hF.sz;have e0:x 0=.int .i64 st:=Option.some.inj ((hx 0 (by decide)).symm.trans hF.t0);have e1:x 1=opsv:=Option.some.inj ((hx 1 (by decide)).symm.trans hF.t1);have e4:x 4=.bool false:=Option.some.inj ((hx 4 (by decide)).symm.trans hF.t4);have e5:x 5=.int .i64 n:=Option.some.inj ((hx 5 (by decide)).symm.trans hF.t5);have e6:x 6=.pointer (some ⟨Wb,0,none⟩):=Option.some.inj ((hx 6 (by decide)).symm.trans hF.t6);have e7:x 7=.pointer (some ⟨K+1,0,none⟩):=Option.some.inj ((hx 7 (by decide)).symm.trans hF.t7);have e8:x 8=.pointer (some ⟨K+3,0,none⟩):=Option.some.inj ((hx 8 (by decide)).symm.trans hF.t8);have e9:x 9=.pointer (some ⟨K+4,0,none⟩):=Option.some.inj ((hx 9 (by decide)).symm.trans hF.t9);subst hT;simp only[e0,e1,e4,e5,e6,e7,e8,e9];clear e0 e1 e4 e5 e6 e7 e8 e9 hx hF;go_wp2;exact⟨rfl,⟨rfl,rfl,rfl,rfl,rfl,rfl,rfl,rfl,rfl⟩,rfl,HE.out⟩
end Go.Proofs
