/- YtkdlklpffdlglaaOAlone10: part 13 of the proof (the texts behind it, in order). -/
import Derived.Test.YtkdlklpffdlglaaR12
set_option maxHeartbeats 4000000
set_option maxRecDepth 100000
set_option linter.all false
namespace Go
theorem zxg {p : Prop} (h : p := by obtain⟨g,rfl⟩:∃g,gk=g+1:=⟨gk - 1,by have:=hf HC.out.1;have:=HC.out.2.1;omega⟩;rw[zq2t HC.out.1 HC.out.2.2]at hG;rw[<-hG];show zqq _ _ _ g _=zqq _ _ _ g (zq13 NC op C tc);unfold zq13;rw[if_neg HG.out]) : p := h
theorem zxh {p : Prop} (h : p := by
  have e2:(zq5 op C t).2.n=t.n\/(zq5 op C t).2.n=upd' t.n 0 (IntKind.i64.wrap (op.b+C op.a.toNat 2)):=by unfold zq5;simp[hp,hc]
  refine⟨hO.good,λx=>by omega,λ_=>by rw[e1];decide,λx=>by omega,λx=>by omega,λh3=>?_⟩;have h1:=hO.lo h3;rcases e2 with e2|e2
  . rw[e2];exact h1
  . rw[e2,zqd _ _ zyd];exact h1) : p := h
theorem zxx {p : Prop} (h : p := by
  have e2:(zq1 op C t).2.n=t.n\/(zq1 op C t).2.n=upd' t.n 0 (IntKind.i64.wrap (op.b+C op.a.toNat 2)):=by unfold zq1;simp[hp,hc]
  refine⟨hO.good,λx=>by omega,λx=>by omega,λ_=>by rw[e1];decide,λx=>by omega,λh3=>?_⟩;have h1:=hO.lo h3;rcases e2 with e2|e2
  . rw[e2];exact h1
  . rw[e2,zqd _ _ zyd];exact h1) : p := h
theorem zxy {p : Prop} (h : p := by
  have e2:(zq1 op C t).2.n=t.n\/(zq1 op C t).2.n=upd' t.n 0 (IntKind.i64.wrap (op.b+C op.a.toNat 2)):=by unfold zq1;simp[hp,hc]
  refine⟨hO.good,λx=>by omega,λx=>by omega,λx=>by omega,λ_=>by rw[e1];decide,λh3=>?_⟩;have h1:=hO.lo h3;rcases e2 with e2|e2
  . rw[e2];exact h1
  . rw[e2,zqd _ _ zyd];exact h1) : p := h
theorem zx10 {p : Prop} (h : p := by
  have e2:(zq1 op C t).2.n=t.n\/(zq1 op C t).2.n=upd' t.n 0 (IntKind.i64.wrap (op.b+C op.a.toNat 2)):=by unfold zq1;simp[hp]
  refine⟨hO.good,λx=>by omega,λx=>by omega,λ_=>by rw[e1];decide,λx=>by omega,λh3=>?_⟩;have h1:=hO.lo h3;rcases e2 with e2|e2
  . rw[e2];exact h1
  . rw[e2,zqd _ _ zyd];exact h1) : p := h
theorem zx11 {p : Prop} (h : p := by rw[oC31 e1];unfold zq1;simp only[hp,hc];have e3:cGet1 op.a.toNat (C op.a.toNat 0)=(Proc.tick.bind λ_=>onN (getN op.a.toNat 1)).bind λv=>Proc.ret (v,true):=if_pos hc;show(((cGet1 op.a.toNat (C op.a.toNat 0)).bind (cMk1 op.a.toNat (cMk op) ((t.n 1).toNat - 1))).bind cE) (C,A)=_;rw[e3];rfl) : p := h
theorem zx1b {p : Prop} (h : p := by rw[oC32 e1];unfold zq1;simp only[hp,hc];have e3:cGet1 op.a.toNat (C op.a.toNat 0)=Proc.ret (0,false):=if_neg hc;show(((cGet1 op.a.toNat (C op.a.toNat 0)).bind (cMk1 op.a.toNat (cMk op) ((t.n 1).toNat - 1))).bind cE) (C,A)=_;rw[e3];rfl) : p := h
theorem zx1d {p : Prop} (h : p := by intro _;show _<_+(tc.at'+1);have:=HC.out.1;have:=hf HC.out.1;have:=HC.out.2.1;omega) : p := h
theorem zx1n {p : Prop} (h : p := by show(tc.ans++[Ans.none]).length=tc.at'+1;rw[List.length_append,hl];rfl) : p := h
theorem zx2j {p : Prop} (h : p := by show tc.at'+1<=_;have:=HC.out.2.1;omega) : p := h
theorem zx2q {p : Prop} (h : p := by unfold thC;simp[upd']) : p := h
theorem zx3x {p : Prop} (h : p := by simp only[zqf];omega) : p := h
theorem zx43 {p : Prop} (h : p := by exact hat) : p := h
end Go
set_option maxHeartbeats 8000000
namespace Go.Proofs
open Go Go.Conc Go.RowKit Go.Car
noncomputable def oaT(n:Nat):Code:=tailN n (Try.f4.body.getD .skip)
theorem oa0:Try.f4.body.getD .skip=.seq (headC (oaT 0)) (.seq (headC (oaT 1)) (.seq (headC (oaT 2)) (.seq (headC (oaT 3)) (.seq (headC (oaT 4)) (.seq (headC (oaT 5)) (.seq (headC (oaT 6)) (.seq (headC (oaT 7)) (oaT 8)))))))):=by kernel_rfl
theorem zq29{T:Array Value}(h:T.size=133):∃x:Nat->Value,T=#[x 0,x 1,x 2,x 3,x 4,x 5,x 6,x 7,x 8,x 9,x 10,x 11,x 12,x 13,x 14,x 15,x 16,x 17,x 18,x 19,x 20,x 21,x 22,x 23,x 24,x 25,x 26,x 27,x 28,x 29,x 30,x 31,x 32,x 33,x 34,x 35,x 36,x 37,x 38,x 39,x 40,x 41,x 42,x 43,x 44,x 45,x 46,x 47,x 48,x 49,x 50,x 51,x 52,x 53,x 54,x 55,x 56,x 57,x 58,x 59,x 60,x 61,x 62,x 63,x 64,x 65,x 66,x 67,x 68,x 69,x 70,x 71,x 72,x 73,x 74,x 75,x 76,x 77,x 78,x 79,x 80,x 81,x 82,x 83,x 84,x 85,x 86,x 87,x 88,x 89,x 90,x 91,x 92,x 93,x 94,x 95,x 96,x 97,x 98,x 99,x 100,x 101,x 102,x 103,x 104,x 105,x 106,x 107,x 108,x 109,x 110,x 111,x 112,x 113,x 114,x 115,x 116,x 117,x 118,x 119,x 120,x 121,x 122,x 123,x 124,x 125,x 126,x 127,x 128,x 129,x 130,x 131,x 132]/\∀i,i<133->T[i]?=some (x i):=by
 refine⟨λi=>T.getD i undef,?_,λi hi=>by show T[i]?=some (T.getD i undef);rw[al_gd];simp[h,hi]⟩;apply Array.ext_getElem?;intro i
 by_cases hi:i<133
 . have e:T[i]?=some (T.getD i undef):=by rw[al_gd];simp[h,hi]
   rw[e];have:∀x:Nat->Value,∀i,i<133->(#[x 0,x 1,x 2,x 3,x 4,x 5,x 6,x 7,x 8,x 9,x 10,x 11,x 12,x 13,x 14,x 15,x 16,x 17,x 18,x 19,x 20,x 21,x 22,x 23,x 24,x 25,x 26,x 27,x 28,x 29,x 30,x 31,x 32,x 33,x 34,x 35,x 36,x 37,x 38,x 39,x 40,x 41,x 42,x 43,x 44,x 45,x 46,x 47,x 48,x 49,x 50,x 51,x 52,x 53,x 54,x 55,x 56,x 57,x 58,x 59,x 60,x 61,x 62,x 63,x 64,x 65,x 66,x 67,x 68,x 69,x 70,x 71,x 72,x 73,x 74,x 75,x 76,x 77,x 78,x 79,x 80,x 81,x 82,x 83,x 84,x 85,x 86,x 87,x 88,x 89,x 90,x 91,x 92,x 93,x 94,x 95,x 96,x 97,x 98,x 99,x 100,x 101,x 102,x 103,x 104,x 105,x 106,x 107,x 108,x 109,x 110,x 111,x 112,x 113,x 114,x 115,x 116,x 117,x 118,x 119,x 120,x 121,x 122,x 123,x 124,x 125,x 126,x 127,x 128,x 129,x 130,x 131,x 132]:Array Value)[i]?=some (x i):=λx i hi=>by
    have e2:(#[x 0,x 1,x 2,x 3,x 4,x 5,x 6,x 7,x 8,x 9,x 10,x 11,x 12,x 13,x 14,x 15,x 16,x 17,x 18,x 19,x 20,x 21,x 22,x 23,x 24,x 25,x 26,x 27,x 28,x 29,x 30,x 31,x 32,x 33,x 34,x 35,x 36,x 37,x 38,x 39,x 40,x 41,x 42,x 43,x 44,x 45,x 46,x 47,x 48,x 49,x 50,x 51,x 52,x 53,x 54,x 55,x 56,x 57,x 58,x 59,x 60,x 61,x 62,x 63,x 64,x 65,x 66,x 67,x 68,x 69,x 70,x 71,x 72,x 73,x 74,x 75,x 76,x 77,x 78,x 79,x 80,x 81,x 82,x 83,x 84,x 85,x 86,x 87,x 88,x 89,x 90,x 91,x 92,x 93,x 94,x 95,x 96,x 97,x 98,x 99,x 100,x 101,x 102,x 103,x 104,x 105,x 106,x 107,x 108,x 109,x 110,x 111,x 112,x 113,x 114,x 115,x 116,x 117,x 118,x 119,x 120,x 121,x 122,x 123,x 124,x 125,x 126,x 127,x 128,x 129,x 130,x 131,x 132]:Array Value)=((List.range 133).map x).toArray:=rfl;rw[e2];simp[hi]
   exact(this (λi=>T.getD i undef) i hi).symm
 . rw[Array.getElem?_eq_none zyo,Array.getElem?_eq_none zx44]
def zeroA(op:OpX):OpX:=⟨op.k,0,op.b,op.c⟩
structure OaIn(W:World)(p:Option Addr)(C:Nat)(l:List OpX):Prop where
 le:l.length<=1048576
 at':l≠[]->∃gb go,p=some ⟨gb,go,none⟩/\∀(k:Nat)(c:OpX),l[k]?=some c->∀j,j<4->W.cell? ⟨gb,go+k*4+j,none⟩=c.cells[j]?
structure OwnI(W:World)(l:List OpX)(j:Nat)(v:Value)(w:World):Prop where
 be:Beyond W w
 row:w.ownsRow W.heap.size 34 4 v j (((l.take j).map zeroA).flatMap OpX.cells)
theorem own_push{W w w1 W2 w2:World}{l:List OpX}{j g cap:Nat}{v:Value}{op:OpX}(h:OwnI W l j v w)(hop:l[j]?=some op)(hw1:∀b,b<w.heap.size->w1.heap[b]?=w.heap[b]?)(hs1:w.heap.size<=w1.heap.size)(hW2:∀b,b<w1.heap.size->W2.heap[b]?=w1.heap[b]?)(hs2:w1.heap.size<=W2.heap.size)
 (hrow:w2.ownsRow W.heap.size 34 4 (.slice (some ⟨g,0,none⟩) (j+1) cap) (j+1) (((l.take j).map zeroA).flatMap OpX.cells++[.int .i64 op.k,.int .i64 0,.int .i64 op.b,.int .i64 op.c])) (hgr:W2.grownBy w2 v.ownBlock):OwnI W l (j+1) (.slice (some ⟨g,0,none⟩) (j+1) cap) w2:=by
 have hz:=hgr.size;refine⟨⟨by have:=h.be.1;omega,λb hb=>?_⟩,?_⟩
 . have hb1:=h.be.1;rw[hgr.block b zyo λe=>by have:=(own_lt h.row e.symm).2.1;omega,hW2 b zyo,hw1 b zyo];exact h.be.2 b hb
 . have e:((l.take (j+1)).map zeroA).flatMap OpX.cells=((l.take j).map zeroA).flatMap OpX.cells++[.int .i64 op.k,.int .i64 0,.int .i64 op.b,.int .i64 op.c]:=by
    rw[List.take_add_one,hop,List.map_append,List.flatMap_append];rfl
   rw[e];exact hrow
theorem oa_own{W w:World}{p:Option Addr}{C L:Nat}{l:List OpX}(hI:OaIn W p C l)(hb:Beyond W w)(hL:l.length=L):
 Code.wp Try.prog (headC (oaT 3)) (ends (λa w'=>a.tmps.size=133/\a.tmps[2]?=some (.bool false)/\∃q C',a.tmps[3]?=some (.slice q L C')/\OwnI W l L (.slice q L C') w') (λ_ _=>False)) ⟨#[.slice p L C,undef,.bool false,.slice none 0 0,undef,undef,undef,undef,undef,undef,undef,undef,undef,undef,undef,undef,undef,undef,undef,undef,.bool true,.bool false,undef,undef,undef,undef,undef,undef,undef,undef,undef,undef,undef,undef,undef,undef,undef,undef,undef,undef,undef,undef,undef,undef,undef,undef,undef,undef,undef,undef,undef,undef,undef,undef,undef,undef,undef,undef,undef,undef,undef,undef,undef,undef,undef,undef,undef,undef,undef,undef,undef,undef,undef,undef,undef,undef,undef,undef,undef,undef,undef,undef,undef,undef,undef,undef,undef,undef,undef,undef,undef,undef,undef,undef,undef,undef,undef,undef,undef,undef,undef,undef,undef,undef,undef,undef,undef,undef,undef,undef,undef,undef,undef,undef,undef,undef,undef,undef,undef,undef,undef,undef,undef,undef,undef,undef,undef,undef,undef,undef,undef,undef,undef],[]⟩ w:=by
 have HI:=Lib.hid (And.intro hI (And.intro hb hL));clear hI hb hL;obtain⟨u_,hu_⟩:∃c,headC (oaT 3)=c:=⟨_,rfl⟩;have eu_:=hu_;rw[hu_];simp only[oaT,headC,tailN,cqL,cqR,cqB,cqO,cqT,cqF,Try.f4,al_od]at eu_;subst eu_;clear hu_
 go_wp2_with (fail)
 go_loopg [3,24] L (λk s3 s24 wr=>∃(j:Nat)(q:Option Addr)(C':Nat),k=L - j/\j<=L/\s24=.int .i64 j/\s3=.slice q j C'/\OwnI W l j (.slice q j C') wr)
 case atStart=>exact⟨0,none,0,rfl,Nat.zero_le _,rfl,rfl,HI.out.2.1,by simpa using World.ownsRow_nil _ _ _ _⟩
 case round=>
  obtain⟨j,q,C',hk,hj,rfl,rfl,hI⟩:=hrel
  by_cases hlt:j<L
  . have hlt':(j:Int)<(L:Int):=by omega
    have hj0:(0:Int)<=j:=by omega
    have hjl:j<l.length:=by rw[HI.out.2.2];exact hlt
    obtain⟨op,hop⟩:∃op,l[j]?=some op:=⟨_,List.getElem?_eq_getElem hjl⟩;obtain⟨gb,go,rfl,hco⟩:=HI.out.1.at' (by intro e;rw[e]at hjl;simp at hjl);have o0:wr.cell? ⟨gb,go+j*4,none⟩=some (.int .i64 op.k):=hI.be.cell ((hco j op hop 0 zyd).trans rfl);have o1:wr.cell? ⟨gb,go+j*4+1,none⟩=some (.int .i64 op.a):=hI.be.cell ((hco j op hop 1 zyd).trans rfl);have o2:wr.cell? ⟨gb,go+j*4+2,none⟩=some (.int .i64 op.b):=hI.be.cell ((hco j op hop 2 zyd).trans rfl);have o3:wr.cell? ⟨gb,go+j*4+3,none⟩=some (.int .i64 op.c):=hI.be.cell ((hco j op hop 3 zyd).trans rfl);obtain⟨Z,hZ⟩:∃Z,wr.heap.size=Z:=⟨_,rfl⟩;have hs1:(wr.alloc (.cells #[.int .i64 op.k,.int .i64 0,.int .i64 op.b,.int .i64 op.c] 34)).heap.size=Z+1:=by rw[zq4,hZ]
    have ho1:∀b,b<wr.heap.size->(wr.alloc (.cells #[.int .i64 op.k,.int .i64 0,.int .i64 op.b,.int .i64 op.c] 34)).heap[b]?=wr.heap[b]?:=λb hb=>by rw[zq6,if_neg zyo]
    obtain⟨ti,hti,hz,hz1,hz2⟩:∃ti,Try.prog.info? 34=some ti/\ti.zero=some (.agg #[.int .i64 0,.int .i64 0,.int .i64 0,.int .i64 0])/\ti.size=4/\ti.bytes=32:=⟨_,rfl,rfl,rfl,rfl⟩;have hlen:(l.take j).length=j:=by rw[List.length_take];omega
    obtain⟨g,cap,w5,hrun,hown,hgrow,hat,hlt5⟩:=run_append_lies (P:=Try.prog) ((wr.alloc (.cells #[.int .i64 op.k,.int .i64 0,.int .i64 op.b,.int .i64 op.c] 34)).alloc (.cells #[.int .i64 op.k,.int .i64 0,.int .i64 op.b,.int .i64 op.c] 34)) 32 32 W.heap.size 34 ti _ 4 32 zyk hti hz hz1 hz2 rfl zyd (.slice q j C') j (((l.take j).map zeroA).flatMap OpX.cells) (zq1k (zq1k hI.row _) _) ⟨Z+1,0,none⟩ 1 1 [.int .i64 op.k,.int .i64 0,.int .i64 op.b,.int .i64 op.c] rfl (λjj u hj=>zq4o hs1 jj u hj) (by intro u hu;simp only[List.mem_cons,List.not_mem_nil,or_false]at hu;rcases hu with rfl |rfl |rfl |rfl<;>rfl) zyd (by simp only[maxLen];have:=HI.out.1.le;omega) (by have:=HI.out.1.le;omega) (by rw[zq4,hs1];have:=hI.be.1;omega) _ rfl;have hnext:=own_push hI hop ho1 (by rw[hs1,hZ];omega) (W2:=((wr.alloc (.cells #[.int .i64 op.k,.int .i64 0,.int .i64 op.b,.int .i64 op.c] 34)).alloc (.cells #[.int .i64 op.k,.int .i64 0,.int .i64 op.b,.int .i64 op.c] 34))) (λb hb=>(zq6 _ _ b).trans (if_neg (Nat.ne_of_lt hb))) (by rw[zq4 (wr.alloc _)];omega) hown hgrow;have HX:=Lib.hid (And.intro hnext (And.intro hk hlt));clear hI hk hlt hop hco hjl hti hz hz1 hz2 hown hgrow hat hlt5 hnext hlen hs1 ho1
    go_wp2_with (at_builtin;go_loud (refine zq45 rfl (.tmp 29) (.tmp 31) 32 rfl hrun ?_))
    go_roundg (L - (j+1))
    case measure=>have:=HX.out;omega
    case rel=>exact⟨j+1,_,_,rfl,HX.out.2.2,(by have:=HI.out.1.le;have:=HI.out.2.2;have:=HX.out.2.2;first|rfl |(congr 1;unfold wrap64;omega)),rfl,HX.out.1⟩
  . obtain rfl:L=j:=by omega
    have HX:=Lib.hid hI;clear hI hk hj hlt;go_wp2;exact⟨rfl,rfl,rfl,_,_,rfl,HX.out⟩
def goodO(NC:Nat)(op:OpX):Prop:=0<=op.a/\op.a<NC/\1<=op.k/\op.k<=4
instance (NC:Nat) (op:OpX):Decidable (goodO NC op):=by unfold goodO;infer_instance
def zq13(NC:Nat)(op:OpX)(C:Nums)(t:RTh):Nums×RTh:=
 if goodO NC op then(C,{t with pc:=if op.k=4 then 30 else(10*op.k).toNat,n:=upd' t.n 1 (zq1v op.c)})else(C,t.fin Ans.none)
def zq5(op:OpX)(C:Nums)(t:RTh):Nums×RTh:=
 let c:=op.a.toNat
 if t.pc=10 then(if C c 0=2 then(C,{t with pc:=11})else(C,RTh.fin {t with pc:=11} ⟨false,0,[]⟩))
 else if t.pc=11 then(C,t.fin ⟨true,C c 1,[]⟩)
 else if t.pc=20 then(if C c 0=0 then(upd2 C c 0 1,{t with pc:=21})else(C,{t with pc:=23}))
 else if t.pc=21 then(upd2 C c 1 op.b,{t with pc:=22})
 else if t.pc=22 then(upd2 C c 0 2,t.fin ⟨true,op.b,[]⟩)
 else if t.pc=23 then(if C c 0=2 then(C,{t with pc:=24})else(C,RTh.fin {t with pc:=24} ⟨false,0,[]⟩))
 else if t.pc=24 then(C,t.fin ⟨false,C c 1,[]⟩)
 else(C,t)
def zq1(op:OpX)(C:Nums)(t:RTh):Nums×RTh:=
 let c:=op.a.toNat
 if t.pc=30 then(C,{t with pc:=if C c 0=2 then 31 else 32})
 else if t.pc=31 then(C,t.fin ⟨true,C c 1,[]⟩)
 else if t.pc=32 then(if C c 0=0 then(upd2 C c 0 1,{t with pc:=33})else
  if t.n 1=1 then(C,RTh.fin {t with pc:=30,n:=upd' t.n 1 (IntKind.i64.wrap (t.n 1 - 1))} ⟨false,-4,[]⟩)else(C,{t with pc:=30,n:=upd' t.n 1 (IntKind.i64.wrap (t.n 1 - 1))}))
 else if t.pc=33 then(upd2 C c 2 (IntKind.i64.wrap (C c 2+1)),{t with pc:=if op.k=4 then 37 else 34})
 else if t.pc=34 then(C,{t with pc:=35,n:=upd' t.n 0 (IntKind.i64.wrap (op.b+C c 2))})
 else if t.pc=35 then(upd2 C c 1 (t.n 0),{t with pc:=36})
 else if t.pc=36 then(upd2 C c 0 2,t.fin ⟨true,t.n 0,[]⟩)
 else if t.pc=37 then(upd2 C c 0 0,t.fin ⟨false,-6,[]⟩)
 else(C,t)
def onceM(NC:Nat):RM Nums where
 bg _ op C t:=zq13 NC op C t
 stp _ op C t:=if t.pc<30 then zq5 op C t else zq1 op C t
abbrev SN:=Nums×(Nat->List Ans)
def cGet1(c:Nat)(x:Int):Proc SN (Int×Bool):=if x=2 then(Proc.tick.bind λ_=>onN (getN c 1)).bind λv=>Proc.ret (v,true)else Proc.ret (0,false)
def cSet1(c:Nat)(v:Int)(b:Bool):Proc SN (Int×Bool):=if b=true then(finP c v).bind λ_=>Proc.ret (v,true)else(getP c).bind λx=>Proc.ret (x.1,false)
def cMk4(c:Nat)(v:Int×Bool):Proc SN (Int×Int):=if v.2=true then(finP c v.1).bind λ_=>Proc.ret (v.1,0)else(Proc.tick.bind λ_=>onN (putN c 0 0)).bind λ_=>Proc.ret (0,6)
def cMk2(c:Nat)(mk:Proc SN (Int×Bool))(m:Nat)(b:Bool):Proc SN (Int×Int):=if b=true then(Proc.tick.bind λ_=>onN (addN c 2 1)).bind λ_=>mk.bind (cMk4 c)else makeL c mk m
def cMk1(c:Nat)(mk:Proc SN (Int×Bool))(m:Nat)(x:Int×Bool):Proc SN (Int×Int):=if x.2=true then Proc.ret (x.1,0)else(Proc.tick.bind λ_=>onN (casN c 0 0 1)).bind (cMk2 c mk m)
def cMk(op:OpX):Proc SN (Int×Bool):=if op.k=3 then mkP op.a.toNat op else Proc.ret (0,false)
def cA(x:Int×Bool):Proc SN Ans:=Proc.ret ⟨x.2,x.1,[]⟩
def cE(x:Int×Int):Proc SN Ans:=Proc.ret (madeA x.1 x.2)
def onceC(op:OpX)(t:RTh):Proc SN Ans:=
 let c:=op.a.toNat
 let m:=(t.n 1).toNat - 1
 if t.pc=10 then((onN (getN c 0)).bind (cGet1 c)).bind cA
 else if t.pc=11 then((onN (getN c 1)).bind λv=>Proc.ret (v,true)).bind cA
 else if t.pc=20 then((onN (casN c 0 0 1)).bind (cSet1 c op.b)).bind cA
 else if t.pc=21 then(((onN (putN c 1 op.b)).bind λ_=>Proc.tick.bind λ_=>onN (putN c 0 2)).bind λ_=>Proc.ret (op.b,true)).bind cA
 else if t.pc=22 then((onN (putN c 0 2)).bind λ_=>Proc.ret (op.b,true)).bind cA
 else if t.pc=23 then(((onN (getN c 0)).bind (cGet1 c)).bind λx=>Proc.ret (x.1,false)).bind cA
 else if t.pc=24 then(((onN (getN c 1)).bind λv=>Proc.ret (v,true)).bind λx=>Proc.ret (x.1,false)).bind cA
 else if t.pc=30 then(((onN (getN c 0)).bind (cGet1 c)).bind (cMk1 c (cMk op) m)).bind cE
 else if t.pc=31 then(((onN (getN c 1)).bind λv=>Proc.ret (v,true)).bind (cMk1 c (cMk op) m)).bind cE
 else if t.pc=32 then((onN (casN c 0 0 1)).bind (cMk2 c (cMk op) m)).bind cE
 else if t.pc=33 then((onN (addN c 2 1)).bind λ_=>(cMk op).bind (cMk4 c)).bind cE
 else if t.pc=34 then((onN λg=>(g,(IntKind.i64.wrap (op.b+g c 2),true))).bind (cMk4 c)).bind cE
 else if t.pc=35 then(((onN (putN c 1 (t.n 0))).bind λ_=>Proc.tick.bind λ_=>onN (putN c 0 2)).bind λ_=>Proc.ret (t.n 0,0)).bind cE
 else if t.pc=36 then((onN (putN c 0 2)).bind λ_=>Proc.ret (t.n 0,0)).bind cE
 else((onN (putN c 0 0)).bind λ_=>Proc.ret (0,6)).bind cE
structure OkO(NC:Nat)(op:OpX)(t:RTh):Prop where
 good:goodO NC op
 k1:op.k=1->t.pc=10\/t.pc=11
 k2:op.k=2->t.pc=20\/t.pc=21\/t.pc=22\/t.pc=23\/t.pc=24
 k3:op.k=3->t.pc=30\/t.pc=31\/t.pc=32\/t.pc=33\/t.pc=34\/t.pc=35\/t.pc=36
 k4:op.k=4->t.pc=30\/t.pc=31\/t.pc=32\/t.pc=33\/t.pc=37
 lo:3<=op.k->1<=t.n 1/\t.n 1<=1024
theorem tries_eq(c:Int):triesN (zq1a c)=(zq1v c).toNat:=by unfold triesN zq1a zq1v;split<;>(try split)<;>omega
theorem zqfc{NC:Nat}{op:OpX}{C:Nums}{A:Nat->List Ans}{t:RTh}(hg:goodO NC op)(h0:t.pc=0):
 (doerP NC op:Proc SN Ans) (C,A)=((C,A),.step (λs=>(onceC op (zq13 NC op C t).2 s).1) (λs=>(onceC op (zq13 NC op C t).2 s).2))/\OkO NC op (zq13 NC op C t).2:=by
 have hg':=hg;obtain⟨g1,g2,g3,g4⟩:=hg';have hd:(doerP NC op:Proc SN Ans)=onceP op.a.toNat op:=by unfold doerP;rw[if_neg zyo]
 have hb:(zq13 NC op C t).2={t with pc:=if op.k=4 then 30 else(10*op.k).toNat,n:=upd' t.n 1 (zq1v op.c)}:=by unfold zq13;rw[if_pos hg]
 have hr:=zqmd op.c;have hm:∃m,triesN (zq1a op.c)=m+1/\(zq1v op.c).toNat - 1=m:=⟨(zq1v op.c).toNat - 1,by rw[tries_eq];omega,rfl⟩;obtain⟨m,hm1,hm2⟩:=hm;rw[hd,hb];obtain h|h|h|h:op.k=1\/op.k=2\/op.k=3\/op.k=4:=by omega
 . refine⟨?_,hg,λ_=>.inl (by simp[h]),λx=>by omega,λx=>by omega,λx=>by omega,λx=>by omega⟩;unfold onceP onceC;simp only[h];rfl
 . refine⟨?_,hg,λx=>by omega,λ_=>.inl (by simp[h]),λx=>by omega,λx=>by omega,λx=>by omega⟩;unfold onceP onceC;simp only[h];rfl
 . refine⟨?_,hg,λx=>by omega,λx=>by omega,λ_=>.inl (by simp[h]),λx=>by omega,λ_=>by simpa using hr⟩;unfold onceP onceC cMk;simp only[h,hm1,upd'_same,hm2];rfl
 . refine⟨?_,hg,λx=>by omega,λx=>by omega,λx=>by omega,λ_=>.inl (by simp[h]),λ_=>by simpa using hr⟩;unfold onceP onceC cMk;simp only[h,hm1,upd'_same,hm2];rfl
theorem madeA_4:madeA 0 4=⟨false,-4,[]⟩:=by kernel_rfl
theorem madeA_6:madeA 0 6=⟨false,-6,[]⟩:=by kernel_rfl
theorem oC10{op:OpX}{t:RTh}(h:t.pc=10):onceC op t=((onN (getN op.a.toNat 0)).bind (cGet1 op.a.toNat)).bind cA:=by unfold onceC;simp[h]
theorem oC11{op:OpX}{t:RTh}(h:t.pc=11):onceC op t=((onN (getN op.a.toNat 1)).bind λv=>Proc.ret (v,true)).bind cA:=by unfold onceC;simp[h]
theorem oC20{op:OpX}{t:RTh}(h:t.pc=20):onceC op t=((onN (casN op.a.toNat 0 0 1)).bind (cSet1 op.a.toNat op.b)).bind cA:=by unfold onceC;simp[h]
theorem oC21{op:OpX}{t:RTh}(h:t.pc=21):onceC op t=(((onN (putN op.a.toNat 1 op.b)).bind λ_=>Proc.tick.bind λ_=>onN (putN op.a.toNat 0 2)).bind λ_=>Proc.ret (op.b,true)).bind cA:=by unfold onceC;simp[h]
theorem oC22{op:OpX}{t:RTh}(h:t.pc=22):onceC op t=((onN (putN op.a.toNat 0 2)).bind λ_=>Proc.ret (op.b,true)).bind cA:=by unfold onceC;simp[h]
theorem oC23{op:OpX}{t:RTh}(h:t.pc=23):onceC op t=(((onN (getN op.a.toNat 0)).bind (cGet1 op.a.toNat)).bind λx=>Proc.ret (x.1,false)).bind cA:=by unfold onceC;simp[h]
theorem oC24{op:OpX}{t:RTh}(h:t.pc=24):onceC op t=(((onN (getN op.a.toNat 1)).bind λv=>Proc.ret (v,true)).bind λx=>Proc.ret (x.1,false)).bind cA:=by unfold onceC;simp[h]
theorem oC30{op:OpX}{t:RTh}(h:t.pc=30):onceC op t=(((onN (getN op.a.toNat 0)).bind (cGet1 op.a.toNat)).bind (cMk1 op.a.toNat (cMk op) ((t.n 1).toNat - 1))).bind cE:=by unfold onceC;simp[h]
theorem oC31{op:OpX}{t:RTh}(h:t.pc=31):onceC op t=(((onN (getN op.a.toNat 1)).bind λv=>Proc.ret (v,true)).bind (cMk1 op.a.toNat (cMk op) ((t.n 1).toNat - 1))).bind cE:=by unfold onceC;simp[h]
theorem oC32{op:OpX}{t:RTh}(h:t.pc=32):onceC op t=((onN (casN op.a.toNat 0 0 1)).bind (cMk2 op.a.toNat (cMk op) ((t.n 1).toNat - 1))).bind cE:=by unfold onceC;simp[h]
theorem oC33{op:OpX}{t:RTh}(h:t.pc=33):onceC op t=((onN (addN op.a.toNat 2 1)).bind λ_=>(cMk op).bind (cMk4 op.a.toNat)).bind cE:=by unfold onceC;simp[h]
theorem oC34{op:OpX}{t:RTh}(h:t.pc=34):onceC op t=((onN λg=>(g,(IntKind.i64.wrap (op.b+g op.a.toNat 2),true))).bind (cMk4 op.a.toNat)).bind cE:=by unfold onceC;simp[h]
theorem oC35{op:OpX}{t:RTh}(h:t.pc=35):onceC op t=(((onN (putN op.a.toNat 1 (t.n 0))).bind λ_=>Proc.tick.bind λ_=>onN (putN op.a.toNat 0 2)).bind λ_=>Proc.ret (t.n 0,0)).bind cE:=by unfold onceC;simp[h]
theorem oC36{op:OpX}{t:RTh}(h:t.pc=36):onceC op t=((onN (putN op.a.toNat 0 2)).bind λ_=>Proc.ret (t.n 0,0)).bind cE:=by unfold onceC;simp[h]
theorem oC37{op:OpX}{t:RTh}(h:t.pc=37):onceC op t=((onN (putN op.a.toNat 0 0)).bind λ_=>Proc.ret (0,6)).bind cE:=by unfold onceC;simp[h]
def oGoal(NC:Nat)(op:OpX)(C:Nums)(A:Nat->List Ans)(t:RTh):Prop:=
 (∃t1 a,(if t.pc<30 then zq5 op C t else zq1 op C t).2=RTh.fin t1 a/\t1.at'=t.at'/\t1.ans=t.ans/\onceC op t (C,A)=(((if t.pc<30 then zq5 op C t else zq1 op C t).1,A),.ret a))\/
  ((if t.pc<30 then zq5 op C t else zq1 op C t).2.pc≠0/\(if t.pc<30 then zq5 op C t else zq1 op C t).2.at'=t.at'/\(if t.pc<30 then zq5 op C t else zq1 op C t).2.ans=t.ans/\OkO NC op (if t.pc<30 then zq5 op C t else zq1 op C t).2/\
    onceC op t (C,A)=(((if t.pc<30 then zq5 op C t else zq1 op C t).1,A),.step (λs=>(onceC op (if t.pc<30 then zq5 op C t else zq1 op C t).2 s).1) (λs=>(onceC op (if t.pc<30 then zq5 op C t else zq1 op C t).2 s).2)))
theorem oS1_10{NC:Nat}{op:OpX}{C:Nums}{A:Nat->List Ans}{t:RTh}(hO:OkO NC op t)(hk:op.k=1)(hp:t.pc=10):oGoal NC op C A t:=by
 have e:(if t.pc<30 then zq5 op C t else zq1 op C t)=zq5 op C t:=by simp[hp]
 unfold oGoal;rw[e,oC10 hp];clear e
 by_cases hc:C op.a.toNat 0=2
 . have e1:(zq5 op C t).2.pc=11:=by unfold zq5;simp[hp,hc]
   refine .inr ⟨by rw[e1];decide,by(unfold zq5;simp[hp,hc]),by(unfold zq5;simp[hp,hc]),?_,?_⟩
   . have e2:(zq5 op C t).2.n=t.n\/(zq5 op C t).2.n=upd' t.n 0 (IntKind.i64.wrap (op.b+C op.a.toNat 2)):=by unfold zq5;simp[hp,hc]
     refine⟨hO.good,λ_=>by rw[e1];decide,λx=>by omega,λx=>by omega,λx=>by omega,λh3=>?_⟩;have h1:=hO.lo h3;rcases e2 with e2|e2
     . rw[e2];exact h1
     . rw[e2,zqd _ _ zyd];exact h1
   . rw[oC11 e1];unfold zq5;simp only[hp,hc];have e3:cGet1 op.a.toNat (C op.a.toNat 0)=(Proc.tick.bind λ_=>onN (getN op.a.toNat 1)).bind λv=>Proc.ret (v,true):=if_pos hc;show((cGet1 op.a.toNat (C op.a.toNat 0)).bind cA) (C,A)=_;rw[e3];rfl
 . refine .inl ⟨_,_,by(unfold zq5;simp only[hp,hc];rfl),rfl,rfl,?_⟩;unfold zq5;simp only[hp,hc];have e3:cGet1 op.a.toNat (C op.a.toNat 0)=Proc.ret (0,false):=if_neg hc;show((cGet1 op.a.toNat (C op.a.toNat 0)).bind cA) (C,A)=_;rw[e3];rfl
theorem oS1_11{NC:Nat}{op:OpX}{C:Nums}{A:Nat->List Ans}{t:RTh}(hO:OkO NC op t)(hk:op.k=1)(hp:t.pc=11):oGoal NC op C A t:=by
 have e:(if t.pc<30 then zq5 op C t else zq1 op C t)=zq5 op C t:=by simp[hp]
 unfold oGoal;rw[e,oC11 hp];clear e;refine .inl ⟨_,_,by(unfold zq5;simp only[hp];rfl),rfl,rfl,?_⟩;unfold zq5;simp only[hp];rfl
theorem oS2_20{NC:Nat}{op:OpX}{C:Nums}{A:Nat->List Ans}{t:RTh}(hO:OkO NC op t)(hk:op.k=2)(hp:t.pc=20):oGoal NC op C A t:=by
 have e:(if t.pc<30 then zq5 op C t else zq1 op C t)=zq5 op C t:=by simp[hp]
 unfold oGoal;rw[e,oC20 hp];clear e
 by_cases hc:C op.a.toNat 0=0
 . have e1:(zq5 op C t).2.pc=21:=by unfold zq5;simp[hp,hc]
   refine .inr ⟨by rw[e1];decide,by(unfold zq5;simp[hp,hc]),by(unfold zq5;simp[hp,hc]),?_,?_⟩
   . exact zxh
   . rw[oC21 e1];unfold zq5;simp only[hp,hc];have e3:casN op.a.toNat 0 0 1 C=(upd2 C op.a.toNat 0 1,true):=if_pos hc;show((cSet1 op.a.toNat op.b (casN op.a.toNat 0 0 1 C).2).bind cA) ((casN op.a.toNat 0 0 1 C).1,A)=_;rw[e3];rfl
 . have e1:(zq5 op C t).2.pc=23:=by unfold zq5;simp[hp,hc]
   refine .inr ⟨by rw[e1];decide,by(unfold zq5;simp[hp,hc]),by(unfold zq5;simp[hp,hc]),?_,?_⟩
   . exact zxh
   . rw[oC23 e1];unfold zq5;simp only[hp,hc];have e3:casN op.a.toNat 0 0 1 C=(C,false):=if_neg hc;show((cSet1 op.a.toNat op.b (casN op.a.toNat 0 0 1 C).2).bind cA) ((casN op.a.toNat 0 0 1 C).1,A)=_;rw[e3];rfl
theorem oS2_21{NC:Nat}{op:OpX}{C:Nums}{A:Nat->List Ans}{t:RTh}(hO:OkO NC op t)(hk:op.k=2)(hp:t.pc=21):oGoal NC op C A t:=by
 have e:(if t.pc<30 then zq5 op C t else zq1 op C t)=zq5 op C t:=by simp[hp]
 unfold oGoal;rw[e,oC21 hp];clear e;have e1:(zq5 op C t).2.pc=22:=by unfold zq5;simp[hp]
 refine .inr ⟨by rw[e1];decide,by(unfold zq5;simp[hp]),by(unfold zq5;simp[hp]),?_,?_⟩
 . have e2:(zq5 op C t).2.n=t.n\/(zq5 op C t).2.n=upd' t.n 0 (IntKind.i64.wrap (op.b+C op.a.toNat 2)):=by unfold zq5;simp[hp]
   refine⟨hO.good,λx=>by omega,λ_=>by rw[e1];decide,λx=>by omega,λx=>by omega,λh3=>?_⟩;have h1:=hO.lo h3;rcases e2 with e2|e2
   . rw[e2];exact h1
   . rw[e2,zqd _ _ zyd];exact h1
 . rw[oC22 e1];unfold zq5;simp only[hp];rfl
theorem oS2_22{NC:Nat}{op:OpX}{C:Nums}{A:Nat->List Ans}{t:RTh}(hO:OkO NC op t)(hk:op.k=2)(hp:t.pc=22):oGoal NC op C A t:=by
 have e:(if t.pc<30 then zq5 op C t else zq1 op C t)=zq5 op C t:=by simp[hp]
 unfold oGoal;rw[e,oC22 hp];clear e;refine .inl ⟨_,_,by(unfold zq5;simp only[hp];rfl),rfl,rfl,?_⟩;unfold zq5;simp only[hp];rfl
theorem oS2_23{NC:Nat}{op:OpX}{C:Nums}{A:Nat->List Ans}{t:RTh}(hO:OkO NC op t)(hk:op.k=2)(hp:t.pc=23):oGoal NC op C A t:=by
 have e:(if t.pc<30 then zq5 op C t else zq1 op C t)=zq5 op C t:=by simp[hp]
 unfold oGoal;rw[e,oC23 hp];clear e
 by_cases hc:C op.a.toNat 0=2
 . have e1:(zq5 op C t).2.pc=24:=by unfold zq5;simp[hp,hc]
   refine .inr ⟨by rw[e1];decide,by(unfold zq5;simp[hp,hc]),by(unfold zq5;simp[hp,hc]),?_,?_⟩
   . exact zxh
   . rw[oC24 e1];unfold zq5;simp only[hp,hc];have e3:cGet1 op.a.toNat (C op.a.toNat 0)=(Proc.tick.bind λ_=>onN (getN op.a.toNat 1)).bind λv=>Proc.ret (v,true):=if_pos hc;show(((cGet1 op.a.toNat (C op.a.toNat 0)).bind λx=>Proc.ret (x.1,false)).bind cA) (C,A)=_;rw[e3];rfl
 . refine .inl ⟨_,_,by(unfold zq5;simp only[hp,hc];rfl),rfl,rfl,?_⟩;unfold zq5;simp only[hp,hc];have e3:cGet1 op.a.toNat (C op.a.toNat 0)=Proc.ret (0,false):=if_neg hc;show(((cGet1 op.a.toNat (C op.a.toNat 0)).bind λx=>Proc.ret (x.1,false)).bind cA) (C,A)=_;rw[e3];rfl
theorem oS2_24{NC:Nat}{op:OpX}{C:Nums}{A:Nat->List Ans}{t:RTh}(hO:OkO NC op t)(hk:op.k=2)(hp:t.pc=24):oGoal NC op C A t:=by
 have e:(if t.pc<30 then zq5 op C t else zq1 op C t)=zq5 op C t:=by simp[hp]
 unfold oGoal;rw[e,oC24 hp];clear e;refine .inl ⟨_,_,by(unfold zq5;simp only[hp];rfl),rfl,rfl,?_⟩;unfold zq5;simp only[hp];rfl
theorem oS3_30{NC:Nat}{op:OpX}{C:Nums}{A:Nat->List Ans}{t:RTh}(hO:OkO NC op t)(hk:op.k=3)(hp:t.pc=30):oGoal NC op C A t:=by
 have e:(if t.pc<30 then zq5 op C t else zq1 op C t)=zq1 op C t:=by simp[hp]
 unfold oGoal;rw[e,oC30 hp];clear e
 by_cases hc:C op.a.toNat 0=2
 . have e1:(zq1 op C t).2.pc=31:=by unfold zq1;simp[hp,hc]
   refine .inr ⟨by rw[e1];decide,by(unfold zq1;simp[hp,hc]),by(unfold zq1;simp[hp,hc]),?_,?_⟩
   . exact zxx
   . exact zx11
 . have e1:(zq1 op C t).2.pc=32:=by unfold zq1;simp[hp,hc]
   refine .inr ⟨by rw[e1];decide,by(unfold zq1;simp[hp,hc]),by(unfold zq1;simp[hp,hc]),?_,?_⟩
   . exact zxx
   . exact zx1b
theorem oS3_31{NC:Nat}{op:OpX}{C:Nums}{A:Nat->List Ans}{t:RTh}(hO:OkO NC op t)(hk:op.k=3)(hp:t.pc=31):oGoal NC op C A t:=by
 have e:(if t.pc<30 then zq5 op C t else zq1 op C t)=zq1 op C t:=by simp[hp]
 unfold oGoal;rw[e,oC31 hp];clear e;refine .inl ⟨_,_,by(unfold zq1;simp only[hp];rfl),rfl,rfl,?_⟩;unfold zq1;simp only[hp];rfl
theorem oS3_33{NC:Nat}{op:OpX}{C:Nums}{A:Nat->List Ans}{t:RTh}(hO:OkO NC op t)(hk:op.k=3)(hp:t.pc=33):oGoal NC op C A t:=by
 have e:(if t.pc<30 then zq5 op C t else zq1 op C t)=zq1 op C t:=by simp[hp]
 unfold oGoal;rw[e,oC33 hp];clear e;have e1:(zq1 op C t).2.pc=34:=by unfold zq1;simp[hp,hk]
 refine .inr ⟨by rw[e1];decide,by(unfold zq1;simp[hp,hk]),by(unfold zq1;simp[hp,hk]),?_,?_⟩
 . have e2:(zq1 op C t).2.n=t.n\/(zq1 op C t).2.n=upd' t.n 0 (IntKind.i64.wrap (op.b+C op.a.toNat 2)):=by unfold zq1;simp[hp,hk]
   refine⟨hO.good,λx=>by omega,λx=>by omega,λ_=>by rw[e1];decide,λx=>by omega,λh3=>?_⟩;have h1:=hO.lo h3;rcases e2 with e2|e2
   . rw[e2];exact h1
   . rw[e2,zqd _ _ zyd];exact h1
 . rw[oC34 e1];unfold zq1;simp only[hp,hk];rw[show cMk op=mkP op.a.toNat op from if_pos hk];rfl
theorem oS3_34{NC:Nat}{op:OpX}{C:Nums}{A:Nat->List Ans}{t:RTh}(hO:OkO NC op t)(hk:op.k=3)(hp:t.pc=34):oGoal NC op C A t:=by
 have e:(if t.pc<30 then zq5 op C t else zq1 op C t)=zq1 op C t:=by simp[hp]
 unfold oGoal;rw[e,oC34 hp];clear e;have e1:(zq1 op C t).2.pc=35:=by unfold zq1;simp[hp]
 refine .inr ⟨by rw[e1];decide,by(unfold zq1;simp[hp]),by(unfold zq1;simp[hp]),?_,?_⟩
 . exact zx10
 . rw[oC35 e1];unfold zq1;simp only[hp];rfl
theorem oS3_35{NC:Nat}{op:OpX}{C:Nums}{A:Nat->List Ans}{t:RTh}(hO:OkO NC op t)(hk:op.k=3)(hp:t.pc=35):oGoal NC op C A t:=by
 have e:(if t.pc<30 then zq5 op C t else zq1 op C t)=zq1 op C t:=by simp[hp]
 unfold oGoal;rw[e,oC35 hp];clear e;have e1:(zq1 op C t).2.pc=36:=by unfold zq1;simp[hp]
 refine .inr ⟨by rw[e1];decide,by(unfold zq1;simp[hp]),by(unfold zq1;simp[hp]),?_,?_⟩
 . exact zx10
 . rw[oC36 e1];unfold zq1;simp only[hp];rfl
theorem oS3_36{NC:Nat}{op:OpX}{C:Nums}{A:Nat->List Ans}{t:RTh}(hO:OkO NC op t)(hk:op.k=3)(hp:t.pc=36):oGoal NC op C A t:=by
 have e:(if t.pc<30 then zq5 op C t else zq1 op C t)=zq1 op C t:=by simp[hp]
 unfold oGoal;rw[e,oC36 hp];clear e;refine .inl ⟨_,_,by(unfold zq1;simp only[hp];rfl),rfl,rfl,?_⟩;unfold zq1;simp only[hp];rfl
theorem oS4_30{NC:Nat}{op:OpX}{C:Nums}{A:Nat->List Ans}{t:RTh}(hO:OkO NC op t)(hk:op.k=4)(hp:t.pc=30):oGoal NC op C A t:=by
 have e:(if t.pc<30 then zq5 op C t else zq1 op C t)=zq1 op C t:=by simp[hp]
 unfold oGoal;rw[e,oC30 hp];clear e
 by_cases hc:C op.a.toNat 0=2
 . have e1:(zq1 op C t).2.pc=31:=by unfold zq1;simp[hp,hc]
   refine .inr ⟨by rw[e1];decide,by(unfold zq1;simp[hp,hc]),by(unfold zq1;simp[hp,hc]),?_,?_⟩
   . exact zxy
   . exact zx11
 . have e1:(zq1 op C t).2.pc=32:=by unfold zq1;simp[hp,hc]
   refine .inr ⟨by rw[e1];decide,by(unfold zq1;simp[hp,hc]),by(unfold zq1;simp[hp,hc]),?_,?_⟩
   . exact zxy
   . exact zx1b
theorem oS4_31{NC:Nat}{op:OpX}{C:Nums}{A:Nat->List Ans}{t:RTh}(hO:OkO NC op t)(hk:op.k=4)(hp:t.pc=31):oGoal NC op C A t:=by
 have e:(if t.pc<30 then zq5 op C t else zq1 op C t)=zq1 op C t:=by simp[hp]
 unfold oGoal;rw[e,oC31 hp];clear e;refine .inl ⟨_,_,by(unfold zq1;simp only[hp];rfl),rfl,rfl,?_⟩;unfold zq1;simp only[hp];rfl
theorem oS4_33{NC:Nat}{op:OpX}{C:Nums}{A:Nat->List Ans}{t:RTh}(hO:OkO NC op t)(hk:op.k=4)(hp:t.pc=33):oGoal NC op C A t:=by
 have e:(if t.pc<30 then zq5 op C t else zq1 op C t)=zq1 op C t:=by simp[hp]
 unfold oGoal;rw[e,oC33 hp];clear e;have e1:(zq1 op C t).2.pc=37:=by unfold zq1;simp[hp,hk]
 refine .inr ⟨by rw[e1];decide,by(unfold zq1;simp[hp,hk]),by(unfold zq1;simp[hp,hk]),?_,?_⟩
 . have e2:(zq1 op C t).2.n=t.n\/(zq1 op C t).2.n=upd' t.n 0 (IntKind.i64.wrap (op.b+C op.a.toNat 2)):=by unfold zq1;simp[hp,hk]
   refine⟨hO.good,λx=>by omega,λx=>by omega,λx=>by omega,λ_=>by rw[e1];decide,λh3=>?_⟩;have h1:=hO.lo h3;rcases e2 with e2|e2
   . rw[e2];exact h1
   . rw[e2,zqd _ _ zyd];exact h1
 . rw[oC37 e1];unfold zq1;simp only[hp,hk];rw[show cMk op=Proc.ret (0,false)from if_neg zyo];rfl
theorem oS4_37{NC:Nat}{op:OpX}{C:Nums}{A:Nat->List Ans}{t:RTh}(hO:OkO NC op t)(hk:op.k=4)(hp:t.pc=37):oGoal NC op C A t:=by
 have e:(if t.pc<30 then zq5 op C t else zq1 op C t)=zq1 op C t:=by simp[hp]
 unfold oGoal;rw[e,oC37 hp];clear e;refine .inl ⟨_,_,by(unfold zq1;simp only[hp];rfl),rfl,rfl,?_⟩;unfold zq1;simp only[hp];show((upd2 C op.a.toNat 0 0,A),Tree.ret (madeA 0 6))=_;rw[madeA_6];rfl
theorem oS_32{NC:Nat}{op:OpX}{C:Nums}{A:Nat->List Ans}{t:RTh}(hO:OkO NC op t)(hk:op.k=3\/op.k=4)(hp:t.pc=32):oGoal NC op C A t:=by
 have e:(if t.pc<30 then zq5 op C t else zq1 op C t)=zq1 op C t:=by simp[hp]
 unfold oGoal;rw[e,oC32 hp];clear e;have hlo:=hO.lo zyo;have hw:IntKind.i64.wrap (t.n 1 - 1)=t.n 1 - 1:=IntWalk.i64_in _ zyo
 by_cases hc:C op.a.toNat 0=0
 . have e1:(zq1 op C t).2.pc=33:=by unfold zq1;simp[hp,hc]
   have e2:(zq1 op C t).2.n=t.n:=by unfold zq1;simp[hp,hc]
   refine .inr ⟨by rw[e1];decide,by(unfold zq1;simp[hp,hc]),by(unfold zq1;simp[hp,hc]),?_,?_⟩
   . exact⟨hO.good,λx=>by omega,λx=>by omega,λ_=>by rw[e1];decide,λ_=>by rw[e1];decide,by rw[e2];exact hO.lo⟩
   . rw[oC33 e1];unfold zq1;simp only[hp,hc];have e3:casN op.a.toNat 0 0 1 C=(upd2 C op.a.toNat 0 1,true):=if_pos hc;show((cMk2 op.a.toNat (cMk op) ((t.n 1).toNat - 1) (casN op.a.toNat 0 0 1 C).2).bind cE) ((casN op.a.toNat 0 0 1 C).1,A)=_;rw[e3];rfl
 . have e3:casN op.a.toNat 0 0 1 C=(C,false):=if_neg hc
   by_cases hn:t.n 1=1
   . refine .inl ⟨{t with pc:=30,n:=upd' t.n 1 (IntKind.i64.wrap (t.n 1 - 1))},⟨false,-4,[]⟩,by(unfold zq1;simp[hp,hc,hn]),rfl,rfl,?_⟩;unfold zq1;simp only[hp,hc,hn];show((cMk2 op.a.toNat (cMk op) 0 (casN op.a.toNat 0 0 1 C).2).bind cE) ((casN op.a.toNat 0 0 1 C).1,A)=_;rw[e3];show((C,A),Tree.ret (madeA 0 4))=_;rw[madeA_4];rfl
   . have e1:(zq1 op C t).2.pc=30:=by unfold zq1;simp[hp,hc,hn]
     have e2:(zq1 op C t).2.n=upd' t.n 1 (t.n 1 - 1):=by unfold zq1;simp[hp,hc,hn,hw]
     refine .inr ⟨by rw[e1];decide,by(unfold zq1;simp[hp,hc,hn]),by(unfold zq1;simp[hp,hc,hn]),?_,?_⟩
     . exact⟨hO.good,λx=>by omega,λx=>by omega,λ_=>by rw[e1];decide,λ_=>by rw[e1];decide,λ_=>by rw[e2,upd'_same];omega⟩
     . rw[oC30 e1,e2,upd'_same];unfold zq1;simp only[hp,hc,hn];show((cMk2 op.a.toNat (cMk op) ((t.n 1).toNat - 1) (casN op.a.toNat 0 0 1 C).2).bind cE) ((casN op.a.toNat 0 0 1 C).1,A)=_;rw[e3];obtain⟨m,hm⟩:∃m,(t.n 1).toNat - 1=m+1:=⟨(t.n 1).toNat - 2,by omega⟩;rw[hm,show(t.n 1 - 1).toNat - 1=m by omega];rfl
theorem zq2s(NC:Nat):RLaw (onceM NC) (λ_=>doerP NC) (λ_=>OkO NC) (λ_=>onceC) where
 begin i op C A t h0:=by
  by_cases hg:goodO NC op
  . obtain⟨h1,h2⟩:=zqfc (C:=C) (A:=A) hg h0;refine .inr ⟨C,(zq13 NC op C t).2,?_,?_,?_,?_,h2,h1⟩
    . show zq13 NC op C t=_;unfold zq13;rw[if_pos hg]
    . unfold zq13;rw[if_pos hg];obtain⟨g1,g2,g3,g4⟩:=hg;simp only;split<;>omega
    . unfold zq13;rw[if_pos hg]
    . unfold zq13;rw[if_pos hg]
  . refine .inl ⟨Ans.none,C,?_,?_⟩
    . show zq13 NC op C t=_;unfold zq13;rw[if_neg hg]
    . show(doerP NC op:Proc SN Ans) (C,A)=_;unfold doerP
      by_cases h1:op.a<0\/(NC:Int)<=op.a
      . rw[if_pos h1];rfl
      . rw[if_neg h1];unfold goodO at hg;unfold onceP;rw[if_neg zyo,if_neg zyo,if_neg zyo,if_neg zyo];rfl
 step i op C A t h0 hO:=by
  show oGoal NC op C A t;obtain⟨g1,g2,g3,g4⟩:=hO.good;obtain h|h|h|h:op.k=1\/op.k=2\/op.k=3\/op.k=4:=by omega
  . rcases hO.k1 h with h2|h2
    . exact oS1_10 hO h h2
    . exact oS1_11 hO h h2
  . rcases hO.k2 h with h2|h2|h2|h2|h2
    . exact oS2_20 hO h h2
    . exact oS2_21 hO h h2
    . exact oS2_22 hO h h2
    . exact oS2_23 hO h h2
    . exact oS2_24 hO h h2
  . rcases hO.k3 h with h2|h2|h2|h2|h2|h2|h2
    . exact oS3_30 hO h h2
    . exact oS3_31 hO h h2
    . exact oS_32 hO zyo h2
    . exact oS3_33 hO h h2
    . exact oS3_34 hO h h2
    . exact oS3_35 hO h h2
    . exact oS3_36 hO h h2
  . rcases hO.k4 h with h2|h2|h2|h2|h2
    . exact oS4_30 hO h h2
    . exact oS4_31 hO h h2
    . exact oS_32 hO zyo h2
    . exact oS4_33 hO h h2
    . exact oS4_37 hO h h2
def NoL(t:RTh)(lvs:List Value):Prop:=(∀v∈lvs,v=.slice none 0 0)/\∀a∈t.ans,a.l=[]
theorem NoL.fin {t:RTh}{lvs:List Value}(h:NoL t lvs){a:Ans}(ha:a.l=[]):NoL (t.fin a) (lvs++[.slice none 0 0]):=
 ⟨λv hv=>(List.mem_append.1 hv).elim (h.1 v) λx=>by simpa using x,λb hb=>(List.mem_append.1 hb).elim (h.2 b) λx=>by rw[List.mem_singleton.1 x];exact ha⟩
def ThPost(B tb:Nat)(opv:Value)(ops:List OpX)(av:Value)(w:World)(t':RTh)(w':World):Prop:=∃lvs' av',ThRep tyR B tb opv ops t' lvs' av' w'/\NoL t' lvs'/\KeepT tb av w w'/\SameOr av av' w
section
variable {B tb:Nat} {opv:Value} {ops:List OpX} {t:RTh} {lvs:List Value} {av:Value} {w:World}
theorem zq2f(h:ThRep tyR B tb opv ops t lvs av w)(hn:NoL t lvs)(hB:B<=w.heap.size)(hl:t.ans.length<=1048576)(hat:t.at'<=1048576)(ok:Bool)(x:Int):
 Calls Try.prog 85 #[.pointer (some ⟨tb,0,none⟩),.bool ok,.int .i64 x] w λe w'=>e=.returned (.tuple #[])/\ThPost B tb opv ops av w (t.fin ⟨ok,x,[]⟩) w':=by
 have H:=Lib.hid (zq9s h hB hl hat ⟨ok,x,[]⟩ none 0 0);have HN:=Lib.hid hn;clear h hn hl hat hB
 go_enter Try.func85,Try.ntmps85
 go_wp2_with (fail)
 refine Calls.mono H.out ?_;rintro e w' ⟨rfl,av',h1,h2,h3⟩;have HH:=Lib.hid (And.intro h1 (And.intro h2 h3));clear h1 h2 h3;go_wp2
 go_end0
 exact⟨rfl,_,_,HH.out.1,HN.out.fin rfl,HH.out.2.1,HH.out.2.2⟩
theorem zq97{mb NC Cc i:Nat}{cp:Option Addr}{tv:Value}{C:Nums}(h:ThRep tyR B tb opv ops t lvs av w)(hn:NoL t lvs)(hB:B<=w.heap.size)(hl:t.ans.length=t.at')(hat:t.at'<=ops.length)(hops:ops.length<=65536)(hNC:NC<=64)
 (hm:w.heap[mb]?=some (.cells #[.slice cp NC Cc,tv] 119)):
 Calls Try.prog 39 #[.pointer (some ⟨mb,0,none⟩),.pointer (some ⟨tb,0,none⟩)] w λe w'=>e=.returned (.tuple #[])/\ThPost B tb opv ops av w (setlG (onceM NC) i ops (C,t)).2 w':=by
 obtain⟨R,hR⟩:∃R,zqq (onceM NC) i ops (ops.length+1) (C,t)=R:=⟨_,rfl⟩;have hRR:(setlG (onceM NC) i ops (C,t)).2={R.2 with en:=decide (ops.length<=R.2.at')}:=by unfold setlG sealG;rw[hR]
 rw[hRR];clear hRR;obtain⟨oP,oC,rfl,-⟩:=h.ops.cell;obtain⟨L,hL⟩:∃L,ops.length=L:=⟨_,rfl⟩;have HI:=Lib.hid (And.intro h (And.intro hn (And.intro hB (And.intro hl (And.intro hat (And.intro hops (And.intro hR (And.intro hm (And.intro hNC hL)))))))));clear h hn hB hl hat hR hm hNC hops
 go_enter Try.func39,Try.ntmps39
 go_wp2_with (fail)
 go_loopg [] (ops.length+1) (λk wr=>∃(tc:RTh)(lc:List Value)(ac:Value),ThRep tyR B tb (.slice oP ops.length oC) ops tc lc ac wr/\NoL tc lc/\KeepT tb av w wr/\SameOr av ac w/\zqq (onceM NC) i ops k (C,tc)=R/\tc.ans.length=tc.at'/\tc.at'<=ops.length/\(tc.pc=0->ops.length<k+tc.at'))
 case atStart=>
  obtain⟨h,hn,hB,hl,hat,hops,hR,hm,_⟩:=HI.out;exact⟨t,lvs,av,h,hn,KeepT.refl _ _ _,SameOr.refl _ _,hR,hl,hat,λ_=>by omega⟩
 case round=>
  obtain⟨tc,lc,ac,hT,hn,hK,hS,hG,hl,hat,hf⟩:=hrel;have hb:=hT.blk;rw[hL]at hb hat hf;unfold thC at hb;have c0:wr.cell? ⟨tb,0,none⟩=some (.slice oP L oC):=(zq0 hb).trans rfl;have c1:wr.cell? ⟨tb,1,none⟩=some (.int .i64 tc.at'):=(zq0 hb).trans rfl;have c2:wr.cell? ⟨tb,2,none⟩=some (.int .i64 tc.pc):=(zq0 hb).trans rfl;have c13:wr.cell? ⟨tb,13,none⟩=some (.bool tc.en):=(zq0 hb).trans rfl;have f13:=zq3 (off:=13) hb;have HJ:=Lib.hid (And.intro hT (And.intro hn (And.intro hK (And.intro hS (And.intro hG (And.intro hl (And.intro hat hf)))))));clear hT hn hK hS hG hl hat hf hb
  by_cases hp:tc.pc=0
  . by_cases hlt:tc.at'<L
    ·
     obtain⟨op,hop⟩:∃op,ops[tc.at']?=some op:=⟨_,List.getElem?_eq_getElem zyo⟩;have hO:∀n,Calls Try.prog 66 #[.pointer (some ⟨tb,0,none⟩)] (wr.drewN n) λe w'=>e=.returned op.val/\Ext (wr.drewN n) w':=λn=>zq9t (ThRep.more (w':=wr.drewN n) HJ.out.1 λb hb=>rfl) hop (by have:=HI.out.2.2.2.2.2.1;omega);have HO:=Lib.hid hO;have HC:=Lib.hid (And.intro hp (And.intro hlt hop));have d1:((tc.pc:Int)==0)=true:=by simp[hp]
     have d2:decide (tc.at'<L)=true:=by simp[hlt]
     clear hp hlt hop hO
     go_wp2_with (fail)
     go_quiet (fail)
     clear d1 d2
     go_wp2_with (fail)
     refine Calls.mono (HO.out _) ?_;rintro e w1 ⟨rfl,hx⟩;have hx1:Ext wr w1:=⟨hx.size,hx.old⟩;obtain⟨Z,hZ⟩:∃Z,w1.heap.size=Z:=⟨_,rfl⟩;have hT1:=HJ.out.1.more hx1.old;have hm1:w1.heap[mb]?=some (.cells #[.slice cp NC Cc,tv] 119):=by
      obtain⟨h,_,_,_,_,_,_,hm,_,_⟩:=HI.out;have h2:wr.heap[mb]?=w.heap[mb]?:=HJ.out.2.2.1.old mb (zq7 hm) (zq14 hm h.blk zyd) (zqt h.row hm zyd);exact hx1.heap (h2.trans hm)
     have HK1:=Lib.hid (And.intro hT1 (And.intro hx1 (And.intro hm1 hZ)));clear hx hx1 hT1 hm1;unfold OpX.val
     go_wp2_with (fail)
     try rw[hZ]
     clear hZ;have hw2:∀b o,w1.heap[b]?=some o->(w1.alloc (.cells #[.int .i64 op.k,.int .i64 op.a,.int .i64 op.b,.int .i64 op.c] 34)).heap[b]?=some o:=λb o hb=>zq9 hb;have hz2:=zqo w1 (.cells #[.int .i64 op.k,.int .i64 op.a,.int .i64 op.b,.int .i64 op.c] 34);have hs2:(w1.alloc (.cells #[.int .i64 op.k,.int .i64 op.a,.int .i64 op.b,.int .i64 op.c] 34)).heap.size=w1.heap.size+1:=zq4 _ _;have ho2:∀b,b<w1.heap.size->(w1.alloc (.cells #[.int .i64 op.k,.int .i64 op.a,.int .i64 op.b,.int .i64 op.c] 34)).heap[b]?=w1.heap[b]?:=λb hb=>by rw[zq6,if_neg zyo]
     generalize (w1.alloc (.cells #[.int .i64 op.k,.int .i64 op.a,.int .i64 op.b,.int .i64 op.c] 34))=w2 at hw2 hz2 hs2 ho2 |-;rw[HK1.out.2.2.2]at hz2;have hT2:=HK1.out.1.more ho2;have hb2:=hT2.blk;rw[hL]at hb2;unfold thC at hb2;have o0:w2.cell? ⟨Z,0,none⟩=some (.int .i64 op.k):=(zq0 hz2).trans rfl;have o1:w2.cell? ⟨Z,1,none⟩=some (.int .i64 op.a):=(zq0 hz2).trans rfl;have o2:w2.cell? ⟨Z,2,none⟩=some (.int .i64 op.b):=(zq0 hz2).trans rfl;have o3:w2.cell? ⟨Z,3,none⟩=some (.int .i64 op.c):=(zq0 hz2).trans rfl;have m0:w2.cell? ⟨mb,0,none⟩=some (.slice cp NC Cc):=(zq0 (hw2 _ _ HK1.out.2.2.1)).trans rfl;have c2:w2.cell? ⟨tb,2,none⟩=some (.int .i64 tc.pc):=(zq0 hb2).trans rfl;have c4:w2.cell? ⟨tb,4,none⟩=some (.int .i64 (tc.n 1)):=(zq0 hb2).trans rfl;have f2:=zq3 (off:=2) hb2;have f4:=zq3 (off:=4) hb2;have hne:Z≠tb:=zq14 hz2 hT2.blk zyd;have hne2:¬tb=Z:=λe=>hne e.symm;have HK2:=Lib.hid (And.intro hT2 (And.intro hs2 ho2));clear hw2 hz2 hs2 ho2 hT2 hb2 c0 c1 c13 f13
     by_cases hg:goodO NC op
     . have hg':=hg;unfold goodO at hg';obtain⟨g1,g2,g3,g4⟩:=hg';have HG:=Lib.hid (And.intro hg (And.intro g3 g4));have d4:decide (op.a<0)=false:=by simp;omega
       have d5:decide ((NC:Int)<=op.a)=false:=by simp;omega
       have d6:decide (op.k<1)=false:=by simp;omega
       have d7:decide (4<op.k)=false:=by simp;omega
       clear hg g1 g2 g3 g4
       go_quiet (fail)
       clear d4 d5 d6 d7;obtain⟨P,hP⟩:∃P,(10*op.k).toNat=P:=⟨_,rfl⟩;have e10:IntKind.i64.wrap (10*op.k)=(P:Int):=by
        have:=HG.out.2;rw[IntWalk.i64_in _ zyo];omega
       have HP:=Lib.hid hP;clear hP
       go_wp2_with (fail)
       clear e10;have h5:=(ThRep.more (w':=w2.drewN nq) HK2.out.1 (λb hb=>rfl)).set (t':={tc with pc:=P}) 2 (.int .i64 P) rfl rfl;have k5:KeepT tb ac w2 ((w2.drewN nq).setCell ⟨tb,2,none⟩ (.int .i64 P)):=(KeepT.drew _ _ _ nq).trans (SameOr.refl _ _) (KeepT.set tb 2 _ _ _);have o05:((w2.drewN nq).setCell ⟨tb,2,none⟩ (.int .i64 P)).cell? ⟨Z,0,none⟩=some (.int .i64 op.k):=(zqy (zq8 _ _ _ _ hne)).trans o0;have o35:((w2.drewN nq).setCell ⟨tb,2,none⟩ (.int .i64 P)).cell? ⟨Z,3,none⟩=some (.int .i64 op.c):=(zqy (zq8 _ _ _ _ hne)).trans o3;generalize ((w2.drewN nq).setCell ⟨tb,2,none⟩ (.int .i64 P))=w5 at h5 k5 o05 o35 |-;have hb5:=h5.blk;unfold thC at hb5;have c25:w5.cell? ⟨tb,2,none⟩=some (.int .i64 P):=(zq0 hb5).trans rfl;have c45:w5.cell? ⟨tb,4,none⟩=some (.int .i64 (tc.n 1)):=(zq0 hb5).trans rfl;have f25:=zq3 (off:=2) hb5;have f45:=zq3 (off:=4) hb5;have H5:=Lib.hid (And.intro h5 k5);have HT:=Lib.hid (zqgm op.c);clear h5 k5 hb5 o0 o1 o2 o3 m0 c2 c4 f2 f4;obtain⟨TR,hTR⟩:∃TR,zq1v op.c=TR:=⟨_,rfl⟩;rw[hTR]at HT;have HTR:=Lib.hid hTR;clear hTR
       go_region_law (first|(go_simp;go_at_call 68;refine Calls.mono (HT.out _) ?_;rintro e w' ⟨rfl,rfl⟩))
       by_cases hk:op.k=4
       . go_wp2_with (fail)
         go_roundg (gk - 1)
         case measure=>have:=HJ.out.2.2.2.2.2.2.2 HC.out.1;have:=HC.out.2.1;omega
         case rel=>
          obtain⟨hT,hn,hK,hS,hG,hl,hat,hf⟩:=HJ.out;have h6:=(H5.out.1.set (t':={tc with pc:=P,n:=upd' tc.n 1 TR}) 4 (.int .i64 TR) rfl zx2q).set (t':={tc with pc:=30,n:=upd' tc.n 1 TR}) 2 (.int .i64 30) rfl rfl;refine⟨{tc with pc:=30,n:=upd' tc.n 1 TR},lc,ac,h6.more λb hb=>rfl,⟨hn.1,hn.2⟩,(hK.trans hS (⟨HK1.out.2.1.size,λb hb _ _=>HK1.out.2.1.old b hb⟩:KeepT tb ac wr w1)).trans hS ?_,hS,?_,hl,by rw[HI.out.2.2.2.2.2.2.2.2.2];exact hat,?_⟩
          . exact(⟨by have:=HK2.out.2.1;omega,λb hb _ _=>HK2.out.2.2 b hb⟩:KeepT tb ac w1 w2).trans (SameOr.refl _ _) (H5.out.2.trans (SameOr.refl _ _) ((KeepT.set tb 4 _ _ _).trans (SameOr.refl _ _) ((KeepT.set tb 2 _ _ _).trans (SameOr.refl _ _) ⟨Nat.le_refl _,λ_ _ _ _=>rfl⟩)))
          . obtain⟨g,rfl⟩:∃g,gk=g+1:=⟨gk - 1,by have:=hf HC.out.1;have:=HC.out.2.1;omega⟩;rw[zq2t HC.out.1 HC.out.2.2]at hG;rw[<-hG];show zqq _ _ _ g _=zqq _ _ _ g (zq13 NC op C tc);unfold zq13;rw[if_pos HG.out.1,if_pos hk,HTR.out]
          . exact λhp0=>absurd (show(30:Nat)=0 from hp0) zyd
       . go_wp2_with (fail)
         go_roundg (gk - 1)
         case measure=>have:=HJ.out.2.2.2.2.2.2.2 HC.out.1;have:=HC.out.2.1;omega
         case rel=>
          obtain⟨hT,hn,hK,hS,hG,hl,hat,hf⟩:=HJ.out;have h6:=H5.out.1.set (t':={tc with pc:=P,n:=upd' tc.n 1 TR}) 4 (.int .i64 TR) rfl zx2q;refine⟨{tc with pc:=P,n:=upd' tc.n 1 TR},lc,ac,h6.more λb hb=>rfl,⟨hn.1,hn.2⟩,(hK.trans hS (⟨HK1.out.2.1.size,λb hb _ _=>HK1.out.2.1.old b hb⟩:KeepT tb ac wr w1)).trans hS ?_,hS,?_,hl,by rw[HI.out.2.2.2.2.2.2.2.2.2];exact hat,?_⟩
          . exact(⟨by have:=HK2.out.2.1;omega,λb hb _ _=>HK2.out.2.2 b hb⟩:KeepT tb ac w1 w2).trans (SameOr.refl _ _) (H5.out.2.trans (SameOr.refl _ _) ((KeepT.set tb 4 _ _ _).trans (SameOr.refl _ _) ⟨Nat.le_refl _,λ_ _ _ _=>rfl⟩))
          . obtain⟨g,rfl⟩:∃g,gk=g+1:=⟨gk - 1,by have:=hf HC.out.1;have:=HC.out.2.1;omega⟩;rw[zq2t HC.out.1 HC.out.2.2]at hG;rw[<-hG];show zqq _ _ _ g _=zqq _ _ _ g (zq13 NC op C tc);unfold zq13;rw[if_pos HG.out.1,if_neg hk,HTR.out,HP.out]
          . intro hp0;have hp1:P=0:=hp0;have:=HP.out;have:=HG.out.2;omega
     . have HG:=Lib.hid hg;have hE:∀n,Calls Try.prog 67 #[.pointer (some ⟨tb,0,none⟩),.agg #[.bool false,.int .i64 0,.slice none 0 0]] (w2.drewN n) λe w'=>e=.returned (.tuple #[])/\∃av',ThRep tyR B tb (.slice oP ops.length oC) ops (tc.fin Ans.none) (lc++[.slice none 0 0]) av' w'/\KeepT tb ac (w2.drewN n) w'/\SameOr ac av' (w2.drewN n):=λn=>by
        obtain⟨hT,hn,hK,hS,hG,hl,hat,hf⟩:=HJ.out;have h5:=HI.out.2.2.2.2.2.1;exact zq9s (ThRep.more (w':=w2.drewN n) HK2.out.1 λb hb=>rfl) (Nat.le_trans HK2.out.1.lo (Nat.le_of_lt (zq7 HK2.out.1.blk))) zyo zyo Ans.none none 0 0
       have HE:=Lib.hid hE;have hc:op.a<0\/(¬op.a<0/\(NC:Int)<=op.a)\/(¬op.a<0/\¬(NC:Int)<=op.a/\op.k<1)\/(¬op.a<0/\¬(NC:Int)<=op.a/\¬op.k<1/\4<op.k):=by unfold goodO at hg;omega
       clear hg hE;rcases hc with hc|hc|hc|hc
       . have d4:decide (op.a<0)=true:=by simp;omega
         clear hc
         go_quiet (fail)
         go_wp2_with (fail)
         refine Calls.mono (HE.out _) ?_;rintro e w6 ⟨rfl,av6,k1,k2,k3⟩;have H6:=Lib.hid (And.intro k1 (And.intro k2 k3));clear k1 k2 k3 o0 o1 o2 o3 m0 c2 c4 f2 f4
         go_wp2_with (fail)
         go_roundg (gk - 1)
         case measure=>have:=HJ.out.2.2.2.2.2.2.2 HC.out.1;have:=HC.out.2.1;omega
         case rel=>
          obtain⟨hT,hn,hK,hS,hG,hl,hat,hf⟩:=HJ.out;obtain⟨k1,k2,k3⟩:=H6.out;have kw:KeepT tb ac wr w2:=(⟨HK1.out.2.1.size,λb hb _ _=>HK1.out.2.1.old b hb⟩:KeepT tb ac wr w1).trans (SameOr.refl _ _) (⟨by have:=HK2.out.2.1;omega,λb hb _ _=>HK2.out.2.2 b hb⟩:KeepT tb ac w1 w2);have k2':KeepT tb ac w2 w6:=⟨k2.size,k2.old⟩;have k3':SameOr av av6 w:=hS.trans (Nat.le_trans hK.size kw.size) (λg hg=>k3 g hg);refine⟨tc.fin Ans.none,_,av6,k1,hn.fin rfl,(hK.trans hS kw).trans hS k2',k3',?_,?_,?_,?_⟩
          . exact zxg
          . exact zx1n
          . exact zx2j
          . exact zx1d
       . have d4:decide (op.a<0)=false:=by simp;omega
         have d5:decide ((NC:Int)<=op.a)=true:=by simp;omega
         clear hc
         go_quiet (fail)
         go_wp2_with (fail)
         refine Calls.mono (HE.out _) ?_;rintro e w6 ⟨rfl,av6,k1,k2,k3⟩;have H6:=Lib.hid (And.intro k1 (And.intro k2 k3));clear k1 k2 k3 o0 o1 o2 o3 m0 c2 c4 f2 f4
         go_wp2_with (fail)
         go_roundg (gk - 1)
         case measure=>have:=HJ.out.2.2.2.2.2.2.2 HC.out.1;have:=HC.out.2.1;omega
         case rel=>
          obtain⟨hT,hn,hK,hS,hG,hl,hat,hf⟩:=HJ.out;obtain⟨k1,k2,k3⟩:=H6.out;have kw:KeepT tb ac wr w2:=(⟨HK1.out.2.1.size,λb hb _ _=>HK1.out.2.1.old b hb⟩:KeepT tb ac wr w1).trans (SameOr.refl _ _) (⟨by have:=HK2.out.2.1;omega,λb hb _ _=>HK2.out.2.2 b hb⟩:KeepT tb ac w1 w2);have k2':KeepT tb ac w2 w6:=⟨k2.size,k2.old⟩;have k3':SameOr av av6 w:=hS.trans (Nat.le_trans hK.size kw.size) (λg hg=>k3 g hg);refine⟨tc.fin Ans.none,_,av6,k1,hn.fin rfl,(hK.trans hS kw).trans hS k2',k3',?_,?_,?_,?_⟩
          . exact zxg
          . exact zx1n
          . exact zx2j
          . exact zx1d
       . have d4:decide (op.a<0)=false:=by simp;omega
         have d5:decide ((NC:Int)<=op.a)=false:=by simp;omega
         have d6:decide (op.k<1)=true:=by simp;omega
         clear hc
         go_quiet (fail)
         go_wp2_with (fail)
         refine Calls.mono (HE.out _) ?_;rintro e w6 ⟨rfl,av6,k1,k2,k3⟩;have H6:=Lib.hid (And.intro k1 (And.intro k2 k3));clear k1 k2 k3 o0 o1 o2 o3 m0 c2 c4 f2 f4
         go_wp2_with (fail)
         go_roundg (gk - 1)
         case measure=>have:=HJ.out.2.2.2.2.2.2.2 HC.out.1;have:=HC.out.2.1;omega
         case rel=>
          obtain⟨hT,hn,hK,hS,hG,hl,hat,hf⟩:=HJ.out;obtain⟨k1,k2,k3⟩:=H6.out;have kw:KeepT tb ac wr w2:=(⟨HK1.out.2.1.size,λb hb _ _=>HK1.out.2.1.old b hb⟩:KeepT tb ac wr w1).trans (SameOr.refl _ _) (⟨by have:=HK2.out.2.1;omega,λb hb _ _=>HK2.out.2.2 b hb⟩:KeepT tb ac w1 w2);have k2':KeepT tb ac w2 w6:=⟨k2.size,k2.old⟩;have k3':SameOr av av6 w:=hS.trans (Nat.le_trans hK.size kw.size) (λg hg=>k3 g hg);refine⟨tc.fin Ans.none,_,av6,k1,hn.fin rfl,(hK.trans hS kw).trans hS k2',k3',?_,?_,?_,?_⟩
          . exact zxg
          . exact zx1n
          . exact zx2j
          . exact zx1d
       . have d4:decide (op.a<0)=false:=by simp;omega
         have d5:decide ((NC:Int)<=op.a)=false:=by simp;omega
         have d6:decide (op.k<1)=false:=by simp;omega
         have d7:decide (4<op.k)=true:=by simp;omega
         clear hc
         go_quiet (fail)
         go_wp2_with (fail)
         refine Calls.mono (HE.out _) ?_;rintro e w6 ⟨rfl,av6,k1,k2,k3⟩;have H6:=Lib.hid (And.intro k1 (And.intro k2 k3));clear k1 k2 k3 o0 o1 o2 o3 m0 c2 c4 f2 f4
         go_wp2_with (fail)
         go_roundg (gk - 1)
         case measure=>have:=HJ.out.2.2.2.2.2.2.2 HC.out.1;have:=HC.out.2.1;omega
         case rel=>
          obtain⟨hT,hn,hK,hS,hG,hl,hat,hf⟩:=HJ.out;obtain⟨k1,k2,k3⟩:=H6.out;have kw:KeepT tb ac wr w2:=(⟨HK1.out.2.1.size,λb hb _ _=>HK1.out.2.1.old b hb⟩:KeepT tb ac wr w1).trans (SameOr.refl _ _) (⟨by have:=HK2.out.2.1;omega,λb hb _ _=>HK2.out.2.2 b hb⟩:KeepT tb ac w1 w2);have k2':KeepT tb ac w2 w6:=⟨k2.size,k2.old⟩;have k3':SameOr av av6 w:=hS.trans (Nat.le_trans hK.size kw.size) (λg hg=>k3 g hg);refine⟨tc.fin Ans.none,_,av6,k1,hn.fin rfl,(hK.trans hS kw).trans hS k2',k3',?_,?_,?_,?_⟩
          . exact zxg
          . exact zx1n
          . exact zx2j
          . exact zx1d
    ·
     have HC:=Lib.hid (And.intro hp hlt);have d1:((tc.pc:Int)==0)=true:=by simp[hp]
     have d2:decide (tc.at'<L)=false:=by simp;omega
     have d3:decide (L<=tc.at')=true:=by simp;omega
     clear hp hlt
     go_wp2_with (fail)
     go_quiet (fail)
     have hcl:∀q,(wr.drewN nq).cell? q=wr.cell? q:=λq=>rfl;have hfl:∀q,(wr.drewN nq).frozen? q=wr.frozen? q:=λq=>rfl;rw[<-hcl]at c0 c1 c13;rw[<-hfl]at f13;clear hcl hfl;have HD:RowKit.Hid (∃n,wr.drewN nq=wr.drewN n):=Lib.hid ⟨nq,rfl⟩;generalize wr.drewN nq=wq at c0 c1 c13 f13 HD |-
     go_wp2_with (fail)
     refine zq47 (k:=13) (C:=λw'=>∃n,w'=wq.drewN n) zyk zyk zyk zyk zyk ⟨1,rfl⟩ ?_;simp only[List.take_succ_cons,List.take_zero]
     repeat (quiet_step (fail))
     refine wpQuiet_nil ?_;rintro w' ⟨nr,rfl⟩;refine zq2l (i:=13) zyk ?_;simp only[wpOp,al_gl,al_g0,al_g1];rw[if_pos zx2p];refine .inl ?_;have f13':(wq.drewN nr).frozen? ⟨tb,13,none⟩=false:=f13;have c13':(wq.drewN nr).cell? ⟨tb,13,none⟩=some (.bool tc.en):=c13;clear c0 c1 c13 f13;go_simp;refine zq2k zyk ?_;clear f13' c13'
     go_end0
     obtain⟨hT,hn,hK,hS,hG,hl,hat,hf⟩:=HJ.out;obtain⟨n1,rfl⟩:=HD.out;have hRt:tc=R.2:=by
      rw[<-hG];cases gk with
      |zero=>rfl
      |succ gk=>
       show _=(if tc.pc=0 then _ else _:Nums×RTh).2;rw[if_pos HC.out.1];have:ops[tc.at']?=none:=List.getElem?_eq_none_iff.2 (by have:=HC.out.2;omega);simp only[this]
     rw[<-hRt];have he:decide (ops.length<=tc.at')=true:=by simp;have:=HC.out.2;omega
     rw[he];refine⟨rfl,lc,ac,?_,⟨hn.1,hn.2⟩,(hK.trans hS (KeepT.drew _ _ _ n1)).trans hS ((KeepT.drew _ _ _ nr).trans (SameOr.refl _ _) (KeepT.set tb 13 _ _ _)),hS⟩;have hT1:ThRep tyR B tb (.slice oP ops.length oC) ops tc lc ac ((wr.drewN n1).drewN nr):=hT.more λb hb=>rfl;refine hT1.set 13 _ rfl ?_;show _=thC _ _ _;unfold thC;rfl
  ·
   have HC:=Lib.hid hp;have hp':¬((tc.pc:Int)=0):=by omega
   have d1:((tc.pc:Int)==0)=false:=by simp[hp]
   have HL:=Lib.hid hL;obtain⟨bb,hbb⟩:∃bb,decide (L<=tc.at')=bb:=⟨_,rfl⟩;have HBB:=Lib.hid hbb;clear hp hL
   go_wp2_with (fail)
   go_quiet (fail)
   have hcl:∀q,(wr.drewN nq).cell? q=wr.cell? q:=λq=>rfl;have hfl:∀q,(wr.drewN nq).frozen? q=wr.frozen? q:=λq=>rfl;rw[<-hcl]at c0 c1 c13;rw[<-hfl]at f13;clear hcl hfl;have HD:RowKit.Hid (∃n,wr.drewN nq=wr.drewN n):=Lib.hid ⟨nq,rfl⟩;generalize wr.drewN nq=wq at c0 c1 c13 f13 HD |-
   go_wp2_with (fail)
   refine zq47 (k:=13) (C:=λw'=>∃n,w'=wq.drewN n) zyk zyk zyk zyk zyk ⟨1,rfl⟩ ?_;simp only[List.take_succ_cons,List.take_zero]
   repeat (quiet_step (fail))
   refine wpQuiet_nil ?_;rintro w' ⟨nr,rfl⟩;refine zq2l (i:=13) zyk ?_;simp only[wpOp,al_gl,al_g0,al_g1];rw[if_pos zx2p];refine .inl ?_;have f13':(wq.drewN nr).frozen? ⟨tb,13,none⟩=false:=f13;have c13':(wq.drewN nr).cell? ⟨tb,13,none⟩=some (.bool tc.en):=c13;clear c0 c1 c13 f13;go_simp;refine zq2k zyk ?_;clear f13' c13'
   go_end0
   obtain⟨hT,hn,hK,hS,hG,hl,hat,hf⟩:=HJ.out;obtain⟨n1,rfl⟩:=HD.out;have hRt:tc=R.2:=by
    rw[<-hG,zq2j HC.out]
   rw[<-hRt];have he:decide (ops.length<=tc.at')=bb:=by rw[HL.out];exact HBB.out
   rw[he];refine⟨rfl,lc,ac,?_,⟨hn.1,hn.2⟩,(hK.trans hS (KeepT.drew _ _ _ n1)).trans hS ((KeepT.drew _ _ _ nr).trans (SameOr.refl _ _) (KeepT.set tb 13 _ _ _)),hS⟩;have hT1:ThRep tyR B tb (.slice oP ops.length oC) ops tc lc ac ((wr.drewN n1).drewN nr):=hT.more λb hb=>rfl;refine hT1.set 13 _ rfl ?_;show _=thC _ _ _;unfold thC;rfl
end
theorem wrapE(x:Int):IntKind.i64.wrap x=wrap64 x:=by rw[IntKind.wrap_i64];simp only[wrap64];try omega
structure KeepM(tb g:Nat)(av:Value)(w w':World):Prop where
 size:w.heap.size<=w'.heap.size
 old:∀b,b<w.heap.size->b≠tb->b≠g->av.ownBlock≠some b->w'.heap[b]?=w.heap[b]?
def cF(C:Nums)(i j:Nat):Value:=.int .i64 (C i j)
structure ORun(B tb g NC Cc:Nat)(opv:Value)(ops:List OpX)(av0:Value)(w0:World)(C:Nums)(t:RTh)(lvs:List Value)(av:Value)(w:World):Prop where
 th:ThRep tyR B tb opv ops t lvs av w
 nol:NoL t lvs
 row:RecRow w B 122 3 (.slice (some ⟨g,0,none⟩) NC Cc) NC (cF C)
 keep:KeepM tb g av0 w0 w
 same:SameOr av0 av w0
def OPost(B tb g NC Cc:Nat)(opv:Value)(ops:List OpX)(av0:Value)(w0:World)(C:Nums)(t:RTh)(w:World):Prop:=∃lvs av,ORun B tb g NC Cc opv ops av0 w0 C t lvs av w
section
variable {B tb g NC Cc:Nat} {opv:Value} {ops:List OpX} {av0:Value} {w0:World} {C:Nums} {t:RTh} {lvs:List Value} {av:Value} {w:World}
theorem ORun.gblk (h:ORun B tb g NC Cc opv ops av0 w0 C t lvs av w):∃c,w.heap[g]?=some (.cells c 122):=(h.row.lt (show(Value.slice (some ⟨g,0,none⟩) NC Cc).ownBlock=some g from rfl)).1
theorem ORun.ne (h:ORun B tb g NC Cc opv ops av0 w0 C t lvs av w):g≠tb:=by
 obtain⟨c,hc⟩:=h.gblk;exact zq14 hc h.th.blk zyd
theorem ORun.start (h:ThRep tyR B tb opv ops t lvs av w)(hn:NoL t lvs)(hr:RecRow w B 122 3 (.slice (some ⟨g,0,none⟩) NC Cc) NC (cF C)):ORun B tb g NC Cc opv ops av w C t lvs av w:=⟨h,hn,hr,⟨Nat.le_refl _,λ_ _ _ _ _=>rfl⟩,SameOr.refl _ _⟩
theorem ORun.more {w':World}(h:ORun B tb g NC Cc opv ops av0 w0 C t lvs av w)(hs:w.heap.size<=w'.heap.size)(ho:∀b,b<w.heap.size->w'.heap[b]?=w.heap[b]?):ORun B tb g NC Cc opv ops av0 w0 C t lvs av w':=
 ⟨h.th.more ho,h.nol,h.row.of λq hq=>ho q (h.row.lt hq).2.2,⟨Nat.le_trans h.keep.size hs,λb hb h1 h2 h3=>(ho b (Nat.lt_of_lt_of_le hb h.keep.size)).trans (h.keep.old b hb h1 h2 h3)⟩,h.same⟩
theorem ORun.setT (h:ORun B tb g NC Cc opv ops av0 w0 C t lvs av w){t':RTh}(j:Nat)(x:Value)(ha:t'.ans=t.ans)(hc:(thC opv t av).setIfInBounds j x=thC opv t' av):ORun B tb g NC Cc opv ops av0 w0 C t' lvs av (w.setCell ⟨tb,j,none⟩ x):=
 ⟨h.th.set j x ha hc,⟨h.nol.1,by rw[ha];exact h.nol.2⟩,h.row.of λq hq=>by
  simp only[Value.ownBlock,al_oi]at hq;subst hq;exact zq8 _ _ _ _ h.ne,⟨by rw[zqf];exact h.keep.size,λb hb h1 h2 h3=>(zq8 _ _ _ _ h1).trans (h.keep.old b hb h1 h2 h3)⟩,h.same⟩
theorem ORun.setC (h:ORun B tb g NC Cc opv ops av0 w0 C t lvs av w){c j:Nat}(hc:c<NC)(hj:j<3)(x:Int):ORun B tb g NC Cc opv ops av0 w0 (upd2 C c j x) t lvs av (w.setCell ⟨g,c*3+j,none⟩ (.int .i64 x)):=by
 obtain⟨cg,hg⟩:=h.gblk;refine⟨h.th.frame (zq8 _ _ _ _ λe=>h.ne e.symm) (λq hq=>zq8 _ _ _ _ λe=>zqt h.th.row hg zyd (by rw[hq,show q=g from e])) (λq hq=>zq8 _ _ _ _ λe=>?_),h.nol,(h.row.set hc hj _).congr λa b _ _=>?_,⟨by rw[zqf];exact h.keep.size,λb hb h1 h2 h3=>(zq8 _ _ _ _ h2).trans (h.keep.old b hb h1 h2 h3)⟩,h.same⟩
 . obtain⟨⟨c',hc'⟩,_⟩:=own_lt h.th.ops.row hq;rw[show q=g from e]at hc';exact absurd (zq3e hc' hg) zyd
 . unfold cF;rw[upd2_at];split<;>rfl
theorem ORun.told (h:ORun B tb g NC Cc opv ops av0 w0 C t lvs av w){t':RTh}{w':World}(k:ThPost B tb opv ops av w t' w'):OPost B tb g NC Cc opv ops av0 w0 C t' w':=by
 obtain⟨lvs',av',k1,k2,k3,k4⟩:=k;obtain⟨cg,hg⟩:=h.gblk;refine⟨lvs',av',k1,k2,h.row.of λq hq=>?_,⟨Nat.le_trans h.keep.size k3.size,λb hb h1 h2 h3=>(k3.old b (Nat.lt_of_lt_of_le hb h.keep.size) h1 λe=>(h.same b e).elim h3 λx=>by omega).trans (h.keep.old b hb h1 h2 h3)⟩,h.same.trans h.keep.size k4⟩;simp only[Value.ownBlock,al_oi]at hq;subst hq;exact k3.old _ (zq7 hg) h.ne (zqt h.th.row hg zyd)
structure OFind(tb g c:Nat)(C:Nums)(t:RTh)(w:World):Prop where
 pc:w.cell? ⟨tb,2,none⟩=some (.int .i64 t.pc)
 fpc:w.frozen? ⟨tb,2,none⟩=false
 n0:w.cell? ⟨tb,3,none⟩=some (.int .i64 (t.n 0))
 fn0:w.frozen? ⟨tb,3,none⟩=false
 n1:w.cell? ⟨tb,4,none⟩=some (.int .i64 (t.n 1))
 fn1:w.frozen? ⟨tb,4,none⟩=false
 k0:w.cell? ⟨g,c*3,none⟩=some (.int .i64 (C c 0))
 k1:w.cell? ⟨g,c*3+1,none⟩=some (.int .i64 (C c 1))
 k2:w.cell? ⟨g,c*3+2,none⟩=some (.int .i64 (C c 2))
 fk0:w.frozen? ⟨g,c*3,none⟩=false
 fk1:w.frozen? ⟨g,c*3+1,none⟩=false
 fk2:w.frozen? ⟨g,c*3+2,none⟩=false
theorem ORun.find (h:ORun B tb g NC Cc opv ops av0 w0 C t lvs av w){c:Nat}(hc:c<NC):OFind tb g c C t w:=by
 have hb:=h.th.blk;unfold thC at hb;obtain⟨a0,b0⟩:=h.row.cell hc (show 0<3 by decide);obtain⟨a1,b1⟩:=h.row.cell hc (show 1<3 by decide);obtain⟨a2,b2⟩:=h.row.cell hc (show 2<3 by decide);exact⟨(zq0 hb).trans rfl,zq3 hb,(zq0 hb).trans rfl,zq3 hb,(zq0 hb).trans rfl,zq3 hb,a0,a1,a2,b0,b1,b2⟩
end
structure OHy(B tb g NC Cc c:Nat)(opv:Value)(ops:List OpX)(C:Nums)(t:RTh)(lvs:List Value)(av:Value)(w:World)(op:OpX):Prop where
 h:ThRep tyR B tb opv ops t lvs av w
 hn:NoL t lvs
 hr:RecRow w B 122 3 (.slice (some ⟨g,0,none⟩) NC Cc) NC (cF C)
 hl:t.ans.length<=1048576
 hat:t.at'<=1048576
 hc:c<NC
 hca:op.a.toNat=c
def OGo(f:FuncId)(fn:OpX->Nums->RTh->Nums×RTh)(B tb g NC Cc mb c:Nat)(opv:Value)(ops:List OpX)(C:Nums)(t:RTh)(av:Value)(w:World)(op:OpX):Prop:=
 Calls Try.prog f #[.pointer (some ⟨mb,0,none⟩),.pointer (some ⟨tb,0,none⟩),op.val,.pointer (some ⟨g,c*3,none⟩)] w λe w'=>e=.returned (.tuple #[])/\OPost B tb g NC Cc opv ops av w (fn op C t).1 (fn op C t).2 w'
theorem o_pre{B tb g NC Cc c p:Nat}{opv:Value}{ops:List OpX}{C:Nums}{t:RTh}{lvs:List Value}{av:Value}{w:World}{op:OpX}(H:OHy B tb g NC Cc c opv ops C t lvs av w op)(hp:t.pc=p):
 ∃w1 Z,w.alloc (.cells #[.int .i64 op.k,.int .i64 op.a,.int .i64 op.b,.int .i64 op.c] 34)=w1/\w.heap.size=Z/\ORun B tb g NC Cc opv ops av w C t lvs av w1/\w.heap.size<=w1.heap.size/\B<=w.heap.size/\w1.cell? ⟨tb,2,none⟩=some (.int .i64 p)/\w1.frozen? ⟨tb,2,none⟩=false/\w1.cell? ⟨tb,3,none⟩=some (.int .i64 (t.n 0))/\w1.frozen? ⟨tb,3,none⟩=false/\w1.cell? ⟨tb,4,none⟩=some (.int .i64 (t.n 1))/\w1.frozen? ⟨tb,4,none⟩=false/\
  w1.cell? ⟨g,c*3,none⟩=some (.int .i64 (C c 0))/\w1.cell? ⟨g,c*3+1,none⟩=some (.int .i64 (C c 1))/\w1.cell? ⟨g,c*3+2,none⟩=some (.int .i64 (C c 2))/\w1.frozen? ⟨g,c*3,none⟩=false/\w1.frozen? ⟨g,c*3+1,none⟩=false/\w1.frozen? ⟨g,c*3+2,none⟩=false/\w1.cell? ⟨Z,0,none⟩=some (.int .i64 op.k)/\w1.cell? ⟨Z,2,none⟩=some (.int .i64 op.b)/\g≠tb/\tb≠g/\Z≠tb/\Z≠g:=by
 obtain⟨h,hn,hr,hl,hat,hc,hca⟩:=H;have hR:=(ORun.start h hn hr).more (w':=w.alloc (.cells #[.int .i64 op.k,.int .i64 op.a,.int .i64 op.b,.int .i64 op.c] 34)) zx3h (λb hb=>by rw[zq6,if_neg zyo]);have hz:=zqo w (.cells #[.int .i64 op.k,.int .i64 op.a,.int .i64 op.b,.int .i64 op.c] 34);obtain⟨p2,f2,p3,f3,p4,f4,k0,k1,k2,fk0,fk1,fk2⟩:=hR.find hc;rw[hp]at p2;exact⟨_,_,rfl,rfl,hR,by rw[zq4];omega,Nat.le_trans h.lo (Nat.le_of_lt (zq7 h.blk)),p2,f2,p3,f3,p4,f4,k0,k1,k2,fk0,fk1,fk2,(zq0 hz).trans rfl,(zq0 hz).trans rfl,hR.ne,λe=>hR.ne e.symm,zq14 hz hR.th.blk zyd,by obtain⟨cg,hg⟩:=hR.gblk;exact zq14 hz hg zyd⟩
section
variable {B tb g NC Cc mb c:Nat} {opv:Value} {ops:List OpX} {C:Nums} {t:RTh} {lvs:List Value} {av:Value} {w:World} {op:OpX}
theorem oset_10a(H:OHy B tb g NC Cc c opv ops C t lvs av w op)(hp:t.pc=10)(hs:C c 0=2):OGo 69 zq5 B tb g NC Cc mb c opv ops C t av w op:=by
 unfold OGo;obtain⟨h,hn,hr,hl,hat,hc,hca⟩:=id H;have hres:zq5 op C t=(C,{t with pc:=11}):=by unfold zq5;simp[hp,hca,hs]
 rw[hres];clear hres;obtain⟨w1,Z,hw1,hZ,hR,hsz,hBw,p2,f2,p3,f3,p4,f4,k0,k1,k2,fk0,fk1,fk2,z0,z2,ne1,ne2,ne3,ne4⟩:=o_pre H hp;replace p2:w1.cell? ⟨tb,2,none⟩=some (.int .i64 10):=p2;have s0:=hR.setT (t':={t with pc:=11}) 2 (.int .i64 (11)) rfl zx2q;have HE:=Lib.hid s0;clear H h hn hr hl hat hc hR hBw hsz hp s0 hca;unfold OpX.val
 go_enter Try.func69,Try.ntmps69
 go_wp2
 go_end0
 exact⟨rfl,_,_,HE.out⟩
theorem oset_10b(H:OHy B tb g NC Cc c opv ops C t lvs av w op)(hp:t.pc=10)(hs:¬C c 0=2):OGo 69 zq5 B tb g NC Cc mb c opv ops C t av w op:=by
 unfold OGo;obtain⟨h,hn,hr,hl,hat,hc,hca⟩:=id H;have hres:zq5 op C t=(C,RTh.fin {t with pc:=11} ⟨false,0,[]⟩):=by unfold zq5;simp[hp,hca,hs]
 rw[hres];clear hres;obtain⟨w1,Z,hw1,hZ,hR,hsz,hBw,p2,f2,p3,f3,p4,f4,k0,k1,k2,fk0,fk1,fk2,z0,z2,ne1,ne2,ne3,ne4⟩:=o_pre H hp;replace p2:w1.cell? ⟨tb,2,none⟩=some (.int .i64 10):=p2;have s0:=hR.setT (t':={t with pc:=11}) 2 (.int .i64 (11)) rfl zx2q;have HE:=Lib.hid s0;have HT:=Lib.hid (zq2f s0.th s0.nol zx3x (by exact hl) zx43 false (0));clear H h hn hr hl hat hc hR hBw hsz hp s0 hca;unfold OpX.val
 go_enter Try.func69,Try.ntmps69
 go_wp2_with (fail)
 refine Calls.mono HT.out ?_;rintro e w' ⟨rfl,hk⟩;have HK:=Lib.hid hk;clear hk hw1 hZ p2 p3 p4 f2 f3 f4 k0 k1 k2 fk0 fk1 fk2 z0 z2;go_wp2
 go_end0
 exact⟨rfl,HE.out.told HK.out⟩
theorem oset_11(H:OHy B tb g NC Cc c opv ops C t lvs av w op)(hp:t.pc=11):OGo 69 zq5 B tb g NC Cc mb c opv ops C t av w op:=by
 unfold OGo;obtain⟨h,hn,hr,hl,hat,hc,hca⟩:=id H;have hres:zq5 op C t=(C,RTh.fin t ⟨true,C c 1,[]⟩):=by unfold zq5;simp[hp,hca]
 rw[hres];clear hres;obtain⟨w1,Z,hw1,hZ,hR,hsz,hBw,p2,f2,p3,f3,p4,f4,k0,k1,k2,fk0,fk1,fk2,z0,z2,ne1,ne2,ne3,ne4⟩:=o_pre H hp;replace p2:w1.cell? ⟨tb,2,none⟩=some (.int .i64 11):=p2;have HE:=Lib.hid hR;have HT:=Lib.hid (zq2f hR.th hR.nol zyo (by exact hl) zx43 true (C c 1));clear H h hn hr hl hat hc hR hBw hsz hp hca;unfold OpX.val
 go_enter Try.func69,Try.ntmps69
 go_wp2_with (fail)
 refine Calls.mono HT.out ?_;rintro e w' ⟨rfl,hk⟩;have HK:=Lib.hid hk;clear hk hw1 hZ p2 p3 p4 f2 f3 f4 k0 k1 k2 fk0 fk1 fk2 z0 z2;go_wp2
 go_end0
 exact⟨rfl,HE.out.told HK.out⟩
theorem oset_20a(H:OHy B tb g NC Cc c opv ops C t lvs av w op)(hp:t.pc=20)(hs:C c 0=0):OGo 69 zq5 B tb g NC Cc mb c opv ops C t av w op:=by
 unfold OGo;obtain⟨h,hn,hr,hl,hat,hc,hca⟩:=id H;have hres:zq5 op C t=((upd2 C c 0 (1)),{t with pc:=21}):=by unfold zq5;simp[hp,hca,hs]
 rw[hres];clear hres;obtain⟨w1,Z,hw1,hZ,hR,hsz,hBw,p2,f2,p3,f3,p4,f4,k0,k1,k2,fk0,fk1,fk2,z0,z2,ne1,ne2,ne3,ne4⟩:=o_pre H hp;replace p2:w1.cell? ⟨tb,2,none⟩=some (.int .i64 20):=p2;have s0:=hR.setT (t':={t with pc:=23}) 2 (.int .i64 (23)) rfl zx2q;have s1:=s0.setC hc (j:=0) zyd (1);have s2:=s1.setT (t':={t with pc:=21}) 2 (.int .i64 (21)) rfl zx2q;have HE:=Lib.hid s2;clear H h hn hr hl hat hc hR hBw hsz hp s0 s1 s2 hca;unfold OpX.val
 go_enter Try.func69,Try.ntmps69
 go_wp2
 go_end0
 exact⟨rfl,_,_,HE.out⟩
theorem oset_20b(H:OHy B tb g NC Cc c opv ops C t lvs av w op)(hp:t.pc=20)(hs:¬C c 0=0):OGo 69 zq5 B tb g NC Cc mb c opv ops C t av w op:=by
 unfold OGo;obtain⟨h,hn,hr,hl,hat,hc,hca⟩:=id H;have hres:zq5 op C t=(C,{t with pc:=23}):=by unfold zq5;simp[hp,hca,hs]
 rw[hres];clear hres;obtain⟨w1,Z,hw1,hZ,hR,hsz,hBw,p2,f2,p3,f3,p4,f4,k0,k1,k2,fk0,fk1,fk2,z0,z2,ne1,ne2,ne3,ne4⟩:=o_pre H hp;replace p2:w1.cell? ⟨tb,2,none⟩=some (.int .i64 20):=p2;have s0:=hR.setT (t':={t with pc:=23}) 2 (.int .i64 (23)) rfl zx2q;have HE:=Lib.hid s0;clear H h hn hr hl hat hc hR hBw hsz hp s0 hca;unfold OpX.val
 go_enter Try.func69,Try.ntmps69
 go_wp2
 go_end0
 exact⟨rfl,_,_,HE.out⟩
theorem oset_21(H:OHy B tb g NC Cc c opv ops C t lvs av w op)(hp:t.pc=21):OGo 69 zq5 B tb g NC Cc mb c opv ops C t av w op:=by
 unfold OGo;obtain⟨h,hn,hr,hl,hat,hc,hca⟩:=id H;have hres:zq5 op C t=((upd2 C c 1 (op.b)),{t with pc:=22}):=by unfold zq5;simp[hp,hca]
 rw[hres];clear hres;obtain⟨w1,Z,hw1,hZ,hR,hsz,hBw,p2,f2,p3,f3,p4,f4,k0,k1,k2,fk0,fk1,fk2,z0,z2,ne1,ne2,ne3,ne4⟩:=o_pre H hp;replace p2:w1.cell? ⟨tb,2,none⟩=some (.int .i64 21):=p2;have s0:=hR.setC hc (j:=1) zyd (op.b);have s1:=s0.setT (t':={t with pc:=22}) 2 (.int .i64 (22)) rfl zx2q;have HE:=Lib.hid s1;clear H h hn hr hl hat hc hR hBw hsz hp s0 s1 hca;unfold OpX.val
 go_enter Try.func69,Try.ntmps69
 go_wp2
 go_end0
 exact⟨rfl,_,_,HE.out⟩
theorem oset_22(H:OHy B tb g NC Cc c opv ops C t lvs av w op)(hp:t.pc=22):OGo 69 zq5 B tb g NC Cc mb c opv ops C t av w op:=by
 unfold OGo;obtain⟨h,hn,hr,hl,hat,hc,hca⟩:=id H;have hres:zq5 op C t=((upd2 C c 0 (2)),RTh.fin t ⟨true,op.b,[]⟩):=by unfold zq5;simp[hp,hca]
 rw[hres];clear hres;obtain⟨w1,Z,hw1,hZ,hR,hsz,hBw,p2,f2,p3,f3,p4,f4,k0,k1,k2,fk0,fk1,fk2,z0,z2,ne1,ne2,ne3,ne4⟩:=o_pre H hp;replace p2:w1.cell? ⟨tb,2,none⟩=some (.int .i64 22):=p2;have s0:=hR.setC hc (j:=0) zyd (2);have HE:=Lib.hid s0;have HT:=Lib.hid (zq2f s0.th s0.nol zx3x (by exact hl) zx43 true (op.b));clear H h hn hr hl hat hc hR hBw hsz hp s0 hca;unfold OpX.val
 go_enter Try.func69,Try.ntmps69
 go_wp2_with (fail)
 refine Calls.mono HT.out ?_;rintro e w' ⟨rfl,hk⟩;have HK:=Lib.hid hk;clear hk hw1 hZ p2 p3 p4 f2 f3 f4 k0 k1 k2 fk0 fk1 fk2 z0 z2;go_wp2
 go_end0
 exact⟨rfl,HE.out.told HK.out⟩
theorem oset_23a(H:OHy B tb g NC Cc c opv ops C t lvs av w op)(hp:t.pc=23)(hs:C c 0=2):OGo 69 zq5 B tb g NC Cc mb c opv ops C t av w op:=by
 unfold OGo;obtain⟨h,hn,hr,hl,hat,hc,hca⟩:=id H;have hres:zq5 op C t=(C,{t with pc:=24}):=by unfold zq5;simp[hp,hca,hs]
 rw[hres];clear hres;obtain⟨w1,Z,hw1,hZ,hR,hsz,hBw,p2,f2,p3,f3,p4,f4,k0,k1,k2,fk0,fk1,fk2,z0,z2,ne1,ne2,ne3,ne4⟩:=o_pre H hp;replace p2:w1.cell? ⟨tb,2,none⟩=some (.int .i64 23):=p2;have s0:=hR.setT (t':={t with pc:=24}) 2 (.int .i64 (24)) rfl zx2q;have HE:=Lib.hid s0;clear H h hn hr hl hat hc hR hBw hsz hp s0 hca;unfold OpX.val
 go_enter Try.func69,Try.ntmps69
 go_wp2
 go_end0
 exact⟨rfl,_,_,HE.out⟩
theorem oset_23b(H:OHy B tb g NC Cc c opv ops C t lvs av w op)(hp:t.pc=23)(hs:¬C c 0=2):OGo 69 zq5 B tb g NC Cc mb c opv ops C t av w op:=by
 unfold OGo;obtain⟨h,hn,hr,hl,hat,hc,hca⟩:=id H;have hres:zq5 op C t=(C,RTh.fin {t with pc:=24} ⟨false,0,[]⟩):=by unfold zq5;simp[hp,hca,hs]
 rw[hres];clear hres;obtain⟨w1,Z,hw1,hZ,hR,hsz,hBw,p2,f2,p3,f3,p4,f4,k0,k1,k2,fk0,fk1,fk2,z0,z2,ne1,ne2,ne3,ne4⟩:=o_pre H hp;replace p2:w1.cell? ⟨tb,2,none⟩=some (.int .i64 23):=p2;have s0:=hR.setT (t':={t with pc:=24}) 2 (.int .i64 (24)) rfl zx2q;have HE:=Lib.hid s0;have HT:=Lib.hid (zq2f s0.th s0.nol zx3x (by exact hl) zx43 false (0));clear H h hn hr hl hat hc hR hBw hsz hp s0 hca;unfold OpX.val
 go_enter Try.func69,Try.ntmps69
 go_wp2_with (fail)
 refine Calls.mono HT.out ?_;rintro e w' ⟨rfl,hk⟩;have HK:=Lib.hid hk;clear hk hw1 hZ p2 p3 p4 f2 f3 f4 k0 k1 k2 fk0 fk1 fk2 z0 z2;go_wp2
 go_end0
 exact⟨rfl,HE.out.told HK.out⟩
theorem oset_24(H:OHy B tb g NC Cc c opv ops C t lvs av w op)(hp:t.pc=24):OGo 69 zq5 B tb g NC Cc mb c opv ops C t av w op:=by
 unfold OGo;obtain⟨h,hn,hr,hl,hat,hc,hca⟩:=id H;have hres:zq5 op C t=(C,RTh.fin t ⟨false,C c 1,[]⟩):=by unfold zq5;simp[hp,hca]
 rw[hres];clear hres;obtain⟨w1,Z,hw1,hZ,hR,hsz,hBw,p2,f2,p3,f3,p4,f4,k0,k1,k2,fk0,fk1,fk2,z0,z2,ne1,ne2,ne3,ne4⟩:=o_pre H hp;replace p2:w1.cell? ⟨tb,2,none⟩=some (.int .i64 24):=p2;have HE:=Lib.hid hR;have HT:=Lib.hid (zq2f hR.th hR.nol zyo (by exact hl) zx43 false (C c 1));clear H h hn hr hl hat hc hR hBw hsz hp hca;unfold OpX.val
 go_enter Try.func69,Try.ntmps69
 go_wp2_with (fail)
 refine Calls.mono HT.out ?_;rintro e w' ⟨rfl,hk⟩;have HK:=Lib.hid hk;clear hk hw1 hZ p2 p3 p4 f2 f3 f4 k0 k1 k2 fk0 fk1 fk2 z0 z2;go_wp2
 go_end0
 exact⟨rfl,HE.out.told HK.out⟩
end
theorem w0E:IntKind.i64.wrap 0=0:=by kernel_rfl
section
variable {B tb g NC Cc mb c:Nat} {opv:Value} {ops:List OpX} {C:Nums} {t:RTh} {lvs:List Value} {av:Value} {w:World} {op:OpX}
theorem omk_30a(H:OHy B tb g NC Cc c opv ops C t lvs av w op)(hp:t.pc=30)(hs:C c 0=2):OGo 70 zq1 B tb g NC Cc mb c opv ops C t av w op:=by
 unfold OGo;obtain⟨h,hn,hr,hl,hat,hc,hca⟩:=id H;have hres:zq1 op C t=(C,{t with pc:=31}):=by unfold zq1;simp[hp,hca,hs]
 rw[hres];clear hres;obtain⟨w1,Z,hw1,hZ,hR,hsz,hBw,p2,f2,p3,f3,p4,f4,k0,k1,k2,fk0,fk1,fk2,z0,z2,ne1,ne2,ne3,ne4⟩:=o_pre H hp;replace p2:w1.cell? ⟨tb,2,none⟩=some (.int .i64 30):=p2;have s0:=hR.setT (t':={t with pc:=32}) 2 (.int .i64 (32)) rfl zx2q;have s1:=s0.setT (t':={t with pc:=31}) 2 (.int .i64 (31)) rfl zx2q;have HE:=Lib.hid s1;clear H h hn hr hl hat hc hR hBw hsz hp s0 s1 hca;unfold OpX.val
 go_enter Try.func70,Try.ntmps70
 go_wp2
 go_end0
 exact⟨rfl,_,_,HE.out⟩
theorem omk_30b(H:OHy B tb g NC Cc c opv ops C t lvs av w op)(hp:t.pc=30)(hs:¬C c 0=2):OGo 70 zq1 B tb g NC Cc mb c opv ops C t av w op:=by
 unfold OGo;obtain⟨h,hn,hr,hl,hat,hc,hca⟩:=id H;have hres:zq1 op C t=(C,{t with pc:=32}):=by unfold zq1;simp[hp,hca,hs]
 rw[hres];clear hres;obtain⟨w1,Z,hw1,hZ,hR,hsz,hBw,p2,f2,p3,f3,p4,f4,k0,k1,k2,fk0,fk1,fk2,z0,z2,ne1,ne2,ne3,ne4⟩:=o_pre H hp;replace p2:w1.cell? ⟨tb,2,none⟩=some (.int .i64 30):=p2;have s0:=hR.setT (t':={t with pc:=32}) 2 (.int .i64 (32)) rfl zx2q;have HE:=Lib.hid s0;clear H h hn hr hl hat hc hR hBw hsz hp s0 hca;unfold OpX.val
 go_enter Try.func70,Try.ntmps70
 go_wp2
 go_end0
 exact⟨rfl,_,_,HE.out⟩
theorem omk_31(H:OHy B tb g NC Cc c opv ops C t lvs av w op)(hp:t.pc=31):OGo 70 zq1 B tb g NC Cc mb c opv ops C t av w op:=by
 unfold OGo;obtain⟨h,hn,hr,hl,hat,hc,hca⟩:=id H;have hres:zq1 op C t=(C,RTh.fin t ⟨true,C c 1,[]⟩):=by unfold zq1;simp[hp,hca]
 rw[hres];clear hres;obtain⟨w1,Z,hw1,hZ,hR,hsz,hBw,p2,f2,p3,f3,p4,f4,k0,k1,k2,fk0,fk1,fk2,z0,z2,ne1,ne2,ne3,ne4⟩:=o_pre H hp;replace p2:w1.cell? ⟨tb,2,none⟩=some (.int .i64 31):=p2;have HE:=Lib.hid hR;have HT:=Lib.hid (zq2f hR.th hR.nol zyo (by exact hl) zx43 true (C c 1));clear H h hn hr hl hat hc hR hBw hsz hp hca;unfold OpX.val
 go_enter Try.func70,Try.ntmps70
 go_wp2_with (fail)
 refine Calls.mono HT.out ?_;rintro e w' ⟨rfl,hk⟩;have HK:=Lib.hid hk;clear hk hw1 hZ p2 p3 p4 f2 f3 f4 k0 k1 k2 fk0 fk1 fk2 z0 z2;go_wp2
 go_end0
 exact⟨rfl,HE.out.told HK.out⟩
theorem omk_32a(H:OHy B tb g NC Cc c opv ops C t lvs av w op)(hp:t.pc=32)(hs:C c 0=0):OGo 70 zq1 B tb g NC Cc mb c opv ops C t av w op:=by
 unfold OGo;obtain⟨h,hn,hr,hl,hat,hc,hca⟩:=id H;have hres:zq1 op C t=((upd2 C c 0 (1)),{t with pc:=33}):=by unfold zq1;simp[hp,hca,hs]
 rw[hres];clear hres;obtain⟨w1,Z,hw1,hZ,hR,hsz,hBw,p2,f2,p3,f3,p4,f4,k0,k1,k2,fk0,fk1,fk2,z0,z2,ne1,ne2,ne3,ne4⟩:=o_pre H hp;replace p2:w1.cell? ⟨tb,2,none⟩=some (.int .i64 32):=p2;have s0:=hR.setC hc (j:=0) zyd (1);have s1:=s0.setT (t':={t with pc:=33}) 2 (.int .i64 (33)) rfl zx2q;have HE:=Lib.hid s1;clear H h hn hr hl hat hc hR hBw hsz hp s0 s1 hca;unfold OpX.val
 go_enter Try.func70,Try.ntmps70
 go_wp2
 try simp only[Exit.inBlock,Exit.then]
 refine bodyPost_ret (results_none rfl _ _ _) rfl ?_;exact⟨rfl,_,_,HE.out⟩
theorem omk_33a(H:OHy B tb g NC Cc c opv ops C t lvs av w op)(hp:t.pc=33)(hk:op.k=4){q:Int}(hq:IntKind.i64.wrap (C c 2+1)=q):OGo 70 zq1 B tb g NC Cc mb c opv ops C t av w op:=by
 unfold OGo;obtain⟨h,hn,hr,hl,hat,hc,hca⟩:=id H;have hres:zq1 op C t=((upd2 C c 2 (q)),{t with pc:=37}):=by unfold zq1;simp[hp,hca,hk,hq]
 rw[hres];clear hres;obtain⟨w1,Z,hw1,hZ,hR,hsz,hBw,p2,f2,p3,f3,p4,f4,k0,k1,k2,fk0,fk1,fk2,z0,z2,ne1,ne2,ne3,ne4⟩:=o_pre H hp;replace p2:w1.cell? ⟨tb,2,none⟩=some (.int .i64 33):=p2;have s0:=hR.setC hc (j:=2) zyd (q);have s1:=s0.setT (t':={t with pc:=34}) 2 (.int .i64 (34)) rfl zx2q;have s2:=s1.setT (t':={t with pc:=37}) 2 (.int .i64 (37)) rfl zx2q;have HE:=Lib.hid s2;clear H h hn hr hl hat hc hR hBw hsz hp s0 s1 s2 hca;unfold OpX.val;rw[hk]at hw1 z0;rw[hk];rw[wrapE]at hq
 go_enter Try.func70,Try.ntmps70
 go_wp2
 go_end0
 exact⟨rfl,_,_,HE.out⟩
theorem omk_33b(H:OHy B tb g NC Cc c opv ops C t lvs av w op)(hp:t.pc=33)(hk:¬op.k=4){q:Int}(hq:IntKind.i64.wrap (C c 2+1)=q):OGo 70 zq1 B tb g NC Cc mb c opv ops C t av w op:=by
 unfold OGo;obtain⟨h,hn,hr,hl,hat,hc,hca⟩:=id H;have hres:zq1 op C t=((upd2 C c 2 (q)),{t with pc:=34}):=by unfold zq1;simp[hp,hca,hk,hq]
 rw[hres];clear hres;obtain⟨w1,Z,hw1,hZ,hR,hsz,hBw,p2,f2,p3,f3,p4,f4,k0,k1,k2,fk0,fk1,fk2,z0,z2,ne1,ne2,ne3,ne4⟩:=o_pre H hp;replace p2:w1.cell? ⟨tb,2,none⟩=some (.int .i64 33):=p2;have s0:=hR.setC hc (j:=2) zyd (q);have s1:=s0.setT (t':={t with pc:=34}) 2 (.int .i64 (34)) rfl zx2q;have HE:=Lib.hid s1;clear H h hn hr hl hat hc hR hBw hsz hp s0 s1 hca;unfold OpX.val;rw[wrapE]at hq
 go_enter Try.func70,Try.ntmps70
 go_wp2
 go_end0
 exact⟨rfl,_,_,HE.out⟩
theorem omk_34(H:OHy B tb g NC Cc c opv ops C t lvs av w op)(hp:t.pc=34){q:Int}(hq:IntKind.i64.wrap (op.b+C c 2)=q):OGo 70 zq1 B tb g NC Cc mb c opv ops C t av w op:=by
 unfold OGo;obtain⟨h,hn,hr,hl,hat,hc,hca⟩:=id H;have hres:zq1 op C t=(C,{t with pc:=35,n:=upd' t.n 0 q}):=by unfold zq1;simp[hp,hca,hq]
 rw[hres];clear hres;have hS0:∀n,ORun B tb g NC Cc opv ops av w C {t with n:=upd' t.n 0 q} lvs av (((w.alloc (.cells #[.int .i64 op.k,.int .i64 op.a,.int .i64 op.b,.int .i64 op.c] 34)).drewN n).setCell ⟨tb,3,none⟩ (.int .i64 q)):=λn=>((ORun.start h hn hr).more (w':=(w.alloc (.cells #[.int .i64 op.k,.int .i64 op.a,.int .i64 op.b,.int .i64 op.c] 34)).drewN n) (by show _<=(w.alloc _).heap.size;rw[zq4];omega) (λb hb=>(zq6 _ _ _).trans (if_neg zyo))).setT 3 (.int .i64 q) rfl zx2q;have HS:=Lib.hid hS0;clear hS0;obtain⟨w1,Z,hw1,hZ,hR,hsz,hBw,p2,f2,p3,f3,p4,f4,k0,k1,k2,fk0,fk1,fk2,z0,z2,ne1,ne2,ne3,ne4⟩:=o_pre H hp;replace p2:w1.cell? ⟨tb,2,none⟩=some (.int .i64 34):=p2;have s0:=hR.setT (t':={t with n:=upd' t.n 0 q}) 3 (.int .i64 (q)) rfl zx2q;have s1:=s0.setT (t':={t with pc:=35,n:=upd' t.n 0 q}) 2 (.int .i64 (35)) rfl zx2q;have HE:=Lib.hid s1;clear H h hn hr hl hat hc hR hBw hsz hp s0 s1 hca;unfold OpX.val;rw[hw1]at HS
 go_enter Try.func70,Try.ntmps70
 rw[wrapE]at hq
 go_wp2_with (fail)
 clear hw1 hZ;refine zq47 (k:=11) (C:=λw'=>∃n,w'=w1.drewN n) zyk zyk zyk zyk zyk ⟨1,rfl⟩ ?_;simp only[List.take_succ_cons,List.take_zero]
 repeat (quiet_step (fail))
 refine wpQuiet_nil ?_;rintro w' ⟨nr,rfl⟩;refine zq2l (i:=11) zyk ?_;simp only[wpOp,al_gl,al_g0,al_g1];rw[if_pos zx2p];refine .inl ?_;have fz:(w1.drewN nr).frozen? ⟨tb,3,none⟩=false:=f3;have pz:(w1.drewN nr).cell? ⟨tb,3,none⟩=some (.int .i64 (t.n 0)):=p3;clear p2 p3 p4 f2 f3 f4 k0 k1 k2 fk0 fk1 fk2 z0 z2;go_simp;refine zq2k zyk ?_;clear fz pz
 try simp only[wrapE]
 try rw[hq]
 have h3:=HS.out nr;generalize ((w1.drewN nr).setCell ⟨tb,3,none⟩ (.int .i64 q))=w3 at h3 |-;have f3b:=zq3 (off:=2) h3.th.blk;have p3b:w3.cell? ⟨tb,2,none⟩=some (.int .i64 t.pc):=(zq0 h3.th.blk).trans rfl;have h4:=h3.setT (t':={t with pc:=35,n:=upd' t.n 0 q}) 2 (.int .i64 35) rfl zx2q;have H4:=Lib.hid h4;clear h3 h4 HS;go_wp2
 go_end0
 exact⟨rfl,_,_,H4.out⟩
theorem omk_32b(H:OHy B tb g NC Cc c opv ops C t lvs av w op)(hp:t.pc=32)(hs:¬C c 0=0){q:Int}(hq:IntKind.i64.wrap (t.n 1 - 1)=q)(h1:¬t.n 1=1)(hq0:¬q=0):OGo 70 zq1 B tb g NC Cc mb c opv ops C t av w op:=by
 unfold OGo;obtain⟨h,hn,hr,hl,hat,hc,hca⟩:=id H;have hres:zq1 op C t=(C,{t with pc:=30,n:=upd' t.n 1 q}):=by unfold zq1;simp[hp,hca,hs,hq,h1]
 rw[hres];clear hres;have hS0:∀n,ORun B tb g NC Cc opv ops av w C {t with pc:=30,n:=upd' t.n 1 q} lvs av ((((w.alloc (.cells #[.int .i64 op.k,.int .i64 op.a,.int .i64 op.b,.int .i64 op.c] 34)).setCell ⟨tb,2,none⟩ (.int .i64 30)).drewN n).setCell ⟨tb,4,none⟩ (.int .i64 q)):=λn=>((((ORun.start h hn hr).more (w':=w.alloc (.cells #[.int .i64 op.k,.int .i64 op.a,.int .i64 op.b,.int .i64 op.c] 34)) zx3h (λb hb=>(zq6 _ _ _).trans (if_neg zyo))).setT (t':={t with pc:=30}) 2 (.int .i64 30) rfl zx2q).more (w':=((w.alloc (.cells #[.int .i64 op.k,.int .i64 op.a,.int .i64 op.b,.int .i64 op.c] 34)).setCell ⟨tb,2,none⟩ (.int .i64 30)).drewN n) (Nat.le_refl _) (λb hb=>rfl)).setT 4 (.int .i64 q) rfl zx2q;have HS:=Lib.hid hS0;clear hS0;have hH30:=((ORun.start h hn hr).more (w':=w.alloc (.cells #[.int .i64 op.k,.int .i64 op.a,.int .i64 op.b,.int .i64 op.c] 34)) zx3h (λb hb=>(zq6 _ _ _).trans (if_neg zyo))).setT (t':={t with pc:=30}) 2 (.int .i64 30) rfl zx2q;have H30:=Lib.hid hH30;clear hH30;obtain⟨w1,Z,hw1,hZ,hR,hsz,hBw,p2,f2,p3,f3,p4,f4,k0,k1,k2,fk0,fk1,fk2,z0,z2,ne1,ne2,ne3,ne4⟩:=o_pre H hp;replace p2:w1.cell? ⟨tb,2,none⟩=some (.int .i64 32):=p2;have s0:=hR.setT (t':={t with pc:=30}) 2 (.int .i64 (30)) rfl zx2q;have s1:=s0.setT (t':={t with pc:=30,n:=upd' t.n 1 q}) 4 (.int .i64 (q)) rfl zx2q;have HE:=Lib.hid s1;clear H h hn hr hl hat hc hR hBw hsz hp s0 s1 hca;unfold OpX.val;rw[hw1]at HS H30
 go_enter Try.func70,Try.ntmps70
 rw[wrapE]at hq;have P4:(w1.setCell ⟨tb,2,none⟩ (.int .i64 30)).cell? ⟨tb,4,none⟩=some (.int .i64 (t.n 1)):=(zq0 H30.out.th.blk).trans rfl;have F4:(w1.setCell ⟨tb,2,none⟩ (.int .i64 30)).frozen? ⟨tb,4,none⟩=false:=zq3 H30.out.th.blk;have FF:=Lib.hid (And.intro P4 F4);clear P4 F4
 go_wp2_with (fail)
 obtain⟨P4,F4⟩:=FF.out;clear FF;clear hw1 hZ p2 p3 f2 f3 k0 k1 k2 fk0 fk1 fk2 z0 z2 H30 p4 f4;generalize (w1.setCell ⟨tb,2,none⟩ (.int .i64 30))=wq at P4 F4 HS HE |-;have p4:=P4;have f4:=F4;refine zq47 (k:=10) (C:=λw'=>∃n,w'=wq.drewN n) zyk zyk zyk zyk zyk ⟨1,rfl⟩ ?_;simp only[List.take_succ_cons,List.take_zero]
 repeat (quiet_step (fail))
 refine wpQuiet_nil ?_;rintro w' ⟨nr,rfl⟩;refine zq2l (i:=10) zyk ?_;simp only[wpOp,al_gl,al_g0,al_g1];rw[if_pos zx2p];refine .inl ?_;have fz:(wq.drewN nr).frozen? ⟨tb,4,none⟩=false:=f4;have pz:(wq.drewN nr).cell? ⟨tb,4,none⟩=some (.int .i64 (t.n 1)):=p4;clear p4 f4 P4 F4;go_simp;refine zq2k zyk ?_;clear fz pz
 try simp only[wrapE]
 try rw[hq]
 have h3:=HS.out nr;generalize ((wq.drewN nr).setCell ⟨tb,4,none⟩ (.int .i64 q))=w3 at h3 |-;have p3b:w3.cell? ⟨tb,4,none⟩=some (.int .i64 q):=(zq0 h3.th.blk).trans zx2q;have H3:=Lib.hid h3;clear h3 HS;go_wp2
 go_end0
 exact⟨rfl,_,_,H3.out⟩
theorem omk_32c(H:OHy B tb g NC Cc c opv ops C t lvs av w op)(hp:t.pc=32)(hs:¬C c 0=0)(hq:IntKind.i64.wrap (t.n 1 - 1)=0)(h1:t.n 1=1):OGo 70 zq1 B tb g NC Cc mb c opv ops C t av w op:=by
 unfold OGo;obtain⟨h,hn,hr,hl,hat,hc,hca⟩:=id H;have hres:zq1 op C t=(C,RTh.fin {t with pc:=30,n:=upd' t.n 1 0} ⟨false,-4,[]⟩):=by unfold zq1;simp[hp,hca,hs,h1,w0E]
 rw[hres];clear hres;have hS0:∀n,ORun B tb g NC Cc opv ops av w C {t with pc:=30,n:=upd' t.n 1 0} lvs av ((((w.alloc (.cells #[.int .i64 op.k,.int .i64 op.a,.int .i64 op.b,.int .i64 op.c] 34)).setCell ⟨tb,2,none⟩ (.int .i64 30)).drewN n).setCell ⟨tb,4,none⟩ (.int .i64 0)):=λn=>((((ORun.start h hn hr).more (w':=w.alloc (.cells #[.int .i64 op.k,.int .i64 op.a,.int .i64 op.b,.int .i64 op.c] 34)) zx3h (λb hb=>(zq6 _ _ _).trans (if_neg zyo))).setT (t':={t with pc:=30}) 2 (.int .i64 30) rfl zx2q).more (w':=((w.alloc (.cells #[.int .i64 op.k,.int .i64 op.a,.int .i64 op.b,.int .i64 op.c] 34)).setCell ⟨tb,2,none⟩ (.int .i64 30)).drewN n) (Nat.le_refl _) (λb hb=>rfl)).setT 4 (.int .i64 0) rfl zx2q;have HS:=Lib.hid hS0;clear hS0;have hH30:=((ORun.start h hn hr).more (w':=w.alloc (.cells #[.int .i64 op.k,.int .i64 op.a,.int .i64 op.b,.int .i64 op.c] 34)) zx3h (λb hb=>(zq6 _ _ _).trans (if_neg zyo))).setT (t':={t with pc:=30}) 2 (.int .i64 30) rfl zx2q;have H30:=Lib.hid hH30;clear hH30;have HL:=Lib.hid (And.intro hl hat);obtain⟨w1,Z,hw1,hZ,hR,hsz,hBw,p2,f2,p3,f3,p4,f4,k0,k1,k2,fk0,fk1,fk2,z0,z2,ne1,ne2,ne3,ne4⟩:=o_pre H hp;replace p2:w1.cell? ⟨tb,2,none⟩=some (.int .i64 32):=p2;have s0:=hR.setT (t':={t with pc:=30}) 2 (.int .i64 (30)) rfl zx2q;have s1:=s0.setT (t':={t with pc:=30,n:=upd' t.n 1 0}) 4 (.int .i64 (0)) rfl zx2q;have HE:=Lib.hid s1;have HT:=Lib.hid (zq2f s1.th s1.nol zx3x (by exact hl) zx43 false (-4));clear H h hn hr hl hat hc hR hBw hsz hp s0 s1 hca;unfold OpX.val;clear HT h1;rw[hw1]at HS H30
 go_enter Try.func70,Try.ntmps70
 rw[wrapE]at hq;have P4:(w1.setCell ⟨tb,2,none⟩ (.int .i64 30)).cell? ⟨tb,4,none⟩=some (.int .i64 (t.n 1)):=(zq0 H30.out.th.blk).trans rfl;have F4:(w1.setCell ⟨tb,2,none⟩ (.int .i64 30)).frozen? ⟨tb,4,none⟩=false:=zq3 H30.out.th.blk;have FF:=Lib.hid (And.intro P4 F4);clear P4 F4
 go_wp2_with (fail)
 obtain⟨P4,F4⟩:=FF.out;clear FF;clear hw1 hZ p2 p3 f2 f3 k0 k1 k2 fk0 fk1 fk2 z0 z2 H30 p4 f4;generalize (w1.setCell ⟨tb,2,none⟩ (.int .i64 30))=wq at P4 F4 HS HE |-;have p4:=P4;have f4:=F4;refine zq47 (k:=10) (C:=λw'=>∃n,w'=wq.drewN n) zyk zyk zyk zyk zyk ⟨1,rfl⟩ ?_;simp only[List.take_succ_cons,List.take_zero]
 repeat (quiet_step (fail))
 refine wpQuiet_nil ?_;rintro w' ⟨nr,rfl⟩;refine zq2l (i:=10) zyk ?_;simp only[wpOp,al_gl,al_g0,al_g1];rw[if_pos zx2p];refine .inl ?_;have fz:(wq.drewN nr).frozen? ⟨tb,4,none⟩=false:=f4;have pz:(wq.drewN nr).cell? ⟨tb,4,none⟩=some (.int .i64 (t.n 1)):=p4;clear p4 f4 P4 F4;go_simp;refine zq2k zyk ?_;clear fz pz
 try simp only[wrapE]
 try rw[hq]
 have h3:=HS.out nr;generalize ((wq.drewN nr).setCell ⟨tb,4,none⟩ (.int .i64 0))=w3 at h3 |-;have p3b:w3.cell? ⟨tb,4,none⟩=some (.int .i64 0):=(zq0 h3.th.blk).trans zx2q;have hT:=Lib.hid (zq2f h3.th h3.nol (Nat.le_trans h3.th.lo (Nat.le_of_lt (zq7 h3.th.blk))) (by exact HL.out.1) (by exact HL.out.2) false (-4));have H3:=Lib.hid h3;clear h3 HS
 go_wp2_with (fail)
 refine Calls.mono hT.out ?_;rintro e w' ⟨rfl,hk⟩;have HK:=Lib.hid hk;clear hk;go_wp2
 go_end0
 exact⟨rfl,H3.out.told HK.out⟩
theorem omk_35(H:OHy B tb g NC Cc c opv ops C t lvs av w op)(hp:t.pc=35):OGo 70 zq1 B tb g NC Cc mb c opv ops C t av w op:=by
 unfold OGo;obtain⟨h,hn,hr,hl,hat,hc,hca⟩:=id H;have hres:zq1 op C t=((upd2 C c 1 (t.n 0)),{t with pc:=36}):=by unfold zq1;simp[hp,hca]
 rw[hres];clear hres;obtain⟨w1,Z,hw1,hZ,hR,hsz,hBw,p2,f2,p3,f3,p4,f4,k0,k1,k2,fk0,fk1,fk2,z0,z2,ne1,ne2,ne3,ne4⟩:=o_pre H hp;replace p2:w1.cell? ⟨tb,2,none⟩=some (.int .i64 35):=p2;have s0:=hR.setC hc (j:=1) zyd (t.n 0);have s1:=s0.setT (t':={t with pc:=36}) 2 (.int .i64 (36)) rfl zx2q;have HE:=Lib.hid s1;clear H h hn hr hl hat hc hR hBw hsz hp s0 s1 hca;unfold OpX.val
 go_enter Try.func70,Try.ntmps70
 go_wp2
 go_end0
 exact⟨rfl,_,_,HE.out⟩
theorem omk_36(H:OHy B tb g NC Cc c opv ops C t lvs av w op)(hp:t.pc=36):OGo 70 zq1 B tb g NC Cc mb c opv ops C t av w op:=by
 unfold OGo;obtain⟨h,hn,hr,hl,hat,hc,hca⟩:=id H;have hres:zq1 op C t=((upd2 C c 0 (2)),RTh.fin t ⟨true,t.n 0,[]⟩):=by unfold zq1;simp[hp,hca]
 rw[hres];clear hres;obtain⟨w1,Z,hw1,hZ,hR,hsz,hBw,p2,f2,p3,f3,p4,f4,k0,k1,k2,fk0,fk1,fk2,z0,z2,ne1,ne2,ne3,ne4⟩:=o_pre H hp;replace p2:w1.cell? ⟨tb,2,none⟩=some (.int .i64 36):=p2;have s0:=hR.setC hc (j:=0) zyd (2);have HE:=Lib.hid s0;have HT:=Lib.hid (zq2f s0.th s0.nol zx3x (by exact hl) zx43 true (t.n 0));clear H h hn hr hl hat hc hR hBw hsz hp s0 hca;unfold OpX.val
 go_enter Try.func70,Try.ntmps70
 go_wp2_with (fail)
 refine Calls.mono HT.out ?_;rintro e w' ⟨rfl,hk⟩;have HK:=Lib.hid hk;clear hk hw1 hZ p2 p3 p4 f2 f3 f4 k0 k1 k2 fk0 fk1 fk2 z0 z2;go_wp2
 go_end0
 exact⟨rfl,HE.out.told HK.out⟩
theorem omk_37(H:OHy B tb g NC Cc c opv ops C t lvs av w op)(hp:t.pc=37):OGo 70 zq1 B tb g NC Cc mb c opv ops C t av w op:=by
 unfold OGo;obtain⟨h,hn,hr,hl,hat,hc,hca⟩:=id H;have hres:zq1 op C t=((upd2 C c 0 (0)),RTh.fin t ⟨false,-6,[]⟩):=by unfold zq1;simp[hp,hca]
 rw[hres];clear hres;obtain⟨w1,Z,hw1,hZ,hR,hsz,hBw,p2,f2,p3,f3,p4,f4,k0,k1,k2,fk0,fk1,fk2,z0,z2,ne1,ne2,ne3,ne4⟩:=o_pre H hp;replace p2:w1.cell? ⟨tb,2,none⟩=some (.int .i64 37):=p2;have s0:=hR.setC hc (j:=0) zyd (0);have HE:=Lib.hid s0;have HT:=Lib.hid (zq2f s0.th s0.nol zx3x (by exact hl) zx43 false (-6));clear H h hn hr hl hat hc hR hBw hsz hp s0 hca;unfold OpX.val
 go_enter Try.func70,Try.ntmps70
 go_wp2_with (fail)
 refine Calls.mono HT.out ?_;rintro e w' ⟨rfl,hk⟩;have HK:=Lib.hid hk;clear hk hw1 hZ p2 p3 p4 f2 f3 f4 k0 k1 k2 fk0 fk1 fk2 z0 z2;go_wp2
 go_end0
 exact⟨rfl,HE.out.told HK.out⟩
end
end Go.Proofs
