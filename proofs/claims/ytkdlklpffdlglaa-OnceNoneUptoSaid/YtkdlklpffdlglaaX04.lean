/- YtkdlklpffdlglaaNone13: part 4 of the proof (the texts behind it, in order). -/
import Derived.Test.YtkdlklpffdlglaaX03
set_option maxHeartbeats 4000000
set_option maxRecDepth 100000
set_option linter.all false
namespace Go.Car
open Go Go.Conc Go.RowKit
structure OpX where
 k:Int
 a:Int
 b:Int
 c:Int
structure Ans where
 ok:Bool
 n:Int
 l:List Int
def Ans.none:Ans:=⟨false,0,[]⟩
def OpX.cells (o:OpX):List Value:=[.int .i64 o.k,.int .i64 o.a,.int .i64 o.b,.int .i64 o.c]
def OpX.val (o:OpX):Value:=.agg #[.int .i64 o.k,.int .i64 o.a,.int .i64 o.b,.int .i64 o.c]
def AnsC(tI:TypeId)(X:Nat->Option Obj)(a:Ans)(cs:List Value):Prop:=∃sl,cs=[.bool a.ok,.int .i64 a.n,sl]/\RowB X tI 1 sl a.l.length (a.l.map (Value.int .i64))
def AnsV(tI:TypeId)(a:Ans)(v:Value)(X:Nat->Option Obj):Prop:=∃sl,v=.agg #[.bool a.ok,.int .i64 a.n,sl]/\RowB X tI 1 sl a.l.length (a.l.map (Value.int .i64))
theorem AnsV.plain (tI:TypeId)(ok:Bool)(n:Int):AnsV tI ⟨ok,n,[]⟩ (.agg #[.bool ok,.int .i64 n,.slice Option.none 0 0]) (λ_=>Option.none):=⟨_,rfl,RowB.nil tI 1⟩
inductive AnsL(tI:TypeId):(Nat->Option Obj)->List Ans->List Value->Prop
 |nil:AnsL tI (λ_=>Option.none) [] []
 |snoc {X Y:Nat->Option Obj} {l:List Ans} {cs cs':List Value} {a:Ans} (h:AnsL tI X l cs) (ha:AnsC tI Y a cs') (hd:∀b,Y b≠Option.none->X b=Option.none):AnsL tI (orB Y X) (l++[a]) (cs++cs')
theorem AnsL.len {tI:TypeId}{X:Nat->Option Obj}{l:List Ans}{cs:List Value}(h:AnsL tI X l cs):cs.length=l.length*3:=by
 induction h with
 |nil=>rfl
 |snoc h ha hd ih=>
  obtain⟨sl,rfl,_⟩:=ha;simp[ih];omega
def AnsR(tA tI:TypeId)(X:Nat->Option Obj)(hv:Value)(l:List Ans):Prop:=
 ∃Xr XL cs,RowB Xr tA 3 hv l.length cs/\AnsL tI XL l cs/\X=orB Xr XL/\∀b,Xr b≠Option.none->XL b=Option.none
theorem AnsR.nil (tA tI:TypeId):AnsR tA tI (λ_=>Option.none) (.slice Option.none 0 0) []:=⟨_,_,[],RowB.nil tA 3,.nil,rfl,λ_ h=>rfl⟩
structure AnsM where
 hv:Nat->Value
 X:Nat->Nat->Option Obj
 st:Nat->List Ans
structure AnsT where
 tA:TypeId
 tAs:TypeId
 tI:TypeId
structure zq2z(T:AnsT)(ab N:Nat)(m:AnsM)(w:World):Prop where
 hd:w.heap[ab]?=some (.cells ((List.range N).map m.hv).toArray T.tAs)
 row:∀i,i<N->AnsR T.tA T.tI (m.X i) (m.hv i) (m.st i)
 blk:∀i b o,i<N->m.X i b=some o->w.heap[b]?=some o
 nab:∀i,i<N->m.X i ab=Option.none
 sep:∀i j b,i<N->j<N->i≠j->m.X i b≠Option.none->m.X j b=Option.none
def zqs(T:AnsT)(ab N:Nat):Core AnsM (Nat->List Ans) where
 foot m b:=b=ab\/∃i,i<N/\m.X i b≠Option.none
 Rep m w:=zq2z T ab N m w
 st m:=m.st
 frame m w w' h hs:=⟨(hs ab (.inl rfl)).trans h.hd,h.row,λi b o hi hb=>(hs b (.inr ⟨i,hi,by rw[hb];simp⟩)).trans (h.blk i b o hi hb),h.nab,h.sep⟩
 lt m w b h hb:=by
  rcases hb with rfl |⟨i,hi,hb⟩
  . exact zqt h.hd
  . cases ho:m.X i b with
    |none=>exact absurd ho hb
    |some o=>exact zqt (h.blk i b o hi ho)
 pin _:=0
def upd'{α:Type}(f:Nat->α)(i:Nat)(x:α):Nat->α:=λj=>if j=i then x else f j
@[simp] theorem upd'_same {α : Type} (f : Nat → α) (i : Nat) (x : α) : upd' f i x i = x := by simp [upd']
theorem zq17{α:Type}(f:Nat->α){i j:Nat}(x:α)(h:j≠i):upd' f i x j=f j:=by simp[upd',h]
def pushP{S1:Type}(i:Nat)(a:Ans):Proc (S1×(Nat->List Ans)) Unit:=Proc.act λs=>((s.1,upd' s.2 i (s.2 i++[a])),())
def opsP{S1:Type}(i:Nat)(dop:OpX->Proc (S1×(Nat->List Ans)) Ans):List OpX->Proc (S1×(Nat->List Ans)) Unit
 |[]=>Proc.ret ()
 |op::l=>(dop op).bind λa=>(pushP i a).bind λ_=>opsP i dop l
theorem AnsR.push {tA tI:TypeId}{Xr XL Y X':Nat->Option Obj}{l:List Ans}{cs cs':List Value}{a:Ans}{v:Value}(hL:AnsL tI XL l cs)(ha:AnsC tI Y a cs')(hd:∀b,Y b≠Option.none->XL b=Option.none)
 (hr:RowB X' tA 3 v (l.length+1) (cs++cs')) (hx:∀b,X' b≠Option.none->orB Y XL b=Option.none):AnsR tA tI (orB X' (orB Y XL)) v (l++[a]):=
 ⟨X',orB Y XL,cs++cs',by simpa using hr,.snoc hL ha hd,rfl,hx⟩
section
variable {P:Program} {A:FuncId->Bool} {Ml S β α:Type} {C:Core Ml S} {ro:Nat->Option Obj} {i:Nat}
def PostR(Y:YSys P A C ro i β)(K:α->Proc S β)(rel:α->Value->(Nat->Option Obj)->Prop)(B:Nat->Option Obj)(s:Y.γ):Ending->World->Prop
 |.returned v,w=>∃a X,rel a v X/\(∀b,X b≠Option.none->B b=Option.none)/\Y.AtB (orB X B) s w (K a)
 |.panicked ch,w=>Y.Dead s ch w
 |.outgrown,_=>False
def SpecR(Y:YSys P A C ro i β)(f:FuncId)(args:Array Value)(p:Proc S α)(rel:α->Value->(Nat->Option Obj)->Prop):Prop:=
 ∀(K:α->Proc S β)(s:Y.γ)(B:Nat->Option Obj)(w:World),(∀a,Y.sil (K a))->Y.AtB B s w (p.bind K)->zq1b P Y.J f args (PostR Y K rel B) s w
theorem SpecR.of {Y:YSys P A C ro i β}{f:FuncId}{fn:Func}{c:Code}{args:Array Value}{pp:Proc S α}{rel:α->Value->(Nat->Option Obj)->Prop}(hf:P.funcs[f]?=some fn)(hb:fn.body=some c)
 (h:∀(K:α->Proc S β)(s:Y.γ)(B:Nat->Option Obj)(w:World),(∀a,Y.sil (K a))->Y.AtB B s w (pp.bind K)->wpJ Y.J c (bodyC (Y.Bd fn (PostR Y K rel B)) (PostR Y K rel B)) s (zqg fn args) w):SpecR Y f args pp rel:=
 λK s B w hK hA=>BodyY.calls ⟨fn,c,hf,hb,h K s B w hK hA⟩
end
theorem upd'_row{α:Type}(hv:Nat->α)(N i:Nat)(x:α):((List.range N).map hv).toArray.setIfInBounds i x=((List.range N).map (upd' hv i x)).toArray:=by
 apply Array.ext_getElem?;intro j;simp only[al_gs,al_gl,List.getElem?_map,List.size_toArray,List.length_map,List.length_range]
 by_cases e:i=j
 . subst e
   by_cases h:i<N
   . simp[h]
   . simp[h]
 . rw[if_neg e]
   by_cases h:j<N
   . simp[h,zq17 hv x (λe'=>e e'.symm)]
   . simp[h]
section
variable {P:Program} {M1 S1:Type} {C:Core M1 S1} {T:AnsT} {ab N i:Nat} {ro:Nat->Option Obj} {m:BM (M1×AnsM)} {wc:World}
theorem ans_push(hB:BRep (zqi C (zqs T ab N)) ro m wc)(hi:i<N)(t ty:TypeId)(ti:TypeInfo)(z:Value)(ht:P.underlying t=some (.slice T.tA))(hti:P.info? T.tA=some ti)(hz:ti.zero=some z)(hsz:ti.size=3)(hby:ti.bytes=40)(hzs:z.cells.size=3)
 {B Y:Nat->Option Obj} {a:Ans} {sl:Value} (hY:RowB Y T.tI 1 sl a.l.length (a.l.map (Value.int .i64))) (hYB:∀b o,Y b=some o->m.box i b=some o) (hBB:∀b o,B b=some o->m.box i b=some o) (hYn:∀b,Y b≠none->B b=none)
 (hlen:(m.l.2.st i).length<=65536) (τ:Nat->Question->Nat) (d:Nat):
 ∃g cap w2 m',(Builtin.append_ #[t,t] ty #[m.l.2.hv i,.slice (some ⟨wc.heap.size,0,none⟩) 1 1]).run P ((Car.re wc τ d).alloc (.cells #[.bool a.ok,.int .i64 a.n,sl] T.tA))=.ok (.slice (some ⟨g,0,none⟩) ((m.l.2.st i).length+1) cap) w2/\
  (∀b,b<wc.heap.size->m.l.2.X i b=none->w2.heap[b]?=wc.heap[b]?)/\m'.st=upd' m.l.2.st i (m.l.2.st i++[a])/\
  ∀τ' d',Moved (zqi C (zqs T ab N)) m.l (m.box i) wc (m.l.1,m') B (Car.re (w2.setCell ⟨ab,i,none⟩ (.slice (some ⟨g,0,none⟩) ((m.l.2.st i).length+1) cap)) τ' d'):=by
 have hone:sl.oneCell'=true:=by rcases hY.2 with⟨rfl,_⟩|⟨_,_,_,rfl,_⟩<;>rfl
 have hD:zq2z T ab N m.l.2 wc:=hB.core.2.1;have hdis:∀b,C.foot m.l.1 b->¬(zqs T ab N).foot m.l.2 b:=hB.core.2.2;obtain⟨Xr,XL,cs,hr,hL,hX,hd⟩:=hD.row i hi;have hXr:∀b,Xr b≠none->m.l.2.X i b≠none:=λb hb=>by
  rw[hX];cases ho:Xr b with
  |none=>exact absurd ho hb
  |some o=>simp[orB,ho]
 have hfoot:∀b,m.l.2.X i b≠none->(zqs T ab N).foot m.l.2 b:=λb hb=>.inr ⟨i,hi,hb⟩;have hfr:∀b,Xr b≠none->(zqs T ab N).foot m.l.2 b:=λb hb=>hfoot b (hXr b hb);have hboxf:∀b,m.box i b≠none->¬(zqs T ab N).foot m.l.2 b:=λb hb hf=>hB.apart i b hb (.inr hf);have hboxC:∀b,m.box i b≠none->¬C.foot m.l.1 b:=λb hb hf=>hB.apart i b hb (.inl hf);have hYbox:∀b,Y b≠none->m.box i b≠none:=λb hb=>by
  cases ho:Y b with
  |none=>exact absurd ho hb
  |some o=>rw[hYB b o ho];simp
 have hBbox:∀b,B b≠none->m.box i b≠none:=λb hb=>by
  cases ho:B b with
  |none=>exact absurd ho hb
  |some o=>rw[hBB b o ho];simp
 have hlt:∀b,(zqs T ab N).foot m.l.2 b->b<wc.heap.size:=λb hb=>(zqs T ab N).lt _ _ _ hD hb;have hltB:∀b,m.box i b≠none->b<wc.heap.size:=λb hb=>hB.own'.lt hb;obtain⟨w1,hw1⟩:∃w1,(Car.re wc τ d).alloc (.cells #[.bool a.ok,.int .i64 a.n,sl] T.tA)=w1:=⟨_,rfl⟩;have hs1:w1.heap.size=wc.heap.size+1:=by rw[<-hw1,zqh];rfl
 have hold1:∀b,b<wc.heap.size->w1.heap[b]?=wc.heap[b]?:=λb hb=>by
  rw[<-hw1,zqd,if_neg (by show b≠wc.heap.size;omega)];rfl
 have hnew1:w1.heap[wc.heap.size]?=some (.cells #[.bool a.ok,.int .i64 a.n,sl] T.tA):=by
  rw[<-hw1,zqd];exact if_pos rfl
 have hrow:w1.ownsRow 0 T.tA 3 (m.l.2.hv i) (m.l.2.st i).length cs:=hr.own λb o hb=>by
  have hx:m.l.2.X i b=some o:=by rw[hX];simp[orB,hb]
  have hh:=hD.blk i b o hi hx;rw[hold1 b (zqt hh)];exact hh
 obtain⟨g,cap,w2,hrun,hown,hg,hat,hlt2⟩:=run_append_lies (P:=P) w1 t ty 0 T.tA ti z 3 40 ht hti hz hsz hby hzs (by decide) (m.l.2.hv i) (m.l.2.st i).length cs hrow ⟨wc.heap.size,0,none⟩ 1 1 [.bool a.ok,.int .i64 a.n,sl] (by simp) (World.news_of_block hnew1) (λu hu=>by simp only[List.mem_cons,List.not_mem_nil,or_false]at hu;exact hu.elim (λe=>by rw[e];rfl) (λh=>h.elim (λe=>by rw[e];rfl) (λe=>by rw[e];exact hone))) (by decide) (by simp only[maxLen];omega) (by omega) (Nat.zero_le _) _ rfl;have hold2:∀b,b<wc.heap.size->Xr b=none->w2.heap[b]?=wc.heap[b]?:=λb hb hx=>by
  rw[hg.block b (by omega) (λe=>(hr.block b).2 e.symm hx)];exact hold1 b hb
 have hs2:wc.heap.size<=w2.heap.size:=by have:=hg.size;omega
 obtain⟨hl,h2⟩:=hown;rcases h2 with⟨e,_⟩|⟨g',cap',cur,e,_,hh,c1,c2,c3,c4⟩
 . cases e
 cases e;have hgx:Xr g≠none\/wc.heap.size<g:=hat.imp (λe=>(hr.block g).2 e) (λe=>by omega);have hgab:g≠ab:=λe=>by
  subst e;rcases hgx with x|x
  . exact hXr _ x (hD.nab i hi)
  . have:=hlt g (.inl rfl);omega
 have hgfoot:(zqs T ab N).foot m.l.2 g\/wc.heap.size<=g:=hgx.imp (hfr g) (λx=>Nat.le_of_lt x)
 let X':Nat->Option Obj:=λb=>if b=g then some (.cells cur T.tA (0,0))else none
 have hX'g:X' g=some (.cells cur T.tA (0,0)):=by simp[X']
 have hX'n:∀b,b≠g->X' b=none:=λb hb=>by simp[X',hb]
 have hX':∀b,X' b≠none->b=g:=λb hb=>Classical.byContradiction λe=>hb (hX'n b e);have hXL:∀b,XL b≠none->m.l.2.X i b≠none/\Xr b=none:=λb hb=>by
  have hx:Xr b=none:=Classical.byContradiction λx=>hb (hd b x);refine⟨?_,hx⟩;rw[hX];simp[orB,hx];exact hb
 have hYXL:∀b,Y b≠none->XL b=none:=λb hb=>Classical.byContradiction λx=>hboxf b (hYbox b hb) (hfoot b (hXL b x).1);have hYg:∀b,Y b≠none->b≠g:=λb hb e=>by
  subst e;exact hgfoot.elim (hboxf b (hYbox b hb)) (λx=>by have:=hltB b (hYbox b hb);omega)
 have hXLg:∀b,XL b≠none->b≠g:=λb hb e=>by
  subst e;rcases hgx with x|x
  . exact x (hXL b hb).2
  . have:=hlt b (hfoot b (hXL b hb).1);omega
 have hgn:orB Y XL g=none:=by
  have h1:Y g=none:=Classical.byContradiction λx=>hYg g x rfl;have h2:XL g=none:=Classical.byContradiction λx=>hXLg g x rfl;simp[orB,h1,h2]
 have hnewX:∀b,orB X' (orB Y XL) b≠none->b=g\/Y b≠none\/XL b≠none:=λb hb=>by
  by_cases e:b=g
  . exact .inl e
  . right
    by_cases hy:Y b=none
    . right
      simpa[orB,hX'n b e,hy]using hb
    . exact .inl hy
 have hrowN:AnsR T.tA T.tI (orB X' (orB Y XL)) (.slice (some ⟨g,0,none⟩) ((m.l.2.st i).length+1) cap) (m.l.2.st i++[a]):=
  AnsR.push (Xr:=Xr) hL ⟨sl,rfl,hY⟩ hYXL ⟨hl,.inr ⟨g,cap,cur,rfl,rfl,c1,c2,c3,c4⟩⟩ λb hb=>by rw[hX' b hb];exact hgn
 refine⟨g,cap,w2,⟨upd' m.l.2.hv i (.slice (some ⟨g,0,none⟩) ((m.l.2.st i).length+1) cap),upd' m.l.2.X i (orB X' (orB Y XL)),upd' m.l.2.st i (m.l.2.st i++[a])⟩,by rw[hw1];exact hrun,λb hb hx=>hold2 b hb (Classical.byContradiction λx=>hXr b x hx),rfl,λτ' d'=>?_⟩;have hw3:∀b,b≠ab->(Car.re (w2.setCell ⟨ab,i,none⟩ (.slice (some ⟨g,0,none⟩) ((m.l.2.st i).length+1) cap)) τ' d').heap[b]?=w2.heap[b]?:=λb hb=>zqn _ _ _ _ hb;have habX:Xr ab=none:=Classical.byContradiction λx=>hXr ab x (hD.nab i hi);have hab2:w2.heap[ab]?=some (.cells ((List.range N).map m.l.2.hv).toArray T.tAs):=(hold2 ab (hlt ab (.inl rfl)) habX).trans hD.hd;have hY2:∀b,Y b≠none->Xr b=none:=λb hb=>Classical.byContradiction λx=>hboxf b (hYbox b hb) (hfr b x);have hkeepF:∀b,¬(zqs T ab N).foot m.l.2 b->b<wc.heap.size->(Car.re (w2.setCell ⟨ab,i,none⟩ (.slice (some ⟨g,0,none⟩) ((m.l.2.st i).length+1) cap)) τ' d').heap[b]?=wc.heap[b]?:=λb hf hb=>by
  rw[hw3 b (λe=>hf (.inl e))];exact hold2 b hb (Classical.byContradiction λx=>hf (hfr b x))
 have hAns:zq2z T ab N ⟨upd' m.l.2.hv i (.slice (some ⟨g,0,none⟩) ((m.l.2.st i).length+1) cap),upd' m.l.2.X i (orB X' (orB Y XL)),upd' m.l.2.st i (m.l.2.st i++[a])⟩ (Car.re (w2.setCell ⟨ab,i,none⟩ (.slice (some ⟨g,0,none⟩) ((m.l.2.st i).length+1) cap)) τ' d'):=by
  refine⟨?_,λj hj=>?_,λj b o hj hb=>?_,λj hj=>?_,λj k b hj hk hne hb=>?_⟩
  . refine(zqu _ _ _ _ hab2).trans ?_;rw[upd'_row]
  . by_cases e:j=i
    . subst e;simp only[upd'_same];exact hrowN
    . simp only[zq17 _ _ e];exact hD.row j hj
  . by_cases e:j=i
    . subst e;simp only[upd'_same]at hb;rcases hnewX b (by rw[hb];simp)with e|hy|hx
      . subst e;rw[hw3 b hgab];have:orB X' (orB Y XL) b=some (.cells cur T.tA (0,0)):=by simp[orB,hX'g]
        rw[this]at hb;cases hb;exact hh
      . have hby:Y b=some o:=by
         have h1:=hX'n b (hYg b hy);cases ho:Y b with
         |none=>exact absurd ho hy
         |some o'=>simp[orB,h1,ho]at hb;rw[hb]
        rw[hkeepF b (hboxf b (hYbox b hy)) (hltB b (hYbox b hy))];exact hB.box j b o (hYB b o hby)
      . have hbx:XL b=some o:=by
         have h1:=hX'n b (hXLg b hx);have h2:Y b=none:=Classical.byContradiction λy=>hx (hYXL b y);simpa[orB,h1,h2]using hb
        have hx2:=hXL b hx;have hxb:m.l.2.X j b=some o:=by rw[hX];simp[orB,hx2.2,hbx]
        rw[hw3 b (λe=>by subst e;exact hx2.1 (hD.nab j hj)),hold2 b (hlt b (hfoot b hx2.1)) hx2.2];exact hD.blk j b o hj hxb
    . simp only[zq17 _ _ e]at hb;have hn:m.l.2.X j b≠none:=by rw[hb];simp
      rw[hw3 b (λe'=>by subst e';exact hn (hD.nab j hj)),hold2 b (hlt b (.inr ⟨j,hj,hn⟩)) (Classical.byContradiction λx=>hXr b x (hD.sep j i b hj hi e hn))];exact hD.blk j b o hj hb
  . by_cases e:j=i
    . subst e;simp only[upd'_same];refine Classical.byContradiction λx=>?_;rcases hnewX ab x with e|hy|hx
      . exact hgab e.symm
      . exact hboxf ab (hYbox ab hy) (.inl rfl)
      . exact(hXL ab hx).1 (hD.nab j hj)
    . simp only[zq17 _ _ e];exact hD.nab j hj
  ·
   have key:∀x b,x<N->x≠i->m.l.2.X x b≠none->orB X' (orB Y XL) b=none:=λx b0 hx0 hne0 hb0=>by
    refine Classical.byContradiction λx1=>?_;have hf:(zqs T ab N).foot m.l.2 b0:=.inr ⟨x,hx0,hb0⟩;rcases hnewX b0 x1 with e|hy|hx
    . rw[e]at hb0 hf;rcases hgx with y|y
      . exact hXr g y (hD.sep x i g hx0 hi hne0 hb0)
      . have:=hlt g hf;omega
    . exact hboxf b0 (hYbox b0 hy) hf
    . exact(hXL b0 hx).1 (hD.sep x i b0 hx0 hi hne0 hb0)
   by_cases e:j=i
   . subst e;simp only[upd'_same]at hb;simp only[zq17 _ _ (λe=>hne e.symm)];exact Classical.byContradiction λx=>hb (key k b hk (λe=>hne e.symm) x)
   . simp only[zq17 _ _ e]at hb
     by_cases e2:k=i
     . subst e2;simp only[upd'_same];exact key j b hj e hb
     . simp only[zq17 _ _ e2];exact hD.sep j k b hj hk hne hb
 have hnf:∀b,(zqs T ab N).foot ⟨upd' m.l.2.hv i (.slice (some ⟨g,0,none⟩) ((m.l.2.st i).length+1) cap),upd' m.l.2.X i (orB X' (orB Y XL)),upd' m.l.2.st i (m.l.2.st i++[a])⟩ b->(zqs T ab N).foot m.l.2 b\/Y b≠none\/wc.heap.size<=b:=by
  rintro b (e|⟨j,hj,hb⟩)
  . exact .inl (.inl e)
  . by_cases e:j=i
    . subst e;have hb2:orB X' (orB Y XL) b≠none:=λh=>hb (by show upd' m.l.2.X j _ j b=none;rw[upd'_same];exact h);rcases hnewX b hb2 with e|hy|hx
      . subst e;exact hgfoot.imp id .inr
      . exact .inr (.inl hy)
      . exact .inl (hfoot b (hXL b hx).1)
    . have hb2:m.l.2.X j b≠none:=λh=>hb (by show upd' m.l.2.X i _ j b=none;rw[zq17 _ _ e];exact h);exact .inl (.inr ⟨j,hj,hb2⟩)
 refine⟨?_,λb hb hf hn=>hkeepF b (λx=>hf (.inr x)) hb,⟨C.frame _ _ _ hB.core.1 λb hb=>hkeepF b (hdis b hb) (C.lt _ _ _ hB.core.1 hb),hAns,λb hb hf=>?_⟩,λb o hb=>?_,λb hb=>?_,λb hb=>.inl (hBbox b hb),λb hb=>?_,rfl⟩
 . show wc.heap.size<=(w2.setCell _ _).heap.size;rw[zq11];exact hs2
 . rcases hnf b hf with x|x|x
   . exact hdis b hb x
   . exact hboxC b (hYbox b x) hb
   . exact absurd (C.lt _ _ _ hB.core.1 hb) (Nat.not_lt_of_le x)
 . have hbx:=hBB b o hb;have hn:m.box i b≠none:=by rw[hbx];simp
   rw[hkeepF b (hboxf b hn) (hltB b hn)];exact hB.box i b o hbx
 . rcases hb with hb|hb
   . exact .inl (.inl hb)
   . rcases hnf b hb with x|x|x
     . exact .inl (.inr x)
     . exact .inr (.inl (hYbox b x))
     . exact .inr (.inr x)
 . refine Classical.byContradiction λx=>?_;have hbx:=hBbox b x;rcases hb with hb|hb
   . exact hboxC b hbx hb
   . rcases hnf b hb with y|y|y
     . exact hboxf b hbx y
     . exact x (hYn b y)
     . have:=hltB b hbx;omega
end
end Go.Car
namespace Go.Car
open Go Go.RowKit
section
variable {P:Program} {md:Region.Mode} {ops:Array Oper} {C:World->Prop}
def Closed(md:Region.Mode)(ops:Array Oper)(listed:Array Bool):Prop:=∀i o e,ops[i]?=some o->listed.getD i false=true->e∈o.after->Region.binds md e=true->listed.getD e.on false=true
theorem Closed.set {listed:Array Bool}(h:Closed md ops listed){i:Nat}(hi:i∈Region.ready md ops listed):Closed md ops (listed.setIfInBounds i true):=by
 obtain⟨hun,o,ho,hall⟩:=mem_ready.1 hi;intro j oj e hoj hlj he hb;refine getD_set_true ?_
 by_cases hji:i=j
 . subst hji;rw[ho]at hoj;obtain rfl:=Option.some.inj hoj;exact hall e he hb
 . rw[getD_set_ne false hji]at hlj;exact h j oj e hoj hlj he hb
def AllWait(md:Region.Mode)(ops:Array Oper)(k:Nat):Prop:=∀listed,Closed md ops listed->∀j,j∈Region.ready md ops listed->k<=j->∀i,i<k->listed.getD i false=true
theorem zqbs{l:Array Bool}{i:Nat}(h:l.getD i true=false)(h':l.getD i false=true):False:=by
 rcases Nat.lt_or_ge i l.size with hl|hl
 . simp[hl]at h h';rw[h]at h';cases h'
 . simp[Array.getElem?_eq_none hl]at h'
def anc(md:Region.Mode)(ops:Array Oper):Nat->Nat->Nat->Bool
 |0,_,_=>false
 |f+1,j,i=>match ops[j]? with
  |some o=>o.after.toList.any λe=>Region.binds md e&&(e.on==i || anc md ops f e.on i)
  |none=>false
def zq29(md:Region.Mode)(ops:Array Oper)(k:Nat):Bool:=(List.range ops.size).all λj=>decide (j<k) || (List.range k).all λi=>anc md ops ops.size j i
theorem zq6f{listed:Array Bool}(hc:Closed md ops listed):∀(f j i:Nat)(o:Oper),ops[j]?=some o->(∀e∈o.after,Region.binds md e=true->listed.getD e.on false=true)->anc md ops f j i=true->listed.getD i false=true
 |0,_,_,_,_,_,h=>by cases h
 |f+1,j,i,o,ho,hall,h=>by
  simp only[anc,ho,List.any_eq_true,Bool.and_eq_true,Bool.or_eq_true,beq_iff_eq]at h;obtain⟨e,he,hb,h⟩:=h;have he':e∈o.after:=by simpa using he
  have hl:=hall e he' hb;rcases h with rfl |h
  . exact hl
  . cases hoe:ops[e.on]? with
    |none=>cases f with
     |zero=>cases h
     |succ f=>simp only[anc,hoe]at h;cases h
    |some oe=>exact zq6f hc f e.on i oe hoe (λe' he'' hb'=>hc e.on oe e' hoe hl he'' hb') h
theorem zq6e{k:Nat}(h:zq29 md ops k=true):AllWait md ops k:=by
 intro listed hc j hj hk i hi;obtain⟨_,o,ho,hall⟩:=mem_ready.1 hj;have hlt:=(Array.getElem?_eq_some_iff.1 ho).1;unfold zq29 at h;rw[List.all_eq_true]at h;have:=h j (List.mem_range.2 hlt);simp only[Bool.or_eq_true,decide_eq_true_eq,List.all_eq_true,List.mem_range]at this;rcases this with h|h
 . omega
 . exact zq6f hc _ j i o ho hall (h i hi)
def backB(md:Region.Mode)(ops:Array Oper)(k:Nat):Bool:=decide (k<=ops.size)&&(List.range k).all λi=>match ops[i]? with
 |some o=>o.after.toList.all (λe=>!Region.binds md e || decide (e.on<i))
 |none=>false
theorem zq6k{k:Nat}(h:backB md ops k=true)(listed:Array Bool)(hex:∃i,i<k/\listed.getD i true=false):∃i,i∈Region.ready md ops listed:=by
 unfold backB at h;simp only[Bool.and_eq_true,decide_eq_true_eq,List.all_eq_true,List.mem_range]at h;obtain⟨hk,h⟩:=h;obtain⟨i,hik,hun⟩:=hex;have:∀m i,m=i->i<k->listed.getD i true=false->∃j,j∈Region.ready md ops listed:=by
  intro m
  induction m using Nat.strongRecOn with
  |_ m ihm=>
   intro i hi hik hun;subst hi;have hops:m<ops.size:=by omega
   by_cases hall:∀e∈(ops[m]'hops).after,Region.binds md e=true->listed.getD e.on false=true
   . exact⟨m,mem_ready.2 ⟨hun,_,Array.getElem?_eq_getElem hops,hall⟩⟩
   . obtain⟨e,he⟩:=Classical.not_forall.1 hall;obtain⟨h1,he⟩:=Classical.not_imp.1 he;obtain⟨h2,he⟩:=Classical.not_imp.1 he;have hb:=h m hik;rw[Array.getElem?_eq_getElem hops]at hb;simp only[List.all_eq_true]at hb;have hlt:e.on<m:=by have:=hb e (by simpa using h1);simpa[h2]using this
     refine ihm e.on hlt e.on rfl (by omega) ?_;have hm:=zq1k hun;have:e.on<listed.size:=by omega
     simp[this]at he |-;exact he
 exact this i i rfl hik hun
theorem zq6r:∀(k i:Nat)(p q:Nat->Bool),i<k->p i=true->q i=false->(∀j,j≠i->p j=q j)->(List.range k).countP p=(List.range k).countP q+1
 |0,i,p,q,hi,_,_,_=>by omega
 |k+1,i,p,q,hi,hp,hq,h=>by
  rw[List.range_succ,List.countP_append,List.countP_append]
  by_cases e:i=k
  . subst e;have:(List.range i).countP p=(List.range i).countP q:=List.countP_congr λj hj=>by rw[h j (by have:=List.mem_range.1 hj;omega)]
    simp[this,hp,hq]
  . have ih:=zq6r k i p q (by omega) hp hq h;have e2:=h k (Ne.symm e);simp[ih,e2];omega
theorem zqju{Q:Exit->Act->World->Prop}{i:Nat}{K K':Act->World->Prop}{a:Act}{w:World}(h:∀a w,K a w->K' a w)(hh:wpOp P ops Q i K a w):wpOp P ops Q i K' a w:=by
 unfold wpOp at *;split
 . simp only[*]at hh |-;exact h _ _ (by simpa[*]using hh)
 . rename_i o ho;simp only[ho]at hh;split
   . rename_i hw;simp only[hw,if_true]at hh;rcases hh with hh|hh
     . exact .inl (Oper.wp_mono h hh)
     . exact .inr hh
   . rename_i hw;simp only[hw]at hh;exact h _ _ hh
theorem zqan{id k:Nat}{Q':Exit->Act->World->Prop}{a:Act}{w:World}(hm:P.follows .mixedOrders=true)(hback:backB .any ops k=true)(hwait:zq29 .any ops k=true)(I:Array Bool->Act->World->Prop)
 (h0:I (Array.replicate ops.size false) a {w with drawn:=w.drawn+1})
 (hstep:∀(L:Array Bool)(a:Act)(w:World)(i:Nat),L.size=ops.size->i<k->L.getD i true=false->(∀o,ops[i]?=some o->∀e∈o.after,Region.binds .any e=true->L.getD e.on false=true)->I L a w->wpOp P ops Q' i (I (L.setIfInBounds i true)) a w)
 (hend:∀(a:Act)(w:World),I (Array.ofFn λi:Fin ops.size=>decide (i.val<k)) a w->wpAny P .any ops Q' (ops.size - k) (Array.ofFn λi:Fin ops.size=>decide (i.val<k)) a w):(Code.region id ops true).wp P Q' a w:=by
 have hk:k<=ops.size:=by
  unfold backB at hback;simp only[Bool.and_eq_true,decide_eq_true_eq]at hback;exact hback.1
 refine wp_region_any hm ?_;have key:∀(f:Nat)(L:Array Bool)(a:Act)(w:World),Closed .any ops L->L.size=ops.size->(∀j,k<=j->L.getD j false=false)->(List.range k).countP (λi=>!L.getD i false)=f->I L a w->wpAny P .any ops Q' (f+(ops.size - k)) L a w:=by
  intro f
  induction f with
  |zero=>
   intro L a w hcl hsz hno hc hI;have hall:∀i,i<k->L.getD i false=true:=by
    intro i hi;rw[List.countP_eq_zero]at hc;have:=hc i (List.mem_range.2 hi);simpa using this
   have hL:L=Array.ofFn λi:Fin ops.size=>decide (i.val<k):=by
    apply Array.ext
    . simp[hsz]
    . intro i h1 h2;simp only[Array.getElem_ofFn]
      by_cases hik:i<k
      . have:=hall i hik;simp[h1]at this;rw[this];simp[hik]
      . have:=hno i (by omega);simp[h1]at this;rw[this];simp[hik]
   rw[Nat.zero_add];rw[hL]at hI |-;exact hend a w hI
  |succ f ih=>
   intro L a w hcl hsz hno hc hI;have hex:∃i,i<k/\L.getD i true=false:=by
    have:0<(List.range k).countP (λi=>!L.getD i false):=by omega
    obtain⟨i,hi,hp⟩:=List.countP_pos_iff.1 this;have hik:=List.mem_range.1 hi;refine⟨i,hik,?_⟩;have hlt:i<L.size:=by omega
    simp[hlt]at hp |-;exact hp
   have e:f+1+(ops.size - k)=(f+(ops.size - k))+1:=by omega
   rw[e];refine⟨λhr=>?_,λi hi=>?_⟩
   . obtain⟨i,hi⟩:=zq6k hback L hex;rw[hr]at hi;cases hi
   . have hik:i<k:=by
      rcases Nat.lt_or_ge i k with h|h
      . exact h
      . obtain⟨q,hq,hun⟩:=hex;exact(zqbs hun (zq6e hwait L hcl i hi h q hq)).elim
     obtain⟨hun,o,ho,hall⟩:=mem_ready.1 hi;refine zqju (λa' w' hI'=>ih _ a' w' (hcl.set hi) (by simp[hsz]) (λj hj=>?_) ?_ hI') (hstep L a w i hsz hik hun (λo' ho' e he hb=>by rw[ho]at ho';cases ho';exact hall e he hb) hI)
     . rw[getD_set_ne false (by omega)];exact hno j hj
     . have:=zq6r k i (λj=>!L.getD j false) (λj=>!(L.setIfInBounds i true).getD j false) hik ?_ ?_ (λj hj=>?_)
       . omega
       . have hlt:i<L.size:=by omega
         simp[hlt]at hun |-;exact hun
       . have hlt:i<L.size:=by omega
         simp[hlt]
       . rw[getD_set_ne false (Ne.symm hj)]
 have hcl:Closed .any ops (Array.replicate ops.size false):=λi o e _ hl=>by
  exfalso;simp[al_gd,Array.getElem?_replicate]at hl;split at hl<;>simp at hl
 have hf:∀i,(Array.replicate ops.size false).getD i false=false:=λi=>by
  simp[al_gd,Array.getElem?_replicate];split<;>rfl
 have:=key k (Array.replicate ops.size false) a _ hcl (by simp) (λj _=>hf j) (by rw[List.countP_eq_length.2 (λi _=>by rw[hf i];rfl),List.length_range]) h0;rw[show k+(ops.size - k)=ops.size by omega]at this;exact this
theorem zq66{Q:Exit->Act->World->Prop}{fuel i:Nat}{listed:Array Bool}{a:Act}{w:World}(hr:Region.ready md ops listed=[i])(h:wpOp P ops Q i (wpAny P md ops Q fuel (listed.setIfInBounds i true)) a w):wpAny P md ops Q (fuel+1) listed a w:=
 ⟨λh0=>(by rw[hr]at h0;cases h0),λj hj=>by rw[hr]at hj;obtain rfl:=List.mem_singleton.1 hj;exact h⟩
theorem zq65{Q:Exit->Act->World->Prop}{listed:Array Bool}{a:Act}{w:World}(hr:Region.ready md ops listed=[])(h:Q .normal a w):wpAny P md ops Q 0 listed a w:=⟨hr,h⟩
end
end Go.Car
namespace Go.Car
open Go Go.Conc Go.RowKit
def idleOk(P:Program)(ops:Array Oper)(n:Nat)(same:List Nat):Bool:=
 (List.range ops.size).all (λi=>match ops[i]? with
  |some o=>okOp P (λ_=>false) o.op&&(match o.op with|.convert .. =>false|_=>true)&&o.guard.isNone&&(match o.dst with|some d=>decide (d<n)|none=>true)
  |none=>false)&&
 (List.range ops.size).all (λi=>(List.range i).all λj=>(dstOf ops i).isNone || dstOf ops i !=dstOf ops j)&&
 (List.range ops.size).all (λi=>match ops[i]? with
  |some o=>o.after.all (λe=>!Region.binds .any e || decide (e.on<i))&&
   o.op.operands.all (λx=>match tmpOf x with
    |some t=>same.contains t || (List.range ops.size).all λj=>dstOf ops j !=some t || waits ops i j
    |none=>true)
  |none=>false)
structure IdleOk(P:Program)(ops:Array Oper)(n:Nat)(same:List Nat):Prop where
 plain:∀i,i<ops.size->∃o,ops[i]?=some o/\okOp P (λ_=>false) o.op=true/\(∀s d x,o.op≠.convert s d x)/\o.guard=none/\∀d,o.dst=some d->d<n
 apart:∀i j d,i<ops.size->j<i->dstOf ops i=some d->dstOf ops j≠some d
 back:∀i o e,i<ops.size->ops[i]?=some o->e∈o.after->Region.binds .any e=true->e.on<i
 looks:∀i o x t j,i<ops.size->ops[i]?=some o->x∈o.op.operands->tmpOf x=some t->j<ops.size->dstOf ops j=some t->t∈same\/waits ops i j=true
theorem zqc3{P:Program}{ops:Array Oper}{n:Nat}{same:List Nat}(h:idleOk P ops n same=true):IdleOk P ops n same:=by
 unfold idleOk at h;simp only[Bool.and_eq_true,List.all_eq_true,List.mem_range]at h;obtain⟨⟨h2,h3⟩,h4⟩:=h;refine⟨λi hi=>?_,λi j d hi hj hd hd'=>?_,λi o e hi ho he hb=>?_,λi o x t j hi ho hx ht hj hd=>?_⟩
 . have:=h2 i hi;cases ho:ops[i]? with
   |none=>rw[ho]at this;cases this
   |some o=>
    rw[ho]at this;simp only[Bool.and_eq_true,Option.isNone_iff_eq_none]at this;obtain⟨⟨⟨a1,a0⟩,a2⟩,a3⟩:=this;refine⟨o,rfl,a1,λs d x e=>?_,a2,λd hd=>?_⟩
    . rw[e]at a0;cases a0
    . rw[hd]at a3;simpa using a3
 . have:=h3 i hi j hj;rw[hd,hd']at this;simp at this
 . have:=h4 i hi;rw[ho]at this;simp only[Bool.and_eq_true,Array.all_eq_true_iff_forall_mem]at this;have:=this.1 e he;simpa[hb]using this
 . have:=h4 i hi;rw[ho]at this;simp only[Bool.and_eq_true,Array.all_eq_true_iff_forall_mem]at this;have:=this.2 x hx;rw[ht]at this;simp only[Bool.or_eq_true,List.all_eq_true,List.mem_range,List.contains_iff_mem]at this;rcases this with h|h
   . exact .inl h
   . have:=h j hj;exact .inr (by simpa[hd]using this)
structure Agree2(ops:Array Oper)(T a₀:Array Value)(listed:Array Bool)(tm:Array Value):Prop where
 size:tm.size=T.size
 on:∀i t,i<ops.size->listed.getD i false=true->dstOf ops i=some t->tm[t]?=T[t]?
 off:∀t,(∀i,i<ops.size->listed.getD i false=true->dstOf ops i≠some t)->tm[t]?=a₀[t]?
section
variable {P:Program} {main:Bool} {γ:Type} {J:γ->Goroutine->World->Prop}
theorem idle_go(hJ:JS P main (λ_=>none) J){b:Frame}{k:List Item}{cs:List Frame}(hb:b.kind≠.early){ops:Array Oper}{n:Nat}{same:List Nat}(hok:IdleOk P ops n same){T a₀:Array Value}{ds:List Deferred}{s:γ}{w:World}(hT:T.size=n)
 (hsame:∀t,t∈same->a₀[t]?=T[t]?) (hout:∀t,(∀i,i<ops.size->dstOf ops i≠some t)->T[t]?=a₀[t]?)
 (hval:∀i o,i<ops.size->ops[i]?=some o->(∃v d,o.dst=some d/\T[d]?=some v/\∀τ dd,(execOp (Act.mk T []).eval o).run P (re w τ dd)=.ok (.value v) (re w τ dd))\/(o.dst=none/\∀τ dd,(execOp (Act.mk T []).eval o).run P (re w τ dd)=.ok .skip (re w τ dd)))
 (hlast:J s (G (b.at ⟨T,ds⟩ (.inRegion ops []::k)) cs) w):
 ∀(fuel t:Nat)(listed:Array Bool)(tm:Array Value),listed.size=ops.size->left listed=fuel->
  (∀i o e,i<ops.size->ops[i]?=some o->listed.getD i false=true->e∈o.after->Region.binds .any e=true->listed.getD e.on false=true)->Agree2 ops T a₀ listed tm->
  J s (G (b.at ⟨tm,ds⟩ (.inRegion ops (Region.linearise.go .any ops fuel t listed [])::k)) cs) w:=by
 intro fuel
 induction fuel with
 |zero=>
  intro t listed tm hsz hl hclosed hag;have hall:∀i,i<ops.size->listed.getD i false=true:=λi hi=>by
   have hlt:i<listed.size:=by omega
   cases hv:listed[i]with
   |true=>simp[hlt,hv]
   |false=>have:=zq4d (listed:=listed) (i:=i) (by simp[hlt,hv]);omega
  have htm:tm=T:=by
   apply Array.ext_getElem?;intro x
   by_cases hx:∃j,j<ops.size/\dstOf ops j=some x
   . obtain⟨j,hj,hd⟩:=hx;exact hag.on j x hj (hall j hj) hd
   . rw[hag.off x (λj hj _ hd=>hx ⟨j,hj,hd⟩),hout x λj hj hd=>hx ⟨j,hj,hd⟩]
  rw[htm];exact hlast
 |succ fuel ih=>
  intro t listed tm hsz hl hclosed hag;simp only[Region.linearise.go];change J s (G (b.at ⟨tm,ds⟩ (.inRegion ops (match (Region.ready .any ops listed)[t % (Region.ready .any ops listed).length]? with
   |some i=>Region.linearise.go .any ops fuel (t / (Region.ready .any ops listed).length) (listed.setIfInBounds i true) [i]
   |none=>[].reverse)::k)) cs) w
  have hun:∃i,listed.getD i true=false:=by
   refine Classical.byContradiction λhn=>?_;have:left listed=0:=by
    unfold left;rw[List.length_eq_zero_iff,List.filter_eq_nil_iff];intro x hx hxx;obtain⟨i,hi,rfl⟩:=List.getElem_of_mem hx;have hi':i<listed.size:=by simpa using hi
    have e:listed.toList[i]=listed[i]:=by simp
    rw[e]at hxx;exact hn ⟨i,by simp[hi'];simpa using hxx⟩
   omega
  have hready:∃i,i∈Region.ready .any ops listed:=by
   have:∀m i,m=i->listed.getD i true=false->∃j,j∈Region.ready .any ops listed:=by
    intro m
    induction m using Nat.strongRecOn with
    |_ m ihm=>
     intro i hi hun;subst hi;have hops:m<ops.size:=by have:=zq1k hun;omega
     by_cases hall:∀e∈(ops[m]'hops).after,Region.binds .any e=true->listed.getD e.on false=true
     . exact⟨m,mem_ready.2 ⟨hun,_,Array.getElem?_eq_getElem hops,hall⟩⟩
     . obtain⟨e,he⟩:=Classical.not_forall.1 hall;obtain⟨h1,he⟩:=Classical.not_imp.1 he;obtain⟨h2,he⟩:=Classical.not_imp.1 he;have hlt':=hok.back m _ e hops (Array.getElem?_eq_getElem hops) h1 h2;refine ihm e.on hlt' e.on rfl ?_;have:e.on<listed.size:=by omega
       simp[this]at he |-;exact he
   obtain⟨i,hi⟩:=hun;exact this i i rfl hi
  cases hi:(Region.ready .any ops listed)[t % (Region.ready .any ops listed).length]? with
  |none=>
   exfalso;obtain⟨i,hi'⟩:=hready;have hpos:0<(Region.ready .any ops listed).length:=List.length_pos_of_mem hi';have hlt:=Nat.mod_lt t hpos;rw[List.getElem?_eq_none_iff]at hi;omega
  |some i=>
   have hmem:=List.mem_of_getElem? hi;obtain⟨hun,o,ho,hall⟩:=mem_ready.1 hmem;have hilt:i<ops.size:=by have:=zq1k hun;omega
   simp only[];rw[linearise_go_acc,List.reverse_singleton,List.singleton_append];obtain⟨o',ho',hok',hcv,hguard,hdn⟩:=hok.plain i hilt;rw[ho]at ho';obtain rfl:=Option.some.inj ho';have hex:execOp (Act.mk tm ds).eval o=execOp (Act.mk T []).eval o:=by
    refine execOp_congr o (λcs b h=>by rw[h]at hok';cases hok') λx hx=>zq47 λt ht=>?_
    by_cases hxt:∃j,j<ops.size/\dstOf ops j=some t
    . obtain⟨j,hj,hd⟩:=hxt;rcases hok.looks i o x t j hilt ho hx ht hj hd with hs|hwt
      . by_cases hl':listed.getD j false=true
        . exact hag.on j t hj hl' hd
        . refine(hag.off t λq hq hlq hdq=>?_).trans (hsame t hs);rcases Nat.lt_trichotomy q j with h|h|h
          . exact hok.apart j q t hj h hd hdq
          . exact hl' (h▸hlq)
          . exact hok.apart q j t hq h hdq hd
      . obtain⟨oi,hoi,e,he1,he2,he3⟩:=waits_iff.1 hwt;rw[ho]at hoi;obtain rfl:=Option.some.inj hoi;subst he3;exact hag.on e.on t hj (hall e he1 he2) hd
    . rw[hag.off t (λj hj _ hd=>hxt ⟨j,hj,hd⟩),hout t λj hj hd=>hxt ⟨j,hj,hd⟩]
   have hw:Region.wanted o (yielded ops (Act.mk tm ds).tmps)=true:=by simp[Region.wanted,hguard]
   have htame:tame P true (execOp (Act.mk T []).eval o):=(zq1q (A:=λ_=>false) (λf h=>by cases h) o hok' _ (λf=>rfl)).1;have hld:left (listed.setIfInBounds i true)+1=left listed:=zq35 hun;have hclosed':∀j oj e,j<ops.size->ops[j]?=some oj->(listed.setIfInBounds i true).getD j false=true->e∈oj.after->Region.binds .any e=true->(listed.setIfInBounds i true).getD e.on false=true:=by
    intro j oj e hj hoj hlj he hbe;refine getD_set_true ?_
    by_cases hji:i=j
    . subst hji;rw[ho]at hoj;obtain rfl:=Option.some.inj hoj;exact hall e he hbe
    . rw[getD_set_ne false hji]at hlj;exact hclosed j oj e hj hoj hlj he hbe
   refine zq1j hb hJ ho hw λτ dd=>?_;rw[hex];obtain⟨h1,h2⟩:=zq48 (Kc:=λ_=>none) htame rfl (re w τ dd);refine⟨h1,h2,?_⟩;rcases hval i o hilt ho with⟨v,d,hdst,hTv,hrun⟩|⟨hdst,hrun⟩
   . have hdi:dstOf ops i=some d:=by unfold dstOf;rw[ho];exact hdst
     rw[hrun];show J s (G (b.at (Act.put ⟨tm,ds⟩ o.dst v) _) cs) (re w τ dd);rw[hdst];refine hJ.re' _ _ _ _ _ ?_;show J s (G (b.at ⟨tm.setIfInBounds d v,ds⟩ _) cs) w;refine ih _ _ _ (by simpa using hsz) (by omega) hclosed' ?_;refine⟨by simpa using hag.size,λj t hj hlj hd=>?_,λt ht=>?_⟩
     . by_cases htd:d=t
       . subst htd;have:d<tm.size:=by rw[hag.size,hT];exact hdn d hdst
         simp[this,hTv]
       . rw[al_gn htd]
         by_cases hji:i=j
         . subst hji;rw[hdi]at hd;exact absurd (Option.some.inj hd) htd
         . rw[getD_set_ne false hji]at hlj;exact hag.on j t hj hlj hd
     . have htd:d≠t:=by
        intro e;subst e;refine ht i hilt ?_ hdi;have:=zq1k hun;simp[this]
       rw[al_gn htd];refine hag.off t λj hj hlj=>?_;exact ht j hj (getD_set_true hlj)
   . have hdi:dstOf ops i=none:=by unfold dstOf;rw[ho];exact hdst
     rw[hrun];show J s (G (b.at (Act.put ⟨tm,ds⟩ o.dst undef) _) cs) (re w τ dd);rw[hdst];refine hJ.re' _ _ _ _ _ ?_;show J s (G (b.at ⟨tm,ds⟩ _) cs) w;refine ih _ _ _ (by simpa using hsz) (by omega) hclosed' ?_;refine⟨hag.size,λj t hj hlj hd=>?_,λt ht=>?_⟩
     . by_cases hji:i=j
       . subst hji;rw[hdi]at hd;cases hd
       . rw[getD_set_ne false hji]at hlj;exact hag.on j t hj hlj hd
     . exact hag.off t λj hj hlj=>ht j hj (getD_set_true hlj)
theorem at_idle(hJ:JS P main (λ_=>none) J){b:Frame}{k:List Item}{cs:List Frame}(hb:b.kind≠.early)(hm:P.follows .mixedOrders=true){id:Nat}{ops:Array Oper}{a:Act}{s:γ}{w:World}(same:List Nat)(T:Array Value)
 (hok:idleOk P ops a.tmps.size same=true) (hT:T.size=a.tmps.size) (hsame:∀t,t∈same->a.tmps[t]?=T[t]?) (hout:∀t,(∀i,i<ops.size->dstOf ops i≠some t)->T[t]?=a.tmps[t]?)
 (hval:∀i o,i<ops.size->ops[i]?=some o->(∃v d,o.dst=some d/\T[d]?=some v/\∀τ dd,(execOp (Act.mk T []).eval o).run P (re w τ dd)=.ok (.value v) (re w τ dd))\/(o.dst=none/\∀τ dd,(execOp (Act.mk T []).eval o).run P (re w τ dd)=.ok .skip (re w τ dd)))
 (hlast:J s (G (b.at ⟨T,a.defers⟩ (.inRegion ops []::k)) cs) w):J s (G (b.at a (.code (.region id ops true)::k)) cs) w:=by
 refine hJ.step _ _ _ rfl λτ d=>⟨_,_,#[],stepG_region_draw,?_,by simp,?_⟩
 . exact OkD.refl _ _ _
 . refine hJ.re' s _ w τ (d+1) ?_;simp only[Region.schedule,hm,Bool.true_or,if_true,Region.linearise];refine idle_go hJ hb (zqc3 hok) (a₀:=a.tmps) (T:=T) hT hsame hout hval hlast _ _ _ _ (by simp) ?_ ?_ ?_
   . unfold left;simp
   . intro i o e hi ho hl;simp[hi]at hl
   . refine⟨hT.symm,λi t hi hl=>?_,λt _=>rfl⟩;simp[hi]at hl
end
end Go.Car
namespace Go.Car
open Go Go.Conc Go.RowKit
open Go.ConcN (upd upd_ne upd_same)
section
variable {P:Program} {main:Bool} {γ:Type} {J:γ->Goroutine->World->Prop}
theorem zq2m(hJ:JS P main (λ_=>none) J){b:Frame}{k:List Item}{cs:List Frame}(hb:b.kind≠.early){ops:Array Oper}{i:Nat}{rest:List Nat}{o:Oper}{s:γ}{T:Array Value}{ds:List Deferred}{w:World}{d:Tmp}
 (ho:ops[i]?=some o) (hok:okOp P (λ_=>false) o.op=true) (hw:Region.wanted o (yielded ops T)=true) (hd:o.dst=some d)
 (hr:∀τ dd,∃v w',(execOp (Act.mk T []).eval o).run P (re w τ dd)=.ok (.value v) w'/\J s (G (b.at ⟨T.setIfInBounds d v,ds⟩ (.inRegion ops rest::k)) cs) w'):J s (G (b.at ⟨T,ds⟩ (.inRegion ops (i::rest)::k)) cs) w:=by
 refine zq1j hb hJ ho hw λτ dd=>?_;have htame:tame P true (execOp (Act.mk T ds).eval o):=(zq1q (A:=λ_=>false) (λf h=>by cases h) o hok _ (λf=>rfl)).1;obtain⟨h1,h2⟩:=zq48 (Kc:=λ_=>none) htame rfl (re w τ dd);refine⟨h1,h2,?_⟩;obtain⟨v,w',hrun,h⟩:=hr τ dd;have hrun':(execOp (Act.mk T ds).eval o).run P (re w τ dd)=.ok (.value v) w':=hrun;rw[hrun'];show J s (G (b.at (Act.put ⟨T,ds⟩ o.dst v) _) cs) w';rw[hd];exact h
theorem zq41(hJ:JS P main (λ_=>none) J){b:Frame}{k:List Item}{cs:List Frame}(hb:b.kind≠.early){ops:Array Oper}{i:Nat}{rest:List Nat}{o:Oper}{s:γ}{T:Array Value}{ds:List Deferred}{w:World}
 (ho:ops[i]?=some o) (hok:okOp P (λ_=>false) o.op=true) (hw:Region.wanted o (yielded ops T)=true) (hd:o.dst=none)
 (hr:∀τ dd,∃w',(execOp (Act.mk T []).eval o).run P (re w τ dd)=.ok .skip w'/\J s (G (b.at ⟨T,ds⟩ (.inRegion ops rest::k)) cs) w'):J s (G (b.at ⟨T,ds⟩ (.inRegion ops (i::rest)::k)) cs) w:=by
 refine zq1j hb hJ ho hw λτ dd=>?_;have htame:tame P true (execOp (Act.mk T ds).eval o):=(zq1q (A:=λ_=>false) (λf h=>by cases h) o hok _ (λf=>rfl)).1;obtain⟨h1,h2⟩:=zq48 (Kc:=λ_=>none) htame rfl (re w τ dd);refine⟨h1,h2,?_⟩;obtain⟨w',hrun,h⟩:=hr τ dd;have hrun':(execOp (Act.mk T ds).eval o).run P (re w τ dd)=.ok .skip w':=hrun;rw[hrun'];show J s (G (b.at (Act.put ⟨T,ds⟩ o.dst undef) _) cs) w';rw[hd];exact h
def backOk(P:Program)(ops:Array Oper):Bool:=(List.range ops.size).all λi=>match ops[i]? with
 |some o=>okOp P (λ_=>false) o.op&&o.guard.isNone&&o.after.all (λe=>!Region.binds .any e || decide (e.on<i))
 |none=>false
theorem zq6j(hJ:JS P main (λ_=>none) J){b:Frame}{k:List Item}{cs:List Frame}(hb:b.kind≠.early)(hm:P.follows .mixedOrders=true){id:Nat}{ops:Array Oper}{T₀:Array Value}{ds:List Deferred}{s:γ}{w:World}(I:(Nat->Bool)->Array Value->World->Prop)
 (hback:backOk P ops=true) (hre:∀L T w τ d,I L T w->I L T (re w τ d)) (hI:I (λ_=>false) T₀ w)
 (hstep:∀(L:Nat->Bool)(T:Array Value)(w:World)(i:Nat)(o:Oper),I L T w->L i=false->ops[i]?=some o->(∀e∈o.after,Region.binds .any e=true->L e.on=true)->
  (∃d,o.dst=some d/\∃v w',(execOp (Act.mk T []).eval o).run P w=.ok (.value v) w'/\I (upd L i true) (T.setIfInBounds d v) w')\/(o.dst=none/\∃w',(execOp (Act.mk T []).eval o).run P w=.ok .skip w'/\I (upd L i true) T w'))
 (hend:∀L T w,(∀i,i<ops.size->L i=true)->I L T w->J s (G (b.at ⟨T,ds⟩ (.inRegion ops []::k)) cs) w):J s (G (b.at ⟨T₀,ds⟩ (.code (.region id ops true)::k)) cs) w:=by
 have hb':∀i o,ops[i]?=some o->okOp P (λ_=>false) o.op=true/\o.guard=none/\∀e∈o.after,Region.binds .any e=true->e.on<i:=by
  intro i o ho;have hlt:=(Array.getElem?_eq_some_iff.1 ho).1;unfold backOk at hback;rw[List.all_eq_true]at hback;have:=hback i (List.mem_range.2 hlt);rw[ho]at this;simp only[Bool.and_eq_true,Option.isNone_iff_eq_none,Array.all_eq_true_iff_forall_mem]at this;exact⟨this.1.1,this.1.2,λe he hbe=>by have:=this.2 e he;simpa[hbe]using this⟩
 have key:∀(fuel t:Nat)(listed:Array Bool)(L:Nat->Bool)(T:Array Value)(w:World),listed.size=ops.size->left listed=fuel->(∀i,i<ops.size->listed.getD i false=L i)->I L T w->
  J s (G (b.at ⟨T,ds⟩ (.inRegion ops (Region.linearise.go .any ops fuel t listed [])::k)) cs) w:=by
  intro fuel
  induction fuel with
  |zero=>
   intro t listed L T w hsz hl hL hi;refine hend L T w (λi hlt=>?_) hi;rw[<-hL i hlt];have hlt':i<listed.size:=by omega
   cases hv:listed[i]with
   |true=>simp[hlt',hv]
   |false=>have:=zq4d (listed:=listed) (i:=i) (by simp[hlt',hv]);omega
  |succ fuel ih=>
   intro t listed L T w hsz hl hL hi;simp only[Region.linearise.go];change J s (G (b.at ⟨T,ds⟩ (.inRegion ops (match (Region.ready .any ops listed)[t % (Region.ready .any ops listed).length]? with
    |some i=>Region.linearise.go .any ops fuel (t / (Region.ready .any ops listed).length) (listed.setIfInBounds i true) [i]
    |none=>[].reverse)::k)) cs) w
   have hun:∃i,listed.getD i true=false:=by
    refine Classical.byContradiction λhn=>?_;have:left listed=0:=by
     unfold left;rw[List.length_eq_zero_iff,List.filter_eq_nil_iff];intro x hx hxx;obtain⟨i,hi,rfl⟩:=List.getElem_of_mem hx;have hi':i<listed.size:=by simpa using hi
     have e:listed.toList[i]=listed[i]:=by simp
     rw[e]at hxx;exact hn ⟨i,by simp[hi'];simpa using hxx⟩
    omega
   have hready:∃i,i∈Region.ready .any ops listed:=by
    have:∀m i,m=i->listed.getD i true=false->∃j,j∈Region.ready .any ops listed:=by
     intro m
     induction m using Nat.strongRecOn with
     |_ m ihm=>
      intro i hi hun;subst hi;have hops:m<ops.size:=by have:=zq1k hun;omega
      by_cases hall:∀e∈(ops[m]'hops).after,Region.binds .any e=true->listed.getD e.on false=true
      . exact⟨m,mem_ready.2 ⟨hun,_,Array.getElem?_eq_getElem hops,hall⟩⟩
      . obtain⟨e,he⟩:=Classical.not_forall.1 hall;obtain⟨h1,he⟩:=Classical.not_imp.1 he;obtain⟨h2,he⟩:=Classical.not_imp.1 he;have hlt':=(hb' m _ (Array.getElem?_eq_getElem hops)).2.2 e h1 h2;refine ihm e.on hlt' e.on rfl ?_;have:e.on<listed.size:=by omega
        simp[this]at he |-;exact he
    obtain⟨i,hi⟩:=hun;exact this i i rfl hi
   cases hi':(Region.ready .any ops listed)[t % (Region.ready .any ops listed).length]? with
   |none=>
    exfalso;obtain⟨i,hi''⟩:=hready;have hpos:0<(Region.ready .any ops listed).length:=List.length_pos_of_mem hi'';have hlt:=Nat.mod_lt t hpos;rw[List.getElem?_eq_none_iff]at hi';omega
   |some i=>
    have hmem:=List.mem_of_getElem? hi';obtain⟨hun,o,ho,hall⟩:=mem_ready.1 hmem;have hilt:i<ops.size:=by have:=zq1k hun;omega
    simp only[];rw[linearise_go_acc,List.reverse_singleton,List.singleton_append];obtain⟨hok,hg,hbk⟩:=hb' i o ho;have hLi:L i=false:=by
     rw[<-hL i hilt];have hlt':i<listed.size:=by omega
     simp[hlt']at hun |-;exact hun
    have hw:Region.wanted o (yielded ops T)=true:=by simp[Region.wanted,hg]
    have hld:left (listed.setIfInBounds i true)+1=left listed:=zq35 hun;have hL':∀j,j<ops.size->(listed.setIfInBounds i true).getD j false=upd L i true j:=λj hj=>by
     by_cases e:i=j
     . subst e;have:i<listed.size:=by omega
       rw[upd_same];simp[this]
     . rw[getD_set_ne false e,upd_ne _ _ (λx=>e x.symm)];exact hL j hj
    have hall':∀e∈o.after,Region.binds .any e=true->L e.on=true:=λe he hbe=>by
     rw[<-hL e.on (by have:=hbk e he hbe;omega)];exact hall e he hbe
    have hst:=λτ dd=>hstep L T (re w τ dd) i o (hre _ _ _ τ dd hi) hLi ho hall';cases hdst:o.dst with
    |some d=>
     refine zq2m hJ hb ho hok hw hdst λτ dd=>?_;rcases hst τ dd with⟨d',hd',v,w',hr,hI'⟩|⟨hd',_⟩
     . rw[hdst]at hd';obtain rfl:=Option.some.inj hd';exact⟨v,w',hr,ih _ _ (upd L i true) _ _ (by simpa using hsz) (by omega) hL' hI'⟩
     . rw[hdst]at hd';cases hd'
    |none=>
     refine zq41 hJ hb ho hok hw hdst λτ dd=>?_;rcases hst τ dd with⟨d',hd',_⟩|⟨hd',w',hr,hI'⟩
     . rw[hdst]at hd';cases hd'
     . exact⟨w',hr,ih _ _ (upd L i true) _ _ (by simpa using hsz) (by omega) hL' hI'⟩
 refine hJ.step _ _ _ rfl λτ d=>⟨_,_,#[],stepG_region_draw (a:=⟨T₀,ds⟩),?_,by simp,?_⟩
 . exact OkD.refl _ _ _
 . refine hJ.re' s _ w τ (d+1) ?_;simp only[Region.schedule,hm,Bool.true_or,if_true,Region.linearise];refine key _ _ _ (λ_=>false) _ _ (by simp) ?_ (λi hi=>by simp[hi]) hI;unfold left;simp
end
section
variable {P:Program} {main:Bool} {Kc:Addr->Option Value} {γ:Type} {J:γ->Goroutine->World->Prop}
theorem at_opK(hJ:JS P main Kc J){b:Frame}{k:List Item}{cs:List Frame}(hb:b.kind≠.early){ops:Array Oper}{i:Nat}{rest:List Nat}{o:Oper}{s:γ}{T:Array Value}{ds:List Deferred}{w:World}{d:Tmp}
 (ho:ops[i]?=some o) (hok:zq1f P o.op=true) (hw:Region.wanted o (yielded ops T)=true) (hd:o.dst=some d)
 (hr:∀τ dd,∃v w',(execOp (Act.mk T []).eval o).run P (re w τ dd)=.ok (.value v) w'/\J s (G (b.at ⟨T.setIfInBounds d v,ds⟩ (.inRegion ops rest::k)) cs) w'):J s (G (b.at ⟨T,ds⟩ (.inRegion ops (i::rest)::k)) cs) w:=by
 refine zq1j hb hJ ho hw λτ dd=>?_;have htame:tame P false (execOp (Act.mk T ds).eval o):=zq3e o hok _;obtain⟨h1,h2⟩:=zq2p (Kc:=Kc) htame (re w τ dd);refine⟨h1,h2,?_⟩;obtain⟨v,w',hrun,h⟩:=hr τ dd;have hrun':(execOp (Act.mk T ds).eval o).run P (re w τ dd)=.ok (.value v) w':=hrun;rw[hrun'];show J s (G (b.at (Act.put ⟨T,ds⟩ o.dst v) _) cs) w';rw[hd];exact h
end
end Go.Car
namespace Go.Car
open Go Go.Conc Go.RowKit
section
variable {P:Program} {main:Bool} {Kc:Addr->Option Value} {γ:Type} {J:γ->Goroutine->World->Prop}
end
end Go.Car
namespace Go.Car
open Go Go.RowKit
def zq2y(P:Program)(a:Act)(o:Oper)(W:World)(v:Value)(W':World):Prop:=
 (execOp a.eval o).run P W=.ok (.value v) W'\/∃f args,(execOp a.eval o).run P W=.ok (.enter f args) W/\Calls P f args W λe w'=>e=.returned v/\w'=W'
def chkV(ops:Array Oper)(k n:Nat):Bool:=
 (List.range k).all (λi=>match ops[i]? with
  |some o=>o.guard.isNone&&(match o.dst with|some d=>decide (d<n)|none=>false)&&(match o.op with|.select .. =>false|_=>true)&&
   o.op.operands.all (λx=>match tmpOf x with
    |some t=>(List.range k).all λj=>dstOf ops j !=some t || waits ops i j
    |none=>true)
  |none=>false)&&
 (List.range k).all (λi=>(List.range i).all λj=>dstOf ops i !=dstOf ops j)
section
variable {P:Program} {ops:Array Oper}
theorem zq69{a a':Act}{o:Oper}{W W':World}{v:Value}{K:Act->World->Prop}{Q:Exit->Act->World->Prop}(he:execOp a.eval o=execOp a'.eval o)(h:zq2y P a' o W v W')(hK:K (a.put o.dst v) W'):o.wp P a W K Q:=by
 unfold Oper.wp;rw[he];rcases h with h|⟨f,args,h,hc⟩
 . rw[h];exact hK
 . rw[h];refine Calls.mono hc ?_;rintro e w' ⟨rfl,rfl⟩;exact hK
theorem zqao{id k s:Nat}{Q':Exit->Act->World->Prop}{T₀:Array Value}{ds:List Deferred}{w W0 W1:World}(hm:P.follows .mixedOrders=true)(hback:backB .any ops k=true)(hwait:zq29 .any ops k=true)(hchk:chkV ops k T₀.size=true)(hsk:s<k)
 (vals:List Value) (hlen:vals.length=k) (h0:W0={w with drawn:=w.drawn+1})
 (hread:∀i o,i<k->i≠s->ops[i]?=some o->∀W,W=W0\/W=W1->zq2y P ⟨putv ops vals 0 T₀,[]⟩ o W (vals.getD i undef) W)
 (hone:∀o,ops[s]?=some o->zq2y P ⟨putv ops vals 0 T₀,[]⟩ o W0 (vals.getD s undef) W1)
 (hend:wpAny P .any ops Q' (ops.size - k) (Array.ofFn λi:Fin ops.size=>decide (i.val<k)) ⟨putv ops vals 0 T₀,ds⟩ W1):(Code.region id ops true).wp P Q' ⟨T₀,ds⟩ w:=by
 have hk:k<=ops.size:=by
  have:=hback;unfold backB at this;simp only[Bool.and_eq_true,decide_eq_true_eq]at this;exact this.1
 unfold chkV at hchk;simp only[Bool.and_eq_true,List.all_eq_true,List.mem_range]at hchk;obtain⟨h1,h2⟩:=hchk;have plain:∀i,i<k->∃o d,ops[i]?=some o/\o.guard=none/\o.dst=some d/\dstOf ops i=some d/\d<T₀.size/\(∀cs b,o.op≠.select cs b)/\∀x∈o.op.operands,∀t,tmpOf x=some t->∀j,j<k->dstOf ops j=some t->waits ops i j=true:=λi hi=>by
  have:=h1 i hi;cases ho:ops[i]? with
  |none=>rw[ho]at this;cases this
  |some o=>
   rw[ho]at this;simp only[Bool.and_eq_true]at this;obtain⟨⟨⟨a1,a2⟩,a3⟩,a4⟩:=this;cases hd:o.dst with
   |none=>rw[hd]at a2;cases a2
   |some d=>
    rw[hd]at a2;refine⟨o,d,rfl,Option.isNone_iff_eq_none.1 a1,hd,by unfold dstOf;rw[ho];exact hd,by simpa using a2,(λcs b h=>by rw[h]at a3;cases a3),λx hx t ht j hj hdj=>?_⟩;rw[Array.all_eq_true_iff_forall_mem]at a4;have:=a4 x hx;rw[ht]at this;simp only[List.all_eq_true,List.mem_range]at this;have:=this j hj;simpa[hdj]using this
 have apart:∀(i j:Nat)(d:Tmp),i<k->j<k->dstOf ops i=some d->dstOf ops j=some d->i=j:=λi j d hi hj hd hd'=>by
  rcases Nat.lt_trichotomy i j with h|h|h
  . have:=h2 j hj i h;rw[hd,hd']at this;simp at this
  . exact h
  . have:=h2 i hi j h;rw[hd,hd']at this;simp at this
 have hTs:(putv ops vals 0 T₀).size=T₀.size:=zq4n _ _ _;have final:∀i x,i<k->dstOf ops i=some x->(putv ops vals 0 T₀)[x]?=some (vals.getD i undef):=λi x hi hd=>by
  obtain⟨o,d,ho,_,_,hd',hlt,_⟩:=plain i hi;rw[hd]at hd';obtain rfl:=Option.some.inj hd';refine zq4m vals 0 _ i _ x (by simp[hlen,hi]) (by rw[Nat.zero_add];exact hd) hlt λm a b e=>?_;have:=apart m i x (by omega) hi e hd;omega
 refine zqan hm hback hwait (λL a w'=>a.defers=ds/\a.tmps.size=T₀.size/\(∀t,(∀j,j<k->dstOf ops j≠some t)->a.tmps[t]?=T₀[t]?)/\(∀j t,j<k->dstOf ops j=some t->L.getD j false=true->a.tmps[t]?=(putv ops vals 0 T₀)[t]?)/\w'=if L.getD s false=true then W1 else W0) ?_ ?_ ?_
 . refine⟨rfl,rfl,λ_ _=>rfl,λj t _ _ hl=>?_,?_⟩
   . exfalso;simp[al_gd,Array.getElem?_replicate]at hl;split at hl<;>simp at hl
   . rw[if_neg,h0];intro hl;simp[al_gd,Array.getElem?_replicate]at hl;split at hl<;>simp at hl
 . rintro L a w' i hL hi hun hdep ⟨hd,hsz,hout,hin,hw'⟩;obtain⟨o,d,ho,hg,hdst,hdo,hlt,hsel,hops⟩:=plain i hi;have hun':L.getD i false=false:=by
    have:i<L.size:=by omega
    simp[this]at hun |-;exact hun
   have hex:execOp a.eval o=execOp (Act.mk (putv ops vals 0 T₀) []).eval o:=by
    obtain⟨tm,dd⟩:=a;refine execOp_congr o hsel λx hx=>zq47 λt ht=>?_
    by_cases hxt:∃j,j<k/\dstOf ops j=some t
    . obtain⟨j,hj,hdj⟩:=hxt;obtain⟨oi,hoi,e,he1,he2,he3⟩:=waits_iff.1 (hops x hx t ht j hj hdj);subst he3;exact hin e.on t hj hdj (hdep oi hoi e he1 he2)
    . have hno:∀j,j<k->dstOf ops j≠some t:=λj hj hd=>hxt ⟨j,hj,hd⟩;rw[hout t hno];refine(zq2r vals 0 _ t λj _ hj=>hno j (by omega)).symm
   have hwan:Region.wanted o (yielded ops a.tmps)=true:=by simp[Region.wanted,hg]
   have hnext:∀W',(if(L.setIfInBounds i true).getD s false=true then W1 else W0)=W'->(a.put o.dst (vals.getD i undef)).defers=ds/\(a.put o.dst (vals.getD i undef)).tmps.size=T₀.size/\(∀t,(∀j,j<k->dstOf ops j≠some t)->(a.put o.dst (vals.getD i undef)).tmps[t]?=T₀[t]?)/\
    (∀j t,j<k->dstOf ops j=some t->(L.setIfInBounds i true).getD j false=true->(a.put o.dst (vals.getD i undef)).tmps[t]?=(putv ops vals 0 T₀)[t]?)/\W'=if(L.setIfInBounds i true).getD s false=true then W1 else W0:=by
    intro W' hW;rw[hdst];refine⟨hd,by simp[Act.put,hsz],λt ht=>?_,λj t hj hdj hl=>?_,hW.symm⟩
    . have:d≠t:=λe=>ht i hi (e▸hdo);simp only[Act.put];rw[al_gn this];exact hout t ht
    . by_cases e:d=t
      . subst e;rw[final i d hi hdo];have:d<a.tmps.size:=by rw[hsz];exact hlt
        simp[Act.put,this]
      . simp only[Act.put];rw[al_gn e];have hji:i≠j:=λe2=>by subst e2;rw[hdo]at hdj;exact e (Option.some.inj hdj)
        rw[getD_set_ne false hji]at hl;exact hin j t hj hdj hl
   unfold wpOp;simp only[ho,hwan,if_true];refine .inl ?_
   by_cases his:i=s
   . subst his;rw[hun']at hw';simp only[Bool.false_eq_true,if_false]at hw';subst hw';refine zq69 hex (hone o ho) (hnext W1 ?_);have:i<L.size:=by omega
     simp[this]
   . have hg':(L.setIfInBounds i true).getD s false=L.getD s false:=getD_set_ne false his;refine zq69 hex (hread i o hi his ho w' ?_) (hnext w' ?_)
     . rw[hw'];split
       . exact .inr rfl
       . exact .inl rfl
     . rw[hg'];exact hw'.symm
 . rintro⟨T,dd⟩ w' ⟨hd,hsz,hout,hin,hw'⟩;have hL:∀j,j<k->(Array.ofFn λi:Fin ops.size=>decide (i.val<k)).getD j false=true:=λj hj=>by
    have:j<ops.size:=by omega
    simp[this,hj]
   rw[if_pos (hL s hsk)]at hw';subst hw';simp only at hd hsz hout hin;subst hd;have:T=putv ops vals 0 T₀:=by
    apply Array.ext_getElem?;intro x
    by_cases hx:∃j,j<k/\dstOf ops j=some x
    . obtain⟨j,hj,hdj⟩:=hx;exact hin j x hj hdj (hL j hj)
    . have hno:∀j,j<k->dstOf ops j≠some x:=λj hj hd=>hx ⟨j,hj,hd⟩;rw[hout x hno];exact(zq2r vals 0 _ x λj _ hj=>hno j (by omega)).symm
   rw[this];exact hend
end
section
variable {P:Program} {ops:Array Oper}
theorem zqjw{id k:Nat}{Q':Exit->Act->World->Prop}{T₀:Array Value}{ds:List Deferred}{w W0:World}(hm:P.follows .mixedOrders=true)(hback:backB .any ops k=true)(hwait:zq29 .any ops k=true)(hchk:chkV ops k T₀.size=true)
 (vals:List Value) (hlen:vals.length=k) (h0:W0={w with drawn:=w.drawn+1})
 (WW:Array Bool->World) (hW0:WW (Array.replicate ops.size false)=W0)
 (hstep:∀(L:Array Bool)i o,L.size=ops.size->i<k->L.getD i false=false->ops[i]?=some o->(∀e∈o.after,Region.binds .any e=true->L.getD e.on false=true)->(∀j oj,ops[j]?=some oj->L.getD j false=true->∀e∈oj.after,Region.binds .any e=true->L.getD e.on false=true)->zq2y P ⟨putv ops vals 0 T₀,[]⟩ o (WW L) (vals.getD i undef) (WW (L.setIfInBounds i true)))
 (hend:wpAny P .any ops Q' (ops.size - k) (Array.ofFn λi:Fin ops.size=>decide (i.val<k)) ⟨putv ops vals 0 T₀,ds⟩ (WW (Array.ofFn λi:Fin ops.size=>decide (i.val<k)))):(Code.region id ops true).wp P Q' ⟨T₀,ds⟩ w:=by
 have hk:k<=ops.size:=by
  have:=hback;unfold backB at this;simp only[Bool.and_eq_true,decide_eq_true_eq]at this;exact this.1
 unfold chkV at hchk;simp only[Bool.and_eq_true,List.all_eq_true,List.mem_range]at hchk;obtain⟨h1,h2⟩:=hchk;have plain:∀i,i<k->∃o d,ops[i]?=some o/\o.guard=none/\o.dst=some d/\dstOf ops i=some d/\d<T₀.size/\(∀cs b,o.op≠.select cs b)/\∀x∈o.op.operands,∀t,tmpOf x=some t->∀j,j<k->dstOf ops j=some t->waits ops i j=true:=λi hi=>by
  have:=h1 i hi;cases ho:ops[i]? with
  |none=>rw[ho]at this;cases this
  |some o=>
   rw[ho]at this;simp only[Bool.and_eq_true]at this;obtain⟨⟨⟨a1,a2⟩,a3⟩,a4⟩:=this;cases hd:o.dst with
   |none=>rw[hd]at a2;cases a2
   |some d=>
    rw[hd]at a2;refine⟨o,d,rfl,Option.isNone_iff_eq_none.1 a1,hd,by unfold dstOf;rw[ho];exact hd,by simpa using a2,(λcs b h=>by rw[h]at a3;cases a3),λx hx t ht j hj hdj=>?_⟩;rw[Array.all_eq_true_iff_forall_mem]at a4;have:=a4 x hx;rw[ht]at this;simp only[List.all_eq_true,List.mem_range]at this;have:=this j hj;simpa[hdj]using this
 have apart:∀(i j:Nat)(d:Tmp),i<k->j<k->dstOf ops i=some d->dstOf ops j=some d->i=j:=λi j d hi hj hd hd'=>by
  rcases Nat.lt_trichotomy i j with h|h|h
  . have:=h2 j hj i h;rw[hd,hd']at this;simp at this
  . exact h
  . have:=h2 i hi j h;rw[hd,hd']at this;simp at this
 have hTs:(putv ops vals 0 T₀).size=T₀.size:=zq4n _ _ _;have final:∀i x,i<k->dstOf ops i=some x->(putv ops vals 0 T₀)[x]?=some (vals.getD i undef):=λi x hi hd=>by
  obtain⟨o,d,ho,_,_,hd',hlt,_⟩:=plain i hi;rw[hd]at hd';obtain rfl:=Option.some.inj hd';refine zq4m vals 0 _ i _ x (by simp[hlen,hi]) (by rw[Nat.zero_add];exact hd) hlt λm a b e=>?_;have:=apart m i x (by omega) hi e hd;omega
 refine zqan hm hback hwait (λL a w'=>a.defers=ds/\a.tmps.size=T₀.size/\(∀t,(∀j,j<k->dstOf ops j≠some t)->a.tmps[t]?=T₀[t]?)/\(∀j t,j<k->dstOf ops j=some t->L.getD j false=true->a.tmps[t]?=(putv ops vals 0 T₀)[t]?)/\w'=WW L/\(∀j oj,ops[j]?=some oj->L.getD j false=true->∀e∈oj.after,Region.binds .any e=true->L.getD e.on false=true)) ?_ ?_ ?_
 . refine⟨rfl,rfl,λ_ _=>rfl,λj t _ _ hl=>?_,?_⟩
   . exfalso;simp[al_gd,Array.getElem?_replicate]at hl;split at hl<;>simp at hl
   . refine⟨by rw[hW0,h0],λj oj _ hl=>?_⟩;exfalso;simp[al_gd,Array.getElem?_replicate]at hl;split at hl<;>simp at hl
 . rintro L a w' i hL hi hun hdep ⟨hd,hsz,hout,hin,hw',hcl⟩;obtain⟨o,d,ho,hg,hdst,hdo,hlt,hsel,hops⟩:=plain i hi;have hun':L.getD i false=false:=by
    have:i<L.size:=by omega
    simp[this]at hun |-;exact hun
   have hex:execOp a.eval o=execOp (Act.mk (putv ops vals 0 T₀) []).eval o:=by
    obtain⟨tm,dd⟩:=a;refine execOp_congr o hsel λx hx=>zq47 λt ht=>?_
    by_cases hxt:∃j,j<k/\dstOf ops j=some t
    . obtain⟨j,hj,hdj⟩:=hxt;obtain⟨oi,hoi,e,he1,he2,he3⟩:=waits_iff.1 (hops x hx t ht j hj hdj);subst he3;exact hin e.on t hj hdj (hdep oi hoi e he1 he2)
    . have hno:∀j,j<k->dstOf ops j≠some t:=λj hj hd=>hxt ⟨j,hj,hd⟩;rw[hout t hno];refine(zq2r vals 0 _ t λj _ hj=>hno j (by omega)).symm
   have hwan:Region.wanted o (yielded ops a.tmps)=true:=by simp[Region.wanted,hg]
   have hnext:∀W',WW (L.setIfInBounds i true)=W'->(a.put o.dst (vals.getD i undef)).defers=ds/\(a.put o.dst (vals.getD i undef)).tmps.size=T₀.size/\(∀t,(∀j,j<k->dstOf ops j≠some t)->(a.put o.dst (vals.getD i undef)).tmps[t]?=T₀[t]?)/\
    (∀j t,j<k->dstOf ops j=some t->(L.setIfInBounds i true).getD j false=true->(a.put o.dst (vals.getD i undef)).tmps[t]?=(putv ops vals 0 T₀)[t]?)/\W'=WW (L.setIfInBounds i true)/\(∀j oj,ops[j]?=some oj->(L.setIfInBounds i true).getD j false=true->∀e∈oj.after,Region.binds .any e=true->(L.setIfInBounds i true).getD e.on false=true):=by
    intro W' hW;rw[hdst];refine⟨hd,by simp[Act.put,hsz],λt ht=>?_,λj t hj hdj hl=>?_,hW.symm,λj oj hoj hl e he hb=>?_⟩
    . have:d≠t:=λe=>ht i hi (e▸hdo);simp only[Act.put];rw[al_gn this];exact hout t ht
    . by_cases e:d=t
      . subst e;rw[final i d hi hdo];have:d<a.tmps.size:=by rw[hsz];exact hlt
        simp[Act.put,this]
      . simp only[Act.put];rw[al_gn e];have hji:i≠j:=λe2=>by subst e2;rw[hdo]at hdj;exact e (Option.some.inj hdj)
        rw[getD_set_ne false hji]at hl;exact hin j t hj hdj hl
    . by_cases hji:i=j
      . subst hji;exact getD_set_true (hdep oj hoj e he hb)
      . rw[getD_set_ne false hji]at hl;exact getD_set_true (hcl j oj hoj hl e he hb)
   unfold wpOp;simp only[ho,hwan,if_true];refine .inl ?_;subst hw';exact zq69 hex (hstep L i o hL hi hun' ho (λe he hb=>hdep o ho e he hb) hcl) (hnext _ rfl)
 . rintro⟨T,dd⟩ w' ⟨hd,hsz,hout,hin,hw',_⟩;have hL:∀j,j<k->(Array.ofFn λi:Fin ops.size=>decide (i.val<k)).getD j false=true:=λj hj=>by
    have:j<ops.size:=by omega
    simp[this,hj]
   subst hw';simp only at hd hsz hout hin;subst hd;have:T=putv ops vals 0 T₀:=by
    apply Array.ext_getElem?;intro x
    by_cases hx:∃j,j<k/\dstOf ops j=some x
    . obtain⟨j,hj,hdj⟩:=hx;exact hin j x hj hdj (hL j hj)
    . have hno:∀j,j<k->dstOf ops j≠some x:=λj hj hd=>hx ⟨j,hj,hd⟩;rw[hout x hno];exact(zq2r vals 0 _ x λj _ hj=>hno j (by omega)).symm
   rw[this];exact hend
theorem zqjv{id k s t:Nat}{Q':Exit->Act->World->Prop}{T₀:Array Value}{ds:List Deferred}{w W0 W1 W2:World}(hm:P.follows .mixedOrders=true)(hback:backB .any ops k=true)(hwait:zq29 .any ops k=true)(hchk:chkV ops k T₀.size=true)(hsk:s<k)(htk:t<k)(hst:s≠t)(hts:waits ops t s=true)
 (vals:List Value) (hlen:vals.length=k) (h0:W0={w with drawn:=w.drawn+1})
 (hread:∀i o,i<k->i≠s->i≠t->ops[i]?=some o->∀W,W=W0\/W=W1\/W=W2->zq2y P ⟨putv ops vals 0 T₀,[]⟩ o W (vals.getD i undef) W)
 (hone:∀o,ops[s]?=some o->zq2y P ⟨putv ops vals 0 T₀,[]⟩ o W0 (vals.getD s undef) W1)
 (htwo:∀o,ops[t]?=some o->zq2y P ⟨putv ops vals 0 T₀,[]⟩ o W1 (vals.getD t undef) W2)
 (hend:wpAny P .any ops Q' (ops.size - k) (Array.ofFn λi:Fin ops.size=>decide (i.val<k)) ⟨putv ops vals 0 T₀,ds⟩ W2):(Code.region id ops true).wp P Q' ⟨T₀,ds⟩ w:=by
 have hk:k<=ops.size:=by
  have:=hback;unfold backB at this;simp only[Bool.and_eq_true,decide_eq_true_eq]at this;exact this.1
 have rep:∀j,(Array.replicate ops.size false).getD j false=false:=λj=>by
  simp only[al_gd,Array.getElem?_replicate];split<;>rfl
 have full:∀j,j<k->(Array.ofFn λi:Fin ops.size=>decide (i.val<k)).getD j false=true:=λj hj=>by
  have:j<ops.size:=by omega
  simp[this,hj]
 refine zqjw hm hback hwait hchk vals hlen h0 (λL=>if L.getD t false=true then W2 else if L.getD s false=true then W1 else W0) ?_ ?_ ?_
 . simp only[rep];rfl
 . intro L i o hL hi hun ho hdep hcl;have hiL:i<L.size:=by omega
   by_cases his:i=s
   . subst his;have ht:L.getD t false=false:=by
      cases h:L.getD t false with
      |false=>rfl
      |true=>
       obtain⟨oi,hoi,e,he1,he2,he3⟩:=waits_iff.1 hts;have:=hcl t oi hoi h e he1 he2;rw[he3,hun]at this;cases this
     have e1:(L.setIfInBounds i true).getD t false=L.getD t false:=getD_set_ne false hst;have e2:(L.setIfInBounds i true).getD i false=true:=by simp[hiL]
     simp only[e1,e2,ht,hun];exact hone o ho
   . by_cases hit:i=t
     . subst hit;have hs:L.getD s false=true:=by
        obtain⟨oi,hoi,e,he1,he2,he3⟩:=waits_iff.1 hts;rw[ho]at hoi;obtain rfl:=Option.some.inj hoi;rw[<-he3];exact hdep e he1 he2
       have e2:(L.setIfInBounds i true).getD i false=true:=by simp[hiL]
       simp only[e2,hs,hun];exact htwo o ho
     . have e1:(L.setIfInBounds i true).getD t false=L.getD t false:=getD_set_ne false hit;have e2:(L.setIfInBounds i true).getD s false=L.getD s false:=getD_set_ne false his;simp only[e1,e2];refine hread i o hi his hit ho _ ?_;split
       . exact .inr (.inr rfl)
       . split
         . exact .inr (.inl rfl)
         . exact .inl rfl
 . simp only[full t htk,full s hsk];exact hend
end
end Go.Car
namespace Go.Car
open Go Go.Conc Go.RowKit
structure TM(Ml S:Type)where
 bm:BM Ml
 at':Nat->Tree S Unit
 room:Nat
section
variable {Ml S:Type}
structure Came{O:Type}(C:Core Ml S)(own:Nat->S->O)(i:Nat)(r:S×Tree S Unit)(m:TM Ml S)(room:Nat)(o:Out (TM Ml S)):Prop where
 st:C.st o.mem.bm.l=r.1
 here:o.mem.at' i=r.2
 others:∀j,j≠i->o.mem.at' j=m.at' j/\o.mem.bm.box j=m.bm.box j
 room:o.mem.room=room
 oth:∀j,j≠i->own j r.1=own j (C.st m.bm.l)
 out:match r.2 with
  |.ret _=>o=.done o.mem
  |.step _ _=>o=.yield o.mem
  |.out=>False
def thrOf{O:Type}(C:Core Ml S)(own:Nat->S->O)(ro:Nat->Option Obj)(pr:Nat->Proc S Unit):Thr (TM Ml S) where
 foot m b:=m.bm.foot C ro b
 Rep m w:=BRep C ro m.bm w/\∀i,(m.at' i).Deep (m.room+1)
 Start i m o:=Came C own i (pr i (C.st m.bm.l)) m m.room o
 Go i m o:=∃u k,m.at' i=.step u k/\Came C own i (u (C.st m.bm.l),k (C.st m.bm.l)) m (m.room - 1) o
 Kill i m m':=C.st m'.bm.l=C.st m.bm.l/\m'.at'=m.at'/\m'.bm.box=m.bm.box/\m'.room=m.room - 1
 Same i m m':=m'.at' i=m.at' i/\m'.bm.box i=m.bm.box i/\m'.room<=m.room/\own i (C.st m'.bm.l)=own i (C.st m.bm.l)
 left m:=m.room
 frame m w w' h hs:=⟨h.1.frame hs,h.2⟩
 lt m w b h hb:=h.1.lt hb
 refl i m:=⟨rfl,rfl,Nat.le_refl _,rfl⟩
 trans i a b c h k:=⟨k.1.trans h.1,k.2.1.trans h.2.1,Nat.le_trans k.2.2.1 h.2.2.1,k.2.2.2.trans h.2.2.2⟩
 start_same i j m o hij h:=⟨(h.others i hij).1,(h.others i hij).2,by rw[h.room];exact Nat.le_refl _,by rw[h.st];exact h.oth i hij⟩
 go_same i j m o hij h:=by
  obtain⟨u,k,_,h⟩:=h;exact⟨(h.others i hij).1,(h.others i hij).2,by rw[h.room];omega,by rw[h.st];exact h.oth i hij⟩
 kill_same i j m m' hij h:=⟨by rw[h.2.1],by rw[h.2.2.1],by rw[h.2.2.2];omega,by rw[h.1]⟩
structure Turn(P:Program)(Ml S:Type)where
 Kc:Addr->Option Value
 X:Snap
 J:Goroutine->World->Prop
 js:JX P Kc J
 m₀:TM Ml S
 w₀:World
 R:TM Ml S->Out (TM Ml S)->Prop
 room:Nat
 k:Nat
section
variable {P:Program} {A:FuncId->Bool} {O:Type} {own:Nat->S->O} {C:Core Ml S} {ro:Nat->Option Obj} {pr:Nat->Proc S Unit} {fStep:FuncId} {sx:Value} {cr:Frame} {rest:List Frame} {NE EN:List PanicEntry->Prop} {i:Nat}
structure TurnAt{O:Type}(P:Program)(C:Core Ml S)(own:Nat->S->O)(ro:Nat->Option Obj)(pr:Nat->Proc S Unit)(fStep:FuncId)(sx:Value)(cr:Frame)(rest:List Frame)(NE EN:List PanicEntry->Prop)(i:Nat)(s:Turn P Ml S)(m:BM Ml)(w:World)(r:S×Tree S Unit):Prop where
 env:Env P (thrOf C own ro pr) s.Kc s.X s.J s.m₀ s.w₀
 conts:Conts P (thrOf C own ro pr) fStep sx cr rest NE (Susp P (thrOf C own ro pr) fStep sx cr rest NE EN i s.k) s.R s.room s.J s.m₀ s.w₀
 grow:Grow (thrOf C own ro pr) s.m₀ s.w₀ ⟨m,s.m₀.at',s.room⟩ w
 rep:BRep C ro m w
 deep:∀j,(s.m₀.at' j).Deep (s.room+1)
 deepr:r.2.Deep (s.room+1)
 others:∀j,j≠i->m.box j=s.m₀.bm.box j
 oth:∀j,j≠i->own j (C.st m.l)=own j (C.st s.m₀.bm.l)
 come:∀o,Came C own i r s.m₀ s.room o->s.R s.m₀ o
theorem TurnAt.rows_none {s:Turn P Ml S}{m:BM Ml}{w:World}{r:S×Tree S Unit}(h:TurnAt P C own ro pr fStep sx cr rest NE EN i s m w r){b:Nat}(hb:m.foot C ro b):s.X b=none:=by
 have hE:=h.env.grow h.grow;cases hx:s.X b with
 |none=>rfl
 |some p=>exact absurd hb (hE.free b p hx)
theorem TurnAt.cut {s:Turn P Ml S}{m:BM Ml}{w:World}{r:S×Tree S Unit}(h:TurnAt P C own ro pr fStep sx cr rest NE EN i s m w r){wc:World}(hcut:∃τ d,Cut s.X (re w τ d) wc):BRep C ro m wc:=by
 obtain⟨τ,d,hcut⟩:=hcut;exact h.rep.frame λb hb=>hcut.no b (h.rows_none hb)
theorem TurnAt.moved {s:Turn P Ml S}{m:BM Ml}{w:World}{r:S×Tree S Unit}(h:TurnAt P C own ro pr fStep sx cr rest NE EN i s m w r){wc wc' w':World}{l':Ml}{B':Nat->Option Obj}(hcut:∃τ d,Cut s.X (re w τ d) wc)(k:Moved C m.l (m.box i) wc l' B' wc')(hcut':Cut s.X w' wc'):Moved C m.l (m.box i) w l' B' w':=by
 obtain⟨τ,d,hcut⟩:=hcut;have hE:=h.env.grow h.grow;have hs1:wc.heap.size=w.heap.size:=hcut.size;have hs2:wc'.heap.size=w'.heap.size:=hcut'.size;have lt:∀b x,s.X b=some x->b<w.heap.size:=λb x hx=>by obtain⟨c,e⟩:=x;exact zqt (hE.rows b c e hx)
 have hnew:∀b,w.heap.size<=b->s.X b=none:=λb hb=>by
  cases hx:s.X b with
  |none=>rfl
  |some p=>exact absurd (lt b p hx) (Nat.not_lt_of_le hb)
 have hX:∀b,(m.foot C ro b\/wc.heap.size<=b)->s.X b=none:=λb hb=>hb.elim h.rows_none λhb=>hnew b (by omega);have gl:∀b,C.foot l' b->s.X b=none:=λb hb=>hX b ((k.growl b hb).elim (λx=>.inl (.inl x)) (λx=>x.elim (λy=>.inl (.inr (.inl ⟨i,y⟩))) .inr));have gb:∀b,B' b≠none->s.X b=none:=λb hb=>hX b ((k.growb b hb).imp (λx=>.inr (.inl ⟨i,x⟩)) id);refine⟨by have:=k.size;omega,λb hb h1 h2=>?_,C.frame _ _ _ k.rep λb hb=>(hcut'.no b (gl b hb)).symm,λb o hb=>?_,λb hb=>(k.growl b hb).imp id (λx=>x.imp id λx=>by omega),λb hb=>(k.growb b hb).imp id (λx=>by omega),k.apart,k.pin⟩
 . have hold:=k.old b (by omega) h1 h2;cases hx:s.X b with
   |none=>rw[<-hcut'.no b hx,hold];exact hcut.no b hx
   |some p=>
    obtain⟨c,e⟩:=p;rw[(hcut'.is b c e hx).1];exact((hcut.is b c e hx).1).symm
 . rw[<-hcut'.no b (gb b (by rw[hb];simp))];exact k.box b o hb
theorem TurnAt.done {s:Turn P Ml S}{m:BM Ml}{w w':World}{r:S×Tree S Unit}{l':Ml}{B':Nat->Option Obj}(h:TurnAt P C own ro pr fStep sx cr rest NE EN i s m w r)(k:Moved C m.l (m.box i) w l' B' w')(ho:∀j,j≠i->own j (C.st l')=own j (C.st m.l)):TurnAt P C own ro pr fStep sx cr rest NE EN i s (m.put i l' B') w' r:=
 ⟨h.env,h.conts,h.grow.trans ⟨k.size,Moved.foot_old h.rep k,k.foot_grow⟩,k.done h.rep,h.deep,h.deepr,λj hj=>(BM.put_other _ _ _ hj).trans (h.others j hj),λj hj=>(ho j hj).trans (h.oth j hj),h.come⟩
def zq4v{O:Type}(hP:Plain P A)(hRS:RowsS P A)(C:Core Ml S)(own:Nat->S->O)(ro:Nat->Option Obj)(pr:Nat->Proc S Unit)(fStep:FuncId)(sx:Value)(cr:Frame)(rest:List Frame)(NE EN:List PanicEntry->Prop)(i:Nat):Alone P A C ro i Unit where
 main:=false
 γ:=Turn P Ml S
 J s:=s.J
 js s:=⟨s.Kc,s.js⟩
 AtE:=TurnAt P C own ro pr fStep sx cr rest NE EN i
 Dead s ch w:=s.J (G (cr.raise ch) rest) w
 Oth a b:=∀j,j≠i->own j b=own j a
 oth _ _ _:=rfl
 rep h:=h.rep
 move h k ho:=h.done k ho
 item {s m w r it t ds} Φ Ψ h hok hw:=by
  have hE:=h.env.grow h.grow;intro b k cs hb hk;refine wpI_away (J:=λ(_:Unit)=>s.J) (s:=()) (main:=false) (Kc:=s.Kc) (X:=s.X) (A:=A) (a:=⟨t,ds⟩) (w:=w)
   (Q:=λ_ e a w'=>a.defers=ds/\∃l' B',((e=.normal/\Φ a.tmps l' B')\/(e=.ret/\Ψ a.tmps l' B'))/\TurnAt P C own ro pr fStep sx cr rest NE EN i s (m.put i l' B') w' r) hE.js hE.calm hP hRS hok
   (λa w'=>∃wc,(∃τ d,Cut s.X (re w τ d) wc)/\∃l' B',(Moved C m.l (m.box i) wc l' B' w'/\∀j,j≠i->own j (C.st l')=own j (C.st m.l))/\Φ a.tmps l' B') (λa w'=>∃wc,(∃τ d,Cut s.X (re w τ d) wc)/\∃l' B',(Moved C m.l (m.box i) wc l' B' w'/\∀j,j≠i->own j (C.st l')=own j (C.st m.l))/\Ψ a.tmps l' B')
   (λa w' τ d⟨wc,h1,l',B',h2,h3⟩=>⟨wc,h1,l',B',⟨h2.1.re τ d,h2.2⟩,h3⟩) (λa w' τ d⟨wc,h1,l',B',h2,h3⟩=>⟨wc,h1,l',B',⟨h2.1.re τ d,h2.2⟩,h3⟩) hE.rows ?_ ?_ ?_ b k cs hb ?_
  . intro wc hc;refine zq2x (hw wc (h.cut hc) (by obtain⟨τ,d,hc⟩:=hc;exact hc.size)) ?_;intro e a w' q;cases e with
    |normal=>exact⟨q.1,wc,hc,q.2⟩
    |ret=>exact⟨q.1,wc,hc,q.2⟩
    |_=>exact q
  . rintro t' wc' w' ⟨wc,hc,l',B',h2,h3⟩ hc' _;exact⟨rfl,l',B',.inl ⟨rfl,h3⟩,h.done (h.moved hc h2.1 hc') h2.2⟩
  . rintro t' wc' w' ⟨wc,hc,l',B',h2,h3⟩ hc' _;exact⟨rfl,l',B',.inr ⟨rfl,h3⟩,h.done (h.moved hc h2.1 hc') h2.2⟩
  . rintro _ e a w' ⟨h1,l',B',h2,h3⟩;have:=hk s e a w' ⟨rfl,h1,l',B',h2,h3⟩;cases e<;>exact this
 call {s m w r f fn c args} R h hf hb hok hw:=by
  have hE:=h.env.grow h.grow;intro cl cs h1 h2;refine zqaz (J:=λ(_:Unit)=>s.J) (s:=()) (main:=false) (Kc:=s.Kc) (X:=s.X) (A:=A) (w:=w) hE.js hE.calm hP hRS hf hb hok (R:=λv w'=>∃wc,(∃τ d,Cut s.X (re w τ d) wc)/\∃l' B',(Moved C m.l (m.box i) wc l' B' w'/\∀j,j≠i->own j (C.st l')=own j (C.st m.l))/\R v l' B')
   (λv w' τ d⟨wc,h1,l',B',h2,h3⟩=>⟨wc,h1,l',B',⟨h2.1.re τ d,h2.2⟩,h3⟩) hE.rows ?_ (Post:=λ_ e w'=>∃v l' B',e=.returned v/\R v l' B'/\TurnAt P C own ro pr fStep sx cr rest NE EN i s (m.put i l' B') w' r) ?_ cl cs ?_ ?_
  . intro wc hc;refine Calls.mono (hw wc (h.cut hc) (by obtain⟨τ,d,hc⟩:=hc;exact hc.size)) ?_;intro e w' q;cases e with
    |returned v=>exact⟨wc,hc,q⟩
    |_=>exact q
  . rintro v wc' w' ⟨wc,hc,l',B',k1,k2⟩ hc' _;exact⟨v,l',B',rfl,k2,h.done (h.moved hc k1.1 hc') k1.2⟩
  . rintro _ v w' hp;exact h1 s v w' ⟨rfl,hp⟩
  . rintro _ ch w' ⟨v,l',B',k1,_⟩;cases k1
abbrev zq2v(hP:Plain P A)(hRS:RowsS P A)(C:Core Ml S)(own:Nat->S->O)(ro:Nat->Option Obj)(pr:Nat->Proc S Unit)(fStep:FuncId)(sx:Value)(cr:Frame)(rest:List Frame)(NE EN:List PanicEntry->Prop)(i:Nat)(o:O):YSys P A C ro i Unit:=(zq4v hP hRS C own ro pr fStep sx cr rest NE EN i).sys (λs=>own i s=o)
theorem thr_step(hP:Plain P A)(hRS:RowsS P A)(o:O):StepY (zq2v hP hRS C own ro pr fStep sx cr rest NE EN i o) fStep #[sx]:=by
 rintro K s m w ⟨h,hI⟩ cl cs h1 h2;have hE:=h.env.grow h.grow
 let m':TM Ml S:=⟨m,λj=>if j=i then(Proc.tick.bind K (C.st m.l)).2 else s.m₀.at' j,s.room⟩
 have hm':m'.at' i=(Proc.tick.bind K (C.st m.l)).2:=by simp[m']
 have hmo:∀j,j≠i->m'.at' j=s.m₀.at' j:=λj hj=>by simp[m',hj]
 refine h.conts.yield m' cl cs w (h.come _ ⟨rfl,hm',λj hj=>⟨hmo j hj,h.others j hj⟩,rfl,λj hj=>h.oth j hj,rfl⟩) ⟨h.grow.size,h.grow.old,h.grow.grow⟩ ⟨h.rep,λj=>?_⟩ (Nat.le_refl _) ?_
 . show(m'.at' j).Deep (s.room+1)
   by_cases hj:j=i
   . subst hj;rw[hm'];exact h.deepr
   . rw[hmo j hj];exact h.deep j
 . cases hk:s.k with
   |zero=>trivial
   |succ k=>
    intro Kc' X' J' m1 w1 hE1 hSame hRep hleft;obtain⟨hsa,hsb,hsr,hso⟩:=hSame;have hleft':0<m1.room:=hleft;have hat:m1.at' i=(Proc.tick.bind K (C.st m.l)).2:=hsa.trans hm'
    let s':Turn P Ml S:=⟨Kc',X',J',hE1.js,m1,w1,(thrOf C own ro pr).Go i,m1.room - 1,k⟩
    constructor
    . intro hC;refine h1 s' (.tuple #[]) w1 ⟨(),m1.bm,rfl,hsb,?_,hso.trans hI⟩;have hd:=hRep.2 i;rw[hat]at hd;refine⟨hE1,hC,⟨Nat.le_refl _,λ_ _ _=>rfl,λ_ h=>.inl h⟩,hRep.1,λj=>?_,?_,λ_ _=>rfl,λ_ _=>rfl,λo ho=>?_⟩
      . exact Tree.Deep.less (by show m1.room - 1+1<=m1.room+1;omega) (hRep.2 j)
      . have:=hd (C.st m1.bm.l);exact Tree.Deep.less (by show m1.room - 1+1<=m1.room;omega) this
      . exact⟨_,_,hat,ho⟩
    . intro ch hch hmain;refine h2 s' ch w1 ?_;refine hmain ⟨m1.bm,m1.at',m1.room - 1⟩ ch w1 hch ⟨rfl,rfl,rfl,rfl⟩ ⟨Nat.le_refl _,λ_ _ _=>rfl,λ_ h=>.inl h⟩ ⟨hRep.1,λj=>?_⟩ (Nat.le_refl _);exact Tree.Deep.less (by show m1.room - 1+1<=m1.room+1;omega) (hRep.2 j)
theorem thr_runs(hP:Plain P A)(hRS:RowsS P A){ti:TypeId}{m₀:TM Ml S}{f:FuncId}{first caps:Array Value}{fn:Func}{c:Code}(hf:P.funcs[f]?=some fn)(hb:fn.body=some c)(hn:(fn.name== "runtime.NumGoroutine")=false)(hpd:∀n,(pr i).Deep n)
 (hspec:∀(st:Nat)(cr:Frame)(rest:List Frame)(EN:List PanicEntry->Prop)(s:Turn P Ml S)(m:BM Ml)(w:World),TurnAt P C own ro pr fStep (.pointer (some ⟨st,0,none⟩)) cr rest NE EN i s m w ((pr i).bind Proc.ret (C.st m.l))->own i (C.st m.l)=own i (C.st m₀.bm.l)->
  zq1b P (λ(s:Turn P Ml S)=>s.J) f (first++#[.iface ti (.pointer (some ⟨st,0,none⟩))]++caps) (λs e w=>match e with
   |.returned _=>∃m',TurnAt P C own ro pr fStep (.pointer (some ⟨st,0,none⟩)) cr rest NE EN i s m' w (C.st m'.l,.ret ())
   |.panicked ch=>s.J (G (cr.raise ch) rest) w
   |.outgrown=>False) s w):
 Runs P (thrOf C own ro pr) fStep ti NE m₀ i (.func (.func f) first caps):=by
 refine .inr ⟨f,first,caps,fn,c,rfl,hf,hb,hn,?_⟩;intro cr rest st EN k Kc X J m w hE hRep hSame hC
 let s:Turn P Ml S:=⟨Kc,X,J,hE.js,m,w,(thrOf C own ro pr).Start i,m.room,k⟩
 have hAt:TurnAt P C own ro pr fStep (.pointer (some ⟨st,0,none⟩)) cr rest NE EN i s m.bm w ((pr i).bind Proc.ret (C.st m.bm.l)):=by
  rw[Proc.bind_pure];exact⟨hE,hC,⟨Nat.le_refl _,λ_ _ _=>rfl,λ_ h=>.inl h⟩,hRep.1,hRep.2,hpd _ _,λ_ _=>rfl,λ_ _=>rfl,λo ho=>ho⟩
 refine hspec st cr rest EN s m.bm w hAt hSame.2.2.2 cr rest ?_ ?_
 . rintro s' v w' ⟨m',hA'⟩
   let m'':TM Ml S:=⟨m',λj=>if j=i then .ret ()else s'.m₀.at' j,s'.room⟩
   have hm':m''.at' i=.ret ():=by simp[m'']
   have hmo:∀j,j≠i->m''.at' j=s'.m₀.at' j:=λj hj=>by simp[m'',hj]
   refine hA'.conts.done m'' _ w' (hA'.come _ ⟨rfl,hm',λj hj=>⟨hmo j hj,hA'.others j hj⟩,rfl,λj hj=>hA'.oth j hj,rfl⟩) ⟨hA'.grow.size,hA'.grow.old,hA'.grow.grow⟩ ⟨hA'.rep,λj=>?_⟩ (Nat.le_refl _);show(m''.at' j).Deep (s'.room+1)
   by_cases hj:j=i
   . subst hj;rw[hm'];trivial
   . rw[hmo j hj];exact hA'.deep j
 . intro s' ch w' hD;exact hD
end
end
end Go.Car
namespace Go.Proofs
open Go Go.Conc Go.RowKit Go.Car
@[go_sem] theorem neq_do (f : Fn) (a b : Array Value) (w : World) : (binOp .neq 109 (.func f a b) .nilFunc).run Try.prog w = .ok (.bool true) w := by rfl
def tT:AnsT:=⟨49,47,2⟩
def ownA{S1:Type}(i:Nat)(s:S1×(Nat->List Ans)):List Ans:=s.2 i
structure DoRo(ro:Nat->Option Obj)(i N ab ob db ib hb:Nat)(sp:Option Addr)(L Cp:Nat)(ops:List OpX)(f:FuncId)(first caps:Array Value):Prop where
 ob:ro ob=some (.cells #[.slice sp L Cp] 32)
 db:ro db=some (.cells #[.func (.func f) first caps] 109)
 ib:ro ib=some (.cells #[.int .i64 i] 3)
 hb:ro hb=some (.cells #[.slice (some ⟨ab,0,none⟩) N N] 26)
 len:ops.length=L
 le:L<=65536
 lt:i<N
 leN:N<=64
 ops:∀(k:Nat)(op:OpX),ops[k]?=some op->∃g off cur e fr,sp=some ⟨g,off,none⟩/\ro g=some (.cells cur e fr)/\∀j,j<4->cur[off+k*4+j]?=op.cells[j]?
section
variable {M1 S1:Type} {C:Core M1 S1} {ro:Nat->Option Obj} {i N ab ob db ib hb:Nat} {sp:Option Addr} {L Cp:Nat} {ops:List OpX} {f:FuncId} {first caps:Array Value} {A:FuncId->Bool} {pr:Nat->Proc (S1×(Nat->List Ans)) Unit} {fStep:FuncId} {sv sx:Value} {cr:Frame} {rest:List Frame} {NE EN:List PanicEntry->Prop} {dop:OpX->Proc (S1×(Nat->List Ans)) Ans}
theorem zqbe(hP:Plain Try.prog A)(hRS:RowsS Try.prog A){fn:Func}{c:Code}(hf:Try.prog.funcs[f]?=some fn)(hb':fn.body=some c)(hnm:(fn.name== "runtime.NumGoroutine")=false)(hR:DoRo ro i N ab ob db ib hb sp L Cp ops f first caps)
 (hdo:∀(o:List Ans)(op:OpX),SpecR (zq2v hP hRS (zqi C (zqs tT ab N)) ownA ro pr fStep sx cr rest NE EN i o) f (first++#[sv,.int .i64 i,op.val]++caps) (dop op) (AnsV 2))
 (s:Turn Try.prog (M1×AnsM) (S1×(Nat->List Ans))) (m:BM (M1×AnsM)) (w:World) (hA:TurnAt Try.prog (zqi C (zqs tT ab N)) ownA ro pr fStep sx cr rest NE EN i s m w ((opsP i dop ops).bind Proc.ret ((zqi C (zqs tT ab N)).st m.l))) (ho:ownA i ((zqi C (zqs tT ab N)).st m.l)=[]):
 zq1b Try.prog (λ(s:Turn Try.prog (M1×AnsM) (S1×(Nat->List Ans)))=>s.J) 84 #[sv,.pointer (some ⟨ob,0,none⟩),.pointer (some ⟨db,0,none⟩),.pointer (some ⟨ib,0,none⟩),.pointer (some ⟨hb,0,none⟩)] (λs e w=>match e with
  |.returned _=>∃m',TurnAt Try.prog (zqi C (zqs tT ab N)) ownA ro pr fStep sx cr rest NE EN i s m' w ((zqi C (zqs tT ab N)).st m'.l,.ret ())
  |.panicked ch=>s.J (G (cr.raise ch) rest) w
  |.outgrown=>False) s w:=by
 have hJC:JC Try.prog false (λ(s:Turn Try.prog (M1×AnsM) (S1×(Nat->List Ans)))=>s.J):=((zq4v hP hRS (zqi C (zqs tT ab N)) ownA ro pr fStep sx cr rest NE EN i).sys (λ_=>True)).jc;refine zq6l (Bd:=λs a w=>a.defers=[]/\∃m',TurnAt Try.prog (zqi C (zqs tT ab N)) ownA ro pr fStep sx cr rest NE EN i s m' w ((zqi C (zqs tT ab N)).st m'.l,.ret ())) hJC Try.func84 rfl ?_ ?_
 . rintro s a w b cl cs todo ⟨hd,m',h⟩ hbf hbk hp;exact hJC.ctl (λw=>stepG_leave hbk hd (by rw[hbf];exact Try.func84) (resultsC_none rfl _ w).1 (resultsC_none rfl _ w).2) (hp _ _ _ ⟨m',h⟩)
 simp only[zqg,Try.ntmps84,List.size_toArray,List.length_cons,List.length_nil,Nat.reduceAdd,Nat.reduceSub,Array.replicate_succ,Array.replicate_zero,List.push_toArray,List.append_toArray,List.nil_append,List.cons_append];have HR:=Lib.hid hR;have HDO:=Lib.hid hdo;have HFN:=Lib.hid (And.intro hf (And.intro hb' hnm));have hA:(zq4v hP hRS (zqi C (zqs tT ab N)) ownA ro pr fStep sx cr rest NE EN i).sys (λs=>ownA i s=[]) |>.AtB (m.box i) s w ((opsP i dop ops).bind Proc.ret):=⟨m,rfl,hA,ho⟩
 clear hR hdo hf hb' hnm ho;apply YSys.seq0 hA (by kernel_rfl)
 . intro wc hB;have c1:wc.cell? ⟨ob,0,none⟩=some (.slice sp L Cp):=(zq0 (hB.own.rod ob _ HR.out.ob)).trans rfl;go_wp2;exact⟨rfl,Ext1.refl _,rfl⟩
 intro w hA;refine zq2l hJC (zqam hJC (λs a w n=>∃(k:Nat)(o:List Ans)(B:Nat->Option Obj)(x5 x6 x7 x8 x12 x13 x14 x15 x16 x17 x18 x19 x20 x21 x22 x23 x24 x25 x26 x27 x28 x29 x30 x31 x32:Value),k+n=L/\o.length=k/\a=⟨#[sv,.pointer (some ⟨ob,0,none⟩),.pointer (some ⟨db,0,none⟩),.pointer (some ⟨ib,0,none⟩),.pointer (some ⟨hb,0,none⟩),x5,x6,x7,x8,.slice sp L Cp,.int .i64 L,.int .i64 k,x12,x13,x14,x15,x16,x17,x18,x19,x20,x21,x22,x23,x24,x25,x26,x27,x28,x29,x30,x31,x32],[]⟩/\(zq2v hP hRS (zqi C (zqs tT ab N)) ownA ro pr fStep sx cr rest NE EN i o).AtB B s w ((opsP i dop (ops.drop k)).bind Proc.ret)) L ?_ ?_)
 . exact⟨0,[],_,_,_,_,_,_,_,_,_,_,_,_,_,_,_,_,_,_,_,_,_,_,_,_,_,_,by omega,rfl,rfl,hA⟩
 clear hA;rintro s a w n ⟨k,o,B,x5,x6,x7,x8,x12,x13,x14,x15,x16,x17,x18,x19,x20,x21,x22,x23,x24,x25,x26,x27,x28,x29,x30,x31,x32,hkn,hok,rfl,hA⟩;have HK:=Lib.hid hkn;have HO:=Lib.hid hok;clear hkn hok;cases n with
 |zero=>
  apply YSys.seq0 hA (by kernel_rfl)
  . intro wc hB;go_wp2;exact⟨rfl,Ext1.refl _,rfl⟩
  intro w hA;refine zqj hJC (zqr hJC rfl ?_);rw[if_neg (by have:=HK.out;simp only[decide_eq_true_eq];omega)];refine zq68 hJC ?_;obtain⟨m',_,hA',_⟩:=hA;have e:ops.drop k=[]:=List.drop_eq_nil_of_le (by have:=HR.out.len;have:=HK.out;omega);rw[e]at hA';exact⟨rfl,m',hA'⟩
 |succ n=>
  have hk:(k:Int)<(L:Int):=by have:=HK.out;omega
  have hk0:(0:Int)<=(k:Int):=by omega
  have e1:IntKind.i64.wrap ((k:Int)+1)=((k+1:Nat):Int):=by have:=HR.out.le;rw[IntWalk.i64_in _ (by omega)];omega
  have hkl:k<ops.length:=by have:=HR.out.len;have:=HK.out;omega
  obtain⟨op,hop⟩:∃op,ops[k]?=some op:=⟨_,List.getElem?_eq_getElem hkl⟩;obtain⟨g,off,cur,e,fr,hsp,hg,hcur⟩:=HR.out.ops k op hop;have hdrop:ops.drop k=op::ops.drop (k+1):=by rw[List.drop_eq_getElem_cons hkl,(List.getElem?_eq_some_iff.1 hop).2]
  rw[hdrop,opsP]at hA;rw[Proc.bind_bind]at hA;have HG:=Lib.hid (And.intro hsp (And.intro hg hcur));clear hsp hg hcur hop hkl hdrop;apply YSys.seq0 hA (by kernel_rfl)
  . intro wc hB;go_wp2;exact⟨rfl,Ext1.refl _,rfl⟩
  intro w hA;refine zqj hJC (zqr hJC rfl (zq1i hJC ?_));show wpJ (λ(s:Turn Try.prog (M1×AnsM) (S1×(Nat->List Ans)))=>s.J) _ _ _ _ _;refine zqj hJC (zq2l hJC ?_);refine YSys.seqX (λt B'=>∃(b7:Nat)(y5 y6 y8 y12 y13 y14 y15 y16 y17 y18 y19 y20 y21 y22 y23 y24 y25 y26 y27 y28 y29 y30 y31 y32:Value),t=#[sv,.pointer (some ⟨ob,0,none⟩),.pointer (some ⟨db,0,none⟩),.pointer (some ⟨ib,0,none⟩),.pointer (some ⟨hb,0,none⟩),y5,y6,.pointer (some ⟨b7,0,none⟩),y8,.slice sp L Cp,.int .i64 L,.int .i64 k,y12,y13,y14,y15,y16,y17,y18,y19,y20,y21,y22,y23,y24,y25,y26,y27,y28,y29,y30,y31,y32]/\B b7=none/\B'=upB B b7 (.cells op.cells.toArray 34)) hA (by kernel_rfl) ?_ ?_
  . intro wc hB X0 hX0;have HX0:=Lib.hid hX0;clear hX0;have hm:=OMoved.push (o:=.cells op.cells.toArray 34) hB.own (Ext1.alloc wc (.cells op.cells.toArray 34)) (Nat.le_refl _) (by rw[zqd];simp);have hf:=hB.own.fresh (Nat.le_refl _);have HM:=Lib.hid (And.intro hm hf);clear hm hf;have hgw:=hB.own.rod g _ HG.out.2.1;have hc0:wc.cell? ⟨g,off+k*4,none⟩=some (.int .i64 op.k):=(zq0 hgw).trans (HG.out.2.2 0 (by decide));have hc1:wc.cell? ⟨g,off+k*4+1,none⟩=some (.int .i64 op.a):=(zq0 hgw).trans (HG.out.2.2 1 (by decide));have hc2:wc.cell? ⟨g,off+k*4+2,none⟩=some (.int .i64 op.b):=(zq0 hgw).trans (HG.out.2.2 2 (by decide));have hc3:wc.cell? ⟨g,off+k*4+3,none⟩=some (.int .i64 op.c):=(zq0 hgw).trans (HG.out.2.2 3 (by decide));clear hgw;rw[HG.out.1];go_wp2;rw[<-HG.out.1];exact⟨rfl,HX0.out _ _ _ HM.out.1 ⟨_,_,_,_,_,_,_,_,_,_,_,_,_,_,_,_,_,_,_,_,_,_,_,_,_,rfl,HM.out.2,rfl⟩⟩
  clear hA;rintro _ _ w ⟨b7,y5,y6,y8,y12,y13,y14,y15,y16,y17,y18,y19,y20,y21,y22,y23,y24,y25,y26,y27,y28,y29,y30,y31,y32,rfl,hb7,rfl⟩ hA;refine YSys.seqX (λt B'=>∃(b8:Nat)(z5 z6 z12 z13 z14 z15 z16 z17 z18 z19 z20 z21 z22 z23 z24 z25 z26 z27 z28 z29 z30 z31 z32:Value),t=#[sv,.pointer (some ⟨ob,0,none⟩),.pointer (some ⟨db,0,none⟩),.pointer (some ⟨ib,0,none⟩),.pointer (some ⟨hb,0,none⟩),z5,z6,.pointer (some ⟨b7,0,none⟩),.pointer (some ⟨b8,0,none⟩),.slice sp L Cp,.int .i64 L,.int .i64 k,z12,z13,z14,z15,z16,z17,z18,z19,z20,z21,z22,z23,z24,z25,z26,z27,z28,z29,z30,z31,z32]/\upB B b7 (.cells op.cells.toArray 34) b8=none/\B'=upB (upB B b7 (.cells op.cells.toArray 34)) b8 (.cells #[.bool false,.int .i64 0,.slice none 0 0] 49)) hA (by kernel_rfl) ?_ ?_
  . intro wc hB X0 hX0;have HX0:=Lib.hid hX0;clear hX0;have hm:=OMoved.push (o:=.cells #[.bool false,.int .i64 0,.slice none 0 0] 49) hB.own (Ext1.alloc wc (.cells #[.bool false,.int .i64 0,.slice none 0 0] 49)) (Nat.le_refl _) (by rw[zqd];simp);have hf:=hB.own.fresh (Nat.le_refl _);have HM:=Lib.hid (And.intro hm hf);clear hm hf;go_wp2;exact⟨rfl,HX0.out _ _ _ HM.out.1 ⟨_,_,_,_,_,_,_,_,_,_,_,_,_,_,_,_,_,_,_,_,_,_,_,_,rfl,HM.out.2,rfl⟩⟩
  clear hA;rintro _ _ w ⟨b8,z5,z6,z12,z13,z14,z15,z16,z17,z18,z19,z20,z21,z22,z23,z24,z25,z26,z27,z28,z29,z30,z31,z32,rfl,hb8,rfl⟩ hA;have h7:upB (upB B b7 (.cells op.cells.toArray 34)) b8 (.cells #[.bool false,.int .i64 0,.slice none 0 0] 49) b7=some (.cells op.cells.toArray 34):=zq2k (upB_same _ _ _) (zq36 (upB_same _ _ _) hb8);have h8:upB (upB B b7 (.cells op.cells.toArray 34)) b8 (.cells #[.bool false,.int .i64 0,.slice none 0 0] 49) b8=some (.cells #[.bool false,.int .i64 0,.slice none 0 0] 49):=upB_same _ _ _;have hB8:B b8=none:=Classical.byContradiction λh=>by
   cases ho:B b8 with
   |none=>exact h ho
   |some o=>rw[zq2w (o:=.cells op.cells.toArray 34) hb7 b8 o ho]at hb8;cases hb8
  have hle:∀x y,B x=some y->upB (upB B b7 (.cells op.cells.toArray 34)) b8 (.cells #[.bool false,.int .i64 0,.slice none 0 0] 49) x=some y:=zq1n (zq2w (o:=.cells op.cells.toArray 34) hb7) hB8;obtain⟨B1,hB1⟩:∃X,upB (upB B b7 (.cells op.cells.toArray 34)) b8 (.cells #[.bool false,.int .i64 0,.slice none 0 0] 49)=X:=⟨_,rfl⟩;rw[hB1]at h7 h8 hle hA;have H7:=Lib.hid h7;have H8:=Lib.hid h8;have HLE:=Lib.hid hle;have HN:=Lib.hid hB8;clear h7 h8 hle hB1 hb7 hb8 hB8;refine zqj hJC ?_;apply YSys.seq0 hA (by kernel_rfl)
  . intro wc hB;have c2:wc.cell? ⟨db,0,none⟩=some (.func (.func f) first caps):=(zq0 (hB.own.rod db _ HR.out.db)).trans rfl;go_wp2;exact⟨rfl,Ext1.refl _,rfl⟩
  intro w hA;refine zqr hJC rfl ?_;rw[if_pos rfl];refine zqv hJC ?_;apply YSys.pre0 0 4 2 hA rfl rfl rfl rfl
  . intro wc hB X hX;have HX:=Lib.hid hX;clear hX;have c2:wc.cell? ⟨db,0,none⟩=some (.func (.func f) first caps):=(zq0 (hB.own.rod db _ HR.out.db)).trans rfl;have c3:wc.cell? ⟨ib,0,none⟩=some (.int .i64 i):=(zq0 (hB.own.rod ib _ HR.out.ib)).trans rfl;have k7:=hB.own.box b7 _ H7.out;have c70:wc.cell? ⟨b7,0,none⟩=some (.int .i64 op.k):=(zq0 k7).trans rfl;have c71:wc.cell? ⟨b7,1,none⟩=some (.int .i64 op.a):=(zq0 k7).trans rfl;have c72:wc.cell? ⟨b7,2,none⟩=some (.int .i64 op.b):=(zq0 k7).trans rfl;have c73:wc.cell? ⟨b7,3,none⟩=some (.int .i64 op.c):=(zq0 k7).trans rfl;clear k7;go_wp2;exact HX.out _ (Ext1.refl _)
  intro w hA;have hnm':¬fn.name= "runtime.NumGoroutine" :=by simpa using HFN.out.2.2
  have hf:=HFN.out.1;have hb':=HFN.out.2.1;refine YSys.callO (HDO.out o op _ s B1 w (λ_=>trivial) hA) rfl rfl rfl ?_ ?_ ?_
  . intro w;simp[go_sem,execOp,Act.eval,resolve,Deferred.ofValue,invoke,callFunc,hf,hb',hnm',OpX.val]
  . intro w;simp[go_sem,execOp,Act.eval,resolve,Deferred.ofValue,invoke,callFunc,hf,hb',hnm',OpX.val]
  clear hnm' hf hb' hA;intro s e' w hp;cases e' with
  |outgrown=>exact hp
  |panicked ch=>exact⟨rfl,hp⟩
  |returned v=>
  obtain⟨a,X,⟨sl,rfl,hsl⟩,hXB,hA⟩:=hp;have hX8:X b8=none:=Classical.byContradiction λh=>by
   have:=hXB b8 h;rw[H8.out]at this;cases this
  have h8':orB X B1 b8=some (.cells #[.bool false,.int .i64 0,.slice none 0 0] 49):=by simp[orB,hX8,H8.out]
  have H8':=Lib.hid h8';clear h8';refine YSys.opsX 5 1 (λt B'=>∃(u5 u6 u12 u13 u14 u15 u16 u17 u18 u19 u20 u21 u22 u23 u24 u25 u26 u27 u28 u29 u30 u31 u32:Value),t=#[sv,.pointer (some ⟨ob,0,none⟩),.pointer (some ⟨db,0,none⟩),.pointer (some ⟨ib,0,none⟩),.pointer (some ⟨hb,0,none⟩),u5,u6,.pointer (some ⟨b7,0,none⟩),.pointer (some ⟨b8,0,none⟩),.slice sp L Cp,.int .i64 L,.int .i64 k,u12,u13,u14,u15,u16,u17,u18,u19,u20,u21,u22,u23,u24,u25,u26,u27,u28,u29,u30,u31,u32]/\B'=upB (orB X B1) b8 (.cells #[.bool a.ok,.int .i64 a.n,sl] 49)) hA rfl rfl (by kernel_rfl) ?_ ?_
  . intro wc hB X0 hX0;have HX0:=Lib.hid hX0;clear hX0;have hm:=OMoved.set3 (o1:=0) (o2:=1) (o3:=2) hB.own H8'.out (.bool a.ok) (.int .i64 a.n) sl;have HM:=Lib.hid hm;have k8:=hB.own.box b8 _ H8'.out;have c80:wc.cell? ⟨b8,0,none⟩=some (.bool false):=(zq0 k8).trans rfl;have c81:wc.cell? ⟨b8,1,none⟩=some (.int .i64 0):=(zq0 k8).trans rfl;have c82:wc.cell? ⟨b8,2,none⟩=some (.slice none 0 0):=(zq0 k8).trans rfl;have f80:wc.frozen? ⟨b8,0,none⟩=false:=zqf k8;have f81:wc.frozen? ⟨b8,1,none⟩=false:=zqf k8;have f82:wc.frozen? ⟨b8,2,none⟩=false:=zqf k8;obtain⟨sa,sn,sc,hsl'⟩:∃sa sn sc,sl=.slice sa sn sc:=by rcases hsl.2 with⟨h,_⟩|⟨_,_,_,h,_⟩<;>exact⟨_,_,_,h⟩
    clear hm k8 hX8 hA hXB hsl;subst hsl';go_wp2;exact⟨rfl,HX0.out _ _ _ HM.out ⟨_,_,_,_,_,_,_,_,_,_,_,_,_,_,_,_,_,_,_,_,_,_,_,rfl,rfl⟩⟩
  clear hA;rintro _ _ w ⟨u5,u6,u12,u13,u14,u15,u16,u17,u18,u19,u20,u21,u22,u23,u24,u25,u26,u27,u28,u29,u30,u31,u32,rfl,rfl⟩ hA;show wpJ (λ(s:Turn Try.prog (M1×AnsM) (S1×(Nat->List Ans)))=>s.J) _ _ _ _ _;replace hA:(zq2v hP hRS (zqi C (zqs tT ab N)) ownA ro pr fStep sx cr rest NE EN i o).AtB _ s w (((pushP i a).bind λ_=>opsP i dop (ops.drop (k+1))).bind Proc.ret):=hA;rw[Proc.bind_bind]at hA;obtain⟨m,hmB,hA⟩:=hA;refine Alone.actS (zq4v hP hRS (zqi C (zqs tT ab N)) ownA ro pr fStep sx cr rest NE EN i) (I:=λs=>ownA i s=o) (I':=λs=>ownA i s=o++[a]) (g:=λs=>((s.1,upd' s.2 i (s.2 i++[a])),())) (K:=λ_=>(opsP i dop (ops.drop (k+1))).bind Proc.ret) (λt B'=>(∃(v5 v6 v7 v8 v12 v13 v14 v15 v16 v17 v18 v19 v20 v21 v22 v23 v24 v25 v26 v27 v28 v29 v30 v31 v32:Value),t=#[sv,.pointer (some ⟨ob,0,none⟩),.pointer (some ⟨db,0,none⟩),.pointer (some ⟨ib,0,none⟩),.pointer (some ⟨hb,0,none⟩),v5,v6,v7,v8,.slice sp L Cp,.int .i64 L,.int .i64 k,v12,v13,v14,v15,v16,v17,v18,v19,v20,v21,v22,v23,v24,v25,v26,v27,v28,v29,v30,v31,v32])/\B'=B) hA (by kernel_rfl) (λs h=>by show upd' s.2 i _ i=_;rw[upd'_same,show s.2 i=o from h]) (λs j hj=>zq17 _ _ hj) ?_ ?_
  . intro wc hBR hown X0 hX0;have HX0:=Lib.hid hX0;clear hX0;have hst:m.l.2.st i=o:=hown;have hYB:∀b y,X b=some y->m.box i b=some y:=λb y hb=>by
     rw[hmB];exact zq2k (by simp[orB,hb]) (λe=>by subst e;rw[hX8]at hb;cases hb)
    have hBB:∀b y,B b=some y->m.box i b=some y:=λb y hb=>by
     have h1:=HLE.out b y hb;have h2:X b=none:=Classical.byContradiction λh=>by rw[hXB b h]at h1;cases h1
     rw[hmB];exact zq2k (by simp[orB,h2,h1]) (λe=>by subst e;rw[HN.out]at hb;cases hb)
    have hYn:∀b,X b≠none->B b=none:=λb hb=>Classical.byContradiction λh=>by
     cases ho:B b with
     |none=>exact h ho
     |some y=>have:=HLE.out b y ho;rw[hXB b hb]at this;cases this
    have hor:∀b,(orB X B1 b≠none->m.box i b≠none):=λb hb=>by
     rw[hmB]
     by_cases e:b=b8
     . subst e;simp
     . rw[zq27 _ _ e];exact hb
    obtain⟨ti,hti,hz0,hz1,hz2⟩:∃ti,Try.prog.info? 49=some ti/\ti.zero=some (.agg #[.bool false,.int .i64 0,.slice none 0 0])/\ti.size=3/\ti.bytes=40:=⟨_,rfl,rfl,rfl,rfl⟩;obtain⟨g2,cap,w2,m',hrun,hold,hst',hmv⟩:=ans_push (P:=Try.prog) hBR HR.out.lt 47 47 ti _ (by kernel_rfl) hti hz0 hz1 hz2 (by rfl) hsl hYB hBB hYn (by rw[hst];have:=HO.out;have:=HK.out;have:=HR.out.le;omega) wc.tape (wc.drawn+1);rw[hst]at hrun hmv hst';have k8:wc.heap[b8]?=some (.cells #[.bool a.ok,.int .i64 a.n,sl] 49):=hBR.box i b8 _ (by rw[hmB];exact upB_same _ _ _);have hX8f:m.l.2.X i b8=none:=Classical.byContradiction λh=>hBR.apart i b8 (by rw[hmB,upB_same];simp) (.inr (.inr ⟨i,HR.out.lt,h⟩));have hD:=hBR.core.2.1;have kab:wc.heap[ab]?=some (.cells ((List.range N).map m.l.2.hv).toArray 47):=hD.hd;have hXab:=hD.nab i HR.out.lt;have khb:=hBR.rod hb _ HR.out.hb;have hXhb:m.l.2.X i hb=none:=Classical.byContradiction λh=>hBR.rol hb (by rw[HR.out.hb];simp) (.inr (.inr ⟨i,HR.out.lt,h⟩));have kib:=hBR.rod ib _ HR.out.ib;have hXib:m.l.2.X i ib=none:=Classical.byContradiction λh=>hBR.rol ib (by rw[HR.out.ib];simp) (.inr (.inr ⟨i,HR.out.lt,h⟩));obtain⟨hv,hhv⟩:∃hv,m.l.2.hv i=hv:=⟨_,rfl⟩;have hvi:(((List.range N).map m.l.2.hv).toArray)[i]?=some hv:=by simp[HR.out.lt,hhv]
    obtain⟨sa,sn,sc,hsl'⟩:∃sa sn sc,sl=.slice sa sn sc:=by rcases hsl.2 with⟨h,_⟩|⟨_,_,_,h,_⟩<;>exact⟨_,_,_,h⟩
    obtain⟨va,vn,vc,hv'⟩:∃va vn vc,hv=.slice va vn vc:=by
     obtain⟨_,_,_,hr,_⟩:=hD.row i HR.out.lt;rw[hhv]at hr;rcases hr.2 with⟨h,_⟩|⟨_,_,_,h,_⟩<;>exact⟨_,_,_,h⟩
    rw[hhv]at hrun;obtain⟨W0,hW0⟩:∃W0,Car.re wc wc.tape (wc.drawn+1)=W0:=⟨_,rfl⟩;obtain⟨H,hH⟩:∃H,wc.heap.size=H:=⟨_,rfl⟩;rw[hW0,hH]at hrun;have hWs:∀W,W=W0\/W=W0.alloc (.cells #[.bool a.ok,.int .i64 a.n,sl] 49)\/W=w2->∀b,b<H->m.l.2.X i b=none->W.heap[b]?=wc.heap[b]?:=by
     rintro W (rfl |rfl |rfl) b hb hx
     . rw[<-hW0];rfl
     . rw[zqd,if_neg (by rw[<-hW0];show b≠wc.heap.size;omega),<-hW0];rfl
     . exact hold b (by omega) hx
    have hcell:∀W,W=W0\/W=W0.alloc (.cells #[.bool a.ok,.int .i64 a.n,sl] 49)\/W=w2->(W.cell? ⟨hb,0,none⟩=some (.slice (some ⟨ab,0,none⟩) N N)/\W.cell? ⟨ib,0,none⟩=some (.int .i64 i)/\W.cell? ⟨ab,i,none⟩=some hv/\W.cell? ⟨b8,0,none⟩=some (.bool a.ok)/\W.cell? ⟨b8,1,none⟩=some (.int .i64 a.n)/\W.cell? ⟨b8,2,none⟩=some sl)/\W.frozen? ⟨ab,i,none⟩=false:=by
     intro W hW;have e1:=(hWs W hW hb (by rw[<-hH];exact zqt khb) hXhb).trans khb;have e2:=(hWs W hW ib (by rw[<-hH];exact zqt kib) hXib).trans kib;have e3:=(hWs W hW ab (by rw[<-hH];exact zqt kab) hXab).trans kab;have e4:=(hWs W hW b8 (by rw[<-hH];exact zqt k8) hX8f).trans k8;exact⟨⟨(zq0 e1).trans rfl,(zq0 e2).trans rfl,(zq0 e3).trans hvi,(zq0 e4).trans rfl,(zq0 e4).trans rfl,(zq0 e4).trans rfl⟩,zqf e3⟩
    have HC:=Lib.hid hcell;have hi0:(0:Int)<=(i:Int):=by omega
    have hiN:(i:Int)<(N:Int):=by have:=HR.out.lt;omega
    have HMV:=Lib.hid (And.intro hmv hst');have HRUN:=Lib.hid hrun;have HST:=Lib.hid hst;have HWs:=Lib.hid (And.intro hW0 hH);have hiN':i<N:=HR.out.lt;have HIN:=Lib.hid hiN';clear hcell hWs hvi kib khb kab k8 hX8f hXab hXhb hXib hD hold hst' hmv hti hz0 hz1 hz2 hor hYn hBB hYB hst hown hA hX8 hXB hsl hrun hW0 hH hiN';subst hsl' hv';refine zqjv (k:=10) (s:=7) (t:=8) (W0:=W0) (W1:=W0.alloc (.cells #[.bool a.ok,.int .i64 a.n,.slice sa sn sc] 49)) (W2:=w2) (by kernel_rfl) (by kernel_rfl) (by kernel_rfl) (by kernel_rfl) (by decide) (by decide) (by decide) (by kernel_rfl)
     [.slice (some ⟨ab,0,none⟩) N N,.int .i64 i,.slice (some ⟨ab,0,none⟩) N N,.int .i64 i,.pointer (some ⟨ab,i,none⟩),.slice va vn vc,.agg #[.bool a.ok,.int .i64 a.n,.slice sa sn sc],.slice (some ⟨H,0,none⟩) 1 1,.slice (some ⟨g2,0,none⟩) (o.length+1) cap,.pointer (some ⟨ab,i,none⟩)] rfl HWs.out.1.symm ?_ ?_ ?_ ?_
    . intro j oo hj hj7 hj8 hoo W hWW;obtain⟨⟨d1,d2,d3,d4,d5,d6⟩,_⟩:=HC.out W hWW;clear hWW;simp only[putv,dstOf,al_gl,al_g0,al_g1,al_ob,al_g2,List.set_cons_succ,List.set_cons_zero];obtain rfl |rfl |rfl |rfl |rfl |rfl |rfl |rfl:j=0\/j=1\/j=2\/j=3\/j=4\/j=5\/j=6\/j=9:=by omega
      all_goals(simp only[al_gl,al_g0,al_g1,al_oi]at hoo;subst hoo;refine .inl ?_)
      all_goals(simp only[execOp,Act.eval,al_gd,al_gl,al_g0,al_g1,al_od])
      all_goals(try go_simp)
    . intro oo hoo;simp only[putv,dstOf,al_gl,al_g0,al_g1,al_ob,al_g2,List.set_cons_succ,List.set_cons_zero];simp only[al_gl,al_g0,al_g1,al_oi]at hoo;subst hoo;refine .inl ?_;have hs0:W0.heap.size=H:=by rw[<-HWs.out.1];exact HWs.out.2
      simp only[execOp,Act.eval,al_gd,al_gl,al_g0,al_g1,al_od];go_simp
    . intro oo hoo;have hrun:(Builtin.append_ #[47,47] 47 #[.slice va vn vc,.slice (some ⟨H,0,none⟩) 1 1]).run Try.prog (W0.alloc (.cells #[.bool a.ok,.int .i64 a.n,.slice sa sn sc] 49))=.ok (.slice (some ⟨g2,0,none⟩) (o.length+1) cap) w2:=HRUN.out;simp only[putv,dstOf,al_gl,al_g0,al_g1,al_ob,al_g2,List.set_cons_succ,List.set_cons_zero];simp only[al_gl,al_g0,al_g1,al_oi]at hoo;subst hoo;refine .inl ?_;unfold execOp;simp only[resolve,invoke,builtin,Sem.run_bind,Sem.run_pure,Result.andThen_ok,List.map_toArray,List.map_cons,List.map_nil,Act.eval,al_gd,al_gl,al_g0,al_g1,al_od,hrun];rfl
    simp only[putv,dstOf,al_gl,al_g0,al_g1,al_ob,al_g2,List.set_cons_succ,List.set_cons_zero];obtain⟨⟨_,_,d3,_,_,_⟩,d7⟩:=HC.out w2 (.inr (.inr rfl));refine zq66 (i:=10) (by kernel_rfl) ?_;simp only[wpOp,al_gl,al_g0,al_g1];rw[if_pos (by rfl)];refine .inl ?_;go_simp;refine zq65 (by kernel_rfl) ?_;refine⟨rfl,HX0.out _ _ _ _ (HMV.out.1 w2.tape w2.drawn) ?_ ⟨⟨_,_,_,_,_,_,_,_,_,_,_,_,_,_,_,_,_,_,_,_,_,_,_,_,_,rfl⟩,rfl⟩⟩;show(C.st m.l.1,m'.st)=(C.st m.l.1,upd' m.l.2.st i (m.l.2.st i++[a]));rw[HMV.out.2,HST.out]
  rintro _ m' w ⟨⟨v5,v6,v7,v8,v12,v13,v14,v15,v16,v17,v18,v19,v20,v21,v22,v23,v24,v25,v26,v27,v28,v29,v30,v31,v32,rfl⟩,hB'⟩ hA;replace hA:(zq2v hP hRS (zqi C (zqs tT ab N)) ownA ro pr fStep sx cr rest NE EN i (o++[a])).AtB B _ w ((opsP i dop (ops.drop (k+1))).bind Proc.ret):=⟨m',hB',hA⟩;show wpJ (λ(s:Turn Try.prog (M1×AnsM) (S1×(Nat->List Ans)))=>s.J) _ _ _ _ _;apply YSys.code0 hA (by kernel_rfl)
  . intro wc hB;go_wp2;exact⟨rfl,Ext1.refl _,rfl⟩
  intro w hA;exact⟨n,by omega,k+1,o++[a],B,_,_,_,_,_,_,_,_,_,_,_,_,_,_,_,_,_,_,_,_,_,_,_,_,_,by have:=HK.out;omega,by have:=HO.out;simp;omega,rfl,hA⟩
end
end Go.Proofs
namespace Go.Car
open Go Go.Conc Go.RowKit
theorem zqk{w:World}{o:Obj}{b:Nat}{y:Obj}(h:w.heap[b]?=some y):(w.alloc o).heap[b]?=some y:=by
 rw[zqd,if_neg (by have:=zqe h;omega)];exact h
theorem zq10(w:World)(o:Obj):(w.alloc o).heap[w.heap.size]?=some o:=by rw[zqd,if_pos rfl]
theorem zq24{base n:Nat}{tv:Value}{xs:List Value}{w w':World}{T:TypeId}{k:Nat}(h:w.ownsRow base T k tv n xs)(hs:∀g,tv.ownBlock=some g->w'.heap[g]?=w.heap[g]?):w'.ownsRow base T k tv n xs:=by
 refine⟨h.1,?_⟩;rcases h.2 with hv|⟨g,cap,cur,hv,h1,h2,h3⟩
 . exact .inl hv
 . exact .inr ⟨g,cap,cur,hv,h1,(hs g (by rw[hv];rfl)).trans h2,h3⟩
theorem zq3l{w:World}{B B' n k:Nat}{T:TypeId}{v:Value}{xs:List Value}(h:w.ownsRow B T k v n xs)(hb:B'<=B):w.ownsRow B' T k v n xs:=by
 refine⟨h.1,?_⟩;rcases h.2 with hv|⟨g,cap,cur,hv,h1,h2⟩
 . exact .inl hv
 . exact .inr ⟨g,cap,cur,hv,Nat.le_trans hb h1,h2⟩
theorem zq57{w:World}{b:Nat}{c c':Array Value}{T T':TypeId}{f f':Nat×Nat}(h:w.heap[b]?=some (.cells c T f))(h':w.heap[b]?=some (.cells c' T' f')):T=T':=by
 rw[h]at h';simp only[al_oi,Obj.cells.injEq]at h';exact h'.2.1
theorem zq3f{w:World}{b b':Nat}{c c':Array Value}{T T':TypeId}{f f':Nat×Nat}(h:w.heap[b]?=some (.cells c T f))(h':w.heap[b']?=some (.cells c' T' f'))(hne:T≠T'):b≠b':=λe=>by subst e;exact hne (zq57 h h')
theorem own_lt{w:World}{B k n g:Nat}{T:TypeId}{v:Value}{xs:List Value}(h:w.ownsRow B T k v n xs)(hg:v.ownBlock=some g):(∃c,w.heap[g]?=some (.cells c T))/\B<=g/\g<w.heap.size:=by
 rcases h.2 with⟨hv,_⟩|⟨g2,cap,cur,hv,hb,hh,_⟩
 . rw[hv]at hg;cases hg
 . rw[hv]at hg;simp only[Value.ownBlock,al_oi]at hg;subst hg;exact⟨⟨cur,hh⟩,hb,zqe hh⟩
theorem zq3k{base n k b:Nat}{tv:Value}{xs:List Value}{w:World}{T T':TypeId}{c:Array Value}{f:Nat×Nat}(h:w.ownsRow base T k tv n xs)(hb:w.heap[b]?=some (.cells c T' f))(hne:T≠T'):tv.ownBlock≠some b:=by
 intro e;obtain⟨⟨c2,h2⟩,_⟩:=own_lt h e;exact hne (zq57 h2 hb)
theorem zq4k{w:World}{B n k:Nat}{T:TypeId}{v:Value}{xs:List Value}(h:w.ownsRow B T k v n xs):∃p c,v=.slice p n c/\v.ownBlock=p.map (·.block)/\∀a,p=some a->a=⟨a.block,0,none⟩:=by
 rcases h.2 with⟨hv,h0⟩|⟨g,cap,cur,hv,_⟩
 . subst h0;exact⟨none,0,hv,by rw[hv];rfl,λa h=>by cases h⟩
 . exact⟨_,cap,hv,by rw[hv];rfl,λa h=>by cases h;rfl⟩
theorem zq3r{w:World}{B k:Nat}{e:TypeId}{v:Value}{n:Nat}{xs:List Value}(h:w.ownsRow B e k v n xs)(o:Obj):(w.alloc o).ownsRow B e k v n xs:=zq24 h λg hg=>by rw[zqd,if_neg (by have:=(own_lt h hg).2.2;omega)]
theorem zq5i{w:World}{x:Value}{T:TypeId}{B:Nat}(hB:w.heap.size=B):∀j u,[x][j]?=some u->(w.alloc (.cells #[x] T)).cell? ((⟨B,0,none⟩:Addr).add j)=some u:=by subst hB;exact cell_one_new w x T
theorem news_new{w:World}{cs:Array Value}{T:TypeId}{B:Nat}(hB:w.heap.size=B):∀j u,cs.toList[j]?=some u->(w.alloc (.cells cs T)).cell? ((⟨B,0,none⟩:Addr).add j)=some u:=by subst hB;exact World.news_of_block (zq10 w _)
theorem map_upd{α:Type}(f:Nat->α)(j:Nat)(x:α):(List.range (j+1)).map (λi=>if i=j then x else f i)=(List.range j).map f++[x]:=by
 rw[List.range_succ,List.map_append];congr 1
 . refine List.map_congr_left λi hi=>?_;have:=List.mem_range.1 hi;rw[if_neg (by omega)]
 . simp
end Go.Car
