/- YtmgmbciplfkddaaESaf16: part 4 of the proof (the texts behind it, in order). -/
import Derived.Test.YtmgmbciplfkddaaS03
set_option maxHeartbeats 4000000
set_option maxRecDepth 100000
set_option linter.all false
namespace Go.Car
open Go Go.Conc Go.RowKit
structure OpX where
 k:Int
 a:Int
 b:Int
 c:Int
structure Ans where
 ok:Bool
 n:Int
 l:List Int
def Ans.none:Ans:=⟨false,0,[]⟩
def OpX.cells (o:OpX):List Value:=[.int .i64 o.k,.int .i64 o.a,.int .i64 o.b,.int .i64 o.c]
def OpX.val (o:OpX):Value:=.agg #[.int .i64 o.k,.int .i64 o.a,.int .i64 o.b,.int .i64 o.c]
def AnsC(tI:TypeId)(X:Nat->Option Obj)(a:Ans)(cs:List Value):Prop:=∃sl,cs=[.bool a.ok,.int .i64 a.n,sl]/\RowB X tI 1 sl a.l.length (a.l.map (Value.int .i64))
def AnsV(tI:TypeId)(a:Ans)(v:Value)(X:Nat->Option Obj):Prop:=∃sl,v=.agg #[.bool a.ok,.int .i64 a.n,sl]/\RowB X tI 1 sl a.l.length (a.l.map (Value.int .i64))
theorem AnsV.plain (tI:TypeId)(ok:Bool)(n:Int):AnsV tI ⟨ok,n,[]⟩ (.agg #[.bool ok,.int .i64 n,.slice Option.none 0 0]) (λ_=>Option.none):=⟨_,rfl,RowB.nil tI 1⟩
inductive AnsL(tI:TypeId):(Nat->Option Obj)->List Ans->List Value->Prop
 |nil:AnsL tI (λ_=>Option.none) [] []
 |snoc {X Y:Nat->Option Obj} {l:List Ans} {cs cs':List Value} {a:Ans} (h:AnsL tI X l cs) (ha:AnsC tI Y a cs') (hd:∀b,Y b≠Option.none->X b=Option.none):AnsL tI (orB Y X) (l++[a]) (cs++cs')
theorem AnsL.len {tI:TypeId}{X:Nat->Option Obj}{l:List Ans}{cs:List Value}(h:AnsL tI X l cs):cs.length=l.length*3:=by
 induction h with
 |nil=>rfl
 |snoc h ha hd ih=>
  obtain⟨sl,rfl,_⟩:=ha;simp[ih];omega
def AnsR(tA tI:TypeId)(X:Nat->Option Obj)(hv:Value)(l:List Ans):Prop:=
 ∃Xr XL cs,RowB Xr tA 3 hv l.length cs/\AnsL tI XL l cs/\X=orB Xr XL/\∀b,Xr b≠Option.none->XL b=Option.none
theorem AnsR.nil (tA tI:TypeId):AnsR tA tI (λ_=>Option.none) (.slice Option.none 0 0) []:=⟨_,_,[],RowB.nil tA 3,.nil,rfl,λ_ h=>rfl⟩
structure AnsM where
 hv:Nat->Value
 X:Nat->Nat->Option Obj
 st:Nat->List Ans
structure AnsT where
 tA:TypeId
 tAs:TypeId
 tI:TypeId
structure zq30(T:AnsT)(ab N:Nat)(m:AnsM)(w:World):Prop where
 hd:w.heap[ab]?=some (.cells ((List.range N).map m.hv).toArray T.tAs)
 row:∀i,i<N->AnsR T.tA T.tI (m.X i) (m.hv i) (m.st i)
 blk:∀i b o,i<N->m.X i b=some o->w.heap[b]?=some o
 nab:∀i,i<N->m.X i ab=Option.none
 sep:∀i j b,i<N->j<N->i≠j->m.X i b≠Option.none->m.X j b=Option.none
def zqw(T:AnsT)(ab N:Nat):Core AnsM (Nat->List Ans) where
 foot m b:=b=ab\/∃i,i<N/\m.X i b≠Option.none
 Rep m w:=zq30 T ab N m w
 st m:=m.st
 frame m w w' h hs:=⟨(hs ab (.inl rfl)).trans h.hd,h.row,λi b o hi hb=>(hs b (.inr ⟨i,hi,by rw[hb];simp⟩)).trans (h.blk i b o hi hb),h.nab,h.sep⟩
 lt m w b h hb:=by
  rcases hb with rfl |⟨i,hi,hb⟩
  . exact zqs h.hd
  . cases ho:m.X i b with
    |none=>exact absurd ho hb
    |some o=>exact zqs (h.blk i b o hi ho)
 pin _:=0
def upd'{α:Type}(f:Nat->α)(i:Nat)(x:α):Nat->α:=λj=>if j=i then x else f j
@[simp] theorem upd'_same {α : Type} (f : Nat → α) (i : Nat) (x : α) : upd' f i x i = x := by simp [upd']
theorem zqx{α:Type}(f:Nat->α){i j:Nat}(x:α)(h:j≠i):upd' f i x j=f j:=by simp[upd',h]
def pushP{S1:Type}(i:Nat)(a:Ans):Proc (S1×(Nat->List Ans)) Unit:=Proc.act λs=>((s.1,upd' s.2 i (s.2 i++[a])),())
def opsP{S1:Type}(i:Nat)(dop:OpX->Proc (S1×(Nat->List Ans)) Ans):List OpX->Proc (S1×(Nat->List Ans)) Unit
 |[]=>Proc.ret ()
 |op::l=>(dop op).bind λa=>(pushP i a).bind λ_=>opsP i dop l
theorem AnsR.push {tA tI:TypeId}{Xr XL Y X':Nat->Option Obj}{l:List Ans}{cs cs':List Value}{a:Ans}{v:Value}(hL:AnsL tI XL l cs)(ha:AnsC tI Y a cs')(hd:∀b,Y b≠Option.none->XL b=Option.none)
 (hr:RowB X' tA 3 v (l.length+1) (cs++cs')) (hx:∀b,X' b≠Option.none->orB Y XL b=Option.none):AnsR tA tI (orB X' (orB Y XL)) v (l++[a]):=
 ⟨X',orB Y XL,cs++cs',by simpa using hr,.snoc hL ha hd,rfl,hx⟩
section
variable {P:Program} {A:FuncId->Bool} {Ml S β α:Type} {C:Core Ml S} {ro:Nat->Option Obj} {i:Nat}
def PostR(Y:YSys P A C ro i β)(K:α->Proc S β)(rel:α->Value->(Nat->Option Obj)->Prop)(B:Nat->Option Obj)(s:Y.γ):Ending->World->Prop
 |.returned v,w=>∃a X,rel a v X/\(∀b,X b≠Option.none->B b=Option.none)/\Y.AtB (orB X B) s w (K a)
 |.panicked ch,w=>Y.Dead s ch w
 |.outgrown,_=>False
def SpecR(Y:YSys P A C ro i β)(f:FuncId)(args:Array Value)(p:Proc S α)(rel:α->Value->(Nat->Option Obj)->Prop):Prop:=
 ∀(K:α->Proc S β)(s:Y.γ)(B:Nat->Option Obj)(w:World),(∀a,Y.sil (K a))->Y.AtB B s w (p.bind K)->zq1g P Y.J f args (PostR Y K rel B) s w
theorem SpecR.of {Y:YSys P A C ro i β}{f:FuncId}{fn:Func}{c:Code}{args:Array Value}{pp:Proc S α}{rel:α->Value->(Nat->Option Obj)->Prop}(hf:P.funcs[f]?=some fn)(hb:fn.body=some c)
 (h:∀(K:α->Proc S β)(s:Y.γ)(B:Nat->Option Obj)(w:World),(∀a,Y.sil (K a))->Y.AtB B s w (pp.bind K)->wpJ Y.J c (bodyC (Y.Bd fn (PostR Y K rel B)) (PostR Y K rel B)) s (zqm fn args) w):SpecR Y f args pp rel:=
 λK s B w hK hA=>BodyY.calls ⟨fn,c,hf,hb,h K s B w hK hA⟩
end
theorem upd'_row{α:Type}(hv:Nat->α)(N i:Nat)(x:α):((List.range N).map hv).toArray.setIfInBounds i x=((List.range N).map (upd' hv i x)).toArray:=by
 apply Array.ext_getElem?;intro j;simp only[al_gs,al_gl,List.getElem?_map,List.size_toArray,List.length_map,List.length_range]
 by_cases e:i=j
 . subst e
   by_cases h:i<N
   . simp[h]
   . simp[h]
 . rw[if_neg e]
   by_cases h:j<N
   . simp[h,zqx hv x (λe'=>e e'.symm)]
   . simp[h]
section
variable {P:Program} {M1 S1:Type} {C:Core M1 S1} {T:AnsT} {ab N i:Nat} {ro:Nat->Option Obj} {m:BM (M1×AnsM)} {wc:World}
theorem ans_push(hB:BRep (zqd C (zqw T ab N)) ro m wc)(hi:i<N)(t ty:TypeId)(ti:TypeInfo)(z:Value)(ht:P.underlying t=some (.slice T.tA))(hti:P.info? T.tA=some ti)(hz:ti.zero=some z)(hsz:ti.size=3)(hby:ti.bytes=40)(hzs:z.cells.size=3)
 {B Y:Nat->Option Obj} {a:Ans} {sl:Value} (hY:RowB Y T.tI 1 sl a.l.length (a.l.map (Value.int .i64))) (hYB:∀b o,Y b=some o->m.box i b=some o) (hBB:∀b o,B b=some o->m.box i b=some o) (hYn:∀b,Y b≠none->B b=none)
 (hlen:(m.l.2.st i).length<=65536) (τ:Nat->Question->Nat) (d:Nat):
 ∃g cap w2 m',(Builtin.append_ #[t,t] ty #[m.l.2.hv i,.slice (some ⟨wc.heap.size,0,none⟩) 1 1]).run P ((Car.re wc τ d).alloc (.cells #[.bool a.ok,.int .i64 a.n,sl] T.tA))=.ok (.slice (some ⟨g,0,none⟩) ((m.l.2.st i).length+1) cap) w2/\
  (∀b,b<wc.heap.size->m.l.2.X i b=none->w2.heap[b]?=wc.heap[b]?)/\m'.st=upd' m.l.2.st i (m.l.2.st i++[a])/\
  ∀τ' d',Moved (zqd C (zqw T ab N)) m.l (m.box i) wc (m.l.1,m') B (Car.re (w2.setCell ⟨ab,i,none⟩ (.slice (some ⟨g,0,none⟩) ((m.l.2.st i).length+1) cap)) τ' d'):=by
 have hone:sl.oneCell'=true:=by rcases hY.2 with⟨rfl,_⟩|⟨_,_,_,rfl,_⟩<;>rfl
 have hD:zq30 T ab N m.l.2 wc:=hB.core.2.1;have hdis:∀b,C.foot m.l.1 b->¬(zqw T ab N).foot m.l.2 b:=hB.core.2.2;obtain⟨Xr,XL,cs,hr,hL,hX,hd⟩:=hD.row i hi;have hXr:∀b,Xr b≠none->m.l.2.X i b≠none:=λb hb=>by
  rw[hX];cases ho:Xr b with
  |none=>exact absurd ho hb
  |some o=>simp[orB,ho]
 have hfoot:∀b,m.l.2.X i b≠none->(zqw T ab N).foot m.l.2 b:=λb hb=>.inr ⟨i,hi,hb⟩;have hfr:∀b,Xr b≠none->(zqw T ab N).foot m.l.2 b:=λb hb=>hfoot b (hXr b hb);have hboxf:∀b,m.box i b≠none->¬(zqw T ab N).foot m.l.2 b:=λb hb hf=>hB.apart i b hb (.inr hf);have hboxC:∀b,m.box i b≠none->¬C.foot m.l.1 b:=λb hb hf=>hB.apart i b hb (.inl hf);have hYbox:∀b,Y b≠none->m.box i b≠none:=λb hb=>by
  cases ho:Y b with
  |none=>exact absurd ho hb
  |some o=>rw[hYB b o ho];simp
 have hBbox:∀b,B b≠none->m.box i b≠none:=λb hb=>by
  cases ho:B b with
  |none=>exact absurd ho hb
  |some o=>rw[hBB b o ho];simp
 have hlt:∀b,(zqw T ab N).foot m.l.2 b->b<wc.heap.size:=λb hb=>(zqw T ab N).lt _ _ _ hD hb;have hltB:∀b,m.box i b≠none->b<wc.heap.size:=λb hb=>hB.own'.lt hb;obtain⟨w1,hw1⟩:∃w1,(Car.re wc τ d).alloc (.cells #[.bool a.ok,.int .i64 a.n,sl] T.tA)=w1:=⟨_,rfl⟩;have hs1:w1.heap.size=wc.heap.size+1:=by rw[<-hw1,zq8];rfl
 have hold1:∀b,b<wc.heap.size->w1.heap[b]?=wc.heap[b]?:=λb hb=>by
  rw[<-hw1,zqc,if_neg (by show b≠wc.heap.size;omega)];rfl
 have hnew1:w1.heap[wc.heap.size]?=some (.cells #[.bool a.ok,.int .i64 a.n,sl] T.tA):=by
  rw[<-hw1,zqc];exact if_pos rfl
 have hrow:w1.ownsRow 0 T.tA 3 (m.l.2.hv i) (m.l.2.st i).length cs:=hr.own λb o hb=>by
  have hx:m.l.2.X i b=some o:=by rw[hX];simp[orB,hb]
  have hh:=hD.blk i b o hi hx;rw[hold1 b (zqs hh)];exact hh
 obtain⟨g,cap,w2,hrun,hown,hg,hat,hlt2⟩:=run_append_lies (P:=P) w1 t ty 0 T.tA ti z 3 40 ht hti hz hsz hby hzs (by decide) (m.l.2.hv i) (m.l.2.st i).length cs hrow ⟨wc.heap.size,0,none⟩ 1 1 [.bool a.ok,.int .i64 a.n,sl] (by simp) (World.news_of_block hnew1) (λu hu=>by simp only[List.mem_cons,List.not_mem_nil,or_false]at hu;exact hu.elim (λe=>by rw[e];rfl) (λh=>h.elim (λe=>by rw[e];rfl) (λe=>by rw[e];exact hone))) (by decide) (by simp only[maxLen];omega) (by omega) (Nat.zero_le _) _ rfl;have hold2:∀b,b<wc.heap.size->Xr b=none->w2.heap[b]?=wc.heap[b]?:=λb hb hx=>by
  rw[hg.block b (by omega) (λe=>(hr.block b).2 e.symm hx)];exact hold1 b hb
 have hs2:wc.heap.size<=w2.heap.size:=by have:=hg.size;omega
 obtain⟨hl,h2⟩:=hown;rcases h2 with⟨e,_⟩|⟨g',cap',cur,e,_,hh,c1,c2,c3,c4⟩
 . cases e
 cases e;have hgx:Xr g≠none\/wc.heap.size<g:=hat.imp (λe=>(hr.block g).2 e) (λe=>by omega);have hgab:g≠ab:=λe=>by
  subst e;rcases hgx with x|x
  . exact hXr _ x (hD.nab i hi)
  . have:=hlt g (.inl rfl);omega
 have hgfoot:(zqw T ab N).foot m.l.2 g\/wc.heap.size<=g:=hgx.imp (hfr g) (λx=>Nat.le_of_lt x)
 let X':Nat->Option Obj:=λb=>if b=g then some (.cells cur T.tA (0,0))else none
 have hX'g:X' g=some (.cells cur T.tA (0,0)):=by simp[X']
 have hX'n:∀b,b≠g->X' b=none:=λb hb=>by simp[X',hb]
 have hX':∀b,X' b≠none->b=g:=λb hb=>Classical.byContradiction λe=>hb (hX'n b e);have hXL:∀b,XL b≠none->m.l.2.X i b≠none/\Xr b=none:=λb hb=>by
  have hx:Xr b=none:=Classical.byContradiction λx=>hb (hd b x);refine⟨?_,hx⟩;rw[hX];simp[orB,hx];exact hb
 have hYXL:∀b,Y b≠none->XL b=none:=λb hb=>Classical.byContradiction λx=>hboxf b (hYbox b hb) (hfoot b (hXL b x).1);have hYg:∀b,Y b≠none->b≠g:=λb hb e=>by
  subst e;exact hgfoot.elim (hboxf b (hYbox b hb)) (λx=>by have:=hltB b (hYbox b hb);omega)
 have hXLg:∀b,XL b≠none->b≠g:=λb hb e=>by
  subst e;rcases hgx with x|x
  . exact x (hXL b hb).2
  . have:=hlt b (hfoot b (hXL b hb).1);omega
 have hgn:orB Y XL g=none:=by
  have h1:Y g=none:=Classical.byContradiction λx=>hYg g x rfl;have h2:XL g=none:=Classical.byContradiction λx=>hXLg g x rfl;simp[orB,h1,h2]
 have hnewX:∀b,orB X' (orB Y XL) b≠none->b=g\/Y b≠none\/XL b≠none:=λb hb=>by
  by_cases e:b=g
  . exact .inl e
  . right
    by_cases hy:Y b=none
    . right
      simpa[orB,hX'n b e,hy]using hb
    . exact .inl hy
 have hrowN:AnsR T.tA T.tI (orB X' (orB Y XL)) (.slice (some ⟨g,0,none⟩) ((m.l.2.st i).length+1) cap) (m.l.2.st i++[a]):=
  AnsR.push (Xr:=Xr) hL ⟨sl,rfl,hY⟩ hYXL ⟨hl,.inr ⟨g,cap,cur,rfl,rfl,c1,c2,c3,c4⟩⟩ λb hb=>by rw[hX' b hb];exact hgn
 refine⟨g,cap,w2,⟨upd' m.l.2.hv i (.slice (some ⟨g,0,none⟩) ((m.l.2.st i).length+1) cap),upd' m.l.2.X i (orB X' (orB Y XL)),upd' m.l.2.st i (m.l.2.st i++[a])⟩,by rw[hw1];exact hrun,λb hb hx=>hold2 b hb (Classical.byContradiction λx=>hXr b x hx),rfl,λτ' d'=>?_⟩;have hw3:∀b,b≠ab->(Car.re (w2.setCell ⟨ab,i,none⟩ (.slice (some ⟨g,0,none⟩) ((m.l.2.st i).length+1) cap)) τ' d').heap[b]?=w2.heap[b]?:=λb hb=>zql _ _ _ _ hb;have habX:Xr ab=none:=Classical.byContradiction λx=>hXr ab x (hD.nab i hi);have hab2:w2.heap[ab]?=some (.cells ((List.range N).map m.l.2.hv).toArray T.tAs):=(hold2 ab (hlt ab (.inl rfl)) habX).trans hD.hd;have hY2:∀b,Y b≠none->Xr b=none:=λb hb=>Classical.byContradiction λx=>hboxf b (hYbox b hb) (hfr b x);have hkeepF:∀b,¬(zqw T ab N).foot m.l.2 b->b<wc.heap.size->(Car.re (w2.setCell ⟨ab,i,none⟩ (.slice (some ⟨g,0,none⟩) ((m.l.2.st i).length+1) cap)) τ' d').heap[b]?=wc.heap[b]?:=λb hf hb=>by
  rw[hw3 b (λe=>hf (.inl e))];exact hold2 b hb (Classical.byContradiction λx=>hf (hfr b x))
 have hAns:zq30 T ab N ⟨upd' m.l.2.hv i (.slice (some ⟨g,0,none⟩) ((m.l.2.st i).length+1) cap),upd' m.l.2.X i (orB X' (orB Y XL)),upd' m.l.2.st i (m.l.2.st i++[a])⟩ (Car.re (w2.setCell ⟨ab,i,none⟩ (.slice (some ⟨g,0,none⟩) ((m.l.2.st i).length+1) cap)) τ' d'):=by
  refine⟨?_,λj hj=>?_,λj b o hj hb=>?_,λj hj=>?_,λj k b hj hk hne hb=>?_⟩
  . refine(zqy _ _ _ _ hab2).trans ?_;rw[upd'_row]
  . by_cases e:j=i
    . subst e;simp only[upd'_same];exact hrowN
    . simp only[zqx _ _ e];exact hD.row j hj
  . by_cases e:j=i
    . subst e;simp only[upd'_same]at hb;rcases hnewX b (by rw[hb];simp)with e|hy|hx
      . subst e;rw[hw3 b hgab];have:orB X' (orB Y XL) b=some (.cells cur T.tA (0,0)):=by simp[orB,hX'g]
        rw[this]at hb;cases hb;exact hh
      . have hby:Y b=some o:=by
         have h1:=hX'n b (hYg b hy);cases ho:Y b with
         |none=>exact absurd ho hy
         |some o'=>simp[orB,h1,ho]at hb;rw[hb]
        rw[hkeepF b (hboxf b (hYbox b hy)) (hltB b (hYbox b hy))];exact hB.box j b o (hYB b o hby)
      . have hbx:XL b=some o:=by
         have h1:=hX'n b (hXLg b hx);have h2:Y b=none:=Classical.byContradiction λy=>hx (hYXL b y);simpa[orB,h1,h2]using hb
        have hx2:=hXL b hx;have hxb:m.l.2.X j b=some o:=by rw[hX];simp[orB,hx2.2,hbx]
        rw[hw3 b (λe=>by subst e;exact hx2.1 (hD.nab j hj)),hold2 b (hlt b (hfoot b hx2.1)) hx2.2];exact hD.blk j b o hj hxb
    . simp only[zqx _ _ e]at hb;have hn:m.l.2.X j b≠none:=by rw[hb];simp
      rw[hw3 b (λe'=>by subst e';exact hn (hD.nab j hj)),hold2 b (hlt b (.inr ⟨j,hj,hn⟩)) (Classical.byContradiction λx=>hXr b x (hD.sep j i b hj hi e hn))];exact hD.blk j b o hj hb
  . by_cases e:j=i
    . subst e;simp only[upd'_same];refine Classical.byContradiction λx=>?_;rcases hnewX ab x with e|hy|hx
      . exact hgab e.symm
      . exact hboxf ab (hYbox ab hy) (.inl rfl)
      . exact(hXL ab hx).1 (hD.nab j hj)
    . simp only[zqx _ _ e];exact hD.nab j hj
  ·
   have key:∀x b,x<N->x≠i->m.l.2.X x b≠none->orB X' (orB Y XL) b=none:=λx b0 hx0 hne0 hb0=>by
    refine Classical.byContradiction λx1=>?_;have hf:(zqw T ab N).foot m.l.2 b0:=.inr ⟨x,hx0,hb0⟩;rcases hnewX b0 x1 with e|hy|hx
    . rw[e]at hb0 hf;rcases hgx with y|y
      . exact hXr g y (hD.sep x i g hx0 hi hne0 hb0)
      . have:=hlt g hf;omega
    . exact hboxf b0 (hYbox b0 hy) hf
    . exact(hXL b0 hx).1 (hD.sep x i b0 hx0 hi hne0 hb0)
   by_cases e:j=i
   . subst e;simp only[upd'_same]at hb;simp only[zqx _ _ (λe=>hne e.symm)];exact Classical.byContradiction λx=>hb (key k b hk (λe=>hne e.symm) x)
   . simp only[zqx _ _ e]at hb
     by_cases e2:k=i
     . subst e2;simp only[upd'_same];exact key j b hj e hb
     . simp only[zqx _ _ e2];exact hD.sep j k b hj hk hne hb
 have hnf:∀b,(zqw T ab N).foot ⟨upd' m.l.2.hv i (.slice (some ⟨g,0,none⟩) ((m.l.2.st i).length+1) cap),upd' m.l.2.X i (orB X' (orB Y XL)),upd' m.l.2.st i (m.l.2.st i++[a])⟩ b->(zqw T ab N).foot m.l.2 b\/Y b≠none\/wc.heap.size<=b:=by
  rintro b (e|⟨j,hj,hb⟩)
  . exact .inl (.inl e)
  . by_cases e:j=i
    . subst e;have hb2:orB X' (orB Y XL) b≠none:=λh=>hb (by show upd' m.l.2.X j _ j b=none;rw[upd'_same];exact h);rcases hnewX b hb2 with e|hy|hx
      . subst e;exact hgfoot.imp id .inr
      . exact .inr (.inl hy)
      . exact .inl (hfoot b (hXL b hx).1)
    . have hb2:m.l.2.X j b≠none:=λh=>hb (by show upd' m.l.2.X i _ j b=none;rw[zqx _ _ e];exact h);exact .inl (.inr ⟨j,hj,hb2⟩)
 refine⟨?_,λb hb hf hn=>hkeepF b (λx=>hf (.inr x)) hb,⟨C.frame _ _ _ hB.core.1 λb hb=>hkeepF b (hdis b hb) (C.lt _ _ _ hB.core.1 hb),hAns,λb hb hf=>?_⟩,λb o hb=>?_,λb hb=>?_,λb hb=>.inl (hBbox b hb),λb hb=>?_,rfl⟩
 . show wc.heap.size<=(w2.setCell _ _).heap.size;rw[zqz];exact hs2
 . rcases hnf b hf with x|x|x
   . exact hdis b hb x
   . exact hboxC b (hYbox b x) hb
   . exact absurd (C.lt _ _ _ hB.core.1 hb) (Nat.not_lt_of_le x)
 . have hbx:=hBB b o hb;have hn:m.box i b≠none:=by rw[hbx];simp
   rw[hkeepF b (hboxf b hn) (hltB b hn)];exact hB.box i b o hbx
 . rcases hb with hb|hb
   . exact .inl (.inl hb)
   . rcases hnf b hb with x|x|x
     . exact .inl (.inr x)
     . exact .inr (.inl (hYbox b x))
     . exact .inr (.inr x)
 . refine Classical.byContradiction λx=>?_;have hbx:=hBbox b x;rcases hb with hb|hb
   . exact hboxC b hbx hb
   . rcases hnf b hb with y|y|y
     . exact hboxf b hbx y
     . exact x (hYn b y)
     . have:=hltB b hbx;omega
end
end Go.Car
namespace Go.Car
open Go Go.RowKit
section
variable {P:Program} {md:Region.Mode} {ops:Array Oper} {C:World->Prop}
def Closed(md:Region.Mode)(ops:Array Oper)(listed:Array Bool):Prop:=∀i o e,ops[i]?=some o->listed.getD i false=true->e∈o.after->Region.binds md e=true->listed.getD e.on false=true
theorem Closed.set {listed:Array Bool}(h:Closed md ops listed){i:Nat}(hi:i∈Region.ready md ops listed):Closed md ops (listed.setIfInBounds i true):=by
 obtain⟨hun,o,ho,hall⟩:=mem_ready.1 hi;intro j oj e hoj hlj he hb;refine getD_set_true ?_
 by_cases hji:i=j
 . subst hji;rw[ho]at hoj;obtain rfl:=Option.some.inj hoj;exact hall e he hb
 . rw[getD_set_ne false hji]at hlj;exact h j oj e hoj hlj he hb
def zq5a(md:Region.Mode)(ops:Array Oper)(k:Nat):Prop:=∀listed,Closed md ops listed->∀j,j∈Region.ready md ops listed->k<=j->∀i,i<k->listed.getD i false=true
def zq44(P:Program)(md:Region.Mode)(ops:Array Oper)(k:Nat)(C:World->Prop)(R:Array Bool->Act->Prop):Nat->Array Bool->Act->Prop
 |0,listed,a=>(∀i,i<k->listed.getD i false=true)/\R listed a
 |fuel+1,listed,a=>(∃i,i<k/\listed.getD i true=false)/\∀i∈Region.ready md ops listed,i<k/\qOp P ops C i (zq44 P md ops k C R fuel (listed.setIfInBounds i true)) a
theorem zqaq{k:Nat}{R:Array Bool->Act->Prop}{Q':Exit->Act->World->Prop}(hw:∀listed,(∃i,i<k/\listed.getD i true=false)->∃i,i∈Region.ready md ops listed)(r:Nat)(hR:∀listed a w,C w->R listed a->wpAny P md ops Q' r listed a w):
 ∀(fuel:Nat)(listed:Array Bool)(a:Act)(w:World),C w->zq44 P md ops k C R fuel listed a->wpAny P md ops Q' (fuel+r) listed a w
 |0,listed,a,w,hc,h=>by rw[Nat.zero_add];exact hR _ _ _ hc h.2
 |fuel+1,listed,a,w,hc,h=>by
  have e:fuel+1+r=(fuel+r)+1:=by omega
  rw[e];refine⟨λh0=>?_,λi hi=>?_⟩
  . obtain⟨i,hi⟩:=hw listed h.1;rw[h0]at hi;cases hi
  . exact wpOp_of_qOp hc (λa' w' hc' hh=>zqaq hw r hR fuel _ a' w' hc' hh) (h.2 i hi).2
theorem zq3n{l:Array Bool}{i:Nat}(h:l.getD i true=false)(h':l.getD i false=true):False:=by
 rcases Nat.lt_or_ge i l.size with hl|hl
 . simp[hl]at h h';rw[h]at h';cases h'
 . simp[Array.getElem?_eq_none hl]at h'
theorem zqju{k:Nat}{R:Array Bool->Act->Prop}{i:Nat}{oi:Oper}{v:Value}(hi:ops[i]?=some oi)(hik:i<k)(hsel:∀(j:Nat)(o:Oper)cs b,ops[j]?=some o->o.op≠.select cs b)(hAW:zq5a md ops k):
 ∀(fuel:Nat)(listed:Array Bool)(a:Act),Closed md ops listed->
  (∀j oj,ops[j]?=some oj->j<k->j≠i->listed.getD j true=false->(∀e∈oj.after,Region.binds md e=true->e.on≠i)->oi.apart ops oj=true)->
  i∈Region.ready md ops listed->YieldsIn P ops C oi v a->
  zq44 P md ops k C R fuel (listed.setIfInBounds i true) (a.put oi.dst v)->zq44 P md ops k C R (fuel+1) listed a:=by
 intro fuel
 induction fuel with
 |zero=>
  intro listed a hcl _ hr hy H;have hun:=(mem_ready.1 hr).1;refine⟨⟨i,hik,hun⟩,λj hj=>?_⟩;have hjk:j<k:=by
   rcases Nat.lt_or_ge j k with h|h
   . exact h
   . exact(zq3n hun (hAW listed hcl j hj h i hik)).elim
  refine⟨hjk,?_⟩
  by_cases hji:j=i
  . subst hji;exact hy.qOp hi H
  . have h1:=H.1 j hjk;rw[getD_set_ne false (Ne.symm hji)]at h1;exact(zq3n (mem_ready.1 hj).1 h1).elim
 |succ fuel ih=>
  intro listed a hcl hfree hr hy H;have hun:=(mem_ready.1 hr).1;refine⟨⟨i,hik,hun⟩,λj hj=>?_⟩;have hjk:j<k:=by
   rcases Nat.lt_or_ge j k with h|h
   . exact h
   . exact(zq3n hun (hAW listed hcl j hj h i hik)).elim
  refine⟨hjk,?_⟩
  by_cases hji:j=i
  . subst hji;exact hy.qOp hi H
  . have h1:=(H.2 j (ready_mono hj hji)).2;obtain⟨hjun,oj,hoj,hall⟩:=mem_ready.1 hj;have hnot:∀e∈oj.after,Region.binds md e=true->e.on≠i:=λe he hb heq=>by
     have h1:=hall e he hb;rw[heq]at h1;exact zq3n hun h1
    have h2:=qOp_put hoj (hfree j oj hoj hjk hji hjun hnot) (λcs b=>hsel i oi cs b hi) (λcs b=>hsel j oj cs b hoj) hy h1;have hfree':∀q oq,ops[q]?=some oq->q<k->q≠i->(listed.setIfInBounds j true).getD q true=false->
     (∀e∈oq.after,Region.binds md e=true->e.on≠i)->oi.apart ops oq=true:=λq oq hq hqk hqi hqun hno=>by
     refine hfree q oq hq hqk hqi ?_ hno
     by_cases hjq:j=q
     . subst hjq;exact hjun
     . rw[getD_set_ne true hjq]at hqun;exact hqun
    refine qOp_mono (λa' h3=>ih (listed.setIfInBounds j true) a' (hcl.set hj) hfree' (ready_mono hr (Ne.symm hji)) h3.1 ?_) h2;rw[Array.setIfInBounds_comm _ _ hji];exact h3.2
def lexR(md:Region.Mode)(ops:Array Oper)(k:Nat):Nat->Nat->Array Bool->Bool
 |0,_,listed=>(List.range k).all λi=>listed.getD i false
 |fuel+1,p,listed=>(Region.ready md ops listed).contains p&&decide (p<k)&&((List.range k).all λj=>j==p || listed.getD j true || (match ops[j]?,ops[p]? with
  |some oj,some op=>oj.after.any (λe=>Region.binds md e&&e.on==p) || op.apart ops oj
  |_,_=>true))&&lexR md ops k fuel (p+1) (listed.setIfInBounds p true)
def zq50:Nat->Nat->Array Bool->Array Bool
 |0,_,l=>l
 |n+1,p,l=>zq50 n (p+1) (l.setIfInBounds p true)
theorem zqap(hs:Region.noSelect ops=true){k:Nat}(hAW:zq5a md ops k){Q:Act->Prop}(F:Array Bool):∀(l:List Oper)(p:Nat)(listed:Array Bool)(a:Act),(∀j,j<l.length->l[j]?=ops[p+j]?)->Closed md ops listed->
 lexR md ops k l.length p listed=true->zq50 l.length p listed=F->wpQuiet P ops C Q l a->zq44 P md ops k C (λL a=>L=F/\Q a) l.length listed a
 |[],p,listed,a,_,_,hB,hF,h=>by
  refine⟨λi hi=>?_,hF,h⟩;simp only[List.length_nil,lexR,List.all_eq_true,List.mem_range]at hB;exact hB i hi
 |o::l,p,listed,a,hl,hcl,hB,hF,h=>by
  have h0:ops[p]?=some o:=by have:=hl 0 (by simp);simpa using this.symm
  simp only[List.length_cons,lexR,Bool.and_eq_true,List.contains_iff_mem,decide_eq_true_eq,List.all_eq_true,List.mem_range]at hB;obtain⟨⟨⟨hr,hpk⟩,hf⟩,hB'⟩:=hB;have hst:qOp P ops C p (wpQuiet P ops C Q l) a:=by unfold qOp;simp only[h0];exact h
  obtain⟨v,hy,hK⟩:=yieldsIn_of_qOp h0 hst;refine zqju h0 hpk (Region.noSelect_spec hs) hAW l.length listed a hcl (λj oj hoj hjk hjp hun hno=>?_) hr hy
   (zqap hs hAW F l (p+1) _ _ (λj hj=>by have:=hl (j+1) (by simpa using hj);simpa[Nat.add_assoc,Nat.add_comm 1 j]using this) (hcl.set hr) hB' hF hK)
  have:=hf j hjk;rw[hun,hoj,h0]at this;simp only[Bool.or_false,Bool.or_eq_true,beq_iff_eq,hjp,false_or,Array.any_eq_true]at this;rcases this with⟨q,hq,hb⟩|h
  . simp only[Bool.and_eq_true,beq_iff_eq]at hb;exact absurd hb.2 (hno _ (Array.getElem_mem hq) hb.1)
  . exact h
def anc(md:Region.Mode)(ops:Array Oper):Nat->Nat->Nat->Bool
 |0,_,_=>false
 |f+1,j,i=>match ops[j]? with
  |some o=>o.after.toList.any λe=>Region.binds md e&&(e.on==i || anc md ops f e.on i)
  |none=>false
def zq2l(md:Region.Mode)(ops:Array Oper)(k:Nat):Bool:=(List.range ops.size).all λj=>decide (j<k) || (List.range k).all λi=>anc md ops ops.size j i
theorem zq6k{listed:Array Bool}(hc:Closed md ops listed):∀(f j i:Nat)(o:Oper),ops[j]?=some o->(∀e∈o.after,Region.binds md e=true->listed.getD e.on false=true)->anc md ops f j i=true->listed.getD i false=true
 |0,_,_,_,_,_,h=>by cases h
 |f+1,j,i,o,ho,hall,h=>by
  simp only[anc,ho,List.any_eq_true,Bool.and_eq_true,Bool.or_eq_true,beq_iff_eq]at h;obtain⟨e,he,hb,h⟩:=h;have he':e∈o.after:=by simpa using he
  have hl:=hall e he' hb;rcases h with rfl |h
  . exact hl
  . cases hoe:ops[e.on]? with
    |none=>cases f with
     |zero=>cases h
     |succ f=>simp only[anc,hoe]at h;cases h
    |some oe=>exact zq6k hc f e.on i oe hoe (λe' he'' hb'=>hc e.on oe e' hoe hl he'' hb') h
theorem zq6j{k:Nat}(h:zq2l md ops k=true):zq5a md ops k:=by
 intro listed hc j hj hk i hi;obtain⟨_,o,ho,hall⟩:=mem_ready.1 hj;have hlt:=(Array.getElem?_eq_some_iff.1 ho).1;unfold zq2l at h;rw[List.all_eq_true]at h;have:=h j (List.mem_range.2 hlt);simp only[Bool.or_eq_true,decide_eq_true_eq,List.all_eq_true,List.mem_range]at this;rcases this with h|h
 . omega
 . exact zq6k hc _ j i o ho hall (h i hi)
def backB(md:Region.Mode)(ops:Array Oper)(k:Nat):Bool:=decide (k<=ops.size)&&(List.range k).all λi=>match ops[i]? with
 |some o=>o.after.toList.all (λe=>!Region.binds md e || decide (e.on<i))
 |none=>false
theorem zq6o{k:Nat}(h:backB md ops k=true)(listed:Array Bool)(hex:∃i,i<k/\listed.getD i true=false):∃i,i∈Region.ready md ops listed:=by
 unfold backB at h;simp only[Bool.and_eq_true,decide_eq_true_eq,List.all_eq_true,List.mem_range]at h;obtain⟨hk,h⟩:=h;obtain⟨i,hik,hun⟩:=hex;have:∀m i,m=i->i<k->listed.getD i true=false->∃j,j∈Region.ready md ops listed:=by
  intro m
  induction m using Nat.strongRecOn with
  |_ m ihm=>
   intro i hi hik hun;subst hi;have hops:m<ops.size:=by omega
   by_cases hall:∀e∈(ops[m]'hops).after,Region.binds md e=true->listed.getD e.on false=true
   . exact⟨m,mem_ready.2 ⟨hun,_,Array.getElem?_eq_getElem hops,hall⟩⟩
   . obtain⟨e,he⟩:=Classical.not_forall.1 hall;obtain⟨h1,he⟩:=Classical.not_imp.1 he;obtain⟨h2,he⟩:=Classical.not_imp.1 he;have hb:=h m hik;rw[Array.getElem?_eq_getElem hops]at hb;simp only[List.all_eq_true]at hb;have hlt:e.on<m:=by have:=hb e (by simpa using h1);simpa[h2]using this
     refine ihm e.on hlt e.on rfl (by omega) ?_;have hm:=zq1o hun;have:e.on<listed.size:=by omega
     simp[this]at he |-;exact he
 exact this i i rfl hik hun
theorem zqax{id k:Nat}{Q':Exit->Act->World->Prop}{a:Act}{w:World}(hm:P.follows .mixedOrders=true)(hs:Region.noSelect ops=true)(hback:backB .any ops k=true)(hwait:zq2l .any ops k=true)(hlex:lexR .any ops k k 0 (Array.replicate ops.size false)=true)
 (hC:C {w with drawn:=w.drawn+1}) (h:wpQuiet P ops C (λa'=>∀w',C w'->wpAny P .any ops Q' (ops.size - k) (zq50 k 0 (Array.replicate ops.size false)) a' w') (ops.toList.take k) a):(Code.region id ops true).wp P Q' a w:=by
 have hk:k<=ops.size:=by
  unfold backB at hback;simp only[Bool.and_eq_true,decide_eq_true_eq]at hback;exact hback.1
 have hlen:(ops.toList.take k).length=k:=by simp;omega
 refine wp_region_any hm ?_;have hcl:Closed .any ops (Array.replicate ops.size false):=λi o e _ hl=>by
  exfalso;simp[al_gd,Array.getElem?_replicate]at hl;split at hl<;>simp at hl
 have h1:=zqap (C:=C) hs (zq6j hwait) (zq50 k 0 (Array.replicate ops.size false)) (ops.toList.take k) 0 (Array.replicate ops.size false) a (λj hj=>by rw[hlen]at hj;simp[List.getElem?_take,hj]) hcl (by rw[hlen];exact hlex) (by rw[hlen]) h;rw[hlen]at h1;have h2:=zqaq (Q':=Q') (zq6o hback) (ops.size - k) (λlisted a w hc hR=>by rw[hR.1];exact hR.2 w hc) k _ a _ hC h1;rw[show k+(ops.size - k)=ops.size by omega]at h2;exact h2
theorem zq6w:∀(k i:Nat)(p q:Nat->Bool),i<k->p i=true->q i=false->(∀j,j≠i->p j=q j)->(List.range k).countP p=(List.range k).countP q+1
 |0,i,p,q,hi,_,_,_=>by omega
 |k+1,i,p,q,hi,hp,hq,h=>by
  rw[List.range_succ,List.countP_append,List.countP_append]
  by_cases e:i=k
  . subst e;have:(List.range i).countP p=(List.range i).countP q:=List.countP_congr λj hj=>by rw[h j (by have:=List.mem_range.1 hj;omega)]
    simp[this,hp,hq]
  . have ih:=zq6w k i p q (by omega) hp hq h;have e2:=h k (Ne.symm e);simp[ih,e2];omega
theorem zqjx{Q:Exit->Act->World->Prop}{i:Nat}{K K':Act->World->Prop}{a:Act}{w:World}(h:∀a w,K a w->K' a w)(hh:wpOp P ops Q i K a w):wpOp P ops Q i K' a w:=by
 unfold wpOp at *;split
 . simp only[*]at hh |-;exact h _ _ (by simpa[*]using hh)
 . rename_i o ho;simp only[ho]at hh;split
   . rename_i hw;simp only[hw,if_true]at hh;rcases hh with hh|hh
     . exact .inl (Oper.wp_mono h hh)
     . exact .inr hh
   . rename_i hw;simp only[hw]at hh;exact h _ _ hh
theorem zqav{id k:Nat}{Q':Exit->Act->World->Prop}{a:Act}{w:World}(hm:P.follows .mixedOrders=true)(hback:backB .any ops k=true)(hwait:zq2l .any ops k=true)(I:Array Bool->Act->World->Prop)
 (h0:I (Array.replicate ops.size false) a {w with drawn:=w.drawn+1})
 (hstep:∀(L:Array Bool)(a:Act)(w:World)(i:Nat),L.size=ops.size->i<k->L.getD i true=false->(∀o,ops[i]?=some o->∀e∈o.after,Region.binds .any e=true->L.getD e.on false=true)->I L a w->wpOp P ops Q' i (I (L.setIfInBounds i true)) a w)
 (hend:∀(a:Act)(w:World),I (Array.ofFn λi:Fin ops.size=>decide (i.val<k)) a w->wpAny P .any ops Q' (ops.size - k) (Array.ofFn λi:Fin ops.size=>decide (i.val<k)) a w):(Code.region id ops true).wp P Q' a w:=by
 have hk:k<=ops.size:=by
  unfold backB at hback;simp only[Bool.and_eq_true,decide_eq_true_eq]at hback;exact hback.1
 refine wp_region_any hm ?_;have key:∀(f:Nat)(L:Array Bool)(a:Act)(w:World),Closed .any ops L->L.size=ops.size->(∀j,k<=j->L.getD j false=false)->(List.range k).countP (λi=>!L.getD i false)=f->I L a w->wpAny P .any ops Q' (f+(ops.size - k)) L a w:=by
  intro f
  induction f with
  |zero=>
   intro L a w hcl hsz hno hc hI;have hall:∀i,i<k->L.getD i false=true:=by
    intro i hi;rw[List.countP_eq_zero]at hc;have:=hc i (List.mem_range.2 hi);simpa using this
   have hL:L=Array.ofFn λi:Fin ops.size=>decide (i.val<k):=by
    apply Array.ext
    . simp[hsz]
    . intro i h1 h2;simp only[Array.getElem_ofFn]
      by_cases hik:i<k
      . have:=hall i hik;simp[h1]at this;rw[this];simp[hik]
      . have:=hno i (by omega);simp[h1]at this;rw[this];simp[hik]
   rw[Nat.zero_add];rw[hL]at hI |-;exact hend a w hI
  |succ f ih=>
   intro L a w hcl hsz hno hc hI;have hex:∃i,i<k/\L.getD i true=false:=by
    have:0<(List.range k).countP (λi=>!L.getD i false):=by omega
    obtain⟨i,hi,hp⟩:=List.countP_pos_iff.1 this;have hik:=List.mem_range.1 hi;refine⟨i,hik,?_⟩;have hlt:i<L.size:=by omega
    simp[hlt]at hp |-;exact hp
   have e:f+1+(ops.size - k)=(f+(ops.size - k))+1:=by omega
   rw[e];refine⟨λhr=>?_,λi hi=>?_⟩
   . obtain⟨i,hi⟩:=zq6o hback L hex;rw[hr]at hi;cases hi
   . have hik:i<k:=by
      rcases Nat.lt_or_ge i k with h|h
      . exact h
      . obtain⟨q,hq,hun⟩:=hex;exact(zq3n hun (zq6j hwait L hcl i hi h q hq)).elim
     obtain⟨hun,o,ho,hall⟩:=mem_ready.1 hi;refine zqjx (λa' w' hI'=>ih _ a' w' (hcl.set hi) (by simp[hsz]) (λj hj=>?_) ?_ hI') (hstep L a w i hsz hik hun (λo' ho' e he hb=>by rw[ho]at ho';cases ho';exact hall e he hb) hI)
     . rw[getD_set_ne false (by omega)];exact hno j hj
     . have:=zq6w k i (λj=>!L.getD j false) (λj=>!(L.setIfInBounds i true).getD j false) hik ?_ ?_ (λj hj=>?_)
       . omega
       . have hlt:i<L.size:=by omega
         simp[hlt]at hun |-;exact hun
       . have hlt:i<L.size:=by omega
         simp[hlt]
       . rw[getD_set_ne false (Ne.symm hj)]
 have hcl:Closed .any ops (Array.replicate ops.size false):=λi o e _ hl=>by
  exfalso;simp[al_gd,Array.getElem?_replicate]at hl;split at hl<;>simp at hl
 have hf:∀i,(Array.replicate ops.size false).getD i false=false:=λi=>by
  simp[al_gd,Array.getElem?_replicate];split<;>rfl
 have:=key k (Array.replicate ops.size false) a _ hcl (by simp) (λj _=>hf j) (by rw[List.countP_eq_length.2 (λi _=>by rw[hf i];rfl),List.length_range]) h0;rw[show k+(ops.size - k)=ops.size by omega]at this;exact this
theorem zq46{Q:Exit->Act->World->Prop}{fuel i:Nat}{listed:Array Bool}{a:Act}{w:World}(hr:Region.ready md ops listed=[i])(h:wpOp P ops Q i (wpAny P md ops Q fuel (listed.setIfInBounds i true)) a w):wpAny P md ops Q (fuel+1) listed a w:=
 ⟨λh0=>(by rw[hr]at h0;cases h0),λj hj=>by rw[hr]at hj;obtain rfl:=List.mem_singleton.1 hj;exact h⟩
theorem zq45{Q:Exit->Act->World->Prop}{listed:Array Bool}{a:Act}{w:World}(hr:Region.ready md ops listed=[])(h:Q .normal a w):wpAny P md ops Q 0 listed a w:=⟨hr,h⟩
end
end Go.Car
namespace Go.Car
open Go Go.Conc Go.RowKit
def idleOk(P:Program)(ops:Array Oper)(n:Nat)(same:List Nat):Bool:=
 (List.range ops.size).all (λi=>match ops[i]? with
  |some o=>okOp P (λ_=>false) o.op&&(match o.op with|.convert .. =>false|_=>true)&&o.guard.isNone&&(match o.dst with|some d=>decide (d<n)|none=>true)
  |none=>false)&&
 (List.range ops.size).all (λi=>(List.range i).all λj=>(dstOf ops i).isNone || dstOf ops i !=dstOf ops j)&&
 (List.range ops.size).all (λi=>match ops[i]? with
  |some o=>o.after.all (λe=>!Region.binds .any e || decide (e.on<i))&&
   o.op.operands.all (λx=>match tmpOf x with
    |some t=>same.contains t || (List.range ops.size).all λj=>dstOf ops j !=some t || waits ops i j
    |none=>true)
  |none=>false)
structure IdleOk(P:Program)(ops:Array Oper)(n:Nat)(same:List Nat):Prop where
 plain:∀i,i<ops.size->∃o,ops[i]?=some o/\okOp P (λ_=>false) o.op=true/\(∀s d x,o.op≠.convert s d x)/\o.guard=none/\∀d,o.dst=some d->d<n
 apart:∀i j d,i<ops.size->j<i->dstOf ops i=some d->dstOf ops j≠some d
 back:∀i o e,i<ops.size->ops[i]?=some o->e∈o.after->Region.binds .any e=true->e.on<i
 looks:∀i o x t j,i<ops.size->ops[i]?=some o->x∈o.op.operands->tmpOf x=some t->j<ops.size->dstOf ops j=some t->t∈same\/waits ops i j=true
theorem zqco{P:Program}{ops:Array Oper}{n:Nat}{same:List Nat}(h:idleOk P ops n same=true):IdleOk P ops n same:=by
 unfold idleOk at h;simp only[Bool.and_eq_true,List.all_eq_true,List.mem_range]at h;obtain⟨⟨h2,h3⟩,h4⟩:=h;refine⟨λi hi=>?_,λi j d hi hj hd hd'=>?_,λi o e hi ho he hb=>?_,λi o x t j hi ho hx ht hj hd=>?_⟩
 . have:=h2 i hi;cases ho:ops[i]? with
   |none=>rw[ho]at this;cases this
   |some o=>
    rw[ho]at this;simp only[Bool.and_eq_true,Option.isNone_iff_eq_none]at this;obtain⟨⟨⟨a1,a0⟩,a2⟩,a3⟩:=this;refine⟨o,rfl,a1,λs d x e=>?_,a2,λd hd=>?_⟩
    . rw[e]at a0;cases a0
    . rw[hd]at a3;simpa using a3
 . have:=h3 i hi j hj;rw[hd,hd']at this;simp at this
 . have:=h4 i hi;rw[ho]at this;simp only[Bool.and_eq_true,Array.all_eq_true_iff_forall_mem]at this;have:=this.1 e he;simpa[hb]using this
 . have:=h4 i hi;rw[ho]at this;simp only[Bool.and_eq_true,Array.all_eq_true_iff_forall_mem]at this;have:=this.2 x hx;rw[ht]at this;simp only[Bool.or_eq_true,List.all_eq_true,List.mem_range,List.contains_iff_mem]at this;rcases this with h|h
   . exact .inl h
   . have:=h j hj;exact .inr (by simpa[hd]using this)
structure Agree2(ops:Array Oper)(T a₀:Array Value)(listed:Array Bool)(tm:Array Value):Prop where
 size:tm.size=T.size
 on:∀i t,i<ops.size->listed.getD i false=true->dstOf ops i=some t->tm[t]?=T[t]?
 off:∀t,(∀i,i<ops.size->listed.getD i false=true->dstOf ops i≠some t)->tm[t]?=a₀[t]?
section
variable {P:Program} {main:Bool} {γ:Type} {J:γ->Goroutine->World->Prop}
theorem idle_go(hJ:JS P main (λ_=>none) J){b:Frame}{k:List Item}{cs:List Frame}(hb:b.kind≠.early){ops:Array Oper}{n:Nat}{same:List Nat}(hok:IdleOk P ops n same){T a₀:Array Value}{ds:List Deferred}{s:γ}{w:World}(hT:T.size=n)
 (hsame:∀t,t∈same->a₀[t]?=T[t]?) (hout:∀t,(∀i,i<ops.size->dstOf ops i≠some t)->T[t]?=a₀[t]?)
 (hval:∀i o,i<ops.size->ops[i]?=some o->(∃v d,o.dst=some d/\T[d]?=some v/\∀τ dd,(execOp (Act.mk T []).eval o).run P (re w τ dd)=.ok (.value v) (re w τ dd))\/(o.dst=none/\∀τ dd,(execOp (Act.mk T []).eval o).run P (re w τ dd)=.ok .skip (re w τ dd)))
 (hlast:J s (G (b.at ⟨T,ds⟩ (.inRegion ops []::k)) cs) w):
 ∀(fuel t:Nat)(listed:Array Bool)(tm:Array Value),listed.size=ops.size->left listed=fuel->
  (∀i o e,i<ops.size->ops[i]?=some o->listed.getD i false=true->e∈o.after->Region.binds .any e=true->listed.getD e.on false=true)->Agree2 ops T a₀ listed tm->
  J s (G (b.at ⟨tm,ds⟩ (.inRegion ops (Region.linearise.go .any ops fuel t listed [])::k)) cs) w:=by
 intro fuel
 induction fuel with
 |zero=>
  intro t listed tm hsz hl hclosed hag;have hall:∀i,i<ops.size->listed.getD i false=true:=λi hi=>by
   have hlt:i<listed.size:=by omega
   cases hv:listed[i]with
   |true=>simp[hlt,hv]
   |false=>have:=zq5n (listed:=listed) (i:=i) (by simp[hlt,hv]);omega
  have htm:tm=T:=by
   apply Array.ext_getElem?;intro x
   by_cases hx:∃j,j<ops.size/\dstOf ops j=some x
   . obtain⟨j,hj,hd⟩:=hx;exact hag.on j x hj (hall j hj) hd
   . rw[hag.off x (λj hj _ hd=>hx ⟨j,hj,hd⟩),hout x λj hj hd=>hx ⟨j,hj,hd⟩]
  rw[htm];exact hlast
 |succ fuel ih=>
  intro t listed tm hsz hl hclosed hag;simp only[Region.linearise.go];change J s (G (b.at ⟨tm,ds⟩ (.inRegion ops (match (Region.ready .any ops listed)[t % (Region.ready .any ops listed).length]? with
   |some i=>Region.linearise.go .any ops fuel (t / (Region.ready .any ops listed).length) (listed.setIfInBounds i true) [i]
   |none=>[].reverse)::k)) cs) w
  have hun:∃i,listed.getD i true=false:=by
   refine Classical.byContradiction λhn=>?_;have:left listed=0:=by
    unfold left;rw[List.length_eq_zero_iff,List.filter_eq_nil_iff];intro x hx hxx;obtain⟨i,hi,rfl⟩:=List.getElem_of_mem hx;have hi':i<listed.size:=by simpa using hi
    have e:listed.toList[i]=listed[i]:=by simp
    rw[e]at hxx;exact hn ⟨i,by simp[hi'];simpa using hxx⟩
   omega
  have hready:∃i,i∈Region.ready .any ops listed:=by
   have:∀m i,m=i->listed.getD i true=false->∃j,j∈Region.ready .any ops listed:=by
    intro m
    induction m using Nat.strongRecOn with
    |_ m ihm=>
     intro i hi hun;subst hi;have hops:m<ops.size:=by have:=zq1o hun;omega
     by_cases hall:∀e∈(ops[m]'hops).after,Region.binds .any e=true->listed.getD e.on false=true
     . exact⟨m,mem_ready.2 ⟨hun,_,Array.getElem?_eq_getElem hops,hall⟩⟩
     . obtain⟨e,he⟩:=Classical.not_forall.1 hall;obtain⟨h1,he⟩:=Classical.not_imp.1 he;obtain⟨h2,he⟩:=Classical.not_imp.1 he;have hlt':=hok.back m _ e hops (Array.getElem?_eq_getElem hops) h1 h2;refine ihm e.on hlt' e.on rfl ?_;have:e.on<listed.size:=by omega
       simp[this]at he |-;exact he
   obtain⟨i,hi⟩:=hun;exact this i i rfl hi
  cases hi:(Region.ready .any ops listed)[t % (Region.ready .any ops listed).length]? with
  |none=>
   exfalso;obtain⟨i,hi'⟩:=hready;have hpos:0<(Region.ready .any ops listed).length:=List.length_pos_of_mem hi';have hlt:=Nat.mod_lt t hpos;rw[List.getElem?_eq_none_iff]at hi;omega
  |some i=>
   have hmem:=List.mem_of_getElem? hi;obtain⟨hun,o,ho,hall⟩:=mem_ready.1 hmem;have hilt:i<ops.size:=by have:=zq1o hun;omega
   simp only[];rw[linearise_go_acc,List.reverse_singleton,List.singleton_append];obtain⟨o',ho',hok',hcv,hguard,hdn⟩:=hok.plain i hilt;rw[ho]at ho';obtain rfl:=Option.some.inj ho';have hex:execOp (Act.mk tm ds).eval o=execOp (Act.mk T []).eval o:=by
    refine execOp_congr o (λcs b h=>by rw[h]at hok';cases hok') λx hx=>zq4k λt ht=>?_
    by_cases hxt:∃j,j<ops.size/\dstOf ops j=some t
    . obtain⟨j,hj,hd⟩:=hxt;rcases hok.looks i o x t j hilt ho hx ht hj hd with hs|hwt
      . by_cases hl':listed.getD j false=true
        . exact hag.on j t hj hl' hd
        . refine(hag.off t λq hq hlq hdq=>?_).trans (hsame t hs);rcases Nat.lt_trichotomy q j with h|h|h
          . exact hok.apart j q t hj h hd hdq
          . exact hl' (h▸hlq)
          . exact hok.apart q j t hq h hdq hd
      . obtain⟨oi,hoi,e,he1,he2,he3⟩:=waits_iff.1 hwt;rw[ho]at hoi;obtain rfl:=Option.some.inj hoi;subst he3;exact hag.on e.on t hj (hall e he1 he2) hd
    . rw[hag.off t (λj hj _ hd=>hxt ⟨j,hj,hd⟩),hout t λj hj hd=>hxt ⟨j,hj,hd⟩]
   have hw:Region.wanted o (yielded ops (Act.mk tm ds).tmps)=true:=by simp[Region.wanted,hguard]
   have htame:tame P true (execOp (Act.mk T []).eval o):=(zq1n (A:=λ_=>false) (λf h=>by cases h) o hok' _ (λf=>rfl)).1;have hld:left (listed.setIfInBounds i true)+1=left listed:=zq4p hun;have hclosed':∀j oj e,j<ops.size->ops[j]?=some oj->(listed.setIfInBounds i true).getD j false=true->e∈oj.after->Region.binds .any e=true->(listed.setIfInBounds i true).getD e.on false=true:=by
    intro j oj e hj hoj hlj he hbe;refine getD_set_true ?_
    by_cases hji:i=j
    . subst hji;rw[ho]at hoj;obtain rfl:=Option.some.inj hoj;exact hall e he hbe
    . rw[getD_set_ne false hji]at hlj;exact hclosed j oj e hj hoj hlj he hbe
   refine zq1t hb hJ ho hw λτ dd=>?_;rw[hex];obtain⟨h1,h2⟩:=zq4l (Kc:=λ_=>none) htame rfl (re w τ dd);refine⟨h1,h2,?_⟩;rcases hval i o hilt ho with⟨v,d,hdst,hTv,hrun⟩|⟨hdst,hrun⟩
   . have hdi:dstOf ops i=some d:=by unfold dstOf;rw[ho];exact hdst
     rw[hrun];show J s (G (b.at (Act.put ⟨tm,ds⟩ o.dst v) _) cs) (re w τ dd);rw[hdst];refine hJ.re' _ _ _ _ _ ?_;show J s (G (b.at ⟨tm.setIfInBounds d v,ds⟩ _) cs) w;refine ih _ _ _ (by simpa using hsz) (by omega) hclosed' ?_;refine⟨by simpa using hag.size,λj t hj hlj hd=>?_,λt ht=>?_⟩
     . by_cases htd:d=t
       . subst htd;have:d<tm.size:=by rw[hag.size,hT];exact hdn d hdst
         simp[this,hTv]
       . rw[al_gn htd]
         by_cases hji:i=j
         . subst hji;rw[hdi]at hd;exact absurd (Option.some.inj hd) htd
         . rw[getD_set_ne false hji]at hlj;exact hag.on j t hj hlj hd
     . have htd:d≠t:=by
        intro e;subst e;refine ht i hilt ?_ hdi;have:=zq1o hun;simp[this]
       rw[al_gn htd];refine hag.off t λj hj hlj=>?_;exact ht j hj (getD_set_true hlj)
   . have hdi:dstOf ops i=none:=by unfold dstOf;rw[ho];exact hdst
     rw[hrun];show J s (G (b.at (Act.put ⟨tm,ds⟩ o.dst undef) _) cs) (re w τ dd);rw[hdst];refine hJ.re' _ _ _ _ _ ?_;show J s (G (b.at ⟨tm,ds⟩ _) cs) w;refine ih _ _ _ (by simpa using hsz) (by omega) hclosed' ?_;refine⟨hag.size,λj t hj hlj hd=>?_,λt ht=>?_⟩
     . by_cases hji:i=j
       . subst hji;rw[hdi]at hd;cases hd
       . rw[getD_set_ne false hji]at hlj;exact hag.on j t hj hlj hd
     . exact hag.off t λj hj hlj=>ht j hj (getD_set_true hlj)
theorem at_idle(hJ:JS P main (λ_=>none) J){b:Frame}{k:List Item}{cs:List Frame}(hb:b.kind≠.early)(hm:P.follows .mixedOrders=true){id:Nat}{ops:Array Oper}{a:Act}{s:γ}{w:World}(same:List Nat)(T:Array Value)
 (hok:idleOk P ops a.tmps.size same=true) (hT:T.size=a.tmps.size) (hsame:∀t,t∈same->a.tmps[t]?=T[t]?) (hout:∀t,(∀i,i<ops.size->dstOf ops i≠some t)->T[t]?=a.tmps[t]?)
 (hval:∀i o,i<ops.size->ops[i]?=some o->(∃v d,o.dst=some d/\T[d]?=some v/\∀τ dd,(execOp (Act.mk T []).eval o).run P (re w τ dd)=.ok (.value v) (re w τ dd))\/(o.dst=none/\∀τ dd,(execOp (Act.mk T []).eval o).run P (re w τ dd)=.ok .skip (re w τ dd)))
 (hlast:J s (G (b.at ⟨T,a.defers⟩ (.inRegion ops []::k)) cs) w):J s (G (b.at a (.code (.region id ops true)::k)) cs) w:=by
 refine hJ.step _ _ _ rfl λτ d=>⟨_,_,#[],stepG_region_draw,?_,by simp,?_⟩
 . exact OkD.refl _ _ _
 . refine hJ.re' s _ w τ (d+1) ?_;simp only[Region.schedule,hm,Bool.true_or,if_true,Region.linearise];refine idle_go hJ hb (zqco hok) (a₀:=a.tmps) (T:=T) hT hsame hout hval hlast _ _ _ _ (by simp) ?_ ?_ ?_
   . unfold left;simp
   . intro i o e hi ho hl;simp[hi]at hl
   . refine⟨hT.symm,λi t hi hl=>?_,λt _=>rfl⟩;simp[hi]at hl
end
end Go.Car
namespace Go.Car
open Go Go.Conc Go.RowKit
open Go.ConcN (upd upd_ne upd_same)
section
variable {P:Program} {main:Bool} {γ:Type} {J:γ->Goroutine->World->Prop}
theorem zq2m(hJ:JS P main (λ_=>none) J){b:Frame}{k:List Item}{cs:List Frame}(hb:b.kind≠.early){ops:Array Oper}{i:Nat}{rest:List Nat}{o:Oper}{s:γ}{T:Array Value}{ds:List Deferred}{w:World}{d:Tmp}
 (ho:ops[i]?=some o) (hok:okOp P (λ_=>false) o.op=true) (hw:Region.wanted o (yielded ops T)=true) (hd:o.dst=some d)
 (hr:∀τ dd,∃v w',(execOp (Act.mk T []).eval o).run P (re w τ dd)=.ok (.value v) w'/\J s (G (b.at ⟨T.setIfInBounds d v,ds⟩ (.inRegion ops rest::k)) cs) w'):J s (G (b.at ⟨T,ds⟩ (.inRegion ops (i::rest)::k)) cs) w:=by
 refine zq1t hb hJ ho hw λτ dd=>?_;have htame:tame P true (execOp (Act.mk T ds).eval o):=(zq1n (A:=λ_=>false) (λf h=>by cases h) o hok _ (λf=>rfl)).1;obtain⟨h1,h2⟩:=zq4l (Kc:=λ_=>none) htame rfl (re w τ dd);refine⟨h1,h2,?_⟩;obtain⟨v,w',hrun,h⟩:=hr τ dd;have hrun':(execOp (Act.mk T ds).eval o).run P (re w τ dd)=.ok (.value v) w':=hrun;rw[hrun'];show J s (G (b.at (Act.put ⟨T,ds⟩ o.dst v) _) cs) w';rw[hd];exact h
theorem zq4d(hJ:JS P main (λ_=>none) J){b:Frame}{k:List Item}{cs:List Frame}(hb:b.kind≠.early){ops:Array Oper}{i:Nat}{rest:List Nat}{o:Oper}{s:γ}{T:Array Value}{ds:List Deferred}{w:World}
 (ho:ops[i]?=some o) (hok:okOp P (λ_=>false) o.op=true) (hw:Region.wanted o (yielded ops T)=true) (hd:o.dst=none)
 (hr:∀τ dd,∃w',(execOp (Act.mk T []).eval o).run P (re w τ dd)=.ok .skip w'/\J s (G (b.at ⟨T,ds⟩ (.inRegion ops rest::k)) cs) w'):J s (G (b.at ⟨T,ds⟩ (.inRegion ops (i::rest)::k)) cs) w:=by
 refine zq1t hb hJ ho hw λτ dd=>?_;have htame:tame P true (execOp (Act.mk T ds).eval o):=(zq1n (A:=λ_=>false) (λf h=>by cases h) o hok _ (λf=>rfl)).1;obtain⟨h1,h2⟩:=zq4l (Kc:=λ_=>none) htame rfl (re w τ dd);refine⟨h1,h2,?_⟩;obtain⟨w',hrun,h⟩:=hr τ dd;have hrun':(execOp (Act.mk T ds).eval o).run P (re w τ dd)=.ok .skip w':=hrun;rw[hrun'];show J s (G (b.at (Act.put ⟨T,ds⟩ o.dst undef) _) cs) w';rw[hd];exact h
def backOk(P:Program)(ops:Array Oper):Bool:=(List.range ops.size).all λi=>match ops[i]? with
 |some o=>okOp P (λ_=>false) o.op&&o.guard.isNone&&o.after.all (λe=>!Region.binds .any e || decide (e.on<i))
 |none=>false
theorem zq6m(hJ:JS P main (λ_=>none) J){b:Frame}{k:List Item}{cs:List Frame}(hb:b.kind≠.early)(hm:P.follows .mixedOrders=true){id:Nat}{ops:Array Oper}{T₀:Array Value}{ds:List Deferred}{s:γ}{w:World}(I:(Nat->Bool)->Array Value->World->Prop)
 (hback:backOk P ops=true) (hre:∀L T w τ d,I L T w->I L T (re w τ d)) (hI:I (λ_=>false) T₀ w)
 (hstep:∀(L:Nat->Bool)(T:Array Value)(w:World)(i:Nat)(o:Oper),I L T w->L i=false->ops[i]?=some o->(∀e∈o.after,Region.binds .any e=true->L e.on=true)->
  (∃d,o.dst=some d/\∃v w',(execOp (Act.mk T []).eval o).run P w=.ok (.value v) w'/\I (upd L i true) (T.setIfInBounds d v) w')\/(o.dst=none/\∃w',(execOp (Act.mk T []).eval o).run P w=.ok .skip w'/\I (upd L i true) T w'))
 (hend:∀L T w,(∀i,i<ops.size->L i=true)->I L T w->J s (G (b.at ⟨T,ds⟩ (.inRegion ops []::k)) cs) w):J s (G (b.at ⟨T₀,ds⟩ (.code (.region id ops true)::k)) cs) w:=by
 have hb':∀i o,ops[i]?=some o->okOp P (λ_=>false) o.op=true/\o.guard=none/\∀e∈o.after,Region.binds .any e=true->e.on<i:=by
  intro i o ho;have hlt:=(Array.getElem?_eq_some_iff.1 ho).1;unfold backOk at hback;rw[List.all_eq_true]at hback;have:=hback i (List.mem_range.2 hlt);rw[ho]at this;simp only[Bool.and_eq_true,Option.isNone_iff_eq_none,Array.all_eq_true_iff_forall_mem]at this;exact⟨this.1.1,this.1.2,λe he hbe=>by have:=this.2 e he;simpa[hbe]using this⟩
 have key:∀(fuel t:Nat)(listed:Array Bool)(L:Nat->Bool)(T:Array Value)(w:World),listed.size=ops.size->left listed=fuel->(∀i,i<ops.size->listed.getD i false=L i)->I L T w->
  J s (G (b.at ⟨T,ds⟩ (.inRegion ops (Region.linearise.go .any ops fuel t listed [])::k)) cs) w:=by
  intro fuel
  induction fuel with
  |zero=>
   intro t listed L T w hsz hl hL hi;refine hend L T w (λi hlt=>?_) hi;rw[<-hL i hlt];have hlt':i<listed.size:=by omega
   cases hv:listed[i]with
   |true=>simp[hlt',hv]
   |false=>have:=zq5n (listed:=listed) (i:=i) (by simp[hlt',hv]);omega
  |succ fuel ih=>
   intro t listed L T w hsz hl hL hi;simp only[Region.linearise.go];change J s (G (b.at ⟨T,ds⟩ (.inRegion ops (match (Region.ready .any ops listed)[t % (Region.ready .any ops listed).length]? with
    |some i=>Region.linearise.go .any ops fuel (t / (Region.ready .any ops listed).length) (listed.setIfInBounds i true) [i]
    |none=>[].reverse)::k)) cs) w
   have hun:∃i,listed.getD i true=false:=by
    refine Classical.byContradiction λhn=>?_;have:left listed=0:=by
     unfold left;rw[List.length_eq_zero_iff,List.filter_eq_nil_iff];intro x hx hxx;obtain⟨i,hi,rfl⟩:=List.getElem_of_mem hx;have hi':i<listed.size:=by simpa using hi
     have e:listed.toList[i]=listed[i]:=by simp
     rw[e]at hxx;exact hn ⟨i,by simp[hi'];simpa using hxx⟩
    omega
   have hready:∃i,i∈Region.ready .any ops listed:=by
    have:∀m i,m=i->listed.getD i true=false->∃j,j∈Region.ready .any ops listed:=by
     intro m
     induction m using Nat.strongRecOn with
     |_ m ihm=>
      intro i hi hun;subst hi;have hops:m<ops.size:=by have:=zq1o hun;omega
      by_cases hall:∀e∈(ops[m]'hops).after,Region.binds .any e=true->listed.getD e.on false=true
      . exact⟨m,mem_ready.2 ⟨hun,_,Array.getElem?_eq_getElem hops,hall⟩⟩
      . obtain⟨e,he⟩:=Classical.not_forall.1 hall;obtain⟨h1,he⟩:=Classical.not_imp.1 he;obtain⟨h2,he⟩:=Classical.not_imp.1 he;have hlt':=(hb' m _ (Array.getElem?_eq_getElem hops)).2.2 e h1 h2;refine ihm e.on hlt' e.on rfl ?_;have:e.on<listed.size:=by omega
        simp[this]at he |-;exact he
    obtain⟨i,hi⟩:=hun;exact this i i rfl hi
   cases hi':(Region.ready .any ops listed)[t % (Region.ready .any ops listed).length]? with
   |none=>
    exfalso;obtain⟨i,hi''⟩:=hready;have hpos:0<(Region.ready .any ops listed).length:=List.length_pos_of_mem hi'';have hlt:=Nat.mod_lt t hpos;rw[List.getElem?_eq_none_iff]at hi';omega
   |some i=>
    have hmem:=List.mem_of_getElem? hi';obtain⟨hun,o,ho,hall⟩:=mem_ready.1 hmem;have hilt:i<ops.size:=by have:=zq1o hun;omega
    simp only[];rw[linearise_go_acc,List.reverse_singleton,List.singleton_append];obtain⟨hok,hg,hbk⟩:=hb' i o ho;have hLi:L i=false:=by
     rw[<-hL i hilt];have hlt':i<listed.size:=by omega
     simp[hlt']at hun |-;exact hun
    have hw:Region.wanted o (yielded ops T)=true:=by simp[Region.wanted,hg]
    have hld:left (listed.setIfInBounds i true)+1=left listed:=zq4p hun;have hL':∀j,j<ops.size->(listed.setIfInBounds i true).getD j false=upd L i true j:=λj hj=>by
     by_cases e:i=j
     . subst e;have:i<listed.size:=by omega
       rw[upd_same];simp[this]
     . rw[getD_set_ne false e,upd_ne _ _ (λx=>e x.symm)];exact hL j hj
    have hall':∀e∈o.after,Region.binds .any e=true->L e.on=true:=λe he hbe=>by
     rw[<-hL e.on (by have:=hbk e he hbe;omega)];exact hall e he hbe
    have hst:=λτ dd=>hstep L T (re w τ dd) i o (hre _ _ _ τ dd hi) hLi ho hall';cases hdst:o.dst with
    |some d=>
     refine zq2m hJ hb ho hok hw hdst λτ dd=>?_;rcases hst τ dd with⟨d',hd',v,w',hr,hI'⟩|⟨hd',_⟩
     . rw[hdst]at hd';obtain rfl:=Option.some.inj hd';exact⟨v,w',hr,ih _ _ (upd L i true) _ _ (by simpa using hsz) (by omega) hL' hI'⟩
     . rw[hdst]at hd';cases hd'
    |none=>
     refine zq4d hJ hb ho hok hw hdst λτ dd=>?_;rcases hst τ dd with⟨d',hd',_⟩|⟨hd',w',hr,hI'⟩
     . rw[hdst]at hd';cases hd'
     . exact⟨w',hr,ih _ _ (upd L i true) _ _ (by simpa using hsz) (by omega) hL' hI'⟩
 refine hJ.step _ _ _ rfl λτ d=>⟨_,_,#[],stepG_region_draw (a:=⟨T₀,ds⟩),?_,by simp,?_⟩
 . exact OkD.refl _ _ _
 . refine hJ.re' s _ w τ (d+1) ?_;simp only[Region.schedule,hm,Bool.true_or,if_true,Region.linearise];refine key _ _ _ (λ_=>false) _ _ (by simp) ?_ (λi hi=>by simp[hi]) hI;unfold left;simp
end
section
variable {P:Program} {main:Bool} {Kc:Addr->Option Value} {γ:Type} {J:γ->Goroutine->World->Prop}
end
end Go.Car
namespace Go.Car
open Go Go.Conc Go.RowKit
section
variable {P:Program} {main:Bool} {Kc:Addr->Option Value} {γ:Type} {J:γ->Goroutine->World->Prop}
end
end Go.Car
namespace Go.Car
open Go Go.RowKit
def zq2y(P:Program)(a:Act)(o:Oper)(W:World)(v:Value)(W':World):Prop:=
 (execOp a.eval o).run P W=.ok (.value v) W'\/∃f args,(execOp a.eval o).run P W=.ok (.enter f args) W/\Calls P f args W λe w'=>e=.returned v/\w'=W'
def chkV(ops:Array Oper)(k n:Nat):Bool:=
 (List.range k).all (λi=>match ops[i]? with
  |some o=>o.guard.isNone&&(match o.dst with|some d=>decide (d<n)|none=>false)&&(match o.op with|.select .. =>false|_=>true)&&
   o.op.operands.all (λx=>match tmpOf x with
    |some t=>(List.range k).all λj=>dstOf ops j !=some t || waits ops i j
    |none=>true)
  |none=>false)&&
 (List.range k).all (λi=>(List.range i).all λj=>dstOf ops i !=dstOf ops j)
section
variable {P:Program} {ops:Array Oper}
theorem zq6c{a a':Act}{o:Oper}{W W':World}{v:Value}{K:Act->World->Prop}{Q:Exit->Act->World->Prop}(he:execOp a.eval o=execOp a'.eval o)(h:zq2y P a' o W v W')(hK:K (a.put o.dst v) W'):o.wp P a W K Q:=by
 unfold Oper.wp;rw[he];rcases h with h|⟨f,args,h,hc⟩
 . rw[h];exact hK
 . rw[h];refine Calls.mono hc ?_;rintro e w' ⟨rfl,rfl⟩;exact hK
theorem zqaw{id k s:Nat}{Q':Exit->Act->World->Prop}{T₀:Array Value}{ds:List Deferred}{w W0 W1:World}(hm:P.follows .mixedOrders=true)(hback:backB .any ops k=true)(hwait:zq2l .any ops k=true)(hchk:chkV ops k T₀.size=true)(hsk:s<k)
 (vals:List Value) (hlen:vals.length=k) (h0:W0={w with drawn:=w.drawn+1})
 (hread:∀i o,i<k->i≠s->ops[i]?=some o->∀W,W=W0\/W=W1->zq2y P ⟨putv ops vals 0 T₀,[]⟩ o W (vals.getD i undef) W)
 (hone:∀o,ops[s]?=some o->zq2y P ⟨putv ops vals 0 T₀,[]⟩ o W0 (vals.getD s undef) W1)
 (hend:wpAny P .any ops Q' (ops.size - k) (Array.ofFn λi:Fin ops.size=>decide (i.val<k)) ⟨putv ops vals 0 T₀,ds⟩ W1):(Code.region id ops true).wp P Q' ⟨T₀,ds⟩ w:=by
 have hk:k<=ops.size:=by
  have:=hback;unfold backB at this;simp only[Bool.and_eq_true,decide_eq_true_eq]at this;exact this.1
 unfold chkV at hchk;simp only[Bool.and_eq_true,List.all_eq_true,List.mem_range]at hchk;obtain⟨h1,h2⟩:=hchk;have plain:∀i,i<k->∃o d,ops[i]?=some o/\o.guard=none/\o.dst=some d/\dstOf ops i=some d/\d<T₀.size/\(∀cs b,o.op≠.select cs b)/\∀x∈o.op.operands,∀t,tmpOf x=some t->∀j,j<k->dstOf ops j=some t->waits ops i j=true:=λi hi=>by
  have:=h1 i hi;cases ho:ops[i]? with
  |none=>rw[ho]at this;cases this
  |some o=>
   rw[ho]at this;simp only[Bool.and_eq_true]at this;obtain⟨⟨⟨a1,a2⟩,a3⟩,a4⟩:=this;cases hd:o.dst with
   |none=>rw[hd]at a2;cases a2
   |some d=>
    rw[hd]at a2;refine⟨o,d,rfl,Option.isNone_iff_eq_none.1 a1,hd,by unfold dstOf;rw[ho];exact hd,by simpa using a2,(λcs b h=>by rw[h]at a3;cases a3),λx hx t ht j hj hdj=>?_⟩;rw[Array.all_eq_true_iff_forall_mem]at a4;have:=a4 x hx;rw[ht]at this;simp only[List.all_eq_true,List.mem_range]at this;have:=this j hj;simpa[hdj]using this
 have apart:∀(i j:Nat)(d:Tmp),i<k->j<k->dstOf ops i=some d->dstOf ops j=some d->i=j:=λi j d hi hj hd hd'=>by
  rcases Nat.lt_trichotomy i j with h|h|h
  . have:=h2 j hj i h;rw[hd,hd']at this;simp at this
  . exact h
  . have:=h2 i hi j h;rw[hd,hd']at this;simp at this
 have hTs:(putv ops vals 0 T₀).size=T₀.size:=zq4x _ _ _;have final:∀i x,i<k->dstOf ops i=some x->(putv ops vals 0 T₀)[x]?=some (vals.getD i undef):=λi x hi hd=>by
  obtain⟨o,d,ho,_,_,hd',hlt,_⟩:=plain i hi;rw[hd]at hd';obtain rfl:=Option.some.inj hd';refine zq5s vals 0 _ i _ x (by simp[hlen,hi]) (by rw[Nat.zero_add];exact hd) hlt λm a b e=>?_;have:=apart m i x (by omega) hi e hd;omega
 refine zqav hm hback hwait (λL a w'=>a.defers=ds/\a.tmps.size=T₀.size/\(∀t,(∀j,j<k->dstOf ops j≠some t)->a.tmps[t]?=T₀[t]?)/\(∀j t,j<k->dstOf ops j=some t->L.getD j false=true->a.tmps[t]?=(putv ops vals 0 T₀)[t]?)/\w'=if L.getD s false=true then W1 else W0) ?_ ?_ ?_
 . refine⟨rfl,rfl,λ_ _=>rfl,λj t _ _ hl=>?_,?_⟩
   . exfalso;simp[al_gd,Array.getElem?_replicate]at hl;split at hl<;>simp at hl
   . rw[if_neg,h0];intro hl;simp[al_gd,Array.getElem?_replicate]at hl;split at hl<;>simp at hl
 . rintro L a w' i hL hi hun hdep ⟨hd,hsz,hout,hin,hw'⟩;obtain⟨o,d,ho,hg,hdst,hdo,hlt,hsel,hops⟩:=plain i hi;have hun':L.getD i false=false:=by
    have:i<L.size:=by omega
    simp[this]at hun |-;exact hun
   have hex:execOp a.eval o=execOp (Act.mk (putv ops vals 0 T₀) []).eval o:=by
    obtain⟨tm,dd⟩:=a;refine execOp_congr o hsel λx hx=>zq4k λt ht=>?_
    by_cases hxt:∃j,j<k/\dstOf ops j=some t
    . obtain⟨j,hj,hdj⟩:=hxt;obtain⟨oi,hoi,e,he1,he2,he3⟩:=waits_iff.1 (hops x hx t ht j hj hdj);subst he3;exact hin e.on t hj hdj (hdep oi hoi e he1 he2)
    . have hno:∀j,j<k->dstOf ops j≠some t:=λj hj hd=>hxt ⟨j,hj,hd⟩;rw[hout t hno];refine(zq39 vals 0 _ t λj _ hj=>hno j (by omega)).symm
   have hwan:Region.wanted o (yielded ops a.tmps)=true:=by simp[Region.wanted,hg]
   have hnext:∀W',(if(L.setIfInBounds i true).getD s false=true then W1 else W0)=W'->(a.put o.dst (vals.getD i undef)).defers=ds/\(a.put o.dst (vals.getD i undef)).tmps.size=T₀.size/\(∀t,(∀j,j<k->dstOf ops j≠some t)->(a.put o.dst (vals.getD i undef)).tmps[t]?=T₀[t]?)/\
    (∀j t,j<k->dstOf ops j=some t->(L.setIfInBounds i true).getD j false=true->(a.put o.dst (vals.getD i undef)).tmps[t]?=(putv ops vals 0 T₀)[t]?)/\W'=if(L.setIfInBounds i true).getD s false=true then W1 else W0:=by
    intro W' hW;rw[hdst];refine⟨hd,by simp[Act.put,hsz],λt ht=>?_,λj t hj hdj hl=>?_,hW.symm⟩
    . have:d≠t:=λe=>ht i hi (e▸hdo);simp only[Act.put];rw[al_gn this];exact hout t ht
    . by_cases e:d=t
      . subst e;rw[final i d hi hdo];have:d<a.tmps.size:=by rw[hsz];exact hlt
        simp[Act.put,this]
      . simp only[Act.put];rw[al_gn e];have hji:i≠j:=λe2=>by subst e2;rw[hdo]at hdj;exact e (Option.some.inj hdj)
        rw[getD_set_ne false hji]at hl;exact hin j t hj hdj hl
   unfold wpOp;simp only[ho,hwan,if_true];refine .inl ?_
   by_cases his:i=s
   . subst his;rw[hun']at hw';simp only[Bool.false_eq_true,if_false]at hw';subst hw';refine zq6c hex (hone o ho) (hnext W1 ?_);have:i<L.size:=by omega
     simp[this]
   . have hg':(L.setIfInBounds i true).getD s false=L.getD s false:=getD_set_ne false his;refine zq6c hex (hread i o hi his ho w' ?_) (hnext w' ?_)
     . rw[hw'];split
       . exact .inr rfl
       . exact .inl rfl
     . rw[hg'];exact hw'.symm
 . rintro⟨T,dd⟩ w' ⟨hd,hsz,hout,hin,hw'⟩;have hL:∀j,j<k->(Array.ofFn λi:Fin ops.size=>decide (i.val<k)).getD j false=true:=λj hj=>by
    have:j<ops.size:=by omega
    simp[this,hj]
   rw[if_pos (hL s hsk)]at hw';subst hw';simp only at hd hsz hout hin;subst hd;have:T=putv ops vals 0 T₀:=by
    apply Array.ext_getElem?;intro x
    by_cases hx:∃j,j<k/\dstOf ops j=some x
    . obtain⟨j,hj,hdj⟩:=hx;exact hin j x hj hdj (hL j hj)
    . have hno:∀j,j<k->dstOf ops j≠some x:=λj hj hd=>hx ⟨j,hj,hd⟩;rw[hout x hno];exact(zq39 vals 0 _ x λj _ hj=>hno j (by omega)).symm
   rw[this];exact hend
end
section
variable {P:Program} {ops:Array Oper}
theorem zqjz{id k:Nat}{Q':Exit->Act->World->Prop}{T₀:Array Value}{ds:List Deferred}{w W0:World}(hm:P.follows .mixedOrders=true)(hback:backB .any ops k=true)(hwait:zq2l .any ops k=true)(hchk:chkV ops k T₀.size=true)
 (vals:List Value) (hlen:vals.length=k) (h0:W0={w with drawn:=w.drawn+1})
 (WW:Array Bool->World) (hW0:WW (Array.replicate ops.size false)=W0)
 (hstep:∀(L:Array Bool)i o,L.size=ops.size->i<k->L.getD i false=false->ops[i]?=some o->(∀e∈o.after,Region.binds .any e=true->L.getD e.on false=true)->(∀j oj,ops[j]?=some oj->L.getD j false=true->∀e∈oj.after,Region.binds .any e=true->L.getD e.on false=true)->zq2y P ⟨putv ops vals 0 T₀,[]⟩ o (WW L) (vals.getD i undef) (WW (L.setIfInBounds i true)))
 (hend:wpAny P .any ops Q' (ops.size - k) (Array.ofFn λi:Fin ops.size=>decide (i.val<k)) ⟨putv ops vals 0 T₀,ds⟩ (WW (Array.ofFn λi:Fin ops.size=>decide (i.val<k)))):(Code.region id ops true).wp P Q' ⟨T₀,ds⟩ w:=by
 have hk:k<=ops.size:=by
  have:=hback;unfold backB at this;simp only[Bool.and_eq_true,decide_eq_true_eq]at this;exact this.1
 unfold chkV at hchk;simp only[Bool.and_eq_true,List.all_eq_true,List.mem_range]at hchk;obtain⟨h1,h2⟩:=hchk;have plain:∀i,i<k->∃o d,ops[i]?=some o/\o.guard=none/\o.dst=some d/\dstOf ops i=some d/\d<T₀.size/\(∀cs b,o.op≠.select cs b)/\∀x∈o.op.operands,∀t,tmpOf x=some t->∀j,j<k->dstOf ops j=some t->waits ops i j=true:=λi hi=>by
  have:=h1 i hi;cases ho:ops[i]? with
  |none=>rw[ho]at this;cases this
  |some o=>
   rw[ho]at this;simp only[Bool.and_eq_true]at this;obtain⟨⟨⟨a1,a2⟩,a3⟩,a4⟩:=this;cases hd:o.dst with
   |none=>rw[hd]at a2;cases a2
   |some d=>
    rw[hd]at a2;refine⟨o,d,rfl,Option.isNone_iff_eq_none.1 a1,hd,by unfold dstOf;rw[ho];exact hd,by simpa using a2,(λcs b h=>by rw[h]at a3;cases a3),λx hx t ht j hj hdj=>?_⟩;rw[Array.all_eq_true_iff_forall_mem]at a4;have:=a4 x hx;rw[ht]at this;simp only[List.all_eq_true,List.mem_range]at this;have:=this j hj;simpa[hdj]using this
 have apart:∀(i j:Nat)(d:Tmp),i<k->j<k->dstOf ops i=some d->dstOf ops j=some d->i=j:=λi j d hi hj hd hd'=>by
  rcases Nat.lt_trichotomy i j with h|h|h
  . have:=h2 j hj i h;rw[hd,hd']at this;simp at this
  . exact h
  . have:=h2 i hi j h;rw[hd,hd']at this;simp at this
 have hTs:(putv ops vals 0 T₀).size=T₀.size:=zq4x _ _ _;have final:∀i x,i<k->dstOf ops i=some x->(putv ops vals 0 T₀)[x]?=some (vals.getD i undef):=λi x hi hd=>by
  obtain⟨o,d,ho,_,_,hd',hlt,_⟩:=plain i hi;rw[hd]at hd';obtain rfl:=Option.some.inj hd';refine zq5s vals 0 _ i _ x (by simp[hlen,hi]) (by rw[Nat.zero_add];exact hd) hlt λm a b e=>?_;have:=apart m i x (by omega) hi e hd;omega
 refine zqav hm hback hwait (λL a w'=>a.defers=ds/\a.tmps.size=T₀.size/\(∀t,(∀j,j<k->dstOf ops j≠some t)->a.tmps[t]?=T₀[t]?)/\(∀j t,j<k->dstOf ops j=some t->L.getD j false=true->a.tmps[t]?=(putv ops vals 0 T₀)[t]?)/\w'=WW L/\(∀j oj,ops[j]?=some oj->L.getD j false=true->∀e∈oj.after,Region.binds .any e=true->L.getD e.on false=true)) ?_ ?_ ?_
 . refine⟨rfl,rfl,λ_ _=>rfl,λj t _ _ hl=>?_,?_⟩
   . exfalso;simp[al_gd,Array.getElem?_replicate]at hl;split at hl<;>simp at hl
   . refine⟨by rw[hW0,h0],λj oj _ hl=>?_⟩;exfalso;simp[al_gd,Array.getElem?_replicate]at hl;split at hl<;>simp at hl
 . rintro L a w' i hL hi hun hdep ⟨hd,hsz,hout,hin,hw',hcl⟩;obtain⟨o,d,ho,hg,hdst,hdo,hlt,hsel,hops⟩:=plain i hi;have hun':L.getD i false=false:=by
    have:i<L.size:=by omega
    simp[this]at hun |-;exact hun
   have hex:execOp a.eval o=execOp (Act.mk (putv ops vals 0 T₀) []).eval o:=by
    obtain⟨tm,dd⟩:=a;refine execOp_congr o hsel λx hx=>zq4k λt ht=>?_
    by_cases hxt:∃j,j<k/\dstOf ops j=some t
    . obtain⟨j,hj,hdj⟩:=hxt;obtain⟨oi,hoi,e,he1,he2,he3⟩:=waits_iff.1 (hops x hx t ht j hj hdj);subst he3;exact hin e.on t hj hdj (hdep oi hoi e he1 he2)
    . have hno:∀j,j<k->dstOf ops j≠some t:=λj hj hd=>hxt ⟨j,hj,hd⟩;rw[hout t hno];refine(zq39 vals 0 _ t λj _ hj=>hno j (by omega)).symm
   have hwan:Region.wanted o (yielded ops a.tmps)=true:=by simp[Region.wanted,hg]
   have hnext:∀W',WW (L.setIfInBounds i true)=W'->(a.put o.dst (vals.getD i undef)).defers=ds/\(a.put o.dst (vals.getD i undef)).tmps.size=T₀.size/\(∀t,(∀j,j<k->dstOf ops j≠some t)->(a.put o.dst (vals.getD i undef)).tmps[t]?=T₀[t]?)/\
    (∀j t,j<k->dstOf ops j=some t->(L.setIfInBounds i true).getD j false=true->(a.put o.dst (vals.getD i undef)).tmps[t]?=(putv ops vals 0 T₀)[t]?)/\W'=WW (L.setIfInBounds i true)/\(∀j oj,ops[j]?=some oj->(L.setIfInBounds i true).getD j false=true->∀e∈oj.after,Region.binds .any e=true->(L.setIfInBounds i true).getD e.on false=true):=by
    intro W' hW;rw[hdst];refine⟨hd,by simp[Act.put,hsz],λt ht=>?_,λj t hj hdj hl=>?_,hW.symm,λj oj hoj hl e he hb=>?_⟩
    . have:d≠t:=λe=>ht i hi (e▸hdo);simp only[Act.put];rw[al_gn this];exact hout t ht
    . by_cases e:d=t
      . subst e;rw[final i d hi hdo];have:d<a.tmps.size:=by rw[hsz];exact hlt
        simp[Act.put,this]
      . simp only[Act.put];rw[al_gn e];have hji:i≠j:=λe2=>by subst e2;rw[hdo]at hdj;exact e (Option.some.inj hdj)
        rw[getD_set_ne false hji]at hl;exact hin j t hj hdj hl
    . by_cases hji:i=j
      . subst hji;exact getD_set_true (hdep oj hoj e he hb)
      . rw[getD_set_ne false hji]at hl;exact getD_set_true (hcl j oj hoj hl e he hb)
   unfold wpOp;simp only[ho,hwan,if_true];refine .inl ?_;subst hw';exact zq6c hex (hstep L i o hL hi hun' ho (λe he hb=>hdep o ho e he hb) hcl) (hnext _ rfl)
 . rintro⟨T,dd⟩ w' ⟨hd,hsz,hout,hin,hw',_⟩;have hL:∀j,j<k->(Array.ofFn λi:Fin ops.size=>decide (i.val<k)).getD j false=true:=λj hj=>by
    have:j<ops.size:=by omega
    simp[this,hj]
   subst hw';simp only at hd hsz hout hin;subst hd;have:T=putv ops vals 0 T₀:=by
    apply Array.ext_getElem?;intro x
    by_cases hx:∃j,j<k/\dstOf ops j=some x
    . obtain⟨j,hj,hdj⟩:=hx;exact hin j x hj hdj (hL j hj)
    . have hno:∀j,j<k->dstOf ops j≠some x:=λj hj hd=>hx ⟨j,hj,hd⟩;rw[hout x hno];exact(zq39 vals 0 _ x λj _ hj=>hno j (by omega)).symm
   rw[this];exact hend
theorem zqjy{id k s t:Nat}{Q':Exit->Act->World->Prop}{T₀:Array Value}{ds:List Deferred}{w W0 W1 W2:World}(hm:P.follows .mixedOrders=true)(hback:backB .any ops k=true)(hwait:zq2l .any ops k=true)(hchk:chkV ops k T₀.size=true)(hsk:s<k)(htk:t<k)(hst:s≠t)(hts:waits ops t s=true)
 (vals:List Value) (hlen:vals.length=k) (h0:W0={w with drawn:=w.drawn+1})
 (hread:∀i o,i<k->i≠s->i≠t->ops[i]?=some o->∀W,W=W0\/W=W1\/W=W2->zq2y P ⟨putv ops vals 0 T₀,[]⟩ o W (vals.getD i undef) W)
 (hone:∀o,ops[s]?=some o->zq2y P ⟨putv ops vals 0 T₀,[]⟩ o W0 (vals.getD s undef) W1)
 (htwo:∀o,ops[t]?=some o->zq2y P ⟨putv ops vals 0 T₀,[]⟩ o W1 (vals.getD t undef) W2)
 (hend:wpAny P .any ops Q' (ops.size - k) (Array.ofFn λi:Fin ops.size=>decide (i.val<k)) ⟨putv ops vals 0 T₀,ds⟩ W2):(Code.region id ops true).wp P Q' ⟨T₀,ds⟩ w:=by
 have hk:k<=ops.size:=by
  have:=hback;unfold backB at this;simp only[Bool.and_eq_true,decide_eq_true_eq]at this;exact this.1
 have rep:∀j,(Array.replicate ops.size false).getD j false=false:=λj=>by
  simp only[al_gd,Array.getElem?_replicate];split<;>rfl
 have full:∀j,j<k->(Array.ofFn λi:Fin ops.size=>decide (i.val<k)).getD j false=true:=λj hj=>by
  have:j<ops.size:=by omega
  simp[this,hj]
 refine zqjz hm hback hwait hchk vals hlen h0 (λL=>if L.getD t false=true then W2 else if L.getD s false=true then W1 else W0) ?_ ?_ ?_
 . simp only[rep];rfl
 . intro L i o hL hi hun ho hdep hcl;have hiL:i<L.size:=by omega
   by_cases his:i=s
   . subst his;have ht:L.getD t false=false:=by
      cases h:L.getD t false with
      |false=>rfl
      |true=>
       obtain⟨oi,hoi,e,he1,he2,he3⟩:=waits_iff.1 hts;have:=hcl t oi hoi h e he1 he2;rw[he3,hun]at this;cases this
     have e1:(L.setIfInBounds i true).getD t false=L.getD t false:=getD_set_ne false hst;have e2:(L.setIfInBounds i true).getD i false=true:=by simp[hiL]
     simp only[e1,e2,ht,hun];exact hone o ho
   . by_cases hit:i=t
     . subst hit;have hs:L.getD s false=true:=by
        obtain⟨oi,hoi,e,he1,he2,he3⟩:=waits_iff.1 hts;rw[ho]at hoi;obtain rfl:=Option.some.inj hoi;rw[<-he3];exact hdep e he1 he2
       have e2:(L.setIfInBounds i true).getD i false=true:=by simp[hiL]
       simp only[e2,hs,hun];exact htwo o ho
     . have e1:(L.setIfInBounds i true).getD t false=L.getD t false:=getD_set_ne false hit;have e2:(L.setIfInBounds i true).getD s false=L.getD s false:=getD_set_ne false his;simp only[e1,e2];refine hread i o hi his hit ho _ ?_;split
       . exact .inr (.inr rfl)
       . split
         . exact .inr (.inl rfl)
         . exact .inl rfl
 . simp only[full t htk,full s hsk];exact hend
end
end Go.Car
namespace Go.Car
open Go Go.Conc Go.RowKit
structure TM(Ml S:Type)where
 bm:BM Ml
 at':Nat->Tree S Unit
 room:Nat
section
variable {Ml S:Type}
structure Came{O:Type}(C:Core Ml S)(own:Nat->S->O)(i:Nat)(r:S×Tree S Unit)(m:TM Ml S)(room:Nat)(o:Out (TM Ml S)):Prop where
 st:C.st o.mem.bm.l=r.1
 here:o.mem.at' i=r.2
 others:∀j,j≠i->o.mem.at' j=m.at' j/\o.mem.bm.box j=m.bm.box j
 room:o.mem.room=room
 oth:∀j,j≠i->own j r.1=own j (C.st m.bm.l)
 out:match r.2 with
  |.ret _=>o=.done o.mem
  |.step _ _=>o=.yield o.mem
  |.out=>False
structure Turn(P:Program)(Ml S:Type)where
 Kc:Addr->Option Value
 X:Snap
 J:Goroutine->World->Prop
 js:JX P Kc J
 m₀:TM Ml S
 w₀:World
 R:TM Ml S->Out (TM Ml S)->Prop
 room:Nat
 k:Nat
section
variable {P:Program} {A:FuncId->Bool} {O:Type} {own:Nat->S->O} {C:Core Ml S} {ro:Nat->Option Obj} {pr:Nat->Proc S Unit} {fStep:FuncId} {sx:Value} {cr:Frame} {rest:List Frame} {NE EN:List PanicEntry->Prop} {i:Nat}
end
end
end Go.Car
namespace Go.Proofs
open Go Go.Conc Go.RowKit Go.Car
@[go_sem] theorem neq_do (f : Fn) (a b : Array Value) (w : World) : (binOp .neq 96 (.func f a b) .nilFunc).run Try.prog w = .ok (.bool true) w := by rfl
def tT:AnsT:=⟨48,56,2⟩
structure DoRo(ro:Nat->Option Obj)(i N ab ob db ib hb:Nat)(sp:Option Addr)(L Cp:Nat)(ops:List OpX)(f:FuncId)(first caps:Array Value):Prop where
 ob:ro ob=some (.cells #[.slice sp L Cp] 92)
 db:ro db=some (.cells #[.func (.func f) first caps] 96)
 ib:ro ib=some (.cells #[.int .i64 i] 3)
 hb:ro hb=some (.cells #[.slice (some ⟨ab,0,none⟩) N N] 27)
 len:ops.length=L
 le:L<=65536
 lt:i<N
 leN:N<=64
 ops:∀(k:Nat)(op:OpX),ops[k]?=some op->∃g off cur e fr,sp=some ⟨g,off,none⟩/\ro g=some (.cells cur e fr)/\∀j,j<4->cur[off+k*4+j]?=op.cells[j]?
section
variable {M1 S1:Type} {C:Core M1 S1} {ro:Nat->Option Obj} {i N ab ob db ib hb:Nat} {sp:Option Addr} {L Cp:Nat} {ops:List OpX} {f:FuncId} {first caps:Array Value} {A:FuncId->Bool} {pr:Nat->Proc (S1×(Nat->List Ans)) Unit} {fStep:FuncId} {sv sx:Value} {cr:Frame} {rest:List Frame} {NE EN:List PanicEntry->Prop} {dop:OpX->Proc (S1×(Nat->List Ans)) Ans}
end
end Go.Proofs
namespace Go.Car
open Go Go.Conc Go.RowKit
theorem zqt{w:World}{o:Obj}{b:Nat}{y:Obj}(h:w.heap[b]?=some y):(w.alloc o).heap[b]?=some y:=by
 rw[zqc,if_neg (by have:=zqi h;omega)];exact h
theorem zq13(w:World)(o:Obj):(w.alloc o).heap[w.heap.size]?=some o:=by rw[zqc,if_pos rfl]
theorem zq1v{base n:Nat}{tv:Value}{xs:List Value}{w w':World}{T:TypeId}{k:Nat}(h:w.ownsRow base T k tv n xs)(hs:∀g,tv.ownBlock=some g->w'.heap[g]?=w.heap[g]?):w'.ownsRow base T k tv n xs:=by
 refine⟨h.1,?_⟩;rcases h.2 with hv|⟨g,cap,cur,hv,h1,h2,h3⟩
 . exact .inl hv
 . exact .inr ⟨g,cap,cur,hv,h1,(hs g (by rw[hv];rfl)).trans h2,h3⟩
theorem zq3u{w:World}{B B' n k:Nat}{T:TypeId}{v:Value}{xs:List Value}(h:w.ownsRow B T k v n xs)(hb:B'<=B):w.ownsRow B' T k v n xs:=by
 refine⟨h.1,?_⟩;rcases h.2 with hv|⟨g,cap,cur,hv,h1,h2⟩
 . exact .inl hv
 . exact .inr ⟨g,cap,cur,hv,Nat.le_trans hb h1,h2⟩
theorem zq7i{w:World}{b:Nat}{c c':Array Value}{T T':TypeId}{f f':Nat×Nat}(h:w.heap[b]?=some (.cells c T f))(h':w.heap[b]?=some (.cells c' T' f')):T=T':=by
 rw[h]at h';simp only[al_oi,Obj.cells.injEq]at h';exact h'.2.1
theorem zq2a{w:World}{b b':Nat}{c c':Array Value}{T T':TypeId}{f f':Nat×Nat}(h:w.heap[b]?=some (.cells c T f))(h':w.heap[b']?=some (.cells c' T' f'))(hne:T≠T'):b≠b':=λe=>by subst e;exact hne (zq7i h h')
theorem own_lt{w:World}{B k n g:Nat}{T:TypeId}{v:Value}{xs:List Value}(h:w.ownsRow B T k v n xs)(hg:v.ownBlock=some g):(∃c,w.heap[g]?=some (.cells c T))/\B<=g/\g<w.heap.size:=by
 rcases h.2 with⟨hv,_⟩|⟨g2,cap,cur,hv,hb,hh,_⟩
 . rw[hv]at hg;cases hg
 . rw[hv]at hg;simp only[Value.ownBlock,al_oi]at hg;subst hg;exact⟨⟨cur,hh⟩,hb,zqi hh⟩
theorem own_ne{base n k b:Nat}{tv:Value}{xs:List Value}{w:World}{T T':TypeId}{c:Array Value}{f:Nat×Nat}(h:w.ownsRow base T k tv n xs)(hb:w.heap[b]?=some (.cells c T' f))(hne:T≠T'):tv.ownBlock≠some b:=by
 intro e;obtain⟨⟨c2,h2⟩,_⟩:=own_lt h e;exact hne (zq7i h2 hb)
theorem zq2d{w:World}{B n k:Nat}{T:TypeId}{v:Value}{xs:List Value}(h:w.ownsRow B T k v n xs):∃p c,v=.slice p n c/\v.ownBlock=p.map (·.block)/\∀a,p=some a->a=⟨a.block,0,none⟩:=by
 rcases h.2 with⟨hv,h0⟩|⟨g,cap,cur,hv,_⟩
 . subst h0;exact⟨none,0,hv,by rw[hv];rfl,λa h=>by cases h⟩
 . exact⟨_,cap,hv,by rw[hv];rfl,λa h=>by cases h;rfl⟩
theorem zq1r{w:World}{B k:Nat}{e:TypeId}{v:Value}{n:Nat}{xs:List Value}(h:w.ownsRow B e k v n xs)(o:Obj):(w.alloc o).ownsRow B e k v n xs:=zq1v h λg hg=>by rw[zqc,if_neg (by have:=(own_lt h hg).2.2;omega)]
theorem zq3t{w:World}{x:Value}{T:TypeId}{B:Nat}(hB:w.heap.size=B):∀j u,[x][j]?=some u->(w.alloc (.cells #[x] T)).cell? ((⟨B,0,none⟩:Addr).add j)=some u:=by subst hB;exact cell_one_new w x T
theorem map_upd{α:Type}(f:Nat->α)(j:Nat)(x:α):(List.range (j+1)).map (λi=>if i=j then x else f i)=(List.range j).map f++[x]:=by
 rw[List.range_succ,List.map_append];congr 1
 . refine List.map_congr_left λi hi=>?_;have:=List.mem_range.1 hi;rw[if_neg (by omega)]
 . simp
end Go.Car
namespace Go.Proofs
open Go Go.Conc Go.RowKit Go.Car
def cloD(H ob ib:Nat):Value:=.func (.func 58) #[] #[.pointer (some ⟨ob,0,none⟩),.pointer (some ⟨H,0,none⟩),.pointer (some ⟨ib,0,none⟩),.pointer (some ⟨H+2,0,none⟩)]
def clsD(H:Nat)(ob ib:Nat->Nat)(n:Nat):List Value:=(List.range n).map λi=>cloD H (ob i) (ib i)
def cutV(sp:Nat->Option Addr)(L Cp:Nat->Nat)(i:Nat):Value:=.slice (sp i) (min (L i) 65536) (Cp i)
structure DRes(w:World)(N:Nat)(dv:Value)(sp:Nat->Option Addr)(L Cp:Nat->Nat)(n:Nat)(ob ib:Nat->Nat)(fv:Value)(w':World):Prop where
 size:w.heap.size+3<=w'.heap.size
 old:∀b,b<w.heap.size->w'.heap[b]?=w.heap[b]?
 db:w'.heap[w.heap.size]?=some (.cells #[dv] 96)
 ab:w'.heap[w.heap.size+1]?=some (.cells (Array.replicate N (.slice none 0 0)) 56)
 hb:w'.heap[w.heap.size+2]?=some (.cells #[.slice (some ⟨w.heap.size+1,0,none⟩) N N] 27)
 frow:w'.ownsRow (w.heap.size+3) 129 1 fv n (clsD w.heap.size ob ib n)
 obx:∀i,i<n->w'.heap[ob i]?=some (.cells #[cutV sp L Cp i] 92)
 ibx:∀i,i<n->w'.heap[ib i]?=some (.cells #[.int .i64 i] 3)
 lo:∀i,i<n->w.heap.size+3<=ib i/\ib i<ob i
 inc:∀i i',i<i'->i'<n->ob i<ib i'
theorem zqd9(w:World)(N:Nat)(hN:N<=64):(Instr.makeSlice 27 (.int .i64 N) (.int .i64 N)).run Try.prog w=.ok (.slice (some ⟨w.heap.size,0,none⟩) N N) (w.alloc (.cells (Array.replicate N (.slice none 0 0)) 56)):=by
 obtain⟨ti,hti,hz0,hz1,hz2⟩:∃ti,Try.prog.info? 56=some ti/\ti.zero=some (.slice none 0 0)/\ti.size=1/\ti.bytes=24:=⟨_,rfl,rfl,rfl,rfl⟩;have:=run_make (P:=Try.prog) w 27 56 ti (.slice none 0 0) (by kernel_rfl) hti hz0 .i64 .i64 N N (by omega) (Int.le_refl _) (by rw[hz2];omega) (by omega);simp only[Int.toNat_natCast,hz1,Nat.mul_one]at this;rw[this];congr 3;apply Array.ext_getElem?;intro i
 by_cases hi:i<N
 . simp[madeCells,hi,Nat.mod_one,Value.cells]
 . simp[madeCells,hi]
theorem DRes.start (w:World)(N:Nat)(dv:Value)(sp:Nat->Option Addr)(L Cp:Nat->Nat)(ob ib:Nat->Nat)(H:Nat)(hH:w.heap.size=H):DRes w N dv sp L Cp 0 ob ib (.slice none 0 0) (((w.alloc (.cells #[dv] 96)).alloc (.cells (Array.replicate N (.slice none 0 0)) 56)).alloc (.cells #[.slice (some ⟨H+1,0,none⟩) N N] 27)):=by
 subst hH;refine⟨by simp only[zq8];omega,λb hb=>?_,zqt (zqt (zq13 _ _)),?_,?_,World.ownsRow_nil _ _ _ _,λi hi=>absurd hi (Nat.not_lt_zero _),λi hi=>absurd hi (Nat.not_lt_zero _),λi hi=>absurd hi (Nat.not_lt_zero _),λi i' _ hi=>absurd hi (Nat.not_lt_zero _)⟩
 . rw[zqc,if_neg (by simp only[zq8];omega),zqc,if_neg (by simp only[zq8];omega),zqc,if_neg (by omega)]
 . refine zqt ?_;rw[zqc,if_pos (by simp only[zq8])]
 . rw[zqc,if_pos (by simp only[zq8])]
theorem DRes.of_heap {w:World}{N n:Nat}{dv:Value}{sp:Nat->Option Addr}{L Cp:Nat->Nat}{ob ib:Nat->Nat}{fv:Value}{w' w2:World}(h:DRes w N dv sp L Cp n ob ib fv w')(e:w2.heap=w'.heap):DRes w N dv sp L Cp n ob ib fv w2:=
 ⟨by rw[e];exact h.size,λb hb=>by rw[e];exact h.old b hb,by rw[e];exact h.db,by rw[e];exact h.ab,by rw[e];exact h.hb,zq1v h.frow λg _=>by rw[e],λi hi=>by rw[e];exact h.obx i hi,λi hi=>by rw[e];exact h.ibx i hi,h.lo,h.inc⟩
theorem DRes.next {w:World}{N j:Nat}{dv:Value}{sp:Nat->Option Addr}{L Cp:Nat->Nat}{ob ib:Nat->Nat}{fv:Value}{wr wm w7:World}(h:DRes w N dv sp L Cp j ob ib fv wr){g7 cap7:Nat}(hm:wm.heap=((wr.alloc (.cells #[.int .i64 j] 3)).alloc (.cells #[cutV sp L Cp j] 92)).heap)
 (hown7:w7.ownsRow (w.heap.size+3) 129 1 (.slice (some ⟨g7,0,none⟩) (j+1) cap7) (j+1) (clsD w.heap.size ob ib j++[cloD w.heap.size (wr.heap.size+1) wr.heap.size]))
 (hgrow7:(wm.alloc (.cells #[cloD w.heap.size (wr.heap.size+1) wr.heap.size] 129)).grownBy w7 fv.ownBlock):
 DRes w N dv sp L Cp (j+1) (λi=>if i=j then wr.heap.size+1 else ob i) (λi=>if i=j then wr.heap.size else ib i) (.slice (some ⟨g7,0,none⟩) (j+1) cap7) w7:=by
 have hs:=h.size;have e1:wm.heap.size=wr.heap.size+2:=by rw[hm];simp only[zq8]
 have h7s:wr.heap.size+3<=w7.heap.size:=by have:=hgrow7.size;rw[zq8,e1]at this;omega
 have hnew:∀b o,wm.heap[b]?=some o->fv.ownBlock≠some b->w7.heap[b]?=some o:=λb o hb hne=>by
  have hlt:=zqi hb;rw[hgrow7.block b (by rw[zq8];omega) (λe=>hne e.symm)];exact zqt hb
 have hext:∀b o,wr.heap[b]?=some o->fv.ownBlock≠some b->w7.heap[b]?=some o:=λb o hb hne=>hnew b o (by rw[hm];exact zqt (zqt hb)) hne;have hlow:∀b,b<w.heap.size+3->fv.ownBlock≠some b:=λb hb e=>by have:=(own_lt h.frow e).2.1;omega
 have hfar:∀b c T f,wr.heap[b]?=some (.cells c T f)->T≠129->fv.ownBlock≠some b:=λb c T f hb hT=>own_ne h.frow hb (λe=>hT e.symm);have hbig:∀b,wr.heap.size<=b->fv.ownBlock≠some b:=λb hb e=>by have:=(own_lt h.frow e).2.2;omega
 refine⟨by omega,λb hb=>?_,hext _ _ h.db (hlow _ (by omega)),hext _ _ h.ab (hlow _ (by omega)),hext _ _ h.hb (hlow _ (by omega)),?_,λi hi=>?_,λi hi=>?_,λi hi=>?_,λi i' hi hi'=>?_⟩
 . have hbw:b<wr.heap.size:=by omega
   obtain⟨o,ho⟩:∃o,wr.heap[b]?=some o:=⟨_,Array.getElem?_eq_getElem hbw⟩;rw[hext b o ho (hlow b (by omega)),<-ho];exact h.old b hb
 . unfold clsD;have:(λi=>cloD w.heap.size (if i=j then wr.heap.size+1 else ob i) (if i=j then wr.heap.size else ib i))=λi=>if i=j then cloD w.heap.size (wr.heap.size+1) wr.heap.size else cloD w.heap.size (ob i) (ib i):=by funext i;split<;>rfl
   rw[this,map_upd];exact hown7
 . by_cases e:i=j
   . simp only[e,if_true];refine hnew _ _ ?_ (hbig _ (by omega));rw[hm,zqc,if_pos (by simp only[zq8])]
   . simp only[e,if_false];have:=h.obx i (by omega);exact hext _ _ this (hfar _ _ _ _ this (by decide))
 . by_cases e:i=j
   . simp only[e,if_true];refine hnew _ _ ?_ (hbig _ (by omega));rw[hm];exact zqt (zq13 _ _)
   . simp only[e,if_false];have:=h.ibx i (by omega);exact hext _ _ this (hfar _ _ _ _ this (by decide))
 . by_cases e:i=j
   . simp only[e,if_true];omega
   . simp only[e,if_false];exact h.lo i (by omega)
 . have e:i≠j:=by omega
   simp only[e,if_false]
   by_cases e2:i'=j
   . simp only[e2,if_true];exact zqi (h.obx i (by omega))
   . simp only[e2,if_false];exact h.inc i i' hi (by omega)
theorem zqbs{pp:Option Addr}{n Cn:Nat}{dv:Value}{sp:Nat->Option Addr}{L Cp:Nat->Nat}(hdv:∃f a b,dv=.func f a b)(w:World)(hn:n<=4611686018427387904)(hL:∀i,i<min n 64->L i<=Cp i/\L i<=4611686018427387904/\(sp i=none->L i=0/\Cp i=0))
 (hp:0<n->∃tb to',pp=some ⟨tb,to',none⟩/\∀i,i<min n 64->w.cell? ⟨tb,to'+i,none⟩=some (.slice (sp i) (L i) (Cp i))):
 Calls Try.prog 53 #[.slice pp n Cn,dv] w λe w'=>∃ob ib fv,e=.returned (.tuple #[fv,.slice (some ⟨w.heap.size+1,0,none⟩) (min n 64) (min n 64)])/\DRes w (min n 64) dv sp L Cp (min n 64) ob ib fv w':=by
 obtain⟨fd,fa,fb,rfl⟩:=hdv;have HS:=Lib.hid hp;have HLL:=Lib.hid hL;clear hp hL;obtain⟨N,hN⟩:∃N,min n 64=N:=⟨_,rfl⟩;rw[hN];have hN64:N<=64:=by omega
 have hmk:=λw=>zqd9 w N hN64;have hmk64:N=64->∀w,(Instr.makeSlice 27 (.int .i64 64) (.int .i64 64)).run Try.prog w=.ok (.slice (some ⟨w.heap.size,0,none⟩) N N) (w.alloc (.cells (Array.replicate N (.slice none 0 0)) 56)):=λh w=>by
  have:=hmk w;rw[show(N:Int)=64 by omega]at this;exact this
 go_enter Try.func53,Try.ntmps53
 have key:(n<=64/\n=N)\/(¬n<=64/\N=64):=by omega
 have HN:=Lib.hid hN;have hmkn:n=N->∀w,(Instr.makeSlice 27 (.int .i64 n) (.int .i64 n)).run Try.prog w=.ok (.slice (some ⟨w.heap.size,0,none⟩) N N) (w.alloc (.cells (Array.replicate N (.slice none 0 0)) 56)):=λh w=>by
  have:=hmk w;rw[show(N:Int)=(n:Int)by omega]at this;exact this
 rcases key with⟨hc,hN'⟩|⟨hc,hN'⟩
 . have hc':(n:Int)<=64:=by omega
   replace hmkn:=hmkn hN';have e1:(n:Int)=(N:Int):=by omega
   clear hN hmk64 hc hmk;have HE:=Lib.hid e1;clear e1 hN'
   go_wp2_with (fail)
   rw[HE.out];clear hmkn hc';have hP:=Lib.hid (DRes.start w N (.func fd fa fb) sp L Cp (λ_=>0) (λ_=>0) w.heap.size rfl);generalize (((w.alloc (.cells #[.func fd fa fb] 96)).alloc (.cells (Array.replicate N (.slice none 0 0)) 56)).alloc (.cells #[.slice (some ⟨w.heap.size+1,0,none⟩) N N] 27))=w1 at hP |-;generalize hH2:w.heap.size+1+1=H2;generalize hH1:w.heap.size+1=H1;generalize hH:w.heap.size=H at hH1 hH2 |-;have HB:RowKit.Hid (H=w.heap.size/\H1=w.heap.size+1/\H2=w.heap.size+2):=⟨hH.symm,by omega,by omega⟩;clear hH hH1 hH2
   go_loopg [8,17] N (λk t i wr=>∃(jj:Nat)(ob ib:Nat->Nat)(fv:Value),fv=t/\k=N - jj/\jj<=N/\i=.int .i64 jj/\DRes w N (.func fd fa fb) sp L Cp jj ob ib fv wr)
   case atStart=>exact⟨0,_,_,_,rfl,rfl,Nat.zero_le _,rfl,hP.out⟩
   case round=>
    obtain⟨jj,ob,ib,fv,hfv,hk,hj,rfl,hR⟩:=hrel;subst hfv;have HR:=Lib.hid hR;clear hR
    by_cases hlt:jj<N
    . obtain⟨tb,to',rfl,hc⟩:=HS.out (by have:=HN.out;omega);have hcj:=hc jj (by have:=HN.out;omega);have htb:tb<w.heap.size:=cell_lt hcj;have c1:wr.cell? ⟨tb,to'+jj,none⟩=some (.slice (sp jj) (L jj) (Cp jj)):=(zq17 (HR.out.old tb htb)).trans hcj;obtain⟨l1,l2,l3⟩:=HLL.out jj (by have:=HN.out;omega);have hws:=HR.out.size;have hlt':(jj:Int)<(N:Int):=by omega
      have hj0:(0:Int)<=jj:=by omega
      obtain⟨sj,hsj⟩:∃x,sp jj=x:=⟨_,rfl⟩;obtain⟨Lj,hLj⟩:∃x,L jj=x:=⟨_,rfl⟩;obtain⟨Cj,hCj⟩:∃x,Cp jj=x:=⟨_,rfl⟩;rw[hsj,hLj,hCj]at c1;have HX:=Lib.hid (And.intro hsj (And.intro hLj hCj));rw[hsj,hLj,hCj]at l3;rw[hLj,hCj]at l1;rw[hLj]at l2;have hjn:(jj:Int)<(n:Int):=by have:=HN.out;omega
      have HT:=Lib.hid (And.intro htb hws);have HL3:=Lib.hid l3;clear hc hcj hsj hLj hCj l3 htb hws;have C1:=Lib.hid c1;clear c1
      go_wp2_with (fail)
      have hcl:∀W,W=(wr.alloc (.cells #[.int .i64 jj] 3)).drewN 1\/W=((wr.alloc (.cells #[.int .i64 jj] 3)).drewN 1).alloc (.cells #[.slice none 0 0] 92)->W.cell? ⟨tb,to'+jj,none⟩=some (.slice sj Lj Cj)/\W.cell? ⟨wr.heap.size,0,none⟩=some (.int .i64 jj):=by
       have htw:tb<wr.heap.size:=by have:=HT.out;omega
       have k1:((wr.alloc (.cells #[.int .i64 jj] 3)).drewN 1).cell? ⟨tb,to'+jj,none⟩=some (.slice sj Lj Cj):=(zq17 (by show(wr.alloc _).heap[tb]?=_;rw[zqc,if_neg (by omega)])).trans C1.out;have k2:((wr.alloc (.cells #[.int .i64 jj] 3)).drewN 1).heap[wr.heap.size]?=some (.cells #[.int .i64 jj] 3):=zq13 wr _;rintro W (rfl |rfl)
       . exact⟨k1,(zq1 k2).trans rfl⟩
       . exact⟨(zq17 (by rw[zqc,if_neg (by show tb≠(wr.alloc _).heap.size;rw[zq8];omega)])).trans k1,(zq1 (zqt k2)).trans rfl⟩
      have HCL:=Lib.hid hcl;clear hcl;refine zqaw (k:=12) (s:=11) (W0:=(wr.alloc (.cells #[.int .i64 jj] 3)).drewN 1) (W1:=((wr.alloc (.cells #[.int .i64 jj] 3)).drewN 1).alloc (.cells #[.slice none 0 0] 92)) (by kernel_rfl) (by kernel_rfl) (by kernel_rfl) (by kernel_rfl) (by decide) [.slice (some ⟨tb,to',none⟩) n Cn,.int .i64 jj,.pointer (some ⟨tb,to'+jj,none⟩),.slice sj Lj Cj,.slice (some ⟨tb,to',none⟩) n Cn,.int .i64 jj,.pointer (some ⟨tb,to'+jj,none⟩),.slice sj Lj Cj,.int .i64 Lj,.int .i64 ((min Lj 65536:Nat):Int),.slice sj (min Lj 65536) Cj,.pointer (some ⟨wr.heap.size+1,0,none⟩)] rfl rfl ?_ ?_ ?_
      . intro i o hi his ho W hWW;obtain⟨q1,q2⟩:=HCL.out W hWW;clear hWW;simp only[putv,dstOf,al_gl,al_g0,al_g1,al_ob,al_g2,List.set_cons_succ,List.set_cons_zero];obtain rfl |rfl |rfl |rfl |rfl |rfl |rfl |rfl |rfl |rfl |rfl:i=0\/i=1\/i=2\/i=3\/i=4\/i=5\/i=6\/i=7\/i=8\/i=9\/i=10:=by omega
        all_goals(simp only[al_gl,al_g0,al_g1,al_oi]at ho;subst ho;refine .inl ?_)
        all_goals(simp only[execOp,Act.eval,al_gd,al_gl,al_g0,al_g1,al_od])
        all_goals(try go_simp)
        . split<;>omega
        . intro h;exfalso;omega
      . intro o ho;simp only[putv,dstOf,al_gl,al_g0,al_g1,al_ob,al_g2,List.set_cons_succ,List.set_cons_zero];simp only[al_gl,al_g0,al_g1,al_oi]at ho;subst ho;refine .inl ?_;simp only[execOp,Act.eval,al_gd,al_gl,al_g0,al_g1,al_od];go_simp
      simp only[putv,dstOf,al_gl,al_g0,al_g1,al_ob,al_g2,List.set_cons_succ,List.set_cons_zero];have hs1:((wr.alloc (.cells #[.int .i64 jj] 3)).drewN 1).heap.size=wr.heap.size+1:=by show(wr.alloc _).heap.size=_;rw[zq8]
      have kb:(((wr.alloc (.cells #[.int .i64 jj] 3)).drewN 1).alloc (.cells #[.slice none 0 0] 92)).heap[wr.heap.size+1]?=some (.cells #[.slice none 0 0] 92):=by rw[zqc,if_pos hs1.symm]
      have d1:=(zq1 (off:=0) kb).trans rfl;have d2:=zqh (off:=0) kb;have hwm:((((wr.alloc (.cells #[.int .i64 jj] 3)).drewN 1).alloc (.cells #[.slice none 0 0] 92)).setCell ⟨wr.heap.size+1,0,none⟩ (.slice sj (min Lj 65536) Cj)).heap=((wr.alloc (.cells #[.int .i64 jj] 3)).alloc (.cells #[cutV sp L Cp jj] 92)).heap:=by
       obtain⟨r1,r2,r3⟩:=HX.out;unfold cutV;rw[r1,r2,r3];apply Array.ext_getElem?;intro b
       by_cases e:b=wr.heap.size+1
       . subst e;rw[zqy _ _ _ _ kb,zqc,if_pos (by rw[zq8])];rfl
       . rw[zql _ _ _ _ e,zqc,zqc,if_neg (by rw[hs1];exact e),if_neg (by rw[zq8];exact e)];rfl
      clear kb hs1;generalize (((wr.alloc (.cells #[.int .i64 jj] 3)).drewN 1).alloc (.cells #[.slice none 0 0] 92))=wk at d1 d2 hwm |-;have HWM:=Lib.hid hwm;clear hwm;refine zq46 (i:=12) (by kernel_rfl) ?_;simp only[wpOp,al_gl,al_g0,al_g1];rw[if_pos (by rfl)];refine .inl ?_;go_simp;refine zq45 (by kernel_rfl) ?_;obtain⟨wm,hwm⟩:∃wm,wk.setCell ⟨wr.heap.size+1,0,none⟩ (.slice sj (min Lj 65536) Cj)=wm:=⟨_,rfl⟩;have HWM2:=Lib.hid (HWM.out);rw[hwm]at HWM2 |-;clear d1 d2 HWM hwm;obtain⟨tj,htj,hy0,hy1,hy2⟩:∃ti,Try.prog.info? 129=some ti/\ti.zero=some .nilFunc/\ti.size=1/\ti.bytes=8:=⟨_,rfl,rfl,rfl,rfl⟩;have TJ:=Lib.hid (And.intro htj (And.intro hy0 (And.intro hy1 hy2)));clear htj hy0 hy1 hy2;have hrow:wm.ownsRow (w.heap.size+3) 129 1 fv jj (clsD w.heap.size ob ib jj):=zq1v HR.out.frow λg hg=>by
       rw[HWM2.out,zqc,if_neg (by rw[zq8];have:=(own_lt HR.out.frow hg).2.2;omega),zqc,if_neg (by have:=(own_lt HR.out.frow hg).2.2;omega)]
      have HRW:=Lib.hid hrow;clear hrow
      go_wp2_with (at_builtin;go_loud (refine wpList_append_lies _ rfl (.tmp 31) (.tmp 33) 134 rfl (w.heap.size+3) 129 tj .nilFunc 1 8 (by kernel_rfl) TJ.out.1 TJ.out.2.1 TJ.out.2.2.1 TJ.out.2.2.2 rfl (by decide) _ jj (clsD w.heap.size ob ib jj) rfl (zq1r HRW.out _) _ 1 1 [.func (.func 58) #[] #[.pointer (some ⟨wr.heap.size+1,0,none⟩),.pointer (some ⟨H,0,none⟩),.pointer (some ⟨wr.heap.size,0,none⟩),.pointer (some ⟨H2,0,none⟩)]] rfl rfl (zq3t rfl) (by simp[Value.oneCell']) (by decide) (by simp only[maxLen];omega) (by omega) (by rw[zq8,HWM2.out];simp only[zq8];have:=HT.out;omega) _ rfl ?next))
      case next=>
       intro g7 cap7 w7 hown7 hgrow7 hat7 hlt7;have L7:=Lib.hid (And.intro hown7 (And.intro hgrow7 hat7));clear hown7 hgrow7 hat7 hlt7;go_wp2;go_roundg (N - (jj+1))
       case measure=>omega
       case rel=>
        obtain⟨rfl,rfl,rfl⟩:=HB.out;obtain⟨o7,q7,a7⟩:=L7.out;exact⟨jj+1,_,_,_,rfl,rfl,by omega,rfl,HR.out.next HWM2.out o7 q7⟩
    . obtain rfl:jj=N:=by omega
      have ch:=(zq1 (off:=0) HR.out.hb).trans rfl;rw[<-HB.out.2.2,<-HB.out.2.1]at ch
      go_wp2_with (fail)
      go_quiet (fail)
      go_wp2
      go_ret2
      obtain⟨rfl,rfl,rfl⟩:=HB.out;exact⟨ob,ib,fv,rfl,HR.out.of_heap rfl⟩
 . have hc':¬(n:Int)<=64:=by omega
   have hc2:(64:Int)<=(n:Int):=by omega
   have hc3:¬(n:Int)<64:=by omega
   replace hmk64:=hmk64 hN';have e1:(64:Int)=(N:Int):=by omega
   clear hmk hc hN hmkn;have HE:=Lib.hid e1;clear e1 hN'
   go_wp2_with (fail)
   rw[HE.out];clear hmk64 hc' hc2 hc3;have hP:=Lib.hid (DRes.start w N (.func fd fa fb) sp L Cp (λ_=>0) (λ_=>0) w.heap.size rfl);generalize (((w.alloc (.cells #[.func fd fa fb] 96)).alloc (.cells (Array.replicate N (.slice none 0 0)) 56)).alloc (.cells #[.slice (some ⟨w.heap.size+1,0,none⟩) N N] 27))=w1 at hP |-;generalize hH2:w.heap.size+1+1=H2;generalize hH1:w.heap.size+1=H1;generalize hH:w.heap.size=H at hH1 hH2 |-;have HB:RowKit.Hid (H=w.heap.size/\H1=w.heap.size+1/\H2=w.heap.size+2):=⟨hH.symm,by omega,by omega⟩;clear hH hH1 hH2
   go_loopg [8,17] N (λk t i wr=>∃(jj:Nat)(ob ib:Nat->Nat)(fv:Value),fv=t/\k=N - jj/\jj<=N/\i=.int .i64 jj/\DRes w N (.func fd fa fb) sp L Cp jj ob ib fv wr)
   case atStart=>exact⟨0,_,_,_,rfl,rfl,Nat.zero_le _,rfl,hP.out⟩
   case round=>
    obtain⟨jj,ob,ib,fv,hfv,hk,hj,rfl,hR⟩:=hrel;subst hfv;have HR:=Lib.hid hR;clear hR
    by_cases hlt:jj<N
    . obtain⟨tb,to',rfl,hc⟩:=HS.out (by have:=HN.out;omega);have hcj:=hc jj (by have:=HN.out;omega);have htb:tb<w.heap.size:=cell_lt hcj;have c1:wr.cell? ⟨tb,to'+jj,none⟩=some (.slice (sp jj) (L jj) (Cp jj)):=(zq17 (HR.out.old tb htb)).trans hcj;obtain⟨l1,l2,l3⟩:=HLL.out jj (by have:=HN.out;omega);have hws:=HR.out.size;have hlt':(jj:Int)<(N:Int):=by omega
      have hj0:(0:Int)<=jj:=by omega
      obtain⟨sj,hsj⟩:∃x,sp jj=x:=⟨_,rfl⟩;obtain⟨Lj,hLj⟩:∃x,L jj=x:=⟨_,rfl⟩;obtain⟨Cj,hCj⟩:∃x,Cp jj=x:=⟨_,rfl⟩;rw[hsj,hLj,hCj]at c1;have HX:=Lib.hid (And.intro hsj (And.intro hLj hCj));rw[hsj,hLj,hCj]at l3;rw[hLj,hCj]at l1;rw[hLj]at l2;have hjn:(jj:Int)<(n:Int):=by have:=HN.out;omega
      have HT:=Lib.hid (And.intro htb hws);have HL3:=Lib.hid l3;clear hc hcj hsj hLj hCj l3 htb hws;have C1:=Lib.hid c1;clear c1
      go_wp2_with (fail)
      have hcl:∀W,W=(wr.alloc (.cells #[.int .i64 jj] 3)).drewN 1\/W=((wr.alloc (.cells #[.int .i64 jj] 3)).drewN 1).alloc (.cells #[.slice none 0 0] 92)->W.cell? ⟨tb,to'+jj,none⟩=some (.slice sj Lj Cj)/\W.cell? ⟨wr.heap.size,0,none⟩=some (.int .i64 jj):=by
       have htw:tb<wr.heap.size:=by have:=HT.out;omega
       have k1:((wr.alloc (.cells #[.int .i64 jj] 3)).drewN 1).cell? ⟨tb,to'+jj,none⟩=some (.slice sj Lj Cj):=(zq17 (by show(wr.alloc _).heap[tb]?=_;rw[zqc,if_neg (by omega)])).trans C1.out;have k2:((wr.alloc (.cells #[.int .i64 jj] 3)).drewN 1).heap[wr.heap.size]?=some (.cells #[.int .i64 jj] 3):=zq13 wr _;rintro W (rfl |rfl)
       . exact⟨k1,(zq1 k2).trans rfl⟩
       . exact⟨(zq17 (by rw[zqc,if_neg (by show tb≠(wr.alloc _).heap.size;rw[zq8];omega)])).trans k1,(zq1 (zqt k2)).trans rfl⟩
      have HCL:=Lib.hid hcl;clear hcl;refine zqaw (k:=12) (s:=11) (W0:=(wr.alloc (.cells #[.int .i64 jj] 3)).drewN 1) (W1:=((wr.alloc (.cells #[.int .i64 jj] 3)).drewN 1).alloc (.cells #[.slice none 0 0] 92)) (by kernel_rfl) (by kernel_rfl) (by kernel_rfl) (by kernel_rfl) (by decide) [.slice (some ⟨tb,to',none⟩) n Cn,.int .i64 jj,.pointer (some ⟨tb,to'+jj,none⟩),.slice sj Lj Cj,.slice (some ⟨tb,to',none⟩) n Cn,.int .i64 jj,.pointer (some ⟨tb,to'+jj,none⟩),.slice sj Lj Cj,.int .i64 Lj,.int .i64 ((min Lj 65536:Nat):Int),.slice sj (min Lj 65536) Cj,.pointer (some ⟨wr.heap.size+1,0,none⟩)] rfl rfl ?_ ?_ ?_
      . intro i o hi his ho W hWW;obtain⟨q1,q2⟩:=HCL.out W hWW;clear hWW;simp only[putv,dstOf,al_gl,al_g0,al_g1,al_ob,al_g2,List.set_cons_succ,List.set_cons_zero];obtain rfl |rfl |rfl |rfl |rfl |rfl |rfl |rfl |rfl |rfl |rfl:i=0\/i=1\/i=2\/i=3\/i=4\/i=5\/i=6\/i=7\/i=8\/i=9\/i=10:=by omega
        all_goals(simp only[al_gl,al_g0,al_g1,al_oi]at ho;subst ho;refine .inl ?_)
        all_goals(simp only[execOp,Act.eval,al_gd,al_gl,al_g0,al_g1,al_od])
        all_goals(try go_simp)
        . split<;>omega
        . intro h;exfalso;omega
      . intro o ho;simp only[putv,dstOf,al_gl,al_g0,al_g1,al_ob,al_g2,List.set_cons_succ,List.set_cons_zero];simp only[al_gl,al_g0,al_g1,al_oi]at ho;subst ho;refine .inl ?_;simp only[execOp,Act.eval,al_gd,al_gl,al_g0,al_g1,al_od];go_simp
      simp only[putv,dstOf,al_gl,al_g0,al_g1,al_ob,al_g2,List.set_cons_succ,List.set_cons_zero];have hs1:((wr.alloc (.cells #[.int .i64 jj] 3)).drewN 1).heap.size=wr.heap.size+1:=by show(wr.alloc _).heap.size=_;rw[zq8]
      have kb:(((wr.alloc (.cells #[.int .i64 jj] 3)).drewN 1).alloc (.cells #[.slice none 0 0] 92)).heap[wr.heap.size+1]?=some (.cells #[.slice none 0 0] 92):=by rw[zqc,if_pos hs1.symm]
      have d1:=(zq1 (off:=0) kb).trans rfl;have d2:=zqh (off:=0) kb;have hwm:((((wr.alloc (.cells #[.int .i64 jj] 3)).drewN 1).alloc (.cells #[.slice none 0 0] 92)).setCell ⟨wr.heap.size+1,0,none⟩ (.slice sj (min Lj 65536) Cj)).heap=((wr.alloc (.cells #[.int .i64 jj] 3)).alloc (.cells #[cutV sp L Cp jj] 92)).heap:=by
       obtain⟨r1,r2,r3⟩:=HX.out;unfold cutV;rw[r1,r2,r3];apply Array.ext_getElem?;intro b
       by_cases e:b=wr.heap.size+1
       . subst e;rw[zqy _ _ _ _ kb,zqc,if_pos (by rw[zq8])];rfl
       . rw[zql _ _ _ _ e,zqc,zqc,if_neg (by rw[hs1];exact e),if_neg (by rw[zq8];exact e)];rfl
      clear kb hs1;generalize (((wr.alloc (.cells #[.int .i64 jj] 3)).drewN 1).alloc (.cells #[.slice none 0 0] 92))=wk at d1 d2 hwm |-;have HWM:=Lib.hid hwm;clear hwm;refine zq46 (i:=12) (by kernel_rfl) ?_;simp only[wpOp,al_gl,al_g0,al_g1];rw[if_pos (by rfl)];refine .inl ?_;go_simp;refine zq45 (by kernel_rfl) ?_;obtain⟨wm,hwm⟩:∃wm,wk.setCell ⟨wr.heap.size+1,0,none⟩ (.slice sj (min Lj 65536) Cj)=wm:=⟨_,rfl⟩;have HWM2:=Lib.hid (HWM.out);rw[hwm]at HWM2 |-;clear d1 d2 HWM hwm;obtain⟨tj,htj,hy0,hy1,hy2⟩:∃ti,Try.prog.info? 129=some ti/\ti.zero=some .nilFunc/\ti.size=1/\ti.bytes=8:=⟨_,rfl,rfl,rfl,rfl⟩;have TJ:=Lib.hid (And.intro htj (And.intro hy0 (And.intro hy1 hy2)));clear htj hy0 hy1 hy2;have hrow:wm.ownsRow (w.heap.size+3) 129 1 fv jj (clsD w.heap.size ob ib jj):=zq1v HR.out.frow λg hg=>by
       rw[HWM2.out,zqc,if_neg (by rw[zq8];have:=(own_lt HR.out.frow hg).2.2;omega),zqc,if_neg (by have:=(own_lt HR.out.frow hg).2.2;omega)]
      have HRW:=Lib.hid hrow;clear hrow
      go_wp2_with (at_builtin;go_loud (refine wpList_append_lies _ rfl (.tmp 31) (.tmp 33) 134 rfl (w.heap.size+3) 129 tj .nilFunc 1 8 (by kernel_rfl) TJ.out.1 TJ.out.2.1 TJ.out.2.2.1 TJ.out.2.2.2 rfl (by decide) _ jj (clsD w.heap.size ob ib jj) rfl (zq1r HRW.out _) _ 1 1 [.func (.func 58) #[] #[.pointer (some ⟨wr.heap.size+1,0,none⟩),.pointer (some ⟨H,0,none⟩),.pointer (some ⟨wr.heap.size,0,none⟩),.pointer (some ⟨H2,0,none⟩)]] rfl rfl (zq3t rfl) (by simp[Value.oneCell']) (by decide) (by simp only[maxLen];omega) (by omega) (by rw[zq8,HWM2.out];simp only[zq8];have:=HT.out;omega) _ rfl ?next))
      case next=>
       intro g7 cap7 w7 hown7 hgrow7 hat7 hlt7;have L7:=Lib.hid (And.intro hown7 (And.intro hgrow7 hat7));clear hown7 hgrow7 hat7 hlt7;go_wp2;go_roundg (N - (jj+1))
       case measure=>omega
       case rel=>
        obtain⟨rfl,rfl,rfl⟩:=HB.out;obtain⟨o7,q7,a7⟩:=L7.out;exact⟨jj+1,_,_,_,rfl,rfl,by omega,rfl,HR.out.next HWM2.out o7 q7⟩
    . obtain rfl:jj=N:=by omega
      have ch:=(zq1 (off:=0) HR.out.hb).trans rfl;rw[<-HB.out.2.2,<-HB.out.2.1]at ch
      go_wp2_with (fail)
      go_quiet (fail)
      go_wp2
      go_ret2
      obtain⟨rfl,rfl,rfl⟩:=HB.out;exact⟨ob,ib,fv,rfl,HR.out.of_heap rfl⟩
end Go.Proofs
namespace Go.Car
open Go Go.RowKit
section
variable {P:Program} {st:Bool}
theorem zqhp(t:Extern.Atomic.T)(a:Addr):tame P st (Extern.Atomic.read t a):=by
 unfold Extern.Atomic.read
 repeat' (first|with_reducible (first|exact Tm.out|exact zqe _ (λ_=>zq0 (zqa _) λ_=>zq9 _) _|refine zq4 ?_|refine zq0 ?_ (λ_=>?_))|split|simp only[])
instance (t:Extern.Atomic.T) (a:Addr):Tm P st (Extern.Atomic.read t a):=⟨zqhp t a⟩
theorem zqip(t:Extern.Atomic.T)(x:Array Value):tame P true (Extern.Atomic.loadT t x):=by
 unfold Extern.Atomic.loadT;rcases x with⟨_|⟨a,_|⟨b,l⟩⟩⟩
 . exact zq1d _
 rotate_left
 . exact zq1d _
 change tame P true (do Extern.Atomic.read t (<-asAddr a))
 repeat' (first|with_reducible (first|exact Tm.out|exact zqe _ (λ_=>zq0 (zqa _) λ_=>zq9 _) _|refine zq4 ?_|refine zq0 ?_ (λ_=>?_))|split|simp only[])
theorem zqjf(x:Array Value):tame P true (Extern.Atomic.storeT x):=by
 unfold Extern.Atomic.storeT;rcases x with⟨_|⟨a,_|⟨b,_|⟨c,l⟩⟩⟩⟩
 . exact zq1d _
 . exact zq1d _
 rotate_left
 . exact zq1d _
 change tame P true (do store (<-asAddr a) b .atomic;pure Extern.Atomic.none_)
 repeat' (first|with_reducible (first|exact Tm.out|exact zqe _ (λ_=>zq0 (zqa _) λ_=>zq9 _) _|refine zq4 ?_|refine zq0 ?_ (λ_=>?_))|split|simp only[])
theorem zqhn{α:Type}(f:α->Sem Bool)(h:∀a,tame P st (f a))(l:List α):tame P st (l.anyM f):=by
 induction l with
 |nil=>exact zq9 _
 |cons a l ih=>
  rw[List.anyM];refine zq0 (h a) λb=>?_;cases b
  . exact ih
  . exact zq9 _
theorem zqjj(a:Addr):tame P st (Extern.Atomic.touchesFrozen a):=by
 unfold Extern.Atomic.touchesFrozen;refine zq0 (zqaj _) λv=>?_;split
 . exact zq63 _
 . refine zq0 (zqaf _) λi=>?_;simp only[];split
   . exact zqag _
   . exact zqhn _ (λ_=>zq63 _) _
instance (a:Addr):Tm P st (Extern.Atomic.touchesFrozen a):=⟨zqjj a⟩
theorem zqhz(t:Extern.Atomic.T)(x:Array Value):tame P true (Extern.Atomic.casT t x):=by
 unfold Extern.Atomic.casT;rcases x with⟨_|⟨a,_|⟨b,_|⟨c,_|⟨d,l⟩⟩⟩⟩⟩
 . exact zq1d _
 . exact zq1d _
 . exact zq1d _
 rotate_left
 . exact zq1d _
 change tame P true (asAddr a>>= _)
 repeat' (first|with_reducible (first|exact Tm.out|exact zqe _ (λ_=>zq0 (zqa _) λ_=>zq9 _) _|refine zq4 ?_|refine zq0 ?_ (λ_=>?_))|split|simp only[])
instance (t:Extern.Atomic.T) (a:Addr):Stdy P (Extern.Atomic.read t a):=⟨by
 unfold Extern.Atomic.read
 repeat' (first|with_reducible (first|exact Stdy.out|refine zq5 ?_|refine zq6 ?_ (λ_=>?_)|refine zq3 ?_ (λ_=>?_))|exact λ_ _=>rfl |split|simp only[])⟩
theorem zqg5(t:Extern.Atomic.T)(x:Array Value):zq2 P (Extern.Atomic.loadT t x):=by
 unfold Extern.Atomic.loadT;rcases x with⟨_|⟨a,_|⟨b,l⟩⟩⟩
 . exact zq18 _
 rotate_left
 . exact zq18 _
 change zq2 P (do Extern.Atomic.read t (<-asAddr a))
 repeat' (first|with_reducible (first|exact Stdy.out|refine zq5 ?_|refine zq6 ?_ (λ_=>?_)|refine zq3 ?_ (λ_=>?_))|exact λ_ _=>rfl |split|simp only[])
theorem zqh1(x:Array Value):zq2 P (Extern.Atomic.storeT x):=by
 unfold Extern.Atomic.storeT;rcases x with⟨_|⟨a,_|⟨b,_|⟨c,l⟩⟩⟩⟩
 . exact zq18 _
 . exact zq18 _
 rotate_left
 . exact zq18 _
 change zq2 P (do store (<-asAddr a) b .atomic;pure Extern.Atomic.none_)
 repeat' (first|with_reducible (first|exact Stdy.out|refine zq5 ?_|refine zq6 ?_ (λ_=>?_)|refine zq3 ?_ (λ_=>?_))|exact λ_ _=>rfl |split|simp only[])
theorem zqer{α:Type}(f:α->Sem Bool)(h:∀a,zq2 P (f a))(l:List α):zq2 P (l.anyM f):=by
 induction l with
 |nil=>exact zq1b _
 |cons a l ih=>
  rw[List.anyM];refine zq3 (h a) λb=>?_;cases b
  . exact ih
  . exact zq1b _
theorem zqh4(a:Addr):zq2 P (Extern.Atomic.touchesFrozen a):=by
 unfold Extern.Atomic.touchesFrozen;refine zq3 (zq98 _) λv=>?_;split
 . exact zq5z _
 . refine zq3 (zq97 _) λi=>?_;simp only[];split
   . exact zq18 _
   . exact zqer _ (λ_=>zq5z _) _
instance (a:Addr):Stdy P (Extern.Atomic.touchesFrozen a):=⟨zqh4 a⟩
instance (a b:Option Addr):Stdy P (samePointer a b):=⟨zq91 a b⟩
theorem zqf7(t:Extern.Atomic.T)(x:Array Value):zq2 P (Extern.Atomic.casT t x):=by
 unfold Extern.Atomic.casT;rcases x with⟨_|⟨a,_|⟨b,_|⟨c,_|⟨d,l⟩⟩⟩⟩⟩
 . exact zq18 _
 . exact zq18 _
 . exact zq18 _
 rotate_left
 . exact zq18 _
 change zq2 P (asAddr a>>= _)
 repeat' (first|with_reducible (first|exact Stdy.out|refine zq5 ?_|refine zq6 ?_ (λ_=>?_)|refine zq3 ?_ (λ_=>?_))|exact λ_ _=>rfl |split|simp only[])
end
end Go.Car
