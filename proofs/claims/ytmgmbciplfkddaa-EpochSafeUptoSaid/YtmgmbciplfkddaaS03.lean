/- YtmgmbciplfkddaaESaf16: part 3 of the proof (the texts behind it, in order). -/
import Derived.Test.YtmgmbciplfkddaaS02
set_option maxHeartbeats 4000000
set_option maxRecDepth 100000
set_option linter.all false
namespace Go.Car
open Go Go.Conc Go.RowKit
def dstOf(ops:Array Oper)(i:Nat):Option Tmp:=(ops[i]?).bind (·.dst)
def tmpOf:Operand->Option Tmp
 |.tmp t=>some t
 |_=>none
def waits(ops:Array Oper)(j i:Nat):Bool:=match ops[j]? with
 |some o=>o.after.any λe=>Region.binds .any e&&e.on==i
 |none=>false
def drawOk(P:Program)(ops:Array Oper)(l n:Nat):Bool:=
 ops.size==l+1&&
 (List.range l).all (λi=>match ops[i]? with
  |some o=>zq1q P o.op&&o.guard.isNone&&(match o.dst with|some d=>decide (d<n)|none=>false)
  |none=>false)&&
 (List.range l).all (λi=>(List.range i).all λj=>dstOf ops i !=dstOf ops j)&&
 (List.range (l+1)).all (λi=>match ops[i]? with
  |some o=>o.after.all (λe=>!Region.binds .any e || decide (e.on<i))&&
   o.op.operands.all (λx=>match tmpOf x with
    |some t=>(List.range l).all λj=>dstOf ops j !=some t || waits ops i j
    |none=>true)
  |none=>false)&&
 (List.range l).all (λi=>(List.range (l+1)).any λj=>decide (i<j)&&waits ops j i)
def putv(ops:Array Oper):List Value->Nat->Array Value->Array Value
 |[],_,t=>t
 |v::vs,i,t=>putv ops vs (i+1) (match dstOf ops i with|some d=>t.setIfInBounds d v|none=>t)
def evals(P:Program)(ops:Array Oper)(T:Array Value)(w:World):List Value->Nat->Prop
 |[],_=>True
 |v::vs,i=>(∀o,ops[i]?=some o->(execOp (Act.mk T []).eval o).run P w=.ok (.value v) w)/\evals P ops T w vs (i+1)
section
variable {P:Program} {ops:Array Oper}
theorem zq4x(vs:List Value):∀i t,(putv ops vs i t).size=t.size:=by
 induction vs with
 |nil=>intro i t;rfl
 |cons v vs ih=>intro i t;simp only[putv];rw[ih];split<;>simp
theorem zq39(vs:List Value):∀i(t:Array Value)x,(∀j,i<=j->j<i+vs.length->dstOf ops j≠some x)->(putv ops vs i t)[x]?=t[x]?:=by
 induction vs with
 |nil=>intro i t x _;rfl
 |cons v vs ih=>
  intro i t x h;simp only[putv];rw[ih (i+1) _ x (λj h1 h2=>h j (by omega) (by simp;omega))];have:=h i (Nat.le_refl _) (by simp);split
  . rename_i d hd;rw[al_gn (λe=>this (by rw[hd,e]))]
  . rfl
theorem zq5s(vs:List Value):∀i(t:Array Value)j v x,vs[j]?=some v->dstOf ops (i+j)=some x->x<t.size->(∀m,i+j<m->m<i+vs.length->dstOf ops m≠some x)->(putv ops vs i t)[x]?=some v:=by
 induction vs with
 |nil=>intro i t j v x h;cases h
 |cons u vs ih=>
  intro i t j v x hv hx hlt hlater;cases j with
  |zero=>
   simp only[al_g0,al_oi]at hv;subst hv;simp only[Nat.add_zero]at hx hlater;simp only[putv,hx];rw[zq39 vs (i+1) _ x (λm h1 h2=>hlater m (by omega) (by simp;omega))];simp[hlt]
  |succ j=>
   simp only[putv];refine ih (i+1) _ j v x (by simpa using hv) (by rw[show i+1+j=i+(j+1)by omega];exact hx) ?_ (λm h1 h2=>hlater m (by omega) (by simp;omega));split<;>simp[hlt]
theorem evals_at{T:Array Value}{w:World}(vs:List Value):∀i j v o,evals P ops T w vs i->vs[j]?=some v->ops[i+j]?=some o->(execOp (Act.mk T []).eval o).run P w=.ok (.value v) w:=by
 induction vs with
 |nil=>intro i j v o _ h;cases h
 |cons u vs ih=>
  intro i j v o h hv ho;cases j with
  |zero=>
   simp only[al_g0,al_oi]at hv;subst hv;exact h.1 o ho
  |succ j=>exact ih (i+1) j v o h.2 (by simpa using hv) (by rw[show i+1+j=i+(j+1)by omega];exact ho)
def left(listed:Array Bool):Nat:=(listed.toList.filter (! ·)).length
theorem zq7r:∀(l:List Bool)(i:Nat),l[i]?=some false->((l.set i true).filter (! ·)).length+1=(l.filter (! ·)).length
 |[],_,h=>by cases h
 |x::l,0,h=>by
  simp only[al_g0,al_oi]at h;subst h;simp
 |x::l,i+1,h=>by
  have:=zq7r l i (by simpa using h);cases x<;>simp[List.filter_cons]<;>omega
theorem zq1o{listed:Array Bool}{i:Nat}(h:listed.getD i true=false):i<listed.size:=by
 rcases Nat.lt_or_ge i listed.size with h'|h'
 . exact h'
 . simp[Array.getElem?_eq_none h']at h
theorem zq4p{listed:Array Bool}{i:Nat}(h:listed.getD i true=false):left (listed.setIfInBounds i true)+1=left listed:=by
 unfold left;have hlt:=zq1o h;have hv:listed.toList[i]?=some false:=by
  simp[hlt]at h |-;exact h
 rw[Array.toList_setIfInBounds];exact zq7r _ _ hv
theorem zq5n{listed:Array Bool}{i:Nat}(h:listed.getD i true=false):0<left listed:=by
 have:=zq4p h;omega
theorem waits_iff{j i:Nat}:waits ops j i=true↔∃o,ops[j]?=some o/\∃e∈o.after,Region.binds .any e=true/\e.on=i:=by
 unfold waits;cases ops[j]? with
 |none=>simp
 |some o=>
  simp only[al_oi,exists_eq_left',Array.any_eq_true];constructor
  . rintro⟨m,hm,h⟩;simp only[Bool.and_eq_true,beq_iff_eq]at h;exact⟨_,Array.getElem_mem hm,h.1,h.2⟩
  . rintro⟨e,he,h1,h2⟩;obtain⟨m,hm,rfl⟩:=Array.mem_iff_getElem.1 he;exact⟨m,hm,by simp[h1,h2]⟩
structure DrawOk(P:Program)(ops:Array Oper)(l n:Nat):Prop where
 size:ops.size=l+1
 reads:∀i,i<l->∃o d,ops[i]?=some o/\zq1q P o.op=true/\o.guard=none/\o.dst=some d/\d<n
 apart:∀i j,i<l->j<i->dstOf ops i≠dstOf ops j
 back:∀i o e,i<l+1->ops[i]?=some o->e∈o.after->Region.binds .any e=true->e.on<i
 looks:∀i o x t j,i<l+1->ops[i]?=some o->x∈o.op.operands->tmpOf x=some t->j<l->dstOf ops j=some t->waits ops i j=true
 leads:∀i,i<l->∃j,j<l+1/\i<j/\waits ops j i=true
theorem zqbv{l n:Nat}(h:drawOk P ops l n=true):DrawOk P ops l n:=by
 unfold drawOk at h;simp only[Bool.and_eq_true,beq_iff_eq,List.all_eq_true,List.mem_range,List.any_eq_true,decide_eq_true_eq]at h;obtain⟨⟨⟨⟨h1,h2⟩,h3⟩,h4⟩,h5⟩:=h;refine⟨h1,λi hi=>?_,λi j hi hj=>by have:=h3 i hi j hj;simpa using this,λi o e hi ho he hb=>?_,λi o x t j hi ho hx ht hj hd=>?_,λi hi=>?_⟩
 . have:=h2 i hi;cases ho:ops[i]? with
   |none=>rw[ho]at this;cases this
   |some o=>
    rw[ho]at this;simp only[Bool.and_eq_true,Option.isNone_iff_eq_none]at this;obtain⟨⟨a1,a2⟩,a3⟩:=this;cases hd:o.dst with
    |none=>rw[hd]at a3;cases a3
    |some d=>rw[hd]at a3;exact⟨o,d,rfl,a1,a2,hd,by simpa using a3⟩
 . have:=h4 i hi;rw[ho]at this;simp only[Bool.and_eq_true,Array.all_eq_true_iff_forall_mem]at this;have:=this.1 e he;simpa[hb]using this
 . have:=h4 i hi;rw[ho]at this;simp only[Bool.and_eq_true,Array.all_eq_true_iff_forall_mem]at this;have:=this.2 x hx;rw[ht]at this;simp only[List.all_eq_true,List.mem_range]at this;have:=this j hj;simpa[hd]using this
 . obtain⟨j,hj,h⟩:=h5 i hi;exact⟨j,hj,h.1,h.2⟩
structure Agree(ops:Array Oper)(l:Nat)(T a₀:Array Value)(listed:Array Bool)(tm:Array Value):Prop where
 size:tm.size=T.size
 on:∀i t,i<l->listed.getD i false=true->dstOf ops i=some t->tm[t]?=T[t]?
 off:∀t,(∀i,i<l->listed.getD i false=true->dstOf ops i≠some t)->tm[t]?=a₀[t]?
theorem zq4k{ρ ρ':Array Value}{ds ds':List Deferred}{x:Operand}(h:∀t,tmpOf x=some t->ρ[t]?=ρ'[t]?):(Act.mk ρ ds).eval x=(Act.mk ρ' ds').eval x:=by
 cases x with
 |tmp t=>
  have:=h t rfl;simp[Act.eval,Frame.eval,al_gd,this]
 |_=>rfl
end
section
variable {P:Program} {main:Bool} {Kc:Addr->Option Value} {γ:Type} {J:γ->Goroutine->World->Prop}
theorem draw_go(hJ:JS P main Kc J){b:Frame}{k:List Item}{cs:List Frame}(hb:b.kind≠.early){ops:Array Oper}{l n:Nat}(hok:DrawOk P ops l n){T a₀:Array Value}{ds:List Deferred}{s:γ}{w:World}(hT:T.size=n)
 (hout:∀t,(∀i,i<l->dstOf ops i≠some t)->T[t]?=a₀[t]?)
 (hval:∀i o,i<l->ops[i]?=some o->∃v d,o.dst=some d/\T[d]?=some v/\∀τ dd,(execOp (Act.mk T []).eval o).run P (re w τ dd)=.ok (.value v) (re w τ dd))
 (hlast:J s (G (b.at ⟨T,ds⟩ (.inRegion ops [l]::k)) cs) w):
 ∀(fuel t:Nat)(listed:Array Bool)(tm:Array Value),listed.size=l+1->left listed<=fuel->listed.getD l true=false->
  (∀i o e,i<l+1->ops[i]?=some o->listed.getD i false=true->e∈o.after->Region.binds .any e=true->listed.getD e.on false=true)->Agree ops l T a₀ listed tm->
  J s (G (b.at ⟨tm,ds⟩ (.inRegion ops (Region.linearise.go .any ops fuel t listed [])::k)) cs) w:=by
 intro fuel
 induction fuel with
 |zero=>intro t listed tm hsz hl hlast' _ _;have:=zq5n hlast';omega
 |succ fuel ih=>
  intro t listed tm hsz hl hlast' hclosed hag;simp only[Region.linearise.go];change J s (G (b.at ⟨tm,ds⟩ (.inRegion ops (match (Region.ready .any ops listed)[t % (Region.ready .any ops listed).length]? with
   |some i=>Region.linearise.go .any ops fuel (t / (Region.ready .any ops listed).length) (listed.setIfInBounds i true) [i]
   |none=>[].reverse)::k)) cs) w
  have hready:∃i,i∈Region.ready .any ops listed:=by
   have:∀m i,m=i->listed.getD i true=false->∃j,j∈Region.ready .any ops listed:=by
    intro m
    induction m using Nat.strongRecOn with
    |_ m ihm=>
     intro i hi hun;subst hi;have hlt:m<l+1:=by have:=zq1o hun;omega
     have hops:m<ops.size:=by rw[hok.size];exact hlt
     by_cases hall:∀e∈(ops[m]'hops).after,Region.binds .any e=true->listed.getD e.on false=true
     . exact⟨m,mem_ready.2 ⟨hun,_,Array.getElem?_eq_getElem hops,hall⟩⟩
     . obtain⟨e,he⟩:=Classical.not_forall.1 hall;obtain⟨h1,he⟩:=Classical.not_imp.1 he;obtain⟨h2,he⟩:=Classical.not_imp.1 he;have hlt':=hok.back m _ e hlt (Array.getElem?_eq_getElem hops) h1 h2;refine ihm e.on hlt' e.on rfl ?_;have:e.on<listed.size:=by omega
       simp[this]at he |-;exact he
   exact this l l rfl hlast'
  cases hi:(Region.ready .any ops listed)[t % (Region.ready .any ops listed).length]? with
  |none=>
   exfalso;obtain⟨i,hi'⟩:=hready;have hpos:0<(Region.ready .any ops listed).length:=List.length_pos_of_mem hi';have hlt:=Nat.mod_lt t hpos;rw[List.getElem?_eq_none_iff]at hi;omega
  |some i=>
   have hmem:=List.mem_of_getElem? hi;obtain⟨hun,o,ho,hall⟩:=mem_ready.1 hmem;have hilt:i<l+1:=by have:=zq1o hun;omega
   simp only[];rw[linearise_go_acc,List.reverse_singleton,List.singleton_append]
   by_cases hil:i=l
   ·
    subst hil;have hall':∀m j,i - j=m->j<i->listed.getD j false=true:=by
     intro m
     induction m using Nat.strongRecOn with
     |_ m ihm=>
      intro j hm hj;obtain⟨q,hq1,hq2,hq3⟩:=hok.leads j hj;obtain⟨oq,hoq,e,he1,he2,he3⟩:=waits_iff.1 hq3;subst he3
      by_cases hqi:q=i
      . subst hqi;rw[ho]at hoq;obtain rfl:=Option.some.inj hoq;exact hall e he1 he2
      . have:=ihm (i - q) (by omega) q rfl (by omega);exact hclosed q oq e hq1 hoq this he1 he2
    have hnil:Region.linearise.go .any ops fuel (t / (Region.ready .any ops listed).length) (listed.setIfInBounds i true) []=[]:=by
     cases fuel with
     |zero=>rfl
     |succ fuel=>
      simp only[Region.linearise.go];have hr:Region.ready .any ops (listed.setIfInBounds i true)=[]:=by
       refine List.eq_nil_iff_forall_not_mem.2 λj hj=>?_;obtain⟨hju,_⟩:=mem_ready.1 hj;have hjlt:=zq1o hju;simp at hjlt
       by_cases hji:i=j
       . subst hji;simp[hjlt]at hju
       . rw[getD_set_ne true hji]at hju;have:=hall' _ j rfl (by omega);simp[hjlt]at hju this;rw[hju]at this;cases this
      have e1:((List.range ops.size).filter λi_1=>!(listed.setIfInBounds i true).getD i_1 true&&((ops[i_1]?).map (·.after.all λe=>!Region.binds .any e || (listed.setIfInBounds i true).getD e.on false)).getD false)=[]:=hr;rw[e1];rfl
    rw[hnil];have htm:tm=T:=by
     apply Array.ext_getElem?;intro x
     by_cases hx:∃j,j<i/\dstOf ops j=some x
     . obtain⟨j,hj,hd⟩:=hx;exact hag.on j x hj (hall' _ j rfl hj) hd
     . rw[hag.off x (λj hj _ hd=>hx ⟨j,hj,hd⟩),hout x λj hj hd=>hx ⟨j,hj,hd⟩]
    rw[htm];exact hlast
   . have hi':i<l:=by omega
     obtain⟨o',d,ho',hread,hguard,hdst,hdn⟩:=hok.reads i hi';rw[ho]at ho';obtain rfl:=Option.some.inj ho';obtain⟨v,d',hd',hTv,hrun⟩:=hval i o hi' ho;rw[hdst]at hd';obtain rfl:=Option.some.inj hd';have hdi:dstOf ops i=some d:=by unfold dstOf;rw[ho];exact hdst
     have hex:execOp (Act.mk tm ds).eval o=execOp (Act.mk T []).eval o:=by
      refine execOp_congr o (λcs b h=>by rw[h]at hread;cases hread) λx hx=>zq4k λt ht=>?_
      by_cases hxt:∃j,j<l/\dstOf ops j=some t
      . obtain⟨j,hj,hd⟩:=hxt;obtain⟨oi,hoi,e,he1,he2,he3⟩:=waits_iff.1 (hok.looks i o x t j hilt ho hx ht hj hd);rw[ho]at hoi;obtain rfl:=Option.some.inj hoi;subst he3;exact hag.on e.on t hj (hall e he1 he2) hd
      . rw[hag.off t (λj hj _ hd=>hxt ⟨j,hj,hd⟩),hout t λj hj hd=>hxt ⟨j,hj,hd⟩]
     have hw:Region.wanted o (yielded ops (Act.mk tm ds).tmps)=true:=by simp[Region.wanted,hguard]
     refine zq1t hb hJ ho hw λτ dd=>?_;rw[hex];obtain⟨h1,h2⟩:=zq3l (Kc:=Kc) (zq4m o hread (Act.mk T []).eval) (re w τ dd);refine⟨h1,h2,?_⟩;rw[hrun];show J s (G (b.at (Act.put ⟨tm,ds⟩ o.dst v) _) cs) (re w τ dd);rw[hdst];refine hJ.re' _ _ _ _ _ ?_;show J s (G (b.at ⟨tm.setIfInBounds d v,ds⟩ _) cs) w;have hld:left (listed.setIfInBounds i true)+1=left listed:=zq4p hun;refine ih _ _ _ (by simpa using hsz) (by omega) (by rw[getD_set_ne true hil];exact hlast') ?_ ?_
     . intro j oj e hj hoj hlj he hbe;refine getD_set_true ?_
       by_cases hji:i=j
       . subst hji;rw[ho]at hoj;obtain rfl:=Option.some.inj hoj;exact hall e he hbe
       . rw[getD_set_ne false hji]at hlj;exact hclosed j oj e hj hoj hlj he hbe
     . refine⟨by simpa using hag.size,λj t hj hlj hd=>?_,λt ht=>?_⟩
       . by_cases htd:d=t
         . subst htd;have:d<tm.size:=by rw[hag.size,hT];exact hdn
           simp[this,hTv]
         . rw[al_gn htd]
           by_cases hji:i=j
           . subst hji;rw[hdi]at hd;exact absurd (Option.some.inj hd) htd
           . rw[getD_set_ne false hji]at hlj;exact hag.on j t hj hlj hd
       . have htd:d≠t:=by
          intro e;subst e;refine ht i hi' ?_ hdi;have:=zq1o hun;simp[this]
         rw[al_gn htd];refine hag.off t λj hj hlj=>?_;exact ht j hj (getD_set_true hlj)
theorem zq4c(hJ:JS P main Kc J){b:Frame}{k:List Item}{cs:List Frame}(hb:b.kind≠.early)(hm:P.follows .mixedOrders=true){id:Nat}{ops:Array Oper}{a:Act}{s:γ}{w:World}(vs:List Value)
 (hok:drawOk P ops vs.length a.tmps.size=true) (hval:∀τ d,evals P ops (putv ops vs 0 a.tmps) (re w τ d) vs 0)
 (hlast:J s (G (b.at ⟨putv ops vs 0 a.tmps,a.defers⟩ (.inRegion ops [vs.length]::k)) cs) w):J s (G (b.at a (.code (.region id ops true)::k)) cs) w:=by
 have hk:=zqbv hok;refine hJ.step _ _ _ rfl λτ d=>⟨_,_,#[],stepG_region_draw,?_,by simp,?_⟩
 . exact OkD.refl _ _ _
 . refine hJ.re' s _ w τ (d+1) ?_;simp only[Region.schedule,hm,Bool.true_or,if_true,Region.linearise];refine draw_go hJ hb hk (a₀:=a.tmps) (T:=putv ops vs 0 a.tmps) (zq4x vs 0 _) (λt h=>zq39 vs 0 _ t (λj _ hj=>h j (by omega))) ?_ hlast _ _ _ _ (by simp[hk.size]) ?_ (by simp[hk.size]) ?_ ?_
   . intro i o hi ho;obtain⟨o',dd,ho',_,_,hd,hdn⟩:=hk.reads i hi;rw[ho]at ho';obtain rfl:=Option.some.inj ho';have hv:vs[i]?=some vs[i]:=List.getElem?_eq_getElem hi;have hdi:dstOf ops (0+i)=some dd:=by unfold dstOf;rw[Nat.zero_add,ho];exact hd
     refine⟨vs[i],dd,hd,zq5s vs 0 _ i _ dd hv hdi hdn (λm h1 h2 e=>?_),λτ d'=>evals_at vs 0 i _ o (hval τ d') hv (by rw[Nat.zero_add];exact ho)⟩;have:=hk.apart m i (by omega) (by omega);rw[Nat.zero_add]at hdi;exact this (by rw[e,hdi])
   . unfold left;have:((Array.replicate ops.size false).toList.filter (! ·)).length<=(Array.replicate ops.size false).toList.length:=List.length_filter_le _ _;simpa using this
   . intro i o e hi ho hl;have:i<ops.size:=by rw[hk.size];exact hi
     simp[this]at hl
   . refine⟨(zq4x vs 0 _).symm,λi t hi hl=>?_,λt _=>rfl⟩;have:i<ops.size:=by rw[hk.size];omega
     simp[this]at hl
end
section
variable {P:Program} {main:Bool} {Kc:Addr->Option Value} {γ:Type} {J:γ->Goroutine->World->Prop}
theorem zq29{b:Frame}{k:List Item}{cs:List Frame}(hb:b.kind≠.early)(hJ:JS P main Kc J){ops:Array Oper}{i:Nat}{rest:List Nat}{o:Oper}{s:γ}{a:Act}{w:World}{t:TypeId}{pa pv:Operand}{ad:Addr}
 (ho:ops[i]?=some o) (hop:o.op=.store t pa pv) (ha:a.eval pa=.pointer (some ad)) (hK:∀j,j<(a.eval pv).cells.size->Kc (ad.add j)=none) (hbk:∃c e f,w.heap[ad.block]?=some (.cells c e f))
 (h:∀τ d,wpList P ops (zq7 J ops rest b k cs s) [o] a (re w τ d)):J s (G (b.at a (.inRegion ops (i::rest)::k)) cs) w:=by
 have hok:okOp P (λ_=>false) o.op=true:=by rw[hop];rfl
 refine at_one hb (l:=[]) hJ (zqf P) ho hok (λ_ τ d=>zqc4 hop ha hK hbk) (zq7 J ops rest b k cs s .normal) (λa w τ τ' d d' hτ h=>zq6v hJ _ _ _ _ _ _ _ h) (λa w h=>h w.tape w.drawn) (zq7 J ops rest b k cs s) (λch a w h=>h w.tape w.drawn) λτ d=>?_;have:=h τ d;simp only[wpList]at this;split at this
 . rename_i hw;rw[if_pos hw];exact this.elim id (λ⟨_,a,w,h⟩=>h.elim)
 . rename_i hw;rw[if_neg hw];exact this
theorem zq4n{ad:Addr}(h:∀y:Addr,y.block=ad.block->Kc y=none)(j:Nat):Kc (ad.add j)=none:=h _ (zq6f ad j)
theorem zq4o{ad:Addr}(h:Kc ad=none){j:Nat}(hj:j<1):Kc (ad.add j)=none:=by
 obtain rfl:j=0:=by omega
 exact h
theorem zq14{b:Frame}{k:List Item}{cs:List Frame}(hb:b.kind≠.early)(hJ:JS P main Kc J){ops:Array Oper}{i:Nat}{rest:List Nat}{o:Oper}{s:γ}{a:Act}{w:World}{f:FuncId}{args:Array Value}
 (ho:ops[i]?=some o) (hw:Region.wanted o (yielded ops a.tmps)=true) (hr:∀τ d,(execOp a.eval o).run P (re w τ d)=.ok (.enter f args) (re w τ d)) (hev:∀τ d,∀e∈((execOp a.eval o).runT P (re w τ d) #[]).2,EvOk Kc e)
 (h:J s (G (Frame.enter P f args .normal) (b.at a (.inRegion ops (i::rest)::k)::cs)) w):J s (G (b.at a (.inRegion ops (i::rest)::k)) cs) w:=by
 refine hJ.step _ _ _ rfl λτ d=>?_;have hkb:(b.kind==CallKind.early)=false:=by simpa using hb
 have hke:((b.at a (.inRegion ops (i::rest)::k)).kind==CallKind.early)=false:=hkb;have h1:((execOp a.eval o).runT P (re w τ d) #[]).1=.ok (.enter f args) (re w τ d):=by rw[Sem.runT_eq];exact hr τ d
 have h2:=hev τ d;rw[stepG_oper ho hw,stepG.apply];simp only[if_true];generalize (execOp a.eval o).runT P (re w τ d) #[]=r at h1 h2;obtain⟨r,es⟩:=r;simp only at h1;subst h1;refine⟨_,_,seen P b.fn es,by simp only[hke,Bool.false_eq_true,if_false,GStep.after,Array.append_empty];rfl,OkD.refl _ _ _,λe he=>h2 e (mem_seen he),hJ.re' _ _ _ _ _ h⟩
theorem at_defer{b:Frame}{k:List Item}{cs:List Frame}(hb:b.kind≠.early)(hJ:JS P main Kc J){ops:Array Oper}{i:Nat}{rest:List Nat}{o:Oper}{s:γ}{a:Act}{w:World}{d:Deferred}
 (ho:ops[i]?=some o) (hw:Region.wanted o (yielded ops a.tmps)=true) (hr:∀w,(execOp a.eval o).run P w=.ok (.defer d) w) (he:∀w,(execOp a.eval o).events P w #[]=#[])
 (h:J s (G (b.at (({a with defers:=d::a.defers}:Act).put o.dst undef) (.inRegion ops rest::k)) cs) w):J s (G (b.at a (.inRegion ops (i::rest)::k)) cs) w:=by
 refine zq1t hb hJ ho hw λτ dd=>⟨?_,?_,?_⟩
 . rw[Sem.runT_eq,he];simp
 . rw[hr];exact OkD.refl _ _ _
 . rw[hr];exact hJ.re' _ _ _ τ dd h
def botF(P:Program):Frame:={(default:Frame)with fn:=P.funcs.size,defers:=[],mode:=.panicking [goexitEntry]}
end
theorem zqc(w:World)(o:Obj)(b:Nat):(w.alloc o).heap[b]?=if b=w.heap.size then some o else w.heap[b]?:=by
 show(w.heap.push o)[b]?=_;rw[Array.getElem?_push]
theorem zq8(w:World)(o:Obj):(w.alloc o).heap.size=w.heap.size+1:=by
 show(w.heap.push o).size=_;simp
theorem zqz(w:World)(a:Addr)(v:Value):(w.setCell a v).heap.size=w.heap.size:=by
 show(w.heap.modify _ _).size=_;simp
theorem zql(w:World)(a:Addr)(v:Value)(b:Nat)(h:b≠a.block):(w.setCell a v).heap[b]?=w.heap[b]?:=by
 show(w.heap.modify _ _)[b]?=_;rw[Array.getElem?_modify,if_neg (λe=>h e.symm)]
theorem zqy(w:World)(b off:Nat)(v:Value){c:Array Value}{e:TypeId}{f:Nat×Nat}(h:w.heap[b]?=some (.cells c e f)):(w.setCell ⟨b,off,none⟩ v).heap[b]?=some (.cells (c.setIfInBounds off v) e f):=by
 show(w.heap.modify _ _)[b]?=_;rw[Array.getElem?_modify,if_pos rfl,h];rfl
theorem zq1{w:World}{b off:Nat}{c:Array Value}{e:TypeId}{f:Nat×Nat}(h:w.heap[b]?=some (.cells c e f)):w.cell? ⟨b,off,none⟩=c[off]?:=by
 simp[World.cell?,h]
theorem zqh{w:World}{b off:Nat}{c:Array Value}{e:TypeId}(h:w.heap[b]?=some (.cells c e)):w.frozen? ⟨b,off,none⟩=false:=by
 simp[World.frozen?,h]
theorem zq17{w w':World}{a:Addr}(h:w'.heap[a.block]?=w.heap[a.block]?):w'.cell? a=w.cell? a:=by
 simp[World.cell?,h]
theorem zq7f{w w':World}{a:Addr}(h:w'.heap[a.block]?=w.heap[a.block]?):w'.frozen? a=w.frozen? a:=by
 simp[World.frozen?,h]
theorem zqi{w:World}{b:Nat}{o:Obj}(h:w.heap[b]?=some o):b<w.heap.size:=(Array.getElem?_eq_some_iff.1 h).1
theorem zq3o(w:World)(c cap:Nat)(buf:Array Value)(cl:Bool)(s r:Nat)(tm:Bool)(b:Nat)(h:b≠c):(w.setChan c cap buf cl s r tm).heap[b]?=w.heap[b]?:=by
 show(w.heap.setIfInBounds _ _)[b]?=_;rw[al_gn (λe=>h e.symm)]
theorem size_setChan(w:World)(c cap:Nat)(buf:Array Value)(cl:Bool)(s r:Nat)(tm:Bool):(w.setChan c cap buf cl s r tm).heap.size=w.heap.size:=by
 show(w.heap.setIfInBounds _ _).size=_;simp
section
variable {P:Program} {main:Bool} {Kc:Addr->Option Value} {γ:Type} {J:γ->Goroutine->World->Prop}
theorem zqb3{b:Frame}{k:List Item}{c:Frame}{cs:List Frame}(hb:b.kind=.deferred)(hc:c.mode=.returning)(hJ:JS P main Kc J){ops:Array Oper}{i:Nat}{rest:List Nat}{o:Oper}{s:γ}{a:Act}{w:World}
 (ho:ops[i]?=some o) (hw:Region.wanted o (yielded ops a.tmps)=true) (hr:∀w,(execOp a.eval o).run P w=.ok .recover w) (he:∀w,(execOp a.eval o).events P w #[]=#[])
 (h:J s (G (b.at (a.put o.dst .nilIface) (.inRegion ops rest::k)) (c::cs)) w):J s (G (b.at a (.inRegion ops (i::rest)::k)) (c::cs)) w:=by
 have hfin:∀v,(b.at a (.inRegion ops (i::rest)::k)).finish v=b.at (a.put o.dst v) (.inRegion ops rest::k):=λv=>by rw[Frame.finish_at,ho];rfl
 refine hJ.step _ _ _ rfl λτ d=>⟨G (b.at (a.put o.dst .nilIface) (.inRegion ops rest::k)) (c::cs),re w τ d,#[],?_,OkD.refl _ _ _,by simp,hJ.re' _ _ _ τ d h⟩;rw[stepG_oper ho hw,<-hfin];simp[stepG.apply,hr,he,G,Frame.at,hb,GStep.after,seen_none,tryRecover,hc,Sem.runT_eq]
theorem zqb4{b:Frame}{k:List Item}{c:Frame}{cs:List Frame}{v:Value}{older:List PanicEntry}(hb:b.kind=.deferred)(hc:c.mode=.panicking ({v,recovered:=false}::older))(hJ:JS P main Kc J){ops:Array Oper}{i:Nat}{rest:List Nat}{o:Oper}{s:γ}{a:Act}{w:World}
 (ho:ops[i]?=some o) (hw:Region.wanted o (yielded ops a.tmps)=true) (hr:∀w,(execOp a.eval o).run P w=.ok .recover w) (he:∀w,(execOp a.eval o).events P w #[]=#[])
 (h:J s (G (b.at (a.put o.dst v) (.inRegion ops rest::k)) ({c with mode:=.panicking ({v,recovered:=true}::older)}::cs)) w):J s (G (b.at a (.inRegion ops (i::rest)::k)) (c::cs)) w:=by
 have hfin:∀v,(b.at a (.inRegion ops (i::rest)::k)).finish v=b.at (a.put o.dst v) (.inRegion ops rest::k):=λv=>by rw[Frame.finish_at,ho];rfl
 refine hJ.step _ _ _ rfl λτ d=>⟨G (b.at (a.put o.dst v) (.inRegion ops rest::k)) ({c with mode:=.panicking ({v,recovered:=true}::older)}::cs),re w τ d,#[],?_,OkD.refl _ _ _,by simp,hJ.re' _ _ _ τ d h⟩;rw[stepG_oper ho hw,<-hfin];simp[stepG.apply,hr,he,G,Frame.at,hb,GStep.after,seen_none,tryRecover,hc,Sem.runT_eq]
theorem zqb5{b:Frame}{a:Act}{todo:List Item}{cs:List Frame}{md:FrameMode}{f:FuncId}{fn:Func}{c:Code}{args caps:Array Value}{ds:List Deferred}{s:γ}{w:World}(hJ:JS P main Kc J)
 (hm:md=.returning\/∃ch,md=.panicking ch) (hd:a.defers={target:=.fn (.func f) caps,args:=args}::ds) (hf:P.funcs[f]?=some fn) (hn:(fn.name== "runtime.NumGoroutine")=false) (hb:fn.body=some c)
 (h:J s (G ((baseD f).at (zqm fn (args++caps)) [.code c]) ({b.at ⟨a.tmps,ds⟩ todo with mode:=md}::cs)) w):J s (G {b.at a todo with mode:=md} cs) w:=by
 have hn':¬fn.name= "runtime.NumGoroutine" :=by simpa using hn
 have e:(baseD f).at (zqm fn (args++caps)) [.code c]=Frame.enter P f (args++caps) .deferred:=(enter_atD _ hf hb).symm;rw[e]at h;refine hJ.step _ _ _ rfl λτ d=>⟨_,re w τ d,#[],?_,OkD.refl _ _ _,by simp,hJ.re' _ _ _ τ d h⟩;rcases hm with rfl |⟨ch,rfl⟩<;>simp[G,stepG,unwind,callDeferred,Frame.at,hd,invoke,callFunc,hf,hn',hb,GStep.after,seen_none,Sem.runT_eq]
end
section
variable {P:Program}
theorem zq7j{Fin:Machine->Trace->Prop}{Kc Kc':Addr->Option Value}{Inb:Nat->Option Seat}{n:Nat}{g:Goroutine}{w:World}(hI:∀i,i≠0->Inb i=none)(hK:KK Kc' w)
 (h:HoldR P Fin Kc' (λ_=>none) 0 n g w):HoldR P Fin Kc Inb 0 n g w:=by
 intro τ d Mem B gs sl T q hM hsz hg C;obtain⟨hL,hP⟩:=ring_end C hM hI;exact h τ d (λg=>g=0) B gs sl T q rfl hsz hg (ring_begin (Still:=zq21 Kc') (λl(hl:zq21 Kc' l)=>by obtain⟨a,v,rfl,_⟩:=hl;rfl) hL hP hK)
theorem zq6d(w:World):KK (λ_=>none) w:=λa v h=>by cases h
structure Mc where
 n:Nat
 inb:Nat->Option Seat
def JMain(P:Program)(Fin:Machine->Trace->Prop)(Kc:Addr->Option Value)(s:Mc)(g:Goroutine)(w:World):Prop:=HoldR P Fin Kc s.inb 0 s.n g w
def J0(P:Program)(Fin:Machine->Trace->Prop)(n:Nat)(g:Goroutine)(w:World):Prop:=HoldR P Fin (λ_=>none) (λ_=>none) 0 n g w
theorem j0_JS{Fin:Machine->Trace->Prop}(hFin:Back P Fin):JS P true (λ_=>none) (J0 P Fin):=
 ⟨λs g w τ d h=>(zq35 hFin _ (λ_=>none) 0 s).re' () g w τ d h,λs g w hr hs=>(zq35 hFin _ (λ_=>none) 0 s).step () g w hr hs⟩
theorem zq15{Fin:Machine->Trace->Prop}(hFin:Back P Fin):CalmJ P true (J0 P Fin):=
 λs fr cs w hs=>zqck hFin (Inb:=λ_=>none) (λ_=>rfl) 0 s () fr cs w hs
theorem zqcv{Fin:Machine->Trace->Prop}{Kc:Addr->Option Value}{n:Nat}{g:Goroutine}{w:World}(hK:KK Kc w)(h:JMain P Fin Kc ⟨n,λ_=>none⟩ g w):J0 P Fin n g w:=zq7j (λ_ _=>rfl) hK h
theorem zqd6{Fin:Machine->Trace->Prop}{Kc:Addr->Option Value}{s:Mc}{g:Goroutine}{w:World}(hI:∀i,i≠0->s.inb i=none)(h:J0 P Fin s.n g w):JMain P Fin Kc s g w:=zq7j hI (zq6d w) h
end
inductive Out(M:Type)where
 |yield (m:M)
 |done (m:M)
 |broke (m:M)
def Out.mem {M:Type}:Out M->M
 |.yield m=>m
 |.done m=>m
 |.broke m=>m
structure Thr(M:Type)where
 foot:M->Nat->Prop
 Rep:M->World->Prop
 Start:Nat->M->Out M->Prop
 Go:Nat->M->Out M->Prop
 Kill:Nat->M->M->Prop
 Same:Nat->M->M->Prop
 left:M->Nat
 frame:∀m w w',Rep m w->(∀b,foot m b->w'.heap[b]?=w.heap[b]?)->Rep m w'
 lt:∀m w b,Rep m w->foot m b->b<w.heap.size
 refl:∀i m,Same i m m
 trans:∀i m m' m'',Same i m m'->Same i m' m''->Same i m m''
 start_same:∀i j m o,i≠j->Start j m o->Same i m o.mem
 go_same:∀i j m o,i≠j->Go j m o->Same i m o.mem
 kill_same:∀i j m m',i≠j->Kill j m m'->Same i m m'
structure Grow{M:Type}(T:Thr M)(m:M)(w:World)(m':M)(w':World):Prop where
 size:w.heap.size<=w'.heap.size
 old:∀b,b<w.heap.size->¬T.foot m b->w'.heap[b]?=w.heap[b]?
 grow:∀b,T.foot m' b->T.foot m b\/w.heap.size<=b
structure Env(P:Program){M:Type}(T:Thr M)(Kc:Addr->Option Value)(X:Snap)(J:Goroutine->World->Prop)(m:M)(w:World):Prop where
 js:JX P Kc J
 calm:CalmX P false X (λ(_:Unit)=>J)
 rows:Rows X w
 kept:∀a v,Kc a=some v->∃c e,X a.block=some (c,e)
 free:∀b x,X b=some x->¬T.foot m b
section
variable {M:Type}
theorem Grow.trans {T:Thr M}{m m' m'':M}{w w' w'':World}(h:Grow T m w m' w')(k:Grow T m' w' m'' w''):Grow T m w m'' w'':=
 ⟨Nat.le_trans h.size k.size,λb hb hf=>(k.old b (Nat.lt_of_lt_of_le hb h.size) λhf'=>(h.grow b hf').elim hf (λx=>absurd hb (Nat.not_lt_of_le x))).trans (h.old b hb hf),
  λb hb=>(k.grow b hb).elim (h.grow b) (λx=>.inr (Nat.le_trans h.size x))⟩
theorem Env.grow {P:Program}{T:Thr M}{Kc:Addr->Option Value}{X:Snap}{J:Goroutine->World->Prop}{m m':M}{w w':World}(h:Env P T Kc X J m w)(hf:Grow T m w m' w'):Env P T Kc X J m' w':=by
 have lt:∀b x,X b=some x->b<w.heap.size:=λb x hx=>by obtain⟨c,e⟩:=x;exact(Array.getElem?_eq_some_iff.1 (h.rows b c e hx)).1
 refine⟨h.js,h.calm,λb c e hb=>?_,h.kept,λb x hb hf'=>?_⟩
 . rw[hf.old b (lt b _ hb) (h.free b _ hb)];exact h.rows b c e hb
 . exact(hf.grow b hf').elim (h.free b x hb) (λy=>absurd (lt b x hb) (Nat.not_lt_of_le y))
structure Conts(P:Program)(T:Thr M)(fStep:FuncId)(sx:Value)(cr:Frame)(rest:List Frame)(NE:List PanicEntry->Prop)(S:Frame->List Frame->M->Prop)(R:M->Out M->Prop)(l:Nat)(J:Goroutine->World->Prop)(m:M)(w:World):Prop where
 yield:∀m' c cs w',R m (.yield m')->Grow T m w m' w'->T.Rep m' w'->l<=T.left m'->S c cs m'->J (G (Frame.enter P fStep #[sx] .normal) (c::cs)) w'
 done:∀m' v w',R m (.done m')->Grow T m w m' w'->T.Rep m' w'->l<=T.left m'->J (G (cr.finish v) rest) w'
 broke:∀m' ch w',R m (.broke m')->NE ch->Grow T m w m' w'->T.Rep m' w'->l<=T.left m'->J (G (cr.raise ch) rest) w'
def Susp(P:Program)(T:Thr M)(fStep:FuncId)(sx:Value)(cr:Frame)(rest:List Frame)(NE EN:List PanicEntry->Prop)(i:Nat):Nat->Frame->List Frame->M->Prop
 |0,_,_,_=>True
 |k+1,c,cs,m₀=>∀(Kc:Addr->Option Value)(X:Snap)(J:Goroutine->World->Prop)(m:M)(w:World),Env P T Kc X J m w->T.Same i m₀ m->T.Rep m w->0<T.left m->
  (Conts P T fStep sx cr rest NE (Susp P T fStep sx cr rest NE EN i k) (T.Go i) (T.left m - 1) J m w->J (G (c.finish (.tuple #[])) cs) w)/\
  ∀ch,EN ch->(∀m' ch' w',EN ch'->T.Kill i m m'->Grow T m w m' w'->T.Rep m' w'->T.left m - 1<=T.left m'->J (G (cr.raise ch') rest) w')->J (G (c.raise ch) cs) w
def Runs(P:Program)(T:Thr M)(fStep:FuncId)(ti:TypeId)(NE:List PanicEntry->Prop)(m₀:M)(i:Nat)(tv:Value):Prop:=
 (tv=.nilFunc/\∀m,T.Start i m (.done m))\/
 ∃f first caps fn c,tv=.func (.func f) first caps/\P.funcs[f]?=some fn/\fn.body=some c/\(fn.name== "runtime.NumGoroutine")=false/\
  ∀(cr:Frame)(rest:List Frame)(st:Nat)(EN:List PanicEntry->Prop)(k:Nat)(Kc:Addr->Option Value)(X:Snap)(J:Goroutine->World->Prop)(m:M)(w:World),Env P T Kc X J m w->T.Rep m w->T.Same i m₀ m->
   Conts P T fStep (.pointer (some ⟨st,0,none⟩)) cr rest NE (Susp P T fStep (.pointer (some ⟨st,0,none⟩)) cr rest NE EN i k) (T.Start i) (T.left m) J m w->
   J (G (Frame.enter P f (first++#[.iface ti (.pointer (some ⟨st,0,none⟩))]++caps) .normal) (cr::rest)) w
theorem Susp.same {P:Program}{T:Thr M}{fStep:FuncId}{sx:Value}{cr:Frame}{rest:List Frame}{NE EN:List PanicEntry->Prop}{i k:Nat}{c:Frame}{cs:List Frame}{m m':M}(h:Susp P T fStep sx cr rest NE EN i k c cs m)(hs:T.Same i m m'):Susp P T fStep sx cr rest NE EN i k c cs m':=by
 cases k with
 |zero=>trivial
 |succ k=>exact λKc X J m₁ w hJ hs'=>h Kc X J m₁ w hJ (T.trans _ _ _ _ hs hs')
end
section
variable {P:Program} {main:Bool} {Kc:Addr->Option Value} {γ:Type} {J:γ->Goroutine->World->Prop}
theorem zqb1{b:Frame}{k:List Item}{cs:List Frame}(hb:b.kind≠.early)(hJ:JS P main Kc J){ops:Array Oper}{j:Nat}{rest:List Nat}{o:Oper}{sg:γ}{a:Act}{w:World}
 (ho:ops[j]?=some o) (hgd:o.guard=none) (s x:Operand) (t:TypeId) (hop:o.op=.call {callee:=.builtin .append,args:=#[s,x],argTypes:=#[t,t]})
 (base:Nat) (e:TypeId) (i:TypeInfo) (z:Value) (size bytes:Nat) (ht:P.underlying t=some (.slice e)) (hi:P.info? e=some i) (hz:i.zero=some z)
 (hsize:i.size=size) (hby:i.bytes=bytes) (hzs:z.cells.size=size) (hsz:0<size)
 (v:Value) (n:Nat) (xs:List Value) (hs:a.eval s=v) (hown:w.ownsRow base e size v n xs)
 (ad:Addr) (m c:Nat) (news:List Value) (hx:a.eval x=.slice (some ad) m c) (hl:news.length=m*size) (hnews:∀j u,news[j]?=some u->w.cell? (ad.add j)=some u) (h1:∀u∈news,u.oneCell'=true)
 (h63:n+m<=maxLen) (hbytes:(n+m)*bytes<=140737488355328) (hbase:base<=w.heap.size)
 (hfree:∀g,v.ownBlock=some g->∀y:Addr,y.block=g->Kc y=none)
 (h:∀v' w',w'.ownsRow base e size v' (n+m) (xs++news)->w.heap.size<=w'.heap.size->(∀k,k<w.heap.size->some k≠v.ownBlock->w'.heap[k]?=w.heap[k]?)->(v'.ownBlock=v.ownBlock\/v'.ownBlock=some w.heap.size)->
  J sg (G (b.at (a.put o.dst v') (.inRegion ops rest::k)) cs) w'):J sg (G (b.at a (.inRegion ops (j::rest)::k)) cs) w:=by
 have hw:Region.wanted o (yielded ops a.tmps)=true:=by simp[Region.wanted,hgd]
 refine zq1t hb hJ ho hw λτ d=>?_;obtain⟨v',w',hr,h2,h3,h4⟩:=run_append_own_at (P:=P) (re w τ d) base t o.type e i z size bytes ht hi hz hsize hby hzs hsz v n xs hown ad m c news hl hnews h1 h63 hbytes hbase;have hev:=events_append_own (P:=P) (re w τ d) base t o.type e i z size bytes ht hi hz hsize hby v n xs hown ad m c news hl hnews h1 h63 hbytes;have hrun:(execOp a.eval o).run P (re w τ d)=.ok (.value v') w':=by
  unfold execOp;simp only[hop,resolve,invoke,builtin,Sem.run_bind,Sem.run_pure,Result.andThen_ok,List.map_toArray,List.map_cons,List.map_nil,hs,hx,hr]
 have hevs:∀e∈((execOp a.eval o).runT P (re w τ d) #[]).2,EvOk Kc e:=by
  intro ev he;rw[Sem.runT_eq]at he;have he':ev∈(Builtin.append_ #[t,t] o.type #[v,.slice (some ad) m c]).events P (re w τ d) #[]:=by
   unfold execOp at he;simpa[hop,resolve,invoke,builtin,Sem.events_bind,hs,hx,hr]using he
  rcases hev ev he' with⟨x,h5,h6⟩|⟨x,h5,h6⟩|⟨mk,h5,h6⟩
  . obtain⟨loc,wr,sy⟩:=ev;simp only at h5 h6;subst h5 h6;exact zq76 x sy
  . obtain⟨loc,wr,sy⟩:=ev;simp only at h5;subst h5;cases wr with
    |false=>exact zq76 x sy
    |true=>exact zq77 x sy (hfree _ h6.symm x rfl)
  . subst h5;unfold Neutral at h6;subst h6;exact zq2o ⟨λm hm=>by cases hm;trivial,λ_=>rfl⟩
 refine⟨hevs,?_,?_⟩
 . rw[hrun];have hblk:∀k,k<w.heap.size->some k≠v.ownBlock->w'.heap[k]?=w.heap[k]?:=h3.block;refine⟨⟨λhK y u hy=>?_,h3.os,h3.output⟩,λch _⟨cap,kk,hch⟩=>?_⟩
   . obtain⟨a1,a2⟩:=hK y u hy;have hlt:y.block<w.heap.size:=cell_lt a1;have hne:some y.block≠v.ownBlock:=λe=>by rw[hfree _ e.symm y rfl]at hy;cases hy
     have:=hblk _ hlt hne;exact⟨(zq17 this).trans a1,(zq7f this).trans a2⟩
   . have hlt:ch<w.heap.size:=zqi hch;refine hblk ch hlt λe=>?_;rcases hown.2 with⟨hv,_⟩|⟨g,cap',cur,hv,_,hg,_⟩
     . rw[hv]at e;cases e
     . rw[hv]at e;simp only[Value.ownBlock,al_oi]at e;subst e;have hch':w.heap[ch]?=_:=hch;rw[hg]at hch';cases hch'
 . rw[hrun];exact h v' w' h2 h3.size h3.block h4.2
end
end Go.Car
namespace Go.Car
open Go
section
variable {M:Type}
inductive zq1m(R:M->Out M->Prop)(i:Nat)(m:M)(ov brk:Nat->Bool):M->(Nat->Bool)->(Nat->Bool)->Prop
 |yield (m':M) (h:R m (.yield m')):zq1m R i m ov brk m' ov brk
 |done (m':M) (h:R m (.done m')):zq1m R i m ov brk m' (λj=>if j=i then true else ov j) (λj=>if j=i then false else brk j)
 |broke (m':M) (h:R m (.broke m')):zq1m R i m ov brk m' (λj=>if j=i then true else ov j) (λj=>if j=i then true else brk j)
structure OSt(M:Type)where
 m:M
 ov:Nat->Bool
 brk:Nat->Bool
 ord:List Nat
inductive Begun(T:Thr M)(m₀:M):Nat->M->(Nat->Bool)->(Nat->Bool)->Prop
 |zero:Begun T m₀ 0 m₀ (λ_=>false) (λ_=>false)
 |succ {s m ov brk m' ov' brk'} (h:Begun T m₀ s m ov brk) (ht:zq1m (T.Start s) s m ov brk m' ov' brk'):Begun T m₀ (s+1) m' ov' brk'
theorem Begun.same {T:Thr M}{m₀:M}{s:Nat}{m:M}{ov brk:Nat->Bool}(h:Begun T m₀ s m ov brk):∀i,s<=i->T.Same i m₀ m:=by
 induction h with
 |zero=>exact λi _=>T.refl i _
 |succ h ht ih=>
  intro i hi;refine T.trans _ _ _ _ (ih i (by omega)) ?_;cases ht with
  |yield h=>exact T.start_same i _ _ _ (by omega) h
  |done h=>exact T.start_same i _ _ _ (by omega) h
  |broke h=>exact T.start_same i _ _ _ (by omega) h
inductive Step1(T:Thr M)(N most:Nat)(x:Int)(a:OSt M):OSt M->Prop
 |not(h:x<0\/(N:Int)<=x\/a.ov x.toNat=true\/a.ord.length=most):Step1 T N most x a a
 |go (i:Nat) (hx:x=i) (hi:i<N) (ho:a.ov i=false) (hm:a.ord.length≠most) {m' ov' brk'} (ht:zq1m (T.Go i) i a.m a.ov a.brk m' ov' brk'):Step1 T N most x a ⟨m',ov',brk',a.ord++[i]⟩
inductive StepsR(T:Thr M)(N most:Nat):List Int->OSt M->OSt M->Prop
 |nil (a:OSt M):StepsR T N most [] a a
 |cons {x l a b c} (h:Step1 T N most x a b) (hr:StepsR T N most l b c):StepsR T N most (x::l) a c
def leftN(ov:Nat->Bool):Nat->Nat
 |0=>0
 |N+1=>leftN ov N+if ov N then 0 else 1
def upto(N:Nat):List Int:=(List.range N).map λ(i:Nat)=>(i:Int)
inductive zq31(T:Thr M)(N most:Nat):OSt M->OSt M->Prop
 |stop (a:OSt M) (h:¬(0<leftN a.ov N/\a.ord.length<most)):zq31 T N most a a
 |more {a b c:OSt M} (h:0<leftN a.ov N/\a.ord.length<most) (hs:StepsR T N most (upto N) a b) (hr:zq31 T N most b c):zq31 T N most a c
inductive Ends(T:Thr M)(ov:Nat->Bool)(m₀:M):Nat->M->Prop
 |zero:Ends T ov m₀ 0 m₀
 |over {s m} (h:Ends T ov m₀ s m) (ho:ov s=true):Ends T ov m₀ (s+1) m
 |kill {s m m'} (h:Ends T ov m₀ s m) (ho:ov s=false) (hk:T.Kill s m m'):Ends T ov m₀ (s+1) m'
structure Ran(T:Thr M)(N:Nat)(sched:List Int)(most:Nat)(m₀:M)(b:OSt M)(m':M):Prop where
 run:∃m₁ ov₁ brk₁ a,Begun T m₀ N m₁ ov₁ brk₁/\StepsR T N most sched ⟨m₁,ov₁,brk₁,[]⟩ a/\zq31 T N most a b
 ends:Ends T b.ov b.m N m'
theorem zq7o(ov:Nat->Bool)(N:Nat):leftN ov N<=N:=by
 induction N with
 |zero=>exact Nat.le_refl _
 |succ N ih=>unfold leftN;split<;>omega
theorem zq7q{ov:Nat->Bool}{i N:Nat}(hi:i<N)(ho:ov i=false):leftN (λj=>if j=i then true else ov j) N+1=leftN ov N:=by
 induction N with
 |zero=>omega
 |succ N ih=>
  unfold leftN
  by_cases e:N=i
  . subst e;have:∀K,K<=N->leftN (λj=>if j=N then true else ov j) K=leftN ov K:=by
     intro K
     induction K with
     |zero=>intro _;rfl
     |succ K ih=>intro hK;have hne:K≠N:=by omega
                 simp only[leftN,ih (by omega),hne,if_false]
    rw[this N (Nat.le_refl _)];simp[ho]
  . have:=ih (by omega);simp only[e,if_false];split<;>omega
theorem zq7p{ov:Nat->Bool}{N:Nat}(h:0<leftN ov N):∃i,i<N/\ov i=false:=by
 induction N with
 |zero=>exact absurd h (Nat.lt_irrefl _)
 |succ N ih=>
  unfold leftN at h;cases ho:ov N with
  |false=>exact⟨N,by omega,ho⟩
  |true=>
   rw[ho]at h;obtain⟨i,h1,h2⟩:=ih (by simpa using h);exact⟨i,by omega,h2⟩
theorem zq7n{ov ov':Nat->Bool}{N:Nat}(h:∀i,i<N->ov i=ov' i):leftN ov N=leftN ov' N:=by
 induction N with
 |zero=>rfl
 |succ N ih=>unfold leftN;rw[ih (λi hi=>h i (by omega)),h N (by omega)]
theorem Step1.mono {T:Thr M}{N most:Nat}{x:Int}{a b:OSt M}(h:Step1 T N most x a b):a.ord.length<=b.ord.length:=by
 cases h<;>simp
theorem StepsR.mono {T:Thr M}{N most:Nat}{l:List Int}{a b:OSt M}(h:StepsR T N most l a b):a.ord.length<=b.ord.length:=by
 induction h with
 |nil a=>exact Nat.le_refl _
 |cons h _ ih=>exact Nat.le_trans h.mono ih
theorem StepsR.progress {T:Thr M}{N most:Nat}{l:List Int}{a b:OSt M}(h:StepsR T N most l a b){i:Nat}(hi:i<N)(hm:(i:Int)∈l)(ho:a.ov i=false)(hl:a.ord.length<most):a.ord.length<b.ord.length:=by
 induction h with
 |nil a=>cases hm
 |cons h hr ih=>
  rename_i x l a c b;cases h with
  |not hn=>
   refine ih ?_ ho hl;rcases List.mem_cons.1 hm with e|hm
   . exfalso;subst e;rcases hn with h|h|h|h
     . omega
     . omega
     . rw[show((i:Int).toNat)=i by omega,ho]at h;cases h
     . omega
   . exact hm
  |go j hx hj hoj hmj ht=>
   have:=hr.mono;simp at this;omega
theorem mem_upto{i N:Nat}(h:i<N):(i:Int)∈upto N:=List.mem_map.2 ⟨i,List.mem_range.2 h,rfl⟩
theorem upto_get{N j:Nat}(h:j<N):(upto N)[j]?=some (j:Int):=by simp[upto,h]
theorem zqao(N:Nat):(upto N).length=N:=by simp[upto]
end
theorem lit(T:Array Value)(n:Nat)(h:T.size=n):T=((List.range n).map λi=>T.getD i undef).toArray:=by
 apply Array.ext_getElem?;intro i
 by_cases hi:i<n
 . have:i<T.size:=by omega
   simp[hi,this]
 . rw[Array.getElem?_eq_none (by omega)];simp[hi]
theorem lit51(T:Array Value)(h:T.size=51):∃x0 x1 x2 x3 x4 x5 x6 x7 x8 x9 x10 x11 x12 x13 x14 x15 x16 x17 x18 x19 x20 x21 x22 x23 x24 x25 x26 x27 x28 x29 x30 x31 x32 x33 x34 x35 x36 x37 x38 x39 x40 x41 x42 x43 x44 x45 x46 x47 x48 x49 x50,T=#[x0,x1,x2,x3,x4,x5,x6,x7,x8,x9,x10,x11,x12,x13,x14,x15,x16,x17,x18,x19,x20,x21,x22,x23,x24,x25,x26,x27,x28,x29,x30,x31,x32,x33,x34,x35,x36,x37,x38,x39,x40,x41,x42,x43,x44,x45,x46,x47,x48,x49,x50]:=
 ⟨_,_,_,_,_,_,_,_,_,_,_,_,_,_,_,_,_,_,_,_,_,_,_,_,_,_,_,_,_,_,_,_,_,_,_,_,_,_,_,_,_,_,_,_,_,_,_,_,_,_,_,lit T 51 h⟩
end Go.Car
namespace Go.Car
open Go Go.Conc Go.RowKit
theorem sg1{T T1:Array Value}{a1 j:Nat}{v1:Value}{u:Option Value}(h:T1=T.setIfInBounds a1 v1)(f:T[j]?=u)(n1:a1≠j:=by decide):T1[j]?=u:=by rw[h,al_gn n1];exact f
theorem sg2{T T1:Array Value}{a1 a2 j:Nat}{v1 v2:Value}{u:Option Value}(h:T1=(T.setIfInBounds a1 v1).setIfInBounds a2 v2)(f:T[j]?=u)(n1:a1≠j:=by decide)(n2:a2≠j:=by decide):T1[j]?=u:=sg1 h (sg1 rfl f n1) n2
theorem sg3{T T1:Array Value}{a1 a2 a3 j:Nat}{v1 v2 v3:Value}{u:Option Value}(h:T1=((T.setIfInBounds a1 v1).setIfInBounds a2 v2).setIfInBounds a3 v3)(f:T[j]?=u)(n1:a1≠j:=by decide)(n2:a2≠j:=by decide)(n3:a3≠j:=by decide):T1[j]?=u:=sg1 h (sg2 rfl f n1 n2) n3
theorem sg5{T T1:Array Value}{a1 a2 a3 a4 a5 j:Nat}{v1 v2 v3 v4 v5:Value}{u:Option Value}(h:T1=((((T.setIfInBounds a1 v1).setIfInBounds a2 v2).setIfInBounds a3 v3).setIfInBounds a4 v4).setIfInBounds a5 v5)(f:T[j]?=u)(n1:a1≠j:=by decide)(n2:a2≠j:=by decide)(n3:a3≠j:=by decide)(n4:a4≠j:=by decide)(n5:a5≠j:=by decide):T1[j]?=u:=sg2 h (sg3 rfl f n1 n2 n3) n4 n5
theorem sg6{T T1:Array Value}{a1 a2 a3 a4 a5 a6 j:Nat}{v1 v2 v3 v4 v5 v6:Value}{u:Option Value}(h:T1=(((((T.setIfInBounds a1 v1).setIfInBounds a2 v2).setIfInBounds a3 v3).setIfInBounds a4 v4).setIfInBounds a5 v5).setIfInBounds a6 v6)(f:T[j]?=u)(n1:a1≠j:=by decide)(n2:a2≠j:=by decide)(n3:a3≠j:=by decide)(n4:a4≠j:=by decide)(n5:a5≠j:=by decide)(n6:a6≠j:=by decide):T1[j]?=u:=sg3 h (sg3 rfl f n1 n2 n3) n4 n5 n6
theorem sg8{T T1:Array Value}{a1 a2 a3 a4 a5 a6 a7 a8 j:Nat}{v1 v2 v3 v4 v5 v6 v7 v8:Value}{u:Option Value}(h:T1=(((((((T.setIfInBounds a1 v1).setIfInBounds a2 v2).setIfInBounds a3 v3).setIfInBounds a4 v4).setIfInBounds a5 v5).setIfInBounds a6 v6).setIfInBounds a7 v7).setIfInBounds a8 v8)(f:T[j]?=u)(n1:a1≠j:=by decide)(n2:a2≠j:=by decide)(n3:a3≠j:=by decide)(n4:a4≠j:=by decide)(n5:a5≠j:=by decide)(n6:a6≠j:=by decide)(n7:a7≠j:=by decide)(n8:a8≠j:=by decide):T1[j]?=u:=sg3 h (sg5 rfl f n1 n2 n3 n4 n5) n6 n7 n8
theorem sg11{T T1:Array Value}{a1 a2 a3 a4 a5 a6 a7 a8 a9 a10 a11 j:Nat}{v1 v2 v3 v4 v5 v6 v7 v8 v9 v10 v11:Value}{u:Option Value}(h:T1=((((((((((T.setIfInBounds a1 v1).setIfInBounds a2 v2).setIfInBounds a3 v3).setIfInBounds a4 v4).setIfInBounds a5 v5).setIfInBounds a6 v6).setIfInBounds a7 v7).setIfInBounds a8 v8).setIfInBounds a9 v9).setIfInBounds a10 v10).setIfInBounds a11 v11)(f:T[j]?=u)(n1:a1≠j:=by decide)(n2:a2≠j:=by decide)(n3:a3≠j:=by decide)(n4:a4≠j:=by decide)(n5:a5≠j:=by decide)(n6:a6≠j:=by decide)(n7:a7≠j:=by decide)(n8:a8≠j:=by decide)(n9:a9≠j:=by decide)(n10:a10≠j:=by decide)(n11:a11≠j:=by decide):T1[j]?=u:=sg3 h (sg8 rfl f n1 n2 n3 n4 n5 n6 n7 n8) n9 n10 n11
def chkE(P:Program)(ops:Array Oper)(p m:Nat):Bool:=((ops.toList.drop p).take m).all λo=>zq1q P o.op&&o.guard.isNone&&o.dst.isSome
def zqo(P:Program)(ops:Array Oper)(w:World):List Value->Nat->Array Value->Prop
 |[],_,_=>True
 |v::vs,i,T=>(∀o,ops[i]?=some o->(execOp (Act.mk T []).eval o).run P w=.ok (.value v) w)/\zqo P ops w vs (i+1) (match dstOf ops i with|some d=>T.setIfInBounds d v|none=>T)
section
variable {P:Program} {main:Bool} {Kc:Addr->Option Value} {γ:Type} {J:γ->Goroutine->World->Prop}
theorem zqbn{ops:Array Oper}{p m:Nat}(h:chkE P ops p (m+1)=true)(hlt:p<ops.size):(∃o d,ops[p]?=some o/\zq1q P o.op=true/\o.guard=none/\o.dst=some d)/\chkE P ops (p+1) m=true:=by
 have hd:ops.toList.drop p=ops[p]::ops.toList.drop (p+1):=by
  rw[List.drop_eq_getElem_cons (by simpa using hlt)];simp
 unfold chkE at h;rw[hd,List.take_succ_cons,List.all_cons,Bool.and_eq_true]at h;obtain⟨h1,h2⟩:=h;simp only[Bool.and_eq_true]at h1;obtain⟨⟨h3,h4⟩,h5⟩:=h1;obtain⟨d,hdd⟩:=Option.isSome_iff_exists.1 h5;exact⟨⟨ops[p],d,Array.getElem?_eq_getElem hlt,h3,Option.isNone_iff_eq_none.1 h4,hdd⟩,h2⟩
theorem at_eval'(hJ:JS P main Kc J){b:Frame}{k:List Item}{cs:List Frame}(hb:b.kind≠.early){ops:Array Oper}{s:γ}{rest:List Nat}:∀(vs:List Value)(p:Nat)(T:Array Value)(ds:List Deferred)(w:World),p+vs.length<=ops.size->chkE P ops p vs.length=true->
 (∀τ d,zqo P ops (re w τ d) vs p T)->J s (G (b.at ⟨putv ops vs p T,ds⟩ (.inRegion ops rest::k)) cs) w->J s (G (b.at ⟨T,ds⟩ (.inRegion ops (List.range' p vs.length++rest)::k)) cs) w:=by
 intro vs
 induction vs with
 |nil=>intro p T ds w _ _ _ h;exact h
 |cons v vs ih=>
  intro p T ds w hsz hc hv h;simp only[List.length_cons]at hsz hc;obtain⟨⟨o,d,ho,hro,hg,hd⟩,hc'⟩:=zqbn hc (by omega);have hdst:dstOf ops p=some d:=by unfold dstOf;rw[ho];exact hd
  rw[List.length_cons,List.range'_succ,List.cons_append];have hw:Region.wanted o (yielded ops T)=true:=by simp[Region.wanted,hg]
  refine zq1t hb hJ ho hw λτ dd=>?_;have hrun:(execOp (Act.mk T ds).eval o).run P (re w τ dd)=.ok (.value v) (re w τ dd):=(hv τ dd).1 o ho;have ht:tame P false (execOp (Act.mk T ds).eval o):=zq4m o hro _;obtain⟨e1,e2⟩:=zq3l (Kc:=Kc) ht (re w τ dd);refine⟨e1,e2,?_⟩;rw[hrun];have:(Act.mk T ds).put o.dst v=⟨T.setIfInBounds d v,ds⟩:=by rw[hd];rfl
  show J s (G (b.at ((Act.mk T ds).put o.dst v) _) cs) (re w τ dd);rw[this];refine ih (p+1) _ ds _ (by omega) hc' (λτ' d'=>?_) ?_
  . have:=(hv τ' d').2;rw[hdst]at this;exact this
  . refine hJ.re' s _ w τ dd ?_;have:putv ops (v::vs) p T=putv ops vs (p+1) (T.setIfInBounds d v):=by simp only[putv,hdst]
    rw[this]at h;exact h
theorem zqr(hJ:JS P main Kc J){b:Frame}{k:List Item}{cs:List Frame}(hb:b.kind≠.early){ops:Array Oper}{s:γ}(p:Nat)(vs:List Value){todo:List Nat}(rest:List Nat){a:Act}{w:World}(ht:todo=List.range' p vs.length++rest)(hsz:p+vs.length<=ops.size)(hc:chkE P ops p vs.length=true)
 (hv:∀τ d,zqo P ops (re w τ d) vs p a.tmps) (h:J s (G (b.at ⟨putv ops vs p a.tmps,a.defers⟩ (.inRegion ops rest::k)) cs) w):J s (G (b.at a (.inRegion ops todo::k)) cs) w:=by
 subst ht;exact at_eval' hJ hb vs p a.tmps a.defers w hsz hc hv h
def chkG(P:Program)(ops:Array Oper)(p m:Nat):Bool:=((ops.toList.drop p).take m).all λo=>zq1q P o.op&&o.dst.isSome
def zq2p(P:Program)(ops:Array Oper)(w:World):List (Option Value)->Nat->Array Value->Prop
 |[],_,_=>True
 |some v::vs,i,T=>(∀o,ops[i]?=some o->Region.wanted o (yielded ops T)=true/\(execOp (Act.mk T []).eval o).run P w=.ok (.value v) w)/\zq2p P ops w vs (i+1) (match dstOf ops i with|some d=>T.setIfInBounds d v|none=>T)
 |none::vs,i,T=>(∀o,ops[i]?=some o->Region.wanted o (yielded ops T)=false)/\zq2p P ops w vs (i+1) (match dstOf ops i with|some d=>T.setIfInBounds d undef|none=>T)
def putG(ops:Array Oper):List (Option Value)->Nat->Array Value->Array Value
 |[],_,t=>t
 |v::vs,i,t=>putG ops vs (i+1) (match dstOf ops i with|some d=>t.setIfInBounds d (v.getD undef)|none=>t)
theorem zqbo{ops:Array Oper}{p m:Nat}(h:chkG P ops p (m+1)=true)(hlt:p<ops.size):(∃o d,ops[p]?=some o/\zq1q P o.op=true/\o.dst=some d)/\chkG P ops (p+1) m=true:=by
 have hd:ops.toList.drop p=ops[p]::ops.toList.drop (p+1):=by
  rw[List.drop_eq_getElem_cons (by simpa using hlt)];simp
 unfold chkG at h;rw[hd,List.take_succ_cons,List.all_cons,Bool.and_eq_true]at h;obtain⟨h1,h2⟩:=h;simp only[Bool.and_eq_true]at h1;obtain⟨h3,h5⟩:=h1;obtain⟨d,hdd⟩:=Option.isSome_iff_exists.1 h5;exact⟨⟨ops[p],d,Array.getElem?_eq_getElem hlt,h3,hdd⟩,h2⟩
theorem zqb2(hJ:JS P main Kc J){b:Frame}{k:List Item}{cs:List Frame}(hb:b.kind≠.early){ops:Array Oper}{s:γ}{rest:List Nat}:∀(vs:List (Option Value))(p:Nat)(T:Array Value)(ds:List Deferred)(w:World),p+vs.length<=ops.size->chkG P ops p vs.length=true->
 (∀τ d,zq2p P ops (re w τ d) vs p T)->J s (G (b.at ⟨putG ops vs p T,ds⟩ (.inRegion ops rest::k)) cs) w->J s (G (b.at ⟨T,ds⟩ (.inRegion ops (List.range' p vs.length++rest)::k)) cs) w:=by
 intro vs
 induction vs with
 |nil=>intro p T ds w _ _ _ h;exact h
 |cons v vs ih=>
  intro p T ds w hsz hc hv h;simp only[List.length_cons]at hsz hc;obtain⟨⟨o,d,ho,hro,hd⟩,hc'⟩:=zqbo hc (by omega);have hdst:dstOf ops p=some d:=by unfold dstOf;rw[ho];exact hd
  rw[List.length_cons,List.range'_succ,List.cons_append];have hput:∀u,(Act.mk T ds).put o.dst u=⟨T.setIfInBounds d u,ds⟩:=λu=>by rw[hd];rfl
  cases v with
  |none=>
   have hw:Region.wanted o (yielded ops T)=false:=(hv w.tape w.drawn).1 o ho;refine hJ.ctl (s:=s) (λw=>stepG_unwanted ho hw) ?_;rw[hput];refine ih (p+1) _ ds _ (by omega) hc' (λτ' d'=>?_) ?_
   . have:=(hv τ' d').2;rw[hdst]at this;exact this
   . have:putG ops (none::vs) p T=putG ops vs (p+1) (T.setIfInBounds d undef):=by simp only[putG,hdst,Option.getD_none]
     rw[this]at h;exact h
  |some v=>
   have hw:Region.wanted o (yielded ops T)=true:=((hv w.tape w.drawn).1 o ho).1;refine zq1t hb hJ ho hw λτ dd=>?_;have hrun:(execOp (Act.mk T ds).eval o).run P (re w τ dd)=.ok (.value v) (re w τ dd):=((hv τ dd).1 o ho).2;have ht:tame P false (execOp (Act.mk T ds).eval o):=zq4m o hro _;obtain⟨e1,e2⟩:=zq3l (Kc:=Kc) ht (re w τ dd);refine⟨e1,e2,?_⟩;rw[hrun];show J s (G (b.at ((Act.mk T ds).put o.dst v) _) cs) (re w τ dd);rw[hput];refine ih (p+1) _ ds _ (by omega) hc' (λτ' d'=>?_) ?_
   . have:=(hv τ' d').2;rw[hdst]at this;exact this
   . refine hJ.re' s _ w τ dd ?_;have:putG ops (some v::vs) p T=putG ops vs (p+1) (T.setIfInBounds d v):=by simp only[putG,hdst,al_od]
     rw[this]at h;exact h
theorem zq5e(hJ:JS P main Kc J){b:Frame}{k:List Item}{cs:List Frame}(hb:b.kind≠.early){ops:Array Oper}{s:γ}(p:Nat)(vs:List (Option Value)){todo:List Nat}(rest:List Nat){a:Act}{w:World}(ht:todo=List.range' p vs.length++rest)(hsz:p+vs.length<=ops.size)(hc:chkG P ops p vs.length=true)
 (hv:∀τ d,zq2p P ops (re w τ d) vs p a.tmps) (h:J s (G (b.at ⟨putG ops vs p a.tmps,a.defers⟩ (.inRegion ops rest::k)) cs) w):J s (G (b.at a (.inRegion ops todo::k)) cs) w:=by
 subst ht;exact zqb2 hJ hb vs p a.tmps a.defers w hsz hc hv h
end
structure JC(P:Program)(main:Bool){γ:Type}(J:γ->Goroutine->World->Prop):Prop where
 ctl:∀{s:γ}{fr fr':Frame}{cs cs':List Frame}{w:World},(∀w,stepG P main (G fr cs) w=.go (G fr' cs') w)->J s (G fr' cs') w->J s (G fr cs) w
section
variable {P:Program} {main:Bool} {γ:Type} {J:γ->Goroutine->World->Prop}
theorem JC.of_js (h:∀s,∃Kc,JS P main Kc (λ(_:Unit)=>J s)):JC P main J:=⟨λ{s fr fr' cs cs' w}hs hj=>by
 obtain⟨Kc,h1⟩:=h s;exact h1.ctl (s:=()) hs hj⟩
section rules
variable {Q:γ->Exit->Act->World->Prop} {s:γ} {a:Act} {w:World}
theorem zq1s(hJ:JC P main J)(h:Q s .normal a w):wpJ J .skip Q s a w:=λb k cs hb hk=>hJ.ctl (λw=>stepG_skip) (hk _ _ _ _ h)
theorem zq1k(hJ:JC P main J)(h:Q s .ret a w):wpJ J .ret Q s a w:=λb k cs hb hk=>hJ.ctl (λw=>stepG_ret') (hk _ _ _ _ h _)
theorem zqat(hJ:JC P main J){id:Nat}(h:Q s (.exit id) a w):wpJ J (.exit id) Q s a w:=λb k cs hb hk=>by
 obtain⟨k',hk',hg⟩:=hk _ _ _ _ h;exact hJ.ctl (λw=>stepG_exit hk') hg
theorem zqq(hJ:JC P main J){x y:Code}(h:wpJ J x (thenJ (λs' a' w'=>wpJ J y Q s' a' w') Q) s a w):wpJ J (.seq x y) Q s a w:=λb k cs hb hk=>by
 refine hJ.ctl (λw=>stepG_seq) (h b (.code y::k) cs hb λs' e a' w' q=>?_);cases e with
 |normal=>exact q b k cs hb hk
 |exit id=>exact(hk _ _ _ _ q).push rfl (by simp)
 |ret=>exact hk _ _ _ _ q
 |goto l=>exact hk _ _ _ _ q
 |panic ch=>exact hk _ _ _ _ q
 |outgrown=>exact hk _ _ _ _ q
theorem zq19(hJ:JC P main J){c:Operand}{x y:Code}{t:Bool}(hc:a.eval c=.bool t)(h:wpJ J (if t then x else y) Q s a w):wpJ J (.cond c x y) Q s a w:=
 λb k cs hb hk=>hJ.ctl (λw=>stepG_cond hc) (h b k cs hb hk)
theorem zq2w(hJ:JC P main J){id:Nat}{c:Code}(h:wpJ J c (zq1p id Q) s a w):wpJ J (.block id c) Q s a w:=λb k cs hb hk=>by
 refine hJ.ctl (λw=>stepG_block) (h b (.inBlock id::k) cs hb λs' e a' w' q=>?_);cases e with
 |normal=>exact hJ.ctl (λw=>stepG_inBlock) (hk _ _ _ _ q)
 |exit id'=>
  by_cases hid:id'=id
  . subst hid;simp only[zq1p,if_true]at q;exact⟨k,by simp[exitTo],hk _ _ _ _ q⟩
  . simp only[zq1p,hid,if_false]at q;obtain⟨k',hk',hg⟩:=hk _ _ _ _ q;have:(id==id')=false:=by simp;exact λh=>hid h.symm
    exact⟨k',by simp[exitTo,this,hk'],hg⟩
 |ret=>exact hk _ _ _ _ q
 |goto l=>exact hk _ _ _ _ q
 |panic ch=>exact hk _ _ _ _ q
 |outgrown=>exact hk _ _ _ _ q
theorem zqau(hJ:JC P main J){c:Code}(I:γ->Act->World->Nat->Prop)(n:Nat)(h₀:I s a w n)
 (round:∀s a w n,I s a w n->wpJ J c (thenJ (λs' a' w'=>∃m,m<n/\I s' a' w' m) Q) s a w):wpJ J (.loop c) Q s a w:=λb k cs hb hk=>by
 have key:∀N n,n<=N->∀s a w,I s a w n->J s (G (b.at a (.code c::.inLoop c::k)) cs) w:=by
  intro N
  induction N with
  |zero=>
   intro n hn s a w hI;refine round s a w n hI b (.inLoop c::k) cs hb λs' e a' w' q=>?_;cases e with
   |normal=>obtain⟨m,h1,_⟩:=q;exact absurd h1 (by omega)
   |exit id=>exact(hk _ _ _ _ q).push rfl (by simp)
   |ret=>exact hk _ _ _ _ q
   |goto l=>exact hk _ _ _ _ q
   |panic ch=>exact hk _ _ _ _ q
   |outgrown=>exact hk _ _ _ _ q
  |succ N ih=>
   intro n hn s a w hI;refine round s a w n hI b (.inLoop c::k) cs hb λs' e a' w' q=>?_;cases e with
   |normal=>obtain⟨m,h1,h2⟩:=q;exact hJ.ctl (λw=>stepG_inLoop) (ih m (by omega) s' a' w' h2)
   |exit id=>exact(hk _ _ _ _ q).push rfl (by simp)
   |ret=>exact hk _ _ _ _ q
   |goto l=>exact hk _ _ _ _ q
   |panic ch=>exact hk _ _ _ _ q
   |outgrown=>exact hk _ _ _ _ q
 exact hJ.ctl (λw=>stepG_loop) (key n n (Nat.le_refl _) s a w h₀)
theorem zq12(hJ:JC P main J){id:Nat}{ops:Array Oper}(h:opsJ J ops (List.range ops.size) Q s a w):wpJ J (.region id ops false) Q s a w:=
 λb k cs hb hk=>hJ.ctl (λw=>stepG_region) (h b k cs hb hk)
theorem zq2c(hJ:JC P main J){ops:Array Oper}(h:Q s .normal a w):opsJ J ops [] Q s a w:=λb k cs hb hk=>hJ.ctl (λw=>stepG_region_end) (hk _ _ _ _ h)
def bodyC(Bd:γ->Act->World->Prop)(Post:γ->Ending->World->Prop)(s:γ)(e:Exit)(a:Act)(w:World):Prop:=
 match e with
 |.normal|.ret=>Bd s a w
 |.panic ch=>a.defers=[]/\Post s (.panicked ch) w
 |_=>False
theorem zqdj(hJ:JC P main J){ops:Array Oper}{i:Nat}{rest:List Nat}{o:Oper}{f:FuncId}{args:Array Value}{Post:γ->Ending->World->Prop}
 (ho:ops[i]?=some o) (hw:Region.wanted o (yielded ops a.tmps)=true) (hr:∀w,(execOp a.eval o).run P w=.ok (.enter f args) w) (hev:∀w,(execOp a.eval o).events P w #[]=#[])
 (hc:zq1g P J f args Post s w) (hpost:∀s' e w',Post s' e w'->match e with
  |.returned v=>opsJ J ops rest Q s' (a.put o.dst v) w'
  |.panicked ch=>Q s' (.panic ch) a w'
  |.outgrown=>False):opsJ J ops (i::rest) Q s a w:=λb k cs hb hk=>by
 refine hJ.ctl (λw=>by rw[stepG_enter ho hw hb (hr w),listed_none (hev w)]) ?_;refine hc _ cs (λs' v w' hp=>?_) (λs' ch w' hp=>?_)
 . rw[Frame.finish_at,ho];exact hpost _ _ _ hp b k cs hb hk
 . rw[Frame.raise_at];exact hk _ _ _ _ (hpost _ _ _ hp) _
theorem zq6q(hJ:JC P main J){f:FuncId}{fn:Func}{c:Code}{args:Array Value}{Bd:γ->Act->World->Prop}{Post:γ->Ending->World->Prop}(hf:P.funcs[f]?=some fn)(hb:fn.body=some c)
 (hL:∀(s:γ)(a:Act)(w:World)(b cl:Frame)(cs:List Frame)(todo:List Item),Bd s a w->b.fn=f->b.kind=.normal->(∀s' v w',Post s' (.returned v) w'->J s' (G (cl.finish v) cs) w')->J s (G {b.at a todo with mode:=.returning} (cl::cs)) w)
 (h:wpJ J c (bodyC Bd Post) s (zqm fn args) w):zq1g P J f args Post s w:=by
 intro cl cs h1 h2
 let b:Frame:={(default:Frame)with fn:=f,kind:=.normal}
 have henter:Frame.enter P f args .normal=b.at (zqm fn args) [.code c]:=by
  simp[Frame.enter,Frame.at,hf,hb,b,zqm]
 rw[henter];refine h b [] (cl::cs) (by simp[b]) λs' e a' w' q=>?_;cases e with
 |normal=>exact hJ.ctl (λw=>stepG_end) (hL s' a' w' b cl cs [] q rfl rfl h1)
 |ret=>exact λtodo=>hL s' a' w' b cl cs todo q rfl rfl h1
 |panic ch=>
  obtain⟨hd,hp⟩:=q;exact λtodo=>hJ.ctl (λw=>by simp[G,stepG,unwind,Frame.catches,Frame.at,hd,hf,b]) (h2 _ _ _ hp)
 |_=>exact q.elim
end rules
end
end Go.Car
namespace Go.Car
inductive Tree(σ α:Type)where
 |ret (a:α)
 |out
 |step (u:σ->σ) (k:σ->Tree σ α)
abbrev Proc(σ α:Type):=σ->σ×Tree σ α
section
variable {σ α β δ:Type}
def Tree.bind:Tree σ α->(α->Proc σ β)->Proc σ β
 |.ret a,K,s=>K a s
 |.out,_,s=>(s,.out)
 |.step u k,K,s=>(s,.step (λs=>((k s).bind K (u s)).1) (λs=>((k s).bind K (u s)).2))
def Proc.bind (p:Proc σ α)(K:α->Proc σ β):Proc σ β:=λs=>(p s).2.bind K (p s).1
def Proc.ret (a:α):Proc σ α:=λs=>(s,.ret a)
def Proc.act (f:σ->σ×α):Proc σ α:=λs=>((f s).1,.ret (f s).2)
def Proc.out:Proc σ α:=λs=>(s,.out)
def Proc.then (p:Proc σ α):Proc σ α:=λs=>(s,.step (λs=>(p s).1) (λs=>(p s).2))
@[simp] theorem Tree.bind_ret (a : α) (K : α → Proc σ β) (s : σ) : (Tree.ret a : Tree σ α).bind K s = K a s := rfl
@[simp] theorem Tree.bind_out (K : α → Proc σ β) (s : σ) : (Tree.out : Tree σ α).bind K s = (s, .out) := rfl
theorem Proc.bind_ret (a:α)(K:α->Proc σ β):(Proc.ret a:Proc σ α).bind K=K a:=rfl
theorem Tree.bind_bind (t:Tree σ α)(K:α->Proc σ β)(L:β->Proc σ δ):∀s,(t.bind K s).2.bind L (t.bind K s).1=t.bind (λa=>(K a).bind L) s:=by
 induction t with
 |ret a=>intro s;rfl
 |out=>intro s;rfl
 |step u k ih=>
  intro s;show(s,Tree.step _ _)=(s,Tree.step _ _);congr 2
  . funext s'
    exact congrArg Prod.fst (ih s' (u s'))
  . funext s'
    exact congrArg Prod.snd (ih s' (u s'))
theorem Proc.bind_bind (p:Proc σ α)(K:α->Proc σ β)(L:β->Proc σ δ):(p.bind K).bind L=p.bind (λa=>(K a).bind L):=funext λs=>Tree.bind_bind _ K L _
theorem Tree.bind_pure (t:Tree σ α):∀s,t.bind Proc.ret s=(s,t):=by
 induction t with
 |ret a=>intro s;rfl
 |out=>intro s;rfl
 |step u k ih=>
  intro s;show(s,Tree.step _ _)=(s,Tree.step _ _);congr 2
  . funext s'
    exact congrArg Prod.fst (ih s' (u s'))
  . funext s'
    exact congrArg Prod.snd (ih s' (u s'))
theorem Proc.bind_pure (p:Proc σ α):p.bind Proc.ret=p:=funext λs=>Tree.bind_pure _ _
def Tree.run:Tree σ α->σ->σ×Option α×Nat
 |.ret a,s=>(s,some a,0)
 |.out,s=>(s,none,0)
 |.step u k,s=>(((k s).run (u s)).1,((k s).run (u s)).2.1,((k s).run (u s)).2.2+1)
def Proc.run (p:Proc σ α)(s:σ):σ×Option α×Nat:=(p s).2.run (p s).1
end
end Go.Car
namespace Go.Car
open Go Go.Conc Go.RowKit
structure Core(Ml S:Type)where
 foot:Ml->Nat->Prop
 Rep:Ml->World->Prop
 st:Ml->S
 frame:∀l w w',Rep l w->(∀b,foot l b->w'.heap[b]?=w.heap[b]?)->Rep l w'
 lt:∀l w b,Rep l w->foot l b->b<w.heap.size
 pin:Ml->Nat
structure BM(Ml:Type)where
 l:Ml
 box:Nat->Nat->Option Obj
def BM.put {Ml:Type}(m:BM Ml)(i:Nat)(l':Ml)(B':Nat->Option Obj):BM Ml:=⟨l',λj=>if j=i then B' else m.box j⟩
structure BRep{Ml S:Type}(C:Core Ml S)(ro:Nat->Option Obj)(m:BM Ml)(w:World):Prop where
 core:C.Rep m.l w
 box:∀i b o,m.box i b=some o->w.heap[b]?=some o
 rod:∀b o,ro b=some o->w.heap[b]?=some o
 apart:∀i b,m.box i b≠none->¬C.foot m.l b
 own:∀i j b,i≠j->m.box i b≠none->m.box j b=none
 rol:∀b,ro b≠none->¬C.foot m.l b
 rob:∀i b,ro b≠none->m.box i b=none
structure Moved{Ml S:Type}(C:Core Ml S)(l:Ml)(B:Nat->Option Obj)(w:World)(l':Ml)(B':Nat->Option Obj)(w':World):Prop where
 size:w.heap.size<=w'.heap.size
 old:∀b,b<w.heap.size->¬C.foot l b->B b=none->w'.heap[b]?=w.heap[b]?
 rep:C.Rep l' w'
 box:∀b o,B' b=some o->w'.heap[b]?=some o
 growl:∀b,C.foot l' b->C.foot l b\/B b≠none\/w.heap.size<=b
 growb:∀b,B' b≠none->B b≠none\/w.heap.size<=b
 apart:∀b,C.foot l' b->B' b=none
 pin:C.pin l'=C.pin l
structure Ext(w w':World):Prop where
 size:w.heap.size<=w'.heap.size
 old:∀b,b<w.heap.size->w'.heap[b]?=w.heap[b]?
theorem Ext.refl (w:World):Ext w w:=⟨Nat.le_refl _,λ_ _=>rfl⟩
theorem Ext.alloc (w:World)(o:Obj):Ext w (w.alloc o):=by
 have e:(w.alloc o).heap=w.heap.push o:=rfl;refine⟨by rw[e,Array.size_push];omega,λb hb=>?_⟩;rw[e,Array.getElem?_push];rw[if_neg (by omega)]
theorem zqs{w:World}{b:Nat}{o:Obj}(h:w.heap[b]?=some o):b<w.heap.size:=(Array.getElem?_eq_some_iff.1 h).1
theorem Ext.heap {w w':World}(h:Ext w w'){b:Nat}{o:Obj}(hb:w.heap[b]?=some o):w'.heap[b]?=some o:=(h.old b (zqs hb)).trans hb
section
variable {Ml S:Type} {C:Core Ml S} {ro:Nat->Option Obj} {i:Nat} {m:BM Ml} {w w':World} {l':Ml} {B':Nat->Option Obj}
@[simp] theorem BM.put_l (m : BM Ml) (i : Nat) (l' : Ml) (B' : Nat → Option Obj) : (m.put i l' B').l = l' := rfl
@[simp] theorem BM.put_box (m : BM Ml) (i : Nat) (l' : Ml) (B' : Nat → Option Obj) : (m.put i l' B').box i = B' := by simp [BM.put]
theorem BM.put_other (m:BM Ml){i j:Nat}(l':Ml)(B':Nat->Option Obj)(h:j≠i):(m.put i l' B').box j=m.box j:=by simp[BM.put,h]
def BM.foot (C:Core Ml S)(ro:Nat->Option Obj)(m:BM Ml)(b:Nat):Prop:=C.foot m.l b\/(∃i,m.box i b≠none)\/ro b≠none
theorem BRep.lt (h:BRep C ro m w){b:Nat}(hb:BM.foot C ro m b):b<w.heap.size:=by
 rcases hb with hb|⟨i,hb⟩|hb
 . exact C.lt _ _ _ h.core hb
 . cases ho:m.box i b with
   |none=>exact absurd ho hb
   |some o=>exact zqs (h.box i b o ho)
 . cases ho:ro b with
   |none=>exact absurd ho hb
   |some o=>exact zqs (h.rod b o ho)
theorem BRep.frame (h:BRep C ro m w)(hs:∀b,BM.foot C ro m b->w'.heap[b]?=w.heap[b]?):BRep C ro m w':=
 ⟨C.frame _ _ _ h.core λb hb=>hs b (.inl hb),λi b o hb=>(hs b (.inr (.inl ⟨i,by rw[hb];simp⟩))).trans (h.box i b o hb),λb o hb=>(hs b (.inr (.inr (by rw[hb];simp)))).trans (h.rod b o hb),h.apart,h.own,h.rol,h.rob⟩
theorem BRep.re (h:BRep C ro m w)(τ:Nat->Question->Nat)(d:Nat):BRep C ro m (re w τ d):=h.frame λ_ _=>rfl
theorem Moved.done (h:BRep C ro m w)(k:Moved C m.l (m.box i) w l' B' w'):BRep C ro (m.put i l' B') w':=by
 have hb:∀j b,m.box j b≠none->b<w.heap.size:=λj b hb=>h.lt (.inr (.inl ⟨j,hb⟩));have hr:∀b,ro b≠none->b<w.heap.size:=λb hb=>h.lt (.inr (.inr hb));refine⟨k.rep,λj b o hj=>?_,λb o hb'=>?_,λj b hj=>?_,λj1 j2 b hne h1=>?_,λb hb' hf=>?_,λj b hb'=>?_⟩
 . by_cases e:j=i
   . subst e;rw[BM.put_box]at hj;exact k.box b o hj
   . rw[BM.put_other _ _ _ e]at hj;have hn:m.box j b≠none:=by rw[hj];simp
     rw[k.old b (hb j b hn) (h.apart j b hn) (h.own j i b e hn)];exact h.box j b o hj
 . have hn:ro b≠none:=by rw[hb'];simp
   rw[k.old b (hr b hn) (h.rol b hn) (h.rob i b hn)];exact h.rod b o hb'
 . by_cases e:j=i
   . subst e;rw[BM.put_box]at hj;exact λhf=>hj (k.apart b hf)
   . rw[BM.put_other _ _ _ e]at hj;exact λhf=>(k.growl b hf).elim (h.apart j b hj) (λx=>x.elim (λy=>hj (h.own i j b (λz=>e z.symm) y)) (λx=>absurd (hb j b hj) (Nat.not_lt_of_le x)))
 . by_cases e1:j1=i
   . subst e1;rw[BM.put_box]at h1;rw[BM.put_other _ _ _ (Ne.symm hne)];rcases k.growb b h1 with h2|h2
     . exact h.own _ _ b hne h2
     . exact Classical.byContradiction λh3=>absurd (hb j2 b h3) (Nat.not_lt_of_le h2)
   . rw[BM.put_other _ _ _ e1]at h1
     by_cases e2:j2=i
     . subst e2;rw[BM.put_box];refine Classical.byContradiction λh3=>?_;rcases k.growb b h3 with h2|h2
       . exact h2 (h.own _ _ b hne h1)
       . exact absurd (hb j1 b h1) (Nat.not_lt_of_le h2)
     . rw[BM.put_other _ _ _ e2];exact h.own _ _ b hne h1
 . exact(k.growl b hf).elim (h.rol b hb') (λx=>x.elim (λy=>y (h.rob i b hb')) (λx=>absurd (hr b hb') (Nat.not_lt_of_le x)))
 . by_cases e:j=i
   . subst e;rw[BM.put_box];refine Classical.byContradiction λh3=>?_;rcases k.growb b h3 with h2|h2
     . exact h2 (h.rob j b hb')
     . exact absurd (hr b hb') (Nat.not_lt_of_le h2)
   . rw[BM.put_other _ _ _ e];exact h.rob j b hb'
theorem Moved.foot_old (h:BRep C ro m w)(k:Moved C m.l (m.box i) w l' B' w'):∀b,b<w.heap.size->¬BM.foot C ro m b->w'.heap[b]?=w.heap[b]?:=λb hb hf=>
 k.old b hb (λx=>hf (.inl x)) (Classical.byContradiction λx=>hf (.inr (.inl ⟨i,x⟩)))
theorem Moved.foot_grow (k:Moved C m.l (m.box i) w l' B' w'):∀b,BM.foot C ro (m.put i l' B') b->BM.foot C ro m b\/w.heap.size<=b:=by
 rintro b (hb|⟨j,hb⟩|hb)
 . exact(k.growl b hb).elim (λx=>.inl (.inl x)) (λx=>x.elim (λy=>.inl (.inr (.inl ⟨i,y⟩))) .inr)
 . by_cases e:j=i
   . subst e;rw[BM.put_box]at hb;exact(k.growb b hb).imp (λx=>.inr (.inl ⟨j,x⟩)) id
   . rw[BM.put_other _ _ _ e]at hb;exact .inl (.inr (.inl ⟨j,hb⟩))
 . exact .inl (.inr (.inr hb))
theorem Moved.ext (h:BRep C ro m w)(e:Ext w w'):Moved C m.l (m.box i) w m.l (m.box i) w':=
 ⟨e.size,λb hb _ _=>e.old b hb,C.frame _ _ _ h.core λb hb=>e.old b (C.lt _ _ _ h.core hb),λb o hb=>e.heap (h.box i b o hb),λb hb=>.inl hb,λb hb=>.inl hb,
  λb hb=>Classical.byContradiction λx=>h.apart i b x hb,rfl⟩
theorem Moved.re {l:Ml}{B:Nat->Option Obj}(k:Moved C l B w l' B' w')(τ:Nat->Question->Nat)(d:Nat):Moved C l B w l' B' (re w' τ d):=
 ⟨k.size,k.old,C.frame _ _ _ k.rep λ_ _=>rfl,k.box,k.growl,k.growb,k.apart,k.pin⟩
end
structure OwnRep(ro B:Nat->Option Obj)(w:World):Prop where
 box:∀b o,B b=some o->w.heap[b]?=some o
 rod:∀b o,ro b=some o->w.heap[b]?=some o
 rob:∀b,ro b≠none->B b=none
structure OMoved(B:Nat->Option Obj)(w:World)(B':Nat->Option Obj)(w':World):Prop where
 size:w.heap.size<=w'.heap.size
 one:w'.heap.size<=w.heap.size+1
 old:∀b,b<w.heap.size->B b=none->w'.heap[b]?=w.heap[b]?
 box:∀b o,B' b=some o->w'.heap[b]?=some o
 grow:∀b,B' b≠none->B b≠none\/w.heap.size<=b
structure Ext1(w w':World):Prop extends Ext w w' where
 one:w'.heap.size<=w.heap.size+1
theorem Ext1.refl (w:World):Ext1 w w:=⟨Ext.refl w,Nat.le_succ _⟩
theorem Ext1.alloc (w:World)(o:Obj):Ext1 w (w.alloc o):=⟨Ext.alloc w o,by show(w.heap.push o).size<=_;simp⟩
section
variable {Ml S:Type} {C:Core Ml S} {ro B:Nat->Option Obj} {i:Nat} {m:BM Ml} {w w':World} {B':Nat->Option Obj}
theorem BRep.own' (h:BRep C ro m w):OwnRep ro (m.box i) w:=⟨h.box i,h.rod,h.rob i⟩
theorem OwnRep.lt (h:OwnRep ro B w){b:Nat}(hb:B b≠none):b<w.heap.size:=by
 cases ho:B b with
 |none=>exact absurd ho hb
 |some o=>exact zqs (h.box b o ho)
theorem OMoved.ext (h:OwnRep ro B w)(e:Ext1 w w'):OMoved B w B w':=⟨e.size,e.one,λb hb _=>e.old b hb,λb o hb=>e.heap (h.box b o hb),λb hb=>.inl hb⟩
theorem OMoved.moved (h:BRep C ro m w)(k:OMoved (m.box i) w B' w'):Moved C m.l (m.box i) w m.l B' w':=by
 have hbx:∀b,C.foot m.l b->m.box i b=none:=λb hb=>Classical.byContradiction λx=>h.apart i b x hb;have hlt:∀b,C.foot m.l b->b<w.heap.size:=λb hb=>C.lt _ _ _ h.core hb;exact⟨k.size,λb hb' _ hn=>k.old b hb' hn,C.frame _ _ _ h.core λb hb'=>k.old b (hlt b hb') (hbx b hb'),k.box,λb hb'=>.inl hb',k.grow,λb hb'=>Classical.byContradiction λx=>(k.grow b x).elim (λy=>y (hbx b hb')) (λy=>absurd (hlt b hb') (Nat.not_lt_of_le y)),rfl⟩
end
def Proc.tick {S:Type}:Proc S Unit:=Proc.then (Proc.ret ())
structure YSys(P:Program)(A:FuncId->Bool){Ml S:Type}(C:Core Ml S)(ro:Nat->Option Obj)(i:Nat)(β:Type)where
 main:Bool
 γ:Type
 J:γ->Goroutine->World->Prop
 jc:JC P main J
 At:γ->BM Ml->World->Proc S β->Prop
 Dead:γ->List PanicEntry->World->Prop
 Kn:BM Ml->World->Prop
 sil:Proc S β->Prop
 kn:∀{m w},Kn m w->OwnRep ro (m.box i) w
 sil_tick:∀K:Unit->Proc S β,sil (Proc.tick.bind K)
 drop:∀{s m w p B'},At s m w p->(∀b o,B' b=some o->m.box i b=some o)->At s (m.put i m.l B') w p
 item:∀{s m w p}{it:Item}{t:Array Value}{ds:List Deferred}(Φ Ψ:Array Value->(Nat->Option Obj)->Prop),At s m w p->zq11 P A it=true->
  (∀wc,Kn m wc->zq27 P it (ends (λa w'=>∃B',OMoved (m.box i) wc B' w'/\Φ a.tmps B') (λa w'=>∃B',OMoved (m.box i) wc B' w'/\Ψ a.tmps B')) ⟨t,[]⟩ wc)->
  wpI J it (λs' e a w'=>s'=s/\a.defers=ds/\∃m',((e=.normal/\Φ a.tmps (m'.box i))\/(e=.ret/\Ψ a.tmps (m'.box i)))/\At s m' w' p) s ⟨t,ds⟩ w
 pre:∀{s m w p}{ops:Array Oper}{todo rest:List Nat}{t:Array Value}{ds:List Deferred}{Q:γ->Exit->Act->World->Prop}(k n q:Nat)(Φ:Array Value->(Nat->Option Obj)->Prop),At s m w p->
  k+n+q=ops.size->todo=List.range' k (n+q)->rest=List.range' (k+n) q->chk P (λ_=>false) true ops k n=true->
  (∀wc,Kn m wc->∀X:Exit->Act->World->Prop,(∀t' B' w',OMoved (m.box i) wc B' w'->Φ t' B'->X .normal ⟨t',ds⟩ w')->wpList P ops X ((ops.toList.drop k).take n) ⟨t,ds⟩ wc)->
  (∀t' m' w',Φ t' (m'.box i)->At s m' w' p->opsJ J ops rest Q s ⟨t',ds⟩ w')->opsJ J ops todo Q s ⟨t,ds⟩ w
 call:∀{s m w p}{f:FuncId}{fn:Func}{c:Code}{args:Array Value}(R:Value->(Nat->Option Obj)->Prop),At s m w p->P.funcs[f]?=some fn->fn.body=some c->zqp P A c=true->
  (∀wc,Kn m wc->Calls P f args wc (zq38 λv w'=>∃B',OMoved (m.box i) wc B' w'/\R v B'))->
  zq1g P J f args (λs' e w'=>s'=s/\∃v m',e=.returned v/\R v (m'.box i)/\At s m' w' p) s w
 leave:∀{s m w p}{b cl:Frame}{cs:List Frame}{todo:List Item}{a:Act}{fn:Func}{v:Value},At s m w p->P.funcs[b.fn]?=some fn->b.kind=.normal->a.defers=[]->(∀wc,Kn m wc->(results fn a.tmps).run P wc=.ok v wc)->
  (∀m' w',m'.box i=m.box i->At s m' w' p->J s (G (cl.finish v) cs) w')->J s (G {b.at a todo with mode:=.returning} (cl::cs)) w
section
variable {P:Program} {A:FuncId->Bool} {Ml S β α:Type} {C:Core Ml S} {ro:Nat->Option Obj} {i:Nat}
def YSys.Bd (Y:YSys P A C ro i β)(fn:Func)(Post:Y.γ->Ending->World->Prop)(s:Y.γ)(a:Act)(w:World):Prop:=
 a.defers=[]/\((∃v,ResultsC P fn a.tmps v/\Post s (.returned v) w)\/∃m p v,Y.At s m w p/\(∀wc,Y.Kn m wc->(results fn a.tmps).run P wc=.ok v wc)/\∀m' w',m'.box i=m.box i->Y.At s m' w' p->Post s (.returned v) w')
def BodyY(Y:YSys P A C ro i β)(f:FuncId)(args:Array Value)(Post:Y.γ->Ending->World->Prop)(s:Y.γ)(w:World):Prop:=
 ∃fn c,P.funcs[f]?=some fn/\fn.body=some c/\wpJ Y.J c (bodyC (Y.Bd fn Post) Post) s (zqm fn args) w
def PostY(Y:YSys P A C ro i β)(K:α->Proc S β)(val:α->Value)(B:Nat->Option Obj)(s:Y.γ):Ending->World->Prop
 |.returned v,w=>∃a m,v=val a/\m.box i=B/\Y.At s m w (K a)
 |.panicked ch,w=>Y.Dead s ch w
 |.outgrown,_=>False
def SpecY(Y:YSys P A C ro i β)(f:FuncId)(args:Array Value)(p:Proc S α)(val:α->Value):Prop:=
 ∀(K:α->Proc S β)(s:Y.γ)(m:BM Ml)(w:World),(∀a,Y.sil (K a))->Y.At s m w (p.bind K)->zq1g P Y.J f args (PostY Y K val (m.box i)) s w
def SpecB(Y:YSys P A C ro i β)(f:FuncId)(args:Array Value)(p:Proc S α)(val:α->Value):Prop:=
 ∀(K:α->Proc S β)(s:Y.γ)(m:BM Ml)(w:World),(∀a,Y.sil (K a))->Y.At s m w (p.bind K)->BodyY Y f args (PostY Y K val (m.box i)) s w
def StepY(Y:YSys P A C ro i β)(f:FuncId)(args:Array Value):Prop:=
 ∀(K:Unit->Proc S β)(s:Y.γ)(m:BM Ml)(w:World),Y.At s m w (Proc.tick.bind K)->zq1g P Y.J f args (PostY Y K (λ_=>.tuple #[]) (m.box i)) s w
theorem BodyY.calls {Y:YSys P A C ro i β}{f:FuncId}{args:Array Value}{Post:Y.γ->Ending->World->Prop}{s:Y.γ}{w:World}(h:BodyY Y f args Post s w):zq1g P Y.J f args Post s w:=by
 obtain⟨fn,c,h1,h2,h3⟩:=h;refine zq6q Y.jc h1 h2 ?_ h3;rintro s a w b cl cs todo ⟨hd,(⟨v,k1,k2⟩|⟨m,p,v,k1,k2,k3⟩)⟩ rfl hk hP
 . exact Y.jc.ctl (λw=>stepG_leave hk hd h1 (k1 w).1 (k1 w).2) (hP _ _ _ k2)
 . exact Y.leave k1 h1 hk hd k2 λm' w' e hA=>hP _ _ _ (k3 m' w' e hA)
theorem SpecB.spec {Y:YSys P A C ro i β}{f:FuncId}{args:Array Value}{p:Proc S α}{val:α->Value}(h:SpecB Y f args p val):SpecY Y f args p val:=λK s m w hK hA=>(h K s m w hK hA).calls
end
structure Alone(P:Program)(A:FuncId->Bool){Ml S:Type}(C:Core Ml S)(ro:Nat->Option Obj)(i:Nat)(β:Type)where
 main:Bool
 γ:Type
 J:γ->Goroutine->World->Prop
 js:∀s,∃Kc,JS P main Kc (λ(_:Unit)=>J s)
 AtE:γ->BM Ml->World->S×Tree S β->Prop
 Dead:γ->List PanicEntry->World->Prop
 Oth:S->S->Prop
 oth:∀s,Oth s s
 rep:∀{s m w r},AtE s m w r->BRep C ro m w
 move:∀{s m w r l' B' w'},AtE s m w r->Moved C m.l (m.box i) w l' B' w'->Oth (C.st m.l) (C.st l')->AtE s (m.put i l' B') w' r
 item:∀{s m w r}{it:Item}{t:Array Value}{ds:List Deferred}(Φ Ψ:Array Value->Ml->(Nat->Option Obj)->Prop),AtE s m w r->zq11 P A it=true->
  (∀wc,BRep C ro m wc->wc.heap.size=w.heap.size->zq27 P it (ends (λa w'=>∃l' B',(Moved C m.l (m.box i) wc l' B' w'/\Oth (C.st m.l) (C.st l'))/\Φ a.tmps l' B') (λa w'=>∃l' B',(Moved C m.l (m.box i) wc l' B' w'/\Oth (C.st m.l) (C.st l'))/\Ψ a.tmps l' B')) ⟨t,[]⟩ wc)->
  wpI J it (λs' e a w'=>s'=s/\a.defers=ds/\∃l' B',((e=.normal/\Φ a.tmps l' B')\/(e=.ret/\Ψ a.tmps l' B'))/\AtE s (m.put i l' B') w' r) s ⟨t,ds⟩ w
 call:∀{s m w r}{f:FuncId}{fn:Func}{c:Code}{args:Array Value}(R:Value->Ml->(Nat->Option Obj)->Prop),AtE s m w r->P.funcs[f]?=some fn->fn.body=some c->zqp P A c=true->
  (∀wc,BRep C ro m wc->wc.heap.size=w.heap.size->Calls P f args wc (zq38 λv w'=>∃l' B',(Moved C m.l (m.box i) wc l' B' w'/\Oth (C.st m.l) (C.st l'))/\R v l' B'))->
  zq1g P J f args (λs' e w'=>s'=s/\∃v l' B',e=.returned v/\R v l' B'/\AtE s (m.put i l' B') w' r) s w
section
variable {P:Program} {A:FuncId->Bool} {Ml S β α:Type} {C:Core Ml S} {ro:Nat->Option Obj} {i:Nat}
def Alone.sys (Z:Alone P A C ro i β)(I:S->Prop):YSys P A C ro i β where
 main:=Z.main
 γ:=Z.γ
 J:=Z.J
 jc:=.of_js Z.js
 At s m w p:=Z.AtE s m w (p (C.st m.l))/\I (C.st m.l)
 Dead:=Z.Dead
 Kn m w:=BRep C ro m w
 sil _:=True
 kn h:=h.own'
 sil_tick _:=trivial
 drop {s m w p B'} h hB:=⟨Z.move h.1 ⟨Nat.le_refl _,λ_ _ _ _=>rfl,(Z.rep h.1).core,λb o hb=>(Z.rep h.1).box i b o (hB b o hb),λb hb=>.inl hb,λb hb=>.inl (by
  cases ho:B' b with
  |none=>exact absurd ho hb
  |some o=>rw[hB b o ho];simp),λb hb=>Classical.byContradiction λx=>(Z.rep h.1).apart i b (by
  cases ho:B' b with
  |none=>exact absurd ho x
  |some o=>rw[hB b o ho];simp) hb,rfl⟩ (Z.oth _),h.2⟩
 item {s m w p it t ds} Φ Ψ h hok hw:=by
  intro b k cs hb hk;refine Z.item (λt l' B'=>l'=m.l/\Φ t B') (λt l' B'=>l'=m.l/\Ψ t B') h.1 hok (λwc hB _=>zq28 (hw wc hB) λe a w' q=>?_) b k cs hb ?_
  . cases e with
    |normal=>obtain⟨q1,B',q2,q3⟩:=q;exact⟨q1,m.l,B',⟨q2.moved hB,Z.oth _⟩,rfl,q3⟩
    |ret=>obtain⟨q1,B',q2,q3⟩:=q;exact⟨q1,m.l,B',⟨q2.moved hB,Z.oth _⟩,rfl,q3⟩
    |_=>exact q
  . rintro s' e a w' ⟨rfl,hd,l',B',hh,hA⟩;refine hk s' e a w' ⟨rfl,hd,m.put i l' B',?_,?_⟩
    . rw[BM.put_box];exact hh.imp (λx=>⟨x.1,x.2.2⟩) (λx=>⟨x.1,x.2.2⟩)
    . have e:l'=m.l:=hh.elim (·.2.1) (·.2.1);subst e;exact⟨hA,h.2⟩
 pre {s m w p ops todo rest t ds Q} k n q Φ h hsz ht hr hc hw hrest:=by
  intro b kk cs hb hQ;obtain⟨Kc,hJ⟩:=Z.js s;refine zqg (J:=λ(_:Unit)=>Z.J s) (s:=()) hb hJ (zqf P) true (.inl rfl) k n q hsz ht hr hc λτ d=>?_;refine hw (Car.re w τ d) ((Z.rep h.1).re τ d) _ λt' B' w' k1 k2=>?_;have k1':Moved C m.l (m.box i) w m.l B' w':=by
   have:=k1.moved ((Z.rep h.1).re τ d);exact⟨this.size,this.old,this.rep,this.box,this.growl,this.growb,this.apart,this.pin⟩
  refine hrest t' (m.put i m.l B') w' (by rw[BM.put_box];exact k2) ⟨Z.move h.1 k1' (Z.oth _),h.2⟩ b kk cs hb hQ
 call {s m w p f fn c args} R h hf hb hok hw:=by
  intro cl cs h1 h2;refine Z.call (λv l' B'=>l'=m.l/\R v B') h.1 hf hb hok (λwc hB _=>Calls.mono (hw wc hB) λe w' q=>?_) cl cs ?_ ?_
  . cases e with
    |returned v=>obtain⟨B',k1,k2⟩:=q;exact⟨m.l,B',⟨k1.moved hB,Z.oth _⟩,rfl,k2⟩
    |_=>exact q
  . rintro s' v w' ⟨rfl,v',l',B',e,⟨rfl,k⟩,hA⟩;exact h1 _ v w' ⟨rfl,v',m.put i m.l B',e,by rw[BM.put_box];exact k,hA,h.2⟩
  . rintro s' ch w' ⟨_,_,_,_,e,_⟩;cases e
 leave {s m w p b cl cs todo a fn v} h hf hk hd hr hP:=by
  obtain⟨Kc,hJ⟩:=Z.js s;exact zq2b (J:=λ(_:Unit)=>Z.J s) (s:=()) hJ hk hd hf (λτ d=>hr _ ((Z.rep h.1).re τ d)) (hP m w rfl h)
theorem Alone.act (Z:Alone P A C ro i β){I:S->Prop}{f:FuncId}{fn:Func}{c:Code}{args:Array Value}{g:S->S×α}{val:α->Value}(hf:P.funcs[f]?=some fn)(hb:fn.body=some c)(hok:zqp P A c=true)(hI:∀s,I s->I (g s).1)(hO:∀s,Z.Oth s (g s).1)
 (h:∀m wc,BRep C ro m wc->Calls P f args wc (zq38 λv w'=>∃l',Moved C m.l (m.box i) wc l' (m.box i) w'/\C.st l'=(g (C.st m.l)).1/\v=val (g (C.st m.l)).2)):SpecY (Z.sys I) f args (Proc.act g) val:=by
 rintro K s m w _ ⟨hA,hAI⟩ cl cs h1 h2;refine Z.call (λv l' B'=>B'=m.box i/\C.st l'=(g (C.st m.l)).1/\v=val (g (C.st m.l)).2) hA hf hb hok (λwc hB _=>Calls.mono (h m wc hB) λe w' q=>?_) cl cs ?_ ?_
 . cases e with
   |returned v=>obtain⟨l',k1,k2,k3⟩:=q;exact⟨l',m.box i,⟨k1,by rw[k2];exact hO _⟩,rfl,k2,k3⟩
   |_=>exact q
 . rintro s' v w' ⟨rfl,v',l',B',e,⟨rfl,k1,rfl⟩,hA'⟩;cases e;refine h1 _ _ _ ⟨_,m.put i l' (m.box i),rfl,BM.put_box _ _ _ _,?_,?_⟩
   . rw[BM.put_l,k1];exact hA'
   . rw[BM.put_l,k1];exact hI _ hAI
 . rintro s' ch w' ⟨_,_,_,_,e,_⟩;cases e
theorem Alone.actS (Z:Alone P A C ro i β){I I':S->Prop}{x:Code}{g:S->S×α}{K:α->Proc S β}{s:Z.γ}{m:BM Ml}{w:World}{t:Array Value}{ds:List Deferred}{Q:Z.γ->Exit->Act->World->Prop}(Φ:Array Value->(Nat->Option Obj)->Prop)(h:(Z.sys I).At s m w ((Proc.act g).bind K))(hok:zqp P A x=true)
 (hI:∀s,I s->I' (g s).1) (hO:∀s,Z.Oth s (g s).1)
 (hx:∀wc,BRep C ro m wc->I (C.st m.l)->∀X:Act->World->Prop,(∀t l' B' w',Moved C m.l (m.box i) wc l' B' w'->C.st l'=(g (C.st m.l)).1->Φ t B'->X ⟨t,[]⟩ w')->Code.wp P x (ends X (λ_ _=>False)) ⟨t,[]⟩ wc)
 (hy:∀t' m' w',Φ t' (m'.box i)->(Z.sys I').At s m' w' (K (g (C.st m.l)).2)->Q s .normal ⟨t',ds⟩ w'):wpJ Z.J x Q s ⟨t,ds⟩ w:=by
 intro b k cs hb hk;refine Z.item (it:=.code x) (ds:=ds) (λt l' B'=>C.st l'=(g (C.st m.l)).1/\Φ t B') (λ_ _ _=>False) h.1 hok (λwc hB _=>zq28 (zq59 (hx wc hB h.2 (λa w'=>∃l' B',(Moved C m.l (m.box i) wc l' B' w'/\Z.Oth (C.st m.l) (C.st l'))/\C.st l'=(g (C.st m.l)).1/\Φ a.tmps B') λt l' B' w' k1 k2 k3=>⟨l',B',⟨k1,by rw[k2];exact hO _⟩,k2,k3⟩)) λe a w' q=>?_) b k cs hb ?_
 . cases e with
   |normal=>exact q
   |ret=>exact q.2.elim
   |_=>exact q
 . rintro s' e a w' ⟨rfl,hd,l',B',(⟨rfl,h1,h2⟩|⟨_,h1⟩),hA⟩
   . obtain⟨tt,dd⟩:=a;simp only at h2 hd;subst hd;refine hk _ .normal _ _ (hy tt (m.put i l' B') w' (by rw[BM.put_box];exact h2) ⟨?_,?_⟩)
     . rw[BM.put_l,h1];exact hA
     . rw[BM.put_l,h1];exact hI _ h.2
   . exact h1.elim
end
section
variable {M1 S1 M2 S2:Type} {C:Core M1 S1} {D:Core M2 S2} {ro:Nat->Option Obj} {i:Nat}
def zqd(C:Core M1 S1)(D:Core M2 S2):Core (M1×M2) (S1×S2) where
 foot l b:=C.foot l.1 b\/D.foot l.2 b
 Rep l w:=C.Rep l.1 w/\D.Rep l.2 w/\∀b,C.foot l.1 b->¬D.foot l.2 b
 st l:=(C.st l.1,D.st l.2)
 frame l w w' h hs:=⟨C.frame _ _ _ h.1 λb hb=>hs b (.inl hb),D.frame _ _ _ h.2.1 λb hb=>hs b (.inr hb),h.2.2⟩
 lt l w b h hb:=hb.elim (C.lt _ _ _ h.1) (D.lt _ _ _ h.2.1)
 pin l:=D.pin l.2
theorem Moved.left {m:BM (M1×M2)}{w w':World}{l1':M1}{B':Nat->Option Obj}(h:BRep (zqd C D) ro m w)(k:Moved C m.l.1 (m.box i) w l1' B' w'):Moved (zqd C D) m.l (m.box i) w (l1',m.l.2) B' w':=by
 have hlt:∀b,D.foot m.l.2 b->b<w.heap.size:=λb hb=>D.lt _ _ _ h.core.2.1 hb;have hbx:∀b,D.foot m.l.2 b->m.box i b=none:=λb hb=>Classical.byContradiction λx=>h.apart i b x (.inr hb);refine⟨k.size,λb hb hf hn=>k.old b hb (λx=>hf (.inl x)) hn,⟨k.rep,D.frame _ _ _ h.core.2.1 λb hb=>k.old b (hlt b hb) (λx=>h.core.2.2 b x hb) (hbx b hb),λb hb hd=>?_⟩,k.box,λb hb=>?_,k.growb,λb hb=>?_,rfl⟩
 . exact(k.growl b hb).elim (λx=>h.core.2.2 b x hd) (λx=>x.elim (λy=>y (hbx b hd)) (λx=>absurd (hlt b hd) (Nat.not_lt_of_le x)))
 . exact hb.elim (λx=>(k.growl b x).imp .inl id) (λx=>.inl (.inr x))
 . refine hb.elim (k.apart b) λx=>Classical.byContradiction λy=>?_;exact(k.growb b y).elim (λz=>z (hbx b x)) (λz=>absurd (hlt b x) (Nat.not_lt_of_le z))
end
def YSys.AtB {P:Program}{A:FuncId->Bool}{Ml S β:Type}{C:Core Ml S}{ro:Nat->Option Obj}{i:Nat}(Y:YSys P A C ro i β)(B:Nat->Option Obj)(s:Y.γ)(w:World)(p:Proc S β):Prop:=∃m,m.box i=B/\Y.At s m w p
def YSys.KnB {P:Program}{A:FuncId->Bool}{Ml S β:Type}{C:Core Ml S}{ro:Nat->Option Obj}{i:Nat}(Y:YSys P A C ro i β)(B:Nat->Option Obj)(w:World):Prop:=∃m,m.box i=B/\Y.Kn m w
section
variable {P:Program} {A:FuncId->Bool} {Ml S β α:Type} {C:Core Ml S} {ro:Nat->Option Obj} {i:Nat} {Y:YSys P A C ro i β} {B:Nat->Option Obj}
variable {Q:Y.γ->Exit->Act->World->Prop} {s:Y.γ} {w:World} {p:Proc S β} {t:Array Value} {ds:List Deferred}
theorem YSys.KnB.own {wc:World}(h:Y.KnB B wc):OwnRep ro B wc:=by
 obtain⟨m,rfl,h⟩:=h;exact Y.kn h
theorem YSys.AtB.drop {B':Nat->Option Obj}(h:Y.AtB B s w p)(hB:∀b o,B' b=some o->B b=some o):Y.AtB B' s w p:=by
 obtain⟨m,rfl,h⟩:=h;exact⟨_,BM.put_box _ _ _ _,Y.drop h hB⟩
theorem YSys.itemX {it:Item}(Φ Ψ:Array Value->(Nat->Option Obj)->Prop)(h:Y.AtB B s w p)(hok:zq11 P A it=true)
 (hx:∀wc,Y.KnB B wc->∀X R:Act->World->Prop,(∀t B' w',OMoved B wc B' w'->Φ t B'->X ⟨t,[]⟩ w')->(∀t B' w',OMoved B wc B' w'->Ψ t B'->R ⟨t,[]⟩ w')->zq27 P it (ends X R) ⟨t,[]⟩ wc):
 wpI Y.J it (λs' e a w'=>s'=s/\a.defers=ds/\∃B',((e=.normal/\Φ a.tmps B')\/(e=.ret/\Ψ a.tmps B'))/\Y.AtB B' s w' p) s ⟨t,ds⟩ w:=by
 obtain⟨m,rfl,h⟩:=h;intro b k cs hb hk;refine Y.item (ds:=ds) Φ Ψ h hok (λwc hB=>hx wc ⟨m,rfl,hB⟩ _ _ (λt B' w' k1 k2=>⟨B',k1,k2⟩) (λt B' w' k1 k2=>⟨B',k1,k2⟩)) b k cs hb ?_;rintro s' e a w' ⟨rfl,hd,m',hh,hA⟩;exact hk s' e a w' ⟨rfl,hd,m'.box i,hh,m',rfl,hA⟩
theorem YSys.codeX {x:Code}(Φ:Array Value->(Nat->Option Obj)->Prop)(h:Y.AtB B s w p)(hok:zqp P A x=true)
 (hx:∀wc,Y.KnB B wc->∀X:Act->World->Prop,(∀t B' w',OMoved B wc B' w'->Φ t B'->X ⟨t,[]⟩ w')->Code.wp P x (ends X (λ_ _=>False)) ⟨t,[]⟩ wc)
 (hy:∀t' B' w',Φ t' B'->Y.AtB B' s w' p->Q s .normal ⟨t',ds⟩ w'):wpJ Y.J x Q s ⟨t,ds⟩ w:=by
 intro b k cs hb hk;refine Y.itemX (it:=.code x) (ds:=ds) Φ (λ_ _=>False) h hok (λwc hB X R hX _=>zq28 (zq59 (hx wc hB X hX)) λe a w' q=>?_) b k cs hb ?_
 . cases e with
   |normal=>exact q
   |ret=>exact q.2.elim
   |_=>exact q
 . rintro s' e a w' ⟨rfl,hd,B',(⟨rfl,h1⟩|⟨_,h1⟩),hA⟩
   . obtain⟨tt,dd⟩:=a;simp only at h1 hd;subst hd;exact hk _ .normal _ _ (hy tt B' w' h1 hA)
   . exact h1.elim
theorem YSys.seqX {x y:Code}(Φ:Array Value->(Nat->Option Obj)->Prop)(h:Y.AtB B s w p)(hok:zqp P A x=true)
 (hx:∀wc,Y.KnB B wc->∀X:Act->World->Prop,(∀t B' w',OMoved B wc B' w'->Φ t B'->X ⟨t,[]⟩ w')->Code.wp P x (ends X (λ_ _=>False)) ⟨t,[]⟩ wc)
 (hy:∀t' B' w',Φ t' B'->Y.AtB B' s w' p->wpJ Y.J y Q s ⟨t',ds⟩ w'):wpJ Y.J (.seq x y) Q s ⟨t,ds⟩ w:=by
 refine zqq Y.jc ?_;exact Y.codeX Φ h hok hx hy
theorem YSys.code0 {x:Code}{t':Array Value}(h:Y.AtB B s w p)(hok:zqp P A x=true)
 (hx:∀wc,Y.KnB B wc->Code.wp P x (ends (λa w'=>Ext1 wc w'/\a.tmps=t') (λ_ _=>False)) ⟨t,[]⟩ wc)
 (hy:∀w',Y.AtB B s w' p->Q s .normal ⟨t',ds⟩ w'):wpJ Y.J x Q s ⟨t,ds⟩ w:=by
 refine Y.codeX (λt B'=>t=t'/\B'=B) h hok (λwc hB X hX=>Code.wp_mono (λe a w' q=>?_) (hx wc hB)) ?_
 . cases e with
   |normal=>
    obtain⟨q0,q1,q2⟩:=q;obtain⟨tt,dd⟩:=a;simp only at q0 q2;subst q0 q2;exact⟨rfl,hX _ _ _ (OMoved.ext hB.own q1) ⟨rfl,rfl⟩⟩
   |ret=>exact q.2.elim
   |_=>exact q
 . rintro _ _ w' ⟨rfl,rfl⟩ hA;exact hy w' hA
theorem YSys.seq0 {x y:Code}{t':Array Value}(h:Y.AtB B s w p)(hok:zqp P A x=true)
 (hx:∀wc,Y.KnB B wc->Code.wp P x (ends (λa w'=>Ext1 wc w'/\a.tmps=t') (λ_ _=>False)) ⟨t,[]⟩ wc)
 (hy:∀w',Y.AtB B s w' p->wpJ Y.J y Q s ⟨t',ds⟩ w'):wpJ Y.J (.seq x y) Q s ⟨t,ds⟩ w:=by
 refine zqq Y.jc ?_;exact Y.code0 h hok hx hy
theorem YSys.opsX {ops:Array Oper}{todo:List Nat}(k n:Nat)(Φ:Array Value->(Nat->Option Obj)->Prop)(h:Y.AtB B s w p)(hsz:k+n=ops.size)(ht:todo=List.range' k n)(hok:zq11 P A (.inRegion ops todo)=true)
 (hx:∀wc,Y.KnB B wc->∀X:Act->World->Prop,(∀t B' w',OMoved B wc B' w'->Φ t B'->X ⟨t,[]⟩ w')->wpList P ops (ends X (λ_ _=>False)) (ops.toList.drop k) ⟨t,[]⟩ wc)
 (hy:∀t' B' w',Φ t' B'->Y.AtB B' s w' p->Q s .normal ⟨t',ds⟩ w'):opsJ Y.J ops todo Q s ⟨t,ds⟩ w:=by
 intro b kk cs hb hk;refine Y.itemX (it:=.inRegion ops todo) (ds:=ds) Φ (λ_ _=>False) h hok (λwc hB X R hX _=>zq28 (zqar k n hsz ht (hx wc hB X hX)) λe a w' q=>?_) b kk cs hb ?_
 . cases e with
   |normal=>exact q
   |ret=>exact q.2.elim
   |_=>exact q
 . rintro s' e a w' ⟨rfl,hd,B',(⟨rfl,h1⟩|⟨_,h1⟩),hA⟩
   . obtain⟨tt,dd⟩:=a;simp only at h1 hd;subst hd;exact hk _ .normal _ _ (hy tt B' w' h1 hA)
   . exact h1.elim
theorem YSys.ops0 {ops:Array Oper}{todo:List Nat}(k n:Nat){t':Array Value}(h:Y.AtB B s w p)(hsz:k+n=ops.size)(ht:todo=List.range' k n)(hok:zq11 P A (.inRegion ops todo)=true)
 (hx:∀wc,Y.KnB B wc->wpList P ops (ends (λa w'=>Ext1 wc w'/\a.tmps=t') (λ_ _=>False)) (ops.toList.drop k) ⟨t,[]⟩ wc)
 (hy:∀w',Y.AtB B s w' p->Q s .normal ⟨t',ds⟩ w'):opsJ Y.J ops todo Q s ⟨t,ds⟩ w:=by
 intro b kk cs hb hk;refine Y.itemX (it:=.inRegion ops todo) (ds:=ds) (λt B'=>t=t'/\B'=B) (λ_ _=>False) h hok (λwc hB X R hX _=>zq28 (zqar k n hsz ht (hx wc hB)) λe a w' q=>?_) b kk cs hb ?_
 . cases e with
   |normal=>
    obtain⟨q0,q1,q2⟩:=q;obtain⟨tt,dd⟩:=a;simp only at q0 q2;subst q0 q2;exact⟨rfl,hX _ _ _ (OMoved.ext hB.own q1) ⟨rfl,rfl⟩⟩
   |ret=>exact q.2.elim
   |_=>exact q
 . rintro s' e a w' ⟨rfl,hd,B',(⟨rfl,h1,rfl⟩|⟨_,h1⟩),hA⟩
   . obtain⟨tt,dd⟩:=a;simp only at h1 hd;subst h1 hd;exact hk _ .normal _ _ (hy w' hA)
   . exact h1.elim
theorem YSys.preX {ops:Array Oper}{todo rest:List Nat}(k n q:Nat)(Φ:Array Value->(Nat->Option Obj)->Prop)(h:Y.AtB B s w p)(hsz:k+n+q=ops.size)(ht:todo=List.range' k (n+q))(hr:rest=List.range' (k+n) q)(hc:chk P (λ_=>false) true ops k n=true)
 (hx:∀wc,Y.KnB B wc->∀X:Exit->Act->World->Prop,(∀t' B' w',OMoved B wc B' w'->Φ t' B'->X .normal ⟨t',ds⟩ w')->wpList P ops X ((ops.toList.drop k).take n) ⟨t,ds⟩ wc)
 (hy:∀t' B' w',Φ t' B'->Y.AtB B' s w' p->opsJ Y.J ops rest Q s ⟨t',ds⟩ w'):opsJ Y.J ops todo Q s ⟨t,ds⟩ w:=by
 obtain⟨m,rfl,h⟩:=h;exact Y.pre k n q Φ h hsz ht hr hc (λwc hB X hX=>hx wc ⟨m,rfl,hB⟩ X hX) λt' m' w' h1 h2=>hy t' _ w' h1 ⟨m',rfl,h2⟩
theorem YSys.pre0 {ops:Array Oper}{todo rest:List Nat}(k n q:Nat){t₁:Array Value}(h:Y.AtB B s w p)(hsz:k+n+q=ops.size)(ht:todo=List.range' k (n+q))(hr:rest=List.range' (k+n) q)(hc:chk P (λ_=>false) true ops k n=true)
 (hx:∀wc,Y.KnB B wc->∀X:Exit->Act->World->Prop,(∀w',Ext1 wc w'->X .normal ⟨t₁,ds⟩ w')->wpList P ops X ((ops.toList.drop k).take n) ⟨t,ds⟩ wc)
 (hy:∀w',Y.AtB B s w' p->opsJ Y.J ops rest Q s ⟨t₁,ds⟩ w'):opsJ Y.J ops todo Q s ⟨t,ds⟩ w:=by
 refine Y.preX k n q (λt B'=>t=t₁/\B'=B) h hsz ht hr hc (λwc hB X hX=>hx wc hB X λw' k1=>hX _ _ _ (OMoved.ext hB.own k1) ⟨rfl,rfl⟩) ?_;rintro _ _ w' ⟨rfl,rfl⟩ hA;exact hy w' hA
theorem YSys.callO {ops:Array Oper}{rest:List Nat}{j:Nat}{o:Oper}{f:FuncId}{args:Array Value}{Post:Y.γ->Ending->World->Prop}{d₀:Tmp}(hc:zq1g P Y.J f args Post s w)(ho:ops[j]?=some o)(hg:o.guard=none)(hd₀:o.dst=some d₀)
 (hrun:∀w,(execOp (Act.mk t ds).eval o).run P w=.ok (.enter f args) w) (hev:∀w,(execOp (Act.mk t ds).eval o).events P w #[]=#[])
 (hk:∀s' e w',Post s' e w'->match e with
  |.returned v=>opsJ Y.J ops rest Q s' ⟨t.setIfInBounds d₀ v,ds⟩ w'
  |.panicked ch=>Q s' (.panic ch) ⟨t,ds⟩ w'
  |.outgrown=>False):opsJ Y.J ops (j::rest) Q s ⟨t,ds⟩ w:=by
 refine zqdj Y.jc ho (by simp[Region.wanted,hg]) hrun hev hc ?_;intro s' e w' hp;have:=hk s' e w' hp;cases e with
 |returned v=>rw[hd₀];exact this
 |panicked ch=>exact this
 |outgrown=>exact this
theorem YSys.callR {ops:Array Oper}{todo rest:List Nat}(k n q:Nat){t₁:Array Value}{o:Oper}{f:FuncId}{args:Array Value}{pp:Proc S α}{val:α->Value}{K:α->Proc S β}{d₀:Tmp}(hA:Y.AtB B s w (pp.bind K))(hspec:SpecY Y f args pp val)(hK:∀a,Y.sil (K a))
 (hsz:k+n+(q+1)=ops.size) (ht:todo=List.range' k (n+(q+1))) (hr:rest=List.range' (k+n+1) q) (hc:chk P (λ_=>false) true ops k n=true) (ho:ops[k+n]?=some o) (hg:o.guard=none) (hd₀:o.dst=some d₀)
 (hpre:∀wc,Y.KnB B wc->∀X:Exit->Act->World->Prop,(∀w',Ext1 wc w'->X .normal ⟨t₁,ds⟩ w')->wpList P ops X ((ops.toList.drop k).take n) ⟨t,ds⟩ wc)
 (hrun:∀w,(execOp (Act.mk t₁ ds).eval o).run P w=.ok (.enter f args) w) (hev:∀w,(execOp (Act.mk t₁ ds).eval o).events P w #[]=#[])
 (hd:∀s' ch w',Y.Dead s' ch w'->Q s' (.panic ch) ⟨t₁,ds⟩ w')
 (hk:∀s' a w',Y.AtB B s' w' (K a)->opsJ Y.J ops rest Q s' ⟨t₁.setIfInBounds d₀ (val a),ds⟩ w'):opsJ Y.J ops todo Q s ⟨t,ds⟩ w:=by
 refine Y.pre0 k n (q+1) (rest:=(k+n)::rest) hA hsz ht (by rw[hr,List.range'_succ]) hc hpre λw' hA'=>?_;obtain⟨m,rfl,hA'⟩:=hA';refine Y.callO (hspec K s m w' hK hA') ho hg hd₀ hrun hev ?_;intro s' e w'' hp;cases e with
 |returned v=>
  obtain⟨a,m',rfl,k1,k2⟩:=hp;exact hk s' a w'' ⟨m',k1,k2⟩
 |panicked ch=>exact hd s' ch w'' hp
 |outgrown=>exact hp
theorem YSys.callS {ops:Array Oper}{todo rest:List Nat}(k n q:Nat){t₁:Array Value}{o:Oper}{f:FuncId}{args:Array Value}{K:Unit->Proc S β}{d₀:Tmp}(hA:Y.AtB B s w (Proc.tick.bind K))(hspec:StepY Y f args)
 (hsz:k+n+(q+1)=ops.size) (ht:todo=List.range' k (n+(q+1))) (hr:rest=List.range' (k+n+1) q) (hc:chk P (λ_=>false) true ops k n=true) (ho:ops[k+n]?=some o) (hg:o.guard=none) (hd₀:o.dst=some d₀)
 (hpre:∀wc,Y.KnB B wc->∀X:Exit->Act->World->Prop,(∀w',Ext1 wc w'->X .normal ⟨t₁,ds⟩ w')->wpList P ops X ((ops.toList.drop k).take n) ⟨t,ds⟩ wc)
 (hrun:∀w,(execOp (Act.mk t₁ ds).eval o).run P w=.ok (.enter f args) w) (hev:∀w,(execOp (Act.mk t₁ ds).eval o).events P w #[]=#[])
 (hd:∀s' ch w',Y.Dead s' ch w'->Q s' (.panic ch) ⟨t₁,ds⟩ w')
 (hk:∀s' w',Y.AtB B s' w' (K ())->opsJ Y.J ops rest Q s' ⟨t₁.setIfInBounds d₀ (.tuple #[]),ds⟩ w'):opsJ Y.J ops todo Q s ⟨t,ds⟩ w:=by
 refine Y.pre0 k n (q+1) (rest:=(k+n)::rest) hA hsz ht (by rw[hr,List.range'_succ]) hc hpre λw' hA'=>?_;obtain⟨m,rfl,hA'⟩:=hA';refine Y.callO (hspec K s m w' hA') ho hg hd₀ hrun hev ?_;intro s' e w'' hp;cases e with
 |returned v=>
  obtain⟨a,m',rfl,k1,k2⟩:=hp;exact hk s' w'' ⟨m',k1,k2⟩
 |panicked ch=>exact hd s' ch w'' hp
 |outgrown=>exact hp
def PureY(Y:YSys P A C ro i β)(f:FuncId)(args:Array Value)(v:Value):Prop:=
 ∀(B:Nat->Option Obj)(s:Y.γ)(w:World)(p:Proc S β),Y.AtB B s w p->zq1g P Y.J f args (λs' e w'=>s'=s/\e=.returned v/\Y.AtB B s w' p) s w
theorem PureY.of {f:FuncId}{fn:Func}{c:Code}{args:Array Value}{v:Value}(hf:P.funcs[f]?=some fn)(hb:fn.body=some c)(hok:zqp P A c=true)
 (h:∀B wc,Y.KnB B wc->Calls P f args wc (zq38 λv' w'=>Ext1 wc w'/\v'=v)):PureY Y f args v:=by
 rintro B s w p ⟨m,rfl,hA⟩ cl cs h1 h2;refine Y.call (λv' B'=>v'=v/\B'=m.box i) hA hf hb hok (λwc hB=>Calls.mono (h _ wc ⟨m,rfl,hB⟩) λe w' q=>?_) cl cs ?_ ?_
 . cases e with
   |returned v'=>exact⟨m.box i,OMoved.ext (Y.kn hB) q.1,q.2,rfl⟩
   |_=>exact q
 . rintro s' v' w' ⟨rfl,v'',m',e,⟨rfl,k⟩,hA'⟩;cases e;exact h1 _ _ w' ⟨rfl,rfl,m',k,hA'⟩
 . rintro s' ch w' ⟨_,_,_,e,_⟩;cases e
theorem YSys.callP {ops:Array Oper}{todo rest:List Nat}(k n q:Nat){t₁:Array Value}{o:Oper}{f:FuncId}{args:Array Value}{v:Value}{d₀:Tmp}(hA:Y.AtB B s w p)(hspec:PureY Y f args v)
 (hsz:k+n+(q+1)=ops.size) (ht:todo=List.range' k (n+(q+1))) (hr:rest=List.range' (k+n+1) q) (hc:chk P (λ_=>false) true ops k n=true) (ho:ops[k+n]?=some o) (hg:o.guard=none) (hd₀:o.dst=some d₀)
 (hpre:∀wc,Y.KnB B wc->∀X:Exit->Act->World->Prop,(∀w',Ext1 wc w'->X .normal ⟨t₁,ds⟩ w')->wpList P ops X ((ops.toList.drop k).take n) ⟨t,ds⟩ wc)
 (hrun:∀w,(execOp (Act.mk t₁ ds).eval o).run P w=.ok (.enter f args) w) (hev:∀w,(execOp (Act.mk t₁ ds).eval o).events P w #[]=#[])
 (hk:∀w',Y.AtB B s w' p->opsJ Y.J ops rest Q s ⟨t₁.setIfInBounds d₀ v,ds⟩ w'):opsJ Y.J ops todo Q s ⟨t,ds⟩ w:=by
 refine Y.pre0 k n (q+1) (rest:=(k+n)::rest) hA hsz ht (by rw[hr,List.range'_succ]) hc hpre λw' hA'=>?_;refine Y.callO (hspec B s w' p hA') ho hg hd₀ hrun hev ?_;rintro s' e w'' ⟨rfl,rfl,hA''⟩;exact hk w'' hA''
def RetY(Y:YSys P A C ro i β)(K:α->Proc S β)(val:α->Value)(B:Nat->Option Obj)(s:Y.γ):Ending->World->Prop
 |.returned v,w=>∃a,v=val a/\Y.AtB B s w (K a)
 |.panicked ch,w=>Y.Dead s ch w
 |.outgrown,_=>False
theorem SpecB.of {f:FuncId}{fn:Func}{c:Code}{args:Array Value}{pp:Proc S α}{val:α->Value}(hf:P.funcs[f]?=some fn)(hb:fn.body=some c)
 (h:∀(K:α->Proc S β)(s:Y.γ)(B:Nat->Option Obj)(w:World),(∀a,Y.sil (K a))->Y.AtB B s w (pp.bind K)->wpJ Y.J c (bodyC (Y.Bd fn (RetY Y K val B)) (RetY Y K val B)) s (zqm fn args) w):SpecB Y f args pp val:=by
 intro K s m w hK hA;refine⟨fn,c,hf,hb,wpJ_mono (h K s (m.box i) w hK ⟨m,rfl,hA⟩) λs e a w q=>?_⟩;have key:∀s e w,RetY Y K val (m.box i) s e w->PostY Y K val (m.box i) s e w:=by
  intro s e w q;cases e with
  |returned v=>obtain⟨a,rfl,m',k1,k2⟩:=q;exact⟨a,m',rfl,k1,k2⟩
  |panicked ch=>exact q
  |outgrown=>exact q
 have kb:∀s a w,Y.Bd fn (RetY Y K val (m.box i)) s a w->Y.Bd fn (PostY Y K val (m.box i)) s a w:=by
  rintro s a w ⟨q1,q2⟩;exact⟨q1,q2.imp (λ⟨v,k1,k2⟩=>⟨v,k1,key _ _ _ k2⟩) (λ⟨m',p,v,k1,k2,k3⟩=>⟨m',p,v,k1,k2,λm'' w' e hA=>key _ _ _ (k3 m'' w' e hA)⟩)⟩
 cases e with
 |normal=>exact kb _ _ _ q
 |ret=>exact kb _ _ _ q
 |panic ch=>exact q
 |_=>exact q
theorem YSys.left {Post:Y.γ->Ending->World->Prop}{fn:Func}{v:Value}(h:Y.AtB B s w p)(hr:∀wc,Y.KnB B wc->(results fn t).run P wc=.ok v wc)(hp:∀w',Y.AtB B s w' p->Post s (.returned v) w'):Y.Bd fn Post s ⟨t,[]⟩ w:=by
 obtain⟨m,rfl,h⟩:=h;exact⟨rfl,.inr ⟨m,p,v,h,λwc hw=>hr wc ⟨m,rfl,hw⟩,λm' w' e hA=>hp w' ⟨m',e,hA⟩⟩⟩
end
def orB(X B:Nat->Option Obj):Nat->Option Obj:=λb=>match X b with
 |some o=>some o
 |none=>B b
def upB(B:Nat->Option Obj)(b:Nat)(o:Obj):Nat->Option Obj:=λx=>if x=b then some o else B x
@[simp] theorem upB_same (B : Nat → Option Obj) (b : Nat) (o : Obj) : upB B b o b = some o := by simp [upB]
theorem zq26(B:Nat->Option Obj){b x:Nat}(o:Obj)(h:x≠b):upB B b o x=B x:=by simp[upB,h]
theorem zq57{B:Nat->Option Obj}{b:Nat}{o:Obj}(h:B b=none):∀x y,B x=some y->upB B b o x=some y:=λx y hx=>by
 by_cases e:x=b
 . subst e;rw[h]at hx;cases hx
 . rw[zq26 _ _ e];exact hx
theorem zq2v{B B1:Nat->Option Obj}{b:Nat}{o:Obj}(hle:∀x y,B x=some y->B1 x=some y)(h:B b=none):∀x y,B x=some y->upB B1 b o x=some y:=λx y hx=>by
 by_cases e:x=b
 . subst e;rw[h]at hx;cases hx
 . rw[zq26 _ _ e];exact hle x y hx
theorem zq58{B:Nat->Option Obj}{b x:Nat}{o y:Obj}(hx:B x=some y)(h:x≠b):upB B b o x=some y:=by rw[zq26 _ _ h];exact hx
theorem zq7z{B:Nat->Option Obj}{b x:Nat}{y:Obj}(hx:B x=some y)(h:B b=none):x≠b:=λe=>by rw[e,h]at hx;cases hx
def RowB(X:Nat->Option Obj)(e:TypeId)(size:Nat)(v:Value)(n:Nat)(xs:List Value):Prop:=
 xs.length=n*size/\((v=.slice none 0 0/\n=0/\X=λ_=>none)\/
  ∃g cap cur,v=.slice (some ⟨g,0,none⟩) n cap/\(X=λb=>if b=g then some (.cells cur e (0,0))else none)/\n<=cap/\cap<=maxLen/\cur.size=cap*size/\cur.toList.take (n*size)=xs)
theorem RowB.nil (e:TypeId)(size:Nat):RowB (λ_=>none) e size (.slice none 0 0) 0 []:=⟨by simp,.inl ⟨rfl,rfl,rfl⟩⟩
theorem RowB.own {X:Nat->Option Obj}{e:TypeId}{size n:Nat}{v:Value}{xs:List Value}{w:World}(h:RowB X e size v n xs)(hX:∀b o,X b=some o->w.heap[b]?=some o):w.ownsRow 0 e size v n xs:=by
 obtain⟨h1,h2⟩:=h;refine⟨h1,?_⟩;rcases h2 with⟨a,b,c⟩|⟨g,cap,cur,a,b,c,d,k,l⟩
 . exact .inl ⟨a,b⟩
 . subst b;exact .inr ⟨g,cap,cur,a,Nat.zero_le _,hX g _ (by simp),c,d,k,l⟩
theorem RowB.block {X:Nat->Option Obj}{e:TypeId}{size n:Nat}{v:Value}{xs:List Value}(h:RowB X e size v n xs)(b:Nat):X b≠none↔v.ownBlock=some b:=by
 rcases h.2 with⟨a,_,c⟩|⟨g,cap,cur,a,c,_⟩
 . subst a c;simp[Value.ownBlock]
 . subst a c;simp only[Value.ownBlock,al_oi]
   by_cases e:b=g
   . subst e;simp
   . simp[e];exact λh=>e h.symm
section
variable {ro:Nat->Option Obj} {wc:World} {X B B0:Nat->Option Obj}
theorem OwnRep.fresh (hB:OwnRep ro B wc){b:Nat}(hb:wc.heap.size<=b):B b=none:=Classical.byContradiction λh=>absurd (hB.lt h) (Nat.not_lt_of_le hb)
theorem OMoved.poke (hB:OwnRep ro B wc){w':World}{b:Nat}{o:Obj}(hb:B b≠none)(hs:w'.heap.size=wc.heap.size)(hne:∀x,x≠b->w'.heap[x]?=wc.heap[x]?)(hn:w'.heap[b]?=some o):OMoved B wc (upB B b o) w':=by
 refine⟨by omega,by omega,λx hx hn'=>hne x λe=>hb (by rw[<-e];exact hn'),λx o' hx=>?_,λx hx=>?_⟩
 . by_cases e:x=b
   . subst e;rw[upB_same]at hx;rw[hn];exact hx
   . rw[zq26 _ _ e]at hx;rw[hne x e];exact hB.box x o' hx
 . by_cases e:x=b
   . subst e;exact .inl hb
   . rw[zq26 _ _ e]at hx;exact .inl hx
theorem OMoved.set3 (hB:OwnRep ro B wc){b o1 o2 o3:Nat}{c:Array Value}{e:TypeId}{f:Nat×Nat}(hb:B b=some (.cells c e f))(v1 v2 v3:Value):OMoved B wc (upB B b (.cells (((c.setIfInBounds o1 v1).setIfInBounds o2 v2).setIfInBounds o3 v3) e f)) (((wc.setCell ⟨b,o1,none⟩ v1).setCell ⟨b,o2,none⟩ v2).setCell ⟨b,o3,none⟩ v3):=
 .poke hB (by rw[hb];simp) (by rw[zqz,zqz,zqz]) (λx hx=>by rw[zql _ _ _ _ hx,zql _ _ _ _ hx,zql _ _ _ _ hx]) (zqy _ _ _ _ (zqy _ _ _ _ (zqy _ _ _ _ (hB.box b _ hb))))
theorem OMoved.push (hB:OwnRep ro B wc){w':World}{b:Nat}{o:Obj}(hx:Ext1 wc w')(hb:wc.heap.size<=b)(hn:w'.heap[b]?=some o):OMoved B wc (upB B b o) w':=by
 refine⟨hx.size,hx.one,λx hl _=>hx.old x hl,λx o' hx'=>?_,λx hx'=>?_⟩
 . by_cases e:x=b
   . subst e;rw[upB_same]at hx';rw[hn];exact hx'
   . rw[zq26 _ _ e]at hx';exact hx.heap (hB.box x o' hx')
 . by_cases e:x=b
   . subst e;exact .inr hb
   . rw[zq26 _ _ e]at hx';exact .inl hx'
end
end Go.Car
