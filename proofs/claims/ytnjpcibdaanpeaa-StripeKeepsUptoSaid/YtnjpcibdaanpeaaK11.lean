/- YtnjpcibdaanpeaaSKeep15: part 11 of the proof (the texts behind it, in order). -/
import Derived.Test.YtnjpcibdaanpeaaK10
set_option linter.unusedSimpArgs false
set_option linter.unusedVariables false
set_option linter.unusedSectionVars false
set_option linter.unnecessarySimpa false
set_option maxHeartbeats 1000000
namespace Go.Car
open Go Go.Conc Go.RowKit
open Go.ConcN (upd upd_ne upd_same)
section
variable {P:Program} {main:Bool} {γ:Type} {J:γ->Goroutine->World->Prop}
theorem at_drawsX(hJ:JS P main (λ_=>none) J){b:Frame}{k:List Item}{cs:List Frame}(hb:b.kind≠.early)(hm:P.follows .mixedOrders=true){id:Nat}{ops:Array Oper}{T₀:Array Value}{ds:List Deferred}{s:γ}{w:World}(I:γ->(Nat->Bool)->Array Value->World->Prop)
 (hback:backOkJ ops=true) (hre:∀s L T w τ d,I s L T w->I s L T (re w τ d)) (hI:I s (λ_=>false) T₀ w)
 (hstep:∀(s:γ)(L:Nat->Bool)(T:Array Value)(w:World)(i:Nat)(o:Oper),I s L T w->L i=false->ops[i]?=some o->(∀e∈o.after,Region.binds .any e=true->L e.on=true)->
  ∀rest:List Nat,(∀s' T' w',I s' (upd L i true) T' w'->J s' (G (b.at ⟨T',ds⟩ (.inRegion ops rest::k)) cs) w')->J s (G (b.at ⟨T,ds⟩ (.inRegion ops (i::rest)::k)) cs) w)
 (hend:∀s L T w,(∀i,i<ops.size->L i=true)->I s L T w->J s (G (b.at ⟨T,ds⟩ (.inRegion ops []::k)) cs) w):J s (G (b.at ⟨T₀,ds⟩ (.code (.region id ops true)::k)) cs) w:=by
 have hb':∀i o,ops[i]?=some o->∀e∈o.after,Region.binds .any e=true->e.on<i:=by
  intro i o ho;have hlt:=(Array.getElem?_eq_some_iff.1 ho).1;unfold backOkJ at hback;rw[List.all_eq_true]at hback;have:=hback i (List.mem_range.2 hlt);rw[ho]at this;simp only[Array.all_eq_true_iff_forall_mem]at this;exact λe he hbe=>by have:=this e he;simpa[hbe]using this
 have key:∀(fuel t:Nat)(listed:Array Bool)(s:γ)(L:Nat->Bool)(T:Array Value)(w:World),listed.size=ops.size->left listed=fuel->(∀i,i<ops.size->listed.getD i false=L i)->I s L T w->
  J s (G (b.at ⟨T,ds⟩ (.inRegion ops (Region.linearise.go .any ops fuel t listed [])::k)) cs) w:=by
  intro fuel
  induction fuel with
  |zero=>
   intro t listed s L T w hsz hl hL hi;refine hend s L T w (λi hlt=>?_) hi;rw[←hL i hlt];have hlt':i<listed.size:=by omega
   cases hv:listed[i]with
   |true=>simp[hlt',hv]
   |false=>have:=left_pos (listed:=listed) (i:=i) (by simp[hlt',hv]);omega
  |succ fuel ih=>
   intro t listed s L T w hsz hl hL hi;simp only[Region.linearise.go];change J s (G (b.at ⟨T,ds⟩ (.inRegion ops (match (Region.ready .any ops listed)[t % (Region.ready .any ops listed).length]? with
    |some i=>Region.linearise.go .any ops fuel (t / (Region.ready .any ops listed).length) (listed.setIfInBounds i true) [i]
    |none=>[].reverse)::k)) cs) w
   have hun:∃i,listed.getD i true=false:=by
    refine Classical.byContradiction λhn=>?_;have:left listed=0:=by
     unfold left;rw[List.length_eq_zero_iff,List.filter_eq_nil_iff];intro x hx hxx;obtain⟨i,hi,rfl⟩:=List.getElem_of_mem hx;have hi':i<listed.size:=by simpa using hi
     have e:listed.toList[i]=listed[i]:=by simp
     rw[e]at hxx;exact hn ⟨i,by simp[hi'];simpa using hxx⟩
    omega
   have hready:∃i,i∈Region.ready .any ops listed:=by
    have:∀m i,m=i->listed.getD i true=false->∃j,j∈Region.ready .any ops listed:=by
     intro m
     induction m using Nat.strongRecOn with
     |_ m ihm=>
      intro i hi hun;subst hi;have hops:m<ops.size:=by have:=zq1i hun;omega
      by_cases hall:∀e∈(ops[m]'hops).after,Region.binds .any e=true->listed.getD e.on false=true
      · exact⟨m,mem_ready.2 ⟨hun,_,Array.getElem?_eq_getElem hops,hall⟩⟩
      · obtain⟨e,he⟩:=Classical.not_forall.1 hall;obtain⟨h1,he⟩:=Classical.not_imp.1 he;obtain⟨h2,he⟩:=Classical.not_imp.1 he;have hlt':=hb' m _ (Array.getElem?_eq_getElem hops) e h1 h2;refine ihm e.on hlt' e.on rfl ?_;have:e.on<listed.size:=by omega
        simp[this]at he ⊢;exact he
    obtain⟨i,hi⟩:=hun;exact this i i rfl hi
   cases hi':(Region.ready .any ops listed)[t % (Region.ready .any ops listed).length]? with
   |none=>
    exfalso;obtain⟨i,hi''⟩:=hready;have hpos:0<(Region.ready .any ops listed).length:=List.length_pos_of_mem hi'';have hlt:=Nat.mod_lt t hpos;rw[List.getElem?_eq_none_iff]at hi';omega
   |some i=>
    have hmem:=List.mem_of_getElem? hi';obtain⟨hun,o,ho,hall⟩:=mem_ready.1 hmem;have hilt:i<ops.size:=by have:=zq1i hun;omega
    simp only[];rw[linearise_go_acc,List.reverse_singleton,List.singleton_append];have hbk:=hb' i o ho;have hLi:L i=false:=by
     rw[←hL i hilt];have hlt':i<listed.size:=by omega
     simp[hlt']at hun ⊢;exact hun
    have hld:left (listed.setIfInBounds i true)+1=left listed:=left_set hun;have hL':∀j,j<ops.size->(listed.setIfInBounds i true).getD j false=upd L i true j:=λj hj=>by
     by_cases e:i=j
     · subst e;have:i<listed.size:=by omega
       rw[upd_same];simp[this]
     · rw[getD_set_ne false e,upd_ne _ _ (λx=>e x.symm)];exact hL j hj
    have hall':∀e∈o.after,Region.binds .any e=true->L e.on=true:=λe he hbe=>by
     rw[←hL e.on (by have:=hbk e he hbe;omega)];exact hall e he hbe
    exact hstep s L T w i o hi hLi ho hall' _ λs' T' w' hI'=>ih _ _ s' (upd L i true) _ _ (by simpa using hsz) (by omega) hL' hI'
 refine hJ.step _ _ _ rfl λτ d=>⟨_,_,#[],stepG_region_draw (a:=⟨T₀,ds⟩),?_,by simp,?_⟩
 · exact OkD.refl _ _ _
 · refine hJ.re' s _ w τ (d+1) ?_;simp only[Region.schedule,hm,Bool.true_or,if_true,Region.linearise];refine key _ _ _ _ (λ_=>false) _ _ (by simp) ?_ (λi hi=>by simp[hi]) hI;unfold left;simp
def DrawX(P:Program)(J:γ->Goroutine->World->Prop)(s:γ)(T:Array Value)(o:Oper)(w:World)(K:γ->Value->World->Prop)(K0:World->Prop):Prop:=
 (okOp P (λ_=>false) o.op=true/\((∃d v w',o.dst=some d/\(execOp (Act.mk T []).eval o).run P w=.ok (.value v) w'/\K s v w')\/(o.dst=none/\∃w',(execOp (Act.mk T []).eval o).run P w=.ok .skip w'/\K0 w')))\/
 (∃d f args,o.dst=some d/\(∀w,(execOp (Act.mk T []).eval o).run P w=.ok (.enter f args) w)/\(∀w,(execOp (Act.mk T []).eval o).events P w #[]=#[])/\zq1a P J f args (λs' e w'=>∃v,e=.returned v/\K s' v w') s w)
theorem at_drawsS(hJ:JS P main (λ_=>none) J){b:Frame}{k:List Item}{cs:List Frame}(hb:b.kind≠.early)(hm:P.follows .mixedOrders=true){id:Nat}{ops:Array Oper}{T₀:Array Value}{ds:List Deferred}{s:γ}{w:World}(hback:backOkJ ops=true)(hchk:chkW ops T₀.size=true)
 (W:γ->(Nat->Bool)->List Value->World->Prop) (hWre:∀s L v w τ d,W s L v w->W s L v (re w τ d)) (v₀:List Value) (hv₀:v₀.length=ops.size) (hW:W s (λ_=>false) v₀ w)
 (hstep:∀(s:γ)(L:Nat->Bool)(vals:List Value)(T:Array Value)(w:World)(i:Nat)(o:Oper),vals.length=ops.size->W s L vals w->L i=false->ops[i]?=some o->(∀e∈o.after,Region.binds .any e=true->L e.on=true)->
  (∀j t,dstOf ops j=some t->L j=true->T[t]?=vals[j]?)->(∀t,noD ops t=true->T[t]?=T₀[t]?)->
  DrawX P J s T o w (λs' v w'=>W s' (upd L i true) (vals.set i v) w') (λw'=>W s (upd L i true) vals w'))
 (hend:∀s L vals w,(∀i,i<ops.size->L i=true)->vals.length=ops.size->W s L vals w->J s (G (b.at ⟨putv ops vals 0 T₀,ds⟩ (.inRegion ops []::k)) cs) w):J s (G (b.at ⟨T₀,ds⟩ (.code (.region id ops true)::k)) cs) w:=by
 unfold chkW at hchk;simp only[Bool.and_eq_true,List.all_eq_true,List.mem_range]at hchk;obtain⟨h1,h2⟩:=hchk;have plain:∀(i:Nat)(o:Oper),ops[i]?=some o->o.guard=none/\(∀d,o.dst=some d->d<T₀.size):=λi o ho=>by
  have:=h1 i (Array.getElem?_eq_some_iff.1 ho).1;rw[ho]at this;simp only[Bool.and_eq_true]at this;obtain⟨a1,a2⟩:=this;refine⟨Option.isNone_iff_eq_none.1 a1,λd hd=>?_⟩;rw[hd]at a2;simpa using a2
 have dlt:∀i d,dstOf ops i=some d->i<ops.size/\d<T₀.size:=λi d hd=>by
  unfold dstOf at hd;cases ho:ops[i]? with
  |none=>rw[ho]at hd;cases hd
  |some o=>rw[ho]at hd;exact⟨(Array.getElem?_eq_some_iff.1 ho).1,(plain i o ho).2 d hd⟩
 have apart:∀(i j:Nat)(d:Tmp),dstOf ops i=some d->dstOf ops j=some d->i=j:=λi j d hd hd'=>by
  rcases Nat.lt_trichotomy i j with h|h|h
  · have:=h2 j (dlt j d hd').1 i h;rw[hd,hd']at this;simp at this
  · exact h
  · have:=h2 i (dlt i d hd).1 j h;rw[hd,hd']at this;simp at this
 have final:∀(vals:List Value),vals.length=ops.size->∀i x,dstOf ops i=some x->(putv ops vals 0 T₀)[x]?=vals[i]?:=λvals hlen i x hd=>by
  obtain⟨hi,hlt⟩:=dlt i x hd;rw[List.getElem?_eq_getElem (by omega)];refine putv_at vals 0 _ i _ x (List.getElem?_eq_getElem (by omega)) (by rw[Nat.zero_add];exact hd) hlt λm a b e=>?_;have:=apart m i x e hd;omega
 let I:γ->(Nat->Bool)->Array Value->World->Prop:=λs L T w=>∃vals:List Value,vals.length=ops.size/\W s L vals w/\T.size=T₀.size/\(∀t,(∀j,dstOf ops j≠some t)->T[t]?=T₀[t]?)/\∀j t,dstOf ops j=some t->L j=true->T[t]?=vals[j]?
 refine at_drawsX hJ hb hm I hback (λs L T w τ d⟨vals,a1,a2,a3⟩=>⟨vals,a1,hWre _ _ _ _ _ _ a2,a3⟩) ⟨v₀,hv₀,hW,rfl,λ_ _=>rfl,λ_ _ _ h=>(by cases h)⟩ ?_ ?_
 · rintro s L T w i o ⟨vals,hlen,hw,hsz,hout,hin⟩ hLi ho hdep rest hnext;obtain⟨hg,hdo⟩:=plain i o ho;have hil:i<ops.size:=(Array.getElem?_eq_some_iff.1 ho).1;have hst0:=λw hw=>hstep s L vals T w i o hlen hw hLi ho hdep hin λt ht=>hout t (noD_iff ht);have hwan:Region.wanted o (yielded ops T)=true:=by simp[Region.wanted,hg]
   have value:∀s' d v w',o.dst=some d->W s' (upd L i true) (vals.set i v) w'->I s' (upd L i true) (T.setIfInBounds d v) w':=λs' d v w' hd hW'=>by
    have hdi:dstOf ops i=some d:=by unfold dstOf;rw[ho];exact hd
    refine⟨vals.set i v,by simpa using hlen,hW',by simpa using hsz,λt ht=>?_,λj t hdj hl=>?_⟩
    · have:d≠t:=λe=>ht i (e▸hdi);rw[al_gn this];exact hout t ht
    · by_cases e:j=i
      · subst e;rw[hdi]at hdj;obtain rfl:=Option.some.inj hdj;have:d<T.size:=by rw[hsz];exact hdo d hd
        have hjl:j<vals.length:=by omega
        simp[this,hjl]
      · have hdt:d≠t:=λe2=>by subst e2;exact e (apart j i d hdj hdi)
        rw[upd_ne _ _ e]at hl;rw[al_gn hdt,List.getElem?_set_ne (λe2=>e e2.symm),hin j t hdj hl]
   have skip:∀w',o.dst=none->W s (upd L i true) vals w'->I s (upd L i true) T w':=λw' hd hW'=>by
    refine⟨vals,hlen,hW',hsz,hout,λj t hdj hl=>?_⟩;have e:j≠i:=λe=>by
     subst e;unfold dstOf at hdj;rw[ho]at hdj;simp only[al_ob]at hdj;rw[hd]at hdj;cases hdj
    rw[upd_ne _ _ e]at hl;exact hin j t hdj hl
   rcases hst0 w hw with⟨hok,hpl⟩|⟨d,f,args,hd,hrun,hev,hcall⟩
   · have hst:=λτ dd=>hst0 (re w τ dd) (hWre _ _ _ _ τ dd hw);cases hdst:o.dst with
     |some d=>
      refine at_opF hJ hb ho hok hwan hdst λτ dd=>?_;rcases hst τ dd with⟨_,⟨d',v,w',hd',hr,hI'⟩|⟨hd',_⟩⟩|⟨d',f,args,hd',hrun,hev,hcall⟩
      · exact⟨v,w',hr,hnext _ _ _ (value s d v w' hdst hI')⟩
      · rw[hdst]at hd';cases hd'
      · exfalso;rcases hpl with⟨_,v,w',_,hr,_⟩|⟨hd',_⟩
        · rw[hrun]at hr;cases hr
        · rw[hdst]at hd';cases hd'
     |none=>
      refine at_skipF hJ hb ho hok hwan hdst λτ dd=>?_;rcases hst τ dd with⟨_,⟨d',v,w',hd',_⟩|⟨hd',w',hr,hI'⟩⟩|⟨d',f,args,hd',_⟩
      · rw[hdst]at hd';cases hd'
      · exact⟨w',hr,hnext _ _ _ (skip w' hdst hI')⟩
      · rw[hdst]at hd';cases hd'
   · have hrun':∀w,(execOp (Act.mk T ds).eval o).run P w=.ok (.enter f args) w:=hrun;refine zqz hb hJ ho hwan (λτ dd=>hrun' (re w τ dd)) (λτ dd e he=>?_) ?_
     · rw[Sem.runT_eq,show(execOp (Act.mk T ds).eval o).events P (re w τ dd) #[]=#[]from hev _]at he;simp at he
     · refine hcall _ _ ?_ ?_
       · rintro s' v w' ⟨v',e,hW'⟩;cases e;rw[Frame.finish_at,ho];have hp:(Act.mk T ds).put o.dst v=⟨T.setIfInBounds d v,ds⟩:=by rw[hd];rfl
         simp only[al_ob];have:=hnext _ _ _ (value s' d v w' hd hW');simpa[hp]using this
       · rintro s' ch w' ⟨v,e,_⟩;cases e
 · rintro s L T w hall ⟨vals,hlen,hw,hsz,hout,hin⟩;have:T=putv ops vals 0 T₀:=by
    apply Array.ext_getElem?;intro x
    by_cases hx:∃j,dstOf ops j=some x
    · obtain⟨j,hdj⟩:=hx;rw[hin j x hdj (hall j (dlt j x hdj).1),final vals hlen j x hdj]
    · have hno:∀j,dstOf ops j≠some x:=λj hd=>hx ⟨j,hd⟩;rw[hout x hno];exact(zq1x vals 0 _ x λj _ _=>hno j).symm
   rw[this];exact hend s L vals w hall hlen hw
end
end Go.Car
set_option maxHeartbeats 8000000
set_option maxRecDepth 100000
namespace Go.Proofs
open Go Go.Conc Go.RowKit Go.Car
open Go.ConcN (upd upd_ne upd_same)
section
variable {W0:World} {n0 N:Nat} {spec:List Value} {R:RS} {stk:Bool} {s:Nat} {L:Nat->Bool} {vals:List Value} {w w':World}
end
end Go.Proofs
set_option maxHeartbeats 4000000
set_option maxRecDepth 100000
namespace Go.Proofs
open Go Go.Conc Go.RowKit Go.Car
section
variable {Ml S α:Type} {C:Core Ml S} {ro:Nat->Option Obj} {i:Nat}
theorem step_nil{main:Bool}{Kc:Addr->Option Value}{J:Goroutine->World->Prop}(hJ:JS Try.prog main Kc (λ(_:Unit)=>J))(hC:CalmJ Try.prog main (λ(_:Unit)=>J))(m₀:BM Ml)(w₀:World)(T:S×Option α×Nat):
 StepY (seqSys zqo hJ hC C ro i 0 m₀ w₀ T) 33 #[.nilIface]:=by
 obtain⟨Y,hY⟩:∃Y,seqSys zqo hJ hC C ro i 0 m₀ w₀ T=Y:=⟨_,rfl⟩;have hskip:∀(K:Unit->Proc S α)(s:Y.γ)(B:Nat->Option Obj)(w:World),Y.AtB B s w (Proc.tick.bind K)->Y.AtB B s w (K ()):=by
  subst hY;rintro K s B w ⟨m,h1,h2,h3⟩;exact⟨m,h1,LoneAt.skip h2,h3⟩
 rw[hY];clear hY;intro K s m w hA;refine BodyY.calls ⟨_,_,Try.func33,rfl,?_⟩;simp only[zqh,Try.ntmps33,List.size_toArray,List.length_cons,List.length_nil,Nat.reduceAdd,Nat.reduceSub,Array.replicate_succ,Array.replicate_zero,List.push_toArray,List.append_toArray,List.nil_append,List.cons_append];have hA:Y.AtB (m.box i) s w (Proc.tick.bind K):=⟨m,rfl,hA⟩;obtain⟨B,hB0⟩:∃B,m.box i=B:=⟨_,rfl⟩;rw[hB0]at hA ⊢;clear hB0;apply YSys.seq0 hA (by kernel_rfl)
 · intro wc hB;go_wp2;exact⟨rfl,Ext1.refl _,rfl⟩
 intro w hA;refine zq11 Y.jc rfl ?_;rw[if_neg (by decide)];refine zq2c Y.jc ?_;have h:=hskip K s B w hA;exact⟨rfl,.inl ⟨_,resultsC_none rfl _,(),h.choose,rfl,h.choose_spec⟩⟩
end
def unitCore:Core Unit Unit where
 foot _ _:=False
 Rep _ _:=True
 st l:=l
 frame _ _ _ h _:=h
 lt _ _ _ _ hb:=hb.elim
 pin _:=0
section
variable {M2 S2 α:Type} {D:Core M2 S2} {cb:Nat} {z:Option Nat} {N:Nat}
end
section
variable {α:Type} {cb:Nat} {z:Option Nat} {N:Nat} {l:List Int}
structure StrAft(cb:Nat)(z:Option Nat)(N:Nat)(l':List Int)(w w':World):Prop where
 rep:StrRep cb z N l' w'
 size:w.heap.size<=w'.heap.size
 old:∀b,b<w.heap.size->b≠cb->z≠some b->w'.heap[b]?=w.heap[b]?
end
theorem str_nilJ{Fin:Machine->Trace->Prop}(hFin:Back Try.prog Fin){n:Nat}{α:Type}{cb:Nat}{z:Option Nat}{N:Nat}{l:List Int}{f:FuncId}{args:Array Value}{p:Proc (List Int×Unit) α}{val:α->Value}{w:World}{a:α}{l':List Int}(hspec:∀Y:YSys Try.prog aM (zq8 (zqj cb z N) unitCore) (λ_=>none) 0 α,StrAtoms Y .nilIface->SpecY Y f args p val)(hT:(p.run (l,())).2.1=some a)(hl':(p.run (l,())).1.1=l')(h:StrRep cb z N l w){cl:Frame}{cs:List Frame}
 (hq:∀w',StrAft cb z N l' w w'->J0 Try.prog Fin n (G (cl.finish (val a)) cs) w'):J0 Try.prog Fin n (G (Frame.enter Try.prog f args .normal) (cl::cs)) w:=by
 have hJ:JS Try.prog true (λ_=>none) (λ(_:Unit)=>J0 Try.prog Fin n):=⟨λ_ g w τ d h=>(j0_JS hFin).re' n g w τ d h,λ_ g w h1 h2=>(j0_JS hFin).step n g w h1 h2⟩;have hC:CalmJ Try.prog true (λ(_:Unit)=>J0 Try.prog Fin n):=λ_ fr cs w h=>zq1f hFin n fr cs w h;have hpos:=h.pos;have hle:=h.le;refine seq_calls (C:=zq8 (zqj cb z N) unitCore) (ro:=λ_=>none) (i:=0) (p:=p) (val:=val) (m₀:=⟨(l,()),λ_ _=>none⟩) zqo hJ hC ⟨⟨h,trivial,λb _ hb=>hb⟩,λi b o h=>(by cases h),λb o h=>(by cases h),λi b h=>absurd rfl h,λi j b _ h=>absurd rfl h,λb h=>absurd rfl h,λi b h=>rfl⟩ ⟨a,hT⟩ 0 (hspec _ (atoms_of_alone _ (λ_ _ _ _=>trivial) (λ_ _ _=>trivial) hpos hle (step_nil _ _ _ _ _))) ?_;intro a' m' w' _ hL;obtain⟨n',h1,_,_⟩:=hL.run;simp only[Tree.run,Prod.mk.injEq]at h1;obtain⟨h1,h2,rfl⟩:=h1;have e1:a'=a:=Option.some.inj (h2.trans hT);subst e1;have e2:m'.l.1=l':=(congrArg Prod.fst h1).trans hl';refine hq w' ⟨e2▸hL.rep.core.1,hL.size,λb hb h6 h7=>hL.old b hb ?_⟩;rintro(((h8|h8)|h8)|h9|h9)
 · exact h6 h8
 · exact h7 h8
 · exact h8.elim
 · exact h9.elim λi h=>absurd rfl h
 · exact absurd rfl h9
noncomputable def fxT(n:Nat):Code:=tailN n (Try.f8.body.getD .skip)
theorem fx0:Try.f8.body.getD .skip=.seq (headC (fxT 0)) (.seq (headC (fxT 1)) (.seq (headC (fxT 2)) (.seq (headC (fxT 3)) (.seq (headC (fxT 4)) (fxT 5))))):=by kernel_rfl
theorem two_ops{w:World}{rb p0 p1:Nat}{k:Int}(hr:w.heap[rb]?=some (.cells #[.slice (some ⟨p0,0,none⟩) 1 1,.slice (some ⟨p1,0,none⟩) 2 2] 34))(h0:w.heap[p0]?=some (.cells #[.int .i64 k,.int .i64 0,.int .i64 0,.int .i64 0] 46))(h1:w.heap[p1]?=some (.cells #[.int .i64 1,.int .i64 0,.int .i64 1,.int .i64 0,.int .i64 1,.int .i64 1,.int .i64 1,.int .i64 0] 46)):
 OpsAt w (λb=>if b=p0\/b=p1 then w.heap[b]? else none) (some ⟨rb,0,none⟩) 2 2 (λi=>if i=0 then some ⟨p0,0,none⟩else some ⟨p1,0,none⟩) (λi=>if i=0 then 1 else 2) (λi=>if i=0 then 1 else 2) (λi=>if i=0 then [⟨k,0,0,0⟩]else [⟨1,0,1,0⟩,⟨1,1,1,0⟩]):=by
 refine⟨rfl,by decide,λ_=>⟨rb,0,rfl,λi hi=>?_⟩,λi hi=>?_,λi hi=>?_,λi hi k' op hop=>?_⟩
 · rw[zq0 hr];obtain rfl |rfl:i=0\/i=1:=by omega
   · rfl
   · rfl
 · obtain rfl |rfl:i=0\/i=1:=by omega
   · exact⟨by decide,by decide,λh=>(by cases h)⟩
   · exact⟨by decide,by decide,λh=>(by cases h)⟩
 · obtain rfl |rfl:i=0\/i=1:=by omega
   · rfl
   · rfl
 · obtain rfl |rfl:i=0\/i=1:=by omega
   · refine⟨p0,0,_,_,_,rfl,by rw[if_pos (.inl rfl)];exact h0,λj hj=>?_⟩;obtain rfl:k'=0:=by have:=(List.getElem?_eq_some_iff.1 hop).1;simp at this;omega
     simp at hop;subst hop;obtain rfl |rfl |rfl |rfl:j=0\/j=1\/j=2\/j=3:=by omega
     all_goals rfl
   · refine⟨p1,0,_,_,_,rfl,by rw[if_pos (.inr rfl)];exact h1,λj hj=>?_⟩;obtain rfl |rfl:k'=0\/k'=1:=by have:=(List.getElem?_eq_some_iff.1 hop).1;simp at this;omega
     all_goals
      simp at hop;subst hop;obtain rfl |rfl |rfl |rfl:j=0\/j=1\/j=2\/j=3:=by omega
      all_goals rfl
def fxOps(k:Int)(i:Nat):List OpX:=if i=0 then [⟨k,0,0,0⟩]else [⟨1,0,1,0⟩,⟨1,1,1,0⟩]
theorem fx_sum:(strT [0,0] (fxOps 2) 2 99 [0,1,1,0]).s.2 0=[⟨true,1,[]⟩]:=by kernel_rfl
theorem fx_even:(strT [0,0] (fxOps 5) 2 99 [0,1,1,0,0]).s.2 0=[⟨false,0,[]⟩]:=by kernel_rfl
theorem fixed_calls{Fin:Machine->Trace->Prop}(hFin:Back Try.prog Fin){n:Nat}(hn:0<n){w:World}{c:Frame}{cs:List Frame}(hmain:∀w',Beyond w w'->J0 Try.prog Fin (n+4) (G (c.finish (.bool true)) cs) w'):
 J0 Try.prog Fin n (G (Frame.enter Try.prog 8 #[] .normal) (c::cs)) w:=by
 have hJ:=j0_JS hFin;have hC:=zq1f hFin;have e:Frame.enter Try.prog 8 #[] .normal=(bN 8).at (zqh Try.f8 #[]) [.code ((Try.f8.body).getD .skip)]:=by kernel_rfl
 have ea:zqh Try.f8 #[]=⟨#[undef,undef,undef,undef,undef,undef,undef,undef,undef,undef,undef,undef,undef,undef,undef,undef,undef,undef,undef,undef,undef,undef,undef,undef,undef,undef,undef,undef,undef,undef,undef,undef,undef,undef,undef,undef,undef,undef,undef,undef,undef,undef,undef,undef,undef,undef,undef,undef,undef,undef,undef,undef,undef,undef,undef,undef,undef,undef,undef,undef,undef,undef,undef,undef,undef,undef,undef,undef,undef,undef,undef,undef,undef,undef,undef,undef,undef,undef,undef,undef,undef,undef,undef,undef,undef,undef,undef,undef,undef,undef,undef,undef,undef,undef,undef,undef,undef,undef,undef,undef,undef,undef,undef,undef,undef,undef,undef],[]⟩:=by kernel_rfl
 rw[e,ea,fx0];clear e ea;have hm:=Lib.hid hmain;clear hmain;obtain⟨H,hH⟩:∃H,w.heap.size=H:=⟨_,rfl⟩;refine hJ.ctl (s:=n) (λw=>stepG_seq) ?_;refine zq12 hJ hC zqo (by kernel_rfl) (λt w'=>t=#[.bool false,undef,undef,undef,undef,undef,undef,undef,undef,undef,undef,undef,undef,undef,undef,undef,undef,undef,undef,undef,undef,undef,undef,undef,undef,undef,undef,undef,undef,undef,undef,undef,undef,undef,undef,undef,undef,undef,undef,undef,undef,undef,undef,undef,undef,undef,undef,undef,undef,undef,undef,undef,undef,undef,undef,undef,undef,undef,undef,undef,undef,undef,undef,undef,undef,undef,undef,undef,undef,undef,undef,undef,undef,undef,undef,undef,undef,undef,undef,undef,undef,undef,undef,undef,undef,undef,undef,undef,undef,undef,undef,undef,undef,undef,undef,undef,undef,undef,undef,undef,undef,undef,undef,undef,undef,undef,undef]/\∃τ d,w'=re (w) τ d) (λt w' τ d h=>⟨h.1,by obtain⟨τ',d',rfl⟩:=h.2;exact⟨τ,d,by rw[re_re]⟩⟩) (by decide) (λτ d=>?_) ?_
 · obtain⟨u0,hu0⟩:∃c,headC (fxT 0)=c:=⟨_,rfl⟩;have eu0:=hu0;rw[hu0];simp only[fxT,headC,tailN,Try.f8,al_od]at eu0;subst eu0;clear hu0;go_wp2;exact⟨rfl,rfl,τ,d,rfl⟩
 rintro t w' ⟨rfl,τ,d,rfl⟩;refine hJ.re' n _ _ τ d ?_;refine hJ.ctl (s:=n) (λw=>stepG_seq) ?_;refine zq12 hJ hC zqo (by kernel_rfl) (λt w'=>t=#[.bool false,.slice (some ⟨H,0,none⟩) 2 2,undef,undef,undef,undef,.slice (some ⟨H,0,none⟩) 2 2,undef,undef,undef,undef,undef,undef,undef,undef,undef,undef,undef,undef,undef,undef,undef,undef,undef,undef,undef,undef,undef,undef,undef,undef,undef,undef,undef,undef,undef,undef,undef,undef,undef,undef,undef,undef,undef,undef,undef,undef,undef,undef,undef,undef,undef,undef,undef,undef,undef,undef,undef,undef,undef,undef,undef,undef,undef,undef,undef,undef,undef,undef,undef,undef,undef,undef,undef,undef,undef,undef,undef,undef,undef,undef,undef,undef,undef,undef,undef,undef,undef,undef,undef,undef,undef,undef,undef,undef,undef,undef,undef,undef,undef,undef,undef,undef,undef,undef,undef,undef]/\∃τ d,w'=re (w.alloc (.cells #[.int .i64 0,.int .i64 0] 2)) τ d) (λt w' τ d h=>⟨h.1,by obtain⟨τ',d',rfl⟩:=h.2;exact⟨τ,d,by rw[re_re]⟩⟩) (by decide) (λτ d=>?_) ?_
 · obtain⟨u0,hu0⟩:∃c,headC (fxT 1)=c:=⟨_,rfl⟩;have eu0:=hu0;rw[hu0];simp only[fxT,headC,tailN,Try.f8,al_od]at eu0;subst eu0;clear hu0;go_wp2;exact⟨rfl,rfl,τ,d,rfl⟩
 rintro t w' ⟨rfl,τ,d,rfl⟩;refine hJ.re' n _ _ τ d ?_;refine hJ.ctl (s:=n) (λw=>stepG_seq) ?_;refine zq12 hJ hC zqo (by kernel_rfl) (λt w'=>t=#[.bool false,.slice (some ⟨H,0,none⟩) 2 2,.slice (some ⟨H+1,0,none⟩) 2 2,undef,undef,undef,.slice (some ⟨H,0,none⟩) 2 2,.agg #[.int .i64 1,.int .i64 0,.int .i64 1,.int .i64 0],.agg #[.int .i64 1,.int .i64 1,.int .i64 1,.int .i64 0],.slice (some ⟨H+1,0,none⟩) 2 2,undef,undef,undef,undef,undef,undef,undef,undef,undef,undef,undef,undef,undef,undef,undef,undef,undef,undef,undef,undef,undef,undef,undef,undef,undef,undef,undef,undef,undef,undef,undef,undef,undef,undef,undef,undef,undef,undef,undef,undef,undef,undef,undef,undef,undef,undef,undef,undef,undef,undef,undef,undef,undef,undef,undef,undef,undef,undef,undef,undef,undef,undef,undef,undef,undef,undef,undef,undef,undef,undef,undef,undef,undef,undef,undef,undef,undef,undef,undef,undef,undef,undef,undef,undef,undef,undef,undef,undef,undef,undef,undef,undef,undef,undef,undef,undef,undef]/\∃τ d,w'=re ((w.alloc (.cells #[.int .i64 0,.int .i64 0] 2)).alloc (.cells #[.int .i64 1,.int .i64 0,.int .i64 1,.int .i64 0,.int .i64 1,.int .i64 1,.int .i64 1,.int .i64 0] 46)) τ d) (λt w' τ d h=>⟨h.1,by obtain⟨τ',d',rfl⟩:=h.2;exact⟨τ,d,by rw[re_re]⟩⟩) (by decide) (λτ d=>?_) ?_
 · obtain⟨u0,hu0⟩:∃c,headC (fxT 2)=c:=⟨_,rfl⟩;have eu0:=hu0;rw[hu0];simp only[fxT,headC,tailN,Try.f8,al_od]at eu0;subst eu0;clear hu0;go_wp2;exact⟨rfl,rfl,τ,d,rfl⟩
 rintro t w' ⟨rfl,τ,d,rfl⟩;refine hJ.re' n _ _ τ d ?_;have HIA:RowKit.Hid (((w.alloc (.cells #[.int .i64 0,.int .i64 0] 2)).alloc (.cells #[.int .i64 1,.int .i64 0,.int .i64 1,.int .i64 0,.int .i64 1,.int .i64 1,.int .i64 1,.int .i64 0] 46)).heap.size=H+2/\((w.alloc (.cells #[.int .i64 0,.int .i64 0] 2)).alloc (.cells #[.int .i64 1,.int .i64 0,.int .i64 1,.int .i64 0,.int .i64 1,.int .i64 1,.int .i64 1,.int .i64 0] 46)).heap[H]?=some (.cells #[.int .i64 0,.int .i64 0] 2)/\((w.alloc (.cells #[.int .i64 0,.int .i64 0] 2)).alloc (.cells #[.int .i64 1,.int .i64 0,.int .i64 1,.int .i64 0,.int .i64 1,.int .i64 1,.int .i64 1,.int .i64 0] 46)).heap[H+1]?=some (.cells #[.int .i64 1,.int .i64 0,.int .i64 1,.int .i64 0,.int .i64 1,.int .i64 1,.int .i64 1,.int .i64 0] 46)/\H+1<H+2):=by
  refine Lib.hid ⟨by simp only[zq4];omega,?_,?_,by omega⟩
  · rw[←hH];exact zqe (zqu _ _)
  · rw[←hH,zq2,if_pos (by rw[zq4])]
 have HB0:RowKit.Hid (Beyond w ((w.alloc (.cells #[.int .i64 0,.int .i64 0] 2)).alloc (.cells #[.int .i64 1,.int .i64 0,.int .i64 1,.int .i64 0,.int .i64 1,.int .i64 1,.int .i64 1,.int .i64 0] 46))):=Lib.hid ((Beyond.alloc _ _).trans (Beyond.alloc _ _));generalize (w.alloc (.cells #[.int .i64 0,.int .i64 0] 2)).alloc (.cells #[.int .i64 1,.int .i64 0,.int .i64 1,.int .i64 0,.int .i64 1,.int .i64 1,.int .i64 1,.int .i64 0] 46)=w2 at HIA HB0 ⊢;refine hJ.ctl (s:=n) (λw=>stepG_seq) ?_;obtain⟨u3,hu3⟩:∃c,headC (fxT 3)=c:=⟨_,rfl⟩;have eu3:=hu3;rw[hu3];simp only[fxT,headC,tailN,Try.f8,al_od]at eu3;subst eu3;clear hu3;refine hJ.ctl (s:=n) (λw=>stepG_region) ?_;refine zqg (s:=n) (by decide) hJ (zqd _) false (.inr rfl) 0 6 3 rfl rfl rfl (by rfl) ?_;intro τ d;simp only[List.drop_zero,List.take_succ_cons,List.take_zero];have HFA:RowKit.Hid ((re w2 τ d).heap.size=(H+2)/\(re w2 τ d).heap[H]?=some (.cells #[.int .i64 0,.int .i64 0] 2)/\(re w2 τ d).heap[H+1]?=some (.cells #[.int .i64 1,.int .i64 0,.int .i64 1,.int .i64 0,.int .i64 1,.int .i64 1,.int .i64 1,.int .i64 0] 46)/\Beyond w2 (re w2 τ d)/\H+1<(H+2)):=Lib.hid ⟨HIA.out.1,HIA.out.2.1,HIA.out.2.2.1,Beyond.re _ _ _,HIA.out.2.2.2⟩;generalize re w2 τ d=vA at HFA ⊢;go_wp2;simp only[zq6];have HWA:RowKit.Hid (Beyond vA (((vA.alloc (.cells #[.int .i64 2,.int .i64 0,.int .i64 0,.int .i64 0] 46)).alloc (.cells #[.slice (some ⟨(H+2),0,none⟩) 1 1,.slice (some ⟨H+1,0,none⟩) 2 2] 34)).alloc (.cells #[.int .i64 0,.int .i64 1,.int .i64 1,.int .i64 0] 3))/\(((vA.alloc (.cells #[.int .i64 2,.int .i64 0,.int .i64 0,.int .i64 0] 46)).alloc (.cells #[.slice (some ⟨(H+2),0,none⟩) 1 1,.slice (some ⟨H+1,0,none⟩) 2 2] 34)).alloc (.cells #[.int .i64 0,.int .i64 1,.int .i64 1,.int .i64 0] 3)).heap[(H+2)]?=some (.cells #[.int .i64 2,.int .i64 0,.int .i64 0,.int .i64 0] 46)/\(((vA.alloc (.cells #[.int .i64 2,.int .i64 0,.int .i64 0,.int .i64 0] 46)).alloc (.cells #[.slice (some ⟨(H+2),0,none⟩) 1 1,.slice (some ⟨H+1,0,none⟩) 2 2] 34)).alloc (.cells #[.int .i64 0,.int .i64 1,.int .i64 1,.int .i64 0] 3)).heap[(H+2)+1]?=some (.cells #[.slice (some ⟨(H+2),0,none⟩) 1 1,.slice (some ⟨H+1,0,none⟩) 2 2] 34)/\(((vA.alloc (.cells #[.int .i64 2,.int .i64 0,.int .i64 0,.int .i64 0] 46)).alloc (.cells #[.slice (some ⟨(H+2),0,none⟩) 1 1,.slice (some ⟨H+1,0,none⟩) 2 2] 34)).alloc (.cells #[.int .i64 0,.int .i64 1,.int .i64 1,.int .i64 0] 3)).heap[(H+2)+2]?=some (.cells #[.int .i64 0,.int .i64 1,.int .i64 1,.int .i64 0] 3)):=by
  have e:=HFA.out.1;refine Lib.hid ⟨((Beyond.alloc _ _).trans (Beyond.alloc _ _)).trans (Beyond.alloc _ _),?_,?_,?_⟩
  · rw[←e];exact zqe (zqe (zqu _ _))
  · rw[←e];refine zqe ?_;rw[zq2,if_pos (by rw[zq4])]
  · rw[←e,zq2,if_pos (by simp only[zq4])]
 rw[HFA.out.1];generalize (((vA.alloc (.cells #[.int .i64 2,.int .i64 0,.int .i64 0,.int .i64 0] 46)).alloc (.cells #[.slice (some ⟨(H+2),0,none⟩) 1 1,.slice (some ⟨H+1,0,none⟩) 2 2] 34)).alloc (.cells #[.int .i64 0,.int .i64 1,.int .i64 1,.int .i64 0] 3))=WA at HWA ⊢;refine zqz (by decide) hJ (s:=n) rfl rfl (f:=10) (args:=#[.slice (some ⟨H,0,none⟩) 2 2,.slice (some ⟨(H+2)+1,0,none⟩) 2 2,.slice (some ⟨(H+2)+1+1,0,none⟩) 4 4,.int .i64 99]) (λτ d=>?_) (λτ d=>?_) ?_
 · simp[go_sem,execOp,Act.eval,resolve,Deferred.ofValue,invoke,callFunc,Try.func10,Try.f10]
 · intro e he;simp[go_sem,execOp,Act.eval,resolve,Deferred.ofValue,invoke,callFunc,Try.func10,Try.f10,Sem.runT_eq]at he
 have b0A:=HWA.out.1.heap HFA.out.2.1;have b1A:=HWA.out.1.heap HFA.out.2.2.1;refine zq2w hFin (n:=n) (by omega) (RP:=λb=>if b=(H+2)\/b=H+1 then WA.heap[b]? else none) (ws:=[0,0]) (sched:=[0,1,1,0]) (wp:=some ⟨H,0,none⟩) (ops:=fxOps 2) (N:=2) rfl (by decide) (λ_=>⟨H,0,rfl,λi hi=>?_⟩) (λb o hb=>?_) (two_ops HWA.out.2.2.1 HWA.out.2.1 b1A) (by decide) (λ_=>⟨(H+2)+1+1,0,rfl,λj x hj=>?_⟩) ?_
 · have hi:i<2:=hi;rw[zq0 b0A];obtain rfl |rfl:i=0\/i=1:=by omega
   all_goals rfl
 · split at hb
   · exact hb
   · cases hb
 · rw[zq0 HWA.out.2.2.2,Nat.zero_add];have hlj:=(List.getElem?_eq_some_iff.1 hj).1;simp only[List.length_cons,List.length_nil]at hlj;obtain rfl |rfl |rfl |rfl:j=0\/j=1\/j=2\/j=3:=by omega
   all_goals(simp at hj;subst hj;rfl)
 intro abA ovA svA amA wpA hRA;rw[Frame.finish_at]
 walk_nrm
 obtain⟨opA,ocA,rfl,-,-⟩:=zq18 hRA.orow;obtain⟨spA,scA,rfl,-,-⟩:=zq18 hRA.srow;generalize (strT [0,0] (fxOps 2) 2 99 [0,1,1,0]).ord.length=olA at hRA ⊢;generalize (strT [0,0] (fxOps 2) 2 99 [0,1,1,0]).s.1.length=slA at hRA ⊢;have HRA:=Lib.hid hRA;clear hRA b0A b1A;generalize decide (0<leftN (strT [0,0] (fxOps 2) 2 99 [0,1,1,0]).ov 2)=stkA;refine zqg (s:=n+2) (by decide) hJ (zqd _) false (.inr rfl) 7 2 0 rfl rfl rfl (by rfl) ?_;intro τ d;simp only[List.drop_succ_cons,List.drop_zero,List.take_succ_cons,List.take_zero];have HSA:RowKit.Hid (PlayedR 2 WA (strT [0,0] (fxOps 2) 2 99 [0,1,1,0]) (strT [0,0] (fxOps 2) 2 99 [0,1,1,0]).s.1 abA (.slice opA olA ocA) (.slice spA slA scA) amA (re wpA τ d)):=Lib.hid (HRA.out.re τ d);generalize re wpA τ d=xA at HSA ⊢;clear HRA;go_wp2;simp only[zq6];refine hJ.ctl (s:=n+2) (λw=>stepG_region_end) ?_;have HTA:RowKit.Hid ((xA.alloc (.cells #[.slice (some ⟨abA,0,none⟩) 2 2,.slice opA olA ocA,.slice spA slA scA,.bool stkA] 31)).heap[xA.heap.size]?=some (.cells #[.slice (some ⟨abA,0,none⟩) 2 2,.slice opA olA ocA,.slice spA slA scA,.bool stkA] 31)/\Beyond xA (xA.alloc (.cells #[.slice (some ⟨abA,0,none⟩) 2 2,.slice opA olA ocA,.slice spA slA scA,.bool stkA] 31))/\(xA.alloc (.cells #[.slice (some ⟨abA,0,none⟩) 2 2,.slice opA olA ocA,.slice spA slA scA,.bool stkA] 31)).heap.size=xA.heap.size+1):=Lib.hid ⟨zqu _ _,Beyond.alloc _ _,zq4 _ _⟩;generalize (xA.alloc (.cells #[.slice (some ⟨abA,0,none⟩) 2 2,.slice opA olA ocA,.slice spA slA scA,.bool stkA] 31))=yA at HTA ⊢;obtain⟨tA,htA⟩:∃t,xA.heap.size=t:=⟨_,rfl⟩;rw[htA]at HTA ⊢;have HXA:=Lib.hid htA;clear htA;have HBA:RowKit.Hid (Beyond w yA):=Lib.hid (((((HB0.out.trans HFA.out.2.2.2.1).trans HWA.out.1).trans ⟨HSA.out.size,HSA.out.old⟩)).trans HTA.out.2.1);have HIB:RowKit.Hid (yA.heap.size=tA+1/\yA.heap[H]?=some (.cells #[.int .i64 0,.int .i64 0] 2)/\yA.heap[H+1]?=some (.cells #[.int .i64 1,.int .i64 0,.int .i64 1,.int .i64 0,.int .i64 1,.int .i64 1,.int .i64 1,.int .i64 0] 46)/\H+1<tA+1):=by
  have q:Beyond vA yA:=(HWA.out.1.trans ⟨HSA.out.size,HSA.out.old⟩).trans HTA.out.2.1;refine Lib.hid ⟨HTA.out.2.2,q.heap HFA.out.2.1,q.heap HFA.out.2.2.1,?_⟩;have h1:=zqn (q.heap HFA.out.2.2.1);have h2:=HTA.out.2.2;omega
 refine hJ.ctl (s:=n+2) (λw=>stepG_seq) ?_;obtain⟨u4,hu4⟩:∃c,headC (fxT 4)=c:=⟨_,rfl⟩;have eu4:=hu4;rw[hu4];simp only[fxT,headC,tailN,Try.f8,al_od]at eu4;subst eu4;clear hu4;refine hJ.ctl (s:=n+2) (λw=>stepG_region) ?_;refine zqg (s:=n+2) (by decide) hJ (zqd _) false (.inr rfl) 0 6 3 rfl rfl rfl (by rfl) ?_;intro τ d;simp only[List.drop_zero,List.take_succ_cons,List.take_zero];have HFB:RowKit.Hid ((re yA τ d).heap.size=(tA+1)/\(re yA τ d).heap[H]?=some (.cells #[.int .i64 0,.int .i64 0] 2)/\(re yA τ d).heap[H+1]?=some (.cells #[.int .i64 1,.int .i64 0,.int .i64 1,.int .i64 0,.int .i64 1,.int .i64 1,.int .i64 1,.int .i64 0] 46)/\Beyond yA (re yA τ d)/\H+1<(tA+1)):=Lib.hid ⟨HIB.out.1,HIB.out.2.1,HIB.out.2.2.1,Beyond.re _ _ _,HIB.out.2.2.2⟩;generalize re yA τ d=vB at HFB ⊢;go_wp2;simp only[zq6];have HWB:RowKit.Hid (Beyond vB (((vB.alloc (.cells #[.int .i64 5,.int .i64 0,.int .i64 0,.int .i64 0] 46)).alloc (.cells #[.slice (some ⟨(tA+1),0,none⟩) 1 1,.slice (some ⟨H+1,0,none⟩) 2 2] 34)).alloc (.cells #[.int .i64 0,.int .i64 1,.int .i64 1,.int .i64 0,.int .i64 0] 3))/\(((vB.alloc (.cells #[.int .i64 5,.int .i64 0,.int .i64 0,.int .i64 0] 46)).alloc (.cells #[.slice (some ⟨(tA+1),0,none⟩) 1 1,.slice (some ⟨H+1,0,none⟩) 2 2] 34)).alloc (.cells #[.int .i64 0,.int .i64 1,.int .i64 1,.int .i64 0,.int .i64 0] 3)).heap[(tA+1)]?=some (.cells #[.int .i64 5,.int .i64 0,.int .i64 0,.int .i64 0] 46)/\(((vB.alloc (.cells #[.int .i64 5,.int .i64 0,.int .i64 0,.int .i64 0] 46)).alloc (.cells #[.slice (some ⟨(tA+1),0,none⟩) 1 1,.slice (some ⟨H+1,0,none⟩) 2 2] 34)).alloc (.cells #[.int .i64 0,.int .i64 1,.int .i64 1,.int .i64 0,.int .i64 0] 3)).heap[(tA+1)+1]?=some (.cells #[.slice (some ⟨(tA+1),0,none⟩) 1 1,.slice (some ⟨H+1,0,none⟩) 2 2] 34)/\(((vB.alloc (.cells #[.int .i64 5,.int .i64 0,.int .i64 0,.int .i64 0] 46)).alloc (.cells #[.slice (some ⟨(tA+1),0,none⟩) 1 1,.slice (some ⟨H+1,0,none⟩) 2 2] 34)).alloc (.cells #[.int .i64 0,.int .i64 1,.int .i64 1,.int .i64 0,.int .i64 0] 3)).heap[(tA+1)+2]?=some (.cells #[.int .i64 0,.int .i64 1,.int .i64 1,.int .i64 0,.int .i64 0] 3)):=by
  have e:=HFB.out.1;refine Lib.hid ⟨((Beyond.alloc _ _).trans (Beyond.alloc _ _)).trans (Beyond.alloc _ _),?_,?_,?_⟩
  · rw[←e];exact zqe (zqe (zqu _ _))
  · rw[←e];refine zqe ?_;rw[zq2,if_pos (by rw[zq4])]
  · rw[←e,zq2,if_pos (by simp only[zq4])]
 rw[HFB.out.1];generalize (((vB.alloc (.cells #[.int .i64 5,.int .i64 0,.int .i64 0,.int .i64 0] 46)).alloc (.cells #[.slice (some ⟨(tA+1),0,none⟩) 1 1,.slice (some ⟨H+1,0,none⟩) 2 2] 34)).alloc (.cells #[.int .i64 0,.int .i64 1,.int .i64 1,.int .i64 0,.int .i64 0] 3))=WB at HWB ⊢;refine zqz (by decide) hJ (s:=n+2) rfl rfl (f:=10) (args:=#[.slice (some ⟨H,0,none⟩) 2 2,.slice (some ⟨(tA+1)+1,0,none⟩) 2 2,.slice (some ⟨(tA+1)+1+1,0,none⟩) 5 5,.int .i64 99]) (λτ d=>?_) (λτ d=>?_) ?_
 · simp[go_sem,execOp,Act.eval,resolve,Deferred.ofValue,invoke,callFunc,Try.func10,Try.f10]
 · intro e he;simp[go_sem,execOp,Act.eval,resolve,Deferred.ofValue,invoke,callFunc,Try.func10,Try.f10,Sem.runT_eq]at he
 have b0B:=HWB.out.1.heap HFB.out.2.1;have b1B:=HWB.out.1.heap HFB.out.2.2.1;refine zq2w hFin (n:=n+2) (by omega) (RP:=λb=>if b=(tA+1)\/b=H+1 then WB.heap[b]? else none) (ws:=[0,0]) (sched:=[0,1,1,0,0]) (wp:=some ⟨H,0,none⟩) (ops:=fxOps 5) (N:=2) rfl (by decide) (λ_=>⟨H,0,rfl,λi hi=>?_⟩) (λb o hb=>?_) (two_ops HWB.out.2.2.1 HWB.out.2.1 b1B) (by decide) (λ_=>⟨(tA+1)+1+1,0,rfl,λj x hj=>?_⟩) ?_
 · have hi:i<2:=hi;rw[zq0 b0B];obtain rfl |rfl:i=0\/i=1:=by omega
   all_goals rfl
 · split at hb
   · exact hb
   · cases hb
 · rw[zq0 HWB.out.2.2.2,Nat.zero_add];have hlj:=(List.getElem?_eq_some_iff.1 hj).1;simp only[List.length_cons,List.length_nil]at hlj;obtain rfl |rfl |rfl |rfl |rfl:j=0\/j=1\/j=2\/j=3\/j=4:=by omega
   all_goals(simp at hj;subst hj;rfl)
 intro abB ovB svB amB wpB hRB;rw[Frame.finish_at]
 walk_nrm
 obtain⟨opB,ocB,rfl,-,-⟩:=zq18 hRB.orow;obtain⟨spB,scB,rfl,-,-⟩:=zq18 hRB.srow;generalize (strT [0,0] (fxOps 5) 2 99 [0,1,1,0,0]).ord.length=olB at hRB ⊢;generalize (strT [0,0] (fxOps 5) 2 99 [0,1,1,0,0]).s.1.length=slB at hRB ⊢;have HRB:=Lib.hid hRB;clear hRB b0B b1B;generalize decide (0<leftN (strT [0,0] (fxOps 5) 2 99 [0,1,1,0,0]).ov 2)=stkB;refine zqg (s:=n+2+2) (by decide) hJ (zqd _) false (.inr rfl) 7 2 0 rfl rfl rfl (by rfl) ?_;intro τ d;simp only[List.drop_succ_cons,List.drop_zero,List.take_succ_cons,List.take_zero];have HSB:RowKit.Hid (PlayedR 2 WB (strT [0,0] (fxOps 5) 2 99 [0,1,1,0,0]) (strT [0,0] (fxOps 5) 2 99 [0,1,1,0,0]).s.1 abB (.slice opB olB ocB) (.slice spB slB scB) amB (re wpB τ d)):=Lib.hid (HRB.out.re τ d);generalize re wpB τ d=xB at HSB ⊢;clear HRB;go_wp2;simp only[zq6];refine hJ.ctl (s:=n+2+2) (λw=>stepG_region_end) ?_;have HTB:RowKit.Hid ((xB.alloc (.cells #[.slice (some ⟨abB,0,none⟩) 2 2,.slice opB olB ocB,.slice spB slB scB,.bool stkB] 31)).heap[xB.heap.size]?=some (.cells #[.slice (some ⟨abB,0,none⟩) 2 2,.slice opB olB ocB,.slice spB slB scB,.bool stkB] 31)/\Beyond xB (xB.alloc (.cells #[.slice (some ⟨abB,0,none⟩) 2 2,.slice opB olB ocB,.slice spB slB scB,.bool stkB] 31))/\(xB.alloc (.cells #[.slice (some ⟨abB,0,none⟩) 2 2,.slice opB olB ocB,.slice spB slB scB,.bool stkB] 31)).heap.size=xB.heap.size+1):=Lib.hid ⟨zqu _ _,Beyond.alloc _ _,zq4 _ _⟩;generalize (xB.alloc (.cells #[.slice (some ⟨abB,0,none⟩) 2 2,.slice opB olB ocB,.slice spB slB scB,.bool stkB] 31))=yB at HTB ⊢;obtain⟨tB,htB⟩:∃t,xB.heap.size=t:=⟨_,rfl⟩;rw[htB]at HTB ⊢;have HXB:=Lib.hid htB;clear htB;have HBB:RowKit.Hid (Beyond w yB):=Lib.hid ((((HBA.out.trans HFB.out.2.2.2.1).trans HWB.out.1).trans ⟨HSB.out.size,HSB.out.old⟩).trans HTB.out.2.1);have HQ:RowKit.Hid (Beyond xA yB/\yB.heap[tA]?=some (.cells #[.slice (some ⟨abA,0,none⟩) 2 2,.slice opA olA ocA,.slice spA slA scA,.bool stkA] 31)/\Beyond xB yB/\yB.heap[tB]?=some (.cells #[.slice (some ⟨abB,0,none⟩) 2 2,.slice opB olB ocB,.slice spB slB scB,.bool stkB] 31)):=by
  have q:Beyond yA yB:=((HFB.out.2.2.2.1.trans HWB.out.1).trans ⟨HSB.out.size,HSB.out.old⟩).trans HTB.out.2.1;exact Lib.hid ⟨HTA.out.2.1.trans q,q.heap HTA.out.1,HTB.out.2.1,HTB.out.1⟩
 have HBy:RowKit.Hid (Beyond w yB):=Lib.hid HBB.out;have qA:Beyond xA yB:=HQ.out.1;have qB:Beyond xB yB:=HQ.out.2.2.1;have hA1:=ansRep_at HSA.out.ans (i:=0) (by decide);have hB1:=ansRep_at HSB.out.ans (i:=0) (by decide);rw[HSA.out.ast,fx_sum]at hA1;rw[HSB.out.ast,fx_even]at hB1;obtain⟨a1,pa,ca,a2,a3⟩:=hA1;obtain⟨b1,pb,cb,b2,b3⟩:=hB1;obtain⟨ga,oa,rfl,a4⟩:=a3 (by simp);obtain⟨gb,ob',rfl,b4⟩:=b3 (by simp);obtain⟨a5,a6,_⟩:=a4 0 _ rfl;obtain⟨b5,b6,_⟩:=b4 0 _ rfl;rw[a2]at a1;rw[b2]at b1;have tA0:=(zq0 (off:=0) HQ.out.2.1).trans rfl;have tB0:=(zq0 (off:=0) HQ.out.2.2.2).trans rfl;replace a1:=qA.cell a1;replace a5:=qA.cell a5;replace a6:=qA.cell a6;replace b1:=qB.cell b1;replace b5:=qB.cell b5;replace b6:=qB.cell b6;simp only[List.length_cons,List.length_nil,Nat.zero_add,Nat.zero_mul,Nat.add_zero]at a1 b1 a5 a6 b5 b6;clear qA qB a2 b2 a3 b3 a4 b4 HQ HBB HSA HSB HTA HTB HXA HXB HFA HFB HWA HWB HIA HIB HBA HB0;rw[show fxT 5=.seq (headC (fxT 5)) (.seq (headC (fxT 6)) (.seq (headC (fxT 7)) (fxT 8)))by kernel_rfl];refine hJ.ctl (s:=n+2+2) (λw=>stepG_seq) ?_;have FA:=Lib.hid (And.intro a1 (And.intro a5 (And.intro a6 (And.intro b1 (And.intro b5 (And.intro b6 (And.intro tA0 tB0)))))));clear a1 a5 a6 b1 b5 b6 tA0 tB0;refine zq12 hJ hC zqo (by kernel_rfl) (λt w'=>t=#[.bool false,.slice (some ⟨H,0,none⟩) 2 2,.slice (some ⟨H+1,0,none⟩) 2 2,.pointer (some ⟨tA,0,none⟩),.pointer (some ⟨tB,0,none⟩),undef,.slice (some ⟨H,0,none⟩) 2 2,.agg #[.int .i64 1,.int .i64 0,.int .i64 1,.int .i64 0],.agg #[.int .i64 1,.int .i64 1,.int .i64 1,.int .i64 0],.slice (some ⟨H+1,0,none⟩) 2 2,.slice (some ⟨H,0,none⟩) 2 2,.agg #[.int .i64 2,.int .i64 0,.int .i64 0,.int .i64 0],.slice (some ⟨(H+2),0,none⟩) 1 1,.slice (some ⟨H+1,0,none⟩) 2 2,.slice (some ⟨(H+2)+1,0,none⟩) 2 2,.slice (some ⟨(H+2)+1+1,0,none⟩) 4 4,.agg #[.slice (some ⟨abA,0,none⟩) 2 2,.slice opA olA ocA,.slice spA slA scA,.bool stkA],.slice (some ⟨H,0,none⟩) 2 2,.agg #[.int .i64 5,.int .i64 0,.int .i64 0,.int .i64 0],.slice (some ⟨(tA+1),0,none⟩) 1 1,.slice (some ⟨H+1,0,none⟩) 2 2,.slice (some ⟨(tA+1)+1,0,none⟩) 2 2,.slice (some ⟨(tA+1)+1+1,0,none⟩) 5 5,.agg #[.slice (some ⟨abB,0,none⟩) 2 2,.slice opB olB ocB,.slice spB slB scB,.bool stkB],.pointer (some ⟨tA,0,none⟩),.slice (some ⟨abA,0,none⟩) 2 2,.int .i64 2,.bool false,.bool false,.pointer (some ⟨tA,0,none⟩),.slice (some ⟨abA,0,none⟩) 2 2,.pointer (some ⟨abA,0,none⟩),.slice (some ⟨ga,oa,none⟩) 1 ca,.int .i64 1,.bool false,.bool false,.bool false,.pointer (some ⟨tA,0,none⟩),.slice (some ⟨abA,0,none⟩) 2 2,.pointer (some ⟨abA,0,none⟩),.slice (some ⟨ga,oa,none⟩) 1 ca,.pointer (some ⟨ga,oa,none⟩),.pointer (some ⟨ga,oa+1,none⟩),.int .i64 1,.bool false,.bool false,.bool false,.pointer (some ⟨tB,0,none⟩),.slice (some ⟨abB,0,none⟩) 2 2,.int .i64 2,.bool false,.bool false,.bool false,.pointer (some ⟨tB,0,none⟩),.slice (some ⟨abB,0,none⟩) 2 2,.pointer (some ⟨abB,0,none⟩),.slice (some ⟨gb,ob',none⟩) 1 cb,.int .i64 1,.bool false,.bool false,.bool false,.pointer (some ⟨tB,0,none⟩),.slice (some ⟨abB,0,none⟩) 2 2,.pointer (some ⟨abB,0,none⟩),.slice (some ⟨gb,ob',none⟩) 1 cb,.pointer (some ⟨gb,ob',none⟩),.pointer (some ⟨gb,ob',none⟩),.bool false,.bool false,.bool false,.pointer (some ⟨tB,0,none⟩),.slice (some ⟨abB,0,none⟩) 2 2,.pointer (some ⟨abB,0,none⟩),.slice (some ⟨gb,ob',none⟩) 1 cb,.pointer (some ⟨gb,ob',none⟩),.pointer (some ⟨gb,ob'+1,none⟩),.int .i64 0,.bool false,.bool false,undef,undef,undef,undef,undef,undef,undef,undef,undef,undef,undef,undef,undef,undef,undef,undef,undef,undef,undef,undef,undef,undef,undef,undef,undef,undef,undef,undef]/\∃τ d,w'=re yB τ d) (λt w' τ d h=>⟨h.1,by obtain⟨τ',d',rfl⟩:=h.2;exact⟨τ,d,by rw[re_re]⟩⟩) (by decide) (λτ d=>?_) ?_
 · obtain⟨u0,hu0⟩:∃c,headC (fxT 5)=c:=⟨_,rfl⟩;have eu0:=hu0;rw[hu0];simp only[fxT,headC,tailN,Try.f8,al_od]at eu0;subst eu0;clear hu0 hm;obtain⟨a1,a5,a6,b1,b5,b6,tA0,tB0⟩:=FA.out;have HRE:RowKit.Hid (∃τ' d',re yB τ d=re yB τ' d'):=Lib.hid ⟨τ,d,rfl⟩;have hcl:∀a,(re yB τ d).cell? a=yB.cell? a:=λa=>rfl;rw[←hcl]at a1 a5 a6 b1 b5 b6 tA0 tB0;clear hcl FA;generalize re yB τ d=z0 at HRE a1 a5 a6 b1 b5 b6 tA0 tB0 ⊢;go_wp2;exact⟨rfl,rfl,HRE.out⟩
 rintro t w' ⟨rfl,τ,d,rfl⟩;refine hJ.re' (n+2+2) _ _ τ d ?_;clear FA;obtain⟨K,hK⟩:∃K,yB.heap.size=K:=⟨_,rfl⟩;have HK:=Lib.hid hK;clear hK;refine hJ.ctl (s:=n+2+2) (λw=>stepG_seq) ?_;refine zq12 hJ hC zqo (by kernel_rfl) (λt w'=>t=#[.bool false,.slice (some ⟨H,0,none⟩) 2 2,.slice (some ⟨H+1,0,none⟩) 2 2,.pointer (some ⟨tA,0,none⟩),.pointer (some ⟨tB,0,none⟩),.pointer (some ⟨K+1,0,none⟩),.slice (some ⟨H,0,none⟩) 2 2,.agg #[.int .i64 1,.int .i64 0,.int .i64 1,.int .i64 0],.agg #[.int .i64 1,.int .i64 1,.int .i64 1,.int .i64 0],.slice (some ⟨H+1,0,none⟩) 2 2,.slice (some ⟨H,0,none⟩) 2 2,.agg #[.int .i64 2,.int .i64 0,.int .i64 0,.int .i64 0],.slice (some ⟨(H+2),0,none⟩) 1 1,.slice (some ⟨H+1,0,none⟩) 2 2,.slice (some ⟨(H+2)+1,0,none⟩) 2 2,.slice (some ⟨(H+2)+1+1,0,none⟩) 4 4,.agg #[.slice (some ⟨abA,0,none⟩) 2 2,.slice opA olA ocA,.slice spA slA scA,.bool stkA],.slice (some ⟨H,0,none⟩) 2 2,.agg #[.int .i64 5,.int .i64 0,.int .i64 0,.int .i64 0],.slice (some ⟨(tA+1),0,none⟩) 1 1,.slice (some ⟨H+1,0,none⟩) 2 2,.slice (some ⟨(tA+1)+1,0,none⟩) 2 2,.slice (some ⟨(tA+1)+1+1,0,none⟩) 5 5,.agg #[.slice (some ⟨abB,0,none⟩) 2 2,.slice opB olB ocB,.slice spB slB scB,.bool stkB],.pointer (some ⟨tA,0,none⟩),.slice (some ⟨abA,0,none⟩) 2 2,.int .i64 2,.bool false,.bool false,.pointer (some ⟨tA,0,none⟩),.slice (some ⟨abA,0,none⟩) 2 2,.pointer (some ⟨abA,0,none⟩),.slice (some ⟨ga,oa,none⟩) 1 ca,.int .i64 1,.bool false,.bool false,.bool false,.pointer (some ⟨tA,0,none⟩),.slice (some ⟨abA,0,none⟩) 2 2,.pointer (some ⟨abA,0,none⟩),.slice (some ⟨ga,oa,none⟩) 1 ca,.pointer (some ⟨ga,oa,none⟩),.pointer (some ⟨ga,oa+1,none⟩),.int .i64 1,.bool false,.bool false,.bool false,.pointer (some ⟨tB,0,none⟩),.slice (some ⟨abB,0,none⟩) 2 2,.int .i64 2,.bool false,.bool false,.bool false,.pointer (some ⟨tB,0,none⟩),.slice (some ⟨abB,0,none⟩) 2 2,.pointer (some ⟨abB,0,none⟩),.slice (some ⟨gb,ob',none⟩) 1 cb,.int .i64 1,.bool false,.bool false,.bool false,.pointer (some ⟨tB,0,none⟩),.slice (some ⟨abB,0,none⟩) 2 2,.pointer (some ⟨abB,0,none⟩),.slice (some ⟨gb,ob',none⟩) 1 cb,.pointer (some ⟨gb,ob',none⟩),.pointer (some ⟨gb,ob',none⟩),.bool false,.bool false,.bool false,.pointer (some ⟨tB,0,none⟩),.slice (some ⟨abB,0,none⟩) 2 2,.pointer (some ⟨abB,0,none⟩),.slice (some ⟨gb,ob',none⟩) 1 cb,.pointer (some ⟨gb,ob',none⟩),.pointer (some ⟨gb,ob'+1,none⟩),.int .i64 0,.bool false,.bool false,.pointer (some ⟨K+1,0,none⟩),undef,undef,undef,undef,undef,undef,undef,undef,undef,undef,undef,undef,undef,undef,undef,undef,undef,undef,undef,undef,undef,undef,undef,undef,undef,undef,undef]/\NewStr yB 2 [0,0] w') (λt w' τ d h=>⟨h.1,h.2.re τ d⟩) (by decide) (λτ d=>?_) ?_
 · obtain⟨u0,hu0⟩:∃c,headC (fxT 6)=c:=⟨_,rfl⟩;have eu0:=hu0;rw[hu0];simp only[fxT,headC,tailN,Try.f8,al_od]at eu0;subst eu0;clear hu0 hm;have HN:=Lib.hid (new_lone 2 (re yB τ d));have hs0:(re yB τ d).heap.size=K:=HK.out;have HS0:=Lib.hid hs0;clear hs0
   go_wp2_with (fail)
   refine Calls.mono HN.out ?_;rintro e w' ⟨rfl,hR⟩;have hR2:RowKit.Hid (NewStr yB 2 [0,0] w'):=Lib.hid ⟨hR.rep,hR.size,hR.old⟩;clear hR;rw[HS0.out];go_wp2;exact⟨rfl,rfl,hR2.out⟩
 rintro t c0 ⟨rfl,hR⟩;have hrep:=hR.rep;rw[HK.out]at hrep;have HB1:RowKit.Hid (Beyond w c0):=Lib.hid (HBy.out.trans ⟨by have:=hR.size;omega,hR.old⟩);have HC0:RowKit.Hid (StrRep (K+1) (some K) 2 [0,0] c0):=Lib.hid hrep;have HBw:=HBy;clear hR hrep HBy;refine hJ.ctl (s:=n+2+2) (λw=>stepG_seq) ?_;obtain⟨u7,hu7⟩:∃c,headC (fxT 7)=c:=⟨_,rfl⟩;have eu7:=hu7;rw[hu7];simp only[fxT,headC,tailN,Try.f8,al_od]at eu7;subst eu7;clear hu7;refine hJ.ctl (s:=n+2+2) (λw=>stepG_region) ?_;have HKW:RowKit.Hid (w.heap.size<=K):=Lib.hid (by have h1:=HBw.out.1;have h2:=HK.out;omega);refine zqg (s:=n+2+2) (by decide) hJ (zqd _) false (.inr rfl) 0 4 24 rfl rfl rfl (by rfl) ?_;intro τ d;simp only[List.drop_succ_cons,List.drop_zero,List.take_succ_cons,List.take_zero];go_wp2;simp only[zq6];refine hJ.re' (n+2+2) _ _ τ d ?_;refine zqz (by decide) hJ (s:=n+2+2) rfl rfl (f:=21) (args:=#[.pointer (some ⟨K+1,0,none⟩),.nilIface,.int .i64 0,.int .i64 5]) (λτ d=>?_) (λτ d=>?_) ?_
 · simp[go_sem,execOp,Act.eval,resolve,Deferred.ofValue,invoke,callFunc,Try.func21,Try.f21]
 · intro e he;simp[go_sem,execOp,Act.eval,resolve,Deferred.ofValue,invoke,callFunc,Try.func21,Try.f21,Sem.runT_eq]at he
 refine str_nilJ hFin (p:=addP 2 0 5) (l:=[0,0]) (l':=[5,0]) (a:=5) (λY hst=>(add_spec Y hst 0 5).spec) (by kernel_rfl) (by kernel_rfl) HC0.out ?_;intro c1 hA;have HC1:=Lib.hid hA.rep;have HB2:RowKit.Hid (Beyond w c1):=Lib.hid ⟨Nat.le_trans HB1.out.1 hA.size,λb hb=>(hA.old b (Nat.lt_of_lt_of_le hb HB1.out.1) (by have h1:=HKW.out;omega) (λe=>by have h1:=HKW.out;injection e with e;omega)).trans (HB1.out.2 b hb)⟩;clear hA;rw[Frame.finish_at]
 walk_nrm
 refine zqg (s:=n+2+2) (by decide) hJ (zqd _) false (.inr rfl) 5 4 19 rfl rfl rfl (by rfl) ?_;intro τ d;simp only[List.drop_succ_cons,List.drop_zero,List.take_succ_cons,List.take_zero];go_wp2;simp only[zq6];refine hJ.re' (n+2+2) _ _ τ d ?_;refine zqz (by decide) hJ (s:=n+2+2) rfl rfl (f:=21) (args:=#[.pointer (some ⟨K+1,0,none⟩),.nilIface,.int .i64 3,.int .i64 7]) (λτ d=>?_) (λτ d=>?_) ?_
 · simp[go_sem,execOp,Act.eval,resolve,Deferred.ofValue,invoke,callFunc,Try.func21,Try.f21]
 · intro e he;simp[go_sem,execOp,Act.eval,resolve,Deferred.ofValue,invoke,callFunc,Try.func21,Try.f21,Sem.runT_eq]at he
 refine str_nilJ hFin (p:=addP 2 3 7) (l:=[5,0]) (l':=[5,7]) (a:=7) (λY hst=>(add_spec Y hst 3 7).spec) (by kernel_rfl) (by kernel_rfl) HC1.out ?_;intro c2 hA;have HC2:=Lib.hid hA.rep;have HB3:RowKit.Hid (Beyond w c2):=Lib.hid ⟨Nat.le_trans HB2.out.1 hA.size,λb hb=>(hA.old b (Nat.lt_of_lt_of_le hb HB2.out.1) (by have h1:=HKW.out;omega) (λe=>by have h1:=HKW.out;injection e with e;omega)).trans (HB2.out.2 b hb)⟩;clear hA;rw[Frame.finish_at]
 walk_nrm
 refine zqg (s:=n+2+2) (by decide) hJ (zqd _) false (.inr rfl) 10 4 14 rfl rfl rfl (by rfl) ?_;intro τ d;simp only[List.drop_succ_cons,List.drop_zero,List.take_succ_cons,List.take_zero];go_wp2;simp only[zq6];refine hJ.re' (n+2+2) _ _ τ d ?_;refine zqz (by decide) hJ (s:=n+2+2) rfl rfl (f:=18) (args:=#[.pointer (some ⟨K+1,0,none⟩)]) (λτ d=>?_) (λτ d=>?_) ?_
 · simp[go_sem,execOp,Act.eval,resolve,Deferred.ofValue,invoke,callFunc,Try.func18,Try.f18]
 · intro e he;simp[go_sem,execOp,Act.eval,resolve,Deferred.ofValue,invoke,callFunc,Try.func18,Try.f18,Sem.runT_eq]at he
 refine zq2i hJ hC zqo Try.func18 rfl (by kernel_rfl) (R:=λv w'=>v=.int .i64 12/\Beyond c2 w') (λv w' τ d h=>⟨h.1,h.2.trans (Beyond.re _ _ _)⟩) (λτ d=>Calls.mono (total_lone ((zqj _ _ _).frame _ _ _ HC2.out λ_ _=>rfl)) ?_) ?_
 · rintro e w' ⟨rfl,h1,h2⟩;exact⟨_,rfl,by rw[show totalL [5,7]=12 by kernel_rfl],h1,h2⟩
 rintro _ c3 ⟨rfl,hA⟩;have HC3:RowKit.Hid (StrRep (K+1) (some K) 2 [5,7] c3):=Lib.hid ((zqj _ _ _).frame _ _ _ HC2.out λb hb=>hA.2 b ((zqj _ _ _).lt _ _ _ HC2.out hb));have HB4:RowKit.Hid (Beyond w c3):=Lib.hid (HB3.out.trans hA);clear hA;rw[Frame.finish_at]
 walk_nrm
 refine zqg (s:=n+2+2) (by decide) hJ (zqd _) false (.inr rfl) 15 4 9 rfl rfl rfl (by rfl) ?_;intro τ d;simp only[List.drop_succ_cons,List.drop_zero,List.take_succ_cons,List.take_zero];go_wp2;simp only[zq6];refine hJ.re' (n+2+2) _ _ τ d ?_;refine zqz (by decide) hJ (s:=n+2+2) rfl rfl (f:=23) (args:=#[.pointer (some ⟨K+1,0,none⟩),.nilIface]) (λτ d=>?_) (λτ d=>?_) ?_
 · simp[go_sem,execOp,Act.eval,resolve,Deferred.ofValue,invoke,callFunc,Try.func23,Try.f23]
 · intro e he;simp[go_sem,execOp,Act.eval,resolve,Deferred.ofValue,invoke,callFunc,Try.func23,Try.f23,Sem.runT_eq]at he
 refine str_nilJ hFin (p:=takeP 2) (l:=[5,7]) (l':=[0,0]) (a:=12) (λY hst=>(take_spec Y hst).spec) (by kernel_rfl) (by kernel_rfl) HC3.out ?_;intro c4 hA;have HC4:=Lib.hid hA.rep;have HB5:RowKit.Hid (Beyond w c4):=Lib.hid ⟨Nat.le_trans HB4.out.1 hA.size,λb hb=>(hA.old b (Nat.lt_of_lt_of_le hb HB4.out.1) (by have h1:=HKW.out;omega) (λe=>by have h1:=HKW.out;injection e with e;omega)).trans (HB4.out.2 b hb)⟩;clear hA;rw[Frame.finish_at]
 walk_nrm
 refine zqg (s:=n+2+2) (by decide) hJ (zqd _) false (.inr rfl) 20 4 4 rfl rfl rfl (by rfl) ?_;intro τ d;simp only[List.drop_succ_cons,List.drop_zero,List.take_succ_cons,List.take_zero];go_wp2;simp only[zq6];refine hJ.re' (n+2+2) _ _ τ d ?_;refine zqz (by decide) hJ (s:=n+2+2) rfl rfl (f:=18) (args:=#[.pointer (some ⟨K+1,0,none⟩)]) (λτ d=>?_) (λτ d=>?_) ?_
 · simp[go_sem,execOp,Act.eval,resolve,Deferred.ofValue,invoke,callFunc,Try.func18,Try.f18]
 · intro e he;simp[go_sem,execOp,Act.eval,resolve,Deferred.ofValue,invoke,callFunc,Try.func18,Try.f18,Sem.runT_eq]at he
 refine zq2i hJ hC zqo Try.func18 rfl (by kernel_rfl) (R:=λv w'=>v=.int .i64 0/\Beyond c4 w') (λv w' τ d h=>⟨h.1,h.2.trans (Beyond.re _ _ _)⟩) (λτ d=>Calls.mono (total_lone ((zqj _ _ _).frame _ _ _ HC4.out λ_ _=>rfl)) ?_) ?_
 · rintro e w' ⟨rfl,h1,h2⟩;exact⟨_,rfl,by rw[show totalL [0,0]=0 by kernel_rfl],h1,h2⟩
 rintro _ c5 ⟨rfl,hA⟩;have HC5:RowKit.Hid (StrRep (K+1) (some K) 2 [0,0] c5):=Lib.hid ((zqj _ _ _).frame _ _ _ HC4.out λb hb=>hA.2 b ((zqj _ _ _).lt _ _ _ HC4.out hb));have HB6:RowKit.Hid (Beyond w c5):=Lib.hid (HB5.out.trans hA);clear hA;rw[Frame.finish_at]
 walk_nrm
 refine zqg (s:=n+2+2) (by decide) hJ (zqd _) false (.inr rfl) 25 3 0 rfl rfl rfl (by rfl) ?_;intro τ d;simp only[List.drop_succ_cons,List.drop_zero,List.take_succ_cons,List.take_zero];go_wp2;simp only[zq6];refine hJ.re' (n+2+2) _ _ τ d ?_;refine hJ.ctl (s:=n+2+2) (λw=>stepG_region_end) ?_;refine zq2t hJ hC zqo (by kernel_rfl) (λv w'=>v=.bool true/\Beyond w w') (λv w' τ d h=>⟨h.1,h.2.trans (Beyond.re _ _ _)⟩) rfl Try.func8 (λτ d=>?_) ?_
 · obtain⟨u0,hu0⟩:∃c,fxT 8=c:=⟨_,rfl⟩;have eu0:=hu0;rw[hu0];simp only[fxT,headC,tailN,Try.f8,al_od]at eu0;subst eu0;clear hu0 hm;go_wp2;go_ret;exact⟨_,rfl,rfl,HB6.out.trans (Beyond.re _ _ _)⟩
 · rintro v w' ⟨rfl,h⟩;exact hm.out w' h
end Go.Proofs
set_option maxHeartbeats 1000000
namespace Go.Car
open Go Go.Conc Go.RowKit
theorem hao (w : World) (o : Obj) (b : Nat) (h : b < w.heap.size) : (w.alloc o).heap[b]? = w.heap[b]? := by first | exact heap_alloc_old w o b h | exact heap_alloc_old w o h
structure Wr(X:Nat->Prop)(w w':World):Prop where
 size:w.heap.size<=w'.heap.size
 shp:∀(b:Nat)(c:Array Value)(T:TypeId),w.heap[b]?=some (.cells c T)->∃c',w'.heap[b]?=some (.cells c' T)/\c'.size=c.size
 old:∀b,b<w.heap.size->¬X b->w'.heap[b]?=w.heap[b]?
section
variable {X:Nat->Prop} {w w' w'':World}
theorem Wr.refl (X:Nat->Prop)(w:World):Wr X w w:=⟨Nat.le_refl _,λb c T h=>⟨c,h,rfl⟩,λ_ _ _=>rfl⟩
theorem Wr.trans (h:Wr X w w')(k:Wr X w' w''):Wr X w w'':=⟨Nat.le_trans h.size k.size,λb c T hb=>by
 obtain⟨c1,h1,h2⟩:=h.shp b c T hb;obtain⟨c2,h3,h4⟩:=k.shp b c1 T h1;exact⟨c2,h3,h4.trans h2⟩,λb hb hx=>(k.old b (Nat.lt_of_lt_of_le hb h.size) hx).trans (h.old b hb hx)⟩
theorem Wr.mono {Y:Nat->Prop}(h:Wr X w w')(hxy:∀b,X b->Y b):Wr Y w w':=⟨h.size,h.shp,λb hb hy=>h.old b hb λhx=>hy (hxy b hx)⟩
theorem Wr.drew (X:Nat->Prop)(w:World)(n:Nat):Wr X w (w.drewN n):=⟨Nat.le_refl _,λb c T h=>⟨c,h,rfl⟩,λ_ _ _=>rfl⟩
theorem Wr.re (X:Nat->Prop)(w:World)(τ:Nat->Question->Nat)(d:Nat):Wr X w (Go.Car.re w τ d):=⟨Nat.le_refl _,λb c T h=>⟨c,h,rfl⟩,λ_ _ _=>rfl⟩
theorem Wr.set (w:World){g o:Nat}(v:Value)(hX:X g):Wr X w (w.setCell ⟨g,o,none⟩ v):=by
 refine⟨by rw[zqv];exact Nat.le_refl _,λb c T h=>?_,λb hb hx=>zq7 _ _ _ _ λe=>hx (by rw[show b=g from e];exact hX)⟩
 by_cases e:b=g
 · subst e;exact⟨_,zqc _ _ _ _ h,by simp⟩
 · exact⟨c,by rw[zq7 _ _ _ _ e];exact h,rfl⟩
end
def RowZ(w:World)(T:TypeId)(k:Nat)(v:Value)(n:Nat):Prop:=∃xs,w.ownsRow 0 T k v n xs
theorem RowZ.wr {X:Nat->Prop}{w w':World}{T:TypeId}{k n:Nat}{v:Value}(h:RowZ w T k v n)(hw:Wr X w w'):RowZ w' T k v n:=by
 obtain⟨xs,h1,h2⟩:=h;rcases h2 with⟨a,b⟩|⟨g,cap,cur,hv,_,hh,hn,hm,hs,ht⟩
 · exact⟨xs,h1,.inl ⟨a,b⟩⟩
 · obtain⟨c',h3,h4⟩:=hw.shp g cur T hh;refine⟨c'.toList.take (n*k),?_,.inr ⟨g,cap,c',hv,Nat.zero_le _,h3,hn,hm,by rw[h4,hs],rfl⟩⟩;rw[List.length_take,Array.length_toList,h4,hs,Nat.min_eq_left (Nat.mul_le_mul_right _ hn)]
theorem RowZ.of {w:World}{B:Nat}{T:TypeId}{k n:Nat}{v:Value}{xs:List Value}(h:w.ownsRow B T k v n xs):RowZ w T k v n:=⟨xs,zq29 h (Nat.zero_le _)⟩
theorem RowZ.form {w:World}{T:TypeId}{k n:Nat}{v:Value}(h:RowZ w T k v n):∃p C,v=.slice p n C/\(p=none->n=0/\C=0)/\∀a,p=some a->∃g c,a=⟨g,0,none⟩/\v.ownBlock=some g/\w.heap[g]?=some (.cells c T)/\n*k<=c.size:=by
 obtain⟨xs,h1,h2⟩:=h;rcases h2 with⟨a,b⟩|⟨g,cap,cur,hv,_,hh,hn,hm,hs,ht⟩
 · subst b;exact⟨none,0,a,λ_=>⟨rfl,rfl⟩,λa h=>(by cases h)⟩
 · exact⟨_,cap,hv,λh=>(by cases h),λa h=>by cases h;exact⟨g,cur,rfl,by rw[hv];rfl,hh,by rw[hs];exact Nat.mul_le_mul_right _ hn⟩⟩
section
variable {P:Program}
theorem app_wr(w:World)(t ty e:TypeId)(i:TypeInfo)(z:Value)(size bytes:Nat)(ht:P.underlying t=some (.slice e))(hi:P.info? e=some i)(hz:i.zero=some z)(hsize:i.size=size)(hby:i.bytes=bytes)(hzs:z.cells.size=size)(hsz:0<size)
 {v:Value} {n:Nat} {xs:List Value} {B:Nat} (hown:w.ownsRow B e size v n xs) (hB:B<=w.heap.size) (pa:Option Addr) (m c:Nat) (news:List Value) (hl:news.length=m*size) (hnews:0<m->∃a,pa=some a/\∀j u,news[j]?=some u->w.cell? (a.add j)=some u) (h1:∀u∈news,u.oneCell'=true)
 (h63:n+m<=maxLen) (hbytes:(n+m)*bytes<=140737488355328):
 ∃v' w',(Builtin.append_ #[t,t] ty #[v,.slice pa m c]).run P w=.ok v' w'/\w'.ownsRow B e size v' (n+m) (xs++news)/\Wr (λb=>v.ownBlock=some b) w w'/\(v'.ownBlock=v.ownBlock\/v'.ownBlock=some w.heap.size)/\
  (∀g o,v.ownBlock=some g->o<n*size->w'.cell? ⟨g,o,none⟩=w.cell? ⟨g,o,none⟩)/\(m=0->w'=w/\v'=v):=by
 subst hsize;subst hby
 have hsmall:n+m<=9223372036854775807:=by simp only[maxLen]at h63;omega
 by_cases hm:m=0
 · subst hm;have hn:news=[]:=List.eq_nil_of_length_eq_zero (by simpa using hl);subst hn;refine⟨v,w,?_,by simpa using hown,Wr.refl _ _,.inl rfl,λ_ _ _ _=>rfl,λ_=>⟨rfl,rfl⟩⟩;rcases hown.2 with⟨rfl,rfl⟩|⟨g,cap,cur,rfl,hbg,hg,hnc,hcm,hcs,htake⟩
   · cases pa<;>simp[Builtin.append_,run_underlying ht,sizeOf,typeInfo,hi,Builtin.lenOf,Builtin.firstCells,loadCells,loadCellsFrom,storeCells]
   · cases pa<;>simp[Builtin.append_,run_underlying ht,sizeOf,typeInfo,hi,Builtin.lenOf,Builtin.firstCells,loadCells,loadCellsFrom,storeCells,hnc]
 · obtain⟨a,rfl,hnw⟩:=hnews (Nat.pos_of_ne_zero hm);clear hnews;rcases hown.2 with⟨rfl,rfl⟩|⟨g,cap,cur,rfl,hbg,hg,hnc,hcm,hcs,htake⟩
   · obtain⟨g,cap,w',hr,h2,h3,h4,_⟩:=run_append_lies (P:=P) w t ty B e i z i.size i.bytes ht hi hz rfl rfl hzs hsz _ 0 xs hown a m c news hl hnw h1 (Nat.pos_of_ne_zero hm) h63 hbytes hB _ rfl;have same:∀b,b<w.heap.size->w'.heap[b]?=w.heap[b]?:=λb hb=>h3.block b hb (by simp[Value.ownBlock]);refine⟨_,_,hr,h2,⟨h3.size,λb c T hb=>⟨c,(same b (zq3 hb)).trans hb,rfl⟩,λb hb _=>same b hb⟩,?_,λg o h=>(by simp[Value.ownBlock]at h),λh=>absurd h hm⟩;rcases h4 with h|h
     · simp[Value.ownBlock]at h
     · exact .inr (by simp[Value.ownBlock,h])
   · have hlen:(xs++news).length=(n+m)*i.size:=by rw[List.length_append,hown.1,hl,Nat.add_mul]
     by_cases hroom:n+m<=cap
     · have hfit:n*i.size+news.length<=cur.size:=by rw[hl,hcs,←Nat.add_mul];exact Nat.mul_le_mul_right _ hroom
       have hr:=run_append_room (P:=P) w t ty e i ht hi g n cap cur hg a m c news hl hnw h1 hroom hfit;have hsz2:(cur.toList.take (n*i.size)++news++cur.toList.drop (n*i.size+news.length)).toArray.size=cur.size:=by
        simp only[List.size_toArray,List.length_append,List.length_take,List.length_drop,Array.length_toList];omega
       have hh:=setRow_heap w g cur (cur.toList.take (n*i.size)++news++cur.toList.drop (n*i.size+news.length)).toArray e (0,0) hg;refine⟨_,_,hr,⟨hlen,.inr ⟨g,cap,_,rfl,hbg,hh,hroom,hcm,by rw[hsz2,hcs],?_⟩⟩,⟨by simp,λb c T hb=>?_,λb _ hx=>setRow_other w g b _ (λe=>hx (by simp[Value.ownBlock,e]))⟩,.inl rfl,λg2 o h ho=>?_,λh=>absurd h hm⟩
       · rw[htake,←hlen];exact List.take_left
       · by_cases e2:b=g
         · subst e2;have:=hg.symm.trans hb;simp only[al_oi,Obj.cells.injEq]at this;obtain⟨rfl,rfl,-⟩:=this;exact⟨_,hh,hsz2⟩
         · exact⟨c,(setRow_other w g b _ e2).trans hb,rfl⟩
       · simp only[Value.ownBlock,al_oi]at h;subst h;rw[zq0 hg];rw[zq0 hh,al_gl,List.append_assoc,List.getElem?_append_left (by rw[List.length_take,Array.length_toList];omega),List.getElem?_take,if_pos ho,Array.getElem?_toList]
     · have holds:∀j u,xs[j]?=some u->w.cell? ((⟨g,0,none⟩:Addr).add j)=some u:=hown.cells (g:=g) rfl;have hr:=run_append_grow (P:=P) w t ty e i z ht hi hz ⟨g,0,none⟩ n cap xs hown.1 holds a m c news hl hnw (by omega) (by omega) (growslice_fits (by omega) hbytes);have hge:=grownCap_ge w (n+m) cap e;have hcm':grownCap w (n+m) cap e<=maxLen:=grownCap_le_maxLen w (n+m) cap e h63;refine⟨_,_,hr,⟨hlen,.inr ⟨w.heap.size,_,_,rfl,hB,heap_alloc_new w.drew _,hge,hcm',?_,?_⟩⟩,⟨by simp,λb c T hb=>⟨c,(hao w.drew _ b (zq3 hb)).trans hb,rfl⟩,λb hb _=>hao w.drew _ b hb⟩,.inr rfl,λg2 o h _=>?_,λh=>absurd h hm⟩
       · simp only[Array.size_append,List.size_toArray,size_zeroCells,hzs,hown.1,hl,←Nat.add_mul];congr 1;omega
       · simp only[Array.toList_append,List.append_assoc];rw[←List.append_assoc,←hlen];exact List.take_left
       · simp only[Value.ownBlock,al_oi]at h;subst h;exact zql (hao w.drew _ g (zq3 hg))
theorem zq20{ops:Array Oper}{rest:List Oper}{o:Oper}{a:Act}{Q:Exit->Act->World->Prop}{w w':World}{v:Value}(hgd:o.guard=none)(s x:Operand)(t:TypeId)
 (ho:o.op=.call {callee:=.builtin .append,args:=#[s,x],argTypes:=#[t,t]}) (hr:(Builtin.append_ #[t,t] o.type #[a.eval s,a.eval x]).run P w=.ok v w') (h:wpList P ops Q rest (a.put o.dst v) w'):wpList P ops Q (o::rest) a w:=
 wpList_plain hgd λ_ hK=>by
  unfold Oper.wp execOp;simp only[ho,resolve,invoke,builtin,Sem.run_bind,Sem.run_pure,Result.andThen_ok,List.map_toArray,List.map_cons,List.map_nil,hr];exact hK _ _ h
end
end Go.Car
set_option maxHeartbeats 1000000
namespace Go.Car
open Go Go.Conc Go.RowKit
open Go.ConcN (upd upd_ne upd_same)
def chkGd(ops:Array Oper)(n:Nat):Bool:=
 (List.range ops.size).all (λi=>match ops[i]? with
  |some o=>match o.dst with|some d=>decide (d<n)|none=>true
  |none=>false)&&
 (List.range ops.size).all (λi=>(List.range i).all λj=>(dstOf ops i).isNone || dstOf ops i !=dstOf ops j)
section
variable {P:Program} {main:Bool} {γ:Type} {J:γ->Goroutine->World->Prop}
theorem at_drawsG(hJ:JS P main (λ_=>none) J){b:Frame}{k:List Item}{cs:List Frame}(hb:b.kind≠.early)(hm:P.follows .mixedOrders=true){id:Nat}{ops:Array Oper}{T₀:Array Value}{ds:List Deferred}{s:γ}{w:World}(hback:backOkJ ops=true)(hchk:chkGd ops T₀.size=true)
 (W:γ->(Nat->Bool)->List Value->World->Prop) (hWre:∀s L v w τ d,W s L v w->W s L v (re w τ d)) (v₀:List Value) (hv₀:v₀.length=ops.size) (hW:W s (λ_=>false) v₀ w)
 (hstep:∀(s:γ)(L:Nat->Bool)(vals:List Value)(T:Array Value)(w:World)(i:Nat)(o:Oper),vals.length=ops.size->W s L vals w->L i=false->ops[i]?=some o->(∀e∈o.after,Region.binds .any e=true->L e.on=true)->
  (∀j t,dstOf ops j=some t->L j=true->T[t]?=vals[j]?)->(∀t,noD ops t=true->T[t]?=T₀[t]?)->
  Region.wanted o (yielded ops T)=true/\DrawX P J s T o w (λs' v w'=>W s' (upd L i true) (vals.set i v) w') (λw'=>W s (upd L i true) vals w'))
 (hend:∀s L vals w,(∀i,i<ops.size->L i=true)->vals.length=ops.size->W s L vals w->J s (G (b.at ⟨putv ops vals 0 T₀,ds⟩ (.inRegion ops []::k)) cs) w):J s (G (b.at ⟨T₀,ds⟩ (.code (.region id ops true)::k)) cs) w:=by
 unfold chkGd at hchk;simp only[Bool.and_eq_true,List.all_eq_true,List.mem_range]at hchk;obtain⟨h1,h2⟩:=hchk;have plain:∀(i:Nat)(o:Oper),ops[i]?=some o->∀d,o.dst=some d->d<T₀.size:=λi o ho=>by
  have:=h1 i (Array.getElem?_eq_some_iff.1 ho).1;rw[ho]at this;simp only at this;intro d hd;rw[hd]at this;simpa using this
 have dlt:∀i d,dstOf ops i=some d->i<ops.size/\d<T₀.size:=λi d hd=>by
  unfold dstOf at hd;cases ho:ops[i]? with
  |none=>rw[ho]at hd;cases hd
  |some o=>rw[ho]at hd;exact⟨(Array.getElem?_eq_some_iff.1 ho).1,plain i o ho d hd⟩
 have apart:∀(i j:Nat)(d:Tmp),dstOf ops i=some d->dstOf ops j=some d->i=j:=λi j d hd hd'=>by
  rcases Nat.lt_trichotomy i j with h|h|h
  · have:=h2 j (dlt j d hd').1 i h;rw[hd,hd']at this;simp at this
  · exact h
  · have:=h2 i (dlt i d hd).1 j h;rw[hd,hd']at this;simp at this
 have final:∀(vals:List Value),vals.length=ops.size->∀i x,dstOf ops i=some x->(putv ops vals 0 T₀)[x]?=vals[i]?:=λvals hlen i x hd=>by
  obtain⟨hi,hlt⟩:=dlt i x hd;rw[List.getElem?_eq_getElem (by omega)];refine putv_at vals 0 _ i _ x (List.getElem?_eq_getElem (by omega)) (by rw[Nat.zero_add];exact hd) hlt λm a b e=>?_;have:=apart m i x e hd;omega
 let I:γ->(Nat->Bool)->Array Value->World->Prop:=λs L T w=>∃vals:List Value,vals.length=ops.size/\W s L vals w/\T.size=T₀.size/\(∀t,(∀j,dstOf ops j≠some t)->T[t]?=T₀[t]?)/\∀j t,dstOf ops j=some t->L j=true->T[t]?=vals[j]?
 refine at_drawsX hJ hb hm I hback (λs L T w τ d⟨vals,a1,a2,a3⟩=>⟨vals,a1,hWre _ _ _ _ _ _ a2,a3⟩) ⟨v₀,hv₀,hW,rfl,λ_ _=>rfl,λ_ _ _ h=>(by cases h)⟩ ?_ ?_
 · rintro s L T w i o ⟨vals,hlen,hw,hsz,hout,hin⟩ hLi ho hdep rest hnext;have hdo:=plain i o ho;have hil:i<ops.size:=(Array.getElem?_eq_some_iff.1 ho).1;have hst1:=λw hw=>hstep s L vals T w i o hlen hw hLi ho hdep hin λt ht=>hout t (noD_iff ht);have hst0:=λw hw=>(hst1 w hw).2;have hwan:=(hst1 w hw).1;have value:∀s' d v w',o.dst=some d->W s' (upd L i true) (vals.set i v) w'->I s' (upd L i true) (T.setIfInBounds d v) w':=λs' d v w' hd hW'=>by
    have hdi:dstOf ops i=some d:=by unfold dstOf;rw[ho];exact hd
    refine⟨vals.set i v,by simpa using hlen,hW',by simpa using hsz,λt ht=>?_,λj t hdj hl=>?_⟩
    · have:d≠t:=λe=>ht i (e▸hdi);rw[al_gn this];exact hout t ht
    · by_cases e:j=i
      · subst e;rw[hdi]at hdj;obtain rfl:=Option.some.inj hdj;have:d<T.size:=by rw[hsz];exact hdo d hd
        have hjl:j<vals.length:=by omega
        simp[this,hjl]
      · have hdt:d≠t:=λe2=>by subst e2;exact e (apart j i d hdj hdi)
        rw[upd_ne _ _ e]at hl;rw[al_gn hdt,List.getElem?_set_ne (λe2=>e e2.symm),hin j t hdj hl]
   have skip:∀w',o.dst=none->W s (upd L i true) vals w'->I s (upd L i true) T w':=λw' hd hW'=>by
    refine⟨vals,hlen,hW',hsz,hout,λj t hdj hl=>?_⟩;have e:j≠i:=λe=>by
     subst e;unfold dstOf at hdj;rw[ho]at hdj;simp only[al_ob]at hdj;rw[hd]at hdj;cases hdj
    rw[upd_ne _ _ e]at hl;exact hin j t hdj hl
   rcases hst0 w hw with⟨hok,hpl⟩|⟨d,f,args,hd,hrun,hev,hcall⟩
   · have hst:=λτ dd=>hst0 (re w τ dd) (hWre _ _ _ _ τ dd hw);cases hdst:o.dst with
     |some d=>
      refine at_opF hJ hb ho hok hwan hdst λτ dd=>?_;rcases hst τ dd with⟨_,⟨d',v,w',hd',hr,hI'⟩|⟨hd',_⟩⟩|⟨d',f,args,hd',hrun,hev,hcall⟩
      · exact⟨v,w',hr,hnext _ _ _ (value s d v w' hdst hI')⟩
      · rw[hdst]at hd';cases hd'
      · exfalso;rcases hpl with⟨_,v,w',_,hr,_⟩|⟨hd',_⟩
        · rw[hrun]at hr;cases hr
        · rw[hdst]at hd';cases hd'
     |none=>
      refine at_skipF hJ hb ho hok hwan hdst λτ dd=>?_;rcases hst τ dd with⟨_,⟨d',v,w',hd',_⟩|⟨hd',w',hr,hI'⟩⟩|⟨d',f,args,hd',_⟩
      · rw[hdst]at hd';cases hd'
      · exact⟨w',hr,hnext _ _ _ (skip w' hdst hI')⟩
      · rw[hdst]at hd';cases hd'
   · have hrun':∀w,(execOp (Act.mk T ds).eval o).run P w=.ok (.enter f args) w:=hrun;refine zqz hb hJ ho hwan (λτ dd=>hrun' (re w τ dd)) (λτ dd e he=>?_) ?_
     · rw[Sem.runT_eq,show(execOp (Act.mk T ds).eval o).events P (re w τ dd) #[]=#[]from hev _]at he;simp at he
     · refine hcall _ _ ?_ ?_
       · rintro s' v w' ⟨v',e,hW'⟩;cases e;rw[Frame.finish_at,ho];have hp:(Act.mk T ds).put o.dst v=⟨T.setIfInBounds d v,ds⟩:=by rw[hd];rfl
         simp only[al_ob];have:=hnext _ _ _ (value s' d v w' hd hW');simpa[hp]using this
       · rintro s' ch w' ⟨v,e,_⟩;cases e
 · rintro s L T w hall ⟨vals,hlen,hw,hsz,hout,hin⟩;have:T=putv ops vals 0 T₀:=by
    apply Array.ext_getElem?;intro x
    by_cases hx:∃j,dstOf ops j=some x
    · obtain⟨j,hdj⟩:=hx;rw[hin j x hdj (hall j (dlt j x hdj).1),final vals hlen j x hdj]
    · have hno:∀j,dstOf ops j≠some x:=λj hd=>hx ⟨j,hd⟩;rw[hout x hno];exact(zq1x vals 0 _ x λj _ _=>hno j).symm
   rw[this];exact hend s L vals w hall hlen hw
end
end Go.Car
set_option maxHeartbeats 8000000
set_option maxRecDepth 100000
namespace Go.Proofs
open Go Go.Conc Go.RowKit Go.Car
open Go.ConcN (upd upd_ne upd_same)
noncomputable def skT(n:Nat):Code:=tailN n (Try.f7.body.getD .skip)
theorem sk0:Try.f7.body.getD .skip=.seq (headC (skT 0)) (.seq (headC (skT 1)) (.seq (headC (skT 2)) (.seq (headC (skT 3)) (.seq (headC (skT 4)) (.seq (headC (skT 5)) (.seq (headC (skT 6)) (.seq (headC (skT 7)) (.seq (headC (skT 8)) (.seq (headC (skT 9)) (.seq (headC (skT 10)) (.seq (headC (skT 11)) (.seq (headC (skT 12)) (.seq (headC (skT 13)) (.seq (headC (skT 14)) (skT 15))))))))))))))):=by kernel_rfl
theorem lit301{T:Array Value}(h:T.size=301):∃x:Nat->Value,T=#[x 0,x 1,x 2,x 3,x 4,x 5,x 6,x 7,x 8,x 9,x 10,x 11,x 12,x 13,x 14,x 15,x 16,x 17,x 18,x 19,x 20,x 21,x 22,x 23,x 24,x 25,x 26,x 27,x 28,x 29,x 30,x 31,x 32,x 33,x 34,x 35,x 36,x 37,x 38,x 39,x 40,x 41,x 42,x 43,x 44,x 45,x 46,x 47,x 48,x 49,x 50,x 51,x 52,x 53,x 54,x 55,x 56,x 57,x 58,x 59,x 60,x 61,x 62,x 63,x 64,x 65,x 66,x 67,x 68,x 69,x 70,x 71,x 72,x 73,x 74,x 75,x 76,x 77,x 78,x 79,x 80,x 81,x 82,x 83,x 84,x 85,x 86,x 87,x 88,x 89,x 90,x 91,x 92,x 93,x 94,x 95,x 96,x 97,x 98,x 99,x 100,x 101,x 102,x 103,x 104,x 105,x 106,x 107,x 108,x 109,x 110,x 111,x 112,x 113,x 114,x 115,x 116,x 117,x 118,x 119,x 120,x 121,x 122,x 123,x 124,x 125,x 126,x 127,x 128,x 129,x 130,x 131,x 132,x 133,x 134,x 135,x 136,x 137,x 138,x 139,x 140,x 141,x 142,x 143,x 144,x 145,x 146,x 147,x 148,x 149,x 150,x 151,x 152,x 153,x 154,x 155,x 156,x 157,x 158,x 159,x 160,x 161,x 162,x 163,x 164,x 165,x 166,x 167,x 168,x 169,x 170,x 171,x 172,x 173,x 174,x 175,x 176,x 177,x 178,x 179,x 180,x 181,x 182,x 183,x 184,x 185,x 186,x 187,x 188,x 189,x 190,x 191,x 192,x 193,x 194,x 195,x 196,x 197,x 198,x 199,x 200,x 201,x 202,x 203,x 204,x 205,x 206,x 207,x 208,x 209,x 210,x 211,x 212,x 213,x 214,x 215,x 216,x 217,x 218,x 219,x 220,x 221,x 222,x 223,x 224,x 225,x 226,x 227,x 228,x 229,x 230,x 231,x 232,x 233,x 234,x 235,x 236,x 237,x 238,x 239,x 240,x 241,x 242,x 243,x 244,x 245,x 246,x 247,x 248,x 249,x 250,x 251,x 252,x 253,x 254,x 255,x 256,x 257,x 258,x 259,x 260,x 261,x 262,x 263,x 264,x 265,x 266,x 267,x 268,x 269,x 270,x 271,x 272,x 273,x 274,x 275,x 276,x 277,x 278,x 279,x 280,x 281,x 282,x 283,x 284,x 285,x 286,x 287,x 288,x 289,x 290,x 291,x 292,x 293,x 294,x 295,x 296,x 297,x 298,x 299,x 300]/\∀i,i<301->T[i]?=some (x i):=by
 obtain⟨x,h1,h2⟩:=lit_list T;rw[h]at h1 h2;refine⟨x,?_,h1⟩;have h3:T=((List.range 301).map x).toArray:=by rw[←h2]
 exact h3.trans (show((List.range 301).map x).toArray=#[x 0,x 1,x 2,x 3,x 4,x 5,x 6,x 7,x 8,x 9,x 10,x 11,x 12,x 13,x 14,x 15,x 16,x 17,x 18,x 19,x 20,x 21,x 22,x 23,x 24,x 25,x 26,x 27,x 28,x 29,x 30,x 31,x 32,x 33,x 34,x 35,x 36,x 37,x 38,x 39,x 40,x 41,x 42,x 43,x 44,x 45,x 46,x 47,x 48,x 49,x 50,x 51,x 52,x 53,x 54,x 55,x 56,x 57,x 58,x 59,x 60,x 61,x 62,x 63,x 64,x 65,x 66,x 67,x 68,x 69,x 70,x 71,x 72,x 73,x 74,x 75,x 76,x 77,x 78,x 79,x 80,x 81,x 82,x 83,x 84,x 85,x 86,x 87,x 88,x 89,x 90,x 91,x 92,x 93,x 94,x 95,x 96,x 97,x 98,x 99,x 100,x 101,x 102,x 103,x 104,x 105,x 106,x 107,x 108,x 109,x 110,x 111,x 112,x 113,x 114,x 115,x 116,x 117,x 118,x 119,x 120,x 121,x 122,x 123,x 124,x 125,x 126,x 127,x 128,x 129,x 130,x 131,x 132,x 133,x 134,x 135,x 136,x 137,x 138,x 139,x 140,x 141,x 142,x 143,x 144,x 145,x 146,x 147,x 148,x 149,x 150,x 151,x 152,x 153,x 154,x 155,x 156,x 157,x 158,x 159,x 160,x 161,x 162,x 163,x 164,x 165,x 166,x 167,x 168,x 169,x 170,x 171,x 172,x 173,x 174,x 175,x 176,x 177,x 178,x 179,x 180,x 181,x 182,x 183,x 184,x 185,x 186,x 187,x 188,x 189,x 190,x 191,x 192,x 193,x 194,x 195,x 196,x 197,x 198,x 199,x 200,x 201,x 202,x 203,x 204,x 205,x 206,x 207,x 208,x 209,x 210,x 211,x 212,x 213,x 214,x 215,x 216,x 217,x 218,x 219,x 220,x 221,x 222,x 223,x 224,x 225,x 226,x 227,x 228,x 229,x 230,x 231,x 232,x 233,x 234,x 235,x 236,x 237,x 238,x 239,x 240,x 241,x 242,x 243,x 244,x 245,x 246,x 247,x 248,x 249,x 250,x 251,x 252,x 253,x 254,x 255,x 256,x 257,x 258,x 259,x 260,x 261,x 262,x 263,x 264,x 265,x 266,x 267,x 268,x 269,x 270,x 271,x 272,x 273,x 274,x 275,x 276,x 277,x 278,x 279,x 280,x 281,x 282,x 283,x 284,x 285,x 286,x 287,x 288,x 289,x 290,x 291,x 292,x 293,x 294,x 295,x 296,x 297,x 298,x 299,x 300]from by kernel_rfl)
structure KF(Bs:Nat)(v5 v6 v7 v9 v10:Value)(T:Array Value):Prop where
 sz:T.size=301
 t2:T[2]?=some (.pointer (some ⟨Bs,0,none⟩))
 t3:T[3]?=some (.pointer (some ⟨Bs+1,0,none⟩))
 t4:T[4]?=some (.bool false)
 t5:T[5]?=some v5
 t6:T[6]?=some v6
 t7:T[7]?=some v7
 t9:T[9]?=some v9
 t10:T[10]?=some v10
theorem copy_new{P:Program}{w:World}{t ty e:TypeId}{i:TypeInfo}{z:Value}{k bytes:Nat}(ht:P.underlying t=some (.slice e))(hi:P.info? e=some i)(hz:i.zero=some z)(hsize:i.size=k)(hby:i.bytes=bytes)(hzs:z.cells.size=k)(hk:0<k)
 (pa:Option Addr) (m c:Nat) (news:List Value) (hl:news.length=m*k) (hnews:0<m->∃a,pa=some a/\∀j u,news[j]?=some u->w.cell? (a.add j)=some u) (h1:∀u∈news,u.oneCell'=true) (h63:m<=maxLen) (hbytes:m*bytes<=140737488355328):
 ∃g C w1,(Builtin.append_ #[t,t] ty #[.slice (some ⟨w.heap.size,0,none⟩) 0 0,.slice pa m c]).run P (w.alloc (.cells #[] e))=.ok (.slice (some ⟨g,0,none⟩) m C) w1/\w1.ownsRow w.heap.size e k (.slice (some ⟨g,0,none⟩) m C) m news/\Beyond w w1:=by
 have hr:(w.alloc (.cells #[] e)).ownsRow w.heap.size e k (.slice (some ⟨w.heap.size,0,none⟩) 0 0) 0 []:=⟨by simp,.inr ⟨w.heap.size,0,#[],rfl,Nat.le_refl _,zqu _ _,by simp,by simp,by simp,by simp⟩⟩;have hn':0<m->∃a,pa=some a/\∀j u,news[j]?=some u->(w.alloc (.cells #[] e)).cell? (a.add j)=some u:=λh=>by
  obtain⟨a,e1,e2⟩:=hnews h;exact⟨a,e1,λj u hj=>(Beyond.alloc w _).cell (e2 j u hj)⟩
 obtain⟨v',w',hrun,hown,hw,hat,_,_⟩:=app_wr (P:=P) (w.alloc (.cells #[] e)) t ty e i z k bytes ht hi hz hsize hby hzs hk hr (by rw[zq4];omega) pa m c news hl hn' h1 (by omega) (by rw[Nat.zero_add];exact hbytes);rw[Nat.zero_add,List.nil_append]at hown;obtain⟨g,hg⟩:∃g,v'.ownBlock=some g:=by
  rcases hat with h|h
  · exact⟨_,h.trans rfl⟩
  · exact⟨_,h⟩
 obtain⟨p,C,rfl,hb,ha⟩:=zq18 hown;rw[hb]at hg;cases p with
 |none=>cases hg
 |some a=>
  have:=ha a rfl;rw[this]at hrun hown;refine⟨a.block,C,w',hrun,hown,by have:=hw.size;rw[zq4]at this;omega,λb hb=>?_⟩;exact(hw.old b (by rw[zq4];omega) λh=>by simp only[Value.ownBlock,al_oi]at h;omega).trans ((Beyond.alloc w _).2 b hb)
theorem copy_one{P:Program}{w:World}{t ty e:TypeId}{i:TypeInfo}{z:Value}{k bytes:Nat}(ht:P.underlying t=some (.slice e))(hi:P.info? e=some i)(hz:i.zero=some z)(hsize:i.size=k)(hby:i.bytes=bytes)(hzs:z.cells.size=k)(hk:0<k)
 {B n:Nat} {v:Value} {xs cs:List Value} (hown:w.ownsRow B e k v n xs) (hB:B<=w.heap.size) (hcs:cs.length=k) (h1:∀u∈cs,u.oneCell'=true) (h63:n+1<=maxLen) (hbytes:(n+1)*bytes<=140737488355328):
 ∃g C w2,(Builtin.append_ #[t,t] ty #[v,.slice (some ⟨w.heap.size,0,none⟩) 1 1]).run P (w.alloc (.cells cs.toArray e))=.ok (.slice (some ⟨g,0,none⟩) (n+1) C) w2/\w2.ownsRow B e k (.slice (some ⟨g,0,none⟩) (n+1) C) (n+1) (xs++cs)/\
  Wr (λb=>v.ownBlock=some b) w w2/\(v.ownBlock=some g\/w.heap.size<=g)/\∀g o,v.ownBlock=some g->o<n*k->w2.cell? ⟨g,o,none⟩=w.cell? ⟨g,o,none⟩:=by
 have hr:(w.alloc (.cells cs.toArray e)).ownsRow B e k v n xs:=row_allocK hown _;obtain⟨v',w',hrun,ho,hw,hat,hkeep,_⟩:=app_wr (P:=P) (w.alloc (.cells cs.toArray e)) t ty e i z k bytes ht hi hz hsize hby hzs hk hr (by rw[zq4];omega) (some ⟨w.heap.size,0,none⟩) 1 1 cs (by rw[hcs,Nat.one_mul]) (λ_=>⟨_,rfl,λj u hj=>news_new (T:=e) rfl j u (by simpa using hj)⟩) h1 h63 hbytes;have hg:∃g,v'.ownBlock=some g:=by
  rcases hat with h|h
  · rcases ho.2 with⟨_,h0⟩|⟨g,cap,cur,hv,_⟩
    · omega
    · exact⟨g,by rw[hv];rfl⟩
  · exact⟨_,h⟩
 obtain⟨g,hg⟩:=hg;obtain⟨p,C,rfl,hb,ha⟩:=zq18 ho;rw[hb]at hg;cases p with
 |none=>cases hg
 |some a=>
  have e1:=ha a rfl;rw[e1]at hrun ho hat;refine⟨a.block,C,w',hrun,ho,⟨?_,λb c T hbc=>?_,λb hb hx=>?_⟩,?_,λg o hg ho=>?_⟩
  · have:=hw.size;rw[zq4]at this;omega
  · exact hw.shp b c T (zqe hbc)
  · exact(hw.old b (by rw[zq4];omega) hx).trans ((Beyond.alloc w _).2 b hb)
  · rcases hat with h|h
    · exact .inl (h.symm.trans rfl)
    · simp only[Value.ownBlock,al_oi,zq4]at h;exact .inr (by omega)
  · exact(hkeep g o hg ho).trans (zql ((Beyond.alloc w _).2 g (own_lt hown hg).2.2))
theorem own_lt'{w:World}{B k n g C:Nat}{T:TypeId}{xs:List Value}(h:w.ownsRow B T k (.slice (some ⟨g,0,none⟩) n C) n xs):B<=g/\g<w.heap.size:=(own_lt h rfl).2
theorem copy_two{w:World}{t ty e:TypeId}{i:TypeInfo}{z:Value}(ht:Try.prog.underlying t=some (.slice e))(hi:Try.prog.info? e=some i)(hz:i.zero=some z)(hsize:i.size=1)(hby:i.bytes=8)(hzs:z.cells.size=1)
 {p:Option Addr} {C:Nat} {l:List Int} (hI:IntsAt w (.slice p l.length C) l) (hl:l.length<=1048576) (q:Int):
 ∃g1 C1 w1 g C2 w2,(Builtin.append_ #[t,t] ty #[.slice (some ⟨w.heap.size,0,none⟩) 0 0,.slice p l.length C]).run Try.prog (w.alloc (.cells #[] e))=.ok (.slice (some ⟨g1,0,none⟩) l.length C1) w1/\
  (Builtin.append_ #[t,t] ty #[.slice (some ⟨g1,0,none⟩) l.length C1,.slice (some ⟨w1.heap.size,0,none⟩) 1 1]).run Try.prog (w1.alloc (.cells #[.int .i64 q] e))=.ok (.slice (some ⟨g,0,none⟩) (l.length+1) C2) w2/\
  w2.ownsRow w.heap.size e 1 (.slice (some ⟨g,0,none⟩) (l.length+1) C2) (l.length+1) ((l++[q]).map (Value.int .i64))/\Beyond w w2:=by
 obtain⟨p',C',he,hc⟩:=hI;cases he;obtain⟨g1,C1,w1,r1,o1,b1⟩:=copy_new (P:=Try.prog) (w:=w) (ty:=ty) ht hi hz hsize hby hzs (by decide) p l.length C (l.map (Value.int .i64)) (by rw[List.length_map,Nat.mul_one]) (λh0=>by
  obtain⟨b,o,rfl,h2⟩:=hc (List.length_pos_iff.1 h0);refine⟨_,rfl,λj u hj=>?_⟩;have hjl:j<l.length:=by have:=(List.getElem?_eq_some_iff.1 hj).1;simpa using this
  rw[Addr.add_lit,h2 j hjl];rw[List.getElem?_map,List.getElem?_eq_getElem hjl]at hj;rw[List.getD_eq_getElem?_getD,List.getElem?_eq_getElem hjl];exact hj) (by simp[Value.oneCell']) (by simp only[maxLen];omega) (by omega)
 obtain⟨g,C2,w2,r2,o2,wr2,-,-⟩:=copy_one (P:=Try.prog) (w:=w1) (ty:=ty) ht hi hz hsize hby hzs (by decide) (cs:=[.int .i64 q]) o1 b1.1 rfl (by simp[Value.oneCell']) (by simp only[maxLen];omega) (by omega);refine⟨g1,C1,w1,g,C2,w2,r1,r2,by rw[List.map_append];exact o2,Nat.le_trans b1.1 wr2.size,λb hb=>(wr2.old b (Nat.lt_of_lt_of_le hb b1.1) λh=>?_).trans (b1.2 b hb)⟩;simp only[Value.ownBlock,al_oi]at h;have:=(own_lt' o1).1;omega
theorem sk_r3{w:World}{Bs C:Nat}{v5 v6 v7 v9 v10:Value}{p:Option Addr}{l:List Int}{T:Array Value}(hF:KF Bs v5 v6 v7 v9 v10 T)(hc:w.cell? ⟨Bs,0,none⟩=some (.slice p l.length C))(hI:IntsAt w (.slice p l.length C) l)(hl:l.length<=1048576)(τ:Nat->Question->Nat)(d:Nat):
 Code.wp Try.prog (headC (skT 2)) (ends (λa' w'=>∃g C2,KF Bs (.slice (some ⟨g,0,none⟩) (l.length+1) C2) v6 v7 v9 v10 a'.tmps/\w'.ownsRow w.heap.size 2 1 (.slice (some ⟨g,0,none⟩) (l.length+1) C2) (l.length+1) ((l++[77]).map (Value.int .i64))/\Beyond w w') (λ_ _=>False)) ⟨T,[]⟩ (re w τ d):=by
 obtain⟨ti,hti,hz,hz1,hz2⟩:∃ti,Try.prog.info? 2=some ti/\ti.zero=some (.int .i64 0)/\ti.size=1/\ti.bytes=8:=⟨_,rfl,rfl,rfl,rfl⟩;have hcr:(re w τ d).cell? ⟨Bs,0,none⟩=some (.slice p l.length C):=hc;obtain⟨g1,C1,w1,g,C2,w2,r1,r2,ho,hb⟩:=copy_two (w:=re w τ d) (t:=22) (ty:=22) (e:=2) (by kernel_rfl) hti hz hz1 hz2 rfl (hI.beyond (Beyond.re w τ d)) hl 77;rw[show(re w τ d).heap.size=w.heap.size from rfl]at ho;have HB:=Lib.hid (And.intro ho ((Beyond.re w τ d).trans hb));obtain⟨ll,hll⟩:∃x,l.length=x:=⟨_,rfl⟩;rw[hll]at hcr r1 r2 HB ⊢;clear hc hI ho hb hti hz hz1 hz2 hll hl;generalize re w τ d=wr at hcr r1 r2 HB ⊢;replace hcr:(wr.alloc (.cells #[] 2)).cell? ⟨Bs,0,none⟩=some (.slice p ll C):=(Beyond.alloc _ _).cell hcr;obtain⟨u,hu⟩:∃c,headC (skT 2)=c:=⟨_,rfl⟩;have eu:=hu;rw[hu];simp only[skT,headC,tailN,Try.f7,al_od]at eu;subst eu;clear hu;obtain⟨x,hT,hx⟩:=lit301 hF.sz;have e2:x 2=.pointer (some ⟨Bs,0,none⟩):=Option.some.inj ((hx 2 (by decide)).symm.trans hF.t2);have e3:x 3=.pointer (some ⟨Bs+1,0,none⟩):=Option.some.inj ((hx 3 (by decide)).symm.trans hF.t3);have e4:x 4=.bool false:=Option.some.inj ((hx 4 (by decide)).symm.trans hF.t4);have e5:x 5=v5:=Option.some.inj ((hx 5 (by decide)).symm.trans hF.t5);have e6:x 6=v6:=Option.some.inj ((hx 6 (by decide)).symm.trans hF.t6);have e7:x 7=v7:=Option.some.inj ((hx 7 (by decide)).symm.trans hF.t7);have e9:x 9=v9:=Option.some.inj ((hx 9 (by decide)).symm.trans hF.t9);have e10:x 10=v10:=Option.some.inj ((hx 10 (by decide)).symm.trans hF.t10);subst hT;simp only[e2,e3,e4,e5,e6,e7,e9,e10];clear e2 e3 e4 e5 e6 e7 e9 e10 hx hF
 go_wp2_with (at_builtin;go_loud (first|(refine zq20 rfl (.tmp 26) (.tmp 28) 22 rfl r1 ?_)|(refine zq20 rfl (.tmp 29) (.tmp 30) 22 rfl r2 ?_)))
 exact⟨rfl,g,C2,⟨rfl,rfl,rfl,rfl,rfl,rfl,rfl,rfl,rfl⟩,HB.out⟩
theorem sk_r4{w:World}{Bs C:Nat}{v5 v6 v7 v9 v10:Value}{p:Option Addr}{l:List Int}{T:Array Value}(hF:KF Bs v5 v6 v7 v9 v10 T)(hc:w.cell? ⟨Bs,2,none⟩=some (.slice p l.length C))(hI:IntsAt w (.slice p l.length C) l)(hl:l.length<=1048576)(τ:Nat->Question->Nat)(d:Nat):
 Code.wp Try.prog (headC (skT 3)) (ends (λa' w'=>∃g C2,KF Bs v5 (.slice (some ⟨g,0,none⟩) (l.length+1) C2) v7 v9 v10 a'.tmps/\w'.ownsRow w.heap.size 3 1 (.slice (some ⟨g,0,none⟩) (l.length+1) C2) (l.length+1) ((l++[88]).map (Value.int .i64))/\Beyond w w') (λ_ _=>False)) ⟨T,[]⟩ (re w τ d):=by
 obtain⟨ti,hti,hz,hz1,hz2⟩:∃ti,Try.prog.info? 3=some ti/\ti.zero=some (.int .i64 0)/\ti.size=1/\ti.bytes=8:=⟨_,rfl,rfl,rfl,rfl⟩;have hcr:(re w τ d).cell? ⟨Bs,2,none⟩=some (.slice p l.length C):=hc;obtain⟨g1,C1,w1,g,C2,w2,r1,r2,ho,hb⟩:=copy_two (w:=re w τ d) (t:=24) (ty:=24) (e:=3) (by kernel_rfl) hti hz hz1 hz2 rfl (hI.beyond (Beyond.re w τ d)) hl 88;rw[show(re w τ d).heap.size=w.heap.size from rfl]at ho;have HB:=Lib.hid (And.intro ho ((Beyond.re w τ d).trans hb));obtain⟨ll,hll⟩:∃x,l.length=x:=⟨_,rfl⟩;rw[hll]at hcr r1 r2 HB ⊢;clear hc hI ho hb hti hz hz1 hz2 hll hl;generalize re w τ d=wr at hcr r1 r2 HB ⊢;replace hcr:(wr.alloc (.cells #[] 3)).cell? ⟨Bs,2,none⟩=some (.slice p ll C):=(Beyond.alloc _ _).cell hcr;obtain⟨u,hu⟩:∃c,headC (skT 3)=c:=⟨_,rfl⟩;have eu:=hu;rw[hu];simp only[skT,headC,tailN,Try.f7,al_od]at eu;subst eu;clear hu;obtain⟨x,hT,hx⟩:=lit301 hF.sz;have e2:x 2=.pointer (some ⟨Bs,0,none⟩):=Option.some.inj ((hx 2 (by decide)).symm.trans hF.t2);have e3:x 3=.pointer (some ⟨Bs+1,0,none⟩):=Option.some.inj ((hx 3 (by decide)).symm.trans hF.t3);have e4:x 4=.bool false:=Option.some.inj ((hx 4 (by decide)).symm.trans hF.t4);have e5:x 5=v5:=Option.some.inj ((hx 5 (by decide)).symm.trans hF.t5);have e6:x 6=v6:=Option.some.inj ((hx 6 (by decide)).symm.trans hF.t6);have e7:x 7=v7:=Option.some.inj ((hx 7 (by decide)).symm.trans hF.t7);have e9:x 9=v9:=Option.some.inj ((hx 9 (by decide)).symm.trans hF.t9);have e10:x 10=v10:=Option.some.inj ((hx 10 (by decide)).symm.trans hF.t10);subst hT;simp only[e2,e3,e4,e5,e6,e7,e9,e10];clear e2 e3 e4 e5 e6 e7 e9 e10 hx hF
 go_wp2_with (at_builtin;go_loud (first|(refine zq20 rfl (.tmp 32) (.tmp 34) 24 rfl r1 ?_)|(refine zq20 rfl (.tmp 35) (.tmp 36) 24 rfl r2 ?_)))
 exact⟨rfl,g,C2,⟨rfl,rfl,rfl,rfl,rfl,rfl,rfl,rfl,rfl⟩,HB.out⟩
def opsL(l:List OpX):List Value:=l.flatMap OpX.cells
theorem opsL_len(l:List OpX):(opsL l).length=l.length*4:=by
 unfold opsL
 induction l with
 |nil=>rfl
 |cons a l ih=>rw[List.flatMap_cons,List.length_append,ih,List.length_cons];show 4+_=_;omega
theorem opsL_get:∀(l:List OpX)(k:Nat)(op:OpX),l[k]?=some op->∀j,j<4->(opsL l)[k*4+j]?=op.cells[j]?
 |[],k,op,h=>by simp at h
 |a::l,0,op,h=>λj hj=>by
  simp only[al_g0,al_oi]at h;subst h;unfold opsL;rw[List.flatMap_cons,Nat.zero_mul,Nat.zero_add,List.getElem?_append_left (by show j<4;exact hj)]
 |a::l,k+1,op,h=>λj hj=>by
  rw[al_g1]at h;have:=opsL_get l k op h j hj;unfold opsL at this ⊢;rw[List.flatMap_cons,List.getElem?_append_right (by show 4<=_;omega)];rw[←this];congr 1;show(k+1)*4+j - 4=_;omega
theorem opsL_src{w:World}{gb go:Nat}{l:List OpX}(h:∀(k:Nat)(c:OpX),l[k]?=some c->∀j,j<4->w.cell? ⟨gb,go+k*4+j,none⟩=c.cells[j]?):∀j u,(opsL l)[j]?=some u->w.cell? ((⟨gb,go,none⟩:Addr).add j)=some u:=λj u hj=>by
 have hjl:=(List.getElem?_eq_some_iff.1 hj).1;rw[opsL_len]at hjl;have hk:j / 4<l.length:=by omega
 have e:=opsL_get l (j / 4) l[j / 4] (List.getElem?_eq_getElem hk) (j % 4) (Nat.mod_lt _ (by decide));have e2:=h (j / 4) l[j / 4] (List.getElem?_eq_getElem hk) (j % 4) (Nat.mod_lt _ (by decide));rw[show j / 4*4+j % 4=j from by omega]at e;rw[show go+j / 4*4+j % 4=go+j from by omega]at e2;rw[Addr.add_lit,e2,←e,hj]
theorem ops_one(l:List OpX):∀u∈opsL l,u.oneCell'=true:=by
 intro u hu;unfold opsL at hu;obtain⟨a,-,h⟩:=List.mem_flatMap.1 hu;simp only[OpX.cells,List.mem_cons,List.not_mem_nil,or_false]at h;rcases h with rfl |rfl |rfl |rfl<;>rfl
def cpV(x:Nat×Nat×Nat):Value:=.slice (some ⟨x.1,0,none⟩) x.2.1 x.2.2
structure CpI(w4:World)(tops:Nat->List OpX)(l:List (Nat×Nat×Nat))(v7:Value)(w:World):Prop where
 be:Beyond w4 w
 row:w.ownsRow w4.heap.size 34 1 v7 l.length (l.map cpV)
 cp:∀(i:Nat)(x:Nat×Nat×Nat),l[i]?=some x->x.2.1=(tops i).length/\w.ownsRow w4.heap.size 46 4 (cpV x) x.2.1 (opsL (tops i))
 ne:∀(i j:Nat)(x y:Nat×Nat×Nat),l[i]?=some x->l[j]?=some y->i≠j->x.1≠y.1
theorem CpI.re {w4 w:World}{tops:Nat->List OpX}{l:List (Nat×Nat×Nat)}{v7:Value}(h:CpI w4 tops l v7 w)(τ:Nat->Question->Nat)(d:Nat):CpI w4 tops l v7 (Go.Car.re w τ d):=
 ⟨h.be.trans (Beyond.re _ _ _),row_re h.row τ d,λi x hx=>⟨(h.cp i x hx).1,row_re (h.cp i x hx).2 τ d⟩,h.ne⟩
theorem cp_step{w4 w:World}{tops:Nat->List OpX}{l:List (Nat×Nat×Nat)}{v7:Value}(h:CpI w4 tops l v7 w)(hl:l.length<=1048576)(hL:(tops l.length).length<=1048576){q:Option Addr}{C:Nat}
 (hq:(tops l.length)≠[]->∃gb go,q=some ⟨gb,go,none⟩/\∀(k:Nat)(c:OpX),(tops l.length)[k]?=some c->∀j,j<4->w.cell? ⟨gb,go+k*4+j,none⟩=c.cells[j]?):
 ∃g1 C1 w1 p2 C2 w2,(Builtin.append_ #[34,34] 34 #[.slice (some ⟨w.heap.size,0,none⟩) 0 0,.slice q (tops l.length).length C]).run Try.prog (w.alloc (.cells #[] 46))=.ok (.slice (some ⟨g1,0,none⟩) (tops l.length).length C1) w1/\
  (Builtin.append_ #[23,23] 23 #[v7,.slice (some ⟨w1.heap.size,0,none⟩) 1 1]).run Try.prog (w1.alloc (.cells #[.slice (some ⟨g1,0,none⟩) (tops l.length).length C1] 34))=.ok (.slice p2 (l.length+1) C2) w2/\
  CpI w4 tops (l++[(g1,(tops l.length).length,C1)]) (.slice p2 (l.length+1) C2) w2:=by
 obtain⟨ti,hti,hz,hz1,hz2⟩:∃ti,Try.prog.info? 46=some ti/\ti.zero=some (.agg #[.int .i64 0,.int .i64 0,.int .i64 0,.int .i64 0])/\ti.size=4/\ti.bytes=32:=⟨_,rfl,rfl,rfl,rfl⟩;obtain⟨tj,htj,hy,hy1,hy2⟩:∃ti,Try.prog.info? 34=some ti/\ti.zero=some (.slice none 0 0)/\ti.size=1/\ti.bytes=24:=⟨_,rfl,rfl,rfl,rfl⟩;obtain⟨g1,C1,w1,r1,o1,b1⟩:=copy_new (P:=Try.prog) (w:=w) (t:=34) (ty:=34) (e:=46) (k:=4) (by kernel_rfl) hti hz hz1 hz2 rfl (by decide) q (tops l.length).length C (opsL (tops l.length)) (opsL_len _) (λh0=>by
  obtain⟨gb,go,rfl,h2⟩:=hq (List.length_pos_iff.1 h0);exact⟨_,rfl,opsL_src h2⟩) (ops_one _) (by simp only[maxLen];omega) (by omega)
 have hr1:=zq13 h.row λg hg=>b1.2 g (own_lt h.row hg).2.2;have hb4:=h.be.1;obtain⟨g2,C2,w2,r2,o2,wr2,hat,-⟩:=copy_one (P:=Try.prog) (w:=w1) (t:=23) (ty:=23) (e:=34) (k:=1) (by kernel_rfl) htj hy hy1 hy2 rfl (by decide) (cs:=[.slice (some ⟨g1,0,none⟩) (tops l.length).length C1]) hr1 (by have:=b1.1;omega) rfl (by simp[Value.oneCell']) (by simp only[maxLen];omega) (by omega);have keep:∀b,b<w1.heap.size->(∀T c,w1.heap[b]?=some (.cells c T)->T≠34)->(∃T c,w1.heap[b]?=some (.cells c T))->w2.heap[b]?=w1.heap[b]?:=λb hb hT hc=>wr2.old b hb λhv=>by
  obtain⟨T,c,hc⟩:=hc;obtain⟨⟨c2,hc2⟩,_⟩:=own_lt hr1 hv;exact hT _ _ hc2 rfl
 have kr:∀{B n:Nat}{v:Value}{xs:List Value},w1.ownsRow B 46 4 v n xs->w2.ownsRow B 46 4 v n xs:=λhr=>zq13 hr λg hg=>by
  obtain⟨⟨c,hc⟩,_,hlt⟩:=own_lt hr hg;exact keep g hlt (λT c' hc' e=>by have:=heap_type hc hc';rw[e]at this;exact absurd this (by decide)) ⟨_,_,hc⟩
 have g1w:w.heap.size<=g1:=(own_lt' o1).1;have hlt:∀(i:Nat)(x:Nat×Nat×Nat),l[i]?=some x->x.1<w.heap.size:=λi x hx=>(own_lt (h.cp i x hx).2 rfl).2.2;have new:∀(i:Nat)(x:Nat×Nat×Nat),(l++[(g1,(tops l.length).length,C1)])[i]?=some x->l[i]?=some x\/(i=l.length/\x=(g1,(tops l.length).length,C1)):=λi x hx=>by
  rw[List.getElem?_append]at hx;split at hx
  · exact .inl hx
  · rename_i hge;have:i=l.length:=by
     have:=(List.getElem?_eq_some_iff.1 hx).1;simp at this;omega
    subst this;simp at hx;exact .inr ⟨rfl,hx.symm⟩
 refine⟨g1,C1,w1,_,C2,w2,r1,r2,⟨by have:=b1.1;have:=wr2.size;omega,λb hb=>?_⟩,by rw[List.length_append,List.map_append];exact o2,λi x hx=>?_,λi j x y hx hy hne=>?_⟩
 · exact(wr2.old b (by have:=b1.1;omega) λhv=>by have:=(own_lt hr1 hv).2.1;omega).trans ((b1.2 b (by omega)).trans (h.be.2 b hb))
 · rcases new i x hx with hx|⟨rfl,rfl⟩
   · obtain⟨e1,e2⟩:=h.cp i x hx;exact⟨e1,kr (zq13 e2 λg hg=>b1.2 g (own_lt e2 hg).2.2)⟩
   · exact⟨rfl,kr (zq29 o1 hb4)⟩
 · rcases new i x hx with hx|⟨rfl,rfl⟩
   · rcases new j y hy with hy|⟨rfl,rfl⟩
     · exact h.ne i j x y hx hy hne
     · have:=hlt i x hx;simp only;omega
   · rcases new j y hy with hy|⟨rfl,rfl⟩
     · have:=hlt j y hy;simp only;omega
     · exact absurd rfl hne
theorem sk_cp{w4 w:World}{Bs np Cn:Nat}{v5 v6 v7 v9 v10:Value}{pp:Option Addr}{tops:Nat->List OpX}{T:Array Value}(hF:KF Bs v5 v6 (.slice none 0 0) v9 v10 T)(hc:w4.cell? ⟨Bs,1,none⟩=some (.slice pp np Cn))(hI:ThrIn w4 pp np tops)(hn:np<=1048576)(hl:∀i,i<np->(tops i).length<=1048576)(hb:Beyond w4 w)(τ:Nat->Question->Nat)(d:Nat):
 Code.wp Try.prog (headC (skT 5)) (ends (λa' w'=>∃l p7 C7,l.length=np/\KF Bs v5 v6 (.slice p7 np C7) v9 v10 a'.tmps/\CpI w4 tops l (.slice p7 np C7) w') (λ_ _=>False)) ⟨T,[]⟩ (re w τ d):=by
 have h0:CpI w4 tops [] (.slice none 0 0) (re w τ d):=⟨hb.trans (Beyond.re _ _ _),World.ownsRow_nil _ _ _ _,λi x hx=>by simp at hx,λi j x y hx=>by simp at hx⟩;have HI:=Lib.hid (And.intro hc (And.intro hI (And.intro hn (And.intro hl h0))));clear hc hI hb hl h0;generalize re w τ d=w1 at HI ⊢;obtain⟨u,hu⟩:∃c,headC (skT 5)=c:=⟨_,rfl⟩;have eu:=hu;rw[hu];simp only[skT,headC,tailN,Try.f7,al_od]at eu;subst eu;clear hu;obtain⟨x,hT,hx⟩:=lit301 hF.sz;have e2:x 2=.pointer (some ⟨Bs,0,none⟩):=Option.some.inj ((hx 2 (by decide)).symm.trans hF.t2);have e3:x 3=.pointer (some ⟨Bs+1,0,none⟩):=Option.some.inj ((hx 3 (by decide)).symm.trans hF.t3);have e4:x 4=.bool false:=Option.some.inj ((hx 4 (by decide)).symm.trans hF.t4);have e5:x 5=v5:=Option.some.inj ((hx 5 (by decide)).symm.trans hF.t5);have e6:x 6=v6:=Option.some.inj ((hx 6 (by decide)).symm.trans hF.t6);have e7:x 7=.slice none 0 0:=Option.some.inj ((hx 7 (by decide)).symm.trans hF.t7);have e9:x 9=v9:=Option.some.inj ((hx 9 (by decide)).symm.trans hF.t9);have e10:x 10=v10:=Option.some.inj ((hx 10 (by decide)).symm.trans hF.t10);subst hT;simp only[e2,e3,e4,e5,e6,e7,e9,e10];clear e2 e3 e4 e5 e6 e7 e9 e10 hx hF;have c0:w1.cell? ⟨Bs,1,none⟩=some (.slice pp np Cn):=HI.out.2.2.2.2.be.cell HI.out.1
 go_wp2_with (fail)
 go_loopg [7,8] np (λk s7 s8 wr=>∃(j:Nat)(l:List (Nat×Nat×Nat))(p7:Option Addr)(C7:Nat),k=np - j/\j<=np/\s8=.int .i64 j/\s7=.slice p7 j C7/\l.length=j/\CpI w4 tops l (.slice p7 j C7) wr)
 case atStart=>exact⟨0,[],none,0,rfl,Nat.zero_le _,rfl,rfl,rfl,HI.out.2.2.2.2⟩
 case round=>
  obtain⟨j,l,p7,C7,hk,hj,rfl,rfl,hlj,hR⟩:=hrel;have HR:=Lib.hid (And.intro hR hlj);clear hR hlj c0;have c0:wr.cell? ⟨Bs,1,none⟩=some (.slice pp np Cn):=HR.out.1.be.cell HI.out.1;have hj0:(0:Int)<=j:=by omega
  by_cases hlt:j<np
  · have hlt':(j:Int)<(np:Int):=by omega
    obtain⟨pb,po,rfl,hcell⟩:=HI.out.2.1 (by omega);obtain⟨q,C,hq1,-,hq2⟩:=hcell j hlt;have hq3:=HR.out.1.be.cell hq1;obtain⟨g1,C1,w2,p2,C2,w3,r1,r2,hN⟩:=cp_step HR.out.1 (by rw[HR.out.2];omega) (by rw[HR.out.2];exact HI.out.2.2.2.1 j hlt) (q:=q) (C:=C) (by
     rw[HR.out.2];intro hne;obtain⟨gb,go,e,h2⟩:=hq2 hne;refine⟨gb,go,e,λk c hk j hj=>?_⟩;have h3:=h2 k c hk j hj;obtain⟨u,hu⟩:∃u,c.cells[j]?=some u:=⟨_,List.getElem?_eq_getElem (show j<c.cells.length from hj)⟩;rw[hu]at h3 ⊢;exact HR.out.1.be.cell h3)
    rw[HR.out.2]at r1 r2 hN;obtain⟨Lj,hLj⟩:∃x,(tops j).length=x:=⟨_,rfl⟩;rw[hLj]at r1 r2 hN hq3;have c1:=(Beyond.alloc wr (.cells #[] 46)).cell c0;have c2:=(Beyond.alloc wr (.cells #[] 46)).cell hq3;have HN:=Lib.hid hN;clear hN hq1 hq2 hcell hq3 hLj
    go_wp2_with (at_builtin;go_loud (first|(refine zq20 rfl (.tmp 46) (.tmp 51) 34 rfl r1 ?_)|(refine zq20 rfl (.tmp 45) (.tmp 53) 23 rfl r2 ?_)))
    go_roundg (np - (j+1))
    case measure=>omega
    case rel=>exact⟨j+1,_,p2,C2,rfl,by omega,rfl,rfl,by rw[List.length_append,HR.out.2];rfl,HN.out⟩
  · obtain rfl:np=j:=by omega
    go_wp2_with (fail)
    exact⟨rfl,l,p7,C7,HR.out.2,⟨rfl,rfl,rfl,rfl,rfl,rfl,rfl,rfl,rfl⟩,HR.out.1⟩
end Go.Proofs
