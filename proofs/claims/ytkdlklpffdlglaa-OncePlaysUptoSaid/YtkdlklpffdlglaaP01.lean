/- YtkdlklpffdlglaaOPlays2: part 1 of the proof (the texts behind it, in order). -/
import Derived.Test.YtkdlklpffdlglaaP00
set_option linter.unusedSimpArgs false
set_option linter.unusedVariables false
set_option linter.unusedSectionVars false
set_option linter.unnecessarySimpa false
set_option maxHeartbeats 1000000
namespace Go.Car
open Go Go.Conc Go.RowKit
section
variable {P:Program} {main:Bool} {Kc:Addr->Option Value} {γ:Type} {J:γ->Goroutine->World->Prop} {A:FuncId->Bool}
theorem kk_setCell{w:World}{a:Addr}{v:Value}(hK:Kc a=none):OkD Kc (λ_=>True) w (w.setCell a v):=by
 refine⟨⟨λh b u hb=>?_,rfl,rfl⟩,λc _⟨cap,k,hx⟩=>by rw[(chans_setCell w a v).1 c _ hx (by simp),hx]⟩;obtain⟨h1,h2⟩:=h b u hb;constructor
 · rw[←h1];unfold World.cell? World.setCell;simp only[Array.getElem?_modify]
   by_cases hab:a.block=b.block
   · simp only[hab,if_true];cases ho:w.heap[b.block]? with
     |none=>rfl
     |some o=>
      cases o<;>try rfl
      simp only[Option.map_some]
      by_cases hs:b.spot.isSome=true
      · simp[hs]
      · simp only[hs]
        by_cases has:a.spot.isSome=true
        · simp[has]
        · simp only[has,Bool.false_eq_true,if_false]
          by_cases hoff:a.off=b.off
          · have:a=b:=by
             obtain⟨ab,ao,asp⟩:=a;obtain⟨bb,bo,bsp⟩:=b;simp only at hab hoff has hs;subst hab hoff;cases asp<;>simp_all
            rw[this,hb]at hK;cases hK
          · rw[al_gn hoff]
   · simp only[hab,if_false]
 · rw[←h2];unfold World.frozen? World.setCell;simp only[Array.getElem?_modify]
   by_cases hab:a.block=b.block
   · simp only[hab,if_true];cases ho:w.heap[b.block]? with
     |none=>rfl
     |some o=>cases o<;>rfl
   · simp only[hab,if_false]
theorem setCell_cells{w:World}{a:Addr}{v:Value}{b:Nat}(h:∃c e f,w.heap[b]?=some (.cells c e f)):∃c e f,(w.setCell a v).heap[b]?=some (.cells c e f):=by
 obtain⟨c,e,f,h⟩:=h;unfold World.setCell;simp only[Array.getElem?_modify,h];split<;>simp
theorem add_block(a:Addr)(i:Nat):(a.add i).block=a.block:=by unfold Addr.add;split<;>rfl
theorem runT_bind_ok{α β:Type}(s:Sem α)(f:α->Sem β):∀(w:World)(es:Array Event),(s.bind f).runT P w es=match s.runT P w es with
 |(.ok a w',es')=>(f a).runT P w' es'
 |(.halt h w',es')=>(.halt h w',es'):=by
 induction s with
 |pure a=>intro w es;rfl
 |load m a k ih=>
  intro w es;simp only[Sem.bind,Sem.runT];split
  · exact ih _ _ _
  · split
    · exact ih _ _ _
    · rfl
 |store m a v k ih=>
  intro w es
  by_cases hagg:(∃c,v=.agg c)\/∃c,v=.tuple c
  · rcases hagg with⟨c,rfl⟩|⟨c,rfl⟩<;>rfl
  · rw[show(Sem.store m a v k).bind f=Sem.store m a v (k.bind f)from rfl,runT_store hagg,runT_store hagg];split
    · split
      · rfl
      · exact ih _ _
    · split
      · exact ih _ _
      · rfl
 |new o k ih=>intro w es;exact ih _ _ _
 |shape r k ih=>intro w es;exact ih _ _ _
 |freeze a n k ih=>intro w es;exact ih _ _
 |frozen a k ih=>intro w es;exact ih _ _ _
 |getObj r k ih=>
  intro w es;simp only[Sem.bind,Sem.runT];split
  · rfl
  · exact ih _ _ _
  · rfl
 |setObj r o k ih=>
  intro w es;simp only[Sem.bind,Sem.runT];split<;>first|rfl |exact ih _ _
 |choose q k ih=>
  intro w es;simp only[Sem.bind,Sem.runT];split
  · exact ih _ _ _
  · exact ih _ _ _
 |sys c k ih=>intro w es;exact ih _ _ _
 |program k ih=>intro w es;exact ih P _ _
 |mark m k ih=>intro w es;exact ih _ _
 |halt h=>intro w es;rfl
theorem evs_storeCells{a:Addr}:∀(vs:List Value)(i:Nat)(w:World)(es:Array Event),(∀j,i<=j->j<i+vs.length->Kc (a.add j)=none)->(∃c e f,w.heap[a.block]?=some (.cells c e f))->
 (∀e∈((storeCells a vs i).runT P w es).2,e∈es\/EvOk Kc e)/\OkD Kc (λ_=>True) w (resW ((storeCells a vs i).runT P w es).1)
 |[],i,w,es,_,_=>⟨λe he=>.inl he,OkD.refl _ _ _⟩
 |v::r,i,w,es,hK,hb=>by
  have hs:storeCells a (v::r) i=(Sem.store .plain (a.add i) v (.pure ())).bind λ_=>storeCells a r (i+1):=rfl;rw[hs,runT_bind_ok]
  by_cases hagg:(∃c,v=.agg c)\/∃c,v=.tuple c
  · rcases hagg with⟨c,rfl⟩|⟨c,rfl⟩<;>exact⟨λe he=>.inl he,OkD.refl _ _ _⟩
  · rw[runT_store hagg];cases hc:w.cell? (a.add i)with
    |some x=>
     simp only[]
     by_cases hf:w.frozen? (a.add i)=true
     · simp only[hf,if_true];exact⟨λe he=>.inl he,OkD.refl _ _ _⟩
     · simp only[hf,Bool.false_eq_true,if_false,Sem.runT];have hKa:=hK i (Nat.le_refl _) (by simp);obtain⟨h1,h2⟩:=evs_storeCells r (i+1) (w.setCell (a.add i) v) (es.push ⟨.cell (a.add i),true,Mode.plain== .atomic⟩) (λj h1 h2=>hK j (by omega) (by simp;omega)) (setCell_cells hb);refine⟨λe he=>?_,(kk_setCell hKa).trans h2⟩;rcases h1 e he with h|h
       · rcases Array.mem_push.1 h with h|rfl
         · exact .inl h
         · exact .inr (evOk_write _ _ hKa)
       · exact .inr h
    |none=>
     obtain⟨c,e,f,hb⟩:=hb;have hfar:w.farStore P (a.add i) v (Mode.plain== .atomic)=.error (w.noCell (a.add i) "store: no such cell"):=by
      unfold World.farStore;rw[add_block,hb]
     simp only[hfar];exact⟨λe he=>.inl he,OkD.refl _ _ _⟩
theorem evs_store{ρ:Operand->Value}{o:Oper}{t:TypeId}{pa pv:Operand}{a:Addr}{w:World}(hop:o.op=.store t pa pv)(ha:ρ pa=.pointer (some a))(hK:∀j,j<(ρ pv).cells.size->Kc (a.add j)=none)(hb:∃c e f,w.heap[a.block]?=some (.cells c e f)):
 (∀e∈((execOp ρ o).runT P w #[]).2,EvOk Kc e)/\OkD Kc (λ_=>True) w (resW ((execOp ρ o).run P w)):=by
 have key:(∀e∈((execOp ρ o).runT P w #[]).2,EvOk Kc e)/\OkD Kc (λ_=>True) w (resW ((execOp ρ o).runT P w #[]).1):=by
  have e1:execOp ρ o=(Instr.storeAt t (ρ pa) (ρ pv)).bind λ_=>.pure .skip:=by
   unfold execOp;rw[hop];rfl
  have e2:Instr.storeAt t (ρ pa) (ρ pv)=storeVar t a (ρ pv):=by rw[ha];rfl
  rw[e1,runT_bind_ok,e2];have e3:storeVar t a (ρ pv)=(sizeOf t).bind λn=>if(ρ pv).cells.size≠n then(stuck "storeVar: the value has not the size of the variable" :Sem Unit).bind λ_=>storeCells a (ρ pv).cells.toList else storeCells a (ρ pv).cells.toList:=by
   unfold storeVar;show(sizeOf t).bind _=_;congr 1
  rw[e3,runT_bind_ok];have hsz:=runT_calm (P:=P) (sizeOf t) (tame_sizeOf (st:=false) t) w #[];have hbl:=runT_below (P:=P) (sizeOf t) (tame_sizeOf (st:=false) t) w #[];generalize (sizeOf t).runT P w #[]=r at hsz hbl;obtain⟨r,es⟩:=r;have hes:∀e∈es,EvOk Kc e:=λe he=>evOk_calm ((hsz e he).resolve_left (by simp));cases r with
  |halt h w'=>exact⟨hes,OkD.of_below hbl⟩
  |ok n w'=>
   have hb':∃c e f,w'.heap[a.block]?=some (.cells c e f):=by
    obtain⟨c,e,f,hb⟩:=hb;exact⟨c,e,f,by rw[←hb];exact hbl.block _ ((Array.getElem?_eq_some_iff.1 hb).1)⟩
   simp only[]
   by_cases hne:(ρ pv).cells.size≠n
   · simp only[if_pos hne];exact⟨hes,OkD.of_below hbl⟩
   · simp only[if_neg hne];obtain⟨h1,h2⟩:=evs_storeCells (P:=P) (ρ pv).cells.toList 0 w' es (λj _ h2=>hK j (by simpa using h2)) hb';generalize (storeCells a (ρ pv).cells.toList).runT P w' es=q at h1 h2;obtain⟨q,es'⟩:=q;have h3:∀e∈es',EvOk Kc e:=λe he=>(h1 e he).elim (hes e) id;cases q with
     |halt h w''=>exact⟨h3,(OkD.of_below hbl).trans h2⟩
     |ok x w''=>exact⟨h3,(OkD.of_below hbl).trans h2⟩
 rw[Sem.runT_eq]at key;exact⟨by rw[Sem.runT_eq];exact key.1,key.2⟩
theorem leaveJ(hJ:JS P main Kc J){b:Frame}{a:Act}{todo:List Item}{c:Frame}{cs:List Frame}{s:γ}{w:World}{fn:Func}{v:Value}(hn:b.kind=.normal)(hd:a.defers=[])(hf:P.funcs[b.fn]?=some fn)
 (hr:∀τ d,(results fn a.tmps).run P (re w τ d)=.ok v (re w τ d)) (h:J s (G (c.finish v) cs) w):J s (G {b.at a todo with mode:=.returning} (c::cs)) w:=by
 refine hJ.step _ _ _ rfl λτ d=>?_;obtain⟨he,hD⟩:=evs_read (Kc:=Kc) (P:=P) (s:=(results fn a.tmps).bind λ_=>.pure .skip) (tame_bind (tame_results fn a.tmps) λ_=>trivial) (re w τ d);have hev:∀e∈((results fn a.tmps).runT P (re w τ d) #[]).2,EvOk Kc e:=λe he=>evOk_calm ((runT_calm _ (tame_results fn a.tmps) _ #[] e he).resolve_left (by simp));refine⟨G (c.finish v) cs,re w τ d,seen P b.fn ((results fn a.tmps).runT P (re w τ d) #[]).2,?_,OkD.refl _ _ _,λe he=>hev e (mem_seen he),hJ.re' _ _ _ _ _ h⟩;have h1:((results fn a.tmps).runT P (re w τ d) #[]).1=.ok v (re w τ d):=by rw[Sem.runT_eq];exact hr τ d
 simp only[G,stepG,unwind,Frame.at,hd,hf];generalize (results fn a.tmps).runT P (re w τ d) #[]=r at h1;obtain⟨r,es⟩:=r;simp only at h1;subst h1;simp only[doReturn,hn,GStep.after,Array.append_empty]
theorem raiseJ(hJ:JS P main Kc J){b:Frame}{a:Act}{todo:List Item}{c:Frame}{cs:List Frame}{s:γ}{w:World}{fn:Func}{ch:List PanicEntry}(hd:a.defers=[])(hf:P.funcs[b.fn]?=some fn)
 (h:J s (G (c.raise ch) cs) w):J s (G {b.at a todo with mode:=.panicking ch} (c::cs)) w:=by
 refine hJ.step _ _ _ rfl λτ d=>⟨_,_,#[],?_,OkD.refl _ _ _,by simp,hJ.re' _ _ _ τ d h⟩;simp[G,stepG,unwind,Frame.catches,Frame.at,hd,hf]
end
section
variable {P:Program} {A:FuncId->Bool}
theorem doReturn_go{main:Bool}{fr:Frame}{cs:List Frame}{v:Value}{w1 w':World}{g':Goroutine}{es:Array Event}(h:doReturn P main fr cs none v w1=.go g' w' es):
 w'=w1/\es=#[]/\∀w2,doReturn P main fr cs none v w2=.go g' w2 #[]:=by
 unfold doReturn at h ⊢;cases cs with
 |cons c r=>
  simp only[]at h ⊢;cases hk:fr.kind<;>simp only[hk,GStep.go.injEq]at h ⊢ <;>exact⟨h.2.1.symm,h.2.2.symm,λw2=>⟨h.1,trivial,trivial⟩⟩
 |nil=>
  simp only[]at h ⊢;have key:∀X:GStep,X=(if(!main)=true then .go {frame:=fr,callers:=[],status:=.finished,dying:=none} w1 else match P.inits.idxOf? fr.fn with
   |some k=>.go {frame:=Frame.enter P (P.initFrom (k+1)) #[] .normal,callers:=[],status:=.running,dying:=none} w1
   |none=>.ended (.done v) w1)->X=.go g' w' es->w'=w1/\es=#[]/\∀w2,(if(!main)=true then .go {frame:=fr,callers:=[],status:=.finished,dying:=none} w2 else match P.inits.idxOf? fr.fn with
   |some k=>.go {frame:=Frame.enter P (P.initFrom (k+1)) #[] .normal,callers:=[],status:=.running,dying:=none} w2
   |none=>.ended (.done v) w2:GStep)=.go g' w2 #[]:=by
   rintro X rfl h;cases main with
   |false=>simp only[Bool.not_false,if_true,GStep.go.injEq]at h ⊢;exact⟨h.2.1.symm,h.2.2.symm,λw2=>⟨h.1,trivial,trivial⟩⟩
   |true=>
    simp only[Bool.not_true,Bool.false_eq_true,if_false]at h ⊢;cases hi:P.inits.idxOf? fr.fn with
    |some k=>simp only[hi,GStep.go.injEq]at h ⊢;exact⟨h.2.1.symm,h.2.2.symm,λw2=>⟨h.1,trivial,trivial⟩⟩
    |none=>rw[hi]at h;cases h
  cases hk:fr.kind<;>simp only[hk]at h ⊢ <;>first|exact key _ rfl h|cases h
theorem chans_apply(hP:Plain P A){main:Bool}{fr:Frame}{cs:List Frame}{s:Sem Next}{wc wc':World}{fr':Frame}{cs':List Frame}{es:Array Event}(hk:fr.kind≠.early)
 (hl:leaf P (okNext P A) s) (ht:tame P true s) (hs:stepG.apply P true fr cs none s wc=.go (G fr' cs') wc' es):Chans wc wc':=by
 have hg:=leaf_runT s ht hl wc #[];have hch:=runT_chans s ht wc #[];have hke:(fr.kind==CallKind.early)=false:=by simpa using hk
 unfold stepG.apply at hs;simp only[if_true,hke,Bool.false_eq_true,if_false]at hs;generalize hr:s.runT P wc #[]=r at hg hs hch;obtain⟨r,es'⟩:=r;simp only at hg hs hch;cases r with
 |ok nx w1=>
  have hnx:okNext P A nx:=hg;cases nx with
  |value v=>simp only[GStep.after,GStep.go.injEq]at hs;obtain⟨_,rfl,_⟩:=hs;exact hch
  |skip=>simp only[GStep.after,GStep.go.injEq]at hs;obtain⟨_,rfl,_⟩:=hs;exact hch
  |enter f args=>simp only[GStep.after,GStep.go.injEq]at hs;obtain⟨_,rfl,_⟩:=hs;exact hch
  |_=>exact hnx.elim
 |halt x w1=>
  rcases hg with hg|⟨b,rfl⟩
  · cases x with
    |panic v=>simp only[GStep.after,GStep.go.injEq]at hs;obtain⟨_,rfl,_⟩:=hs;exact hch
    |stuck s=>simp only[GStep.after]at hs;cases hs
    |unsupported u=>cases u<;>first|(simp only[GStep.after]at hs;cases hs)|exact hg.elim
    |_=>exact hg.elim
  · obtain⟨o,w'',es'',he⟩:=early_ended hP fr cs none b w1;simp only[he,GStep.after]at hs;cases hs
theorem chans_ctl{main:Bool}{fr:Frame}{cs:List Frame}{wc wc':World}{fr':Frame}{cs':List Frame}{es:Array Event}
 (hc:(∃g:Goroutine,∀w,stepG P main (G fr cs) w=.go g w)\/∀w,∃o w' es,stepG P main (G fr cs) w=.ended o w' es) (hs:stepG P main (G fr cs) wc=.go (G fr' cs') wc' es):Chans wc wc':=by
 rcases hc with⟨g,hc⟩|hc
 · rw[hc]at hs;cases hs;exact Chans.refl _
 · obtain⟨o,w',es',he⟩:=hc wc;rw[he]at hs;cases hs
theorem step_chans(hP:Plain P A){main:Bool}{fr:Frame}{cs:List Frame}{wc wc':World}{fr':Frame}{cs':List Frame}{es:Array Event}(ht:Top P A fr)
 (hs:stepG P main (G fr cs) wc=.go (G fr' cs') wc' es):Chans wc wc':=by
 obtain⟨fn,tmps,todo,defers,mode,kind,round⟩:=fr;have hrd:=ht.round;have hkd:=ht.kind;have hhd:=ht.head;simp only at hrd hkd hhd;subst hrd;rcases hhd with⟨rfl,i,t,rfl,hi⟩|⟨rfl,rfl⟩|⟨rfl,rfl⟩
 · cases i with
   |code c=>
    have hc:okCode P A c=true:=hi;cases c with
    |skip=>exact chans_ctl (.inl ⟨_,λw=>by simp only[G,stepG,stepG.exec];rfl⟩) hs
    |exit id=>
     refine chans_ctl ?_ hs;cases hx:exitTo id t with
     |some k'=>exact .inl ⟨_,λw=>by simp only[G,stepG,stepG.exec,hx,Option.elim];rfl⟩
     |none=>exact .inr λw=>by simp[G,stepG,stepG.exec,hx]
    |ret=>exact chans_ctl (.inl ⟨_,λw=>by simp only[G,stepG,stepG.exec];rfl⟩) hs
    |refuse why=>exact chans_ctl (.inr λw=>by simp[G,stepG,stepG.exec]) hs
    |region id ops draw=>
     cases draw with
     |false=>exact chans_ctl (.inl ⟨_,λw=>by simp only[G,stepG,stepG.exec,Bool.not_false,if_true];rfl⟩) hs
     |true=>
      have e:∀w:World,stepG P main (G ⟨fn,tmps,.code (.region id ops true)::t,defers,.run,kind,none⟩ cs) w=.go (G ⟨fn,tmps,.inRegion ops (Region.schedule (P.follows .mixedOrders) ops (w.tape w.drawn (.order fn id)))::t,defers,.run,kind,none⟩ cs) w.drew #[]:=by
       intro w;have:=stepG_region_draw (P:=P) (main:=main) (b:=⟨fn,tmps,[],[],.run,kind,none⟩) (a:=⟨tmps,defers⟩) (k:=t) (cs:=cs) (w:=w) (id:=id) (ops:=ops);exact this
      rw[e wc]at hs;cases hs;exact⟨λ_ _ h _=>h,rfl,rfl⟩
    |seq a b=>exact chans_ctl (.inl ⟨_,λw=>by simp only[G,stepG,stepG.exec];rfl⟩) hs
    |cond c a b=>
     refine chans_ctl ?_ hs;cases hb:(⟨fn,tmps,.code (.cond c a b)::t,defers,.run,kind,none⟩:Frame).eval c with
     |bool x=>exact .inl ⟨_,λw=>by simp only[G,stepG,stepG.exec,hb];rfl⟩
     |_=>exact .inr λw=>by simp[G,stepG,stepG.exec,hb]
    |block id c=>exact chans_ctl (.inl ⟨_,λw=>by simp only[G,stepG,stepG.exec];rfl⟩) hs
    |loop c=>exact chans_ctl (.inl ⟨_,λw=>by simp only[G,stepG,stepG.exec];rfl⟩) hs
    |_=>simp[okCode]at hc
   |inBlock id=>exact chans_ctl (.inl ⟨_,λw=>by simp only[G,stepG,stepG.exec];rfl⟩) hs
   |inLoop c=>exact chans_ctl (.inl ⟨_,λw=>by simp only[G,stepG,stepG.exec];rfl⟩) hs
   |inRegion ops l=>
    cases l with
    |nil=>exact chans_ctl (.inl ⟨_,λw=>by simp only[G,stepG,stepG.exec];rfl⟩) hs
    |cons j r=>
     cases hj:ops[j]? with
     |none=>
      refine chans_ctl (.inl ⟨G (Frame.finish ⟨fn,tmps,.inRegion ops (j::r)::t,defers,.run,kind,none⟩ undef) cs,λw=>?_⟩) hs;simp only[G,stepG,stepG.exec,hj,Option.map_none,Option.getD_none,Bool.false_eq_true,if_false]
     |some o=>
      cases hw:Region.wanted o (yielded ops tmps)with
      |false=>
       refine chans_ctl (.inl ⟨G (Frame.finish ⟨fn,tmps,.inRegion ops (j::r)::t,defers,.run,kind,none⟩ undef) cs,λw=>?_⟩) hs;simp only[G,stepG,stepG.exec,hj,Option.map_some,al_od,hw,Bool.false_eq_true,if_false]
      |true=>
       have e:∀w,stepG P main (G ⟨fn,tmps,.inRegion ops (j::r)::t,defers,.run,kind,none⟩ cs) w=stepG.apply P true ⟨fn,tmps,.inRegion ops (j::r)::t,defers,.run,kind,none⟩ cs none (execOp (Frame.eval ⟨fn,tmps,.inRegion ops (j::r)::t,defers,.run,kind,none⟩) o) w:=by
        intro w;have:=stepG_oper (P:=P) (main:=main) (b:=⟨fn,tmps,[],[],.run,kind,none⟩) (a:=⟨tmps,defers⟩) (k:=t) (cs:=cs) (w:=w) (ops:=ops) (i:=j) (rest:=r) hj hw;exact this
       rw[e wc]at hs;have hop:okOp P A o.op=true:=okItem_head hi hj;obtain⟨k1,k2⟩:=execOp_ok hP.fns o hop (Frame.eval ⟨fn,tmps,.inRegion ops (j::r)::t,defers,.run,kind,none⟩) (λf=>rfl);exact chans_apply (main:=main) hP (fr:=⟨fn,tmps,.inRegion ops (j::r)::t,defers,.run,kind,none⟩) hkd k2 k1 hs
   |_=>simp[okItem]at hi
 · exact chans_ctl (.inl ⟨_,λw=>by simp only[G,stepG,stepG.exec];rfl⟩) hs
 · simp only[G,stepG,unwind]at hs;cases hf:P.funcs[fn]? with
   |none=>
    rw[hf]at hs;obtain⟨rfl,rfl,h3⟩:=doReturn_go hs;exact Chans.refl _
   |some f=>
    rw[hf]at hs;simp only[]at hs;have h1:=runT_chans (P:=P) (results f tmps) (tame_more _ (tame_results f tmps)) wc #[];generalize (results f tmps).runT P wc #[]=r at h1 hs;obtain⟨r,es'⟩:=r;cases r with
    |halt x w1=>cases x<;>(simp only[GStep.after]at hs;cases hs)
    |ok v w1=>
     simp only[resW]at h1 hs;generalize hd:doReturn P main ⟨fn,tmps,todo,[],.returning,kind,none⟩ cs none v w1=S at hs;cases S<;>simp only[GStep.after,GStep.go.injEq,reduceCtorEq]at hs;rename_i g w2 es2;obtain⟨rfl,rfl,rfl⟩:=hs;obtain⟨rfl,_,_⟩:=doReturn_go hd;exact h1
end
section
variable {P:Program} {main:Bool} {Kc:Addr->Option Value} {γ:Type} {J:γ->Goroutine->World->Prop} {A:FuncId->Bool}
def enterAct(fn:Func)(args:Array Value):Act:={tmps:=args++Array.replicate (fn.ntmps - args.size) undef,defers:=[]}
def CalmJ(P:Program)(main:Bool){γ:Type}(J:γ->Goroutine->World->Prop):Prop:=
 ∀s fr cs w,(∀τ d,∃fr' cs' w' es,stepG P main (G fr cs) (re w τ d)=.go (G fr' cs') w' es/\(∀e∈es,calmEv true e)/\Chans w w'/\J s (G fr' cs') w')->J s (G fr cs) w
theorem calmJ_top(hcalm:CalmJ P main J)(hP:Plain P A){s:γ}{fr:Frame}{cs:List Frame}{w:World}(ht:Top P A fr)
 (h:∀τ d,∃fr' cs' w' es,stepG P main (G fr cs) (re w τ d)=.go (G fr' cs') w' es/\(∀e∈es,calmEv true e)/\J s (G fr' cs') w'):J s (G fr cs) w:=
 hcalm s fr cs w λτ d=>by
  obtain⟨fr',cs',w',es,h1,h2,h3⟩:=h τ d;have hc:=step_chans hP ht h1;exact⟨fr',cs',w',es,h1,h2,⟨hc.1,hc.2⟩,h3⟩
theorem results_re{fn:Func}{tmps:Array Value}{w:World}{v:Value}(h:(results fn tmps).run P w=.ok v w)(τ:Nat->Question->Nat)(d:Nat):(results fn tmps).run P (re w τ d)=.ok v (re w τ d):=by
 obtain⟨_,_,h3⟩:=runT_re _ (tame_more _ (tame_results (P:=P) fn tmps)) w #[];rw[Sem.runT_eq]at h3;have:=h3 τ d (λj hj=>by simp only[h,resW]at hj;omega);rw[Sem.runT_eq]at this;have:=(Prod.mk.inj this).1;rw[h]at this;simpa[resRe,resW]using this
def onlyRet(R:Value->World->Prop):Ending->World->Prop
 |.returned v,w=>R v w
 |_,_=>False
def onlyRetJ(R:Value->World->Prop)(s:γ)(s':γ):Ending->World->Prop
 |.returned v,w=>s'=s/\R v w
 |_,_=>False
theorem callsJ_lone(hJ:JS P main Kc J)(hcalm:CalmJ P main J)(hP:Plain P A){f:FuncId}{fn:Func}{c:Code}{args:Array Value}{s:γ}{w:World}(hf:P.funcs[f]?=some fn)(hb:fn.body=some c)(hc:okCode P A c=true)
 {R:Value->World->Prop} (hR:∀v w τ d,R v w->R v (re w τ d)) (h:∀τ d,Calls P f args (re w τ d) (onlyRet R)):CallsJ P J f args (λs'=>onlyRetJ R s s') s w:=by
 intro cl cs h1 h2
 let Φ:Frame->World->Prop:=λfr w=>fr.mode=.returning/\fr.defers=[]/\fr.kind=.normal/\fr.fn=f/\∃v,(results fn fr.tmps).run P w=.ok v w/\R v w
 refine lift hP (J:=λg w=>J s g w) (main:=main) (cs:=cl::cs) (λfr cs' w ht h=>calmJ_top hcalm hP ht h) (fine_enter args hf hb hc) (Φ:=Φ) ?_ (λfr w h=>h.1) ?_ ?_
 · rintro fr w τ d ⟨a,b,c,e,v,hv,hr⟩;exact⟨a,b,c,e,v,results_re hv τ d,hR _ _ _ _ hr⟩
 · intro τ d;obtain⟨e,w',fr,hRe,hcm,hfn,hl⟩:=h τ d [trap];cases e with
   |returned v=>
    obtain⟨n,hn⟩:=hcm;obtain⟨hm,hd,hk,fn',hf',hr⟩:=hl;rw[hfn,hf]at hf';obtain rfl:=Option.some.inj hf';exact⟨n,fr,w',hn,hm,hd,hk,hfn,v,hr,hRe⟩
   |_=>exact hRe.elim
 · rintro fr w ⟨hm,hd,hk,hfn,v,hv,hr⟩;have e:fr={(fr.at ⟨fr.tmps,[]⟩ fr.todo)with mode:=.returning,roundOf:=fr.roundOf}:=by
    obtain⟨fn',tmps,todo,defers,mode,kind,round⟩:=fr;simp only at hm hd;subst hm hd;rfl
   have hj:=h1 s v w ⟨rfl,hr⟩;refine hJ.step _ _ _ rfl λτ d=>?_;have hev:∀e∈((results fn fr.tmps).runT P (re w τ d) #[]).2,EvOk Kc e:=λe he=>evOk_calm ((runT_calm _ (tame_results fn fr.tmps) _ #[] e he).resolve_left (by simp));refine⟨G (cl.finish v) cs,re w τ d,seen P fr.fn ((results fn fr.tmps).runT P (re w τ d) #[]).2,?_,OkD.refl _ _ _,λe he=>hev e (mem_seen he),hJ.re' _ _ _ _ _ hj⟩;have h1:((results fn fr.tmps).runT P (re w τ d) #[]).1=.ok v (re w τ d):=by rw[Sem.runT_eq];exact results_re hv τ d
   rw[←hfn]at hf;simp only[G,stepG,unwind,hm,hd,hf];generalize (results fn fr.tmps).runT P (re w τ d) #[]=r at h1;obtain⟨r,es⟩:=r;simp only at h1;subst h1;simp only[doReturn,hk,GStep.after,Array.append_empty]
def HoldR(P:Program)(Fin:Machine->Trace->Prop)(Kc:Addr->Option Value)(Inb:Nat->Option Seat)(h n:Nat)(g:Goroutine)(w:World):Prop:=∀τ,Hold P Fin Kc Inb h n g (re w τ 0)
theorem holdR_re{Fin:Machine->Trace->Prop}{Kc:Addr->Option Value}{Inb:Nat->Option Seat}{h n:Nat}{g:Goroutine}{w:World}(H:HoldR P Fin Kc Inb h n g w)(τ:Nat->Question->Nat)(d:Nat):Hold P Fin Kc Inb h n g (re w τ d):=hold_at (H τ) d
theorem okD_less{Kc:Addr->Option Value}{Pb Pb':Nat->Prop}(hp:∀c,Pb' c->Pb c){w w':World}(h:OkD Kc Pb w w'):OkD Kc Pb' w w':=⟨h.1,λc hc=>h.2 c (hp c hc)⟩
theorem holdR_step{Fin:Machine->Trace->Prop}(hFin:Back P Fin){Kc:Addr->Option Value}{Inb:Nat->Option Seat}{h n:Nat}{g:Goroutine}{w:World}(hrun:g.status=.running)
 (hs:∀τ d,∃g' w' es,stepG P (h==0) g (re w τ d)=.go g' w' es/\OkD Kc (Seats Inb) (re w τ d) w'/\(∀e∈es,EvOk Kc e)/\HoldR P Fin Kc Inb h n g' w'):HoldR P Fin Kc Inb h n g w:=
 λτ=>hold_step hFin hrun λd=>by
  obtain⟨g',w',es,h1,h2,h3,h4⟩:=hs τ d;exact⟨g',w',es,h1,h2,h3,holdR_re h4 w'.tape w'.drawn⟩
theorem holdR_JS{Fin:Machine->Trace->Prop}(hFin:Back P Fin)(Kc:Addr->Option Value)(Inb:Nat->Option Seat)(h n:Nat):JS P (h==0) Kc (λ(_:Unit)=>HoldR P Fin Kc Inb h n):=
 ⟨λ_ g w τ d H τ'=>holdR_re H τ' 0,λ_ g w hr hs=>holdR_step hFin hr λτ d=>by
  obtain⟨g',w',es,h1,h2,h3,h4⟩:=hs τ d;exact⟨g',w',es,h1,okD_less (λ_ _=>trivial) h2,h3,h4⟩⟩
theorem holdR_calm{Fin:Machine->Trace->Prop}(hFin:Back P Fin){Inb:Nat->Option Seat}(hI:∀i,Inb i=none)(h n:Nat):CalmJ P (h==0) (λ(_:Unit)=>HoldR P Fin (λ_=>none) Inb h n):=
 λ_ fr cs w hs=>holdR_step hFin rfl λτ d=>by
  obtain⟨fr',cs',w',es,h1,h2,hch,h3⟩:=hs τ d;exact⟨_,w',es,h1,⟨⟨λ_ a v e=>(by cases e),hch.2.1,hch.2.2⟩,λc⟨i,s,hi,_⟩=>by rw[hI]at hi;cases hi⟩,λe he=>evOk_none (h2 e he),h3⟩
end
section
variable {P:Program} {main:Bool} {Kc:Addr->Option Value} {γ:Type} {J:γ->Goroutine->World->Prop}
end
end Go.Car
set_option maxHeartbeats 1000000
namespace Go.Car
open Go Go.Conc Go.RowKit
open Go.ConcN (upd upd_ne upd_same)
section
variable {P:Program}
inductive Behind(P:Program)(Kc:Addr->Option Value)(Inb:Nat->Option Seat)(h:Nat)(w:World)(g:Goroutine):Option Seat->Prop
 |sits (cb:Nat) (z:Value) (ok:Bool) (home:Goroutine->Prop) (hfresh:∀i s,i≠h->Inb i=some s->¬s.has cb) (hc:∃cap k,w.heap[cb]?=some (.chan cap #[] false k k false))
  (hs:∃B nh,Sits P (h==0) (KK Kc) (StillK Kc) B (Seat.one cb z ok home) nh g):Behind P Kc Inb h w g (some (Seat.one cb z ok home))
 |leaves (h0:0<h) (hq:∃nh,QuitsD P nh 0 g):Behind P Kc Inb h w g none
theorem evHd_of{Kc:Addr->Option Value}{B:Nat}{e:Event}(h:EvOk Kc e)(hl:(MemAct.ofEvent e).low B):EvHd (StillK Kc) B e:=⟨h.1,h.2.1,h.2.2,hl⟩
theorem KK_setChan{Kc:Addr->Option Value}{Inb:Nat->Option Seat}{w:World}(hch:∀i s c,Inb i=some s->s.has c->∃cap k,w.heap[c]?=some (.chan cap #[] false k k false))(hK:KK Kc w):
 ∀(w':World)(i:Nat)(s:Seat)(c cap:Nat)(buf:Array Value)(cl:Bool)(a b:Nat)(tm:Bool),Inb i=some s->s.has c->KK Kc w'->KK Kc (w'.setChan c cap buf cl a b tm):=by
 intro w' i s c cap buf cl a b tm hi hc hK' x v hx;have hne:x.block≠c:=by
  intro e;obtain⟨cap,k,hh⟩:=hch i s c hi hc;have:=(hK x v hx).1;rw[←e]at hh;simp[World.cell?,hh]at this
 obtain⟨h1,h2⟩:=hK' x v hx;have:(w'.setChan c cap buf cl a b tm).heap[x.block]?=w'.heap[x.block]?:=by
  show(w'.heap.setIfInBounds c _)[x.block]?=_;rw[al_gn (λe=>hne e.symm)]
 exact⟨by rw[←h1];simp only[World.cell?,this],by rw[←h2];simp only[World.frozen?,this]⟩
theorem give_hold{Fin:Machine->Trace->Prop}(hFin:Back P Fin){Kc:Addr->Option Value}{Inb:Nat->Option Seat}{h j n c:Nat}{z v z':Value}{ok:Bool}{home:Goroutine->Prop}{a a₂:Goroutine}{w:World}{es:Array Event}{new:Option Seat}
 (hjh:j≠h) (hjn:j<n) (hj:Inb j=some (Seat.one c z ok home)) (hrun:a.status=.running)
 (hsend:∀τ d,stepG P (h==0) a (re w τ d)=.comm a₂ #[scase c v z'] true .send (re w τ d) es) (hes:∀e∈es,EvOk Kc e)
 (hb:Behind P Kc Inb h w (Conc.served a₂ undef) new)
 (hnext:∀g₂ k cap,home g₂->w.heap[c]?=some (.chan cap #[] false k k false)->HoldR P Fin Kc (upd Inb h new) j n (Conc.served g₂ (recvd ok v true)) (w.setChan c cap #[] false (k+1) (k+1) false)):HoldR P Fin Kc Inb h n a w:=by
 intro τ d Mem B gs sl T q hM hsz hg C;have hsend':∀d',stepG P (h==0) a (((re w τ 0).at d).at d')=.comm a₂ #[scase c v z'] true .send (((re w τ 0).at d).at d') es:=λd'=>hsend τ d';obtain⟨B₁,hB₁⟩:=low_exists es;have fin:∀(B':Nat)(Mem':Nat->Prop)(Inb':Nat->Option Seat)(hInb:Inb'=upd Inb h new)(m':Machine)(T':Trace)(N:Nat),(Mem' h->True)->Mem j->
  runNT P N (crowd gs ((re w τ 0).at d) sl) T=(.next m',T')->Given P (KK Kc) (StillK Kc) B' Mem Inb' j (Seat.one c z ok home) c 0 gs.size ((re w τ 0).at d) v m' T'->Fin (crowd gs ((re w τ 0).at d) sl) T:=by
  intro B' Mem' Inb' hInb m' T' N _ hMj hr ⟨gs',g₂,d',k,cap,sl',q',hm,hsz',hgj,hhome,hheap,R⟩;subst hm;refine hFin N _ _ _ _ hr rfl rfl ?_;have hcr:commResult (Seat.one c z ok home).cases (Seat.one c z ok home).shape ((0:Nat):Int) v true=recvd ok v true:=commResult_one c z ok _ v true;rw[hcr]at hgj;have:=hnext g₂ k cap hhome hheap;subst hInb;exact holdR_re this τ d' 0 |> λH=>by
   have e:((re w τ 0).at d).at d'=re w τ d':=rfl;have H':=this τ;exact H' d' _ _ gs' sl' _ _ ⟨hMj,.inr rfl⟩ (by omega) hgj R
 have hchans:∀i s c,Inb i=some s->s.has c->∃cap k,((re w τ 0).at d).heap[c]?=some (.chan cap #[] false k k false):=λi s c hi hc=>C.chans i s c (λz=>z) hi hc;cases hb with
 |leaves h0 hq=>
  obtain⟨nh,hq⟩:=hq
  let B':=max B B₁
  have C':=ring_mono (Nat.le_max_left B B₁) C;obtain⟨N,m',T',hr,hG⟩:=give (λw d h=>h) (KK_setChan hchans C.keep) (sl:=sl) hjh (by omega) hj (kk:=0) (z:=z) rfl hM hg hrun hsend' (λe he=>evHd_of (hes e he) (MemAct.low_mono (Nat.le_max_right _ _) (hB₁ e he))) C'
   (Inb':=upd Inb h none) (λx hx=>upd_ne Inb _ hx) (.inr (upd_same Inb h none)) (nh:=nh) (λT' hD=>by rw[upd_same];exact⟨h0,by rw[hD];exact hq⟩)
  exact fin B' Mem _ rfl m' T' N (λ_=>trivial) ((C'.mem j _ hj).1) hr hG
 |sits cb zb okb homeb hfresh hc hs=>
  obtain⟨B₂,nh,hs⟩:=hs
  let B':=max B (max B₁ (max B₂ (cb+1)))
  have hBB:B<=B':=Nat.le_max_left _ _;have hB1:B₁<=B':=Nat.le_trans (Nat.le_max_left _ _) (Nat.le_max_right _ _);have hB2:B₂<=B':=Nat.le_trans (Nat.le_trans (Nat.le_max_left _ _) (Nat.le_max_right _ _)) (Nat.le_max_right _ _);have hB3:cb<B':=Nat.lt_of_lt_of_le (Nat.lt_succ_self cb) (Nat.le_trans (Nat.le_trans (Nat.le_max_right B₂ (cb+1)) (Nat.le_max_right _ _)) (Nat.le_max_right _ _));have C':=ring_mono hBB C;have C₁:=C'.reseat hM (Seat.one cb zb okb homeb) (Seat.one_wf _ _ _ _) (λi s' c' hi hI hc' hcc=>by rw[Seat.one_has]at hcc;subst hcc;exact hfresh i s' hi hI hc') (λc' hcc=>by rw[Seat.one_has]at hcc;subst hcc;exact hc) (λc' hcc=>by rw[Seat.one_has]at hcc;subst hcc;exact hB3);have hj₁:upd Inb h (some (Seat.one cb zb okb homeb)) j=some (Seat.one c z ok home):=by rw[upd_ne Inb _ hjh];exact hj
  have hchans₁:∀i s c,upd Inb h (some (Seat.one cb zb okb homeb)) i=some s->s.has c->∃cap k,((re w τ 0).at d).heap[c]?=some (.chan cap #[] false k k false):=λi s c hi hc=>C₁.chans i s c (λz=>z) hi hc;obtain⟨N,m',T',hr,hG⟩:=give (λw d h=>h) (KK_setChan hchans₁ C.keep) (sl:=sl) hjh (by omega) hj₁ (kk:=0) (z:=z) rfl hM hg hrun hsend' (λe he=>evHd_of (hes e he) (MemAct.low_mono hB1 (hB₁ e he))) C₁
   (Inb':=upd Inb h (some (Seat.one cb zb okb homeb))) (λx hx=>rfl) (.inl rfl) (nh:=nh) (λT' hD=>by rw[upd_same];exact sits_mono hB2 hs)
  exact fin B' Mem _ rfl m' T' N (λ_=>trivial) ((C'.mem j _ hj).1) hr hG
theorem hire_hold{Fin:Machine->Trace->Prop}(hFin:Back P Fin){Kc:Addr->Option Value}{Inb:Nat->Option Seat}{h n:Nat}{a a' child:Goroutine}{w:World}{es:Array Event}{new:Option Seat}
 (hrun:a.status=.running) (hgo:∀τ d,stepG P (h==0) a (re w τ d)=.spawn a' child (re w τ d) es) (hes:∀e∈es,EvOk Kc e) (hnew:Inb n=none) (hn:h≠n)
 (hb:Behind P Kc Inb h w a' new)
 (hnext:HoldR P Fin Kc (upd Inb h new) n (n+1) child w):HoldR P Fin Kc Inb h n a w:=by
 intro τ d Mem B gs sl T q hM hsz hg C;have hgo':∀d',stepG P (h==0) a (((re w τ 0).at d).at d')=.spawn a' child (((re w τ 0).at d).at d') es:=λd'=>hgo τ d';obtain⟨B₁,hB₁⟩:=low_exists es;subst hsz;cases hb with
 |leaves h0 hq=>
  obtain⟨nh,hq⟩:=hq;have C':=ring_mono (Nat.le_max_left B B₁) C;obtain⟨N,gs',d',sl',T',q',hr,hsz',hgc,R⟩:=hire_give (λw d h=>h) (sl:=sl) hM hg hrun hgo' (λe he=>evHd_of (hes e he) (MemAct.low_mono (Nat.le_max_right _ _) (hB₁ e he))) C' hnew
   (Inb':=upd Inb h none) (λx hx=>upd_ne Inb _ hx) (.inr (upd_same Inb h none)) (nh:=nh) (λT' hD=>by rw[upd_same];exact⟨h0,by rw[hD];exact hq⟩)
  exact hFin N _ _ _ _ hr rfl rfl (hnext τ d' _ _ gs' sl' _ _ (.inr rfl) hsz' hgc R)
 |sits cb zb okb homeb hfresh hc hs=>
  obtain⟨B₂,nh,hs⟩:=hs
  let B':=max B (max B₁ (max B₂ (cb+1)))
  have hBB:B<=B':=Nat.le_max_left _ _;have hB1:B₁<=B':=Nat.le_trans (Nat.le_max_left _ _) (Nat.le_max_right _ _);have hB2:B₂<=B':=Nat.le_trans (Nat.le_trans (Nat.le_max_left _ _) (Nat.le_max_right _ _)) (Nat.le_max_right _ _);have hB3:cb<B':=Nat.lt_of_lt_of_le (Nat.lt_succ_self cb) (Nat.le_trans (Nat.le_trans (Nat.le_max_right B₂ (cb+1)) (Nat.le_max_right _ _)) (Nat.le_max_right _ _));have C':=ring_mono hBB C;have C₁:=C'.reseat hM (Seat.one cb zb okb homeb) (Seat.one_wf _ _ _ _) (λi s' c' hi hI hc' hcc=>by rw[Seat.one_has]at hcc;subst hcc;exact hfresh i s' hi hI hc') (λc' hcc=>by rw[Seat.one_has]at hcc;subst hcc;exact hc) (λc' hcc=>by rw[Seat.one_has]at hcc;subst hcc;exact hB3);obtain⟨N,gs',d',sl',T',q',hr,hsz',hgc,R⟩:=hire_give (λw d h=>h) (sl:=sl) hM hg hrun hgo' (λe he=>evHd_of (hes e he) (MemAct.low_mono hB1 (hB₁ e he))) C₁ (by rw[upd_ne Inb _ (λe=>hn e.symm)];exact hnew)
   (Inb':=upd Inb h (some (Seat.one cb zb okb homeb))) (λx hx=>rfl) (.inl rfl) (nh:=nh) (λT' hD=>by rw[upd_same];exact sits_mono hB2 hs)
  exact hFin N _ _ _ _ hr rfl rfl (hnext τ d' _ _ gs' sl' _ _ (.inr rfl) hsz' hgc R)
end
end Go.Car
set_option maxHeartbeats 1000000
namespace Go.Car
open Go Go.Conc Go.RowKit
section
variable {P:Program} {main:Bool} {Kc:Addr->Option Value} {γ:Type} {J:γ->Goroutine->World->Prop} {A:FuncId->Bool}
def contAt(J:γ->Goroutine->World->Prop)(ops:Array Oper)(rest:List Nat)(b:Frame)(k:List Item)(cs:List Frame)(s:γ):Exit->Act->World->Prop
 |.normal,a,w=>J s (G (b.at a (.inRegion ops rest::k)) cs) w
 |.panic ch,a,w=>∀τ d todo,J s (G {b.at a todo with mode:=.panicking ch} cs) (re w τ d)
 |_,_,_=>False
theorem contAt_still(hJ:JS P main Kc J){ops:Array Oper}{rest:List Nat}{b:Frame}{k:List Item}{cs:List Frame}{s:γ}:Still' (contAt J ops rest b k cs s):=by
 intro e a w τ d τ' d' h;cases e with
 |normal=>have:=hJ.re' _ _ _ τ' d' h;exact this
 |panic ch=>exact λτ d=>h τ d
 |_=>exact h
theorem at_cons{b:Frame}{k:List Item}{cs:List Frame}(hb:b.kind≠.early)(hJ:JS P main Kc J){ops:Array Oper}{i:Nat}{rest:List Nat}{o:Oper}{s:γ}{a:Act}{w:World}(ho:ops[i]?=some o)(hw:Region.wanted o (yielded ops a.tmps)=true)
 (h:∀τ d,(∀e∈((execOp a.eval o).runT P (re w τ d) #[]).2,EvOk Kc e)/\OkD Kc (λ_=>True) (re w τ d) (resW ((execOp a.eval o).run P (re w τ d)))/\
  uponJ o a (λa' w'=>J s (G (b.at a' (.inRegion ops rest::k)) cs) w') (λch w'=>∀todo,J s (G {b.at a todo with mode:=.panicking ch} cs) w')
   (λf args w'=>False) ((execOp a.eval o).run P (re w τ d))):J s (G (b.at a (.inRegion ops (i::rest)::k)) cs) w:=by
 refine hJ.step _ _ _ rfl λτ d=>?_;obtain⟨h1,h2,h3⟩:=h τ d;have hfin:∀v,(b.at a (.inRegion ops (i::rest)::k)).finish v=b.at (a.put o.dst v) (.inRegion ops rest::k):=λv=>by rw[Frame.finish_at,ho];rfl
 have hk':(b.kind==CallKind.early)=false:=by simpa using hb
 have hrun:((execOp a.eval o).runT P (re w τ d) #[]).1=(execOp a.eval o).run P (re w τ d):=by rw[Sem.runT_eq]
 have hev:∀fn,∀e∈seen P fn ((execOp a.eval o).runT P (re w τ d) #[]).2,EvOk Kc e:=λfn e he=>h1 e (mem_seen he);rw[stepG_oper ho hw,stepG.apply];simp only[if_true];generalize hr:(execOp a.eval o).runT P (re w τ d) #[]=r at hrun hev;obtain⟨res,es⟩:=r;simp only at hrun hev;subst hrun;generalize hres:(execOp a.eval o).run P (re w τ d)=res at h2 h3;have hke:((b.at a (.inRegion ops (i::rest)::k)).kind==CallKind.early)=false:=hk';cases res with
 |ok nx w'=>
  cases nx with
  |value v=>exact⟨G ((b.at a (.inRegion ops (i::rest)::k)).finish v) cs,w',seen P b.fn es,by simp only[hke,Bool.false_eq_true,if_false,GStep.after,Array.append_empty];rfl,h2,hev _,by rw[hfin];exact h3⟩
  |skip=>exact⟨G ((b.at a (.inRegion ops (i::rest)::k)).finish undef) cs,w',seen P b.fn es,by simp only[hke,Bool.false_eq_true,if_false,GStep.after,Array.append_empty];rfl,h2,hev _,by rw[hfin];exact h3⟩
  |defer dd=>
   refine⟨G (b.at (({a with defers:=dd::a.defers}:Act).put o.dst undef) (.inRegion ops rest::k)) cs,w',seen P b.fn es,?_,h2,hev _,(show J s (G (b.at (({a with defers:=dd::a.defers}:Act).put o.dst undef) (.inRegion ops rest::k)) cs) w' from h3)⟩;simp only[hke,Bool.false_eq_true,if_false,GStep.after,Array.append_empty];have:(b.at {a with defers:=dd::a.defers} (.inRegion ops (i::rest)::k)).finish undef=b.at ({a with defers:=dd::a.defers}.put o.dst undef) (.inRegion ops rest::k):=by rw[Frame.finish_at,ho];rfl
   rw[←this];rfl
  |_=>exact h3.elim
 |halt hh w'=>
  cases hh with
  |panic v=>
   refine⟨G {b.at a (.inRegion ops (i::rest)::k)with mode:=.panicking [{v,recovered:=false}]} cs,w',seen P b.fn es,?_,h2,hev _,h3 _⟩;simp only[hke,Bool.false_eq_true,if_false,GStep.after,Array.append_empty];rfl
  |_=>exact h3.elim
theorem at_one{b:Frame}{k:List Item}{cs:List Frame}(hb:b.kind≠.early)(hJ:JS P main Kc J)(hA:Rows0 P A){ops:Array Oper}{i:Nat}{rest l:List Nat}{o:Oper}{s:γ}{a:Act}{w:World}(ho:ops[i]?=some o)(hok:okOp P A o.op=true)
 (hev:Region.wanted o (yielded ops a.tmps)=true->∀τ d,(∀e∈((execOp a.eval o).runT P (re w τ d) #[]).2,EvOk Kc e)/\OkD Kc (λ_=>True) (re w τ d) (resW ((execOp a.eval o).run P (re w τ d))))
 (L:Act->World->Prop) (hL:∀a w τ τ' d d',(∀j,τ' (d'+j)=τ (d+j))->L a (re w τ d)->L a (re w τ' d')) (hrest:∀a w,(∀τ d,L a (re w τ d))->J s (G (b.at a (.inRegion ops rest::k)) cs) w) (C:Exit->Act->World->Prop) (hp:∀ch a w,C (.panic ch) a w->∀todo,J s (G {b.at a todo with mode:=.panicking ch} cs) w)
 (h:∀τ d,if Region.wanted o (yielded ops a.tmps)=true then o.wp P a (re w τ d) L C else L (a.put o.dst undef) (re w τ d)):J s (G (b.at a (.inRegion ops (i::rest)::k)) cs) w:=by
 by_cases hw:Region.wanted o (yielded ops a.tmps)=true
 · simp only[hw,if_true]at h;refine at_cons hb hJ ho hw λτ d=>?_;obtain⟨he,hD⟩:=hev hw τ d;refine⟨he,hD,?_⟩;have ht:=(execOp_ok hA.ok o hok a.eval (act_func a)).1;have hlr:=list_run hA hok a (re w τ d);obtain⟨_,h2,h3⟩:=run_re _ ht w τ τ d d λ_=>rfl;have hyp:=h τ d;unfold Oper.wp at hyp;have key:∀w₁ a',(∀τ' d',(∀j,j<w₁.drawn - d->τ' (d'+j)=τ (d+j))->L a' (re w₁ τ' (d'+(w₁.drawn - d))))->J s (G (b.at a' (.inRegion ops rest::k)) cs) w₁:=by
    intro w₁ a' hk;refine hrest a' w₁ λτ' d'=>?_
    let n:=w₁.drawn - d
    let τs:Nat->Question->Nat:=λj=>if j<n then τ (d+j)else τ' (d'+(j - n))
    have:=hk τs 0 (λj hj=>by simp only[τs,Nat.zero_add];rw[if_pos hj]);refine hL a' w₁ τs τ' (0+n) d' (λj=>?_) this;simp only[τs];rw[if_neg (by omega)];congr 1;omega
   have again:∀τ' d',(∀j,j<(resW ((execOp a.eval o).run P (re w τ d))).drawn - d->τ' (d'+j)=τ (d+j))->(execOp a.eval o).run P (re w τ' d')=resRe ((execOp a.eval o).run P (re w τ d)) τ' (d'+((resW ((execOp a.eval o).run P (re w τ d))).drawn - d)):=by
    intro τ' d' hag;obtain⟨_,_,h3⟩:=runT_re _ ht (re w τ d) #[];rw[Sem.runT_eq]at h3;have:=h3 τ' d' λj hj=>hag j (by have hj':d+j<(resW ((execOp a.eval o).run P (re w τ d))).drawn:=hj;omega);rw[Sem.runT_eq]at this;exact(Prod.mk.inj this).1
   rcases hlr with⟨v,w',hr⟩|⟨w',hr⟩|⟨hh,w',hr⟩
   · rw[hr]at again ⊢;refine key w' _ λτ' d' hag=>?_;have h1:=h τ' d';unfold Oper.wp at h1;rw[again τ' d' hag]at h1;exact h1
   · rw[hr]at again ⊢;refine key w' _ λτ' d' hag=>?_;have h1:=h τ' d';unfold Oper.wp at h1;rw[again τ' d' hag]at h1;exact h1
   · rw[hr]at hyp ⊢;cases hh with
     |panic v=>exact hp _ _ _ hyp
     |_=>exact hyp.elim
 · simp only[hw]at h;exact hJ.ctl (λw=>stepG_unwanted ho (by simpa using hw)) (hrest _ _ λτ d=>h τ d)
theorem at_list{b:Frame}{k:List Item}{cs:List Frame}(hb:b.kind≠.early)(hJ:JS P main Kc J)(hA:Rows0 P A){ops:Array Oper}{rest:List Nat}{s:γ}:
 ∀(l:List (Nat×Oper))(a:Act)(w:World),(∀x∈l,ops[x.1]?=some x.2/\okOp P A x.2.op=true/\(readOp P x.2.op=true\/Kc=λ_=>none))->
  (∀τ d,wpList P ops (contAt J ops rest b k cs s) (l.map (·.2)) a (re w τ d))->J s (G (b.at a (.inRegion ops (l.map (·.1)++rest)::k)) cs) w:=by
 intro l
 induction l with
 |nil=>exact λa w _ h=>h w.tape w.drawn
 |cons x l ih=>
  intro a w hl h;obtain⟨i,o⟩:=x;obtain⟨ho,hok,hk⟩:=hl (i,o) (by simp);refine at_one hb (rest:=l.map (·.1)++rest) (l:=[]) hJ hA ho hok (λ_ τ d=>?_) (wpList P ops (contAt J ops rest b k cs s) (l.map (·.2))) (λa w τ τ' d d' hτ=>wpList_shift hA (contAt_still hJ) (λ_ _ h=>h) _ a w τ τ' d d' (λo ho=>?_) hτ)
   (λa w h=>ih a w (λx hx=>hl x (by simp[hx])) h) (contAt J ops rest b k cs s) (λch a w h=>h w.tape w.drawn) λτ d=>?_
  · rcases hk with hk|hk
    · exact evs_read (execOp_read o hk a.eval) _
    · exact evs_free (execOp_ok hA.ok o hok a.eval (act_func a)).1 hk _
  · obtain⟨x,hx,rfl⟩:=List.mem_map.1 ho;exact(hl x (by simp[hx])).2.1
  · have:=h τ d;simp only[List.map_cons,wpList]at this;split at this
    · rename_i hw;rw[if_pos hw];exact this.elim id (λ⟨_,a,w,h⟩=>h.elim)
    · rename_i hw;rw[if_neg hw];exact this
end
def chk(P:Program)(A:FuncId->Bool)(kc:Bool)(ops:Array Oper)(p m:Nat):Bool:=
 ((ops.toList.drop p).take m).all λo=>okOp P A o.op&&(!kc || readOp P o.op)
def pairs(p:Nat):List Oper->List (Nat×Oper)
 |[]=>[]
 |o::l=>(p,o)::pairs (p+1) l
theorem pairs_snd(l:List Oper):∀p,(pairs p l).map (·.2)=l:=by
 induction l with
 |nil=>intro p;rfl
 |cons o l ih=>intro p;simp[pairs,ih]
theorem pairs_fst(l:List Oper):∀p,(pairs p l).map (·.1)=List.range' p l.length:=by
 induction l with
 |nil=>intro p;rfl
 |cons o l ih=>intro p;simp[pairs,ih,List.range'_succ]
theorem pairs_mem(l:List Oper):∀p(x:Nat×Oper),x∈pairs p l->∃j,x.1=p+j/\l[j]?=some x.2:=by
 induction l with
 |nil=>intro p x h;cases h
 |cons o l ih=>
  intro p x h;rcases List.mem_cons.1 h with rfl |h
  · exact⟨0,rfl,rfl⟩
  · obtain⟨j,h1,h2⟩:=ih (p+1) x h;exact⟨j+1,by omega,by simpa using h2⟩
section
variable {P:Program} {main:Bool} {Kc:Addr->Option Value} {γ:Type} {J:γ->Goroutine->World->Prop} {A:FuncId->Bool}
theorem mid_ok{ops:Array Oper}{kc:Bool}{p m:Nat}(hk:kc=true\/Kc=λ_=>none)(hc:chk P A kc ops p m=true):
 ∀x∈pairs p ((ops.toList.drop p).take m),ops[x.1]?=some x.2/\okOp P A x.2.op=true/\(readOp P x.2.op=true\/Kc=λ_=>none):=by
 intro x hx;obtain⟨j,h1,h2⟩:=pairs_mem _ _ x hx;have hmem:x.2∈(ops.toList.drop p).take m:=List.mem_of_getElem? h2;have:=List.all_eq_true.1 hc x.2 hmem;simp only[Bool.and_eq_true]at this;refine⟨?_,this.1,?_⟩
 · rw[h1];have h3:(ops.toList.drop p)[j]?=some x.2:=by
    rw[List.getElem?_take]at h2;split at h2
    · exact h2
    · cases h2
   rw[List.getElem?_drop]at h3;simpa using h3
 · rcases hk with rfl |hk
   · exact .inl (by simpa using this.2)
   · exact .inr hk
theorem mid_len{ops:Array Oper}{p m r:Nat}(h:p+m+r=ops.size):((ops.toList.drop p).take m).length=m:=by
 simp;omega
theorem at_mid{b:Frame}{k:List Item}{cs:List Frame}(hb:b.kind≠.early)(hJ:JS P main Kc J)(hA:Rows0 P A)(kc:Bool)(hk:kc=true\/Kc=λ_=>none){ops:Array Oper}(p m r:Nat){s:γ}{a:Act}{w:World}
 (hsz:p+m+r=ops.size) (hc:chk P A kc ops p m=true)
 (h:∀τ d,wpList P ops (contAt J ops (List.range' (p+m) r) b k cs s) ((ops.toList.drop p).take m) a (re w τ d)):J s (G (b.at a (.inRegion ops (List.range' p (m+r))::k)) cs) w:=by
 have:=at_list (k:=k) (cs:=cs) hb hJ hA (rest:=List.range' (p+m) r) (pairs p ((ops.toList.drop p).take m)) a w (mid_ok hk hc) (λτ d=>by rw[pairs_snd];exact h τ d);rw[pairs_fst,mid_len hsz]at this;rw[List.range'_append_1]at this;exact this
end
@[go_sem] theorem re_cell? (w : World) (τ : Nat → Question → Nat) (d : Nat) (a : Addr) : (re w τ d).cell? a = w.cell? a := rfl
@[go_sem] theorem re_frozen? (w : World) (τ : Nat → Question → Nat) (d : Nat) (a : Addr) : (re w τ d).frozen? a = w.frozen? a := rfl
@[go_sem] theorem re_size (w : World) (τ : Nat → Question → Nat) (d : Nat) : (re w τ d).heap.size = w.heap.size := rfl
theorem re_setCell(w:World)(τ:Nat->Question->Nat)(d:Nat)(a:Addr)(v:Value):(re w τ d).setCell a v=re (w.setCell a v) τ d:=rfl
theorem re_alloc(w:World)(τ:Nat->Question->Nat)(d:Nat)(o:Obj):(re w τ d).alloc o=re (w.alloc o) τ d:=rfl
end Go.Car
namespace Go.Car
open Go Go.Conc Go.RowKit
section
variable {P:Program} {main:Bool} {b:Frame} {a:Act} {k:List Item} {cs:List Frame} {ops:Array Oper} {i:Nat} {rest:List Nat} {o:Oper}
def JX(P:Program)(Kc:Addr->Option Value)(J:Goroutine->World->Prop):Prop:=JS P false Kc (λ(_:Unit)=>J)
theorem send_at{c:Nat}{v z':Value}(ho:ops[i]?=some o)(hw:Region.wanted o (yielded ops a.tmps)=true)(hk:b.kind≠.early)
 (hr:∀w,(execOp a.eval o).run P w=.ok (.comm #[scase c v z'] true .send) w) (he:∀w,(execOp a.eval o).events P w #[]=#[]) (w:World):
 ∀τ d,stepG P main (G (b.at a (.inRegion ops (i::rest)::k)) cs) (re w τ d)=.comm (G (b.at a (.inRegion ops (i::rest)::k)) cs) #[scase c v z'] true .send (re w τ d) #[]:=
 λτ d=>by rw[stepG_comm ho hw hk (hr _),listed_none (he _)]
theorem spawn_at{d:Deferred}{f:Fn}{c:Array Value}(ho:ops[i]?=some o)(hw:Region.wanted o (yielded ops a.tmps)=true)(hk:b.kind≠.early)
 (hr:∀w,(execOp a.eval o).run P w=.ok (.spawn d) w) (hd:d.target=.fn f c) (he:∀w,(execOp a.eval o).events P w #[]=#[]) (w:World):
 ∀τ dd,stepG P main (G (b.at a (.inRegion ops (i::rest)::k)) cs) (re w τ dd)=.spawn (G (b.at (a.put o.dst undef) (.inRegion ops rest::k)) cs) (born P d) (re w τ dd) #[]:=
 λτ dd=>by rw[stepG_spawn ho hw hk (hr _) hd,listed_none (he _)]
end
end Go.Car
namespace Go.Car
open Go Go.Conc Go.RowKit
section
variable {P:Program} {main:Bool} {Kc:Addr->Option Value} {γ:Type} {J:γ->Goroutine->World->Prop} {A:FuncId->Bool}
theorem at_piece{b:Frame}{k:List Item}{cs:List Frame}(hb:b.kind≠.early)(hJ:JS P main Kc J)(hA:Rows0 P A)(kc:Bool)(hk:kc=true\/Kc=λ_=>none){ops:Array Oper}(p m r:Nat){todo rest:List Nat}{s:γ}{a:Act}{w:World}
 (hsz:p+m+r=ops.size) (ht:todo=List.range' p (m+r)) (hr:rest=List.range' (p+m) r) (hc:chk P A kc ops p m=true)
 (h:∀τ d,wpList P ops (contAt J ops rest b k cs s) ((ops.toList.drop p).take m) a (re w τ d)):J s (G (b.at a (.inRegion ops todo::k)) cs) w:=by
 subst ht hr;exact at_mid hb hJ hA kc hk p m r hsz hc h
theorem at_panic{b:Frame}{k:List Item}{cs:List Frame}(hb:b.kind≠.early)(hJ:JS P main Kc J){ops:Array Oper}{i:Nat}{rest:List Nat}{o:Oper}{s:γ}{a:Act}{w:World}{v:Value}(ho:ops[i]?=some o)(hw:Region.wanted o (yielded ops a.tmps)=true)
 (hr:∀w,(execOp a.eval o).run P w=.halt (.panic v) w) (he:∀w,(execOp a.eval o).events P w #[]=#[])
 (h:∀todo,J s (G {b.at a todo with mode:=.panicking [{v,recovered:=false}]} cs) w):J s (G (b.at a (.inRegion ops (i::rest)::k)) cs) w:=by
 refine at_cons hb hJ ho hw λτ d=>⟨?_,?_,?_⟩
 · rw[Sem.runT_eq,he];simp
 · rw[hr];exact OkD.refl _ _ _
 · rw[hr];exact λtodo=>hJ.re' _ _ _ τ d (h todo)
end
end Go.Car
set_option maxHeartbeats 1000000
namespace Go.Car
open Go Go.RowKit
abbrev Snap:=Nat->Option (Array Value×TypeId)
structure Cut(X:Snap)(w wc:World):Prop where
 is:∀b c e,X b=some (c,e)->w.heap[b]?=some (.cells c e)/\wc.heap[b]?=some (.cells #[] e)
 no:∀b,X b=none->wc.heap[b]?=w.heap[b]?
 size:wc.heap.size=w.heap.size
 tape:wc.tape=w.tape
 drawn:wc.drawn=w.drawn
 os:wc.os=w.os
 output:wc.output=w.output
theorem Cut.re {X:Snap}{w wc:World}(h:Cut X w wc)(τ:Nat->Question->Nat)(d:Nat):Cut X (re w τ d) (re wc τ d):=⟨h.is,h.no,h.size,rfl,rfl,h.os,h.output⟩
def apart(X:Snap)(e:Event):Prop:=∀a,e.loc=.cell a->X a.block=none
def fit{α:Type}:Result α->Prop
 |.ok _ _=>True
 |.halt (.panic _) _=>True
 |.halt _ _=>False
def setW{α:Type}:Result α->World->Result α
 |.ok a _,w=>.ok a w
 |.halt h _,w=>.halt h w
def zq2{α:Type}(P:Program)(s:Sem α):Prop:=∀(X:Snap)(w wc:World)(es:Array Event),Cut X w wc->fit (s.runT P wc es).1->
 ∃w',Cut X w' (resW (s.runT P wc es).1)/\s.runT P w es=(setW (s.runT P wc es).1 w',(s.runT P wc es).2)/\∀e∈(s.runT P wc es).2,e∈es\/apart X e
class Stdy {α:Type} (P:Program) (s:Sem α):Prop where
 out:zq2 P s
section
variable {α β:Type} {P:Program}
theorem steady_pure(a:α):zq2 P (Pure.pure a:Sem α):=λX w wc es h _=>⟨w,h,rfl,λe he=>.inl he⟩
theorem steady_halt(x:Halt):zq2 P (Sem.halt x:Sem α):=λX w wc es h _=>⟨w,h,rfl,λe he=>.inl he⟩
theorem runT_bind{s:Sem α}{f:α->Sem β}(w:World)(es:Array Event):(s>>= f).runT P w es=match s.runT P w es with
 |(.ok a w',es')=>(f a).runT P w' es'
 |(.halt x w',es')=>(.halt x w',es'):=by
 have:=runT_bind_ok (P:=P) s f w es;refine Eq.trans this ?_;split<;>simp_all
theorem steady_bind{s:Sem α}{f:α->Sem β}(hs:zq2 P s)(hf:∀a,zq2 P (f a)):zq2 P (s>>= f):=by
 intro X w wc es h hfit;have h1:=hs X w wc es h;rw[runT_bind]at hfit ⊢;rw[runT_bind w];generalize s.runT P wc es=r at h1 hfit;obtain⟨r,es'⟩:=r;cases r with
 |ok a wc'=>
  obtain⟨w',c1,e1,v1⟩:=h1 trivial;rw[e1];simp only[resW,setW]at c1 hfit ⊢;obtain⟨w'',c2,e2,v2⟩:=hf a X w' wc' es' c1 hfit;exact⟨w'',c2,e2,λe he=>(v2 e he).elim (v1 e) .inr⟩
 |halt x wc'=>
  have hx:fit (Result.halt x wc':Result α):=by cases x<;>first|trivial|exact hfit.elim
  obtain⟨w',c1,e1,v1⟩:=h1 hx;rw[e1];exact⟨w',c1,rfl,v1⟩
theorem steady_map{s:Sem α}{f:α->β}(hs:zq2 P s):zq2 P (Functor.map f s):=steady_bind hs λ_=>steady_pure _
instance (a:α):Stdy P (Pure.pure a:Sem α):=⟨steady_pure a⟩
instance (s:String):Stdy P (stuck s:Sem α):=⟨steady_halt _⟩
instance (u:Unsupported):Stdy P (unsupported u:Sem α):=⟨steady_halt _⟩
instance (v:Value):Stdy P (goPanic v:Sem α):=⟨steady_halt _⟩
theorem steady_program:zq2 P program:=λX w wc es h _=>⟨w,h,rfl,λe he=>.inl he⟩
instance:Stdy P program:=⟨steady_program⟩
theorem steady_choose(q:Question):zq2 P (choose q):=by
 intro X w wc es h _;unfold choose;simp only[Sem.runT]
 by_cases hq:q.forced=true
 · simp only[hq,if_true];exact⟨w,h,rfl,λe he=>.inl he⟩
 · simp only[hq,Bool.false_eq_true,if_false];refine⟨{w with drawn:=w.drawn+1},⟨h.is,h.no,h.size,h.tape,by show wc.drawn+1=w.drawn+1;rw[h.drawn],h.os,h.output⟩,?_,λe he=>.inl he⟩;rw[h.tape,h.drawn];rfl
instance (q:Question):Stdy P (choose q):=⟨steady_choose q⟩
theorem steady_mark(m:Mark):zq2 P (mark m):=by
 intro X w wc es h _;refine⟨w,h,rfl,λe he=>?_⟩;simp only[mark,Sem.runT]at he;rcases Array.mem_push.1 he with he|rfl
 · exact .inl he
 · exact .inr λa ha=>by cases ha
instance (m:Mark):Stdy P (mark m):=⟨steady_mark m⟩
theorem steady_newObj(o:Obj):zq2 P (newObj o):=by
 intro X w wc es h _;refine⟨{w with heap:=w.heap.push o},⟨λb c e hb=>?_,λb hb=>?_,?_,h.tape,h.drawn,h.os,h.output⟩,?_,λe he=>.inl he⟩
 · obtain⟨h1,h2⟩:=h.is b c e hb;have l1:=(Array.getElem?_eq_some_iff.1 h1).1;have l2:=(Array.getElem?_eq_some_iff.1 h2).1;constructor
   · show(w.heap.push o)[b]?=_;rw[Array.getElem?_push,if_neg (by omega)];exact h1
   · show(wc.heap.push o)[b]?=_;rw[Array.getElem?_push,if_neg (by omega)];exact h2
 · show(wc.heap.push o)[b]?=(w.heap.push o)[b]?;rw[Array.getElem?_push,Array.getElem?_push,h.size,h.no b hb]
 · show(wc.heap.push o).size=(w.heap.push o).size;simp[h.size]
 · show(Result.ok w.heap.size _,es)=(setW (Result.ok wc.heap.size _) _,es);rw[h.size];rfl
instance (o:Obj):Stdy P (newObj o):=⟨steady_newObj o⟩
theorem Cut.cell_in {X:Snap}{w wc:World}(h:Cut X w wc){a:Addr}{x}(hx:X a.block=some x):wc.cell? a=none:=by
 obtain⟨c,e⟩:=x;simp[World.cell?,(h.is _ _ _ hx).2]
theorem Cut.cell_out {X:Snap}{w wc:World}(h:Cut X w wc){a:Addr}(hx:X a.block=none):wc.cell? a=w.cell? a:=by
 simp[World.cell?,h.no _ hx]
theorem Cut.frozen {X:Snap}{w wc:World}(h:Cut X w wc)(a:Addr):wc.frozen? a=w.frozen? a:=by
 cases hx:X a.block with
 |none=>simp[World.frozen?,h.no _ hx]
 |some x=>obtain⟨c,e⟩:=x;simp[World.frozen?,(h.is _ _ _ hx).1,(h.is _ _ _ hx).2]
theorem Cut.frozen_in {X:Snap}{w wc:World}(h:Cut X w wc){a:Addr}{x}(hx:X a.block=some x):w.frozen? a=false:=by
 obtain⟨c,e⟩:=x;simp[World.frozen?,(h.is _ _ _ hx).1]
theorem Cut.shape_out {X:Snap}{w wc:World}(h:Cut X w wc){r:Nat}(hx:X r=none):wc.shape? r=w.shape? r:=by
 simp[World.shape?,h.no _ hx]
theorem Cut.shape_in {X:Snap}{w wc:World}(h:Cut X w wc){r:Nat}{c:Array Value}{e:TypeId}(hx:X r=some (c,e)):w.shape? r=some (e,c.size)/\wc.shape? r=some (e,0):=by
 simp[World.shape?,(h.is _ _ _ hx).1,(h.is _ _ _ hx).2]
theorem steady_frozen(a:Addr):zq2 P (frozen a):=by
 intro X w wc es h _;refine⟨w,h,?_,λe he=>.inl he⟩;show(Result.ok (w.frozen? a) w,es)=(setW (Result.ok (wc.frozen? a) wc) w,es);rw[h.frozen];rfl
instance (a:Addr):Stdy P (frozen a):=⟨steady_frozen a⟩
theorem steady_shape{r:Nat}{f:Option (TypeId×Nat)->Sem β}(he:∀e n,f (some (e,n))=f (some (e,0)))(hf:∀x,zq2 P (f x)):zq2 P (shape r>>= f):=by
 intro X w wc es h hfit;have e1:∀w,(shape r>>= f).runT P w es=(f (w.shape? r)).runT P w es:=λw=>rfl;rw[e1]at hfit;rw[e1,e1];cases hx:X r with
 |none=>rw[h.shape_out hx]at hfit ⊢;exact hf _ X w wc es h hfit
 |some x=>
  obtain⟨c,e⟩:=x;obtain⟨h1,h2⟩:=h.shape_in hx;rw[h2]at hfit;rw[h1,h2,he e c.size];exact hf _ X w wc es h hfit
theorem plain_bytes(P:Program):∀(d:Nat)(t:TypeId)(off:Nat)(v:Value),plainCell P d t off=some v->(∃b,v=.bool b)\/(∃k,v=.int k 0)\/(∃k,v=.float k 0)\/∃k,v=.complex k 0 0:=by
 intro d
 induction d with
 |zero=>intro t off v h;cases h
 |succ d ih=>
  intro t off v h;unfold plainCell at h;split at h
  · obtain⟨f,hf⟩:=Array.exists_of_findSome?_eq_some h;obtain⟨_,hf⟩:=hf;split at hf
    · exact ih _ _ _ hf
    · cases hf
  · simp only[]at h;split at h
    · cases h
    · exact ih _ _ _ h
  · split at h
    · cases h;exact .inl ⟨_,rfl⟩
    · cases h
  · split at h
    · cases h;exact .inr (.inl ⟨_,rfl⟩)
    · cases h
  · split at h
    · cases h;exact .inr (.inr (.inl ⟨_,rfl⟩))
    · cases h
  · split at h
    · cases h;exact .inr (.inr (.inr ⟨_,rfl⟩))
    · cases h
  · cases h
theorem plain_pos{P:Program}{d:Nat}{t:TypeId}{off:Nat}{v:Value}(h:plainCell P d t off=some v){l:List UInt8}(hl:v.bytes?=some l):0<l.length:=by
 rcases plain_bytes P d t off v h with⟨b,rfl⟩|⟨k,rfl⟩|⟨k,rfl⟩|⟨k,rfl⟩
 · cases hl;simp
 · cases k<;>(simp only[Value.bytes?,al_oi]at hl;subst hl;simp[IntKind.bits,leBytes])
 · cases k<;>(simp only[Value.bytes?,al_oi]at hl;subst hl;simp[FloatKind.bytes,leBytes])
 · cases k<;>(simp only[Value.bytes?,al_oi]at hl;subst hl;simp[FloatKind.bytes,leBytes])
theorem seenCells_none{P:Program}{e:TypeId}{f x stop:Nat}(h:x<stop):∃y,seenCells P #[] e f x stop=.error y:=by
 cases f with
 |zero=>exact⟨_,rfl⟩
 |succ f=>
  unfold seenCells;rw[if_neg (by omega)];simp only[];split
  · exact⟨_,rfl⟩
  · split
    · exact⟨_,rfl⟩
    · simp
theorem seen_err{P:Program}{w:World}{at_ k:Addr}{u e:TypeId}{b:Bool}(h:w.heap[at_.block]?=some (.cells #[] e)):∃y,w.seen P at_ u k b=.error y:=by
 unfold World.seen;simp only[bind,Except.bind,pure,Except.pure,throw,throwThe,MonadExceptOf.throw,h];split
 · exact⟨_,rfl⟩
 · split
   · rename_i like hlike;cases hb:like.bytes? with
     |none=>exact⟨_,by simp;rfl⟩
     |some l=>
      have hpos:=plain_pos hlike hb;simp only[Option.map_some];split
      · rename_i β hβ;split
        · exact⟨_,rfl⟩
        · split
          · rename_i b0 hb0;obtain⟨y,hy⟩:=seenCells_none (P:=P) (e:=e) (f:=l.length+1) (x:=at_.off / P.cellsOf e*P.bytesOf e+b0+β) (stop:=at_.off / P.cellsOf e*P.bytesOf e+b0+β+l.length) (by omega);rw[hy];exact⟨_,rfl⟩
          · exact⟨_,rfl⟩
      · exact⟨_,rfl⟩
   · exact⟨_,rfl⟩
theorem viewLoad_cut{X:Snap}{w wc:World}(h:Cut X w wc){at_ a:Addr}{u:TypeId}{b:Bool}{v:Value}{l:List Addr}(hv:wc.viewLoad P at_ u a b=.ok (v,l)):
 X at_.block=none/\w.viewLoad P at_ u a b=.ok (v,l)/\∀x∈l,x.block=at_.block:=by
 cases hx:X at_.block with
 |some x=>
  obtain⟨c,e⟩:=x;obtain⟨y,hy⟩:=seen_err (P:=P) (w:=wc) (at_:=at_) (k:=a) (u:=u) (b:=b) (h.is _ _ _ hx).2;unfold World.viewLoad at hv;simp only[hy,bind,Except.bind]at hv;cases hv
 |none=>
  have e:wc.viewLoad P at_ u a b=w.viewLoad P at_ u a b:=by
   unfold World.viewLoad World.seen;rw[h.no _ hx]
  refine⟨rfl,by rw[←e];exact hv,?_⟩;unfold World.viewLoad at hv;cases hs:wc.seen P at_ u a b with
  |error y=>simp only[hs,bind,Except.bind]at hv;cases hv
  |ok x=>
   obtain⟨_,_,_,first,like,cells⟩:=x;simp only[hs,bind,Except.bind,pure,Except.pure,throw,throwThe,MonadExceptOf.throw]at hv;split at hv
   · simp only[Except.ok.injEq,Prod.mk.injEq]at hv;obtain⟨_,rfl⟩:=hv;intro x hx;obtain⟨y,_,rfl⟩:=List.mem_map.1 hx;rfl
   · cases hv
theorem farLoad_cut{X:Snap}{w wc:World}(h:Cut X w wc){a:Addr}{b:Bool}{v:Value}{l:List Addr}(hv:wc.farLoad P a b=.ok (v,l)):w.farLoad P a b=.ok (v,l)/\X a.block=none/\∀x∈l,X x.block=none:=by
 cases hx:X a.block with
 |some x=>
  obtain⟨c,e⟩:=x;unfold World.farLoad at hv;rw[(h.is _ _ _ hx).2]at hv;cases hv
 |none=>
  have hh:=h.no _ hx;unfold World.farLoad at hv ⊢;rw[hh]at hv;split at hv
  · rename_i at_ u he;split at hv
    · rename_i r hr;cases hv;obtain⟨h1,h2,h3⟩:=viewLoad_cut h hr;rw[h2];exact⟨rfl,rfl,λx hx'=>by rw[h3 x hx'];exact h1⟩
    · cases hv
  · cases hv
theorem fit_far{α:Type}{wc:World}{a:Addr}{b:Bool}{x:Halt}{w':World}(hv:wc.farLoad P a b=.error x):¬fit (Result.halt x w':Result α):=by
 unfold World.farLoad at hv;split at hv
 · split at hv
   · cases hv
   · cases hv;exact id
 · cases hv;unfold World.noCell;split<;>exact id
theorem steady_load(a:Addr)(m:Mode):zq2 P (load a m):=by
 intro X w wc es h hfit;simp only[load,Sem.runT]at hfit ⊢;cases hx:X a.block with
 |some x=>
  rw[h.cell_in hx]at hfit;exfalso;obtain⟨c,e⟩:=x;have:wc.farLoad P a (m==Mode.atomic)=.error (wc.noCell a "load: no such cell"):=by
   unfold World.farLoad;rw[(h.is _ _ _ hx).2]
  simp only[this]at hfit;exact fit_far this hfit
 |none=>
  rw[←h.cell_out hx];cases hc:wc.cell? a with
  |some v=>
   refine⟨w,h,rfl,λe he=>?_⟩;rcases Array.mem_push.1 he with he|rfl
   · exact .inl he
   · exact .inr λy hy=>by cases hy;exact hx
  |none=>
   rw[hc]at hfit;simp only[]at hfit ⊢;cases hf:wc.farLoad P a (m==Mode.atomic)with
   |ok x=>
    obtain⟨v,l⟩:=x;obtain⟨h1,h2,h3⟩:=farLoad_cut h hf;rw[h1];refine⟨w,h,rfl,λe he=>?_⟩;rcases Array.mem_append.1 he with he|he
    · exact .inl he
    · obtain⟨y,hy,rfl⟩:=Array.mem_map.1 he;exact .inr λz hz=>by cases hz;exact h3 y (by simpa using hy)
   |error x=>
    rw[hf]at hfit;exact(fit_far hf hfit).elim
instance (a:Addr) (m:Mode):Stdy P (load a m):=⟨steady_load a m⟩
theorem steady_getObj(r:Nat):zq2 P (getObj r):=by
 intro X w wc es h hfit;simp only[getObj,Sem.runT]at hfit ⊢;cases hx:X r with
 |some x=>
  obtain⟨c,e⟩:=x;rw[(h.is _ _ _ hx).2]at hfit;exact hfit.elim
 |none=>
  rw[h.no _ hx]at hfit ⊢;cases ho:w.heap[r]? with
  |none=>rw[ho]at hfit;exact hfit.elim
  |some o=>
   rw[ho]at hfit;cases o<;>first
    |exact hfit.elim
    |(refine⟨w,h,rfl,λe he=>?_⟩
      rcases Array.mem_push.1 he with he|rfl
      · exact .inl he
      · exact .inr λy hy=>by cases hy)
instance (r:Nat):Stdy P (getObj r):=⟨steady_getObj r⟩
theorem Cut.setCell {X:Snap}{w wc:World}(h:Cut X w wc){a:Addr}(hx:X a.block=none)(v:Value):Cut X (w.setCell a v) (wc.setCell a v):=by
 refine⟨λb c e hb=>?_,λb hb=>?_,?_,h.tape,h.drawn,h.os,h.output⟩
 · have hne:a.block≠b:=λe=>by rw[e,hb]at hx;cases hx
   obtain⟨h1,h2⟩:=h.is b c e hb;constructor
   · show(w.heap.modify _ _)[b]?=_;rw[Array.getElem?_modify,if_neg hne];exact h1
   · show(wc.heap.modify _ _)[b]?=_;rw[Array.getElem?_modify,if_neg hne];exact h2
 · show(wc.heap.modify _ _)[b]?=(w.heap.modify _ _)[b]?;rw[Array.getElem?_modify,Array.getElem?_modify,h.no b hb]
 · show(wc.heap.modify _ _).size=(w.heap.modify _ _).size;simp[h.size]
theorem viewStore_cut{X:Snap}{w wc:World}(h:Cut X w wc){at_ a:Addr}{u:TypeId}{v:Value}{b:Bool}{wc':World}{l:List Addr}(hv:wc.viewStore P at_ u a v b=.ok (wc',l)):
 X at_.block=none/\(∃w',w.viewStore P at_ u a v b=.ok (w',l)/\Cut X w' wc')/\∀x∈l,x.block=at_.block:=by
 cases hx:X at_.block with
 |some x=>
  obtain⟨c,e⟩:=x;obtain⟨y,hy⟩:=seen_err (P:=P) (w:=wc) (at_:=at_) (k:=a) (u:=u) (b:=b) (h.is _ _ _ hx).2;unfold World.viewStore at hv;cases ht:tight P P.depth u<;>simp only[ht,hy,bind,Except.bind,Bool.not_true,Bool.not_false,Bool.false_eq_true,if_true,if_false,reduceIte,pure,Except.pure,throw,throwThe,MonadExceptOf.throw]at hv<;>cases hv
 |none=>
  have e:w.seen P at_ u a b=wc.seen P at_ u a b:=by
   unfold World.seen;rw[h.no _ hx]
  unfold World.viewStore at hv ⊢;rw[e];simp only[bind,Except.bind,pure,Except.pure,throw,throwThe,MonadExceptOf.throw]at hv ⊢;cases ht:tight P P.depth u<;>simp only[ht,Bool.not_true,Bool.not_false,Bool.false_eq_true,if_true,if_false,reduceIte]at hv ⊢
  · cases hv
  cases hs:wc.seen P at_ u a b with
  |error y=>simp only[hs]at hv;cases hv
  |ok x=>
   simp only[hs]at hv ⊢;obtain⟨c,e,fr,first,like,cells⟩:=x;simp only[]at hv ⊢;cases hb:v.bytes? with
   |none=>simp only[hb]at hv;cases hv
   |some bytes=>
    simp only[hb]at hv ⊢
    by_cases hl:some bytes.length≠Option.map (λx=>x.length) like.bytes?
    · simp only[if_pos hl]at hv;cases hv
    · simp only[if_neg hl]at hv ⊢;generalize (List.foldlM (m:=Except String) _ _ _:Except String (Array Value))=Y at hv ⊢;cases Y with
      |error _=>cases hv
      |ok Y=>
       simp only[Except.ok.injEq,Prod.mk.injEq]at hv ⊢;obtain⟨rfl,rfl⟩:=hv;refine⟨trivial,⟨_,⟨rfl,rfl⟩,?_⟩,λx hx'=>?_⟩
       · refine⟨λb c e hb=>?_,λb hb=>?_,?_,h.tape,h.drawn,h.os,h.output⟩
         · have hne:at_.block≠b:=λe=>by rw[e,hb]at hx;cases hx
           obtain⟨h1,h2⟩:=h.is b c e hb;constructor
           · show(w.heap.setIfInBounds _ _)[b]?=_;rw[al_gn hne];exact h1
           · show(wc.heap.setIfInBounds _ _)[b]?=_;rw[al_gn hne];exact h2
         · show(wc.heap.setIfInBounds _ _)[b]?=(w.heap.setIfInBounds _ _)[b]?;rw[al_gs,al_gs,h.no b hb,h.size]
         · show(wc.heap.setIfInBounds _ _).size=(w.heap.setIfInBounds _ _).size;simp[h.size]
       · obtain⟨y,_,rfl⟩:=List.mem_map.1 hx';rfl
theorem farStore_cut{X:Snap}{w wc:World}(h:Cut X w wc){a:Addr}{v:Value}{b:Bool}{wc':World}{l:List Addr}(hv:wc.farStore P a v b=.ok (wc',l)):
 X a.block=none/\(∃w',w.farStore P a v b=.ok (w',l)/\Cut X w' wc')/\∀x∈l,X x.block=none:=by
 cases hx:X a.block with
 |some x=>
  obtain⟨c,e⟩:=x;unfold World.farStore at hv;rw[(h.is _ _ _ hx).2]at hv;cases hv
 |none=>
  have hh:=h.no _ hx;unfold World.farStore at hv ⊢;rw[hh]at hv;split at hv
  · rename_i at_ u he;split at hv
    · rename_i r hr;cases hv;obtain⟨h1,⟨w',h2,h4⟩,h3⟩:=viewStore_cut h hr;rw[h2];exact⟨rfl,⟨w',rfl,h4⟩,λx hx'=>by rw[h3 x hx'];exact h1⟩
    · cases hv
  · cases hv
theorem fit_farS{α:Type}{wc:World}{a:Addr}{v:Value}{b:Bool}{x:Halt}{w':World}(hv:wc.farStore P a v b=.error x):¬fit (Result.halt x w':Result α):=by
 unfold World.farStore at hv;split at hv
 · split at hv
   · cases hv
   · cases hv;exact id
 · cases hv;unfold World.noCell;split<;>exact id
theorem steady_store(a:Addr)(v:Value)(m:Mode):zq2 P (store a v m):=by
 intro X w wc es h hfit;unfold store at hfit ⊢
 by_cases hagg:(∃c,v=.agg c)\/∃c,v=.tuple c
 · rcases hagg with⟨c,rfl⟩|⟨c,rfl⟩<;>exact hfit.elim
 · rw[runT_store hagg]at hfit ⊢;rw[runT_store hagg w];cases hx:X a.block with
   |some x=>
    rw[h.cell_in hx]at hfit;exfalso;obtain⟨c,e⟩:=x;have:wc.farStore P a v (m==Mode.atomic)=.error (wc.noCell a "store: no such cell"):=by
     unfold World.farStore;rw[(h.is _ _ _ hx).2]
    simp only[this]at hfit;exact fit_farS this hfit
   |none=>
    rw[←h.cell_out hx];cases hc:wc.cell? a with
    |some v'=>
     rw[hc]at hfit;simp only[]at hfit ⊢;rw[←h.frozen a]
     by_cases hf:wc.frozen? a=true
     · simp only[hf,if_true]at hfit;exact hfit.elim
     · simp only[hf,Bool.false_eq_true,if_false]at hfit ⊢;refine⟨_,h.setCell hx v,rfl,λe he=>?_⟩;rcases Array.mem_push.1 he with he|rfl
       · exact .inl he
       · exact .inr λy hy=>by cases hy;exact hx
    |none=>
     rw[hc]at hfit;simp only[]at hfit ⊢;cases hf:wc.farStore P a v (m==Mode.atomic)with
     |ok x=>
      obtain⟨wc',l⟩:=x;obtain⟨h1,⟨w',h2,h4⟩,h3⟩:=farStore_cut h hf;rw[h2];refine⟨w',h4,rfl,λe he=>?_⟩;rcases Array.mem_append.1 he with he|he
      · exact .inl he
      · obtain⟨y,hy,rfl⟩:=Array.mem_map.1 he;exact .inr λz hz=>by cases hz;exact h3 y (by simpa using hy)
     |error x=>
      rw[hf]at hfit;exact(fit_farS hf hfit).elim
instance (a:Addr) (v:Value) (m:Mode):Stdy P (store a v m):=⟨steady_store a v m⟩
end
section
variable {α β:Type} {P:Program}
theorem zauc0{p:Prop}(h:p:=by repeat' (first|with_reducible (first|exact Stdy.out|refine steady_map ?_|refine steady_shape ?_ (λ_=>?_)|refine steady_bind ?_ (λ_=>?_))|exact λ_ _=>rfl |split|simp only[])):p:=h
theorem steady_underlying(t:TypeId):zq2 P (underlying t):=by
 unfold underlying;exact zauc0
instance (t:TypeId):Stdy P (underlying t):=⟨steady_underlying t⟩
theorem steady_typeInfo(t:TypeId):zq2 P (typeInfo t):=by
 unfold typeInfo;exact zauc0
instance (t:TypeId):Stdy P (typeInfo t):=⟨steady_typeInfo t⟩
theorem steady_sizeOf(t:TypeId):zq2 P (sizeOf t):=by
 unfold sizeOf;exact zauc0
instance (t:TypeId):Stdy P (sizeOf t):=⟨steady_sizeOf t⟩
theorem steady_zeroValue(t:TypeId):zq2 P (zeroValue t):=by
 unfold zeroValue;exact zauc0
instance (t:TypeId):Stdy P (zeroValue t):=⟨steady_zeroValue t⟩
theorem steady_isAgg(t:TypeId):zq2 P (isAgg t):=by
 unfold isAgg;exact zauc0
instance (t:TypeId):Stdy P (isAgg t):=⟨steady_isAgg t⟩
theorem steady_elemOf(t:TypeId):zq2 P (elemOf t):=by
 unfold elemOf;exact zauc0
instance (t:TypeId):Stdy P (elemOf t):=⟨steady_elemOf t⟩
theorem steady_typeStr(t:TypeId):zq2 P (typeStr t):=by
 unfold typeStr;exact zauc0
instance (t:TypeId):Stdy P (typeStr t):=⟨steady_typeStr t⟩
theorem steady_loadCellsFrom(a:Addr):∀(n i:Nat)(acc:Array Value),zq2 P (loadCellsFrom a i n acc)
 |0,_,_=>steady_pure _
 |n+1,_,_=>steady_bind (steady_load _ _) λ_=>steady_loadCellsFrom a n _ _
theorem steady_loadCells(a:Addr)(n:Nat):zq2 P (loadCells a n):=steady_loadCellsFrom a n 0 #[]
instance (a:Addr) (n:Nat):Stdy P (loadCells a n):=⟨steady_loadCells a n⟩
theorem steady_storeCells(a:Addr):∀(vs:List Value)(i:Nat),zq2 P (storeCells a vs i)
 |[],_=>steady_pure _
 |_::r,i=>steady_bind (steady_store _ _ _) λ_=>steady_storeCells a r (i+1)
instance (a:Addr) (vs:List Value) (i:Nat):Stdy P (storeCells a vs i):=⟨steady_storeCells a vs i⟩
theorem steady_loadVar(t:TypeId)(a:Addr):zq2 P (loadVar t a):=by
 unfold loadVar;exact zauc0
instance (t:TypeId) (a:Addr):Stdy P (loadVar t a):=⟨steady_loadVar t a⟩
theorem steady_storeVar(t:TypeId)(a:Addr)(v:Value):zq2 P (storeVar t a v):=by
 unfold storeVar;exact zauc0
theorem steady_newRow(t:TypeId)(c:Array Value):zq2 P (newRow t c):=by
 unfold newRow;exact zauc0
instance (t:TypeId) (c:Array Value):Stdy P (newRow t c):=⟨steady_newRow t c⟩
theorem steady_newVar(t:TypeId)(v:Value):zq2 P (newVar t v):=by
 unfold newVar;exact zauc0
instance (t:TypeId) (v:Value):Stdy P (newVar t v):=⟨steady_newVar t v⟩
theorem steady_part(t:TypeId)(cs:Array Value)(off:Nat):zq2 P (part t cs off):=by
 unfold part;exact zauc0
instance (t:TypeId) (cs:Array Value) (off:Nat):Stdy P (part t cs off):=⟨steady_part t cs off⟩
theorem steady_runtimePanic(e:RuntimeError):zq2 P (runtimePanic e:Sem α):=by
 unfold runtimePanic;cases e<;>repeat' (first|with_reducible (first|exact Stdy.out|refine steady_map ?_|refine steady_shape ?_ (λ_=>?_)|refine steady_bind ?_ (λ_=>?_))|exact λ_ _=>rfl |split|simp only[])
instance (e:RuntimeError):Stdy P (runtimePanic e:Sem α):=⟨steady_runtimePanic e⟩
theorem steady_boundsPanic(k:IntKind)(x y:Int)(c:BoundsCode):zq2 P (boundsPanic k x y c:Sem α):=by
 unfold boundsPanic;exact zauc0
instance (k:IntKind) (x y:Int) (c:BoundsCode):Stdy P (boundsPanic k x y c:Sem α):=⟨steady_boundsPanic k x y c⟩
theorem steady_asIntOf(v:Value):zq2 P (asIntOf v):=by
 unfold asIntOf;exact zauc0
instance (v:Value):Stdy P (asIntOf v):=⟨steady_asIntOf v⟩
theorem steady_asInt(v:Value):zq2 P (asInt v):=by
 unfold asInt;exact zauc0
instance (v:Value):Stdy P (asInt v):=⟨steady_asInt v⟩
theorem steady_asBool(v:Value):zq2 P (asBool v):=by
 unfold asBool;exact zauc0
instance (v:Value):Stdy P (asBool v):=⟨steady_asBool v⟩
theorem steady_asAgg(v:Value):zq2 P (asAgg v):=by
 unfold asAgg;exact zauc0
instance (v:Value):Stdy P (asAgg v):=⟨steady_asAgg v⟩
theorem steady_asAddr(v:Value):zq2 P (asAddr v):=by
 unfold asAddr;exact zauc0
instance (v:Value):Stdy P (asAddr v):=⟨steady_asAddr v⟩
theorem steady_sureAddr(v:Value):zq2 P (Instr.sureAddr v):=by
 unfold Instr.sureAddr;exact zauc0
instance (v:Value):Stdy P (Instr.sureAddr v):=⟨steady_sureAddr v⟩
theorem steady_viewAt(r:Nat):zq2 P (viewAt r):=by
 unfold viewAt;refine steady_shape (λe n=>rfl) λx=>?_;exact zauc0
instance (r:Nat):Stdy P (viewAt r):=⟨steady_viewAt r⟩
theorem steady_noView(a:Addr):zq2 P (noView a):=by
 unfold noView;exact zauc0
instance (a:Addr):Stdy P (noView a):=⟨steady_noView a⟩
theorem steady_byteOf(a:Addr):zq2 P (byteOf a):=by
 unfold byteOf;exact zauc0
instance (a:Addr):Stdy P (byteOf a):=⟨steady_byteOf a⟩
theorem steady_partAt(a:Addr)(i j:Nat):zq2 P (partAt a i j):=by
 unfold partAt;exact zauc0
instance (a:Addr) (i j:Nat):Stdy P (partAt a i j):=⟨steady_partAt a i j⟩
theorem steady_fieldPlace(a:Addr)(f:Field):zq2 P (fieldPlace a f):=by
 unfold fieldPlace;exact zauc0
instance (a:Addr) (f:Field):Stdy P (fieldPlace a f):=⟨steady_fieldPlace a f⟩
theorem steady_alloc(t:TypeId):zq2 P (Instr.alloc t true (.tuple #[])):=by
 unfold Instr.alloc;exact zauc0
instance (t:TypeId):Stdy P (Instr.alloc t true (.tuple #[])):=⟨steady_alloc t⟩
theorem steady_box(t:TypeId)(v:Value):zq2 P (Instr.box t v):=by
 unfold Instr.box;exact zauc0
instance (t:TypeId) (v:Value):Stdy P (Instr.box t v):=⟨steady_box t v⟩
theorem steady_mapM{γ δ:Type}(f:γ->Sem δ)(h:∀a,zq2 P (f a))(l:List γ):zq2 P (l.mapM f):=by
 induction l with
 |nil=>exact steady_pure _
 |cons a l ih=>rw[List.mapM_cons];exact steady_bind (h a) λ_=>steady_bind ih λ_=>steady_pure _
theorem steady_mapMA{γ δ:Type}(f:γ->Sem δ)(h:∀a,zq2 P (f a))(l:Array γ):zq2 P (l.mapM f):=by
 rw[Array.mapM_eq_mapM_toList];exact steady_map (steady_mapM f h _)
instance {γ δ:Type} (f:γ->Sem δ) [h:∀a,Stdy P (f a)] (l:Array γ):Stdy P (l.mapM f):=⟨steady_mapMA f (λa=>(h a).out) l⟩
instance {γ δ:Type} (s:Sem γ) (f:γ->Sem δ) [hs:Stdy P s] [h:∀a,Stdy P (f a)]:Stdy P (s>>= f):=⟨steady_bind hs.out (λa=>(h a).out)⟩
theorem steady_build(t:TypeId)(ps:Array (Nat×Value)):zq2 P (Instr.build t ps):=by
 unfold Instr.build;exact zauc0
instance (t:TypeId) (ps:Array (Nat×Value)):Stdy P (Instr.build t ps):=⟨steady_build t ps⟩
theorem steady_buildSlice(t:TypeId)(n:Nat)(ps:Array (Nat×Value)):zq2 P (Instr.buildSlice t n ps):=by
 unfold Instr.buildSlice;exact zauc0
instance (t:TypeId) (n:Nat) (ps:Array (Nat×Value)):Stdy P (Instr.buildSlice t n ps):=⟨steady_buildSlice t n ps⟩
theorem steady_loadAt(t:TypeId)(v:Value):zq2 P (Instr.loadAt t v):=by
 unfold Instr.loadAt;exact zauc0
instance (t:TypeId) (v:Value):Stdy P (Instr.loadAt t v):=⟨steady_loadAt t v⟩
theorem steady_storeAt(t:TypeId)(v x:Value):zq2 P (Instr.storeAt t v x):=steady_bind (steady_sureAddr v) λ_=>steady_storeVar t _ x
instance (t:TypeId) (v x:Value):Stdy P (Instr.storeAt t v x):=⟨steady_storeAt t v x⟩
theorem steady_fieldAt(t:TypeId)(v:Value)(i:Nat):zq2 P (Instr.fieldAt t v i):=by
 unfold Instr.fieldAt;exact zauc0
instance (t:TypeId) (v:Value) (i:Nat):Stdy P (Instr.fieldAt t v i):=⟨steady_fieldAt t v i⟩
theorem steady_indexAt(t:TypeId)(v x:Value):zq2 P (Instr.indexAt t v x):=by
 unfold Instr.indexAt;exact zauc0
instance (t:TypeId) (v x:Value):Stdy P (Instr.indexAt t v x):=⟨steady_indexAt t v x⟩
theorem steady_sliceBound(v:Value)(y:Nat)(c:BoundsCode):zq2 P (Instr.sliceBound v y c):=by
 unfold Instr.sliceBound;exact zauc0
instance (v:Value) (y:Nat) (c:BoundsCode):Stdy P (Instr.sliceBound v y c):=⟨steady_sliceBound v y c⟩
theorem steady_sliceBounds(b:Bool)(n m:Nat)(x y z:Option Value):zq2 P (Instr.sliceBounds b n m x y z):=by
 unfold Instr.sliceBounds;exact zauc0
instance (b:Bool) (n m:Nat) (x y z:Option Value):Stdy P (Instr.sliceBounds b n m x y z):=⟨steady_sliceBounds b n m x y z⟩
theorem steady_slice(t:TypeId)(v:Value)(x y z:Option Value):zq2 P (Instr.slice t v x y z):=by
 unfold Instr.slice;exact zauc0
instance (t:TypeId) (v:Value) (x y z:Option Value):Stdy P (Instr.slice t v x y z):=⟨steady_slice t v x y z⟩
theorem steady_sliceAt(t:TypeId)(v:Value)(x y z:Option Value):zq2 P (Instr.sliceAt t v x y z):=by
 unfold Instr.sliceAt;exact zauc0
instance (t:TypeId) (v:Value) (x y z:Option Value):Stdy P (Instr.sliceAt t v x y z):=⟨steady_sliceAt t v x y z⟩
theorem steady_makeInterface(t:TypeId)(v:Value):zq2 P (Instr.makeInterface t v):=by
 unfold Instr.makeInterface;exact zauc0
instance (t:TypeId) (v:Value):Stdy P (Instr.makeInterface t v):=⟨steady_makeInterface t v⟩
theorem steady_makeFunc(f:Fn)(a b:Array Value):zq2 P (Instr.makeFunc f a b):=by
 unfold Instr.makeFunc;exact zauc0
instance (f:Fn) (a b:Array Value):Stdy P (Instr.makeFunc f a b):=⟨steady_makeFunc f a b⟩
theorem steady_makeChan(t:TypeId)(v:Value):zq2 P (Instr.makeChan t v):=by
 unfold Instr.makeChan;exact zauc0
instance (t:TypeId) (v:Value):Stdy P (Instr.makeChan t v):=⟨steady_makeChan t v⟩
theorem steady_askRoom(n:Nat):zq2 P (askRoom n):=by
 unfold askRoom;exact zauc0
instance (n:Nat):Stdy P (askRoom n):=⟨steady_askRoom n⟩
theorem steady_makeSlice(t:TypeId)(a b:Value):zq2 P (Instr.makeSlice t a b):=by
 unfold Instr.makeSlice;exact zauc0
instance (t:TypeId) (a b:Value):Stdy P (Instr.makeSlice t a b):=⟨steady_makeSlice t a b⟩
theorem steady_field(t:TypeId)(v:Value)(i:Nat):zq2 P (Instr.field t v i):=by
 unfold Instr.field;exact zauc0
instance (t:TypeId) (v:Value) (i:Nat):Stdy P (Instr.field t v i):=⟨steady_field t v i⟩
theorem steady_index(t:TypeId)(v x:Value):zq2 P (Instr.index t v x):=by
 unfold Instr.index;exact zauc0
instance (t:TypeId) (v x:Value):Stdy P (Instr.index t v x):=⟨steady_index t v x⟩
theorem steady_extract(v:Value)(i:Nat):zq2 P (Instr.extract v i):=by
 unfold Instr.extract;exact zauc0
instance (v:Value) (i:Nat):Stdy P (Instr.extract v i):=⟨steady_extract v i⟩
theorem steady_typeAssert(v:Value)(t u:TypeId)(b:Bool):zq2 P (Instr.typeAssert v t u b):=by
 unfold Instr.typeAssert;exact zauc0
instance (v:Value) (t u:TypeId) (b:Bool):Stdy P (Instr.typeAssert v t u b):=⟨steady_typeAssert v t u b⟩
theorem steady_intArith(o:BinOp)(k:IntKind)(x y:Int):zq2 P (Op.intArith o k x y):=by
 unfold Op.intArith;exact zauc0
instance (o:BinOp) (k:IntKind) (x y:Int):Stdy P (Op.intArith o k x y):=⟨steady_intArith o k x y⟩
theorem steady_intDiv(o:BinOp)(k:IntKind)(x y:Int):zq2 P (Op.intDiv o k x y):=by
 unfold Op.intDiv;exact zauc0
instance (o:BinOp) (k:IntKind) (x y:Int):Stdy P (Op.intDiv o k x y):=⟨steady_intDiv o k x y⟩
theorem steady_intBits(o:BinOp)(k:IntKind)(x y:Int):zq2 P (Op.intBits o k x y):=by
 unfold Op.intBits;exact zauc0
instance (o:BinOp) (k:IntKind) (x y:Int):Stdy P (Op.intBits o k x y):=⟨steady_intBits o k x y⟩
theorem steady_intCmp(o:BinOp)(x y:Int):zq2 P (Op.intCmp o x y):=by
 unfold Op.intCmp;exact zauc0
instance (o:BinOp) (x y:Int):Stdy P (Op.intCmp o x y):=⟨steady_intCmp o x y⟩
theorem steady_shift(o:BinOp)(k:IntKind)(x:Int)(l:IntKind)(y:Int):zq2 P (Op.shift o k x l y):=by
 unfold Op.shift;exact zauc0
instance (o:BinOp) (k:IntKind) (x:Int) (l:IntKind) (y:Int):Stdy P (Op.shift o k x l y):=⟨steady_shift o k x l y⟩
theorem steady_floatArith(o:BinOp)(k:FloatKind)(x y:Nat):zq2 P (Op.floatArith o k x y):=by
 unfold Op.floatArith;exact zauc0
instance (o:BinOp) (k:FloatKind) (x y:Nat):Stdy P (Op.floatArith o k x y):=⟨steady_floatArith o k x y⟩
theorem steady_floatCmp(o:BinOp)(k:FloatKind)(x y:Nat):zq2 P (Op.floatCmp o k x y):=by
 unfold Op.floatCmp;exact zauc0
instance (o:BinOp) (k:FloatKind) (x y:Nat):Stdy P (Op.floatCmp o k x y):=⟨steady_floatCmp o k x y⟩
theorem steady_stringOp(o:BinOp)(x y:ByteArray):zq2 P (Op.stringOp o x y):=by
 unfold Op.stringOp;exact zauc0
instance (o:BinOp) (x y:ByteArray):Stdy P (Op.stringOp o x y):=⟨steady_stringOp o x y⟩
theorem steady_floatToFloat(k:FloatKind)(x:Nat)(l:FloatKind):zq2 P (Conv.floatToFloat k x l):=by
 unfold Conv.floatToFloat;exact zauc0
instance (k:FloatKind) (x:Nat) (l:FloatKind):Stdy P (Conv.floatToFloat k x l):=⟨steady_floatToFloat k x l⟩
theorem steady_carith(o:BinOp)(k:FloatKind)(x y:Nat):zq2 P (Op.Complex.arith o k x y):=by
 unfold Op.Complex.arith;exact zauc0
instance (o:BinOp) (k:FloatKind) (x y:Nat):Stdy P (Op.Complex.arith o k x y):=⟨steady_carith o k x y⟩
theorem steady_ccmp(o:BinOp)(k:FloatKind)(x y:Nat):zq2 P (Op.Complex.cmp o k x y):=by
 unfold Op.Complex.cmp;exact zauc0
instance (o:BinOp) (k:FloatKind) (x y:Nat):Stdy P (Op.Complex.cmp o k x y):=⟨steady_ccmp o k x y⟩
theorem steady_cconv(k:FloatKind)(x:Nat)(l:FloatKind):zq2 P (Op.Complex.conv k x l):=by
 unfold Op.Complex.conv
 exact zauc0
instance (k:FloatKind) (x:Nat) (l:FloatKind):Stdy P (Op.Complex.conv k x l):=⟨steady_cconv k x l⟩
theorem steady_cadd(x y:Nat):zq2 P (Op.Complex.add x y):=by
 unfold Op.Complex.add;exact zauc0
instance (x y:Nat):Stdy P (Op.Complex.add x y):=⟨steady_cadd x y⟩
theorem steady_csub(x y:Nat):zq2 P (Op.Complex.sub x y):=by
 unfold Op.Complex.sub;exact zauc0
instance (x y:Nat):Stdy P (Op.Complex.sub x y):=⟨steady_csub x y⟩
theorem steady_cmul(x y:Nat):zq2 P (Op.Complex.mul x y):=by
 unfold Op.Complex.mul;exact zauc0
instance (x y:Nat):Stdy P (Op.Complex.mul x y):=⟨steady_cmul x y⟩
theorem steady_cquo(x y:Nat):zq2 P (Op.Complex.quo x y):=by
 unfold Op.Complex.quo;exact zauc0
instance (x y:Nat):Stdy P (Op.Complex.quo x y):=⟨steady_cquo x y⟩
theorem steady_product(a b c d:Nat):zq2 P (Op.Complex.product a b c d):=by
 unfold Op.Complex.product;exact zauc0
instance (a b c d:Nat):Stdy P (Op.Complex.product a b c d):=⟨steady_product a b c d⟩
theorem steady_corrected(s a b c d:Nat):zq2 P (Op.Complex.corrected s a b c d):=by
 unfold Op.Complex.corrected;exact zauc0
instance (s a b c d:Nat):Stdy P (Op.Complex.corrected s a b c d):=⟨steady_corrected s a b c d⟩
theorem steady_quotient(a b c d:Nat):zq2 P (Op.Complex.quotient a b c d):=by
 unfold Op.Complex.quotient;exact zauc0
instance (a b c d:Nat):Stdy P (Op.Complex.quotient a b c d):=⟨steady_quotient a b c d⟩
theorem steady_complexOp(o:BinOp)(k:FloatKind)(a b c d:Nat):zq2 P (Op.complexOp o k a b c d):=by
 unfold Op.complexOp;exact zauc0
instance (o:BinOp) (k:FloatKind) (a b c d:Nat):Stdy P (Op.complexOp o k a b c d):=⟨steady_complexOp o k a b c d⟩
theorem steady_numberAt(r:Nat):zq2 P (numberAt r):=by
 unfold numberAt;refine steady_shape (λe n=>rfl) λx=>?_;exact zauc0
instance (r:Nat):Stdy P (numberAt r):=⟨steady_numberAt r⟩
theorem steady_behindNumber(a:Addr):zq2 P (behindNumber a):=by
 unfold behindNumber;exact zauc0
instance (a:Addr):Stdy P (behindNumber a):=⟨steady_behindNumber a⟩
theorem steady_asNumber(a:Addr)(b:Bool):zq2 P (asNumber a b):=by
 unfold asNumber;exact zauc0
instance (a:Addr) (b:Bool):Stdy P (asNumber a b):=⟨steady_asNumber a b⟩
theorem runT_stringish(w:World)(es:Array Event)(a:Addr):(stringish a).runT P w es=(.ok (w.frozen? a || match w.shape? a.block with|some (_,n)=>w.frozen? ⟨a.block,n,none⟩|none=>false) w,es):=by
 unfold stringish;have e:(frozen a).runT P w es=(.ok (w.frozen? a) w,es):=rfl;rw[runT_bind,e];simp only[];cases hf:w.frozen? a with
 |true=>rfl
 |false=>
  simp only[Bool.false_eq_true,if_false,Bool.false_or];show((match w.shape? a.block with|some (_,n)=>frozen {block:=a.block,off:=n}|none=>pure false:Sem Bool)).runT P w es=_;cases w.shape? a.block with
  |none=>rfl
  |some x=>rfl
def strB(w:World)(a:Addr):Bool:=w.frozen? a || match w.shape? a.block with|some (_,n)=>w.frozen? ⟨a.block,n,none⟩|none=>false
def noneB(w:World)(a:Addr):Bool:=match w.shape? a.block with|some (_,0)=>true|_=>false
theorem strB_cut{X:Snap}{w wc:World}(h:Cut X w wc)(a:Addr):strB wc a=strB w a:=by
 unfold strB;rw[h.frozen];cases hx:X a.block with
 |none=>rw[h.shape_out hx];congr 1;split<;>first|exact h.frozen _|rfl
 |some x=>
  obtain⟨c,e⟩:=x;obtain⟨h1,h2⟩:=h.shape_in hx;rw[h1,h2];simp only[];rw[h.frozen,h.frozen_in (a:=⟨a.block,0,none⟩) hx,h.frozen_in (a:=⟨a.block,c.size,none⟩) hx]
theorem strB_in{X:Snap}{w wc:World}(h:Cut X w wc){a:Addr}{x}(hx:X a.block=some x):strB w a=false:=by
 obtain⟨c,e⟩:=x;unfold strB;rw[h.frozen_in hx,(h.shape_in hx).1];simp only[Bool.false_or];exact h.frozen_in (a:=⟨a.block,c.size,none⟩) hx
theorem runT_mayBeOne(w:World)(es:Array Event)(a b:Addr):(mayBeOne a b).runT P w es=(.ok ((strB w a&&strB w b) || (strB w a&&noneB w a) || (strB w b&&noneB w b)) w,es):=by
 unfold mayBeOne;simp only[];rw[runT_bind,runT_stringish];simp only[];rw[runT_bind,runT_stringish];simp only[];rfl
theorem steady_mayBeOne(a b:Addr):zq2 P (mayBeOne a b):=by
 intro X w wc es h hfit;rw[runT_mayBeOne,runT_mayBeOne];refine⟨w,h,?_,λe he=>.inl he⟩;rw[strB_cut h,strB_cut h];have key:∀a:Addr,(strB w a&&noneB wc a)=(strB w a&&noneB w a):=λa=>by
  cases hx:X a.block with
  |none=>unfold noneB;rw[h.shape_out hx]
  |some x=>rw[strB_in h hx];rfl
 rw[key,key];rfl
instance (a b:Addr):Stdy P (mayBeOne a b):=⟨steady_mayBeOne a b⟩
theorem steady_sameAddr(a b:Addr):zq2 P (sameAddr a b):=by
 unfold sameAddr;exact zauc0
instance (a b:Addr):Stdy P (sameAddr a b):=⟨steady_sameAddr a b⟩
theorem steady_samePointer(a b:Option Addr):zq2 P (samePointer a b):=by
 unfold samePointer;exact zauc0
instance (a b:Option Addr):Stdy P (samePointer a b):=⟨steady_samePointer a b⟩
theorem steady_twoPlaces(a b:Addr):zq2 P (Op.twoPlaces a b):=by
 unfold Op.twoPlaces;exact zauc0
instance (a b:Addr):Stdy P (Op.twoPlaces a b):=⟨steady_twoPlaces a b⟩
theorem steady_addrSub(k:IntKind)(a b:Addr):zq2 P (Op.addrSub k a b):=by
 unfold Op.addrSub;exact zauc0
instance (k:IntKind) (a b:Addr):Stdy P (Op.addrSub k a b):=⟨steady_addrSub k a b⟩
theorem steady_addrCmp(o:BinOp)(a b:Addr):zq2 P (Op.addrCmp o a b):=by
 unfold Op.addrCmp;exact zauc0
instance (o:BinOp) (a b:Addr):Stdy P (Op.addrCmp o a b):=⟨steady_addrCmp o a b⟩
theorem steady_addrMod(k:IntKind)(a:Addr)(n:Int):zq2 P (Op.addrMod k a n):=by
 unfold Op.addrMod;refine steady_shape (λe n=>rfl) λx=>?_;exact zauc0
instance (k:IntKind) (a:Addr) (n:Int):Stdy P (Op.addrMod k a n):=⟨steady_addrMod k a n⟩
theorem steady_shapeD{r:Nat}{f:Option (TypeId×Nat)->Sem β}(he:∀e w es,¬fit ((f (some (e,0))).runT P w es).1)(hf:∀x,zq2 P (f x)):zq2 P (shape r>>= f):=by
 intro X w wc es h hfit;have e1:∀w,(shape r>>= f).runT P w es=(f (w.shape? r)).runT P w es:=λw=>rfl;rw[e1]at hfit;rw[e1,e1];cases hx:X r with
 |none=>rw[h.shape_out hx]at hfit ⊢;exact hf _ X w wc es h hfit
 |some x=>
  obtain⟨c,e⟩:=x;rw[(h.shape_in hx).2]at hfit;exact absurd hfit (he _ _ _)
theorem cellAt_none(p:Program)(d:Nat)(e:TypeId)(off:Nat)(n:Int):cellAtBytes p d e 0 off n=none:=by
 unfold cellAtBytes;simp only[bind,Option.bind];split
 · rfl
 · split
   · rfl
   · simp only[];rw[if_pos (by simp;omega)]
theorem steady_unsafeAdd(t:TypeId)(x:Option Addr)(y:Value):zq2 P (Builtin.unsafeAdd_ #[] t #[.pointer x,y]):=by
 refine steady_bind (s:=asInt y) (steady_asInt y) (λn=>?_)
 repeat' (first|with_reducible (first|exact Stdy.out|refine steady_map ?_|refine steady_shapeD ?_ (λ_=>?_)|refine steady_bind ?_ (λ_=>?_))|exact λ_ _=>rfl |split|simp only[])
 all_goals(intro e w es hfit;rw[runT_bind]at hfit;simp only[program,Sem.runT,Nat.zero_div,cellAt_none]at hfit;exact hfit)
theorem steady_unsafeAddV(t:TypeId)(x y:Value):zq2 P (Builtin.unsafeAdd_ #[] t #[x,y]):=by
 cases x<;>first|exact steady_unsafeAdd _ _ _|exact steady_halt _
instance (t:TypeId) (x y:Value):Stdy P (Builtin.unsafeAdd_ #[] t #[x,y]):=⟨steady_unsafeAddV t x y⟩
theorem steady_movedNumber(t:TypeId)(x y:Value):zq2 P (movedNumber t x y):=by
 unfold movedNumber;exact zauc0
instance (t:TypeId) (x y:Value):Stdy P (movedNumber t x y):=⟨steady_movedNumber t x y⟩
theorem steady_movedPointer(t:TypeId)(x y:Value):zq2 P (movedPointer t x y):=by
 unfold movedPointer;exact zauc0
instance (t:TypeId) (x y:Value):Stdy P (movedPointer t x y):=⟨steady_movedPointer t x y⟩
theorem steady_eqAddr(a b:Addr):zq2 P ((do pure ((←byteOf a)==(←byteOf b)):Sem Bool)):=by
 exact zauc0
instance (a b:Addr):Stdy P ((do pure ((←byteOf a)==(←byteOf b)):Sem Bool)):=⟨steady_eqAddr a b⟩
theorem steady_forIn{γ δ:Type}(l:List γ)(b:δ)(f:γ->δ->Sem (ForInStep δ))(h:∀a b,zq2 P (f a b)):zq2 P (forIn l b f):=by
 induction l generalizing b with
 |nil=>exact steady_pure _
 |cons a l ih=>
  rw[List.forIn_cons];refine steady_bind (h a b) λr=>?_;cases r with
  |done b=>exact steady_pure _
  |yield b=>exact ih b
theorem steady_forInA{γ δ:Type}(l:Array γ)(b:δ)(f:γ->δ->Sem (ForInStep δ))(h:∀a b,zq2 P (f a b)):zq2 P (forIn l b f):=by
 rw[←Array.forIn_toList];exact steady_forIn _ _ _ h
theorem steady_forInR{δ:Type}(r:Std.Legacy.Range)(b:δ)(f:Nat->δ->Sem (ForInStep δ))(h:∀a b,zq2 P (f a b)):zq2 P (forIn r b f):=by
 rw[Std.Legacy.Range.forIn_eq_forIn_range'];exact steady_forIn _ _ _ h
theorem steady_equalIn:∀(d:Nat)(t:TypeId)(x y:Value),zq2 P (Op.equalIn d t x y)
 |0,_,_,_=>steady_halt _
 |d+1,t,x,y=>by
  have ih:=λt x y=>steady_equalIn d t x y;unfold Op.equalIn;refine steady_bind (steady_underlying _) (λk=>?_)
  repeat' (first|with_reducible (first|exact Stdy.out|refine steady_map ?_|refine steady_shape ?_ (λ_=>?_)|refine steady_bind ?_ (λ_=>?_))|exact λ_ _=>rfl |split|simp only[]|with_reducible exact ih _ _ _|refine steady_forInA _ _ _ (λ_ _=>?_)|refine steady_forInR _ _ _ (λ_ _=>?_))
theorem steady_eqGuardIn:∀(d:Nat)(t:TypeId)(x y:Value),zq2 P (Op.eqGuardIn d t x y)
 |0,_,_,_=>steady_halt _
 |d+1,t,x,y=>by
  have ih:=λt x y=>steady_eqGuardIn d t x y;unfold Op.eqGuardIn;refine steady_bind (steady_underlying _) (λk=>?_)
  repeat' (first|with_reducible (first|exact Stdy.out|refine steady_map ?_|refine steady_shape ?_ (λ_=>?_)|refine steady_bind ?_ (λ_=>?_))|exact λ_ _=>rfl |split|simp only[]|with_reducible exact ih _ _ _|refine steady_forInA _ _ _ (λ_ _=>?_)|refine steady_forInR _ _ _ (λ_ _=>?_))
instance (d:Nat) (t:TypeId) (x y:Value):Stdy P (Op.eqGuardIn d t x y):=⟨steady_eqGuardIn d t x y⟩
instance (t:TypeId) (x y:Value):Stdy P (Op.equal t x y):=⟨steady_equalIn _ t x y⟩
theorem steady_eqGuard(o:BinOp)(t:TypeId)(x y:Operand)(a b:Value):zq2 P (eqGuard o t x y a b):=by
 unfold eqGuard;exact zauc0
instance (o:BinOp) (t:TypeId) (x y:Operand) (a b:Value):Stdy P (eqGuard o t x y a b):=⟨steady_eqGuard o t x y a b⟩
theorem steady_binOp(o:BinOp)(t:TypeId)(x y:Value):zq2 P (binOp o t x y):=by
 unfold binOp;exact zauc0
instance (o:BinOp) (t:TypeId) (x y:Value):Stdy P (binOp o t x y):=⟨steady_binOp o t x y⟩
theorem steady_unary(o:UnOp)(x:Value):zq2 P (Op.unary o x):=by
 unfold Op.unary;exact zauc0
instance (o:UnOp) (x:Value):Stdy P (Op.unary o x):=⟨steady_unary o x⟩
theorem steady_lenOf(x:Value):zq2 P (Builtin.lenOf x):=by
 unfold Builtin.lenOf;exact zauc0
instance (x:Value):Stdy P (Builtin.lenOf x):=⟨steady_lenOf x⟩
theorem steady_firstCells(s n:Nat)(x:Value):zq2 P (Builtin.firstCells s n x):=by
 unfold Builtin.firstCells;exact zauc0
instance (s n:Nat) (x:Value):Stdy P (Builtin.firstCells s n x):=⟨steady_firstCells s n x⟩
theorem steady_under{t:TypeId}{f:TypeDesc->Sem α}(h:∀d,P.underlying t=some d->zq2 P (f d)):zq2 P (do let d←underlying t;f d):=by
 intro X w wc es hc hfit;have e:∀w,(do let d←underlying t;f d:Sem α).runT P w es=(match P.underlying t with|some d=>(f d).runT P w es|none=>(.halt (.stuck "no such type") w,es)):=by
  intro w;rw[runT_bind];have:(underlying t).runT P w es=(match P.underlying t with|some d=>(.ok d w,es)|none=>(.halt (.stuck "no such type") w,es)):=by
   unfold underlying;show((match P.underlying t with|some d=>pure d|none=>stuck "no such type" :Sem TypeDesc)).runT P w es=_;cases P.underlying t<;>rfl
  rw[this];cases P.underlying t<;>rfl
 rw[e]at hfit;rw[e,e];cases hd:P.underlying t with
 |none=>rw[hd]at hfit;exact hfit.elim
 |some d=>rw[hd]at hfit;exact h d hd X w wc es hc hfit
def NoPanic{α:Type}(P:Program)(s:Sem α):Prop:=∀w es v w',(s.runT P w es).1≠.halt (.panic v) w'
theorem steady_dead{s:Sem α}{f:α->Sem β}(hs:NoPanic P s)(hf:∀a w es,¬fit ((f a).runT P w es).1):zq2 P (s>>= f):=by
 intro X w wc es h hfit;rw[runT_bind]at hfit;have:=hs wc es;generalize s.runT P wc es=r at this hfit;obtain⟨r,es'⟩:=r;cases r with
 |ok a w'=>exact absurd hfit (hf a w' es')
 |halt x w'=>cases x<;>first|exact absurd rfl (this _ _)|exact hfit.elim
theorem np_holds(a:Addr)(n:Nat)(w:World)(es:Array Event):∃b,(Builtin.holdsCells a n).runT P w es=(.ok b w,es):=by
 unfold Builtin.holdsCells;show ∃b,((match w.shape? a.block with|some (_,m)=>pure (a.spot.isNone&&a.off+n<=m)|none=>pure false:Sem Bool)).runT P w es=_;cases w.shape? a.block<;>exact⟨_,rfl⟩
theorem np_mayShare(s n m:Nat)(b:Option Addr)(x:Value)(w:World)(es:Array Event):∃y,(Builtin.mayShare s n m b x).runT P w es=(.ok y w,es):=by
 unfold Builtin.mayShare;have tail:∀t:Bool,∃y,((if(!t)=true then pure true else match x with|.slice (some c) _ _=>(do pure (!(←Builtin.holdsCells c (m*s)) || b.any (·.block==c.block)))|_=>pure false:Sem Bool)).runT P w es=(.ok y w,es):=by
  intro t;cases t with
  |false=>exact⟨true,rfl⟩
  |true=>
   simp only[Bool.not_true,Bool.false_eq_true,if_false];split
   · rename_i c _ _;obtain⟨y,hy⟩:=np_holds (P:=P) c (m*s) w es;rw[runT_bind,hy];exact⟨_,rfl⟩
   · exact⟨_,rfl⟩
 cases b with
 |none=>exact tail true
 |some a=>
  obtain⟨y,hy⟩:=np_holds (P:=P) a (n*s) w es;rw[runT_bind,hy];exact tail _
theorem steady_len(l:Array TypeId)(t:TypeId)(a:Array Value):zq2 P (Builtin.len_ l t a):=by
 unfold Builtin.len_;exact zauc0
theorem steady_min2(x y:Value):zq2 P (Builtin.min2 x y):=by
 unfold Builtin.min2;exact zauc0
theorem steady_max2(x y:Value):zq2 P (Builtin.max2 x y):=by
 unfold Builtin.max2;exact zauc0
theorem steady_foldlM{γ:Type}(f:Value->γ->Sem Value)(h:∀a b,zq2 P (f a b))(l:List γ):∀(b:Value),zq2 P (l.foldlM f b):=by
 induction l with
 |nil=>exact λb=>steady_pure _
 |cons a l ih=>intro b;rw[List.foldlM_cons];exact steady_bind (h b a) λ_=>ih _
theorem steady_min(l:Array TypeId)(t:TypeId)(a:Array Value):zq2 P (Builtin.min_ l t a):=by
 unfold Builtin.min_;split
 · exact steady_halt _
 · exact steady_foldlM _ (λ_ _=>steady_min2 _ _) _ _
theorem steady_max(l:Array TypeId)(t:TypeId)(a:Array Value):zq2 P (Builtin.max_ l t a):=by
 unfold Builtin.max_;split
 · exact steady_halt _
 · exact steady_foldlM _ (λ_ _=>steady_max2 _ _) _ _
theorem steady_followBlind:∀(l:List FieldStep)(t:TypeId)(x:Option Value),zq2 P (followBlind l t x)
 |[],_,_=>steady_pure _
 |s::rest,t,x=>by
  have ih:=λt x=>steady_followBlind rest t x;unfold followBlind
  repeat' (first|with_reducible (first|exact Stdy.out|refine steady_map ?_|refine steady_shape ?_ (λ_=>?_)|refine steady_bind ?_ (λ_=>?_))|exact λ_ _=>rfl |split|simp only[]|with_reducible exact ih _ _)
theorem steady_nilAhead:∀(n:Nat)(t:TypeId)(x:Value)(s:String),zq2 P (nilAhead n t x s)
 |0,_,_,_=>steady_pure _
 |n+1,t,x,s=>by
  have ih:=λt x s=>steady_nilAhead n t x s;unfold nilAhead
  repeat' (first|with_reducible (first|exact Stdy.out|refine steady_map ?_|refine steady_shape ?_ (λ_=>?_)|refine steady_bind ?_ (λ_=>?_))|exact λ_ _=>rfl |split|simp only[]|with_reducible (first|exact ih _ _ _|exact steady_followBlind _ _ _))
instance (n:Nat) (t:TypeId) (x:Value) (s:String):Stdy P (nilAhead n t x s):=⟨steady_nilAhead n t x s⟩
end
end Go.Car
set_option maxHeartbeats 1000000
namespace Go.Car
open Go Go.Conc Go.RowKit
section
variable {α β:Type} {P:Program} {A:FuncId->Bool}
theorem steady_share{γ:Type}{s n m:Nat}{b:Option Addr}{x:Value}{f:Bool->Sem γ}(hf:∀a w es,¬fit ((f a).runT P w es).1):zq2 P (Builtin.mayShare s n m b x>>= f):=by
 refine steady_dead (λw es v w' h=>?_) hf;obtain⟨y,hy⟩:=np_mayShare (P:=P) s n m b x w es;rw[hy]at h;cases h
theorem steady_append(l:Array TypeId)(t:TypeId)(a:Array Value)(hx:∀x,l[1]?=some x->∀k,P.underlying x≠some (.int k)):zq2 P (Builtin.append_ l t a):=by
 unfold Builtin.append_;split
 · refine steady_bind (steady_underlying _) λd=>?_;split
   · split
     · refine steady_bind (steady_sizeOf _) λsize=>?_;simp only[];cases e:l[1]? with
       |none=>
        simp only[Bool.false_eq_true,if_false,Bool.not_false,if_true,false_or,reduceIte,pure_bind]
        repeat' (first|with_reducible (first|exact Stdy.out|refine steady_map ?_|refine steady_share ?_|refine steady_bind ?_ (λ_=>?_))|split|simp only[])
        all_goals(intro x w es hfit;cases x<;>exact hfit)
       |some x=>
        refine steady_under λd hd=>?_;have hne:=hx x e;cases d<;>first
         |(rename_i k;exact absurd hd (hne k))
         |(clear hd hne e hx
           simp only[Bool.false_eq_true,if_false,Bool.not_false,if_true,false_or,reduceIte,pure_bind]
           repeat' (first|with_reducible (first|exact Stdy.out|refine steady_map ?_|refine steady_share ?_|refine steady_bind ?_ (λ_=>?_))|split|simp only[])
           all_goals(intro x w es hfit;cases x<;>exact hfit))
     · exact steady_halt _
   · exact steady_halt _
 · exact steady_halt _
theorem steady_convert{s d:TypeId}{k k':IntKind}(hs:P.underlying s=some (.int k))(hd:P.underlying d=some (.int k'))(x:Value):zq2 P (convert s d x):=by
 refine steady_under λa ha=>?_;refine steady_under λb hb=>?_;rw[hs]at ha;rw[hd]at hb;cases ha;cases hb;split<;>first|exact steady_halt _|exact steady_pure _|contradiction|(unfold Conv.floatToInt;simp only[];repeat' (first|with_reducible exact Stdy.out|refine steady_bind ?_ (λ_=>?_)|split))
def RowsS(P:Program)(A:FuncId->Bool):Prop:=∀f,A f=true->∀fn e,P.funcs[f]?=some fn->fn.body=none->Extern.find fn=some e->∀args,zq2 P (e args)
theorem steady_prog{f:Program->Sem α}(h:zq2 P (f P)):zq2 P (program>>= f):=by
 intro X w wc es hc hfit;have e:∀w,(program>>= f).runT P w es=(f P).runT P w es:=λw=>rfl;rw[e]at hfit;rw[e,e];exact h X w wc es hc hfit
theorem steady_v{s:Sem Value}(h:zq2 P s):zq2 P (do pure (.value (←s)):Sem Next):=steady_bind h λ_=>steady_pure _
theorem callFunc_steady{f:FuncId}{args:Array Value}(hA:A f=true)(h:okFn P A f)(hR:RowsS P A):zq2 P (callFunc f args):=by
 cases h with
 |text fn c hf hb hn hc=>
  unfold callFunc;refine steady_prog ?_;simp only[hf,hn,hb,Option.isNone_some,Bool.false_eq_true,if_false];exact steady_pure _
 |row fn e hf hb hn hx he ht=>
  unfold callFunc;refine steady_prog ?_;simp only[hf,hn,hb,hx,he,Option.isNone_none,Bool.false_eq_true,if_false,if_true];exact steady_bind (steady_mark _) λ_=>steady_v (hR f hA fn e hf hb he args)
theorem execOp_steady(hA:∀f,A f=true->okFn P A f)(hR:RowsS P A)(o:Oper)(ho:okOp P A o.op=true)(ρ:Operand->Value)(hρ:∀f,ρ (.func f)=.func (.func f) #[] #[]):zq2 P (execOp ρ o):=by
 obtain⟨dst,op,type,pos,after,guard⟩:=o;simp only at ho;unfold execOp;cases op<;>simp only[okOp,Bool.false_eq_true]at ho
 case convert s d x=>
  have:∃k k',P.underlying s=some (.int k)/\P.underlying d=some (.int k'):=by
   simp only[Bool.and_eq_true]at ho;obtain⟨h1,h2⟩:=ho;split at h1
   · split at h2
     · exact⟨_,_,‹_›,‹_›⟩
     · cases h2
   · cases h1
  obtain⟨k,k',hs,hd⟩:=this;exact steady_v (steady_convert hs hd _)
 case call c=>
  obtain⟨callee,args,argTypes⟩:=c;simp only at ho;cases callee with
  |invoke r m=>simp at ho
  |value f=>
   cases f with
   |func f=>
    have hAf:A f=true:=by simpa using ho
    simp only[resolve,hρ f];exact callFunc_steady hAf (hA f hAf) hR
   |_=>simp at ho
  |builtin b=>
   cases b<;>simp at ho
   case append=>
    have hx:∀x,argTypes[1]?=some x->∀k,P.underlying x≠some (.int k):=by
     intro x hx k hk;rw[hx]at ho;simp only[hk]at ho;cases ho
    exact steady_v (steady_append _ _ _ hx)
   case len=>exact steady_v (steady_len _ _ _)
   case max=>exact steady_v (steady_max _ _ _)
   case min=>exact steady_v (steady_min _ _ _)
 all_goals(simp only[];repeat' (first|with_reducible (first|exact Stdy.out|refine steady_bind ?_ (λ_=>?_))|split|simp only[]))
end
end Go.Car
