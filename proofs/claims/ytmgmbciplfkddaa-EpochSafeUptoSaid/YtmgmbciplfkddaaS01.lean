/- YtmgmbciplfkddaaESaf16: part 1 of the proof (the texts behind it, in order). -/
import Derived.Test.YtmgmbciplfkddaaS00
set_option maxHeartbeats 4000000
set_option maxRecDepth 100000
set_option linter.all false
namespace Go.Car
open Go Go.Conc Go.RowKit
def zq1q(P:Program):Op->Bool
 |.move _|.assign _|.pick .. |.alloc _|.box .. |.build .. |.buildSlice .. |.load .. |.nilCheck _|.binOp .. |.unOp .. |.makeInterface .. |.makeFunc .. =>true
 |.makeChan .. |.makeSlice .. |.slice .. |.fieldAddr .. |.field .. |.indexAddr .. |.index .. |.typeAssert .. |.extract .. =>true
 |.convert s d _=>(match P.underlying s with|some (.int _)=>true|_=>false)&&(match P.underlying d with|some (.int _)=>true|_=>false)
 |.call c=>match c.callee with
  |.builtin .len|.builtin .min|.builtin .max=>true
  |_=>false
 |_=>false
theorem zq4m{P:Program}(o:Oper)(ho:zq1q P o.op=true)(ρ:Operand->Value):tame P false (execOp ρ o):=by
 obtain⟨dst,op,type,pos,after,guard⟩:=o;simp only at ho;unfold execOp;cases op<;>simp only[zq1q,Bool.false_eq_true]at ho
 case move=>trivial
 case assign=>trivial
 case pick=>exact zq0 (zq62 _) λ_=>trivial
 case alloc=>exact zqn (zq9c _)
 case box=>exact zqn (zq9g _ _)
 case build=>exact zqn (zq9h _ _)
 case buildSlice=>exact zqn (zq9i _ _ _)
 case load=>exact zqn (zqa0 _ _)
 case nilCheck x=>
  simp only[]
  repeat' (first|exact zq9 _|exact zq66 _|exact zq65|exact zq64 _ _ _ _|exact zq67 _|refine zq0 ?_ (λ_=>?_)|split|simp only[])
 case binOp=>exact zqn (zq0 (zq9l _ _ _ _ _ _) λ_=>zq9f _ _ _ _)
 case unOp=>exact zqn (zqah _ _)
 case convert s d x=>
  have:∃k k',P.underlying s=some (.int k)/\P.underlying d=some (.int k'):=by
   simp only[Bool.and_eq_true]at ho;obtain⟨h1,h2⟩:=ho;split at h1
   . split at h2
     . exact⟨_,_,‹_›,‹_›⟩
     . cases h2
   . cases h1
  obtain⟨k,k',hs,hd⟩:=this;exact zqn (zq9k hs hd _)
 case makeInterface=>exact zqn (zqa5 _ _)
 case makeFunc=>exact zqn (zqa4 _ _ _)
 case makeChan=>exact zqn (zqa3 _ _)
 case makeSlice=>exact zqn (zqa6 _ _ _)
 case slice=>exact zqn (zqab _ _ _ _ _)
 case fieldAddr=>exact zqn (zq9q _ _ _)
 case field=>exact zqn (zq9p _ _ _)
 case indexAddr=>exact zqn (zq9x _ _ _)
 case index=>exact zqn (zq9w _ _ _)
 case typeAssert=>exact zqn (zqae _ _ _ _)
 case extract=>exact zqn (zq9o _ _)
 case call c=>
  obtain⟨callee,args,argTypes⟩:=c;simp only at ho;cases callee with
  |invoke r m=>simp at ho
  |value f=>simp at ho
  |builtin b=>
   cases b<;>simp at ho
   case len=>exact zqn (zq9y _ _ _)
   case max=>exact zqn (zqa8 _ _ _)
   case min=>exact zqn (zqa9 _ _ _)
structure Rows0(P:Program)(A:FuncId->Bool):Prop where
 ok:∀f,A f=true->okFn P A f
 bare:∀f fn,A f=true->P.funcs[f]?=some fn->fn.body=none
theorem zqf(P:Program):Rows0 P (λ_=>false):=⟨λ_ h=>(by cases h),λ_ _ h=>(by cases h)⟩
theorem zq4b(a:Act)(f:FuncId):a.eval (.func f)=.func (.func f) #[] #[]:=rfl
theorem zq7t{P:Program}{A:FuncId->Bool}(hA:Rows0 P A){o:Oper}(ho:okOp P A o.op=true)(a:Act)(w:World):
 (∃v w',(execOp a.eval o).run P w=.ok (.value v) w')\/(∃w',(execOp a.eval o).run P w=.ok .skip w')\/(∃h w',(execOp a.eval o).run P w=.halt h w'):=by
 obtain⟨ht,hl⟩:=zq1n hA.ok o ho a.eval (zq4b a);have:=zq36 _ ht hl w #[];rw[Sem.runT_eq]at this;cases hr:(execOp a.eval o).run P w with
 |halt h w'=>exact .inr (.inr ⟨h,w',rfl⟩)
 |ok n w'=>
  rw[hr]at this;cases n with
  |value v=>exact .inl ⟨v,w',rfl⟩
  |skip=>exact .inr (.inl ⟨w',rfl⟩)
  |enter f args=>
   obtain⟨hf,fn,c,h1,h2,_⟩:=this;rw[hA.bare f fn hf h1]at h2;cases h2
  |_=>exact this.elim
theorem run_re{α:Type}{P:Program}(s:Sem α)(hs:tame P true s)(w:World)(τ τ':Nat->Question->Nat)(d d':Nat)(h:∀j,τ' (d'+j)=τ (d+j)):
 s.run P (re w τ' d')=resRe (s.run P (re w τ d)) τ' (d'+((resW (s.run P (re w τ d))).drawn - d))/\d<=(resW (s.run P (re w τ d))).drawn/\(resW (s.run P (re w τ d))).tape=τ:=by
 obtain⟨h1,h2,h3⟩:=zq2t s hs (re w τ d) #[];rw[Sem.runT_eq]at h1 h2 h3;have:=h3 τ' d' λj _=>h j;rw[Sem.runT_eq]at this;exact⟨(Prod.mk.inj this).1,h1,h2⟩
def Still'(C:Exit->Act->World->Prop):Prop:=∀e a w τ d τ' d',C e a (re w τ d)->C e a (re w τ' d')
theorem zqjw{P:Program}{A:FuncId->Bool}(hA:Rows0 P A){ops:Array Oper}{C:Exit->Act->World->Prop}(hC:Still' C)(ho:∀a w,¬C .outgrown a w):
 ∀(l:List Oper)(a:Act)(w:World)(τ τ':Nat->Question->Nat)(d d':Nat),(∀o∈l,okOp P A o.op=true)->(∀j,τ' (d'+j)=τ (d+j))->wpList P ops C l a (re w τ d)->wpList P ops C l a (re w τ' d'):=by
 intro l
 induction l with
 |nil=>exact λa w τ τ' d d' _ _ h=>hC _ _ _ _ _ _ _ h
 |cons o l ih=>
  intro a w τ τ' d d' hl hτ h;unfold wpList at h |-;split at h
  . rename_i hw;rw[if_pos hw];rcases h with h|⟨_,a,w,h⟩
    . refine .inl ?_;unfold Oper.wp at h |-;have hol:=hl o (by simp);have ht:=(zq1n hA.ok o hol a.eval (zq4b a)).1;obtain⟨h1,h2,h3⟩:=run_re _ ht w τ τ' d d' hτ;have hlr:=zq7t hA hol a (re w τ d);rw[h1];generalize (execOp a.eval o).run P (re w τ d)=r at *;have key:∀w₁ a',w₁.tape=τ->d<=w₁.drawn->wpList P ops C l a' w₁->wpList P ops C l a' (re w₁ τ' (d'+(w₁.drawn - d))):=by
       intro w₁ a' ht hd hw1;have e:w₁=re w₁ τ w₁.drawn:=by rw[<-ht];rfl
       rw[e]at hw1;exact ih a' w₁ τ τ' w₁.drawn (d'+(w₁.drawn - d)) (λo ho=>hl o (by simp[ho])) (λj=>by
        have:=hτ ((w₁.drawn - d)+j);rw[<-Nat.add_assoc]at this;rw[this];congr 1;omega) hw1
      rcases hlr with⟨v,w',rfl⟩|⟨w',rfl⟩|⟨hh,w',rfl⟩
      . exact key _ _ h3 h2 h
      . exact key _ _ h3 h2 h
      . cases hh with
        |panic v=>
         have e:w'=re w' τ w'.drawn:=by rw[<-(show w'.tape=τ from h3)];rfl
         have h':C (.panic [{v,recovered:=false}]) a w':=h;rw[e]at h';exact hC _ _ _ _ _ _ _ h'
        |_=>exact h.elim
    . exact absurd h (ho a w)
  . rename_i hw;rw[if_neg hw];exact ih _ _ _ _ _ _ (λo ho=>hl o (by simp[ho])) hτ h
section
variable {P:Program} {main:Bool} {Kc:Addr->Option Value} {γ:Type} {J:γ->Goroutine->World->Prop} {A:FuncId->Bool}
theorem zq3l{s:Sem Next}(ht:tame P false s)(w:World):(∀e∈(s.runT P w #[]).2,EvOk Kc e)/\OkD Kc (λ_=>True) w (resW (s.run P w)):=by
 refine⟨λe he=>zq2o ((zq1y s ht w #[] e he).resolve_left (by simp)),?_⟩;have:=zq8a s ht w #[];rw[Sem.runT_eq]at this;exact OkD.of_below this
theorem zq4l{s:Sem Next}(ht:tame P true s)(hK:Kc=λ_=>none)(w:World):(∀e∈(s.runT P w #[]).2,EvOk Kc e)/\OkD Kc (λ_=>True) w (resW (s.run P w)):=by
 subst hK;refine⟨λe he=>zq75 ((zq1y s ht w #[] e he).resolve_left (by simp)),?_⟩;have:=zq2h s ht w #[];rw[Sem.runT_eq]at this;exact okD_none this
end
section
variable {P:Program} {main:Bool} {Kc:Addr->Option Value} {γ:Type} {J:γ->Goroutine->World->Prop} {A:FuncId->Bool}
theorem zqd1{w:World}{a:Addr}{v:Value}(hK:Kc a=none):OkD Kc (λ_=>True) w (w.setCell a v):=by
 refine⟨⟨λh b u hb=>?_,rfl,rfl⟩,λc _⟨cap,k,hx⟩=>by rw[(zq6s w a v).1 c _ hx (by simp),hx]⟩;obtain⟨h1,h2⟩:=h b u hb;constructor
 . rw[<-h1];unfold World.cell? World.setCell;simp only[Array.getElem?_modify]
   by_cases hab:a.block=b.block
   . simp only[hab,if_true];cases ho:w.heap[b.block]? with
     |none=>rfl
     |some o=>
      cases o<;>try rfl
      simp only[Option.map_some]
      by_cases hs:b.spot.isSome=true
      . simp[hs]
      . simp only[hs]
        by_cases has:a.spot.isSome=true
        . simp[has]
        . simp only[has,Bool.false_eq_true,if_false]
          by_cases hoff:a.off=b.off
          . have:a=b:=by
             obtain⟨ab,ao,asp⟩:=a;obtain⟨bb,bo,bsp⟩:=b;simp only at hab hoff has hs;subst hab hoff;cases asp<;>simp_all
            rw[this,hb]at hK;cases hK
          . rw[al_gn hoff]
   . simp only[hab,if_false]
 . rw[<-h2];unfold World.frozen? World.setCell;simp only[Array.getElem?_modify]
   by_cases hab:a.block=b.block
   . simp only[hab,if_true];cases ho:w.heap[b.block]? with
     |none=>rfl
     |some o=>cases o<;>rfl
   . simp only[hab,if_false]
theorem zqei{w:World}{a:Addr}{v:Value}{b:Nat}(h:∃c e f,w.heap[b]?=some (.cells c e f)):∃c e f,(w.setCell a v).heap[b]?=some (.cells c e f):=by
 obtain⟨c,e,f,h⟩:=h;unfold World.setCell;simp only[Array.getElem?_modify,h];split<;>simp
theorem zq6f(a:Addr)(i:Nat):(a.add i).block=a.block:=by unfold Addr.add;split<;>rfl
theorem zq4z{α β:Type}(s:Sem α)(f:α->Sem β):∀(w:World)(es:Array Event),(s.bind f).runT P w es=match s.runT P w es with
 |(.ok a w',es')=>(f a).runT P w' es'
 |(.halt h w',es')=>(.halt h w',es'):=by
 induction s with
 |pure a=>intro w es;rfl
 |load m a k ih=>
  intro w es;simp only[Sem.bind,Sem.runT];split
  . exact ih _ _ _
  . split
    . exact ih _ _ _
    . rfl
 |store m a v k ih=>
  intro w es
  by_cases hagg:(∃c,v=.agg c)\/∃c,v=.tuple c
  . rcases hagg with⟨c,rfl⟩|⟨c,rfl⟩<;>rfl
  . rw[show(Sem.store m a v k).bind f=Sem.store m a v (k.bind f)from rfl,zq2i hagg,zq2i hagg];split
    . split
      . rfl
      . exact ih _ _
    . split
      . exact ih _ _
      . rfl
 |new o k ih=>intro w es;exact ih _ _ _
 |shape r k ih=>intro w es;exact ih _ _ _
 |freeze a n k ih=>intro w es;exact ih _ _
 |frozen a k ih=>intro w es;exact ih _ _ _
 |getObj r k ih=>
  intro w es;simp only[Sem.bind,Sem.runT];split
  . rfl
  . exact ih _ _ _
  . rfl
 |setObj r o k ih=>
  intro w es;simp only[Sem.bind,Sem.runT];split<;>first|rfl |exact ih _ _
 |choose q k ih=>
  intro w es;simp only[Sem.bind,Sem.runT];split
  . exact ih _ _ _
  . exact ih _ _ _
 |sys c k ih=>intro w es;exact ih _ _ _
 |program k ih=>intro w es;exact ih P _ _
 |mark m k ih=>intro w es;exact ih _ _
 |halt h=>intro w es;rfl
theorem zq78{a:Addr}:∀(vs:List Value)(i:Nat)(w:World)(es:Array Event),(∀j,i<=j->j<i+vs.length->Kc (a.add j)=none)->(∃c e f,w.heap[a.block]?=some (.cells c e f))->
 (∀e∈((storeCells a vs i).runT P w es).2,e∈es\/EvOk Kc e)/\OkD Kc (λ_=>True) w (resW ((storeCells a vs i).runT P w es).1)
 |[],i,w,es,_,_=>⟨λe he=>.inl he,OkD.refl _ _ _⟩
 |v::r,i,w,es,hK,hb=>by
  have hs:storeCells a (v::r) i=(Sem.store .plain (a.add i) v (.pure ())).bind λ_=>storeCells a r (i+1):=rfl;rw[hs,zq4z]
  by_cases hagg:(∃c,v=.agg c)\/∃c,v=.tuple c
  . rcases hagg with⟨c,rfl⟩|⟨c,rfl⟩<;>exact⟨λe he=>.inl he,OkD.refl _ _ _⟩
  . rw[zq2i hagg];cases hc:w.cell? (a.add i)with
    |some x=>
     simp only[]
     by_cases hf:w.frozen? (a.add i)=true
     . simp only[hf,if_true];exact⟨λe he=>.inl he,OkD.refl _ _ _⟩
     . simp only[hf,Bool.false_eq_true,if_false,Sem.runT];have hKa:=hK i (Nat.le_refl _) (by simp);obtain⟨h1,h2⟩:=zq78 r (i+1) (w.setCell (a.add i) v) (es.push ⟨.cell (a.add i),true,Mode.plain== .atomic⟩) (λj h1 h2=>hK j (by omega) (by simp;omega)) (zqei hb);refine⟨λe he=>?_,(zqd1 hKa).trans h2⟩;rcases h1 e he with h|h
       . rcases Array.mem_push.1 h with h|rfl
         . exact .inl h
         . exact .inr (zq77 _ _ hKa)
       . exact .inr h
    |none=>
     obtain⟨c,e,f,hb⟩:=hb;have hfar:w.farStore P (a.add i) v (Mode.plain== .atomic)=.error (w.noCell (a.add i) "store: no such cell"):=by
      unfold World.farStore;rw[zq6f,hb]
     simp only[hfar];exact⟨λe he=>.inl he,OkD.refl _ _ _⟩
theorem zqc4{ρ:Operand->Value}{o:Oper}{t:TypeId}{pa pv:Operand}{a:Addr}{w:World}(hop:o.op=.store t pa pv)(ha:ρ pa=.pointer (some a))(hK:∀j,j<(ρ pv).cells.size->Kc (a.add j)=none)(hb:∃c e f,w.heap[a.block]?=some (.cells c e f)):
 (∀e∈((execOp ρ o).runT P w #[]).2,EvOk Kc e)/\OkD Kc (λ_=>True) w (resW ((execOp ρ o).run P w)):=by
 have key:(∀e∈((execOp ρ o).runT P w #[]).2,EvOk Kc e)/\OkD Kc (λ_=>True) w (resW ((execOp ρ o).runT P w #[]).1):=by
  have e1:execOp ρ o=(Instr.storeAt t (ρ pa) (ρ pv)).bind λ_=>.pure .skip:=by
   unfold execOp;rw[hop];rfl
  have e2:Instr.storeAt t (ρ pa) (ρ pv)=storeVar t a (ρ pv):=by rw[ha];rfl
  rw[e1,zq4z,e2];have e3:storeVar t a (ρ pv)=(sizeOf t).bind λn=>if(ρ pv).cells.size≠n then(stuck "storeVar: the value has not the size of the variable" :Sem Unit).bind λ_=>storeCells a (ρ pv).cells.toList else storeCells a (ρ pv).cells.toList:=by
   unfold storeVar;show(sizeOf t).bind _=_;congr 1
  rw[e3,zq4z];have hsz:=zq1y (P:=P) (sizeOf t) (zqa (st:=false) t) w #[];have hbl:=zq8a (P:=P) (sizeOf t) (zqa (st:=false) t) w #[];generalize (sizeOf t).runT P w #[]=r at hsz hbl;obtain⟨r,es⟩:=r;have hes:∀e∈es,EvOk Kc e:=λe he=>zq2o ((hsz e he).resolve_left (by simp));cases r with
  |halt h w'=>exact⟨hes,OkD.of_below hbl⟩
  |ok n w'=>
   have hb':∃c e f,w'.heap[a.block]?=some (.cells c e f):=by
    obtain⟨c,e,f,hb⟩:=hb;exact⟨c,e,f,by rw[<-hb];exact hbl.block _ ((Array.getElem?_eq_some_iff.1 hb).1)⟩
   simp only[]
   by_cases hne:(ρ pv).cells.size≠n
   . simp only[if_pos hne];exact⟨hes,OkD.of_below hbl⟩
   . simp only[if_neg hne];obtain⟨h1,h2⟩:=zq78 (P:=P) (ρ pv).cells.toList 0 w' es (λj _ h2=>hK j (by simpa using h2)) hb';generalize (storeCells a (ρ pv).cells.toList).runT P w' es=q at h1 h2;obtain⟨q,es'⟩:=q;have h3:∀e∈es',EvOk Kc e:=λe he=>(h1 e he).elim (hes e) id;cases q with
     |halt h w''=>exact⟨h3,(OkD.of_below hbl).trans h2⟩
     |ok x w''=>exact⟨h3,(OkD.of_below hbl).trans h2⟩
 rw[Sem.runT_eq]at key;exact⟨by rw[Sem.runT_eq];exact key.1,key.2⟩
theorem zq2b(hJ:JS P main Kc J){b:Frame}{a:Act}{todo:List Item}{c:Frame}{cs:List Frame}{s:γ}{w:World}{fn:Func}{v:Value}(hn:b.kind=.normal)(hd:a.defers=[])(hf:P.funcs[b.fn]?=some fn)
 (hr:∀τ d,(results fn a.tmps).run P (re w τ d)=.ok v (re w τ d)) (h:J s (G (c.finish v) cs) w):J s (G {b.at a todo with mode:=.returning} (c::cs)) w:=by
 refine hJ.step _ _ _ rfl λτ d=>?_;obtain⟨he,hD⟩:=zq3l (Kc:=Kc) (P:=P) (s:=(results fn a.tmps).bind λ_=>.pure .skip) (zq0 (zq1i fn a.tmps) λ_=>trivial) (re w τ d);have hev:∀e∈((results fn a.tmps).runT P (re w τ d) #[]).2,EvOk Kc e:=λe he=>zq2o ((zq1y _ (zq1i fn a.tmps) _ #[] e he).resolve_left (by simp));refine⟨G (c.finish v) cs,re w τ d,seen P b.fn ((results fn a.tmps).runT P (re w τ d) #[]).2,?_,OkD.refl _ _ _,λe he=>hev e (mem_seen he),hJ.re' _ _ _ _ _ h⟩;have h1:((results fn a.tmps).runT P (re w τ d) #[]).1=.ok v (re w τ d):=by rw[Sem.runT_eq];exact hr τ d
 simp only[G,stepG,unwind,Frame.at,hd,hf];generalize (results fn a.tmps).runT P (re w τ d) #[]=r at h1;obtain⟨r,es⟩:=r;simp only at h1;subst h1;simp only[doReturn,hn,GStep.after,Array.append_empty]
theorem raiseJ(hJ:JS P main Kc J){b:Frame}{a:Act}{todo:List Item}{c:Frame}{cs:List Frame}{s:γ}{w:World}{fn:Func}{ch:List PanicEntry}(hd:a.defers=[])(hf:P.funcs[b.fn]?=some fn)
 (h:J s (G (c.raise ch) cs) w):J s (G {b.at a todo with mode:=.panicking ch} (c::cs)) w:=by
 refine hJ.step _ _ _ rfl λτ d=>⟨_,_,#[],?_,OkD.refl _ _ _,by simp,hJ.re' _ _ _ τ d h⟩;simp[G,stepG,unwind,Frame.catches,Frame.at,hd,hf]
end
section
variable {P:Program} {A:FuncId->Bool}
theorem zq4g{main:Bool}{fr:Frame}{cs:List Frame}{v:Value}{w1 w':World}{g':Goroutine}{es:Array Event}(h:doReturn P main fr cs none v w1=.go g' w' es):
 w'=w1/\es=#[]/\∀w2,doReturn P main fr cs none v w2=.go g' w2 #[]:=by
 unfold doReturn at h |-;cases cs with
 |cons c r=>
  simp only[]at h |-;cases hk:fr.kind<;>simp only[hk,GStep.go.injEq]at h |- <;>exact⟨h.2.1.symm,h.2.2.symm,λw2=>⟨h.1,trivial,trivial⟩⟩
 |nil=>
  simp only[]at h |-;have key:∀X:GStep,X=(if(!main)=true then .go {frame:=fr,callers:=[],status:=.finished,dying:=none} w1 else match P.inits.idxOf? fr.fn with
   |some k=>.go {frame:=Frame.enter P (P.initFrom (k+1)) #[] .normal,callers:=[],status:=.running,dying:=none} w1
   |none=>.ended (.done v) w1)->X=.go g' w' es->w'=w1/\es=#[]/\∀w2,(if(!main)=true then .go {frame:=fr,callers:=[],status:=.finished,dying:=none} w2 else match P.inits.idxOf? fr.fn with
   |some k=>.go {frame:=Frame.enter P (P.initFrom (k+1)) #[] .normal,callers:=[],status:=.running,dying:=none} w2
   |none=>.ended (.done v) w2:GStep)=.go g' w2 #[]:=by
   rintro X rfl h;cases main with
   |false=>simp only[Bool.not_false,if_true,GStep.go.injEq]at h |-;exact⟨h.2.1.symm,h.2.2.symm,λw2=>⟨h.1,trivial,trivial⟩⟩
   |true=>
    simp only[Bool.not_true,Bool.false_eq_true,if_false]at h |-;cases hi:P.inits.idxOf? fr.fn with
    |some k=>simp only[hi,GStep.go.injEq]at h |-;exact⟨h.2.1.symm,h.2.2.symm,λw2=>⟨h.1,trivial,trivial⟩⟩
    |none=>rw[hi]at h;cases h
  cases hk:fr.kind<;>simp only[hk]at h |- <;>first|exact key _ rfl h|cases h
theorem zqbj(hP:Plain P A){main:Bool}{fr:Frame}{cs:List Frame}{s:Sem Next}{wc wc':World}{fr':Frame}{cs':List Frame}{es:Array Event}(hk:fr.kind≠.early)
 (hl:leaf P (zq1u P A) s) (ht:tame P true s) (hs:stepG.apply P true fr cs none s wc=.go (G fr' cs') wc' es):Chans wc wc':=by
 have hg:=zq36 s ht hl wc #[];have hch:=zq2h s ht wc #[];have hke:(fr.kind==CallKind.early)=false:=by simpa using hk
 unfold stepG.apply at hs;simp only[if_true,hke,Bool.false_eq_true,if_false]at hs;generalize hr:s.runT P wc #[]=r at hg hs hch;obtain⟨r,es'⟩:=r;simp only at hg hs hch;cases r with
 |ok nx w1=>
  have hnx:zq1u P A nx:=hg;cases nx with
  |value v=>simp only[GStep.after,GStep.go.injEq]at hs;obtain⟨_,rfl,_⟩:=hs;exact hch
  |skip=>simp only[GStep.after,GStep.go.injEq]at hs;obtain⟨_,rfl,_⟩:=hs;exact hch
  |enter f args=>simp only[GStep.after,GStep.go.injEq]at hs;obtain⟨_,rfl,_⟩:=hs;exact hch
  |_=>exact hnx.elim
 |halt x w1=>
  rcases hg with hg|⟨b,rfl⟩
  . cases x with
    |panic v=>simp only[GStep.after,GStep.go.injEq]at hs;obtain⟨_,rfl,_⟩:=hs;exact hch
    |stuck s=>simp only[GStep.after]at hs;cases hs
    |unsupported u=>cases u<;>first|(simp only[GStep.after]at hs;cases hs)|exact hg.elim
    |_=>exact hg.elim
  . obtain⟨o,w'',es'',he⟩:=zq3i hP fr cs none b w1;simp only[he,GStep.after]at hs;cases hs
theorem zq1e{main:Bool}{fr:Frame}{cs:List Frame}{wc wc':World}{fr':Frame}{cs':List Frame}{es:Array Event}
 (hc:(∃g:Goroutine,∀w,stepG P main (G fr cs) w=.go g w)\/∀w,∃o w' es,stepG P main (G fr cs) w=.ended o w' es) (hs:stepG P main (G fr cs) wc=.go (G fr' cs') wc' es):Chans wc wc':=by
 rcases hc with⟨g,hc⟩|hc
 . rw[hc]at hs;cases hs;exact Chans.refl _
 . obtain⟨o,w',es',he⟩:=hc wc;rw[he]at hs;cases hs
theorem zqhc(hP:Plain P A){main:Bool}{fr:Frame}{cs:List Frame}{wc wc':World}{fr':Frame}{cs':List Frame}{es:Array Event}(ht:Top P A fr)
 (hs:stepG P main (G fr cs) wc=.go (G fr' cs') wc' es):Chans wc wc':=by
 obtain⟨fn,tmps,todo,defers,mode,kind,round⟩:=fr;have hrd:=ht.round;have hkd:=ht.kind;have hhd:=ht.head;simp only at hrd hkd hhd;subst hrd;rcases hhd with⟨rfl,i,t,rfl,hi⟩|⟨rfl,rfl⟩|⟨rfl,rfl⟩
 . cases i with
   |code c=>
    have hc:zqp P A c=true:=hi;cases c with
    |skip=>exact zq1e (.inl ⟨_,λw=>by simp only[G,stepG,stepG.exec];rfl⟩) hs
    |exit id=>
     refine zq1e ?_ hs;cases hx:exitTo id t with
     |some k'=>exact .inl ⟨_,λw=>by simp only[G,stepG,stepG.exec,hx,Option.elim];rfl⟩
     |none=>exact .inr λw=>by simp[G,stepG,stepG.exec,hx]
    |ret=>exact zq1e (.inl ⟨_,λw=>by simp only[G,stepG,stepG.exec];rfl⟩) hs
    |refuse why=>exact zq1e (.inr λw=>by simp[G,stepG,stepG.exec]) hs
    |region id ops draw=>
     cases draw with
     |false=>exact zq1e (.inl ⟨_,λw=>by simp only[G,stepG,stepG.exec,Bool.not_false,if_true];rfl⟩) hs
     |true=>
      have e:∀w:World,stepG P main (G ⟨fn,tmps,.code (.region id ops true)::t,defers,.run,kind,none⟩ cs) w=.go (G ⟨fn,tmps,.inRegion ops (Region.schedule (P.follows .mixedOrders) ops (w.tape w.drawn (.order fn id)))::t,defers,.run,kind,none⟩ cs) w.drew #[]:=by
       intro w;have:=stepG_region_draw (P:=P) (main:=main) (b:=⟨fn,tmps,[],[],.run,kind,none⟩) (a:=⟨tmps,defers⟩) (k:=t) (cs:=cs) (w:=w) (id:=id) (ops:=ops);exact this
      rw[e wc]at hs;cases hs;exact⟨λ_ _ h _=>h,rfl,rfl⟩
    |seq a b=>exact zq1e (.inl ⟨_,λw=>by simp only[G,stepG,stepG.exec];rfl⟩) hs
    |cond c a b=>
     refine zq1e ?_ hs;cases hb:(⟨fn,tmps,.code (.cond c a b)::t,defers,.run,kind,none⟩:Frame).eval c with
     |bool x=>exact .inl ⟨_,λw=>by simp only[G,stepG,stepG.exec,hb];rfl⟩
     |_=>exact .inr λw=>by simp[G,stepG,stepG.exec,hb]
    |block id c=>exact zq1e (.inl ⟨_,λw=>by simp only[G,stepG,stepG.exec];rfl⟩) hs
    |loop c=>exact zq1e (.inl ⟨_,λw=>by simp only[G,stepG,stepG.exec];rfl⟩) hs
    |_=>simp[zqp]at hc
   |inBlock id=>exact zq1e (.inl ⟨_,λw=>by simp only[G,stepG,stepG.exec];rfl⟩) hs
   |inLoop c=>exact zq1e (.inl ⟨_,λw=>by simp only[G,stepG,stepG.exec];rfl⟩) hs
   |inRegion ops l=>
    cases l with
    |nil=>exact zq1e (.inl ⟨_,λw=>by simp only[G,stepG,stepG.exec];rfl⟩) hs
    |cons j r=>
     cases hj:ops[j]? with
     |none=>
      refine zq1e (.inl ⟨G (Frame.finish ⟨fn,tmps,.inRegion ops (j::r)::t,defers,.run,kind,none⟩ undef) cs,λw=>?_⟩) hs;simp only[G,stepG,stepG.exec,hj,Option.map_none,Option.getD_none,Bool.false_eq_true,if_false]
     |some o=>
      cases hw:Region.wanted o (yielded ops tmps)with
      |false=>
       refine zq1e (.inl ⟨G (Frame.finish ⟨fn,tmps,.inRegion ops (j::r)::t,defers,.run,kind,none⟩ undef) cs,λw=>?_⟩) hs;simp only[G,stepG,stepG.exec,hj,Option.map_some,al_od,hw,Bool.false_eq_true,if_false]
      |true=>
       have e:∀w,stepG P main (G ⟨fn,tmps,.inRegion ops (j::r)::t,defers,.run,kind,none⟩ cs) w=stepG.apply P true ⟨fn,tmps,.inRegion ops (j::r)::t,defers,.run,kind,none⟩ cs none (execOp (Frame.eval ⟨fn,tmps,.inRegion ops (j::r)::t,defers,.run,kind,none⟩) o) w:=by
        intro w;have:=stepG_oper (P:=P) (main:=main) (b:=⟨fn,tmps,[],[],.run,kind,none⟩) (a:=⟨tmps,defers⟩) (k:=t) (cs:=cs) (w:=w) (ops:=ops) (i:=j) (rest:=r) hj hw;exact this
       rw[e wc]at hs;have hop:okOp P A o.op=true:=zq4u hi hj;obtain⟨k1,k2⟩:=zq1n hP.fns o hop (Frame.eval ⟨fn,tmps,.inRegion ops (j::r)::t,defers,.run,kind,none⟩) (λf=>rfl);exact zqbj (main:=main) hP (fr:=⟨fn,tmps,.inRegion ops (j::r)::t,defers,.run,kind,none⟩) hkd k2 k1 hs
   |_=>simp[zq11]at hi
 . exact zq1e (.inl ⟨_,λw=>by simp only[G,stepG,stepG.exec];rfl⟩) hs
 . simp only[G,stepG,unwind]at hs;cases hf:P.funcs[fn]? with
   |none=>
    rw[hf]at hs;obtain⟨rfl,rfl,h3⟩:=zq4g hs;exact Chans.refl _
   |some f=>
    rw[hf]at hs;simp only[]at hs;have h1:=zq2h (P:=P) (results f tmps) (zq25 _ (zq1i f tmps)) wc #[];generalize (results f tmps).runT P wc #[]=r at h1 hs;obtain⟨r,es'⟩:=r;cases r with
    |halt x w1=>cases x<;>(simp only[GStep.after]at hs;cases hs)
    |ok v w1=>
     simp only[resW]at h1 hs;generalize hd:doReturn P main ⟨fn,tmps,todo,[],.returning,kind,none⟩ cs none v w1=S at hs;cases S<;>simp only[GStep.after,GStep.go.injEq,reduceCtorEq]at hs;rename_i g w2 es2;obtain⟨rfl,rfl,rfl⟩:=hs;obtain⟨rfl,_,_⟩:=zq4g hd;exact h1
end
section
variable {P:Program} {main:Bool} {Kc:Addr->Option Value} {γ:Type} {J:γ->Goroutine->World->Prop} {A:FuncId->Bool}
def zqm(fn:Func)(args:Array Value):Act:={tmps:=args++Array.replicate (fn.ntmps - args.size) undef,defers:=[]}
def CalmJ(P:Program)(main:Bool){γ:Type}(J:γ->Goroutine->World->Prop):Prop:=
 ∀s fr cs w,(∀τ d,∃fr' cs' w' es,stepG P main (G fr cs) (re w τ d)=.go (G fr' cs') w' es/\(∀e∈es,calmEv true e)/\Chans w w'/\J s (G fr' cs') w')->J s (G fr cs) w
theorem zq5f(hcalm:CalmJ P main J)(hP:Plain P A){s:γ}{fr:Frame}{cs:List Frame}{w:World}(ht:Top P A fr)
 (h:∀τ d,∃fr' cs' w' es,stepG P main (G fr cs) (re w τ d)=.go (G fr' cs') w' es/\(∀e∈es,calmEv true e)/\J s (G fr' cs') w'):J s (G fr cs) w:=
 hcalm s fr cs w λτ d=>by
  obtain⟨fr',cs',w',es,h1,h2,h3⟩:=h τ d;have hc:=zqhc hP ht h1;exact⟨fr',cs',w',es,h1,h2,⟨hc.1,hc.2⟩,h3⟩
theorem zq3a{fn:Func}{tmps:Array Value}{w:World}{v:Value}(h:(results fn tmps).run P w=.ok v w)(τ:Nat->Question->Nat)(d:Nat):(results fn tmps).run P (re w τ d)=.ok v (re w τ d):=by
 obtain⟨_,_,h3⟩:=zq2t _ (zq25 _ (zq1i (P:=P) fn tmps)) w #[];rw[Sem.runT_eq]at h3;have:=h3 τ d (λj hj=>by simp only[h,resW]at hj;omega);rw[Sem.runT_eq]at this;have:=(Prod.mk.inj this).1;rw[h]at this;simpa[resRe,resW]using this
def zq38(R:Value->World->Prop):Ending->World->Prop
 |.returned v,w=>R v w
 |_,_=>False
def onlyRetJ(R:Value->World->Prop)(s:γ)(s':γ):Ending->World->Prop
 |.returned v,w=>s'=s/\R v w
 |_,_=>False
theorem zq6r(hJ:JS P main Kc J)(hcalm:CalmJ P main J)(hP:Plain P A){f:FuncId}{fn:Func}{c:Code}{args:Array Value}{s:γ}{w:World}(hf:P.funcs[f]?=some fn)(hb:fn.body=some c)(hc:zqp P A c=true)
 {R:Value->World->Prop} (hR:∀v w τ d,R v w->R v (re w τ d)) (h:∀τ d,Calls P f args (re w τ d) (zq38 R)):zq1g P J f args (λs'=>onlyRetJ R s s') s w:=by
 intro cl cs h1 h2
 let Φ:Frame->World->Prop:=λfr w=>fr.mode=.returning/\fr.defers=[]/\fr.kind=.normal/\fr.fn=f/\∃v,(results fn fr.tmps).run P w=.ok v w/\R v w
 refine lift hP (J:=λg w=>J s g w) (main:=main) (cs:=cl::cs) (λfr cs' w ht h=>zq5f hcalm hP ht h) (zq5h args hf hb hc) (Φ:=Φ) ?_ (λfr w h=>h.1) ?_ ?_
 . rintro fr w τ d ⟨a,b,c,e,v,hv,hr⟩;exact⟨a,b,c,e,v,zq3a hv τ d,hR _ _ _ _ hr⟩
 . intro τ d;obtain⟨e,w',fr,hRe,hcm,hfn,hl⟩:=h τ d [trap];cases e with
   |returned v=>
    obtain⟨n,hn⟩:=hcm;obtain⟨hm,hd,hk,fn',hf',hr⟩:=hl;rw[hfn,hf]at hf';obtain rfl:=Option.some.inj hf';exact⟨n,fr,w',hn,hm,hd,hk,hfn,v,hr,hRe⟩
   |_=>exact hRe.elim
 . rintro fr w ⟨hm,hd,hk,hfn,v,hv,hr⟩;have e:fr={(fr.at ⟨fr.tmps,[]⟩ fr.todo)with mode:=.returning,roundOf:=fr.roundOf}:=by
    obtain⟨fn',tmps,todo,defers,mode,kind,round⟩:=fr;simp only at hm hd;subst hm hd;rfl
   have hj:=h1 s v w ⟨rfl,hr⟩;refine hJ.step _ _ _ rfl λτ d=>?_;have hev:∀e∈((results fn fr.tmps).runT P (re w τ d) #[]).2,EvOk Kc e:=λe he=>zq2o ((zq1y _ (zq1i fn fr.tmps) _ #[] e he).resolve_left (by simp));refine⟨G (cl.finish v) cs,re w τ d,seen P fr.fn ((results fn fr.tmps).runT P (re w τ d) #[]).2,?_,OkD.refl _ _ _,λe he=>hev e (mem_seen he),hJ.re' _ _ _ _ _ hj⟩;have h1:((results fn fr.tmps).runT P (re w τ d) #[]).1=.ok v (re w τ d):=by rw[Sem.runT_eq];exact zq3a hv τ d
   rw[<-hfn]at hf;simp only[G,stepG,unwind,hm,hd,hf];generalize (results fn fr.tmps).runT P (re w τ d) #[]=r at h1;obtain⟨r,es⟩:=r;simp only at h1;subst h1;simp only[doReturn,hk,GStep.after,Array.append_empty]
def HoldR(P:Program)(Fin:Machine->Trace->Prop)(Kc:Addr->Option Value)(Inb:Nat->Option Seat)(h n:Nat)(g:Goroutine)(w:World):Prop:=∀τ,Hold P Fin Kc Inb h n g (re w τ 0)
theorem zq5k{Fin:Machine->Trace->Prop}{Kc:Addr->Option Value}{Inb:Nat->Option Seat}{h n:Nat}{g:Goroutine}{w:World}(H:HoldR P Fin Kc Inb h n g w)(τ:Nat->Question->Nat)(d:Nat):Hold P Fin Kc Inb h n g (re w τ d):=hold_at (H τ) d
theorem okD_less{Kc:Addr->Option Value}{Pb Pb':Nat->Prop}(hp:∀c,Pb' c->Pb c){w w':World}(h:OkD Kc Pb w w'):OkD Kc Pb' w w':=⟨h.1,λc hc=>h.2 c (hp c hc)⟩
theorem zq5l{Fin:Machine->Trace->Prop}(hFin:Back P Fin){Kc:Addr->Option Value}{Inb:Nat->Option Seat}{h n:Nat}{g:Goroutine}{w:World}(hrun:g.status=.running)
 (hs:∀τ d,∃g' w' es,stepG P (h==0) g (re w τ d)=.go g' w' es/\OkD Kc (Seats Inb) (re w τ d) w'/\(∀e∈es,EvOk Kc e)/\HoldR P Fin Kc Inb h n g' w'):HoldR P Fin Kc Inb h n g w:=
 λτ=>zqcm hFin hrun λd=>by
  obtain⟨g',w',es,h1,h2,h3,h4⟩:=hs τ d;exact⟨g',w',es,h1,h2,h3,zq5k h4 w'.tape w'.drawn⟩
theorem zq35{Fin:Machine->Trace->Prop}(hFin:Back P Fin)(Kc:Addr->Option Value)(Inb:Nat->Option Seat)(h n:Nat):JS P (h==0) Kc (λ(_:Unit)=>HoldR P Fin Kc Inb h n):=
 ⟨λ_ g w τ d H τ'=>zq5k H τ' 0,λ_ g w hr hs=>zq5l hFin hr λτ d=>by
  obtain⟨g',w',es,h1,h2,h3,h4⟩:=hs τ d;exact⟨g',w',es,h1,okD_less (λ_ _=>trivial) h2,h3,h4⟩⟩
theorem zqck{Fin:Machine->Trace->Prop}(hFin:Back P Fin){Inb:Nat->Option Seat}(hI:∀i,Inb i=none)(h n:Nat):CalmJ P (h==0) (λ(_:Unit)=>HoldR P Fin (λ_=>none) Inb h n):=
 λ_ fr cs w hs=>zq5l hFin rfl λτ d=>by
  obtain⟨fr',cs',w',es,h1,h2,hch,h3⟩:=hs τ d;exact⟨_,w',es,h1,⟨⟨λ_ a v e=>(by cases e),hch.2.1,hch.2.2⟩,λc⟨i,s,hi,_⟩=>by rw[hI]at hi;cases hi⟩,λe he=>zq75 (h2 e he),h3⟩
end
section
variable {P:Program} {main:Bool} {Kc:Addr->Option Value} {γ:Type} {J:γ->Goroutine->World->Prop}
end
end Go.Car
namespace Go.Car
open Go Go.Conc Go.RowKit
open Go.ConcN (upd upd_ne upd_same)
section
variable {P:Program}
inductive zq48(P:Program)(Kc:Addr->Option Value)(Inb:Nat->Option Seat)(h:Nat)(w:World)(g:Goroutine):Option Seat->Prop
 |sits (cb:Nat) (z:Value) (ok:Bool) (home:Goroutine->Prop) (hfresh:∀i s,i≠h->Inb i=some s->¬s.has cb) (hc:∃cap k,w.heap[cb]?=some (.chan cap #[] false k k false))
  (hs:∃B nh,Sits P (h==0) (KK Kc) (zq21 Kc) B (Seat.one cb z ok home) nh g):zq48 P Kc Inb h w g (some (Seat.one cb z ok home))
 |leaves (h0:0<h) (hq:∃nh,QuitsD P nh 0 g):zq48 P Kc Inb h w g none
theorem zq4j{Kc:Addr->Option Value}{B:Nat}{e:Event}(h:EvOk Kc e)(hl:(MemAct.ofEvent e).low B):EvHd (zq21 Kc) B e:=⟨h.1,h.2.1,h.2.2,hl⟩
theorem zq6e{Kc:Addr->Option Value}{Inb:Nat->Option Seat}{w:World}(hch:∀i s c,Inb i=some s->s.has c->∃cap k,w.heap[c]?=some (.chan cap #[] false k k false))(hK:KK Kc w):
 ∀(w':World)(i:Nat)(s:Seat)(c cap:Nat)(buf:Array Value)(cl:Bool)(a b:Nat)(tm:Bool),Inb i=some s->s.has c->KK Kc w'->KK Kc (w'.setChan c cap buf cl a b tm):=by
 intro w' i s c cap buf cl a b tm hi hc hK' x v hx;have hne:x.block≠c:=by
  intro e;obtain⟨cap,k,hh⟩:=hch i s c hi hc;have:=(hK x v hx).1;rw[<-e]at hh;simp[World.cell?,hh]at this
 obtain⟨h1,h2⟩:=hK' x v hx;have:(w'.setChan c cap buf cl a b tm).heap[x.block]?=w'.heap[x.block]?:=by
  show(w'.heap.setIfInBounds c _)[x.block]?=_;rw[al_gn (λe=>hne e.symm)]
 exact⟨by rw[<-h1];simp only[World.cell?,this],by rw[<-h2];simp only[World.frozen?,this]⟩
theorem zq5j{Fin:Machine->Trace->Prop}(hFin:Back P Fin){Kc:Addr->Option Value}{Inb:Nat->Option Seat}{h j n c:Nat}{z v z':Value}{ok:Bool}{home:Goroutine->Prop}{a a₂:Goroutine}{w:World}{es:Array Event}{new:Option Seat}
 (hjh:j≠h) (hjn:j<n) (hj:Inb j=some (Seat.one c z ok home)) (hrun:a.status=.running)
 (hsend:∀τ d,stepG P (h==0) a (re w τ d)=.comm a₂ #[scase c v z'] true .send (re w τ d) es) (hes:∀e∈es,EvOk Kc e)
 (hb:zq48 P Kc Inb h w (Conc.served a₂ undef) new)
 (hnext:∀g₂ k cap,home g₂->w.heap[c]?=some (.chan cap #[] false k k false)->HoldR P Fin Kc (upd Inb h new) j n (Conc.served g₂ (recvd ok v true)) (w.setChan c cap #[] false (k+1) (k+1) false)):HoldR P Fin Kc Inb h n a w:=by
 intro τ d Mem B gs sl T q hM hsz hg C;have hsend':∀d',stepG P (h==0) a (((re w τ 0).at d).at d')=.comm a₂ #[scase c v z'] true .send (((re w τ 0).at d).at d') es:=λd'=>hsend τ d';obtain⟨B₁,hB₁⟩:=zq4t es;have fin:∀(B':Nat)(Mem':Nat->Prop)(Inb':Nat->Option Seat)(hInb:Inb'=upd Inb h new)(m':Machine)(T':Trace)(N:Nat),(Mem' h->True)->Mem j->
  runNT P N (crowd gs ((re w τ 0).at d) sl) T=(.next m',T')->Given P (KK Kc) (zq21 Kc) B' Mem Inb' j (Seat.one c z ok home) c 0 gs.size ((re w τ 0).at d) v m' T'->Fin (crowd gs ((re w τ 0).at d) sl) T:=by
  intro B' Mem' Inb' hInb m' T' N _ hMj hr ⟨gs',g₂,d',k,cap,sl',q',hm,hsz',hgj,hhome,hheap,R⟩;subst hm;refine hFin N _ _ _ _ hr rfl rfl ?_;have hcr:commResult (Seat.one c z ok home).cases (Seat.one c z ok home).shape ((0:Nat):Int) v true=recvd ok v true:=commResult_one c z ok _ v true;rw[hcr]at hgj;have:=hnext g₂ k cap hhome hheap;subst hInb;exact zq5k this τ d' 0 |> λH=>by
   have e:((re w τ 0).at d).at d'=re w τ d':=rfl;have H':=this τ;exact H' d' _ _ gs' sl' _ _ ⟨hMj,.inr rfl⟩ (by omega) hgj R
 have hchans:∀i s c,Inb i=some s->s.has c->∃cap k,((re w τ 0).at d).heap[c]?=some (.chan cap #[] false k k false):=λi s c hi hc=>C.chans i s c (λz=>z) hi hc;cases hb with
 |leaves h0 hq=>
  obtain⟨nh,hq⟩:=hq
  let B':=max B B₁
  have C':=zq3w (Nat.le_max_left B B₁) C;obtain⟨N,m',T',hr,hG⟩:=give (λw d h=>h) (zq6e hchans C.keep) (sl:=sl) hjh (by omega) hj (kk:=0) (z:=z) rfl hM hg hrun hsend' (λe he=>zq4j (hes e he) (MemAct.low_mono (Nat.le_max_right _ _) (hB₁ e he))) C'
   (Inb':=upd Inb h none) (λx hx=>upd_ne Inb _ hx) (.inr (upd_same Inb h none)) (nh:=nh) (λT' hD=>by rw[upd_same];exact⟨h0,by rw[hD];exact hq⟩)
  exact fin B' Mem _ rfl m' T' N (λ_=>trivial) ((C'.mem j _ hj).1) hr hG
 |sits cb zb okb homeb hfresh hc hs=>
  obtain⟨B₂,nh,hs⟩:=hs
  let B':=max B (max B₁ (max B₂ (cb+1)))
  have hBB:B<=B':=Nat.le_max_left _ _;have hB1:B₁<=B':=Nat.le_trans (Nat.le_max_left _ _) (Nat.le_max_right _ _);have hB2:B₂<=B':=Nat.le_trans (Nat.le_trans (Nat.le_max_left _ _) (Nat.le_max_right _ _)) (Nat.le_max_right _ _);have hB3:cb<B':=Nat.lt_of_lt_of_le (Nat.lt_succ_self cb) (Nat.le_trans (Nat.le_trans (Nat.le_max_right B₂ (cb+1)) (Nat.le_max_right _ _)) (Nat.le_max_right _ _));have C':=zq3w hBB C;have C₁:=C'.reseat hM (Seat.one cb zb okb homeb) (Seat.one_wf _ _ _ _) (λi s' c' hi hI hc' hcc=>by rw[Seat.one_has]at hcc;subst hcc;exact hfresh i s' hi hI hc') (λc' hcc=>by rw[Seat.one_has]at hcc;subst hcc;exact hc) (λc' hcc=>by rw[Seat.one_has]at hcc;subst hcc;exact hB3);have hj₁:upd Inb h (some (Seat.one cb zb okb homeb)) j=some (Seat.one c z ok home):=by rw[upd_ne Inb _ hjh];exact hj
  have hchans₁:∀i s c,upd Inb h (some (Seat.one cb zb okb homeb)) i=some s->s.has c->∃cap k,((re w τ 0).at d).heap[c]?=some (.chan cap #[] false k k false):=λi s c hi hc=>C₁.chans i s c (λz=>z) hi hc;obtain⟨N,m',T',hr,hG⟩:=give (λw d h=>h) (zq6e hchans₁ C.keep) (sl:=sl) hjh (by omega) hj₁ (kk:=0) (z:=z) rfl hM hg hrun hsend' (λe he=>zq4j (hes e he) (MemAct.low_mono hB1 (hB₁ e he))) C₁
   (Inb':=upd Inb h (some (Seat.one cb zb okb homeb))) (λx hx=>rfl) (.inl rfl) (nh:=nh) (λT' hD=>by rw[upd_same];exact zq5x hB2 hs)
  exact fin B' Mem _ rfl m' T' N (λ_=>trivial) ((C'.mem j _ hj).1) hr hG
theorem zqcj{Fin:Machine->Trace->Prop}(hFin:Back P Fin){Kc:Addr->Option Value}{Inb:Nat->Option Seat}{h n:Nat}{a a' child:Goroutine}{w:World}{es:Array Event}{new:Option Seat}
 (hrun:a.status=.running) (hgo:∀τ d,stepG P (h==0) a (re w τ d)=.spawn a' child (re w τ d) es) (hes:∀e∈es,EvOk Kc e) (hnew:Inb n=none) (hn:h≠n)
 (hb:zq48 P Kc Inb h w a' new)
 (hnext:HoldR P Fin Kc (upd Inb h new) n (n+1) child w):HoldR P Fin Kc Inb h n a w:=by
 intro τ d Mem B gs sl T q hM hsz hg C;have hgo':∀d',stepG P (h==0) a (((re w τ 0).at d).at d')=.spawn a' child (((re w τ 0).at d).at d') es:=λd'=>hgo τ d';obtain⟨B₁,hB₁⟩:=zq4t es;subst hsz;cases hb with
 |leaves h0 hq=>
  obtain⟨nh,hq⟩:=hq;have C':=zq3w (Nat.le_max_left B B₁) C;obtain⟨N,gs',d',sl',T',q',hr,hsz',hgc,R⟩:=hire_give (λw d h=>h) (sl:=sl) hM hg hrun hgo' (λe he=>zq4j (hes e he) (MemAct.low_mono (Nat.le_max_right _ _) (hB₁ e he))) C' hnew
   (Inb':=upd Inb h none) (λx hx=>upd_ne Inb _ hx) (.inr (upd_same Inb h none)) (nh:=nh) (λT' hD=>by rw[upd_same];exact⟨h0,by rw[hD];exact hq⟩)
  exact hFin N _ _ _ _ hr rfl rfl (hnext τ d' _ _ gs' sl' _ _ (.inr rfl) hsz' hgc R)
 |sits cb zb okb homeb hfresh hc hs=>
  obtain⟨B₂,nh,hs⟩:=hs
  let B':=max B (max B₁ (max B₂ (cb+1)))
  have hBB:B<=B':=Nat.le_max_left _ _;have hB1:B₁<=B':=Nat.le_trans (Nat.le_max_left _ _) (Nat.le_max_right _ _);have hB2:B₂<=B':=Nat.le_trans (Nat.le_trans (Nat.le_max_left _ _) (Nat.le_max_right _ _)) (Nat.le_max_right _ _);have hB3:cb<B':=Nat.lt_of_lt_of_le (Nat.lt_succ_self cb) (Nat.le_trans (Nat.le_trans (Nat.le_max_right B₂ (cb+1)) (Nat.le_max_right _ _)) (Nat.le_max_right _ _));have C':=zq3w hBB C;have C₁:=C'.reseat hM (Seat.one cb zb okb homeb) (Seat.one_wf _ _ _ _) (λi s' c' hi hI hc' hcc=>by rw[Seat.one_has]at hcc;subst hcc;exact hfresh i s' hi hI hc') (λc' hcc=>by rw[Seat.one_has]at hcc;subst hcc;exact hc) (λc' hcc=>by rw[Seat.one_has]at hcc;subst hcc;exact hB3);obtain⟨N,gs',d',sl',T',q',hr,hsz',hgc,R⟩:=hire_give (λw d h=>h) (sl:=sl) hM hg hrun hgo' (λe he=>zq4j (hes e he) (MemAct.low_mono hB1 (hB₁ e he))) C₁ (by rw[upd_ne Inb _ (λe=>hn e.symm)];exact hnew)
   (Inb':=upd Inb h (some (Seat.one cb zb okb homeb))) (λx hx=>rfl) (.inl rfl) (nh:=nh) (λT' hD=>by rw[upd_same];exact zq5x hB2 hs)
  exact hFin N _ _ _ _ hr rfl rfl (hnext τ d' _ _ gs' sl' _ _ (.inr rfl) hsz' hgc R)
end
end Go.Car
namespace Go.Car
open Go Go.Conc Go.RowKit
section
variable {P:Program} {main:Bool} {Kc:Addr->Option Value} {γ:Type} {J:γ->Goroutine->World->Prop} {A:FuncId->Bool}
def zq7(J:γ->Goroutine->World->Prop)(ops:Array Oper)(rest:List Nat)(b:Frame)(k:List Item)(cs:List Frame)(s:γ):Exit->Act->World->Prop
 |.normal,a,w=>J s (G (b.at a (.inRegion ops rest::k)) cs) w
 |.panic ch,a,w=>∀τ d todo,J s (G {b.at a todo with mode:=.panicking ch} cs) (re w τ d)
 |_,_,_=>False
theorem zq6v(hJ:JS P main Kc J){ops:Array Oper}{rest:List Nat}{b:Frame}{k:List Item}{cs:List Frame}{s:γ}:Still' (zq7 J ops rest b k cs s):=by
 intro e a w τ d τ' d' h;cases e with
 |normal=>have:=hJ.re' _ _ _ τ' d' h;exact this
 |panic ch=>exact λτ d=>h τ d
 |_=>exact h
theorem zq1t{b:Frame}{k:List Item}{cs:List Frame}(hb:b.kind≠.early)(hJ:JS P main Kc J){ops:Array Oper}{i:Nat}{rest:List Nat}{o:Oper}{s:γ}{a:Act}{w:World}(ho:ops[i]?=some o)(hw:Region.wanted o (yielded ops a.tmps)=true)
 (h:∀τ d,(∀e∈((execOp a.eval o).runT P (re w τ d) #[]).2,EvOk Kc e)/\OkD Kc (λ_=>True) (re w τ d) (resW ((execOp a.eval o).run P (re w τ d)))/\
  uponJ o a (λa' w'=>J s (G (b.at a' (.inRegion ops rest::k)) cs) w') (λch w'=>∀todo,J s (G {b.at a todo with mode:=.panicking ch} cs) w')
   (λf args w'=>False) ((execOp a.eval o).run P (re w τ d))):J s (G (b.at a (.inRegion ops (i::rest)::k)) cs) w:=by
 refine hJ.step _ _ _ rfl λτ d=>?_;obtain⟨h1,h2,h3⟩:=h τ d;have hfin:∀v,(b.at a (.inRegion ops (i::rest)::k)).finish v=b.at (a.put o.dst v) (.inRegion ops rest::k):=λv=>by rw[Frame.finish_at,ho];rfl
 have hk':(b.kind==CallKind.early)=false:=by simpa using hb
 have hrun:((execOp a.eval o).runT P (re w τ d) #[]).1=(execOp a.eval o).run P (re w τ d):=by rw[Sem.runT_eq]
 have hev:∀fn,∀e∈seen P fn ((execOp a.eval o).runT P (re w τ d) #[]).2,EvOk Kc e:=λfn e he=>h1 e (mem_seen he);rw[stepG_oper ho hw,stepG.apply];simp only[if_true];generalize hr:(execOp a.eval o).runT P (re w τ d) #[]=r at hrun hev;obtain⟨res,es⟩:=r;simp only at hrun hev;subst hrun;generalize hres:(execOp a.eval o).run P (re w τ d)=res at h2 h3;have hke:((b.at a (.inRegion ops (i::rest)::k)).kind==CallKind.early)=false:=hk';cases res with
 |ok nx w'=>
  cases nx with
  |value v=>exact⟨G ((b.at a (.inRegion ops (i::rest)::k)).finish v) cs,w',seen P b.fn es,by simp only[hke,Bool.false_eq_true,if_false,GStep.after,Array.append_empty];rfl,h2,hev _,by rw[hfin];exact h3⟩
  |skip=>exact⟨G ((b.at a (.inRegion ops (i::rest)::k)).finish undef) cs,w',seen P b.fn es,by simp only[hke,Bool.false_eq_true,if_false,GStep.after,Array.append_empty];rfl,h2,hev _,by rw[hfin];exact h3⟩
  |defer dd=>
   refine⟨G (b.at (({a with defers:=dd::a.defers}:Act).put o.dst undef) (.inRegion ops rest::k)) cs,w',seen P b.fn es,?_,h2,hev _,(show J s (G (b.at (({a with defers:=dd::a.defers}:Act).put o.dst undef) (.inRegion ops rest::k)) cs) w' from h3)⟩;simp only[hke,Bool.false_eq_true,if_false,GStep.after,Array.append_empty];have:(b.at {a with defers:=dd::a.defers} (.inRegion ops (i::rest)::k)).finish undef=b.at ({a with defers:=dd::a.defers}.put o.dst undef) (.inRegion ops rest::k):=by rw[Frame.finish_at,ho];rfl
   rw[<-this];rfl
  |_=>exact h3.elim
 |halt hh w'=>
  cases hh with
  |panic v=>
   refine⟨G {b.at a (.inRegion ops (i::rest)::k)with mode:=.panicking [{v,recovered:=false}]} cs,w',seen P b.fn es,?_,h2,hev _,h3 _⟩;simp only[hke,Bool.false_eq_true,if_false,GStep.after,Array.append_empty];rfl
  |_=>exact h3.elim
theorem at_one{b:Frame}{k:List Item}{cs:List Frame}(hb:b.kind≠.early)(hJ:JS P main Kc J)(hA:Rows0 P A){ops:Array Oper}{i:Nat}{rest l:List Nat}{o:Oper}{s:γ}{a:Act}{w:World}(ho:ops[i]?=some o)(hok:okOp P A o.op=true)
 (hev:Region.wanted o (yielded ops a.tmps)=true->∀τ d,(∀e∈((execOp a.eval o).runT P (re w τ d) #[]).2,EvOk Kc e)/\OkD Kc (λ_=>True) (re w τ d) (resW ((execOp a.eval o).run P (re w τ d))))
 (L:Act->World->Prop) (hL:∀a w τ τ' d d',(∀j,τ' (d'+j)=τ (d+j))->L a (re w τ d)->L a (re w τ' d')) (hrest:∀a w,(∀τ d,L a (re w τ d))->J s (G (b.at a (.inRegion ops rest::k)) cs) w) (C:Exit->Act->World->Prop) (hp:∀ch a w,C (.panic ch) a w->∀todo,J s (G {b.at a todo with mode:=.panicking ch} cs) w)
 (h:∀τ d,if Region.wanted o (yielded ops a.tmps)=true then o.wp P a (re w τ d) L C else L (a.put o.dst undef) (re w τ d)):J s (G (b.at a (.inRegion ops (i::rest)::k)) cs) w:=by
 by_cases hw:Region.wanted o (yielded ops a.tmps)=true
 . simp only[hw,if_true]at h;refine zq1t hb hJ ho hw λτ d=>?_;obtain⟨he,hD⟩:=hev hw τ d;refine⟨he,hD,?_⟩;have ht:=(zq1n hA.ok o hok a.eval (zq4b a)).1;have hlr:=zq7t hA hok a (re w τ d);obtain⟨_,h2,h3⟩:=run_re _ ht w τ τ d d λ_=>rfl;have hyp:=h τ d;unfold Oper.wp at hyp;have key:∀w₁ a',(∀τ' d',(∀j,j<w₁.drawn - d->τ' (d'+j)=τ (d+j))->L a' (re w₁ τ' (d'+(w₁.drawn - d))))->J s (G (b.at a' (.inRegion ops rest::k)) cs) w₁:=by
    intro w₁ a' hk;refine hrest a' w₁ λτ' d'=>?_
    let n:=w₁.drawn - d
    let τs:Nat->Question->Nat:=λj=>if j<n then τ (d+j)else τ' (d'+(j - n))
    have:=hk τs 0 (λj hj=>by simp only[τs,Nat.zero_add];rw[if_pos hj]);refine hL a' w₁ τs τ' (0+n) d' (λj=>?_) this;simp only[τs];rw[if_neg (by omega)];congr 1;omega
   have again:∀τ' d',(∀j,j<(resW ((execOp a.eval o).run P (re w τ d))).drawn - d->τ' (d'+j)=τ (d+j))->(execOp a.eval o).run P (re w τ' d')=resRe ((execOp a.eval o).run P (re w τ d)) τ' (d'+((resW ((execOp a.eval o).run P (re w τ d))).drawn - d)):=by
    intro τ' d' hag;obtain⟨_,_,h3⟩:=zq2t _ ht (re w τ d) #[];rw[Sem.runT_eq]at h3;have:=h3 τ' d' λj hj=>hag j (by have hj':d+j<(resW ((execOp a.eval o).run P (re w τ d))).drawn:=hj;omega);rw[Sem.runT_eq]at this;exact(Prod.mk.inj this).1
   rcases hlr with⟨v,w',hr⟩|⟨w',hr⟩|⟨hh,w',hr⟩
   . rw[hr]at again |-;refine key w' _ λτ' d' hag=>?_;have h1:=h τ' d';unfold Oper.wp at h1;rw[again τ' d' hag]at h1;exact h1
   . rw[hr]at again |-;refine key w' _ λτ' d' hag=>?_;have h1:=h τ' d';unfold Oper.wp at h1;rw[again τ' d' hag]at h1;exact h1
   . rw[hr]at hyp |-;cases hh with
     |panic v=>exact hp _ _ _ hyp
     |_=>exact hyp.elim
 . simp only[hw]at h;exact hJ.ctl (λw=>stepG_unwanted ho (by simpa using hw)) (hrest _ _ λτ d=>h τ d)
theorem at_list{b:Frame}{k:List Item}{cs:List Frame}(hb:b.kind≠.early)(hJ:JS P main Kc J)(hA:Rows0 P A){ops:Array Oper}{rest:List Nat}{s:γ}:
 ∀(l:List (Nat×Oper))(a:Act)(w:World),(∀x∈l,ops[x.1]?=some x.2/\okOp P A x.2.op=true/\(zq1q P x.2.op=true\/Kc=λ_=>none))->
  (∀τ d,wpList P ops (zq7 J ops rest b k cs s) (l.map (·.2)) a (re w τ d))->J s (G (b.at a (.inRegion ops (l.map (·.1)++rest)::k)) cs) w:=by
 intro l
 induction l with
 |nil=>exact λa w _ h=>h w.tape w.drawn
 |cons x l ih=>
  intro a w hl h;obtain⟨i,o⟩:=x;obtain⟨ho,hok,hk⟩:=hl (i,o) (by simp);refine at_one hb (rest:=l.map (·.1)++rest) (l:=[]) hJ hA ho hok (λ_ τ d=>?_) (wpList P ops (zq7 J ops rest b k cs s) (l.map (·.2))) (λa w τ τ' d d' hτ=>zqjw hA (zq6v hJ) (λ_ _ h=>h) _ a w τ τ' d d' (λo ho=>?_) hτ)
   (λa w h=>ih a w (λx hx=>hl x (by simp[hx])) h) (zq7 J ops rest b k cs s) (λch a w h=>h w.tape w.drawn) λτ d=>?_
  . rcases hk with hk|hk
    . exact zq3l (zq4m o hk a.eval) _
    . exact zq4l (zq1n hA.ok o hok a.eval (zq4b a)).1 hk _
  . obtain⟨x,hx,rfl⟩:=List.mem_map.1 ho;exact(hl x (by simp[hx])).2.1
  . have:=h τ d;simp only[List.map_cons,wpList]at this;split at this
    . rename_i hw;rw[if_pos hw];exact this.elim id (λ⟨_,a,w,h⟩=>h.elim)
    . rename_i hw;rw[if_neg hw];exact this
end
def chk(P:Program)(A:FuncId->Bool)(kc:Bool)(ops:Array Oper)(p m:Nat):Bool:=
 ((ops.toList.drop p).take m).all λo=>okOp P A o.op&&(!kc || zq1q P o.op)
def pairs(p:Nat):List Oper->List (Nat×Oper)
 |[]=>[]
 |o::l=>(p,o)::pairs (p+1) l
theorem zqdv(l:List Oper):∀p,(pairs p l).map (·.2)=l:=by
 induction l with
 |nil=>intro p;rfl
 |cons o l ih=>intro p;simp[pairs,ih]
theorem zqdt(l:List Oper):∀p,(pairs p l).map (·.1)=List.range' p l.length:=by
 induction l with
 |nil=>intro p;rfl
 |cons o l ih=>intro p;simp[pairs,ih,List.range'_succ]
theorem zqdu(l:List Oper):∀p(x:Nat×Oper),x∈pairs p l->∃j,x.1=p+j/\l[j]?=some x.2:=by
 induction l with
 |nil=>intro p x h;cases h
 |cons o l ih=>
  intro p x h;rcases List.mem_cons.1 h with rfl |h
  . exact⟨0,rfl,rfl⟩
  . obtain⟨j,h1,h2⟩:=ih (p+1) x h;exact⟨j+1,by omega,by simpa using h2⟩
section
variable {P:Program} {main:Bool} {Kc:Addr->Option Value} {γ:Type} {J:γ->Goroutine->World->Prop} {A:FuncId->Bool}
theorem mid_ok{ops:Array Oper}{kc:Bool}{p m:Nat}(hk:kc=true\/Kc=λ_=>none)(hc:chk P A kc ops p m=true):
 ∀x∈pairs p ((ops.toList.drop p).take m),ops[x.1]?=some x.2/\okOp P A x.2.op=true/\(zq1q P x.2.op=true\/Kc=λ_=>none):=by
 intro x hx;obtain⟨j,h1,h2⟩:=zqdu _ _ x hx;have hmem:x.2∈(ops.toList.drop p).take m:=List.mem_of_getElem? h2;have:=List.all_eq_true.1 hc x.2 hmem;simp only[Bool.and_eq_true]at this;refine⟨?_,this.1,?_⟩
 . rw[h1];have h3:(ops.toList.drop p)[j]?=some x.2:=by
    rw[List.getElem?_take]at h2;split at h2
    . exact h2
    . cases h2
   rw[List.getElem?_drop]at h3;simpa using h3
 . rcases hk with rfl |hk
   . exact .inl (by simpa using this.2)
   . exact .inr hk
theorem mid_len{ops:Array Oper}{p m r:Nat}(h:p+m+r=ops.size):((ops.toList.drop p).take m).length=m:=by
 simp;omega
theorem at_mid{b:Frame}{k:List Item}{cs:List Frame}(hb:b.kind≠.early)(hJ:JS P main Kc J)(hA:Rows0 P A)(kc:Bool)(hk:kc=true\/Kc=λ_=>none){ops:Array Oper}(p m r:Nat){s:γ}{a:Act}{w:World}
 (hsz:p+m+r=ops.size) (hc:chk P A kc ops p m=true)
 (h:∀τ d,wpList P ops (zq7 J ops (List.range' (p+m) r) b k cs s) ((ops.toList.drop p).take m) a (re w τ d)):J s (G (b.at a (.inRegion ops (List.range' p (m+r))::k)) cs) w:=by
 have:=at_list (k:=k) (cs:=cs) hb hJ hA (rest:=List.range' (p+m) r) (pairs p ((ops.toList.drop p).take m)) a w (mid_ok hk hc) (λτ d=>by rw[zqdv];exact h τ d);rw[zqdt,mid_len hsz]at this;rw[List.range'_append_1]at this;exact this
end
@[go_sem] theorem re_cell? (w : World) (τ : Nat → Question → Nat) (d : Nat) (a : Addr) : (re w τ d).cell? a = w.cell? a := rfl
@[go_sem] theorem re_frozen? (w : World) (τ : Nat → Question → Nat) (d : Nat) (a : Addr) : (re w τ d).frozen? a = w.frozen? a := rfl
@[go_sem] theorem re_size (w : World) (τ : Nat → Question → Nat) (d : Nat) : (re w τ d).heap.size = w.heap.size := rfl
theorem zq1w(w:World)(τ:Nat->Question->Nat)(d:Nat)(a:Addr)(v:Value):(re w τ d).setCell a v=re (w.setCell a v) τ d:=rfl
theorem zq3v(w:World)(τ:Nat->Question->Nat)(d:Nat)(o:Obj):(re w τ d).alloc o=re (w.alloc o) τ d:=rfl
end Go.Car
namespace Go.Car
open Go Go.Conc Go.RowKit
section
variable {P:Program} {main:Bool} {b:Frame} {a:Act} {k:List Item} {cs:List Frame} {ops:Array Oper} {i:Nat} {rest:List Nat} {o:Oper}
def JX(P:Program)(Kc:Addr->Option Value)(J:Goroutine->World->Prop):Prop:=JS P false Kc (λ(_:Unit)=>J)
theorem zq5u{c:Nat}{v z':Value}(ho:ops[i]?=some o)(hw:Region.wanted o (yielded ops a.tmps)=true)(hk:b.kind≠.early)
 (hr:∀w,(execOp a.eval o).run P w=.ok (.comm #[scase c v z'] true .send) w) (he:∀w,(execOp a.eval o).events P w #[]=#[]) (w:World):
 ∀τ d,stepG P main (G (b.at a (.inRegion ops (i::rest)::k)) cs) (re w τ d)=.comm (G (b.at a (.inRegion ops (i::rest)::k)) cs) #[scase c v z'] true .send (re w τ d) #[]:=
 λτ d=>by rw[stepG_comm ho hw hk (hr _),listed_none (he _)]
theorem spawn_at{d:Deferred}{f:Fn}{c:Array Value}(ho:ops[i]?=some o)(hw:Region.wanted o (yielded ops a.tmps)=true)(hk:b.kind≠.early)
 (hr:∀w,(execOp a.eval o).run P w=.ok (.spawn d) w) (hd:d.target=.fn f c) (he:∀w,(execOp a.eval o).events P w #[]=#[]) (w:World):
 ∀τ dd,stepG P main (G (b.at a (.inRegion ops (i::rest)::k)) cs) (re w τ dd)=.spawn (G (b.at (a.put o.dst undef) (.inRegion ops rest::k)) cs) (born P d) (re w τ dd) #[]:=
 λτ dd=>by rw[stepG_spawn ho hw hk (hr _) hd,listed_none (he _)]
end
end Go.Car
namespace Go.Car
open Go Go.Conc Go.RowKit
section
variable {P:Program} {main:Bool} {Kc:Addr->Option Value} {γ:Type} {J:γ->Goroutine->World->Prop} {A:FuncId->Bool}
theorem zqg{b:Frame}{k:List Item}{cs:List Frame}(hb:b.kind≠.early)(hJ:JS P main Kc J)(hA:Rows0 P A)(kc:Bool)(hk:kc=true\/Kc=λ_=>none){ops:Array Oper}(p m r:Nat){todo rest:List Nat}{s:γ}{a:Act}{w:World}
 (hsz:p+m+r=ops.size) (ht:todo=List.range' p (m+r)) (hr:rest=List.range' (p+m) r) (hc:chk P A kc ops p m=true)
 (h:∀τ d,wpList P ops (zq7 J ops rest b k cs s) ((ops.toList.drop p).take m) a (re w τ d)):J s (G (b.at a (.inRegion ops todo::k)) cs) w:=by
 subst ht hr;exact at_mid hb hJ hA kc hk p m r hsz hc h
theorem at_panic{b:Frame}{k:List Item}{cs:List Frame}(hb:b.kind≠.early)(hJ:JS P main Kc J){ops:Array Oper}{i:Nat}{rest:List Nat}{o:Oper}{s:γ}{a:Act}{w:World}{v:Value}(ho:ops[i]?=some o)(hw:Region.wanted o (yielded ops a.tmps)=true)
 (hr:∀w,(execOp a.eval o).run P w=.halt (.panic v) w) (he:∀w,(execOp a.eval o).events P w #[]=#[])
 (h:∀todo,J s (G {b.at a todo with mode:=.panicking [{v,recovered:=false}]} cs) w):J s (G (b.at a (.inRegion ops (i::rest)::k)) cs) w:=by
 refine zq1t hb hJ ho hw λτ d=>⟨?_,?_,?_⟩
 . rw[Sem.runT_eq,he];simp
 . rw[hr];exact OkD.refl _ _ _
 . rw[hr];exact λtodo=>hJ.re' _ _ _ τ d (h todo)
end
end Go.Car
namespace Go.Car
open Go Go.RowKit
abbrev Snap:=Nat->Option (Array Value×TypeId)
structure Cut(X:Snap)(w wc:World):Prop where
 is:∀b c e,X b=some (c,e)->w.heap[b]?=some (.cells c e)/\wc.heap[b]?=some (.cells #[] e)
 no:∀b,X b=none->wc.heap[b]?=w.heap[b]?
 size:wc.heap.size=w.heap.size
 tape:wc.tape=w.tape
 drawn:wc.drawn=w.drawn
 os:wc.os=w.os
 output:wc.output=w.output
theorem Cut.re {X:Snap}{w wc:World}(h:Cut X w wc)(τ:Nat->Question->Nat)(d:Nat):Cut X (re w τ d) (re wc τ d):=⟨h.is,h.no,h.size,rfl,rfl,h.os,h.output⟩
def apart(X:Snap)(e:Event):Prop:=∀a,e.loc=.cell a->X a.block=none
def fit{α:Type}:Result α->Prop
 |.ok _ _=>True
 |.halt (.panic _) _=>True
 |.halt _ _=>False
def setW{α:Type}:Result α->World->Result α
 |.ok a _,w=>.ok a w
 |.halt h _,w=>.halt h w
def zq2{α:Type}(P:Program)(s:Sem α):Prop:=∀(X:Snap)(w wc:World)(es:Array Event),Cut X w wc->fit (s.runT P wc es).1->
 ∃w',Cut X w' (resW (s.runT P wc es).1)/\s.runT P w es=(setW (s.runT P wc es).1 w',(s.runT P wc es).2)/\∀e∈(s.runT P wc es).2,e∈es\/apart X e
class Stdy {α:Type} (P:Program) (s:Sem α):Prop where
 out:zq2 P s
section
variable {α β:Type} {P:Program}
theorem zq1b(a:α):zq2 P (Pure.pure a:Sem α):=λX w wc es h _=>⟨w,h,rfl,λe he=>.inl he⟩
theorem zq18(x:Halt):zq2 P (Sem.halt x:Sem α):=λX w wc es h _=>⟨w,h,rfl,λe he=>.inl he⟩
theorem zq1x{s:Sem α}{f:α->Sem β}(w:World)(es:Array Event):(s>>= f).runT P w es=match s.runT P w es with
 |(.ok a w',es')=>(f a).runT P w' es'
 |(.halt x w',es')=>(.halt x w',es'):=by
 have:=zq4z (P:=P) s f w es;refine Eq.trans this ?_;split<;>simp_all
theorem zq3{s:Sem α}{f:α->Sem β}(hs:zq2 P s)(hf:∀a,zq2 P (f a)):zq2 P (s>>= f):=by
 intro X w wc es h hfit;have h1:=hs X w wc es h;rw[zq1x]at hfit |-;rw[zq1x w];generalize s.runT P wc es=r at h1 hfit;obtain⟨r,es'⟩:=r;cases r with
 |ok a wc'=>
  obtain⟨w',c1,e1,v1⟩:=h1 trivial;rw[e1];simp only[resW,setW]at c1 hfit |-;obtain⟨w'',c2,e2,v2⟩:=hf a X w' wc' es' c1 hfit;exact⟨w'',c2,e2,λe he=>(v2 e he).elim (v1 e) .inr⟩
 |halt x wc'=>
  have hx:fit (Result.halt x wc':Result α):=by cases x<;>first|trivial|exact hfit.elim
  obtain⟨w',c1,e1,v1⟩:=h1 hx;rw[e1];exact⟨w',c1,rfl,v1⟩
theorem zq5{s:Sem α}{f:α->β}(hs:zq2 P s):zq2 P (Functor.map f s):=zq3 hs λ_=>zq1b _
instance (a:α):Stdy P (Pure.pure a:Sem α):=⟨zq1b a⟩
instance (s:String):Stdy P (stuck s:Sem α):=⟨zq18 _⟩
instance (u:Unsupported):Stdy P (unsupported u:Sem α):=⟨zq18 _⟩
instance (v:Value):Stdy P (goPanic v:Sem α):=⟨zq18 _⟩
theorem zqgq:zq2 P program:=λX w wc es h _=>⟨w,h,rfl,λe he=>.inl he⟩
instance:Stdy P program:=⟨zqgq⟩
theorem zqfa(q:Question):zq2 P (choose q):=by
 intro X w wc es h _;unfold choose;simp only[Sem.runT]
 by_cases hq:q.forced=true
 . simp only[hq,if_true];exact⟨w,h,rfl,λe he=>.inl he⟩
 . simp only[hq,Bool.false_eq_true,if_false];refine⟨{w with drawn:=w.drawn+1},⟨h.is,h.no,h.size,h.tape,by show wc.drawn+1=w.drawn+1;rw[h.drawn],h.os,h.output⟩,?_,λe he=>.inl he⟩;rw[h.tape,h.drawn];rfl
instance (q:Question):Stdy P (choose q):=⟨zqfa q⟩
theorem zq8x(m:Mark):zq2 P (mark m):=by
 intro X w wc es h _;refine⟨w,h,rfl,λe he=>?_⟩;simp only[mark,Sem.runT]at he;rcases Array.mem_push.1 he with he|rfl
 . exact .inl he
 . exact .inr λa ha=>by cases ha
instance (m:Mark):Stdy P (mark m):=⟨zq8x m⟩
theorem zqgi(o:Obj):zq2 P (newObj o):=by
 intro X w wc es h _;refine⟨{w with heap:=w.heap.push o},⟨λb c e hb=>?_,λb hb=>?_,?_,h.tape,h.drawn,h.os,h.output⟩,?_,λe he=>.inl he⟩
 . obtain⟨h1,h2⟩:=h.is b c e hb;have l1:=(Array.getElem?_eq_some_iff.1 h1).1;have l2:=(Array.getElem?_eq_some_iff.1 h2).1;constructor
   . show(w.heap.push o)[b]?=_;rw[Array.getElem?_push,if_neg (by omega)];exact h1
   . show(wc.heap.push o)[b]?=_;rw[Array.getElem?_push,if_neg (by omega)];exact h2
 . show(wc.heap.push o)[b]?=(w.heap.push o)[b]?;rw[Array.getElem?_push,Array.getElem?_push,h.size,h.no b hb]
 . show(wc.heap.push o).size=(w.heap.push o).size;simp[h.size]
 . show(Result.ok w.heap.size _,es)=(setW (Result.ok wc.heap.size _) _,es);rw[h.size];rfl
instance (o:Obj):Stdy P (newObj o):=⟨zqgi o⟩
theorem Cut.cell_in {X:Snap}{w wc:World}(h:Cut X w wc){a:Addr}{x}(hx:X a.block=some x):wc.cell? a=none:=by
 obtain⟨c,e⟩:=x;simp[World.cell?,(h.is _ _ _ hx).2]
theorem Cut.cell_out {X:Snap}{w wc:World}(h:Cut X w wc){a:Addr}(hx:X a.block=none):wc.cell? a=w.cell? a:=by
 simp[World.cell?,h.no _ hx]
theorem Cut.frozen {X:Snap}{w wc:World}(h:Cut X w wc)(a:Addr):wc.frozen? a=w.frozen? a:=by
 cases hx:X a.block with
 |none=>simp[World.frozen?,h.no _ hx]
 |some x=>obtain⟨c,e⟩:=x;simp[World.frozen?,(h.is _ _ _ hx).1,(h.is _ _ _ hx).2]
theorem Cut.frozen_in {X:Snap}{w wc:World}(h:Cut X w wc){a:Addr}{x}(hx:X a.block=some x):w.frozen? a=false:=by
 obtain⟨c,e⟩:=x;simp[World.frozen?,(h.is _ _ _ hx).1]
theorem Cut.shape_out {X:Snap}{w wc:World}(h:Cut X w wc){r:Nat}(hx:X r=none):wc.shape? r=w.shape? r:=by
 simp[World.shape?,h.no _ hx]
theorem Cut.shape_in {X:Snap}{w wc:World}(h:Cut X w wc){r:Nat}{c:Array Value}{e:TypeId}(hx:X r=some (c,e)):w.shape? r=some (e,c.size)/\wc.shape? r=some (e,0):=by
 simp[World.shape?,(h.is _ _ _ hx).1,(h.is _ _ _ hx).2]
theorem zq5z(a:Addr):zq2 P (frozen a):=by
 intro X w wc es h _;refine⟨w,h,?_,λe he=>.inl he⟩;show(Result.ok (w.frozen? a) w,es)=(setW (Result.ok (wc.frozen? a) wc) w,es);rw[h.frozen];rfl
instance (a:Addr):Stdy P (frozen a):=⟨zq5z a⟩
theorem zq6{r:Nat}{f:Option (TypeId×Nat)->Sem β}(he:∀e n,f (some (e,n))=f (some (e,0)))(hf:∀x,zq2 P (f x)):zq2 P (shape r>>= f):=by
 intro X w wc es h hfit;have e1:∀w,(shape r>>= f).runT P w es=(f (w.shape? r)).runT P w es:=λw=>rfl;rw[e1]at hfit;rw[e1,e1];cases hx:X r with
 |none=>rw[h.shape_out hx]at hfit |-;exact hf _ X w wc es h hfit
 |some x=>
  obtain⟨c,e⟩:=x;obtain⟨h1,h2⟩:=h.shape_in hx;rw[h2]at hfit;rw[h1,h2,he e c.size];exact hf _ X w wc es h hfit
theorem zqdw(P:Program):∀(d:Nat)(t:TypeId)(off:Nat)(v:Value),plainCell P d t off=some v->(∃b,v=.bool b)\/(∃k,v=.int k 0)\/(∃k,v=.float k 0)\/∃k,v=.complex k 0 0:=by
 intro d
 induction d with
 |zero=>intro t off v h;cases h
 |succ d ih=>
  intro t off v h;unfold plainCell at h;split at h
  . obtain⟨f,hf⟩:=Array.exists_of_findSome?_eq_some h;obtain⟨_,hf⟩:=hf;split at hf
    . exact ih _ _ _ hf
    . cases hf
  . simp only[]at h;split at h
    . cases h
    . exact ih _ _ _ h
  . split at h
    . cases h;exact .inl ⟨_,rfl⟩
    . cases h
  . split at h
    . cases h;exact .inr (.inl ⟨_,rfl⟩)
    . cases h
  . split at h
    . cases h;exact .inr (.inr (.inl ⟨_,rfl⟩))
    . cases h
  . split at h
    . cases h;exact .inr (.inr (.inr ⟨_,rfl⟩))
    . cases h
  . cases h
theorem zqdx{P:Program}{d:Nat}{t:TypeId}{off:Nat}{v:Value}(h:plainCell P d t off=some v){l:List UInt8}(hl:v.bytes?=some l):0<l.length:=by
 rcases zqdw P d t off v h with⟨b,rfl⟩|⟨k,rfl⟩|⟨k,rfl⟩|⟨k,rfl⟩
 . cases hl;simp
 . cases k<;>(simp only[Value.bytes?,al_oi]at hl;subst hl;simp[IntKind.bits,leBytes])
 . cases k<;>(simp only[Value.bytes?,al_oi]at hl;subst hl;simp[FloatKind.bytes,leBytes])
 . cases k<;>(simp only[Value.bytes?,al_oi]at hl;subst hl;simp[FloatKind.bytes,leBytes])
theorem zqed{P:Program}{e:TypeId}{f x stop:Nat}(h:x<stop):∃y,seenCells P #[] e f x stop=.error y:=by
 cases f with
 |zero=>exact⟨_,rfl⟩
 |succ f=>
  unfold seenCells;rw[if_neg (by omega)];simp only[];split
  . exact⟨_,rfl⟩
  . split
    . exact⟨_,rfl⟩
    . simp
theorem zq8h{P:Program}{w:World}{at_ k:Addr}{u e:TypeId}{b:Bool}(h:w.heap[at_.block]?=some (.cells #[] e)):∃y,w.seen P at_ u k b=.error y:=by
 unfold World.seen;simp only[bind,Except.bind,pure,Except.pure,throw,throwThe,MonadExceptOf.throw,h];split
 . exact⟨_,rfl⟩
 . split
   . rename_i like hlike;cases hb:like.bytes? with
     |none=>exact⟨_,by simp;rfl⟩
     |some l=>
      have hpos:=zqdx hlike hb;simp only[Option.map_some];split
      . rename_i β hβ;split
        . exact⟨_,rfl⟩
        . split
          . rename_i b0 hb0;obtain⟨y,hy⟩:=zqed (P:=P) (e:=e) (f:=l.length+1) (x:=at_.off / P.cellsOf e*P.bytesOf e+b0+β) (stop:=at_.off / P.cellsOf e*P.bytesOf e+b0+β+l.length) (by omega);rw[hy];exact⟨_,rfl⟩
          . exact⟨_,rfl⟩
      . exact⟨_,rfl⟩
   . exact⟨_,rfl⟩
theorem zqjq{X:Snap}{w wc:World}(h:Cut X w wc){at_ a:Addr}{u:TypeId}{b:Bool}{v:Value}{l:List Addr}(hv:wc.viewLoad P at_ u a b=.ok (v,l)):
 X at_.block=none/\w.viewLoad P at_ u a b=.ok (v,l)/\∀x∈l,x.block=at_.block:=by
 cases hx:X at_.block with
 |some x=>
  obtain⟨c,e⟩:=x;obtain⟨y,hy⟩:=zq8h (P:=P) (w:=wc) (at_:=at_) (k:=a) (u:=u) (b:=b) (h.is _ _ _ hx).2;unfold World.viewLoad at hv;simp only[hy,bind,Except.bind]at hv;cases hv
 |none=>
  have e:wc.viewLoad P at_ u a b=w.viewLoad P at_ u a b:=by
   unfold World.viewLoad World.seen;rw[h.no _ hx]
  refine⟨rfl,by rw[<-e];exact hv,?_⟩;unfold World.viewLoad at hv;cases hs:wc.seen P at_ u a b with
  |error y=>simp only[hs,bind,Except.bind]at hv;cases hv
  |ok x=>
   obtain⟨_,_,_,first,like,cells⟩:=x;simp only[hs,bind,Except.bind,pure,Except.pure,throw,throwThe,MonadExceptOf.throw]at hv;split at hv
   . simp only[Except.ok.injEq,Prod.mk.injEq]at hv;obtain⟨_,rfl⟩:=hv;intro x hx;obtain⟨y,_,rfl⟩:=List.mem_map.1 hx;rfl
   . cases hv
theorem zqc9{X:Snap}{w wc:World}(h:Cut X w wc){a:Addr}{b:Bool}{v:Value}{l:List Addr}(hv:wc.farLoad P a b=.ok (v,l)):w.farLoad P a b=.ok (v,l)/\X a.block=none/\∀x∈l,X x.block=none:=by
 cases hx:X a.block with
 |some x=>
  obtain⟨c,e⟩:=x;unfold World.farLoad at hv;rw[(h.is _ _ _ hx).2]at hv;cases hv
 |none=>
  have hh:=h.no _ hx;unfold World.farLoad at hv |-;rw[hh]at hv;split at hv
  . rename_i at_ u he;split at hv
    . rename_i r hr;cases hv;obtain⟨h1,h2,h3⟩:=zqjq h hr;rw[h2];exact⟨rfl,rfl,λx hx'=>by rw[h3 x hx'];exact h1⟩
    . cases hv
  . cases hv
theorem zq7b{α:Type}{wc:World}{a:Addr}{b:Bool}{x:Halt}{w':World}(hv:wc.farLoad P a b=.error x):¬fit (Result.halt x w':Result α):=by
 unfold World.farLoad at hv;split at hv
 . split at hv
   . cases hv
   . cases hv;exact id
 . cases hv;unfold World.noCell;split<;>exact id
theorem zq8t(a:Addr)(m:Mode):zq2 P (load a m):=by
 intro X w wc es h hfit;simp only[load,Sem.runT]at hfit |-;cases hx:X a.block with
 |some x=>
  rw[h.cell_in hx]at hfit;exfalso;obtain⟨c,e⟩:=x;have:wc.farLoad P a (m==Mode.atomic)=.error (wc.noCell a "load: no such cell"):=by
   unfold World.farLoad;rw[(h.is _ _ _ hx).2]
  simp only[this]at hfit;exact zq7b this hfit
 |none=>
  rw[<-h.cell_out hx];cases hc:wc.cell? a with
  |some v=>
   refine⟨w,h,rfl,λe he=>?_⟩;rcases Array.mem_push.1 he with he|rfl
   . exact .inl he
   . exact .inr λy hy=>by cases hy;exact hx
  |none=>
   rw[hc]at hfit;simp only[]at hfit |-;cases hf:wc.farLoad P a (m==Mode.atomic)with
   |ok x=>
    obtain⟨v,l⟩:=x;obtain⟨h1,h2,h3⟩:=zqc9 h hf;rw[h1];refine⟨w,h,rfl,λe he=>?_⟩;rcases Array.mem_append.1 he with he|he
    . exact .inl he
    . obtain⟨y,hy,rfl⟩:=Array.mem_map.1 he;exact .inr λz hz=>by cases hz;exact h3 y (by simpa using hy)
   |error x=>
    rw[hf]at hfit;exact(zq7b hf hfit).elim
instance (a:Addr) (m:Mode):Stdy P (load a m):=⟨zq8t a m⟩
theorem zqft(r:Nat):zq2 P (getObj r):=by
 intro X w wc es h hfit;simp only[getObj,Sem.runT]at hfit |-;cases hx:X r with
 |some x=>
  obtain⟨c,e⟩:=x;rw[(h.is _ _ _ hx).2]at hfit;exact hfit.elim
 |none=>
  rw[h.no _ hx]at hfit |-;cases ho:w.heap[r]? with
  |none=>rw[ho]at hfit;exact hfit.elim
  |some o=>
   rw[ho]at hfit;cases o<;>first
    |exact hfit.elim
    |(refine⟨w,h,rfl,λe he=>?_⟩
      rcases Array.mem_push.1 he with he|rfl
      . exact .inl he
      . exact .inr λy hy=>by cases hy)
instance (r:Nat):Stdy P (getObj r):=⟨zqft r⟩
theorem Cut.setCell {X:Snap}{w wc:World}(h:Cut X w wc){a:Addr}(hx:X a.block=none)(v:Value):Cut X (w.setCell a v) (wc.setCell a v):=by
 refine⟨λb c e hb=>?_,λb hb=>?_,?_,h.tape,h.drawn,h.os,h.output⟩
 . have hne:a.block≠b:=λe=>by rw[e,hb]at hx;cases hx
   obtain⟨h1,h2⟩:=h.is b c e hb;constructor
   . show(w.heap.modify _ _)[b]?=_;rw[Array.getElem?_modify,if_neg hne];exact h1
   . show(wc.heap.modify _ _)[b]?=_;rw[Array.getElem?_modify,if_neg hne];exact h2
 . show(wc.heap.modify _ _)[b]?=(w.heap.modify _ _)[b]?;rw[Array.getElem?_modify,Array.getElem?_modify,h.no b hb]
 . show(wc.heap.modify _ _).size=(w.heap.modify _ _).size;simp[h.size]
theorem zqjr{X:Snap}{w wc:World}(h:Cut X w wc){at_ a:Addr}{u:TypeId}{v:Value}{b:Bool}{wc':World}{l:List Addr}(hv:wc.viewStore P at_ u a v b=.ok (wc',l)):
 X at_.block=none/\(∃w',w.viewStore P at_ u a v b=.ok (w',l)/\Cut X w' wc')/\∀x∈l,x.block=at_.block:=by
 cases hx:X at_.block with
 |some x=>
  obtain⟨c,e⟩:=x;obtain⟨y,hy⟩:=zq8h (P:=P) (w:=wc) (at_:=at_) (k:=a) (u:=u) (b:=b) (h.is _ _ _ hx).2;unfold World.viewStore at hv;cases ht:tight P P.depth u<;>simp only[ht,hy,bind,Except.bind,Bool.not_true,Bool.not_false,Bool.false_eq_true,if_true,if_false,reduceIte,pure,Except.pure,throw,throwThe,MonadExceptOf.throw]at hv<;>cases hv
 |none=>
  have e:w.seen P at_ u a b=wc.seen P at_ u a b:=by
   unfold World.seen;rw[h.no _ hx]
  unfold World.viewStore at hv |-;rw[e];simp only[bind,Except.bind,pure,Except.pure,throw,throwThe,MonadExceptOf.throw]at hv |-;cases ht:tight P P.depth u<;>simp only[ht,Bool.not_true,Bool.not_false,Bool.false_eq_true,if_true,if_false,reduceIte]at hv |-
  . cases hv
  cases hs:wc.seen P at_ u a b with
  |error y=>simp only[hs]at hv;cases hv
  |ok x=>
   simp only[hs]at hv |-;obtain⟨c,e,fr,first,like,cells⟩:=x;simp only[]at hv |-;cases hb:v.bytes? with
   |none=>simp only[hb]at hv;cases hv
   |some bytes=>
    simp only[hb]at hv |-
    by_cases hl:some bytes.length≠Option.map (λx=>x.length) like.bytes?
    . simp only[if_pos hl]at hv;cases hv
    . simp only[if_neg hl]at hv |-;generalize (List.foldlM (m:=Except String) _ _ _:Except String (Array Value))=Y at hv |-;cases Y with
      |error _=>cases hv
      |ok Y=>
       simp only[Except.ok.injEq,Prod.mk.injEq]at hv |-;obtain⟨rfl,rfl⟩:=hv;refine⟨trivial,⟨_,⟨rfl,rfl⟩,?_⟩,λx hx'=>?_⟩
       . refine⟨λb c e hb=>?_,λb hb=>?_,?_,h.tape,h.drawn,h.os,h.output⟩
         . have hne:at_.block≠b:=λe=>by rw[e,hb]at hx;cases hx
           obtain⟨h1,h2⟩:=h.is b c e hb;constructor
           . show(w.heap.setIfInBounds _ _)[b]?=_;rw[al_gn hne];exact h1
           . show(wc.heap.setIfInBounds _ _)[b]?=_;rw[al_gn hne];exact h2
         . show(wc.heap.setIfInBounds _ _)[b]?=(w.heap.setIfInBounds _ _)[b]?;rw[al_gs,al_gs,h.no b hb,h.size]
         . show(wc.heap.setIfInBounds _ _).size=(w.heap.setIfInBounds _ _).size;simp[h.size]
       . obtain⟨y,_,rfl⟩:=List.mem_map.1 hx';rfl
theorem zqcb{X:Snap}{w wc:World}(h:Cut X w wc){a:Addr}{v:Value}{b:Bool}{wc':World}{l:List Addr}(hv:wc.farStore P a v b=.ok (wc',l)):
 X a.block=none/\(∃w',w.farStore P a v b=.ok (w',l)/\Cut X w' wc')/\∀x∈l,X x.block=none:=by
 cases hx:X a.block with
 |some x=>
  obtain⟨c,e⟩:=x;unfold World.farStore at hv;rw[(h.is _ _ _ hx).2]at hv;cases hv
 |none=>
  have hh:=h.no _ hx;unfold World.farStore at hv |-;rw[hh]at hv;split at hv
  . rename_i at_ u he;split at hv
    . rename_i r hr;cases hv;obtain⟨h1,⟨w',h2,h4⟩,h3⟩:=zqjr h hr;rw[h2];exact⟨rfl,⟨w',rfl,h4⟩,λx hx'=>by rw[h3 x hx'];exact h1⟩
    . cases hv
  . cases hv
theorem zq7c{α:Type}{wc:World}{a:Addr}{v:Value}{b:Bool}{x:Halt}{w':World}(hv:wc.farStore P a v b=.error x):¬fit (Result.halt x w':Result α):=by
 unfold World.farStore at hv;split at hv
 . split at hv
   . cases hv
   . cases hv;exact id
 . cases hv;unfold World.noCell;split<;>exact id
theorem zq94(a:Addr)(v:Value)(m:Mode):zq2 P (store a v m):=by
 intro X w wc es h hfit;unfold store at hfit |-
 by_cases hagg:(∃c,v=.agg c)\/∃c,v=.tuple c
 . rcases hagg with⟨c,rfl⟩|⟨c,rfl⟩<;>exact hfit.elim
 . rw[zq2i hagg]at hfit |-;rw[zq2i hagg w];cases hx:X a.block with
   |some x=>
    rw[h.cell_in hx]at hfit;exfalso;obtain⟨c,e⟩:=x;have:wc.farStore P a v (m==Mode.atomic)=.error (wc.noCell a "store: no such cell"):=by
     unfold World.farStore;rw[(h.is _ _ _ hx).2]
    simp only[this]at hfit;exact zq7c this hfit
   |none=>
    rw[<-h.cell_out hx];cases hc:wc.cell? a with
    |some v'=>
     rw[hc]at hfit;simp only[]at hfit |-;rw[<-h.frozen a]
     by_cases hf:wc.frozen? a=true
     . simp only[hf,if_true]at hfit;exact hfit.elim
     . simp only[hf,Bool.false_eq_true,if_false]at hfit |-;refine⟨_,h.setCell hx v,rfl,λe he=>?_⟩;rcases Array.mem_push.1 he with he|rfl
       . exact .inl he
       . exact .inr λy hy=>by cases hy;exact hx
    |none=>
     rw[hc]at hfit;simp only[]at hfit |-;cases hf:wc.farStore P a v (m==Mode.atomic)with
     |ok x=>
      obtain⟨wc',l⟩:=x;obtain⟨h1,⟨w',h2,h4⟩,h3⟩:=zqcb h hf;rw[h2];refine⟨w',h4,rfl,λe he=>?_⟩;rcases Array.mem_append.1 he with he|he
      . exact .inl he
      . obtain⟨y,hy,rfl⟩:=Array.mem_map.1 he;exact .inr λz hz=>by cases hz;exact h3 y (by simpa using hy)
     |error x=>
      rw[hf]at hfit;exact(zq7c hf hfit).elim
instance (a:Addr) (v:Value) (m:Mode):Stdy P (store a v m):=⟨zq94 a v m⟩
end
end Go.Car
