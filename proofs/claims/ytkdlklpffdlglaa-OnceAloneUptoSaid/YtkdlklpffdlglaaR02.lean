/- YtkdlklpffdlglaaOAlone10: part 2 of the proof (the texts behind it, in order). -/
import Derived.Test.YtkdlklpffdlglaaR01
set_option maxHeartbeats 4000000
set_option maxRecDepth 100000
set_option linter.all false
namespace Go
theorem zx8 {p : Prop} (h : p := by
  rintro fr w (⟨t,h1,h2⟩|⟨h1,h2,h3⟩)
  . have e1:fr.fn=b.fn:=by have:=congrArg Frame.fn h1;exact this
    have e2:fr.tmps=t:=by have:=congrArg Frame.tmps h1;exact this
    have e3:fr.todo++wall=wall:=by have:=congrArg Frame.todo h1;exact this
    have e4:fr.mode=.run:=by have:=congrArg Frame.mode h1;exact this
    have e5:fr.todo=[]:=by
     have:=congrArg List.length e3;simp at this;exact this
    have:sfx k a.defers b.kind fr=b.at ⟨t,a.defers⟩ k:=by
     simp only[sfx,Frame.at,e1,e2,e4,e5,List.nil_append]
    rw[this];exact hk s .normal _ _ (hq _ _ h2)
  . have h1':fr.mode=.returning:=h1;have h2':fr.fn=b.fn:=h2;have:sfx k a.defers b.kind fr={b.at ⟨fr.tmps,a.defers⟩ (fr.todo++k)with mode:=.returning}:=by
     simp only[sfx,Frame.at,h1',h2']
    rw[this];exact hk s .ret _ _ (hr _ _ h3) _) : p := h
theorem zxt {p : Prop} (h : p := by
  intro τ d;rw[hwall];obtain⟨e,a',w',hC',harr⟩:=h τ d b₀ wall [trap];cases e with
  |normal=>
   obtain⟨t,dd⟩:=a';obtain⟨hd,hC'⟩:=hC';simp only at hd;subst hd;obtain⟨n,hn⟩:=harr;exact⟨n,_,_,hn,.inl ⟨t,rfl,hC'⟩⟩
  |ret=>
   obtain⟨t,dd⟩:=a';obtain⟨hd,hC'⟩:=hC';simp only at hd;subst hd;obtain⟨todo,n,hn⟩:=harr;exact⟨n,_,_,hn,.inr ⟨rfl,rfl,hC'⟩⟩
  |_=>exact hC'.elim) : p := h
theorem zx18 {p : Prop} (h : p := by exact⟨m,mem_ready.2 ⟨hun,_,Array.getElem?_eq_getElem hops,hall⟩⟩) : p := h
theorem zx1p {p : Prop} (h : p := by
  rintro fr w (⟨t,h1,h2⟩|⟨h1,h2,h3⟩) ch hm
  . rw[h1]at hm;cases hm
  . rw[h1]at hm;cases hm) : p := h
theorem zx1x {p : Prop} (h : p := by
  rw[al_gn htd]
  by_cases hji:i=j
  . subst hji;rw[hdi]at hd;exact absurd (Option.some.inj hd) htd
  . rw[getD_set_ne false hji]at hlj;exact hag.on j t hj hlj hd) : p := h
theorem zx23 {p : Prop} (h : p := by have:=h4 i hi;rw[ho]at this;simp only[Bool.and_eq_true,Array.all_eq_true_iff_forall_mem]at this;have:=this.1 e he;simpa[hb]using this) : p := h
theorem zx26 {p : Prop} (h : p := by
  rintro fr w τ d (⟨t,h1,h2⟩|⟨h1,h2,h3⟩)
  . exact .inl ⟨t,h1,hC _ _ _ _ h2⟩
  . exact .inr ⟨h1,h2,hR _ _ _ _ h3⟩) : p := h
theorem zx38 {p : Prop} (h : p := by simp[G,stepG,stepG.exec,Fr,sfx]) : p := h
theorem zx39 {p : Prop} (h : p := by simp[G,stepG,stepG.exec,Fr]) : p := h
theorem zx3y {p : Prop} (h : p := by simpa using h) : p := h
theorem zx3z {p : Prop} (h : p := by simpa using hsz) : p := h
end Go
namespace Go.Car
open Go Go.Conc Go.RowKit
section
variable {α β:Type} {P:Program} {A:FuncId->Bool}
theorem zqay{γ:Type}{s n m:Nat}{b:Option Addr}{x:Value}{f:Bool->Sem γ}(hf:∀a w es,¬fit ((f a).runT P w es).1):zq2 P (Builtin.mayShare s n m b x>>= f):=by
 refine zqi0 (λw es v w' h=>?_) hf;obtain⟨y,hy⟩:=zqf5 (P:=P) s n m b x w es;rw[hy]at h;cases h
theorem zqhb(l:Array TypeId)(t:TypeId)(a:Array Value)(hx:∀x,l[1]?=some x->∀k,P.underlying x≠some (.int k)):zq2 P (Builtin.append_ l t a):=by
 unfold Builtin.append_;split
 . refine zqv (zq5x _) λd=>?_;split
   . split
     . refine zqv (zqaz _) λsize=>?_;simp only[];cases e:l[1]? with
       |none=>
        simp only[Bool.false_eq_true,if_false,Bool.not_false,if_true,false_or,reduceIte,pure_bind]
        repeat' (first|with_reducible (first|exact Stdy.out|refine zq1w ?_|refine zqay ?_|refine zqv ?_ (λ_=>?_))|split|simp only[])
        all_goals(intro x w es hfit;cases x<;>exact hfit)
       |some x=>
        refine zq75 λd hd=>?_;have hne:=hx x e;cases d<;>first
         |(rename_i k;exact absurd hd (hne k))
         |(clear hd hne e hx
           simp only[Bool.false_eq_true,if_false,Bool.not_false,if_true,false_or,reduceIte,pure_bind]
           repeat' (first|with_reducible (first|exact Stdy.out|refine zq1w ?_|refine zqay ?_|refine zqv ?_ (λ_=>?_))|split|simp only[])
           all_goals(intro x w es hfit;cases x<;>exact hfit))
     . exact zq16 _
   . exact zq16 _
 . exact zq16 _
theorem zqhw{s d:TypeId}{k k':IntKind}(hs:P.underlying s=some (.int k))(hd:P.underlying d=some (.int k'))(x:Value):zq2 P (convert s d x):=by
 refine zq75 λa ha=>?_;refine zq75 λb hb=>?_;rw[hs]at ha;rw[hd]at hb;cases ha;cases hb;split<;>first|exact zq16 _|exact zq1g _|contradiction|(unfold Conv.floatToInt;simp only[];repeat' (first|with_reducible exact Stdy.out|refine zqv ?_ (λ_=>?_)|split))
def RowsS(P:Program)(A:FuncId->Bool):Prop:=∀f,A f=true->∀fn e,P.funcs[f]?=some fn->fn.body=none->Extern.find fn=some e->∀args,zq2 P (e args)
theorem zqav{f:Program->Sem α}(h:zq2 P (f P)):zq2 P (program>>= f):=by
 intro X w wc es hc hfit;have e:∀w,(program>>= f).runT P w es=(f P).runT P w es:=λw=>rfl;rw[e]at hfit;rw[e,e];exact h X w wc es hc hfit
theorem zq43{s:Sem Value}(h:zq2 P s):zq2 P (do pure (.value (<-s)):Sem Next):=zqv h λ_=>zq1g _
theorem zqd9{f:FuncId}{args:Array Value}(hA:A f=true)(h:okFn P A f)(hR:RowsS P A):zq2 P (callFunc f args):=by
 cases h with
 |text fn c hf hb hn hc=>
  unfold callFunc;refine zqav ?_;simp only[hf,hn,hb,Option.isNone_some,Bool.false_eq_true,if_false];exact zq1g _
 |row fn e hf hb hn hx he ht=>
  unfold callFunc;refine zqav ?_;simp only[hf,hn,hb,hx,he,Option.isNone_none,Bool.false_eq_true,if_false,if_true];exact zqv (zqat _) λ_=>zq43 (hR f hA fn e hf hb he args)
theorem zqdy(hA:∀f,A f=true->okFn P A f)(hR:RowsS P A)(o:Oper)(ho:okOp P A o.op=true)(ρ:Operand->Value)(hρ:∀f,ρ (.func f)=.func (.func f) #[] #[]):zq2 P (execOp ρ o):=by
 obtain⟨dst,op,type,pos,after,guard⟩:=o;simp only at ho;unfold execOp;cases op<;>simp only[okOp,Bool.false_eq_true]at ho
 case convert s d x=>
  have:∃k k',P.underlying s=some (.int k)/\P.underlying d=some (.int k'):=by
   simp only[Bool.and_eq_true]at ho;obtain⟨h1,h2⟩:=ho;split at h1
   . exact zx2e
   . cases h1
  obtain⟨k,k',hs,hd⟩:=this;exact zq43 (zqhw hs hd _)
 case call c=>
  obtain⟨callee,args,argTypes⟩:=c;simp only at ho;cases callee with
  |invoke r m=>simp at ho
  |value f=>
   cases f with
   |func f=>
    have hAf:A f=true:=by simpa using ho
    simp only[resolve,hρ f];exact zqd9 hAf (hA f hAf) hR
   |_=>simp at ho
  |builtin b=>
   cases b<;>simp at ho
   case append=>
    have hx:∀x,argTypes[1]?=some x->∀k,P.underlying x≠some (.int k):=by
     intro x hx k hk;rw[hx]at ho;simp only[hk]at ho;cases ho
    exact zq43 (zqhb _ _ _ hx)
   case len=>exact zq43 (zqik _ _ _)
   case max=>exact zq43 (zqiu _ _ _)
   case min=>exact zq43 (zqix _ _ _)
 all_goals(simp only[];repeat' (first|with_reducible (first|exact Stdy.out|refine zqv ?_ (λ_=>?_))|split|simp only[]))
end
def sfx(k:List Item)(ds:List Deferred)(kd:CallKind)(fr:Frame):Frame:={fn:=fr.fn,tmps:=fr.tmps,todo:=fr.todo++k,defers:=ds,mode:=fr.mode,kind:=kd}
section
variable {P:Program} {A:FuncId->Bool} {k:List Item} {ds:List Deferred} {kd:CallKind}
theorem zq71{fr:Frame}(hr:fr.roundOf=none)(hne:fr.todo≠[])(v:Value):(sfx k ds kd fr).finish v=sfx k ds kd (fr.finish v):=by
 obtain⟨fn,tmps,todo,defers,mode,kind,round⟩:=fr;simp only at hr hne;subst hr;cases todo with
 |nil=>exact absurd rfl hne
 |cons i t=>
  cases i with
  |inRegion ops l=>
   cases l with
   |nil=>rfl
   |cons j r=>simp[sfx,Frame.finish]
  |_=>rfl
theorem zqdz{id:Nat}{t t':List Item}(h:exitTo id t=some t'):exitTo id (t++k)=some (t'++k):=by
 induction t with
 |nil=>simp[exitTo]at h
 |cons x t ih=>
  cases x<;>simp only[exitTo,List.cons_append]at h |-
  case inBlock id'=>
   split at h
   . cases h;rename_i hh;simp[hh]
   . rename_i hh;simp only[hh,if_false];exact ih h
  all_goals exact ih h
theorem zqe0{id:Nat}{t:List Item}(h:exitTo id t=none)(hk:exitTo id k=none):exitTo id (t++k)=none:=by
 induction t with
 |nil=>exact hk
 |cons x t ih=>
  cases x<;>simp only[exitTo,List.cons_append]at h |-
  case inBlock id'=>
   split at h
   . cases h
   . rename_i hh;simp only[hh];exact ih h
  all_goals exact ih h
inductive Told(P:Program)(main:Bool)(k:List Item)(ds:List Deferred)(kd:CallKind)(fr:Frame)(cs cs':List Frame)(w:World):GStep->Prop
 |same (fr':Frame) (w':World) (es:Array Event) (h:stepG P main (G (sfx k ds kd fr) cs') w=.go (G (sfx k ds kd fr') cs') w' es) (hr:fr'.roundOf=none) (hm:∀ch,fr'.mode≠.panicking ch):Told P main k ds kd fr cs cs' w (.go (G fr' cs) w' es)
 |enter (g:Frame) (w':World) (es:Array Event) (h:stepG P main (G (sfx k ds kd fr) cs') w=.go (G g (sfx k ds kd fr::cs')) w' es):Told P main k ds kd fr cs cs' w (.go (G g (fr::cs)) w' es)
 |panics (fr':Frame) (ch:List PanicEntry) (w':World) (es:Array Event) (h:fr'.mode=.panicking ch) (hk:∃fr'' w'' es',stepG P main (G (sfx k ds kd fr) cs') w=.go (G fr'' cs') w'' es'/\fr''.mode=.panicking ch/\fr''.defers=ds):Told P main k ds kd fr cs cs' w (.go (G fr' cs) w' es)
 |ends (o:Outcome) (w':World) (es:Array Event) (hk:(∀id,exitTo id k=none)->∃o w' es,stepG P main (G (sfx k ds kd fr) cs') w=.ended o w' es):Told P main k ds kd fr cs cs' w (.ended o w' es)
theorem zq1y{main:Bool}{fr fr':Frame}{cs cs':List Frame}{w:World}{s:GStep}(hs:s=.go (G fr' cs) w #[])(h:stepG P main (G (sfx k ds kd fr) cs') w=.go (G (sfx k ds kd fr') cs') w #[])(hr:fr'.roundOf=none)(hm:∀ch,fr'.mode≠.panicking ch:=by intro ch h;cases h):Told P main k ds kd fr cs cs' w s:=by
 subst hs;exact .same fr' w #[] h hr hm
theorem zq7f{main:Bool}{fr:Frame}{cs cs':List Frame}{w:World}{s:GStep}(h:∃o w' es,s=.ended o w' es)(hk:(∀id,exitTo id k=none)->∃o w' es,stepG P main (G (sfx k ds kd fr) cs') w=.ended o w' es):Told P main k ds kd fr cs cs' w s:=by
 obtain⟨o,w',es,rfl⟩:=h;exact .ends o w' es hk
theorem told(hP:Plain P A)(hkd:kd≠.early){main:Bool}{fn:FuncId}{tmps:Array Value}{i:Item}{t:List Item}{cs cs':List Frame}{w:World}(hf:Fine P A (Fr fn tmps (i::t))):
 Told P main k ds kd (Fr fn tmps (i::t)) cs cs' w (stepG P main (G (Fr fn tmps (i::t)) cs) w):=by
 have ht:=hf.todo;have hi:=ht i (by simp[Fr]);have hke:(kd==CallKind.early)=false:=by simpa using hkd
 cases i with
 |code c=>
  have hc:zqn P A c=true:=hi;cases c with
  |skip=>exact zq1y (fr':=Fr fn tmps t) zx39 zx38 rfl
  |exit id=>
   cases hx:exitTo id t with
   |some t'=>exact zq1y (fr':=Fr fn tmps t') (by simp[G,stepG,stepG.exec,Fr,hx]) (by simp[G,stepG,stepG.exec,Fr,sfx,zqdz hx]) rfl
   |none=>exact zq7f (by simp[G,stepG,stepG.exec,Fr,hx]) (λhk=>by simp[G,stepG,stepG.exec,Fr,sfx,zqe0 hx (hk id)])
  |ret=>exact zq1y (fr':={Fr fn tmps (.code .ret::t)with mode:=.returning}) zx39 zx38 rfl
  |refuse why=>exact zq7f zx39 (λ_=>by simp[G,stepG,stepG.exec,Fr,sfx])
  |region id ops draw=>
   cases draw with
   |false=>exact zq1y (fr':=Fr fn tmps (.inRegion ops (List.range ops.size)::t)) zx39 zx38 rfl
   |true=>
    have h1:=stepG_region_draw (P:=P) (main:=main) (b:=Fr fn tmps []) (a:=⟨tmps,[]⟩) (k:=t) (cs:=cs) (w:=w) (id:=id) (ops:=ops);have h2:=stepG_region_draw (P:=P) (main:=main) (b:={Fr fn tmps []with kind:=kd}) (a:=⟨tmps,ds⟩) (k:=t++k) (cs:=cs') (w:=w) (id:=id) (ops:=ops);have e:stepG P main (G (Fr fn tmps (.code (.region id ops true)::t)) cs) w=_:=h1;rw[e];exact .same _ _ #[] h2 rfl (by intro ch h;cases h)
  |seq a b=>exact zq1y (fr':=Fr fn tmps (.code a::.code b::t)) zx39 zx38 rfl
  |cond c a b=>
   by_cases hb:∃v,(Fr fn tmps (.code (.cond c a b)::t)).eval c=.bool v
   . obtain⟨v,hv⟩:=hb;have hv':(sfx k ds kd (Fr fn tmps (.code (.cond c a b)::t))).eval c=.bool v:=by
      rw[<-hv];cases c<;>rfl
     simp only[Fr]at hv;simp only[Fr,sfx]at hv';exact zq1y (fr':=Fr fn tmps (.code (if v then a else b)::t)) (by simp[G,stepG,stepG.exec,Fr,hv]) (by simp only[List.cons_append]at hv';simp[G,stepG,stepG.exec,Fr,sfx,hv']) rfl
   . have hb':¬ ∃v,(sfx k ds kd (Fr fn tmps (.code (.cond c a b)::t))).eval c=.bool v:=by
      rintro⟨v,hv⟩;refine hb ⟨v,?_⟩;rw[<-hv];cases c<;>rfl
     refine zq7f ?_ (λ_=>?_)
     . simp only[Fr]at hb;simp only[G,stepG,stepG.exec,Fr];split
       . rename_i t h;exact absurd ⟨t,h⟩ hb
       . exact⟨_,_,_,rfl⟩
     . simp only[Fr,sfx,List.cons_append]at hb';simp only[G,stepG,stepG.exec,Fr,sfx,List.cons_append];split
       . rename_i t h;exact absurd ⟨t,h⟩ hb'
       . exact⟨_,_,_,rfl⟩
  |block id c=>exact zq1y (fr':=Fr fn tmps (.code c::.inBlock id::t)) zx39 zx38 rfl
  |loop c=>exact zq1y (fr':=Fr fn tmps (.code c::.inLoop c::t)) zx39 zx38 rfl
  |_=>simp[zqn]at hc
 |inBlock id=>exact zq1y (fr':=Fr fn tmps t) zx39 zx38 rfl
 |inLoop c=>exact zq1y (fr':=Fr fn tmps (.code c::.inLoop c::t)) zx39 zx38 rfl
 |inRegion ops l=>
  cases l with
  |nil=>exact zq1y (fr':=Fr fn tmps t) zx39 zx38 rfl
  |cons j r=>
   by_cases hw:((ops[j]?).map (Region.wanted · (yielded ops tmps))).getD false=true
   . cases hj:ops[j]? with
     |none=>simp[hj]at hw
     |some o=>
      have hoo:okOp P A o.op=true:=zq5k hi hj;obtain⟨t1,t2⟩:=zq1t hP.fns o hoo (Fr fn tmps (.inRegion ops (j::r)::t)).eval (λf=>rfl);have hg:=zq40 _ t1 t2 w #[];have hev:(sfx k ds kd (Fr fn tmps (.inRegion ops (j::r)::t))).eval=(Fr fn tmps (.inRegion ops (j::r)::t)).eval:=by funext x;cases x<;>rfl
      have s1:stepG P main (G (Fr fn tmps (.inRegion ops (j::r)::t)) cs) w=stepG.apply P true (Fr fn tmps (.inRegion ops (j::r)::t)) cs none (execOp (Fr fn tmps (.inRegion ops (j::r)::t)).eval o) w:=by
       simp only[hj,Option.map_some,al_od]at hw;simp[G,stepG,stepG.exec,stepG.oper,Frame.oper?,Fr,hj,hw]
      have s2:stepG P main (G (sfx k ds kd (Fr fn tmps (.inRegion ops (j::r)::t))) cs') w=stepG.apply P true (sfx k ds kd (Fr fn tmps (.inRegion ops (j::r)::t))) cs' none (execOp (Fr fn tmps (.inRegion ops (j::r)::t)).eval o) w:=by
       simp only[hj,Option.map_some,al_od]at hw;rw[<-hev];simp[G,stepG,stepG.exec,stepG.oper,Frame.oper?,Fr,sfx,hj,hw]
      have hfin:∀v,(sfx k ds kd (Fr fn tmps (.inRegion ops (j::r)::t))).finish v=sfx k ds kd ((Fr fn tmps (.inRegion ops (j::r)::t)).finish v):=λv=>zq71 rfl (by simp[Fr]) v;have hround:∀v,((Fr fn tmps (.inRegion ops (j::r)::t)).finish v).roundOf=none:=λv=>rfl;rw[s1];rw[stepG.apply]at s2 |-;simp only[if_true]at s2 |-;generalize (execOp (Fr fn tmps (.inRegion ops (j::r)::t)).eval o).runT P w #[]=rr at hg s2;obtain⟨res,es⟩:=rr;have hk1:((Fr fn tmps (.inRegion ops (j::r)::t)).kind==CallKind.early)=false:=rfl;have hk2:((sfx k ds kd (Fr fn tmps (.inRegion ops (j::r)::t))).kind==CallKind.early)=false:=hke;cases res with
      |ok nx w'=>
       have hnx:zq2b P A nx:=hg;cases nx with
       |value v=>
        simp only[hk1,hk2,Bool.false_eq_true,if_false,GStep.after,Array.append_empty]at s2 |-;exact .same _ _ _ (by rw[<-hfin];exact s2) (hround v) (by intro ch h;cases h)
       |skip=>
        simp only[hk1,hk2,Bool.false_eq_true,if_false,GStep.after,Array.append_empty]at s2 |-;exact .same _ _ _ (by rw[<-hfin];exact s2) (hround _) (by intro ch h;cases h)
       |enter f args=>
        simp only[hk1,hk2,Bool.false_eq_true,if_false,GStep.after,Array.append_empty]at s2 |-;exact .enter _ _ _ s2
       |_=>exact hnx.elim
      |halt h w'=>
       simp only[hk1,hk2,Bool.false_eq_true,if_false]at s2 |-;rcases hg with hg|⟨b,rfl⟩
       . cases h with
         |panic v=>exact .panics _ _ _ _ rfl ⟨_,_,_,s2,rfl,rfl⟩
         |stuck s=>exact .ends _ _ _ λ_=>⟨_,_,_,s2⟩
         |unsupported u=>cases u<;>first|exact .ends _ _ _ λ_=>⟨_,_,_,s2⟩|exact hg.elim
         |_=>exact hg.elim
       . obtain⟨o',w'',es',he⟩:=zq4e hP (Fr fn tmps (.inRegion ops (j::r)::t)) cs none b w';obtain⟨o2,w2,es2,he2⟩:=zq4e hP (sfx k ds kd (Fr fn tmps (.inRegion ops (j::r)::t))) cs' none b w';simp only[he2,GStep.after]at s2;simp only[he,GStep.after];exact .ends _ _ _ λ_=>⟨_,_,_,s2⟩
   . have hw':((ops[j]?).map (Region.wanted · (yielded ops tmps))).getD false=false:=by simpa using hw
     have hfin:(sfx k ds kd (Fr fn tmps (.inRegion ops (j::r)::t))).finish undef=sfx k ds kd ((Fr fn tmps (.inRegion ops (j::r)::t)).finish undef):=zq71 rfl (by simp[Fr]) undef;refine zq1y (fr':=(Fr fn tmps (.inRegion ops (j::r)::t)).finish undef) ?_ ?_ rfl
     . simp only[G,stepG,stepG.exec,Fr,hw',Bool.false_eq_true,if_false]
     . rw[<-hfin];simp only[G,stepG,stepG.exec,Fr,sfx,List.cons_append,hw',Bool.false_eq_true,if_false]
 |_=>simp[zq11]at hi
end
structure Sb where
 fr:Frame
 ab:List Frame
 bot:Option Frame
 w:World
 deriving Inhabited
def Sb.fs (k:List Item)(ds:List Deferred)(kd:CallKind)(s:Sb):List Frame:=
 match s.bot with
 |some b=>s.ab++[sfx k ds kd b]
 |none=>[]
def Sb.tp (k:List Item)(ds:List Deferred)(kd:CallKind)(s:Sb):Frame:=
 match s.bot with
 |some _=>s.fr
 |none=>sfx k ds kd s.fr
def Sb.real (k:List Item)(ds:List Deferred)(kd:CallKind)(cs:List Frame)(s:Sb):Goroutine:=G (s.tp k ds kd) (s.fs k ds kd++cs)
section
variable {P:Program} {A:FuncId->Bool}
structure Sb.Ok (P:Program)(A:FuncId->Bool)(s:Sb):Prop where
 top:Fine P A s.fr
 mid:∀c∈s.ab,Fine P A c
 bot:∀b,s.bot=some b->Fine P A b/\b.todo≠[]
 none:s.bot=none->s.ab=[]
def Sb.Done (s:Sb):Prop:=s.bot=none/\(s.fr.mode=.returning\/s.fr.todo=[])
def NextB(P:Program)(A:FuncId->Bool)(s:Sb)(τ0:Nat->Question->Nat)(d n:Nat)(s':Sb)(es:Array Event):Prop:=
 s'.Ok P A/\s'.w.tape=τ0/\(∀e∈es,calmEv true e)/\s'.w.drawn=d+n/\
 ∀main k ds kd cs,kd≠CallKind.early->∀τ e,(∀j,j<n->τ (e+j)=τ0 (d+j))->stepG P main (s.real k ds kd cs) (re s.w τ e)=.go (s'.real k ds kd cs) (re s'.w τ (e+n)) es
def BadB(st:GStep)(fs cs:List Frame):Prop:=(∃o w' es,st=.ended o w' es)\/∃fr' ch w' es,st=.go (G fr' (fs++cs)) w' es/\fr'.mode=.panicking ch/\fr'.defers=[]
def HaltB(P:Program)(s:Sb)(τ0:Nat->Question->Nat)(d n:Nat):Prop:=
 s.Done\/∀main k cs,(∀id,exitTo id k=none)->∀τ e,(∀j,j<n->τ (e+j)=τ0 (d+j))->BadB (stepG P main (s.real k [] .normal cs) (re s.w τ e)) (s.fs k [] .normal) cs
theorem fine_run{fr:Frame}(h:Fine P A fr)(hm:fr.mode=.run)(hne:fr.todo≠[]):∃i t,fr=Fr fr.fn fr.tmps (i::t):=by
 have e:=zq8k h hm;cases ht:fr.todo with
 |nil=>exact absurd ht hne
 |cons i t=>rw[ht]at e;exact⟨i,t,e⟩
theorem wayB(hP:Plain P A)(s:Sb)(hs:s.Ok P A)(τ0:Nat->Question->Nat)(d:Nat):
 (∃n s' es,NextB P A s τ0 d n s' es)\/∃n,HaltB P s τ0 d n:=by
 by_cases hdone:s.Done
 . exact .inr ⟨0,.inl hdone⟩
 obtain⟨fr,ab,bot,w⟩:=s;obtain⟨h1,h2,h3,h4⟩:=hs;simp only at h1 h2 h3 h4;cases bot with
 |none=>
  have hab:=h4 rfl;subst hab;have hmode:fr.mode=.run:=by
   rcases h1.mode with h|h
   . exact h
   . exact absurd ⟨rfl,.inl h⟩ hdone
  have hne:fr.todo≠[]:=λh=>hdone ⟨rfl,.inr h⟩;obtain⟨i,t,he⟩:=fine_run h1 hmode hne;have tl:∀main k ds kd cs cs' w,kd≠CallKind.early->Told P main k ds kd fr cs cs' w (stepG P main (G fr cs) w):=λmain k ds kd cs cs' w hkd=>by
   have h1':=h1;rw[he]at h1' |-;exact told hP hkd h1'
  cases way hP fr [] (re w τ0 d) h1 zx2n with
  |pop _ hm=>rw[hmode]at hm;cases hm
  |bad w' hd hst=>
   have hd':d<=w'.drawn:=hd;refine .inr ⟨w'.drawn - d,.inr λmain k cs hk τ e hag=>?_⟩;have hb:=hst main [] τ e λj hj=>hag j zx3e;have tl':=tl main k [] .normal [] cs (re w τ e) zyd;have hb':Bad (stepG P main (G fr []) (re w τ e)) [] []:=hb;generalize stepG P main (G fr []) (re w τ e)=gs at tl' hb';cases tl' with
   |same fr'' w'' es'' h hr hnm=>
    rcases hb' with⟨o,w',es,h'⟩|⟨fr',ch,w',es,h',hm,_⟩
    . cases h'
    . simp only[GStep.go.injEq,G,Goroutine.mk.injEq]at h';obtain⟨⟨e1,_⟩,_⟩:=h';subst e1;exact absurd hm (hnm ch)
   |enter g w'' es'' h=>
    rcases hb' with⟨o,w',es,h'⟩|⟨fr',ch,w',es,h',hm,_⟩
    . cases h'
    . simp[G]at h'
   |panics fr'' ch w'' es'' h hk'=>
    obtain⟨f2,w2,e2,h2,h3,h4⟩:=hk';exact .inr ⟨f2,ch,w2,e2,h2,h3,h4⟩
   |ends o w' es hk'=>exact .inl (hk' hk)
  |on fr' above' w' es hf' ha' hd ht hev hst=>
   have hd':d<=w'.drawn:=hd;have ht':w'.tape=τ0:=ht;have hstep:∀main cs τ e,(∀j,j<w'.drawn - d->τ (e+j)=τ0 (d+j))->stepG P main (G fr cs) (re w τ e)=.go (G fr' (above'++cs)) (re w' τ (e+(w'.drawn - d))) es:=λmain cs τ e hag=>
    hst main cs τ e λj hj=>hag j zx3e
   cases above' with
   |nil=>
    refine .inl ⟨w'.drawn - d,⟨fr',[],none,w'⟩,es,⟨hf',by simp,by simp,λ_=>rfl⟩,ht',hev,(by show w'.drawn=_;omega),λmain k ds kd cs hkd τ e hag=>?_⟩;have tl':=tl main k ds kd cs cs (re w τ e) hkd;rw[hstep main cs τ e hag]at tl';generalize hgen:GStep.go (G fr' ([]++cs)) (re w' τ (e+(w'.drawn - d))) es=gs at tl';cases tl' with
    |same fr'' w'' es'' h hr hnm=>
     simp only[GStep.go.injEq,G,Goroutine.mk.injEq]at hgen;obtain⟨⟨e1,e2,_⟩,e3,e4⟩:=hgen;subst e1 e3 e4;exact h
    |enter g w'' es'' h=>
     simp only[GStep.go.injEq,G,Goroutine.mk.injEq]at hgen;obtain⟨⟨e1,e2,_⟩,e3,e4⟩:=hgen;have:=congrArg List.length e2;simp at this
    |panics fr'' ch w'' es'' h hk'=>
     simp only[GStep.go.injEq,G,Goroutine.mk.injEq]at hgen;obtain⟨⟨e1,_⟩,_⟩:=hgen;subst e1;rcases hf'.mode with h'|h'<;>rw[h']at h<;>cases h
    |ends=>cases hgen
   |cons c r=>
    have hcr:c=fr/\r=[]:=by
     have tl':=tl true [] [] .normal [] [] (re w τ0 d) zyd;rw[hstep true [] τ0 d (λ_ _=>rfl)]at tl';generalize hgen:GStep.go (G fr' (c::r++[])) (re w' τ0 (d+(w'.drawn - d))) es=gs at tl';cases tl' with
     |same fr'' w'' es'' h hr hnm=>simp[G]at hgen
     |enter g w'' es'' h=>
      simp only[GStep.go.injEq,G,Goroutine.mk.injEq]at hgen;obtain⟨⟨e1,e2,_⟩,e3,e4⟩:=hgen;simp at e2;exact e2
     |panics fr'' ch w'' es'' h hk'=>simp[G]at hgen
     |ends=>cases hgen
    obtain⟨rfl,rfl⟩:=hcr;refine .inl ⟨w'.drawn - d,⟨fr',[],some c,w'⟩,es,⟨hf',by simp,λb hb=>by cases hb;exact⟨h1,hne⟩,by simp⟩,ht',hev,(by show w'.drawn=_;omega),λmain k ds kd cs hkd τ e hag=>?_⟩;have tl':=tl main k ds kd cs cs (re w τ e) hkd;rw[hstep main cs τ e hag]at tl';generalize hgen:GStep.go (G fr' ([c]++cs)) (re w' τ (e+(w'.drawn - d))) es=gs at tl';cases tl' with
    |same fr'' w'' es'' h hr hnm=>
     simp only[GStep.go.injEq,G,Goroutine.mk.injEq]at hgen;obtain⟨⟨e1,e2,_⟩,e3,e4⟩:=hgen;have:=congrArg List.length e2;simp at this
    |enter g w'' es'' h=>
     simp only[GStep.go.injEq,G,Goroutine.mk.injEq]at hgen;obtain⟨⟨e1,e2,_⟩,e3,e4⟩:=hgen;subst e1 e3 e4;exact h
    |panics fr'' ch w'' es'' h hk'=>
     simp only[GStep.go.injEq,G,Goroutine.mk.injEq]at hgen;obtain⟨⟨e1,_⟩,_⟩:=hgen;subst e1;rcases hf'.mode with h'|h'<;>rw[h']at h<;>cases h
    |ends=>cases hgen
 |some b=>
  obtain⟨hb,hbne⟩:=h3 b rfl;cases way hP fr ab (re w τ0 d) h1 h2 with
  |bad w' hd hst=>
   have hd':d<=w'.drawn:=hd;refine .inr ⟨w'.drawn - d,.inr λmain k cs hk τ e hag=>?_⟩;have:=hst main (sfx k [] .normal b::cs) τ e λj hj=>hag j zx3e;have e1:(⟨fr,ab,some b,w⟩:Sb).real k [] .normal cs=G fr (ab++sfx k [] .normal b::cs):=by simp[Sb.real,Sb.tp,Sb.fs]
   rw[e1];rcases this with h|⟨fr',ch,w'',es,h,hm,hdd⟩
   . exact .inl h
   . exact .inr ⟨fr',ch,w'',es,h.trans (by simp[Sb.fs]),hm,hdd⟩
  |on fr' above' w' es hf' ha' hd ht hev hst=>
   have hd':d<=w'.drawn:=hd;have ht':w'.tape=τ0:=ht;refine .inl ⟨w'.drawn - d,⟨fr',above',some b,w'⟩,es,⟨hf',ha',λb' hb'=>by cases hb';exact⟨hb,hbne⟩,by simp⟩,ht',hev,(by show w'.drawn=_;omega),λmain k ds kd cs hkd τ e hag=>?_⟩;have:=hst main (sfx k ds kd b::cs) τ e λj hj=>hag j zx3e;have e1:∀fr ab w,(⟨fr,ab,some b,w⟩:Sb).real k ds kd cs=G fr (ab++sfx k ds kd b::cs):=λ_ _ _=>by simp[Sb.real,Sb.tp,Sb.fs]
   rw[e1,e1];exact this
  |pop hab hm=>
   subst hab;have hfin:∀k ds kd v,(sfx k ds kd b).finish v=sfx k ds kd (b.finish v):=λk ds kd v=>zq71 hb.round hbne v;have hfb:∀v,Fine P A (b.finish v):=λv=>zq3x hb v;have e1:∀k ds kd cs,(⟨fr,[],some b,w⟩:Sb).real k ds kd cs=G fr (sfx k ds kd b::cs):=λ_ _ _ _=>by simp[Sb.real,Sb.tp,Sb.fs]
   have e2:∀k ds kd cs v w,(⟨b.finish v,[],none,w⟩:Sb).real k ds kd cs=G ((sfx k ds kd b).finish v) cs:=λ_ _ _ _ _ _=>by rw[hfin];simp[Sb.real,Sb.tp,Sb.fs]
   cases hf:P.funcs[fr.fn]? with
   |none=>
    refine .inl ⟨0,⟨b.finish (fr.tmps.getD 0 undef),[],none,re w τ0 d⟩,#[],⟨hfb _,by simp,by simp,λ_=>rfl⟩,rfl,by simp,rfl,λmain k ds kd cs hkd τ e hag=>?_⟩;rw[e1,e2];simp[G,stepG,unwind,doReturn,hm,h1.defers,h1.kind,hf];rfl
   |some fn=>
    obtain⟨r1,r2,r3⟩:=zq35 (P:=P) (results fn fr.tmps) (zq2v _ (zq1q fn fr.tmps)) (re w τ0 d) #[];have hcalm:=zq2h (P:=P) (results fn fr.tmps) (zq2v _ (zq1q fn fr.tmps)) (re w τ0 d) #[];have hst:∀main c cs w,stepG P main (G fr (c::cs)) w=GStep.after (seen P fr.fn ((results fn fr.tmps).runT P w #[]).2) (match ((results fn fr.tmps).runT P w #[]).1 with
     |.ok v w=>.go (G (c.finish v) cs) w
     |.halt (.stuck s) w=>.ended (.stuck s (fr.pos P)) w
     |.halt _ w=>.ended (.stuck "return: the result variables cannot be read" (fr.pos P)) w):=λmain c cs w=>by
     simp only[G,stepG,unwind,hm,h1.defers,hf];cases (Sem.runT P (results fn fr.tmps) w #[]).fst with
     |ok v w=>simp[doReturn,h1.kind]
     |halt h w=>cases h<;>rfl
    generalize hrr:(results fn fr.tmps).runT P (re w τ0 d) #[]=rr at r1 r2 r3 hcalm;obtain⟨res,es⟩:=rr;simp only at r1 r2 r3 hcalm;have hev:∀fn,∀e∈seen P fn es,calmEv true e:=λfn e he=>(hcalm e (mem_seen he)).resolve_left zx2n;have e3:∀τ e,re (re w τ0 d) τ e=re w τ e:=λ_ _=>rfl;cases res with
    |ok v w'=>
     have hd':d<=w'.drawn:=r1;refine .inl ⟨w'.drawn - d,⟨b.finish v,[],none,w'⟩,seen P fr.fn es,⟨hfb _,by simp,by simp,λ_=>rfl⟩,r2,hev _,(by show w'.drawn=_;omega),λmain k ds kd cs hkd τ e hag=>?_⟩;have:=r3 τ e λj hj=>hag j zx3e;rw[e3]at this;rw[e1,e2,hst,this];simp only[resRe,resW,GStep.after,Array.append_empty];rfl
    |halt h w'=>
     have hd':d<=w'.drawn:=r1;refine .inr ⟨w'.drawn - d,.inr λmain k cs hk τ e hag=>.inl ?_⟩;have:=r3 τ e λj hj=>hag j zx3e;rw[e3]at this;rw[e1,hst,this];simp only[resRe];cases h<;>exact⟨_,_,_,rfl⟩
end
def wall:List Item:=[.code (.refuse "")]
section
variable {P:Program} {A:FuncId->Bool} {k:List Item} {ds:List Deferred} {kd:CallKind}
theorem zq8l{n:Nat}{fr:Frame}{W:World}(hdf:fr.defers=[])(hkk:fr.kind=.normal)(h2:fr.mode=.returning){frf:Frame}{wf:World}(hn:n≠0):runN P n (Go.lone fr [trap] W)≠.next (Go.lone frf [trap] wf):=by
 intro hr;obtain⟨m,rfl⟩:∃m,n=m+1:=⟨n - 1,by omega⟩;have hend:(∃v w',∃es,stepG P true (G fr [trap]) W=.go (G (trap.finish v) []) w' es)\/∃o w' es,stepG P true (G fr [trap]) W=.ended o w' es:=by
  cases hfn:P.funcs[fr.fn]? with
  |none=>exact .inl ⟨_,_,_,by simp[G,stepG,unwind,doReturn,h2,hdf,hkk,hfn];exact⟨rfl,rfl,rfl⟩⟩
  |some fn=>
   have hst:stepG P true (G fr [trap]) W=GStep.after (seen P fr.fn ((results fn fr.tmps).runT P W #[]).2) (match ((results fn fr.tmps).runT P W #[]).1 with
    |.ok v w=>doReturn P true fr [trap] none v w
    |.halt (.stuck s) w=>.ended (.stuck s (fr.pos P)) w
    |.halt _ w=>.ended (.stuck "return: the result variables cannot be read" (fr.pos P)) w):=by
    simp only[G,stepG,unwind,h2,hdf,hfn];cases (Sem.runT P (results fn fr.tmps) W #[]).fst with
    |ok v w=>rfl
    |halt h w=>cases h<;>rfl
   rw[hst];generalize (Sem.runT P (results fn fr.tmps) W #[]).fst=rr;cases rr with
   |ok v w=>exact .inl ⟨v,w,_,by simp only[doReturn,hkk,GStep.after];rfl⟩
   |halt h w=>cases h<;>exact .inr ⟨_,_,_,rfl⟩
 rcases hend with⟨v,w',es,h⟩|⟨o,w',es,h⟩
 . rw[zq33 h]at hr;exact zqci _ _ _ hr
 . exact zq32 h _ _ hr
theorem fine_sfx{fr:Frame}(hf:Fine P A fr):Fine P A (sfx wall [] .normal fr):=
 ⟨λi hi=>by
  rcases List.mem_append.1 hi with h|h
  . exact hf.todo i h
  . rw[List.mem_singleton.1 h];rfl,rfl,rfl,rfl,hf.mode⟩
theorem fine_fs{s:Sb}(hs:s.Ok P A):∀c∈s.fs wall [] .normal,Fine P A c:=by
 intro c hc;unfold Sb.fs at hc;cases hb:s.bot with
 |none=>rw[hb]at hc;cases hc
 |some b=>
  rw[hb]at hc;rcases List.mem_append.1 hc with h|h
  . exact hs.mid c h
  . rw[List.mem_singleton.1 h];exact fine_sfx (hs.bot b hb).1
theorem real_G(s:Sb)(k:List Item)(ds:List Deferred)(kd:CallKind)(cs:List Frame):s.real k ds kd cs=G (s.tp k ds kd) (s.fs k ds kd++cs):=rfl
theorem top_tp{s:Sb}(hok:s.Ok P A)(hd:¬s.Done)(hkd:kd≠.early):Top P A (s.tp k ds kd):=by
 unfold Sb.tp;cases hb:s.bot with
 |some b=>exact hok.top.top
 |none=>
  have hm:s.fr.mode=.run:=hok.top.mode.resolve_right λh=>hd ⟨hb,.inl h⟩;cases ht:s.fr.todo with
  |nil=>exact absurd ⟨hb,.inr ht⟩ hd
  |cons i t=>exact⟨rfl,hkd,.inl ⟨hm,i,t++k,by show s.fr.todo++k=_;rw[ht];rfl,hok.top.todo i (by rw[ht];simp)⟩⟩
theorem chunk(hP:Plain P A)(hkd:kd≠.early){main:Bool}{J:Goroutine->World->Prop}{cs:List Frame}
 (hJ:∀fr cs' w,Top P A fr->(∀τ d,∃fr' cs'' w' es,stepG P main (G fr cs') (re w τ d)=.go (G fr' cs'') w' es/\(∀e∈es,calmEv true e)/\J (G fr' cs'') w')->J (G fr cs') w)
 {fr₀:Frame} {w:World} (hfine:Fine P A fr₀) {Φ:Frame->World->Prop} (hΦr:∀fr w τ d,Φ fr w->Φ fr (re w τ d)) (hΦm:∀fr w,Φ fr w->∀ch,fr.mode≠.panicking ch)
 (alone:∀τ d,∃n frf wf,runN P n (Go.lone (sfx wall [] .normal fr₀) [trap] (re w τ d))=.next (Go.lone frf [trap] wf)/\Φ frf wf)
 (after:∀fr w,Φ (sfx wall [] .normal fr) w->J (G (sfx k ds kd fr) cs) w):J (G (sfx k ds kd fr₀) cs) w:=by
 classical
 refine Classical.byContradiction λhnot=>?_
 let bad:Sb->Prop:=λs=>s.Ok P A/\¬J (s.real k ds kd cs) s.w
 have alt:∀s,bad s->∃τ d n,(∃s' es,NextB P A s τ d n s' es/\bad s')\/HaltB P s τ d n:=by
  intro s ⟨hok,hj⟩
  by_cases hdone:s.Done
  . exact⟨λ_ _=>0,0,0,.inr (.inl hdone)⟩
  have:¬ ∀τ d,∃fr' cs'' w' es,stepG P main (s.real k ds kd cs) (re s.w τ d)=.go (G fr' cs'') w' es/\(∀e∈es,calmEv true e)/\J (G fr' cs'') w':=λh=>hj (hJ _ _ _ (top_tp hok hdone hkd) h);obtain⟨τ,hd⟩:=Classical.not_forall.1 this;obtain⟨d,hd⟩:=Classical.not_forall.1 hd;rcases wayB hP s hok τ d with⟨n,s',es,hn⟩|⟨n,hn⟩
  . refine⟨τ,d,n,.inl ⟨s',es,hn,hn.1,λhj'=>hd ?_⟩⟩;have h6:=hn.2.2.2.2 main k ds kd cs hkd τ d (λ_ _=>rfl);have e2:re s'.w τ (d+n)=s'.w:=by rw[<-hn.2.2.2.1,<-hn.2.1];rfl
    rw[e2]at h6;exact⟨_,_,_,_,h6,hn.2.2.1,hj'⟩
  . exact⟨τ,d,n,.inr hn⟩
 let tt:Sb->Nat->Question->Nat:=λs=>if h:bad s then(alt s h).choose else λ_ _=>0
 let dd:Sb->Nat:=λs=>if h:bad s then(alt s h).choose_spec.choose else 0
 let nn:Sb->Nat:=λs=>if h:bad s then(alt s h).choose_spec.choose_spec.choose else 0
 have hdn:∀s(h:bad s),(∃s' es,NextB P A s (tt s) (dd s) (nn s) s' es/\bad s')\/HaltB P s (tt s) (dd s) (nn s):=by
  intro s h;simp only[tt,dd,nn,dif_pos h];exact(alt s h).choose_spec.choose_spec.choose_spec
 let nx:Sb->Sb:=λs=>if h:∃s' es,NextB P A s (tt s) (dd s) (nn s) s' es/\bad s' then h.choose else s
 let sq:Nat->Sb:=λm=>Nat.rec ⟨fr₀,[],none,w⟩ (λ_ s=>nx s) m
 let D:Nat->Nat:=λm=>Nat.rec 0 (λm x=>x+nn (sq m)) m
 have sqS:∀m,sq (m+1)=nx (sq m):=λm=>rfl;have DS:∀m,D (m+1)=D m+nn (sq m):=λm=>rfl;have Dmono:∀m m',m<=m'->D m<=D m':=by
  intro m m' h
  induction h with
  |refl=>exact Nat.le_refl _
  |step _ ih=>exact Nat.le_trans ih (by rw[DS];exact Nat.le_add_right _ _)
 let τ:Nat->Question->Nat:=λi=>if h:∃m,D m<=i/\i<D (m+1)then tt (sq h.choose) (dd (sq h.choose)+(i - D h.choose))else λ_=>0
 have hτ:∀m j,j<nn (sq m)->τ (D m+j)=tt (sq m) (dd (sq m)+j):=by
  intro m j hj;have hex:∃m',D m'<=D m+j/\D m+j<D (m'+1):=⟨m,Nat.le_add_right _ _,by rw[DS];omega⟩;have hm:hex.choose=m:=by
   obtain⟨h1,h2⟩:=hex.choose_spec;rcases Nat.lt_trichotomy hex.choose m with h|h|h
   . have:=Dmono (hex.choose+1) m h;omega
   . exact h
   . have:=Dmono (m+1) hex.choose h;rw[DS]at this;omega
  simp only[τ,dif_pos hex];rw[hm];congr 1;omega
 obtain⟨N,frf,wf,hrun,hΦ⟩:=alone τ 0;have hbad0:bad (sq 0):=⟨⟨hfine,λc hc=>(by cases hc),λb hb=>(by cases hb),λ_=>rfl⟩,hnot⟩
 let LN:Sb->World->Machine:=λs w=>Go.lone (s.tp wall [] .normal) (s.fs wall [] .normal++[trap]) w
 have main':∀m,m<=N->bad (sq m)/\runN P (N - m) (LN (sq m) (re (sq m).w τ (D m)))=.next (Go.lone frf [trap] wf):=by
  intro m
  induction m with
  |zero=>exact λ_=>⟨hbad0,hrun⟩
  |succ m ih=>
   intro hm;obtain⟨hb,hr⟩:=ih zyo;obtain⟨p,hp⟩:∃p,N - m=p+1:=⟨N - m - 1,by omega⟩;rw[hp]at hr;have hag:∀j,j<nn (sq m)->τ (D m+j)=tt (sq m) (dd (sq m)+j):=λj hj=>hτ m j hj;rcases hdn _ hb with hex|hh
   . have e:sq (m+1)=hex.choose:=by rw[sqS];simp only[nx,dif_pos hex]
     obtain⟨es,hn,hb'⟩:=hex.choose_spec;rw[<-e]at hn hb';refine⟨hb',?_⟩;have hst:=hn.2.2.2.2 true wall [] .normal [trap] zyd τ (D m) hag;rw[real_G,real_G]at hst;rw[zq33 hst]at hr;rw[show N - (m+1)=p by omega,DS];exact hr
   . exfalso;rcases hh with⟨h1,h2⟩|hh
     . have hab:=hb.1.none h1;have hfs:(sq m).fs wall [] .normal=[]:=by unfold Sb.fs;rw[h1]
       have htp:(sq m).tp wall [] .normal=sfx wall [] .normal (sq m).fr:=by unfold Sb.tp;rw[h1]
       simp only[LN,hfs,htp,List.nil_append]at hr;have hf:=hb.1.top;rcases h2 with h2|h2
       . exact zq8l (fr:=sfx wall [] .normal (sq m).fr) rfl rfl h2 (Nat.succ_ne_zero p) hr
       . rcases hf.mode with hmr|hmr
         . have hst:∃o w' es,stepG P true (G (sfx wall [] .normal (sq m).fr) [trap]) (re (sq m).w τ (D m))=.ended o w' es:=by
            simp[sfx,wall,h2,hmr,G,stepG,stepG.exec]
           obtain⟨o,w',es,hst⟩:=hst;exact zq32 hst _ _ hr
         . exact zq8l (fr:=sfx wall [] .normal (sq m).fr) rfl rfl hmr (Nat.succ_ne_zero p) hr
     . have hbb:=hh true wall [trap] (by intro id;rfl) τ (D m) hag;rw[real_G]at hbb;rcases hbb with⟨o,w',es,h⟩|⟨fr',ch,w',es,h,hm',hd'⟩
       . exact zq32 h _ _ hr
       . simp only[LN]at hr;rw[zq33 h]at hr;exact doomed _ fr' _ w' ch hm' hd' (fine_fs hb.1) (hΦm _ _ hΦ) hr
 obtain⟨hb,hr⟩:=main' N (Nat.le_refl _);simp only[Nat.sub_self,runN,Stepped.next.injEq,LN]at hr;obtain⟨e1,e2,e3⟩:=zq4m hr;have hbot:(sq N).bot=none:=by
  cases h:(sq N).bot with
  |none=>rfl
  |some b=>
   unfold Sb.fs at e2;rw[h]at e2;have:=congrArg List.length e2;simp at this
 have htp:(sq N).tp wall [] .normal=sfx wall [] .normal (sq N).fr:=by unfold Sb.tp;rw[hbot]
 rw[htp]at e1;refine hb.2 ?_;have hreal:(sq N).real k ds kd cs=G (sfx k ds kd (sq N).fr) cs:=by unfold Sb.real Sb.tp Sb.fs;rw[hbot];rfl
 rw[hreal];refine after _ _ ?_;rw[e1];have hw:(sq N).w=re wf (sq N).w.tape (sq N).w.drawn:=by rw[<-e3];rfl
 rw[hw];exact hΦr _ _ _ _ hΦ
end
section
variable {P:Program} {A:FuncId->Bool}
theorem zqaw(fn:Func)(tmps:Array Value):zq2 P (results fn tmps):=by
 unfold results;refine zqv (zqas _ (λx=>?_) _) λ_=>zq1g _;cases x with
 |tmp t=>exact zq1g _
 |cell a t=>exact zqv (zqag _) λ_=>zqar _ _
theorem zq4a{X:Snap}{fn:FuncId}{es:Array Event}(h:∀e∈es,e∈(#[]:Array Event)\/apart X e):∀e∈seen P fn es,apart X e:=λe he=>(h e (mem_seen he)).resolve_left zx2n
theorem zqdo(hP:Plain P A){main:Bool}{fr:Frame}{cs:List Frame}{s:Sem Next}{X:Snap}{w wc wc':World}{fr':Frame}{cs':List Frame}{es:Array Event}(hk:fr.kind≠.early)(hcall:∀d b r v k,fr.todo≠.call d b r v::k)(hext:∀r v k,fr.todo≠.extern r v::k)
 (hst:zq2 P s) (hl:leaf P (zq2b P A) s) (ht:tame P true s) (h:Cut X w wc) (hs:stepG.apply P true fr cs none s wc=.go (G fr' cs') wc' es):
 ∃w',Cut X w' wc'/\stepG.apply P true fr cs none s w=.go (G fr' cs') w' es/\(∀e∈es,apart X e)/\Chans w w':=by
 have h1:=hst X w wc #[] h;have hg:=zq40 s ht hl wc #[];have hke:(fr.kind==CallKind.early)=false:=by simpa using hk
 unfold stepG.apply at hs |-;simp only[if_true,hke,Bool.false_eq_true,if_false]at hs |-;generalize hr:s.runT P wc #[]=r at h1 hg hs;obtain⟨r,es'⟩:=r;simp only at h1 hg hs;cases r with
 |ok nx w1=>
  obtain⟨w',c1,e1,v1⟩:=h1 trivial;rw[e1];have hnx:zq2b P A nx:=hg;simp only[resW,setW]at c1 |-;cases nx with
  |value v=>
   simp only[GStep.after,GStep.go.injEq,Array.append_empty]at hs |-;obtain⟨a1,rfl,rfl⟩:=hs;exact⟨w',c1,⟨a1,rfl,rfl⟩,zq4a v1,by have:=zq34 s ht w #[];rw[e1]at this;exact this⟩
  |skip=>
   simp only[GStep.after,GStep.go.injEq,Array.append_empty]at hs |-;obtain⟨a1,rfl,rfl⟩:=hs;exact⟨w',c1,⟨a1,rfl,rfl⟩,zq4a v1,by have:=zq34 s ht w #[];rw[e1]at this;exact this⟩
  |enter f args=>
   simp only[GStep.after,GStep.go.injEq,Array.append_empty]at hs |-;obtain⟨a1,rfl,rfl⟩:=hs;exact⟨w',c1,⟨a1,rfl,rfl⟩,zq4a v1,by have:=zq34 s ht w #[];rw[e1]at this;exact this⟩
  |_=>exact hnx.elim
 |halt x w1=>
  rcases hg with hg|⟨b,rfl⟩
  . cases x with
    |panic v=>
     obtain⟨w',c1,e1,v1⟩:=h1 trivial;rw[e1];simp only[resW,setW,GStep.after,GStep.go.injEq,Array.append_empty]at hs c1 |-;obtain⟨a1,rfl,rfl⟩:=hs;exact⟨w',c1,⟨a1,rfl,rfl⟩,zq4a v1,by have:=zq34 s ht w #[];rw[e1]at this;exact this⟩
    |stuck s=>simp only[GStep.after]at hs;cases hs
    |unsupported u=>cases u<;>first|(simp only[GStep.after]at hs;cases hs)|exact hg.elim
    |_=>exact hg.elim
  . obtain⟨o,w'',es'',he⟩:=zq4e hP fr cs none b w1;simp only[he,GStep.after]at hs;cases hs
theorem zq1i{main:Bool}{fr:Frame}{cs:List Frame}{X:Snap}{w wc wc':World}{fr':Frame}{cs':List Frame}{es:Array Event}(h:Cut X w wc)
 (hc:(∃g:Goroutine,∀w,stepG P main (G fr cs) w=.go g w)\/∀w,∃o w' es,stepG P main (G fr cs) w=.ended o w' es) (hs:stepG P main (G fr cs) wc=.go (G fr' cs') wc' es):
 ∃w',Cut X w' wc'/\stepG P main (G fr cs) w=.go (G fr' cs') w' es/\(∀e∈es,apart X e)/\Chans w w':=by
 rcases hc with⟨g,hc⟩|hc
 . rw[hc]at hs;cases hs;exact⟨w,h,hc w,by simp,Chans.refl w⟩
 . obtain⟨o,w',es',he⟩:=hc wc;rw[he]at hs;cases hs
theorem step_cut(hP:Plain P A)(hR:RowsS P A){main:Bool}{fr:Frame}{cs:List Frame}{X:Snap}{w wc wc':World}{fr':Frame}{cs':List Frame}{es:Array Event}(ht:Top P A fr)(h:Cut X w wc)
 (hs:stepG P main (G fr cs) wc=.go (G fr' cs') wc' es):∃w',Cut X w' wc'/\stepG P main (G fr cs) w=.go (G fr' cs') w' es/\(∀e∈es,apart X e)/\Chans w w':=by
 obtain⟨fn,tmps,todo,defers,mode,kind,round⟩:=fr;have hrd:=ht.round;have hkd:=ht.kind;have hhd:=ht.head;simp only at hrd hkd hhd;subst hrd;rcases hhd with⟨rfl,i,t,rfl,hi⟩|⟨rfl,rfl⟩|⟨rfl,rfl⟩
 . cases i with
   |code c=>
    have hc:zqn P A c=true:=hi;cases c with
    |skip=>exact zq1i h (.inl ⟨_,λw=>by simp only[G,stepG,stepG.exec];rfl⟩) hs
    |exit id=>
     refine zq1i h ?_ hs;cases hx:exitTo id t with
     |some k'=>exact .inl ⟨_,λw=>by simp only[G,stepG,stepG.exec,hx,Option.elim];rfl⟩
     |none=>exact .inr λw=>by simp[G,stepG,stepG.exec,hx]
    |ret=>exact zq1i h (.inl ⟨_,λw=>by simp only[G,stepG,stepG.exec];rfl⟩) hs
    |refuse why=>exact zq1i h (.inr λw=>by simp[G,stepG,stepG.exec]) hs
    |region id ops draw=>
     cases draw with
     |false=>exact zq1i h (.inl ⟨_,λw=>by simp only[G,stepG,stepG.exec,Bool.not_false,if_true];rfl⟩) hs
     |true=>
      have e:∀w:World,stepG P main (G ⟨fn,tmps,.code (.region id ops true)::t,defers,.run,kind,none⟩ cs) w=.go (G ⟨fn,tmps,.inRegion ops (Region.schedule (P.follows .mixedOrders) ops (w.tape w.drawn (.order fn id)))::t,defers,.run,kind,none⟩ cs) w.drew #[]:=by
       intro w;have:=stepG_region_draw (P:=P) (main:=main) (b:=⟨fn,tmps,[],[],.run,kind,none⟩) (a:=⟨tmps,defers⟩) (k:=t) (cs:=cs) (w:=w) (id:=id) (ops:=ops);exact this
      rw[e wc]at hs;rw[e w,<-h.tape,<-h.drawn];cases hs;exact⟨w.drew,⟨h.is,h.no,h.size,h.tape,by show wc.drawn+1=w.drawn+1;rw[h.drawn],h.os,h.output⟩,rfl,by simp,⟨λ_ _ h _=>h,rfl,rfl⟩⟩
    |seq a b=>exact zq1i h (.inl ⟨_,λw=>by simp only[G,stepG,stepG.exec];rfl⟩) hs
    |cond c a b=>
     refine zq1i h ?_ hs;cases hb:(⟨fn,tmps,.code (.cond c a b)::t,defers,.run,kind,none⟩:Frame).eval c with
     |bool x=>exact .inl ⟨_,λw=>by simp only[G,stepG,stepG.exec,hb];rfl⟩
     |_=>exact .inr λw=>by simp[G,stepG,stepG.exec,hb]
    |block id c=>exact zq1i h (.inl ⟨_,λw=>by simp only[G,stepG,stepG.exec];rfl⟩) hs
    |loop c=>exact zq1i h (.inl ⟨_,λw=>by simp only[G,stepG,stepG.exec];rfl⟩) hs
    |_=>simp[zqn]at hc
   |inBlock id=>exact zq1i h (.inl ⟨_,λw=>by simp only[G,stepG,stepG.exec];rfl⟩) hs
   |inLoop c=>exact zq1i h (.inl ⟨_,λw=>by simp only[G,stepG,stepG.exec];rfl⟩) hs
   |inRegion ops l=>
    cases l with
    |nil=>exact zq1i h (.inl ⟨_,λw=>by simp only[G,stepG,stepG.exec];rfl⟩) hs
    |cons j r=>
     cases hj:ops[j]? with
     |none=>
      refine zq1i h (.inl ⟨G (Frame.finish ⟨fn,tmps,.inRegion ops (j::r)::t,defers,.run,kind,none⟩ undef) cs,λw=>?_⟩) hs;simp only[G,stepG,stepG.exec,hj,Option.map_none,Option.getD_none,Bool.false_eq_true,if_false]
     |some o=>
      cases hw:Region.wanted o (yielded ops tmps)with
      |false=>
       refine zq1i h (.inl ⟨G (Frame.finish ⟨fn,tmps,.inRegion ops (j::r)::t,defers,.run,kind,none⟩ undef) cs,λw=>?_⟩) hs;simp only[G,stepG,stepG.exec,hj,Option.map_some,al_od,hw,Bool.false_eq_true,if_false]
      |true=>
       have e:∀w,stepG P main (G ⟨fn,tmps,.inRegion ops (j::r)::t,defers,.run,kind,none⟩ cs) w=stepG.apply P true ⟨fn,tmps,.inRegion ops (j::r)::t,defers,.run,kind,none⟩ cs none (execOp (Frame.eval ⟨fn,tmps,.inRegion ops (j::r)::t,defers,.run,kind,none⟩) o) w:=by
        intro w;have:=stepG_oper (P:=P) (main:=main) (b:=⟨fn,tmps,[],[],.run,kind,none⟩) (a:=⟨tmps,defers⟩) (k:=t) (cs:=cs) (w:=w) (ops:=ops) (i:=j) (rest:=r) hj hw;exact this
       rw[e wc]at hs;rw[e w];have hop:okOp P A o.op=true:=zq5k hi hj;obtain⟨k1,k2⟩:=zq1t hP.fns o hop (Frame.eval ⟨fn,tmps,.inRegion ops (j::r)::t,defers,.run,kind,none⟩) (λf=>rfl);exact zqdo (main:=main) hP (fr:=⟨fn,tmps,.inRegion ops (j::r)::t,defers,.run,kind,none⟩) hkd (by intro d b r v k h;cases h) (by intro r v k h;cases h) (zqdy hP.fns hR o hop _ (λf=>rfl)) k2 k1 h hs
   |_=>simp[zq11]at hi
 . exact zq1i h (.inl ⟨_,λw=>by simp only[G,stepG,stepG.exec];rfl⟩) hs
 . simp only[G,stepG,unwind]at hs |-;cases hf:P.funcs[fn]? with
   |none=>
    rw[hf]at hs;obtain⟨rfl,rfl,h3⟩:=zq57 hs;exact⟨w,h,h3 w,by simp,Chans.refl w⟩
   |some f=>
    rw[hf]at hs;simp only[]at hs |-;have h1:=zqaw (P:=P) f tmps X w wc #[] h;generalize (results f tmps).runT P wc #[]=r at h1 hs;obtain⟨r,es'⟩:=r;cases r with
    |halt x w1=>cases x<;>(simp only[GStep.after]at hs;cases hs)
    |ok v w1=>
     obtain⟨w',c1,e1,v1⟩:=h1 trivial;rw[e1];simp only[resW,setW]at c1 hs |-;generalize hd:doReturn P main ⟨fn,tmps,todo,[],.returning,kind,none⟩ cs none v w1=S at hs;cases S<;>simp only[GStep.after,GStep.go.injEq,reduceCtorEq]at hs;rename_i g w2 es2;obtain⟨rfl,rfl,rfl⟩:=hs;obtain⟨rfl,rfl,h3⟩:=zq57 hd;rw[h3 w'];exact⟨w',c1,rfl,λe he=>zq4a v1 e (by simpa using he),by have:=zq34 _ (zq2v _ (zq1q (P:=P) f tmps)) w #[];rw[e1]at this;exact this⟩
end
section
variable {P:Program} {main:Bool} {Kc:Addr->Option Value} {γ:Type} {J:γ->Goroutine->World->Prop} {A:FuncId->Bool}
def ends(C R:Act->World->Prop):Exit->Act->World->Prop
 |.normal,a,w=>a.defers=[]/\C a w
 |.ret,a,w=>a.defers=[]/\R a w
 |_,_,_=>False
theorem zq18(hJ:JS P main Kc J)(hcalm:CalmJ P main J)(hP:Plain P A){c:Code}(hc:zqn P A c=true)(C R:Act->World->Prop)
 (hC:∀a w τ d,C a w->C a (re w τ d)) (hR:∀a w τ d,R a w->R a (re w τ d)) {Q:γ->Exit->Act->World->Prop} {s:γ} {a:Act} {w:World}
 (h:∀τ d,Code.wp P c (ends C R) ⟨a.tmps,[]⟩ (re w τ d))
 (hq:∀t w,C ⟨t,[]⟩ w->Q s .normal ⟨t,a.defers⟩ w) (hr:∀t w,R ⟨t,[]⟩ w->Q s .ret ⟨t,a.defers⟩ w):wpJ J c Q s a w:=by
 intro b k cs hb hk
 let b₀:Frame:={(default:Frame)with fn:=b.fn,kind:=.normal}
 let Φ:Frame->World->Prop:=λfr w=>(∃t,fr=b₀.at ⟨t,[]⟩ wall/\C ⟨t,[]⟩ w)\/(fr.mode=.returning/\fr.fn=b.fn/\R ⟨fr.tmps,[]⟩ w)
 have hsfx:b.at a (.code c::k)=sfx k a.defers b.kind (Fr b.fn a.tmps [.code c]):=rfl;have hwall:sfx wall [] .normal (Fr b.fn a.tmps [.code c])=b₀.at ⟨a.tmps,[]⟩ (.code c::wall):=rfl;rw[hsfx];refine chunk (J:=λg w=>J s g w) hP hb (λfr cs' w ht h=>zq6e hcalm hP ht h) (zq1l (λi hi=>by rw[List.mem_singleton.1 hi];exact hc)) (Φ:=Φ) ?_ ?_ ?_ ?_
 . exact zx26
 . exact zx1p
 . exact zxt
 . exact zx8
end
def Rows(X:Snap)(w:World):Prop:=∀b c e,X b=some (c,e)->w.heap[b]?=some (.cells c e)
def cutW(X:Snap)(w:World):World:={w with heap:=Array.ofFn λi:Fin w.heap.size=>match X i with|some (_,e)=>Obj.cells #[] e|none=>w.heap[i]}
theorem zq88(X:Snap)(w:World)(b:Nat)(hb:b<w.heap.size):(cutW X w).heap[b]?=some (match X b with|some (_,e)=>Obj.cells #[] e|none=>w.heap[b]):=by
 simp[cutW,hb]
theorem zq56{X:Snap}{w:World}(h:Rows X w):Cut X w (cutW X w):=by
 refine⟨λb c e hb=>⟨h b c e hb,?_⟩,λb hb=>?_,by simp[cutW],rfl,rfl,rfl,rfl⟩
 . have hlt:=(Array.getElem?_eq_some_iff.1 (h b c e hb)).1;rw[zq88 X w b hlt,hb]
 . by_cases hlt:b<w.heap.size
   . rw[zq88 X w b hlt,hb,Array.getElem?_eq_getElem hlt]
   . rw[Array.getElem?_eq_none (by simp[cutW];omega),Array.getElem?_eq_none zyo]
theorem Cut.rows {X:Snap}{w wc:World}(h:Cut X w wc):Rows X w:=λb c e hb=>(h.is b c e hb).1
theorem Cut.inj {X:Snap}{w w' wc:World}(h:Cut X w wc)(h':Cut X w' wc):w=w':=by
 obtain⟨h1,h2,h3,h4,h5,h6,h7⟩:=h;obtain⟨k1,k2,k3,k4,k5,k6,k7⟩:=h';have hh:w.heap=w'.heap:=by
  apply Array.ext_getElem?;intro b;cases hx:X b with
  |none=>rw[<-h2 b hx,k2 b hx]
  |some x=>obtain⟨c,e⟩:=x;rw[(h1 b c e hx).1,(k1 b c e hx).1]
 cases w;cases w';simp_all
section
variable {P:Program} {main:Bool} {Kc:Addr->Option Value} {γ:Type} {J:γ->Goroutine->World->Prop} {A:FuncId->Bool} {X:Snap}
def CalmX(P:Program)(main:Bool)(X:Snap){γ:Type}(J:γ->Goroutine->World->Prop):Prop:=
 ∀s fr cs w,Rows X w->(∀τ d,∃fr' cs' w' es,stepG P main (G fr cs) (re w τ d)=.go (G fr' cs') w' es/\(∀e∈es,calmEv true e/\apart X e)/\Chans w w'/\Rows X w'/\J s (G fr' cs') w')->J s (G fr cs) w
theorem cut_J(hcalm:CalmX P main X J)(hP:Plain P A)(hR:RowsS P A)(w₀:World)(s:γ)(fr:Frame)(cs':List Frame)(wc:World)(ht:Top P A fr)
 (h:∀τ d,∃fr' cs'' wc' es,stepG P main (G fr cs') (re wc τ d)=.go (G fr' cs'') wc' es/\(∀e∈es,calmEv true e)/\∀w',Cut X w' wc'->Chans w₀ w'->J s (G fr' cs'') w'):∀w',Cut X w' wc->Chans w₀ w'->J s (G fr cs') w':=by
 intro w' hc hch;refine hcalm s fr cs' w' hc.rows λτ d=>?_;obtain⟨fr',cs'',wc',es,h1,h2,h3⟩:=h τ d;obtain⟨w'',c1,e1,a1,ch1⟩:=step_cut hP hR ht (hc.re τ d) h1;have ch2:Chans w' w'':=ch1;exact⟨fr',cs'',w'',es,e1,λe he=>⟨h2 e he,a1 e he⟩,ch2,c1.rows,h3 w'' c1 (hch.trans ch2)⟩
theorem zqda(hJ:JS P main Kc J)(hcalm:CalmX P main X J)(hP:Plain P A)(hRS:RowsS P A){f:FuncId}{fn:Func}{c:Code}{args:Array Value}{s:γ}{w:World}(hf:P.funcs[f]?=some fn)(hb:fn.body=some c)(hc:zqn P A c=true)
 {R:Value->World->Prop} (hR:∀v w τ d,R v w->R v (re w τ d)) (hX:Rows X w) (h:∀wc,(∃τ d,Cut X (re w τ d) wc)->Calls P f args wc (zq3i R))
 {Post:γ->Ending->World->Prop} (hpost:∀v wc w',R v wc->Cut X w' wc->Chans w w'->Post s (.returned v) w'):CallsJ P J f args Post s w:=by
 intro cl cs h1 h2
 let Φ:Frame->World->Prop:=λfr w=>fr.mode=.returning/\fr.defers=[]/\fr.kind=.normal/\fr.fn=f/\∃v,(results fn fr.tmps).run P w=.ok v w/\R v w
 refine lift hP (J:=λg wc=>∀w',Cut X w' wc->Chans w w'->J s g w') (main:=main) (cs:=cl::cs) (λfr cs' wc ht h=>cut_J hcalm hP hRS w s fr cs' wc ht h) (zq6g args hf hb hc) (Φ:=Φ) ?_ (λfr w h=>h.1) ?_ ?_ (w:=cutW X w) w (zq56 hX) (Chans.refl w)
 . rintro fr w τ d ⟨a,b,c,e,v,hv,hr⟩;exact⟨a,b,c,e,v,zq3m hv τ d,hR _ _ _ _ hr⟩
 . intro τ d;obtain⟨e,w',fr,hRe,hcm,hfn,hl⟩:=h (re (cutW X w) τ d) ⟨τ,d,(zq56 hX).re τ d⟩ [trap];cases e with
   |returned v=>
    obtain⟨n,hn⟩:=hcm;obtain⟨hm,hd,hk,fn',hf',hr⟩:=hl;rw[hfn,hf]at hf';obtain rfl:=Option.some.inj hf';exact⟨n,fr,w',hn,hm,hd,hk,hfn,v,hr,hRe⟩
   |_=>exact hRe.elim
 . rintro fr wc ⟨hm,hd,hk,hfn,v,hv,hr⟩ w' hcut hch;have hj:=h1 s v w' (hpost v wc w' hr hcut hch);have hv':(results fn fr.tmps).run P w'=.ok v w':=by
    have:=zqaw (P:=P) fn fr.tmps X w' wc #[] hcut;rw[Sem.runT_eq,hv]at this;obtain⟨w'',c1,e1,_⟩:=this trivial;obtain rfl:=c1.inj hcut;have:=(Prod.mk.inj e1).1;rw[Sem.runT_eq]at this;exact this
   refine hJ.step _ _ _ rfl λτ d=>?_;have hev:∀e∈((results fn fr.tmps).runT P (re w' τ d) #[]).2,EvOk Kc e:=λe he=>zq3b ((zq2h _ (zq1q fn fr.tmps) _ #[] e he).resolve_left zx2n);refine⟨G (cl.finish v) cs,re w' τ d,seen P fr.fn ((results fn fr.tmps).runT P (re w' τ d) #[]).2,?_,OkD.refl _ _ _,λe he=>hev e (mem_seen he),hJ.re' _ _ _ _ _ hj⟩;have h1:((results fn fr.tmps).runT P (re w' τ d) #[]).1=.ok v (re w' τ d):=by rw[Sem.runT_eq];exact zq3m hv' τ d
   rw[<-hfn]at hf;simp only[G,stepG,unwind,hm,hd,hf];generalize (results fn fr.tmps).runT P (re w' τ d) #[]=r at h1;obtain⟨r,es⟩:=r;simp only at h1;subst h1;simp only[doReturn,hk,GStep.after,Array.append_empty]
theorem zqed{Fin:Machine->Trace->Prop}(hFin:Back P Fin){Kc:Addr->Option Value}{Inb:Nat->Option Seat}{h n:Nat}(hK:∀a v,Kc a=some v->∃c e,X a.block=some (c,e)):CalmX P (h==0) X (λ(_:Unit)=>HoldR P Fin Kc Inb h n):=
 λ_ fr cs w hX hs=>zq6k hFin rfl λτ d=>by
  obtain⟨fr',cs',w',es,h1,h2,h3,h4,h5⟩:=hs τ d;refine⟨_,w',es,h1,⟨⟨λhk a v e=>?_,h3.2.1,h3.2.2⟩,λc _⟨cap,k,hx⟩=>?_⟩,λe he=>?_,h5⟩
  . obtain⟨c,t,hx⟩:=hK a v e;obtain⟨k1,k2⟩:=hk a v e;have hsame:w'.heap[a.block]?=(re w τ d).heap[a.block]?:=(h4 _ _ _ hx).trans (hX _ _ _ hx).symm;exact⟨by rw[<-k1];simp only[World.cell?,hsame],by rw[<-k2];simp only[World.frozen?,hsame]⟩
  . exact(h3.1 c _ hx zx2n).trans hx.symm
  . obtain⟨he1,he2⟩:=h2 e he;refine⟨λx hx hst=>?_,zq54 he1⟩;obtain⟨a,v,hl,hv⟩:=hst;obtain⟨c,t,hxx⟩:=hK a v hv;rw[(zqch he1.1 hx).2]at hl;rw[he2 a hl]at hxx;cases hxx
end
def zq2x(P:Program)(it:Item)(Q:Exit->Act->World->Prop)(a:Act)(w:World):Prop:=
 ∀(b:Frame)(k:List Item)(cs:List Frame),∃e a' w',Q e a' w'/\Arrives P (lone (b.at a (it::k)) cs w) b k cs e a' w'
theorem zqco{P:Program}{c:Code}{Q:Exit->Act->World->Prop}{a:Act}{w:World}(h:Code.wp P c Q a w):zq2x P (.code c) Q a w:=h
theorem zqcp{P:Program}{ops:Array Oper}{Q:Exit->Act->World->Prop}{a:Act}{w:World}(p r:Nat){todo:List Nat}(hsz:p+r=ops.size)(ht:todo=List.range' p r)(h:wpList P ops Q (ops.toList.drop p) a w):zq2x P (.inRegion ops todo) Q a w:=by
 subst ht;have hl:(ops.toList.drop p).length=r:=by simp;omega
 have:=wpOps_eq_wpList (P:=P) (ops:=ops) (Q:=Q) (ops.toList.drop p) p (λj=>by simp);rw[hl]at this;rw[<-this]at h;exact wp_ops _ _ _ h
theorem zq3q{P:Program}{it:Item}{Q Q':Exit->Act->World->Prop}{a:Act}{w:World}(h:zq2x P it Q a w)(hq:∀e a w,Q e a w->Q' e a w):zq2x P it Q' a w:=
 λb k cs=>let ⟨e,a',w',q,r⟩:=h b k cs;⟨e,a',w',hq _ _ _ q,r⟩
def wpI{γ:Type}(J:γ->Goroutine->World->Prop)(it:Item)(Q:γ->Exit->Act->World->Prop)(s:γ)(a:Act)(w:World):Prop:=
 ∀(b:Frame)(k:List Item)(cs:List Frame),b.kind≠.early->(∀s' e a' w',Q s' e a' w'->AfterJ J b k cs s' e a' w')->J s (G (b.at a (it::k)) cs) w
section
variable {P:Program} {main:Bool} {Kc:Addr->Option Value} {γ:Type} {J:γ->Goroutine->World->Prop} {A:FuncId->Bool} {X:Snap}
theorem wpI_lone(hJ:JS P main Kc J)(hcalm:CalmJ P main J)(hP:Plain P A){it:Item}(hc:zq11 P A it=true)(C R:Act->World->Prop)
 (hC:∀a w τ d,C a w->C a (re w τ d)) (hR:∀a w τ d,R a w->R a (re w τ d)) {Q:γ->Exit->Act->World->Prop} {s:γ} {a:Act} {w:World}
 (h:∀τ d,zq2x P it (ends C R) ⟨a.tmps,[]⟩ (re w τ d))
 (hq:∀t w,C ⟨t,[]⟩ w->Q s .normal ⟨t,a.defers⟩ w) (hr:∀t w,R ⟨t,[]⟩ w->Q s .ret ⟨t,a.defers⟩ w):wpI J it Q s a w:=by
 intro b k cs hb hk
 let b₀:Frame:={(default:Frame)with fn:=b.fn,kind:=.normal}
 let Φ:Frame->World->Prop:=λfr w=>(∃t,fr=b₀.at ⟨t,[]⟩ wall/\C ⟨t,[]⟩ w)\/(fr.mode=.returning/\fr.fn=b.fn/\R ⟨fr.tmps,[]⟩ w)
 have hsfx:b.at a (it::k)=sfx k a.defers b.kind (Fr b.fn a.tmps [it]):=rfl;have hwall:sfx wall [] .normal (Fr b.fn a.tmps [it])=b₀.at ⟨a.tmps,[]⟩ (it::wall):=rfl;rw[hsfx];refine chunk (J:=λg w=>J s g w) hP hb (λfr cs' w ht h=>zq6e hcalm hP ht h) (zq1l (λi hi=>by rw[List.mem_singleton.1 hi];exact hc)) (Φ:=Φ) ?_ ?_ ?_ ?_
 . exact zx26
 . exact zx1p
 . exact zxt
 . exact zx8
theorem wpI_away(hJ:JS P main Kc J)(hcalm:CalmX P main X J)(hP:Plain P A)(hR:RowsS P A){it:Item}(hc:zq11 P A it=true)(C R:Act->World->Prop)
 (hC:∀a w τ d,C a w->C a (re w τ d)) (hRr:∀a w τ d,R a w->R a (re w τ d)) {Q:γ->Exit->Act->World->Prop} {s:γ} {a:Act} {w:World} (hX:Rows X w)
 (h:∀wc,(∃τ d,Cut X (re w τ d) wc)->zq2x P it (ends C R) ⟨a.tmps,[]⟩ wc)
 (hq:∀t wc w',C ⟨t,[]⟩ wc->Cut X w' wc->Chans w w'->Q s .normal ⟨t,a.defers⟩ w') (hr:∀t wc w',R ⟨t,[]⟩ wc->Cut X w' wc->Chans w w'->Q s .ret ⟨t,a.defers⟩ w'):wpI J it Q s a w:=by
 intro b k cs hb hk
 let b₀:Frame:={(default:Frame)with fn:=b.fn,kind:=.normal}
 let Φ:Frame->World->Prop:=λfr w=>(∃t,fr=b₀.at ⟨t,[]⟩ wall/\C ⟨t,[]⟩ w)\/(fr.mode=.returning/\fr.fn=b.fn/\R ⟨fr.tmps,[]⟩ w)
 have hsfx:b.at a (it::k)=sfx k a.defers b.kind (Fr b.fn a.tmps [it]):=rfl;have hwall:sfx wall [] .normal (Fr b.fn a.tmps [it])=b₀.at ⟨a.tmps,[]⟩ (it::wall):=rfl;rw[hsfx];refine chunk (J:=λg wc=>∀w',Cut X w' wc->Chans w w'->J s g w') hP hb (λfr cs' wc ht h=>cut_J hcalm hP hR w s fr cs' wc ht h) (zq1l (λi hi=>by rw[List.mem_singleton.1 hi];exact hc)) (Φ:=Φ) ?_ ?_ ?_ ?_ (w:=cutW X w) w (zq56 hX) (Chans.refl w)
 . rintro fr w τ d (⟨t,h1,h2⟩|⟨h1,h2,h3⟩)
   . exact .inl ⟨t,h1,hC _ _ _ _ h2⟩
   . exact .inr ⟨h1,h2,hRr _ _ _ _ h3⟩
 . exact zx1p
 . intro τ d;rw[hwall];obtain⟨e,a',w',hC',harr⟩:=h (re (cutW X w) τ d) ⟨τ,d,(zq56 hX).re τ d⟩ b₀ wall [trap];cases e with
   |normal=>
    obtain⟨t,dd⟩:=a';obtain⟨hd,hC'⟩:=hC';simp only at hd;subst hd;obtain⟨n,hn⟩:=harr;exact⟨n,_,_,hn,.inl ⟨t,rfl,hC'⟩⟩
   |ret=>
    obtain⟨t,dd⟩:=a';obtain⟨hd,hC'⟩:=hC';simp only at hd;subst hd;obtain⟨todo,n,hn⟩:=harr;exact⟨n,_,_,hn,.inr ⟨rfl,rfl,hC'⟩⟩
   |_=>exact hC'.elim
 . rintro fr wc (⟨t,h1,h2⟩|⟨h1,h2,h3⟩) w' hcut hch
   . have e1:fr.fn=b.fn:=by have:=congrArg Frame.fn h1;exact this
     have e2:fr.tmps=t:=by have:=congrArg Frame.tmps h1;exact this
     have e3:fr.todo++wall=wall:=by have:=congrArg Frame.todo h1;exact this
     have e4:fr.mode=.run:=by have:=congrArg Frame.mode h1;exact this
     have e5:fr.todo=[]:=by
      have:=congrArg List.length e3;simp at this;exact this
     have:sfx k a.defers b.kind fr=b.at ⟨t,a.defers⟩ k:=by
      simp only[sfx,Frame.at,e1,e2,e4,e5,List.nil_append]
     rw[this];exact hk s .normal _ _ (hq _ _ _ h2 hcut hch)
   . have h1':fr.mode=.returning:=h1;have h2':fr.fn=b.fn:=h2;have:sfx k a.defers b.kind fr={b.at ⟨fr.tmps,a.defers⟩ (fr.todo++k)with mode:=.returning}:=by
      simp only[sfx,Frame.at,h1',h2']
     rw[this];exact hk s .ret _ _ (hr _ _ _ h3 hcut hch) _
end
def dstOf(ops:Array Oper)(i:Nat):Option Tmp:=(ops[i]?).bind (·.dst)
def tmpOf:Operand->Option Tmp
 |.tmp t=>some t
 |_=>none
def waits(ops:Array Oper)(j i:Nat):Bool:=match ops[j]? with
 |some o=>o.after.any λe=>Region.binds .any e&&e.on==i
 |none=>false
def drawOk(P:Program)(ops:Array Oper)(l n:Nat):Bool:=
 ops.size==l+1&&
 (List.range l).all (λi=>match ops[i]? with
  |some o=>zq1j P o.op&&o.guard.isNone&&(match o.dst with|some d=>decide (d<n)|none=>false)
  |none=>false)&&
 (List.range l).all (λi=>(List.range i).all λj=>dstOf ops i !=dstOf ops j)&&
 (List.range (l+1)).all (λi=>match ops[i]? with
  |some o=>o.after.all (λe=>!Region.binds .any e || decide (e.on<i))&&
   o.op.operands.all (λx=>match tmpOf x with
    |some t=>(List.range l).all λj=>dstOf ops j !=some t || waits ops i j
    |none=>true)
  |none=>false)&&
 (List.range l).all (λi=>(List.range (l+1)).any λj=>decide (i<j)&&waits ops j i)
def putv(ops:Array Oper):List Value->Nat->Array Value->Array Value
 |[],_,t=>t
 |v::vs,i,t=>putv ops vs (i+1) (match dstOf ops i with|some d=>t.setIfInBounds d v|none=>t)
def evals(P:Program)(ops:Array Oper)(T:Array Value)(w:World):List Value->Nat->Prop
 |[],_=>True
 |v::vs,i=>(∀o,ops[i]?=some o->(execOp (Act.mk T []).eval o).run P w=.ok (.value v) w)/\evals P ops T w vs (i+1)
section
variable {P:Program} {ops:Array Oper}
theorem zq3l(vs:List Value):∀i t,(putv ops vs i t).size=t.size:=by
 induction vs with
 |nil=>intro i t;rfl
 |cons v vs ih=>intro i t;simp only[putv];rw[ih];split<;>simp
theorem zq1p(vs:List Value):∀i(t:Array Value)x,(∀j,i<=j->j<i+vs.length->dstOf ops j≠some x)->(putv ops vs i t)[x]?=t[x]?:=by
 induction vs with
 |nil=>intro i t x _;rfl
 |cons v vs ih=>
  intro i t x h;simp only[putv];rw[ih (i+1) _ x (λj h1 h2=>h j zyo zx44)];have:=h i (Nat.le_refl _) zx2n;split
  . rename_i d hd;rw[al_gn (λe=>this (by rw[hd,e]))]
  . rfl
theorem zq23(vs:List Value):∀i(t:Array Value)j v x,vs[j]?=some v->dstOf ops (i+j)=some x->x<t.size->(∀m,i+j<m->m<i+vs.length->dstOf ops m≠some x)->(putv ops vs i t)[x]?=some v:=by
 induction vs with
 |nil=>intro i t j v x h;cases h
 |cons u vs ih=>
  intro i t j v x hv hx hlt hlater;cases j with
  |zero=>
   simp only[al_g0,al_oi]at hv;subst hv;simp only[Nat.add_zero]at hx hlater;simp only[putv,hx];rw[zq1p vs (i+1) _ x (λm h1 h2=>hlater m zyo zx44)];simp[hlt]
  |succ j=>
   simp only[putv];refine ih (i+1) _ j v x (by simpa using hv) (by rw[show i+1+j=i+(j+1)by omega];exact hx) ?_ (λm h1 h2=>hlater m zyo zx44);split<;>simp[hlt]
theorem evals_at{T:Array Value}{w:World}(vs:List Value):∀i j v o,evals P ops T w vs i->vs[j]?=some v->ops[i+j]?=some o->(execOp (Act.mk T []).eval o).run P w=.ok (.value v) w:=by
 induction vs with
 |nil=>intro i j v o _ h;cases h
 |cons u vs ih=>
  intro i j v o h hv ho;cases j with
  |zero=>
   simp only[al_g0,al_oi]at hv;subst hv;exact h.1 o ho
  |succ j=>exact ih (i+1) j v o h.2 (by simpa using hv) (by rw[show i+1+j=i+(j+1)by omega];exact ho)
def left(listed:Array Bool):Nat:=(listed.toList.filter (! ·)).length
theorem zq8t:∀(l:List Bool)(i:Nat),l[i]?=some false->((l.set i true).filter (! ·)).length+1=(l.filter (! ·)).length
 |[],_,h=>by cases h
 |x::l,0,h=>by
  simp only[al_g0,al_oi]at h;subst h;simp
 |x::l,i+1,h=>by
  have:=zq8t l i zx3y;cases x<;>simp[List.filter_cons]<;>omega
theorem zq1m{listed:Array Bool}{i:Nat}(h:listed.getD i true=false):i<listed.size:=by
 rcases Nat.lt_or_ge i listed.size with h'|h'
 . exact h'
 . simp[Array.getElem?_eq_none h']at h
theorem zq3f{listed:Array Bool}{i:Nat}(h:listed.getD i true=false):left (listed.setIfInBounds i true)+1=left listed:=by
 unfold left;have hlt:=zq1m h;have hv:listed.toList[i]?=some false:=by
  simp[hlt]at h |-;exact h
 rw[Array.toList_setIfInBounds];exact zq8t _ _ hv
theorem zq4l{listed:Array Bool}{i:Nat}(h:listed.getD i true=false):0<left listed:=by
 have:=zq3f h;omega
theorem waits_iff{j i:Nat}:waits ops j i=true↔∃o,ops[j]?=some o/\∃e∈o.after,Region.binds .any e=true/\e.on=i:=by
 unfold waits;cases ops[j]? with
 |none=>simp
 |some o=>
  simp only[al_oi,exists_eq_left',Array.any_eq_true];constructor
  . rintro⟨m,hm,h⟩;simp only[Bool.and_eq_true,beq_iff_eq]at h;exact⟨_,Array.getElem_mem hm,h.1,h.2⟩
  . rintro⟨e,he,h1,h2⟩;obtain⟨m,hm,rfl⟩:=Array.mem_iff_getElem.1 he;exact⟨m,hm,by simp[h1,h2]⟩
structure DrawOk(P:Program)(ops:Array Oper)(l n:Nat):Prop where
 size:ops.size=l+1
 reads:∀i,i<l->∃o d,ops[i]?=some o/\zq1j P o.op=true/\o.guard=none/\o.dst=some d/\d<n
 apart:∀i j,i<l->j<i->dstOf ops i≠dstOf ops j
 back:∀i o e,i<l+1->ops[i]?=some o->e∈o.after->Region.binds .any e=true->e.on<i
 looks:∀i o x t j,i<l+1->ops[i]?=some o->x∈o.op.operands->tmpOf x=some t->j<l->dstOf ops j=some t->waits ops i j=true
 leads:∀i,i<l->∃j,j<l+1/\i<j/\waits ops j i=true
theorem zqdw{l n:Nat}(h:drawOk P ops l n=true):DrawOk P ops l n:=by
 unfold drawOk at h;simp only[Bool.and_eq_true,beq_iff_eq,List.all_eq_true,List.mem_range,List.any_eq_true,decide_eq_true_eq]at h;obtain⟨⟨⟨⟨h1,h2⟩,h3⟩,h4⟩,h5⟩:=h;refine⟨h1,λi hi=>?_,λi j hi hj=>by have:=h3 i hi j hj;simpa using this,λi o e hi ho he hb=>?_,λi o x t j hi ho hx ht hj hd=>?_,λi hi=>?_⟩
 . have:=h2 i hi;cases ho:ops[i]? with
   |none=>rw[ho]at this;cases this
   |some o=>
    rw[ho]at this;simp only[Bool.and_eq_true,Option.isNone_iff_eq_none]at this;obtain⟨⟨a1,a2⟩,a3⟩:=this;cases hd:o.dst with
    |none=>rw[hd]at a3;cases a3
    |some d=>rw[hd]at a3;exact⟨o,d,rfl,a1,a2,hd,by simpa using a3⟩
 . exact zx23
 . have:=h4 i hi;rw[ho]at this;simp only[Bool.and_eq_true,Array.all_eq_true_iff_forall_mem]at this;have:=this.2 x hx;rw[ht]at this;simp only[List.all_eq_true,List.mem_range]at this;have:=this j hj;simpa[hd]using this
 . obtain⟨j,hj,h⟩:=h5 i hi;exact⟨j,hj,h.1,h.2⟩
structure Agree(ops:Array Oper)(l:Nat)(T a₀:Array Value)(listed:Array Bool)(tm:Array Value):Prop where
 size:tm.size=T.size
 on:∀i t,i<l->listed.getD i false=true->dstOf ops i=some t->tm[t]?=T[t]?
 off:∀t,(∀i,i<l->listed.getD i false=true->dstOf ops i≠some t)->tm[t]?=a₀[t]?
theorem zq59{ρ ρ':Array Value}{ds ds':List Deferred}{x:Operand}(h:∀t,tmpOf x=some t->ρ[t]?=ρ'[t]?):(Act.mk ρ ds).eval x=(Act.mk ρ' ds').eval x:=by
 cases x with
 |tmp t=>
  have:=h t rfl;simp[Act.eval,Frame.eval,al_gd,this]
 |_=>rfl
end
section
variable {P:Program} {main:Bool} {Kc:Addr->Option Value} {γ:Type} {J:γ->Goroutine->World->Prop}
theorem draw_go(hJ:JS P main Kc J){b:Frame}{k:List Item}{cs:List Frame}(hb:b.kind≠.early){ops:Array Oper}{l n:Nat}(hok:DrawOk P ops l n){T a₀:Array Value}{ds:List Deferred}{s:γ}{w:World}(hT:T.size=n)
 (hout:∀t,(∀i,i<l->dstOf ops i≠some t)->T[t]?=a₀[t]?)
 (hval:∀i o,i<l->ops[i]?=some o->∃v d,o.dst=some d/\T[d]?=some v/\∀τ dd,(execOp (Act.mk T []).eval o).run P (re w τ dd)=.ok (.value v) (re w τ dd))
 (hlast:J s (G (b.at ⟨T,ds⟩ (.inRegion ops [l]::k)) cs) w):
 ∀(fuel t:Nat)(listed:Array Bool)(tm:Array Value),listed.size=l+1->left listed<=fuel->listed.getD l true=false->
  (∀i o e,i<l+1->ops[i]?=some o->listed.getD i false=true->e∈o.after->Region.binds .any e=true->listed.getD e.on false=true)->Agree ops l T a₀ listed tm->
  J s (G (b.at ⟨tm,ds⟩ (.inRegion ops (Region.linearise.go .any ops fuel t listed [])::k)) cs) w:=by
 intro fuel
 induction fuel with
 |zero=>intro t listed tm hsz hl hlast' _ _;have:=zq4l hlast';omega
 |succ fuel ih=>
  intro t listed tm hsz hl hlast' hclosed hag;simp only[Region.linearise.go];change J s (G (b.at ⟨tm,ds⟩ (.inRegion ops (match (Region.ready .any ops listed)[t % (Region.ready .any ops listed).length]? with
   |some i=>Region.linearise.go .any ops fuel (t / (Region.ready .any ops listed).length) (listed.setIfInBounds i true) [i]
   |none=>[].reverse)::k)) cs) w
  have hready:∃i,i∈Region.ready .any ops listed:=by
   have:∀m i,m=i->listed.getD i true=false->∃j,j∈Region.ready .any ops listed:=by
    intro m
    induction m using Nat.strongRecOn with
    |_ m ihm=>
     intro i hi hun;subst hi;have hlt:m<l+1:=by have:=zq1m hun;omega
     have hops:m<ops.size:=by rw[hok.size];exact hlt
     by_cases hall:∀e∈(ops[m]'hops).after,Region.binds .any e=true->listed.getD e.on false=true
     . exact zx18
     . obtain⟨e,he⟩:=Classical.not_forall.1 hall;obtain⟨h1,he⟩:=Classical.not_imp.1 he;obtain⟨h2,he⟩:=Classical.not_imp.1 he;have hlt':=hok.back m _ e hlt (Array.getElem?_eq_getElem hops) h1 h2;refine ihm e.on hlt' e.on rfl ?_;have:e.on<listed.size:=by omega
       simp[this]at he |-;exact he
   exact this l l rfl hlast'
  cases hi:(Region.ready .any ops listed)[t % (Region.ready .any ops listed).length]? with
  |none=>
   exfalso;obtain⟨i,hi'⟩:=hready;have hpos:0<(Region.ready .any ops listed).length:=List.length_pos_of_mem hi';have hlt:=Nat.mod_lt t hpos;rw[List.getElem?_eq_none_iff]at hi;omega
  |some i=>
   have hmem:=List.mem_of_getElem? hi;obtain⟨hun,o,ho,hall⟩:=mem_ready.1 hmem;have hilt:i<l+1:=by have:=zq1m hun;omega
   simp only[];rw[linearise_go_acc,List.reverse_singleton,List.singleton_append]
   by_cases hil:i=l
   ·
    subst hil;have hall':∀m j,i - j=m->j<i->listed.getD j false=true:=by
     intro m
     induction m using Nat.strongRecOn with
     |_ m ihm=>
      intro j hm hj;obtain⟨q,hq1,hq2,hq3⟩:=hok.leads j hj;obtain⟨oq,hoq,e,he1,he2,he3⟩:=waits_iff.1 hq3;subst he3
      by_cases hqi:q=i
      . subst hqi;rw[ho]at hoq;obtain rfl:=Option.some.inj hoq;exact hall e he1 he2
      . have:=ihm (i - q) zyo q rfl zyo;exact hclosed q oq e hq1 hoq this he1 he2
    have hnil:Region.linearise.go .any ops fuel (t / (Region.ready .any ops listed).length) (listed.setIfInBounds i true) []=[]:=by
     cases fuel with
     |zero=>rfl
     |succ fuel=>
      simp only[Region.linearise.go];have hr:Region.ready .any ops (listed.setIfInBounds i true)=[]:=by
       refine List.eq_nil_iff_forall_not_mem.2 λj hj=>?_;obtain⟨hju,_⟩:=mem_ready.1 hj;have hjlt:=zq1m hju;simp at hjlt
       by_cases hji:i=j
       . subst hji;simp[hjlt]at hju
       . rw[getD_set_ne true hji]at hju;have:=hall' _ j rfl zyo;simp[hjlt]at hju this;rw[hju]at this;cases this
      have e1:((List.range ops.size).filter λi_1=>!(listed.setIfInBounds i true).getD i_1 true&&((ops[i_1]?).map (·.after.all λe=>!Region.binds .any e || (listed.setIfInBounds i true).getD e.on false)).getD false)=[]:=hr;rw[e1];rfl
    rw[hnil];have htm:tm=T:=by
     apply Array.ext_getElem?;intro x
     by_cases hx:∃j,j<i/\dstOf ops j=some x
     . obtain⟨j,hj,hd⟩:=hx;exact hag.on j x hj (hall' _ j rfl hj) hd
     . rw[hag.off x (λj hj _ hd=>hx ⟨j,hj,hd⟩),hout x λj hj hd=>hx ⟨j,hj,hd⟩]
    rw[htm];exact hlast
   . have hi':i<l:=by omega
     obtain⟨o',d,ho',hread,hguard,hdst,hdn⟩:=hok.reads i hi';rw[ho]at ho';obtain rfl:=Option.some.inj ho';obtain⟨v,d',hd',hTv,hrun⟩:=hval i o hi' ho;rw[hdst]at hd';obtain rfl:=Option.some.inj hd';have hdi:dstOf ops i=some d:=by unfold dstOf;rw[ho];exact hdst
     have hex:execOp (Act.mk tm ds).eval o=execOp (Act.mk T []).eval o:=by
      refine execOp_congr o (λcs b h=>by rw[h]at hread;cases hread) λx hx=>zq59 λt ht=>?_
      by_cases hxt:∃j,j<l/\dstOf ops j=some t
      . obtain⟨j,hj,hd⟩:=hxt;obtain⟨oi,hoi,e,he1,he2,he3⟩:=waits_iff.1 (hok.looks i o x t j hilt ho hx ht hj hd);rw[ho]at hoi;obtain rfl:=Option.some.inj hoi;subst he3;exact hag.on e.on t hj (hall e he1 he2) hd
      . rw[hag.off t (λj hj _ hd=>hxt ⟨j,hj,hd⟩),hout t λj hj hd=>hxt ⟨j,hj,hd⟩]
     have hw:Region.wanted o (yielded ops (Act.mk tm ds).tmps)=true:=by simp[Region.wanted,hguard]
     refine zq22 hb hJ ho hw λτ dd=>?_;rw[hex];obtain⟨h1,h2⟩:=zq3d (Kc:=Kc) (zq3w o hread (Act.mk T []).eval) (re w τ dd);refine⟨h1,h2,?_⟩;rw[hrun];show J s (G (b.at (Act.put ⟨tm,ds⟩ o.dst v) _) cs) (re w τ dd);rw[hdst];refine hJ.re' _ _ _ _ _ ?_;show J s (G (b.at ⟨tm.setIfInBounds d v,ds⟩ _) cs) w;have hld:left (listed.setIfInBounds i true)+1=left listed:=zq3f hun;refine ih _ _ _ zx3z zyo (by rw[getD_set_ne true hil];exact hlast') ?_ ?_
     . intro j oj e hj hoj hlj he hbe;refine getD_set_true ?_
       by_cases hji:i=j
       . subst hji;rw[ho]at hoj;obtain rfl:=Option.some.inj hoj;exact hall e he hbe
       . rw[getD_set_ne false hji]at hlj;exact hclosed j oj e hj hoj hlj he hbe
     . refine⟨by simpa using hag.size,λj t hj hlj hd=>?_,λt ht=>?_⟩
       . by_cases htd:d=t
         . subst htd;have:d<tm.size:=by rw[hag.size,hT];exact hdn
           simp[this,hTv]
         . exact zx1x
       . have htd:d≠t:=by
          intro e;subst e;refine ht i hi' ?_ hdi;have:=zq1m hun;simp[this]
         rw[al_gn htd];refine hag.off t λj hj hlj=>?_;exact ht j hj (getD_set_true hlj)
theorem zq53(hJ:JS P main Kc J){b:Frame}{k:List Item}{cs:List Frame}(hb:b.kind≠.early)(hm:P.follows .mixedOrders=true){id:Nat}{ops:Array Oper}{a:Act}{s:γ}{w:World}(vs:List Value)
 (hok:drawOk P ops vs.length a.tmps.size=true) (hval:∀τ d,evals P ops (putv ops vs 0 a.tmps) (re w τ d) vs 0)
 (hlast:J s (G (b.at ⟨putv ops vs 0 a.tmps,a.defers⟩ (.inRegion ops [vs.length]::k)) cs) w):J s (G (b.at a (.code (.region id ops true)::k)) cs) w:=by
 have hk:=zqdw hok;refine hJ.step _ _ _ rfl λτ d=>⟨_,_,#[],stepG_region_draw,?_,by simp,?_⟩
 . exact OkD.refl _ _ _
 . refine hJ.re' s _ w τ (d+1) ?_;simp only[Region.schedule,hm,Bool.true_or,if_true,Region.linearise];refine draw_go hJ hb hk (a₀:=a.tmps) (T:=putv ops vs 0 a.tmps) (zq3l vs 0 _) (λt h=>zq1p vs 0 _ t (λj _ hj=>h j zyo)) ?_ hlast _ _ _ _ (by simp[hk.size]) ?_ (by simp[hk.size]) ?_ ?_
   . intro i o hi ho;obtain⟨o',dd,ho',_,_,hd,hdn⟩:=hk.reads i hi;rw[ho]at ho';obtain rfl:=Option.some.inj ho';have hv:vs[i]?=some vs[i]:=List.getElem?_eq_getElem hi;have hdi:dstOf ops (0+i)=some dd:=by unfold dstOf;rw[Nat.zero_add,ho];exact hd
     refine⟨vs[i],dd,hd,zq23 vs 0 _ i _ dd hv hdi hdn (λm h1 h2 e=>?_),λτ d'=>evals_at vs 0 i _ o (hval τ d') hv (by rw[Nat.zero_add];exact ho)⟩;have:=hk.apart m i zyo zyo;rw[Nat.zero_add]at hdi;exact this (by rw[e,hdi])
   . unfold left;have:((Array.replicate ops.size false).toList.filter (! ·)).length<=(Array.replicate ops.size false).toList.length:=List.length_filter_le _ _;simpa using this
   . intro i o e hi ho hl;have:i<ops.size:=by rw[hk.size];exact hi
     simp[this]at hl
   . refine⟨(zq3l vs 0 _).symm,λi t hi hl=>?_,λt _=>rfl⟩;have:i<ops.size:=by rw[hk.size];omega
     simp[this]at hl
end
section
variable {P:Program} {main:Bool} {Kc:Addr->Option Value} {γ:Type} {J:γ->Goroutine->World->Prop}
theorem zq2y{b:Frame}{k:List Item}{cs:List Frame}(hb:b.kind≠.early)(hJ:JS P main Kc J){ops:Array Oper}{i:Nat}{rest:List Nat}{o:Oper}{s:γ}{a:Act}{w:World}{t:TypeId}{pa pv:Operand}{ad:Addr}
 (ho:ops[i]?=some o) (hop:o.op=.store t pa pv) (ha:a.eval pa=.pointer (some ad)) (hK:∀j,j<(a.eval pv).cells.size->Kc (ad.add j)=none) (hbk:∃c e f,w.heap[ad.block]?=some (.cells c e f))
 (h:∀τ d,wpList P ops (zqi J ops rest b k cs s) [o] a (re w τ d)):J s (G (b.at a (.inRegion ops (i::rest)::k)) cs) w:=by
 have hok:okOp P (λ_=>false) o.op=true:=by rw[hop];rfl
 refine at_one hb (l:=[]) hJ (zqu P) ho hok (λ_ τ d=>zqdx hop ha hK hbk) (zqi J ops rest b k cs s .normal) (λa w τ τ' d d' hτ h=>zq86 hJ _ _ _ _ _ _ _ h) (λa w h=>h w.tape w.drawn) (zqi J ops rest b k cs s) (λch a w h=>h w.tape w.drawn) λτ d=>?_;have:=h τ d;simp only[wpList]at this;split at this
 . rename_i hw;rw[if_pos hw];exact this.elim id (λ⟨_,a,w,h⟩=>h.elim)
 . rename_i hw;rw[if_neg hw];exact this
theorem zq5a{ad:Addr}(h:∀y:Addr,y.block=ad.block->Kc y=none)(j:Nat):Kc (ad.add j)=none:=h _ (zq7r ad j)
theorem zq5b{ad:Addr}(h:Kc ad=none){j:Nat}(hj:j<1):Kc (ad.add j)=none:=by
 obtain rfl:j=0:=by omega
 exact h
theorem zq21{b:Frame}{k:List Item}{cs:List Frame}(hb:b.kind≠.early)(hJ:JS P main Kc J){ops:Array Oper}{i:Nat}{rest:List Nat}{o:Oper}{s:γ}{a:Act}{w:World}{f:FuncId}{args:Array Value}
 (ho:ops[i]?=some o) (hw:Region.wanted o (yielded ops a.tmps)=true) (hr:∀τ d,(execOp a.eval o).run P (re w τ d)=.ok (.enter f args) (re w τ d)) (hev:∀τ d,∀e∈((execOp a.eval o).runT P (re w τ d) #[]).2,EvOk Kc e)
 (h:J s (G (Frame.enter P f args .normal) (b.at a (.inRegion ops (i::rest)::k)::cs)) w):J s (G (b.at a (.inRegion ops (i::rest)::k)) cs) w:=by
 refine hJ.step _ _ _ rfl λτ d=>?_;have hkb:(b.kind==CallKind.early)=false:=by simpa using hb
 have hke:((b.at a (.inRegion ops (i::rest)::k)).kind==CallKind.early)=false:=hkb;have h1:((execOp a.eval o).runT P (re w τ d) #[]).1=.ok (.enter f args) (re w τ d):=by rw[Sem.runT_eq];exact hr τ d
 have h2:=hev τ d;rw[stepG_oper ho hw,stepG.apply];simp only[if_true];generalize (execOp a.eval o).runT P (re w τ d) #[]=r at h1 h2;obtain⟨r,es⟩:=r;simp only at h1;subst h1;refine⟨_,_,seen P b.fn es,by simp only[hke,Bool.false_eq_true,if_false,GStep.after,Array.append_empty];rfl,OkD.refl _ _ _,λe he=>h2 e (mem_seen he),hJ.re' _ _ _ _ _ h⟩
theorem at_defer{b:Frame}{k:List Item}{cs:List Frame}(hb:b.kind≠.early)(hJ:JS P main Kc J){ops:Array Oper}{i:Nat}{rest:List Nat}{o:Oper}{s:γ}{a:Act}{w:World}{d:Deferred}
 (ho:ops[i]?=some o) (hw:Region.wanted o (yielded ops a.tmps)=true) (hr:∀w,(execOp a.eval o).run P w=.ok (.defer d) w) (he:∀w,(execOp a.eval o).events P w #[]=#[])
 (h:J s (G (b.at (({a with defers:=d::a.defers}:Act).put o.dst undef) (.inRegion ops rest::k)) cs) w):J s (G (b.at a (.inRegion ops (i::rest)::k)) cs) w:=by
 refine zq22 hb hJ ho hw λτ dd=>⟨?_,?_,?_⟩
 . rw[Sem.runT_eq,he];simp
 . rw[hr];exact OkD.refl _ _ _
 . rw[hr];exact hJ.re' _ _ _ τ dd h
def botF(P:Program):Frame:={(default:Frame)with fn:=P.funcs.size,defers:=[],mode:=.panicking [goexitEntry]}
end
theorem zq6(w:World)(o:Obj)(b:Nat):(w.alloc o).heap[b]?=if b=w.heap.size then some o else w.heap[b]?:=by
 show(w.heap.push o)[b]?=_;rw[Array.getElem?_push]
theorem zq4(w:World)(o:Obj):(w.alloc o).heap.size=w.heap.size+1:=by
 show(w.heap.push o).size=_;simp
theorem zqf(w:World)(a:Addr)(v:Value):(w.setCell a v).heap.size=w.heap.size:=by
 show(w.heap.modify _ _).size=_;simp
theorem zq8(w:World)(a:Addr)(v:Value)(b:Nat)(h:b≠a.block):(w.setCell a v).heap[b]?=w.heap[b]?:=by
 show(w.heap.modify _ _)[b]?=_;rw[Array.getElem?_modify,if_neg (λe=>h e.symm)]
theorem zqa(w:World)(b off:Nat)(v:Value){c:Array Value}{e:TypeId}{f:Nat×Nat}(h:w.heap[b]?=some (.cells c e f)):(w.setCell ⟨b,off,none⟩ v).heap[b]?=some (.cells (c.setIfInBounds off v) e f):=by
 show(w.heap.modify _ _)[b]?=_;rw[Array.getElem?_modify,if_pos rfl,h];rfl
theorem zq0{w:World}{b off:Nat}{c:Array Value}{e:TypeId}{f:Nat×Nat}(h:w.heap[b]?=some (.cells c e f)):w.cell? ⟨b,off,none⟩=c[off]?:=by
 simp[World.cell?,h]
theorem zq3{w:World}{b off:Nat}{c:Array Value}{e:TypeId}(h:w.heap[b]?=some (.cells c e)):w.frozen? ⟨b,off,none⟩=false:=by
 simp[World.frozen?,h]
theorem zqy{w w':World}{a:Addr}(h:w'.heap[a.block]?=w.heap[a.block]?):w'.cell? a=w.cell? a:=by
 simp[World.cell?,h]
theorem zq6h{w w':World}{a:Addr}(h:w'.heap[a.block]?=w.heap[a.block]?):w'.frozen? a=w.frozen? a:=by
 simp[World.frozen?,h]
theorem zqb{w:World}{b:Nat}{o:Obj}(h:w.heap[b]?=some o):b<w.heap.size:=(Array.getElem?_eq_some_iff.1 h).1
theorem zq4h(w:World)(c cap:Nat)(buf:Array Value)(cl:Bool)(s r:Nat)(tm:Bool)(b:Nat)(h:b≠c):(w.setChan c cap buf cl s r tm).heap[b]?=w.heap[b]?:=by
 show(w.heap.setIfInBounds _ _)[b]?=_;rw[al_gn (λe=>h e.symm)]
theorem size_setChan(w:World)(c cap:Nat)(buf:Array Value)(cl:Bool)(s r:Nat)(tm:Bool):(w.setChan c cap buf cl s r tm).heap.size=w.heap.size:=by
 show(w.heap.setIfInBounds _ _).size=_;simp
section
variable {P:Program} {main:Bool} {Kc:Addr->Option Value} {γ:Type} {J:γ->Goroutine->World->Prop}
theorem zqd2{b:Frame}{k:List Item}{c:Frame}{cs:List Frame}(hb:b.kind=.deferred)(hc:c.mode=.returning)(hJ:JS P main Kc J){ops:Array Oper}{i:Nat}{rest:List Nat}{o:Oper}{s:γ}{a:Act}{w:World}
 (ho:ops[i]?=some o) (hw:Region.wanted o (yielded ops a.tmps)=true) (hr:∀w,(execOp a.eval o).run P w=.ok .recover w) (he:∀w,(execOp a.eval o).events P w #[]=#[])
 (h:J s (G (b.at (a.put o.dst .nilIface) (.inRegion ops rest::k)) (c::cs)) w):J s (G (b.at a (.inRegion ops (i::rest)::k)) (c::cs)) w:=by
 have hfin:∀v,(b.at a (.inRegion ops (i::rest)::k)).finish v=b.at (a.put o.dst v) (.inRegion ops rest::k):=λv=>by rw[Frame.finish_at,ho];rfl
 refine hJ.step _ _ _ rfl λτ d=>⟨G (b.at (a.put o.dst .nilIface) (.inRegion ops rest::k)) (c::cs),re w τ d,#[],?_,OkD.refl _ _ _,by simp,hJ.re' _ _ _ τ d h⟩;rw[stepG_oper ho hw,<-hfin];simp[stepG.apply,hr,he,G,Frame.at,hb,GStep.after,seen_none,tryRecover,hc,Sem.runT_eq]
theorem zqd3{b:Frame}{k:List Item}{c:Frame}{cs:List Frame}{v:Value}{older:List PanicEntry}(hb:b.kind=.deferred)(hc:c.mode=.panicking ({v,recovered:=false}::older))(hJ:JS P main Kc J){ops:Array Oper}{i:Nat}{rest:List Nat}{o:Oper}{s:γ}{a:Act}{w:World}
 (ho:ops[i]?=some o) (hw:Region.wanted o (yielded ops a.tmps)=true) (hr:∀w,(execOp a.eval o).run P w=.ok .recover w) (he:∀w,(execOp a.eval o).events P w #[]=#[])
 (h:J s (G (b.at (a.put o.dst v) (.inRegion ops rest::k)) ({c with mode:=.panicking ({v,recovered:=true}::older)}::cs)) w):J s (G (b.at a (.inRegion ops (i::rest)::k)) (c::cs)) w:=by
 have hfin:∀v,(b.at a (.inRegion ops (i::rest)::k)).finish v=b.at (a.put o.dst v) (.inRegion ops rest::k):=λv=>by rw[Frame.finish_at,ho];rfl
 refine hJ.step _ _ _ rfl λτ d=>⟨G (b.at (a.put o.dst v) (.inRegion ops rest::k)) ({c with mode:=.panicking ({v,recovered:=true}::older)}::cs),re w τ d,#[],?_,OkD.refl _ _ _,by simp,hJ.re' _ _ _ τ d h⟩;rw[stepG_oper ho hw,<-hfin];simp[stepG.apply,hr,he,G,Frame.at,hb,GStep.after,seen_none,tryRecover,hc,Sem.runT_eq]
theorem zqd4{b:Frame}{a:Act}{todo:List Item}{cs:List Frame}{md:FrameMode}{f:FuncId}{fn:Func}{c:Code}{args caps:Array Value}{ds:List Deferred}{s:γ}{w:World}(hJ:JS P main Kc J)
 (hm:md=.returning\/∃ch,md=.panicking ch) (hd:a.defers={target:=.fn (.func f) caps,args:=args}::ds) (hf:P.funcs[f]?=some fn) (hn:(fn.name== "runtime.NumGoroutine")=false) (hb:fn.body=some c)
 (h:J s (G ((baseD f).at (zqe fn (args++caps)) [.code c]) ({b.at ⟨a.tmps,ds⟩ todo with mode:=md}::cs)) w):J s (G {b.at a todo with mode:=md} cs) w:=by
 have hn':¬fn.name= "runtime.NumGoroutine" :=by simpa using hn
 have e:(baseD f).at (zqe fn (args++caps)) [.code c]=Frame.enter P f (args++caps) .deferred:=(enter_atD _ hf hb).symm;rw[e]at h;refine hJ.step _ _ _ rfl λτ d=>⟨_,re w τ d,#[],?_,OkD.refl _ _ _,by simp,hJ.re' _ _ _ τ d h⟩;rcases hm with rfl |⟨ch,rfl⟩<;>simp[G,stepG,unwind,callDeferred,Frame.at,hd,invoke,callFunc,hf,hn',hb,GStep.after,seen_none,Sem.runT_eq]
end
section
variable {P:Program}
theorem zq8o{Fin:Machine->Trace->Prop}{Kc Kc':Addr->Option Value}{Inb:Nat->Option Seat}{n:Nat}{g:Goroutine}{w:World}(hI:∀i,i≠0->Inb i=none)(hK:KK Kc' w)
 (h:HoldR P Fin Kc' (λ_=>none) 0 n g w):HoldR P Fin Kc Inb 0 n g w:=by
 intro τ d Mem B gs sl T q hM hsz hg C;obtain⟨hL,hP⟩:=ring_end C hM hI;exact h τ d (λg=>g=0) B gs sl T q rfl hsz hg (ring_begin (Still:=zq2o Kc') (λl(hl:zq2o Kc' l)=>by obtain⟨a,v,rfl,_⟩:=hl;rfl) hL hP hK)
theorem zq7o(w:World):KK (λ_=>none) w:=λa v h=>by cases h
structure Mc where
 n:Nat
 inb:Nat->Option Seat
def JMain(P:Program)(Fin:Machine->Trace->Prop)(Kc:Addr->Option Value)(s:Mc)(g:Goroutine)(w:World):Prop:=HoldR P Fin Kc s.inb 0 s.n g w
def J0(P:Program)(Fin:Machine->Trace->Prop)(n:Nat)(g:Goroutine)(w:World):Prop:=HoldR P Fin (λ_=>none) (λ_=>none) 0 n g w
theorem j0_JS{Fin:Machine->Trace->Prop}(hFin:Back P Fin):JS P true (λ_=>none) (J0 P Fin):=
 ⟨λs g w τ d h=>(zq3y hFin _ (λ_=>none) 0 s).re' () g w τ d h,λs g w hr hs=>(zq3y hFin _ (λ_=>none) 0 s).step () g w hr hs⟩
theorem zq1d{Fin:Machine->Trace->Prop}(hFin:Back P Fin):CalmJ P true (J0 P Fin):=
 λs fr cs w hs=>zqec hFin (Inb:=λ_=>none) (λ_=>rfl) 0 s () fr cs w hs
theorem zqem{Fin:Machine->Trace->Prop}{Kc:Addr->Option Value}{n:Nat}{g:Goroutine}{w:World}(hK:KK Kc w)(h:JMain P Fin Kc ⟨n,λ_=>none⟩ g w):J0 P Fin n g w:=zq8o (λ_ _=>rfl) hK h
theorem zqey{Fin:Machine->Trace->Prop}{Kc:Addr->Option Value}{s:Mc}{g:Goroutine}{w:World}(hI:∀i,i≠0->s.inb i=none)(h:J0 P Fin s.n g w):JMain P Fin Kc s g w:=zq8o hI (zq7o w) h
end
inductive Out(M:Type)where
 |yield (m:M)
 |done (m:M)
 |broke (m:M)
def Out.mem {M:Type}:Out M->M
 |.yield m=>m
 |.done m=>m
 |.broke m=>m
structure Thr(M:Type)where
 foot:M->Nat->Prop
 Rep:M->World->Prop
 Start:Nat->M->Out M->Prop
 Go:Nat->M->Out M->Prop
 Kill:Nat->M->M->Prop
 Same:Nat->M->M->Prop
 left:M->Nat
 frame:∀m w w',Rep m w->(∀b,foot m b->w'.heap[b]?=w.heap[b]?)->Rep m w'
 lt:∀m w b,Rep m w->foot m b->b<w.heap.size
 refl:∀i m,Same i m m
 trans:∀i m m' m'',Same i m m'->Same i m' m''->Same i m m''
 start_same:∀i j m o,i≠j->Start j m o->Same i m o.mem
 go_same:∀i j m o,i≠j->Go j m o->Same i m o.mem
 kill_same:∀i j m m',i≠j->Kill j m m'->Same i m m'
structure Grow{M:Type}(T:Thr M)(m:M)(w:World)(m':M)(w':World):Prop where
 size:w.heap.size<=w'.heap.size
 old:∀b,b<w.heap.size->¬T.foot m b->w'.heap[b]?=w.heap[b]?
 grow:∀b,T.foot m' b->T.foot m b\/w.heap.size<=b
structure Env(P:Program){M:Type}(T:Thr M)(Kc:Addr->Option Value)(X:Snap)(J:Goroutine->World->Prop)(m:M)(w:World):Prop where
 js:JX P Kc J
 calm:CalmX P false X (λ(_:Unit)=>J)
 rows:Rows X w
 kept:∀a v,Kc a=some v->∃c e,X a.block=some (c,e)
 free:∀b x,X b=some x->¬T.foot m b
section
variable {M:Type}
theorem Grow.trans {T:Thr M}{m m' m'':M}{w w' w'':World}(h:Grow T m w m' w')(k:Grow T m' w' m'' w''):Grow T m w m'' w'':=
 ⟨Nat.le_trans h.size k.size,λb hb hf=>(k.old b (Nat.lt_of_lt_of_le hb h.size) λhf'=>(h.grow b hf').elim hf (λx=>absurd hb (Nat.not_lt_of_le x))).trans (h.old b hb hf),
  λb hb=>(k.grow b hb).elim (h.grow b) (λx=>.inr (Nat.le_trans h.size x))⟩
theorem Env.grow {P:Program}{T:Thr M}{Kc:Addr->Option Value}{X:Snap}{J:Goroutine->World->Prop}{m m':M}{w w':World}(h:Env P T Kc X J m w)(hf:Grow T m w m' w'):Env P T Kc X J m' w':=by
 have lt:∀b x,X b=some x->b<w.heap.size:=λb x hx=>by obtain⟨c,e⟩:=x;exact(Array.getElem?_eq_some_iff.1 (h.rows b c e hx)).1
 refine⟨h.js,h.calm,λb c e hb=>?_,h.kept,λb x hb hf'=>?_⟩
 . rw[hf.old b (lt b _ hb) (h.free b _ hb)];exact h.rows b c e hb
 . exact(hf.grow b hf').elim (h.free b x hb) (λy=>absurd (lt b x hb) (Nat.not_lt_of_le y))
structure Conts(P:Program)(T:Thr M)(fStep:FuncId)(sx:Value)(cr:Frame)(rest:List Frame)(NE:List PanicEntry->Prop)(S:Frame->List Frame->M->Prop)(R:M->Out M->Prop)(l:Nat)(J:Goroutine->World->Prop)(m:M)(w:World):Prop where
 yield:∀m' c cs w',R m (.yield m')->Grow T m w m' w'->T.Rep m' w'->l<=T.left m'->S c cs m'->J (G (Frame.enter P fStep #[sx] .normal) (c::cs)) w'
 done:∀m' v w',R m (.done m')->Grow T m w m' w'->T.Rep m' w'->l<=T.left m'->J (G (cr.finish v) rest) w'
 broke:∀m' ch w',R m (.broke m')->NE ch->Grow T m w m' w'->T.Rep m' w'->l<=T.left m'->J (G (cr.raise ch) rest) w'
def Susp(P:Program)(T:Thr M)(fStep:FuncId)(sx:Value)(cr:Frame)(rest:List Frame)(NE EN:List PanicEntry->Prop)(i:Nat):Nat->Frame->List Frame->M->Prop
 |0,_,_,_=>True
 |k+1,c,cs,m₀=>∀(Kc:Addr->Option Value)(X:Snap)(J:Goroutine->World->Prop)(m:M)(w:World),Env P T Kc X J m w->T.Same i m₀ m->T.Rep m w->0<T.left m->
  (Conts P T fStep sx cr rest NE (Susp P T fStep sx cr rest NE EN i k) (T.Go i) (T.left m - 1) J m w->J (G (c.finish (.tuple #[])) cs) w)/\
  ∀ch,EN ch->(∀m' ch' w',EN ch'->T.Kill i m m'->Grow T m w m' w'->T.Rep m' w'->T.left m - 1<=T.left m'->J (G (cr.raise ch') rest) w')->J (G (c.raise ch) cs) w
def Runs(P:Program)(T:Thr M)(fStep:FuncId)(ti:TypeId)(NE:List PanicEntry->Prop)(m₀:M)(i:Nat)(tv:Value):Prop:=
 (tv=.nilFunc/\∀m,T.Start i m (.done m))\/
 ∃f first caps fn c,tv=.func (.func f) first caps/\P.funcs[f]?=some fn/\fn.body=some c/\(fn.name== "runtime.NumGoroutine")=false/\
  ∀(cr:Frame)(rest:List Frame)(st:Nat)(EN:List PanicEntry->Prop)(k:Nat)(Kc:Addr->Option Value)(X:Snap)(J:Goroutine->World->Prop)(m:M)(w:World),Env P T Kc X J m w->T.Rep m w->T.Same i m₀ m->
   Conts P T fStep (.pointer (some ⟨st,0,none⟩)) cr rest NE (Susp P T fStep (.pointer (some ⟨st,0,none⟩)) cr rest NE EN i k) (T.Start i) (T.left m) J m w->
   J (G (Frame.enter P f (first++#[.iface ti (.pointer (some ⟨st,0,none⟩))]++caps) .normal) (cr::rest)) w
theorem Susp.same {P:Program}{T:Thr M}{fStep:FuncId}{sx:Value}{cr:Frame}{rest:List Frame}{NE EN:List PanicEntry->Prop}{i k:Nat}{c:Frame}{cs:List Frame}{m m':M}(h:Susp P T fStep sx cr rest NE EN i k c cs m)(hs:T.Same i m m'):Susp P T fStep sx cr rest NE EN i k c cs m':=by
 cases k with
 |zero=>trivial
 |succ k=>exact λKc X J m₁ w hJ hs'=>h Kc X J m₁ w hJ (T.trans _ _ _ _ hs hs')
end
section
variable {P:Program} {main:Bool} {Kc:Addr->Option Value} {γ:Type} {J:γ->Goroutine->World->Prop}
theorem zqcy{b:Frame}{k:List Item}{cs:List Frame}(hb:b.kind≠.early)(hJ:JS P main Kc J){ops:Array Oper}{j:Nat}{rest:List Nat}{o:Oper}{sg:γ}{a:Act}{w:World}
 (ho:ops[j]?=some o) (hgd:o.guard=none) (s x:Operand) (t:TypeId) (hop:o.op=.call {callee:=.builtin .append,args:=#[s,x],argTypes:=#[t,t]})
 (base:Nat) (e:TypeId) (i:TypeInfo) (z:Value) (size bytes:Nat) (ht:P.underlying t=some (.slice e)) (hi:P.info? e=some i) (hz:i.zero=some z)
 (hsize:i.size=size) (hby:i.bytes=bytes) (hzs:z.cells.size=size) (hsz:0<size)
 (v:Value) (n:Nat) (xs:List Value) (hs:a.eval s=v) (hown:w.ownsRow base e size v n xs)
 (ad:Addr) (m c:Nat) (news:List Value) (hx:a.eval x=.slice (some ad) m c) (hl:news.length=m*size) (hnews:∀j u,news[j]?=some u->w.cell? (ad.add j)=some u) (h1:∀u∈news,u.oneCell'=true)
 (h63:n+m<=maxLen) (hbytes:(n+m)*bytes<=140737488355328) (hbase:base<=w.heap.size)
 (hfree:∀g,v.ownBlock=some g->∀y:Addr,y.block=g->Kc y=none)
 (h:∀v' w',w'.ownsRow base e size v' (n+m) (xs++news)->w.heap.size<=w'.heap.size->(∀k,k<w.heap.size->some k≠v.ownBlock->w'.heap[k]?=w.heap[k]?)->(v'.ownBlock=v.ownBlock\/v'.ownBlock=some w.heap.size)->
  J sg (G (b.at (a.put o.dst v') (.inRegion ops rest::k)) cs) w'):J sg (G (b.at a (.inRegion ops (j::rest)::k)) cs) w:=by
 have hw:Region.wanted o (yielded ops a.tmps)=true:=by simp[Region.wanted,hgd]
 refine zq22 hb hJ ho hw λτ d=>?_;obtain⟨v',w',hr,h2,h3,h4⟩:=run_append_own_at (P:=P) (re w τ d) base t o.type e i z size bytes ht hi hz hsize hby hzs hsz v n xs hown ad m c news hl hnews h1 h63 hbytes hbase;have hev:=events_append_own (P:=P) (re w τ d) base t o.type e i z size bytes ht hi hz hsize hby v n xs hown ad m c news hl hnews h1 h63 hbytes;have hrun:(execOp a.eval o).run P (re w τ d)=.ok (.value v') w':=by
  unfold execOp;simp only[hop,resolve,invoke,builtin,Sem.run_bind,Sem.run_pure,Result.andThen_ok,List.map_toArray,List.map_cons,List.map_nil,hs,hx,hr]
 have hevs:∀e∈((execOp a.eval o).runT P (re w τ d) #[]).2,EvOk Kc e:=by
  intro ev he;rw[Sem.runT_eq]at he;have he':ev∈(Builtin.append_ #[t,t] o.type #[v,.slice (some ad) m c]).events P (re w τ d) #[]:=by
   unfold execOp at he;simpa[hop,resolve,invoke,builtin,Sem.events_bind,hs,hx,hr]using he
  rcases hev ev he' with⟨x,h5,h6⟩|⟨x,h5,h6⟩|⟨mk,h5,h6⟩
  . obtain⟨loc,wr,sy⟩:=ev;simp only at h5 h6;subst h5 h6;exact zq8b x sy
  . obtain⟨loc,wr,sy⟩:=ev;simp only at h5;subst h5;cases wr with
    |false=>exact zq8b x sy
    |true=>exact zq8c x sy (hfree _ h6.symm x rfl)
  . subst h5;unfold Neutral at h6;subst h6;exact zq3b ⟨λm hm=>by cases hm;trivial,λ_=>rfl⟩
 refine⟨hevs,?_,?_⟩
 . rw[hrun];have hblk:∀k,k<w.heap.size->some k≠v.ownBlock->w'.heap[k]?=w.heap[k]?:=h3.block;refine⟨⟨λhK y u hy=>?_,h3.os,h3.output⟩,λch _⟨cap,kk,hch⟩=>?_⟩
   . obtain⟨a1,a2⟩:=hK y u hy;have hlt:y.block<w.heap.size:=cell_lt a1;have hne:some y.block≠v.ownBlock:=λe=>by rw[hfree _ e.symm y rfl]at hy;cases hy
     have:=hblk _ hlt hne;exact⟨(zqy this).trans a1,(zq6h this).trans a2⟩
   . have hlt:ch<w.heap.size:=zqb hch;refine hblk ch hlt λe=>?_;rcases hown.2 with⟨hv,_⟩|⟨g,cap',cur,hv,_,hg,_⟩
     . rw[hv]at e;cases e
     . rw[hv]at e;simp only[Value.ownBlock,al_oi]at e;subst e;have hch':w.heap[ch]?=_:=hch;rw[hg]at hch';cases hch'
 . rw[hrun];exact h v' w' h2 h3.size h3.block h4.2
end
end Go.Car
namespace Go.Car
open Go
section
variable {M:Type}
inductive zq20(R:M->Out M->Prop)(i:Nat)(m:M)(ov brk:Nat->Bool):M->(Nat->Bool)->(Nat->Bool)->Prop
 |yield (m':M) (h:R m (.yield m')):zq20 R i m ov brk m' ov brk
 |done (m':M) (h:R m (.done m')):zq20 R i m ov brk m' (λj=>if j=i then true else ov j) (λj=>if j=i then false else brk j)
 |broke (m':M) (h:R m (.broke m')):zq20 R i m ov brk m' (λj=>if j=i then true else ov j) (λj=>if j=i then true else brk j)
structure OSt(M:Type)where
 m:M
 ov:Nat->Bool
 brk:Nat->Bool
 ord:List Nat
inductive Begun(T:Thr M)(m₀:M):Nat->M->(Nat->Bool)->(Nat->Bool)->Prop
 |zero:Begun T m₀ 0 m₀ (λ_=>false) (λ_=>false)
 |succ {s m ov brk m' ov' brk'} (h:Begun T m₀ s m ov brk) (ht:zq20 (T.Start s) s m ov brk m' ov' brk'):Begun T m₀ (s+1) m' ov' brk'
theorem Begun.same {T:Thr M}{m₀:M}{s:Nat}{m:M}{ov brk:Nat->Bool}(h:Begun T m₀ s m ov brk):∀i,s<=i->T.Same i m₀ m:=by
 induction h with
 |zero=>exact λi _=>T.refl i _
 |succ h ht ih=>
  intro i hi;refine T.trans _ _ _ _ (ih i zyo) ?_;cases ht with
  |yield h=>exact T.start_same i _ _ _ zyo h
  |done h=>exact T.start_same i _ _ _ zyo h
  |broke h=>exact T.start_same i _ _ _ zyo h
inductive Step1(T:Thr M)(N most:Nat)(x:Int)(a:OSt M):OSt M->Prop
 |not(h:x<0\/(N:Int)<=x\/a.ov x.toNat=true\/a.ord.length=most):Step1 T N most x a a
 |go (i:Nat) (hx:x=i) (hi:i<N) (ho:a.ov i=false) (hm:a.ord.length≠most) {m' ov' brk'} (ht:zq20 (T.Go i) i a.m a.ov a.brk m' ov' brk'):Step1 T N most x a ⟨m',ov',brk',a.ord++[i]⟩
inductive StepsR(T:Thr M)(N most:Nat):List Int->OSt M->OSt M->Prop
 |nil (a:OSt M):StepsR T N most [] a a
 |cons {x l a b c} (h:Step1 T N most x a b) (hr:StepsR T N most l b c):StepsR T N most (x::l) a c
def leftN(ov:Nat->Bool):Nat->Nat
 |0=>0
 |N+1=>leftN ov N+if ov N then 0 else 1
def upto(N:Nat):List Int:=(List.range N).map λ(i:Nat)=>(i:Int)
inductive zq3t(T:Thr M)(N most:Nat):OSt M->OSt M->Prop
 |stop (a:OSt M) (h:¬(0<leftN a.ov N/\a.ord.length<most)):zq3t T N most a a
 |more {a b c:OSt M} (h:0<leftN a.ov N/\a.ord.length<most) (hs:StepsR T N most (upto N) a b) (hr:zq3t T N most b c):zq3t T N most a c
inductive Ends(T:Thr M)(ov:Nat->Bool)(m₀:M):Nat->M->Prop
 |zero:Ends T ov m₀ 0 m₀
 |over {s m} (h:Ends T ov m₀ s m) (ho:ov s=true):Ends T ov m₀ (s+1) m
 |kill {s m m'} (h:Ends T ov m₀ s m) (ho:ov s=false) (hk:T.Kill s m m'):Ends T ov m₀ (s+1) m'
structure Ran(T:Thr M)(N:Nat)(sched:List Int)(most:Nat)(m₀:M)(b:OSt M)(m':M):Prop where
 run:∃m₁ ov₁ brk₁ a,Begun T m₀ N m₁ ov₁ brk₁/\StepsR T N most sched ⟨m₁,ov₁,brk₁,[]⟩ a/\zq3t T N most a b
 ends:Ends T b.ov b.m N m'
theorem zq6m(ov:Nat->Bool)(N:Nat):leftN ov N<=N:=by
 induction N with
 |zero=>exact Nat.le_refl _
 |succ N ih=>unfold leftN;split<;>omega
theorem zq5e{ov:Nat->Bool}{i N:Nat}(hi:i<N)(ho:ov i=false):leftN (λj=>if j=i then true else ov j) N+1=leftN ov N:=by
 induction N with
 |zero=>omega
 |succ N ih=>
  unfold leftN
  by_cases e:N=i
  . subst e;have:∀K,K<=N->leftN (λj=>if j=N then true else ov j) K=leftN ov K:=by
     intro K
     induction K with
     |zero=>intro _;rfl
     |succ K ih=>intro hK;have hne:K≠N:=by omega
                 simp only[leftN,ih zyo,hne,if_false]
    rw[this N (Nat.le_refl _)];simp[ho]
  . have:=ih zyo;simp only[e,if_false];split<;>omega
theorem zq6n{ov:Nat->Bool}{N:Nat}(h:0<leftN ov N):∃i,i<N/\ov i=false:=by
 induction N with
 |zero=>exact absurd h (Nat.lt_irrefl _)
 |succ N ih=>
  unfold leftN at h;cases ho:ov N with
  |false=>exact⟨N,by omega,ho⟩
  |true=>
   rw[ho]at h;obtain⟨i,h1,h2⟩:=ih zx3y;exact⟨i,by omega,h2⟩
theorem zq6l{ov ov':Nat->Bool}{N:Nat}(h:∀i,i<N->ov i=ov' i):leftN ov N=leftN ov' N:=by
 induction N with
 |zero=>rfl
 |succ N ih=>unfold leftN;rw[ih (λi hi=>h i zyo),h N zyo]
theorem Step1.mono {T:Thr M}{N most:Nat}{x:Int}{a b:OSt M}(h:Step1 T N most x a b):a.ord.length<=b.ord.length:=by
 cases h<;>simp
theorem StepsR.mono {T:Thr M}{N most:Nat}{l:List Int}{a b:OSt M}(h:StepsR T N most l a b):a.ord.length<=b.ord.length:=by
 induction h with
 |nil a=>exact Nat.le_refl _
 |cons h _ ih=>exact Nat.le_trans h.mono ih
theorem StepsR.progress {T:Thr M}{N most:Nat}{l:List Int}{a b:OSt M}(h:StepsR T N most l a b){i:Nat}(hi:i<N)(hm:(i:Int)∈l)(ho:a.ov i=false)(hl:a.ord.length<most):a.ord.length<b.ord.length:=by
 induction h with
 |nil a=>cases hm
 |cons h hr ih=>
  rename_i x l a c b;cases h with
  |not hn=>
   refine ih ?_ ho hl;rcases List.mem_cons.1 hm with e|hm
   . exfalso;subst e;rcases hn with h|h|h|h
     . omega
     . omega
     . rw[show((i:Int).toNat)=i by omega,ho]at h;cases h
     . omega
   . exact hm
  |go j hx hj hoj hmj ht=>
   have:=hr.mono;simp at this;omega
theorem zq8z{i N:Nat}(h:i<N):(i:Int)∈upto N:=List.mem_map.2 ⟨i,List.mem_range.2 h,rfl⟩
theorem zq4y{N j:Nat}(h:j<N):(upto N)[j]?=some (j:Int):=by simp[upto,h]
theorem zq62(N:Nat):(upto N).length=N:=by simp[upto]
end
theorem lit(T:Array Value)(n:Nat)(h:T.size=n):T=((List.range n).map λi=>T.getD i undef).toArray:=by
 apply Array.ext_getElem?;intro i
 by_cases hi:i<n
 . have:i<T.size:=by omega
   simp[hi,this]
 . rw[Array.getElem?_eq_none zyo];simp[hi]
theorem lit51(T:Array Value)(h:T.size=51):∃x0 x1 x2 x3 x4 x5 x6 x7 x8 x9 x10 x11 x12 x13 x14 x15 x16 x17 x18 x19 x20 x21 x22 x23 x24 x25 x26 x27 x28 x29 x30 x31 x32 x33 x34 x35 x36 x37 x38 x39 x40 x41 x42 x43 x44 x45 x46 x47 x48 x49 x50,T=#[x0,x1,x2,x3,x4,x5,x6,x7,x8,x9,x10,x11,x12,x13,x14,x15,x16,x17,x18,x19,x20,x21,x22,x23,x24,x25,x26,x27,x28,x29,x30,x31,x32,x33,x34,x35,x36,x37,x38,x39,x40,x41,x42,x43,x44,x45,x46,x47,x48,x49,x50]:=
 ⟨_,_,_,_,_,_,_,_,_,_,_,_,_,_,_,_,_,_,_,_,_,_,_,_,_,_,_,_,_,_,_,_,_,_,_,_,_,_,_,_,_,_,_,_,_,_,_,_,_,_,_,lit T 51 h⟩
end Go.Car
