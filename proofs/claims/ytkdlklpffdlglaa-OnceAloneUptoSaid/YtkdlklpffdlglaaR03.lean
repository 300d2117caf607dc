/- YtkdlklpffdlglaaOAlone10: part 3 of the proof (the texts behind it, in order). -/
import Derived.Test.YtkdlklpffdlglaaR02
set_option maxHeartbeats 4000000
set_option maxRecDepth 100000
set_option linter.all false
namespace Go
theorem zx1k {p : Prop} (h : p := by
  cases e with
  |normal=>
   obtain⟨q0,q1,q2⟩:=q;obtain⟨tt,dd⟩:=a;simp only at q0 q2;subst q0 q2;exact⟨rfl,hX _ _ _ (OMoved.ext hB.own q1) ⟨rfl,rfl⟩⟩
  |ret=>exact q.2.elim
  |_=>exact q) : p := h
theorem zx1t {p : Prop} (h : p := by
  rintro s' e a w' ⟨rfl,hd,B',(⟨rfl,h1⟩|⟨_,h1⟩),hA⟩
  . obtain⟨tt,dd⟩:=a;simp only at h1 hd;subst hd;exact hk _ .normal _ _ (hy tt B' w' h1 hA)
  . exact h1.elim) : p := h
theorem zx28 {p : Prop} (h : p := by
  cases e with
  |normal=>exact q
  |ret=>exact q.2.elim
  |_=>exact q) : p := h
theorem zx3t {p : Prop} (h : p := by simp only[maxLen];omega) : p := h
theorem zx41 {p : Prop} (h : p := by rw[hb];simp) : p := h
end Go
namespace Go.Car
open Go Go.Conc Go.RowKit
theorem sg1{T T1:Array Value}{a1 j:Nat}{v1:Value}{u:Option Value}(h:T1=T.setIfInBounds a1 v1)(f:T[j]?=u)(n1:a1≠j:=by decide):T1[j]?=u:=by rw[h,al_gn n1];exact f
theorem sg2{T T1:Array Value}{a1 a2 j:Nat}{v1 v2:Value}{u:Option Value}(h:T1=(T.setIfInBounds a1 v1).setIfInBounds a2 v2)(f:T[j]?=u)(n1:a1≠j:=by decide)(n2:a2≠j:=by decide):T1[j]?=u:=sg1 h (sg1 rfl f n1) n2
theorem sg3{T T1:Array Value}{a1 a2 a3 j:Nat}{v1 v2 v3:Value}{u:Option Value}(h:T1=((T.setIfInBounds a1 v1).setIfInBounds a2 v2).setIfInBounds a3 v3)(f:T[j]?=u)(n1:a1≠j:=by decide)(n2:a2≠j:=by decide)(n3:a3≠j:=by decide):T1[j]?=u:=sg1 h (sg2 rfl f n1 n2) n3
theorem sg5{T T1:Array Value}{a1 a2 a3 a4 a5 j:Nat}{v1 v2 v3 v4 v5:Value}{u:Option Value}(h:T1=((((T.setIfInBounds a1 v1).setIfInBounds a2 v2).setIfInBounds a3 v3).setIfInBounds a4 v4).setIfInBounds a5 v5)(f:T[j]?=u)(n1:a1≠j:=by decide)(n2:a2≠j:=by decide)(n3:a3≠j:=by decide)(n4:a4≠j:=by decide)(n5:a5≠j:=by decide):T1[j]?=u:=sg2 h (sg3 rfl f n1 n2 n3) n4 n5
theorem sg6{T T1:Array Value}{a1 a2 a3 a4 a5 a6 j:Nat}{v1 v2 v3 v4 v5 v6:Value}{u:Option Value}(h:T1=(((((T.setIfInBounds a1 v1).setIfInBounds a2 v2).setIfInBounds a3 v3).setIfInBounds a4 v4).setIfInBounds a5 v5).setIfInBounds a6 v6)(f:T[j]?=u)(n1:a1≠j:=by decide)(n2:a2≠j:=by decide)(n3:a3≠j:=by decide)(n4:a4≠j:=by decide)(n5:a5≠j:=by decide)(n6:a6≠j:=by decide):T1[j]?=u:=sg3 h (sg3 rfl f n1 n2 n3) n4 n5 n6
theorem sg8{T T1:Array Value}{a1 a2 a3 a4 a5 a6 a7 a8 j:Nat}{v1 v2 v3 v4 v5 v6 v7 v8:Value}{u:Option Value}(h:T1=(((((((T.setIfInBounds a1 v1).setIfInBounds a2 v2).setIfInBounds a3 v3).setIfInBounds a4 v4).setIfInBounds a5 v5).setIfInBounds a6 v6).setIfInBounds a7 v7).setIfInBounds a8 v8)(f:T[j]?=u)(n1:a1≠j:=by decide)(n2:a2≠j:=by decide)(n3:a3≠j:=by decide)(n4:a4≠j:=by decide)(n5:a5≠j:=by decide)(n6:a6≠j:=by decide)(n7:a7≠j:=by decide)(n8:a8≠j:=by decide):T1[j]?=u:=sg3 h (sg5 rfl f n1 n2 n3 n4 n5) n6 n7 n8
theorem sg11{T T1:Array Value}{a1 a2 a3 a4 a5 a6 a7 a8 a9 a10 a11 j:Nat}{v1 v2 v3 v4 v5 v6 v7 v8 v9 v10 v11:Value}{u:Option Value}(h:T1=((((((((((T.setIfInBounds a1 v1).setIfInBounds a2 v2).setIfInBounds a3 v3).setIfInBounds a4 v4).setIfInBounds a5 v5).setIfInBounds a6 v6).setIfInBounds a7 v7).setIfInBounds a8 v8).setIfInBounds a9 v9).setIfInBounds a10 v10).setIfInBounds a11 v11)(f:T[j]?=u)(n1:a1≠j:=by decide)(n2:a2≠j:=by decide)(n3:a3≠j:=by decide)(n4:a4≠j:=by decide)(n5:a5≠j:=by decide)(n6:a6≠j:=by decide)(n7:a7≠j:=by decide)(n8:a8≠j:=by decide)(n9:a9≠j:=by decide)(n10:a10≠j:=by decide)(n11:a11≠j:=by decide):T1[j]?=u:=sg3 h (sg8 rfl f n1 n2 n3 n4 n5 n6 n7 n8) n9 n10 n11
def chkE(P:Program)(ops:Array Oper)(p m:Nat):Bool:=((ops.toList.drop p).take m).all λo=>zq1j P o.op&&o.guard.isNone&&o.dst.isSome
def zql(P:Program)(ops:Array Oper)(w:World):List Value->Nat->Array Value->Prop
 |[],_,_=>True
 |v::vs,i,T=>(∀o,ops[i]?=some o->(execOp (Act.mk T []).eval o).run P w=.ok (.value v) w)/\zql P ops w vs (i+1) (match dstOf ops i with|some d=>T.setIfInBounds d v|none=>T)
section
variable {P:Program} {main:Bool} {Kc:Addr->Option Value} {γ:Type} {J:γ->Goroutine->World->Prop}
theorem zqdj{ops:Array Oper}{p m:Nat}(h:chkE P ops p (m+1)=true)(hlt:p<ops.size):(∃o d,ops[p]?=some o/\zq1j P o.op=true/\o.guard=none/\o.dst=some d)/\chkE P ops (p+1) m=true:=by
 have hd:ops.toList.drop p=ops[p]::ops.toList.drop (p+1):=by
  rw[List.drop_eq_getElem_cons (by simpa using hlt)];simp
 unfold chkE at h;rw[hd,List.take_succ_cons,List.all_cons,Bool.and_eq_true]at h;obtain⟨h1,h2⟩:=h;simp only[Bool.and_eq_true]at h1;obtain⟨⟨h3,h4⟩,h5⟩:=h1;obtain⟨d,hdd⟩:=Option.isSome_iff_exists.1 h5;exact⟨⟨ops[p],d,Array.getElem?_eq_getElem hlt,h3,Option.isNone_iff_eq_none.1 h4,hdd⟩,h2⟩
theorem at_eval'(hJ:JS P main Kc J){b:Frame}{k:List Item}{cs:List Frame}(hb:b.kind≠.early){ops:Array Oper}{s:γ}{rest:List Nat}:∀(vs:List Value)(p:Nat)(T:Array Value)(ds:List Deferred)(w:World),p+vs.length<=ops.size->chkE P ops p vs.length=true->
 (∀τ d,zql P ops (re w τ d) vs p T)->J s (G (b.at ⟨putv ops vs p T,ds⟩ (.inRegion ops rest::k)) cs) w->J s (G (b.at ⟨T,ds⟩ (.inRegion ops (List.range' p vs.length++rest)::k)) cs) w:=by
 intro vs
 induction vs with
 |nil=>intro p T ds w _ _ _ h;exact h
 |cons v vs ih=>
  intro p T ds w hsz hc hv h;simp only[List.length_cons]at hsz hc;obtain⟨⟨o,d,ho,hro,hg,hd⟩,hc'⟩:=zqdj hc zyo;have hdst:dstOf ops p=some d:=by unfold dstOf;rw[ho];exact hd
  rw[List.length_cons,List.range'_succ,List.cons_append];have hw:Region.wanted o (yielded ops T)=true:=by simp[Region.wanted,hg]
  refine zq22 hb hJ ho hw λτ dd=>?_;have hrun:(execOp (Act.mk T ds).eval o).run P (re w τ dd)=.ok (.value v) (re w τ dd):=(hv τ dd).1 o ho;have ht:tame P false (execOp (Act.mk T ds).eval o):=zq3w o hro _;obtain⟨e1,e2⟩:=zq3d (Kc:=Kc) ht (re w τ dd);refine⟨e1,e2,?_⟩;rw[hrun];have:(Act.mk T ds).put o.dst v=⟨T.setIfInBounds d v,ds⟩:=by rw[hd];rfl
  show J s (G (b.at ((Act.mk T ds).put o.dst v) _) cs) (re w τ dd);rw[this];refine ih (p+1) _ ds _ zyo hc' (λτ' d'=>?_) ?_
  . have:=(hv τ' d').2;rw[hdst]at this;exact this
  . refine hJ.re' s _ w τ dd ?_;have:putv ops (v::vs) p T=putv ops vs (p+1) (T.setIfInBounds d v):=by simp only[putv,hdst]
    rw[this]at h;exact h
theorem zqm(hJ:JS P main Kc J){b:Frame}{k:List Item}{cs:List Frame}(hb:b.kind≠.early){ops:Array Oper}{s:γ}(p:Nat)(vs:List Value){todo:List Nat}(rest:List Nat){a:Act}{w:World}(ht:todo=List.range' p vs.length++rest)(hsz:p+vs.length<=ops.size)(hc:chkE P ops p vs.length=true)
 (hv:∀τ d,zql P ops (re w τ d) vs p a.tmps) (h:J s (G (b.at ⟨putv ops vs p a.tmps,a.defers⟩ (.inRegion ops rest::k)) cs) w):J s (G (b.at a (.inRegion ops todo::k)) cs) w:=by
 subst ht;exact at_eval' hJ hb vs p a.tmps a.defers w hsz hc hv h
def chkG(P:Program)(ops:Array Oper)(p m:Nat):Bool:=((ops.toList.drop p).take m).all λo=>zq1j P o.op&&o.dst.isSome
def zq3c(P:Program)(ops:Array Oper)(w:World):List (Option Value)->Nat->Array Value->Prop
 |[],_,_=>True
 |some v::vs,i,T=>(∀o,ops[i]?=some o->Region.wanted o (yielded ops T)=true/\(execOp (Act.mk T []).eval o).run P w=.ok (.value v) w)/\zq3c P ops w vs (i+1) (match dstOf ops i with|some d=>T.setIfInBounds d v|none=>T)
 |none::vs,i,T=>(∀o,ops[i]?=some o->Region.wanted o (yielded ops T)=false)/\zq3c P ops w vs (i+1) (match dstOf ops i with|some d=>T.setIfInBounds d undef|none=>T)
def putG(ops:Array Oper):List (Option Value)->Nat->Array Value->Array Value
 |[],_,t=>t
 |v::vs,i,t=>putG ops vs (i+1) (match dstOf ops i with|some d=>t.setIfInBounds d (v.getD undef)|none=>t)
theorem zqdk{ops:Array Oper}{p m:Nat}(h:chkG P ops p (m+1)=true)(hlt:p<ops.size):(∃o d,ops[p]?=some o/\zq1j P o.op=true/\o.dst=some d)/\chkG P ops (p+1) m=true:=by
 have hd:ops.toList.drop p=ops[p]::ops.toList.drop (p+1):=by
  rw[List.drop_eq_getElem_cons (by simpa using hlt)];simp
 unfold chkG at h;rw[hd,List.take_succ_cons,List.all_cons,Bool.and_eq_true]at h;obtain⟨h1,h2⟩:=h;simp only[Bool.and_eq_true]at h1;obtain⟨h3,h5⟩:=h1;obtain⟨d,hdd⟩:=Option.isSome_iff_exists.1 h5;exact⟨⟨ops[p],d,Array.getElem?_eq_getElem hlt,h3,hdd⟩,h2⟩
theorem zqd1(hJ:JS P main Kc J){b:Frame}{k:List Item}{cs:List Frame}(hb:b.kind≠.early){ops:Array Oper}{s:γ}{rest:List Nat}:∀(vs:List (Option Value))(p:Nat)(T:Array Value)(ds:List Deferred)(w:World),p+vs.length<=ops.size->chkG P ops p vs.length=true->
 (∀τ d,zq3c P ops (re w τ d) vs p T)->J s (G (b.at ⟨putG ops vs p T,ds⟩ (.inRegion ops rest::k)) cs) w->J s (G (b.at ⟨T,ds⟩ (.inRegion ops (List.range' p vs.length++rest)::k)) cs) w:=by
 intro vs
 induction vs with
 |nil=>intro p T ds w _ _ _ h;exact h
 |cons v vs ih=>
  intro p T ds w hsz hc hv h;simp only[List.length_cons]at hsz hc;obtain⟨⟨o,d,ho,hro,hd⟩,hc'⟩:=zqdk hc zyo;have hdst:dstOf ops p=some d:=by unfold dstOf;rw[ho];exact hd
  rw[List.length_cons,List.range'_succ,List.cons_append];have hput:∀u,(Act.mk T ds).put o.dst u=⟨T.setIfInBounds d u,ds⟩:=λu=>by rw[hd];rfl
  cases v with
  |none=>
   have hw:Region.wanted o (yielded ops T)=false:=(hv w.tape w.drawn).1 o ho;refine hJ.ctl (s:=s) (λw=>stepG_unwanted ho hw) ?_;rw[hput];refine ih (p+1) _ ds _ zyo hc' (λτ' d'=>?_) ?_
   . have:=(hv τ' d').2;rw[hdst]at this;exact this
   . have:putG ops (none::vs) p T=putG ops vs (p+1) (T.setIfInBounds d undef):=by simp only[putG,hdst,Option.getD_none]
     rw[this]at h;exact h
  |some v=>
   have hw:Region.wanted o (yielded ops T)=true:=((hv w.tape w.drawn).1 o ho).1;refine zq22 hb hJ ho hw λτ dd=>?_;have hrun:(execOp (Act.mk T ds).eval o).run P (re w τ dd)=.ok (.value v) (re w τ dd):=((hv τ dd).1 o ho).2;have ht:tame P false (execOp (Act.mk T ds).eval o):=zq3w o hro _;obtain⟨e1,e2⟩:=zq3d (Kc:=Kc) ht (re w τ dd);refine⟨e1,e2,?_⟩;rw[hrun];show J s (G (b.at ((Act.mk T ds).put o.dst v) _) cs) (re w τ dd);rw[hput];refine ih (p+1) _ ds _ zyo hc' (λτ' d'=>?_) ?_
   . have:=(hv τ' d').2;rw[hdst]at this;exact this
   . refine hJ.re' s _ w τ dd ?_;have:putG ops (some v::vs) p T=putG ops vs (p+1) (T.setIfInBounds d v):=by simp only[putG,hdst,al_od]
     rw[this]at h;exact h
theorem zq69(hJ:JS P main Kc J){b:Frame}{k:List Item}{cs:List Frame}(hb:b.kind≠.early){ops:Array Oper}{s:γ}(p:Nat)(vs:List (Option Value)){todo:List Nat}(rest:List Nat){a:Act}{w:World}(ht:todo=List.range' p vs.length++rest)(hsz:p+vs.length<=ops.size)(hc:chkG P ops p vs.length=true)
 (hv:∀τ d,zq3c P ops (re w τ d) vs p a.tmps) (h:J s (G (b.at ⟨putG ops vs p a.tmps,a.defers⟩ (.inRegion ops rest::k)) cs) w):J s (G (b.at a (.inRegion ops todo::k)) cs) w:=by
 subst ht;exact zqd1 hJ hb vs p a.tmps a.defers w hsz hc hv h
end
structure JC(P:Program)(main:Bool){γ:Type}(J:γ->Goroutine->World->Prop):Prop where
 ctl:∀{s:γ}{fr fr':Frame}{cs cs':List Frame}{w:World},(∀w,stepG P main (G fr cs) w=.go (G fr' cs') w)->J s (G fr' cs') w->J s (G fr cs) w
section
variable {P:Program} {main:Bool} {γ:Type} {J:γ->Goroutine->World->Prop}
theorem JC.of_js (h:∀s,∃Kc,JS P main Kc (λ(_:Unit)=>J s)):JC P main J:=⟨λ{s fr fr' cs cs' w}hs hj=>by
 obtain⟨Kc,h1⟩:=h s;exact h1.ctl (s:=()) hs hj⟩
theorem JS.jc {Kc:Addr->Option Value}(h:JS P main Kc J):JC P main J:=.of_js λs=>⟨Kc,λ_ g w τ d hg=>h.re' s g w τ d hg,λ_ g w hr hs=>h.step s g w hr hs⟩
section rules
variable {Q:γ->Exit->Act->World->Prop} {s:γ} {a:Act} {w:World}
theorem zq1s(hJ:JC P main J)(h:Q s .normal a w):wpJ J .skip Q s a w:=λb k cs hb hk=>hJ.ctl (λw=>stepG_skip) (hk _ _ _ _ h)
theorem zq1c(hJ:JC P main J)(h:Q s .ret a w):wpJ J .ret Q s a w:=λb k cs hb hk=>hJ.ctl (λw=>stepG_ret') (hk _ _ _ _ h _)
theorem zq7l(hJ:JC P main J){id:Nat}(h:Q s (.exit id) a w):wpJ J (.exit id) Q s a w:=λb k cs hb hk=>by
 obtain⟨k',hk',hg⟩:=hk _ _ _ _ h;exact hJ.ctl (λw=>stepG_exit hk') hg
theorem zqh(hJ:JC P main J){x y:Code}(h:wpJ J x (thenJ (λs' a' w'=>wpJ J y Q s' a' w') Q) s a w):wpJ J (.seq x y) Q s a w:=λb k cs hb hk=>by
 refine hJ.ctl (λw=>stepG_seq) (h b (.code y::k) cs hb λs' e a' w' q=>?_);cases e with
 |normal=>exact q b k cs hb hk
 |exit id=>exact(hk _ _ _ _ q).push rfl zx2n
 |ret=>exact hk _ _ _ _ q
 |goto l=>exact hk _ _ _ _ q
 |panic ch=>exact hk _ _ _ _ q
 |outgrown=>exact hk _ _ _ _ q
theorem zqz(hJ:JC P main J){c:Operand}{x y:Code}{t:Bool}(hc:a.eval c=.bool t)(h:wpJ J (if t then x else y) Q s a w):wpJ J (.cond c x y) Q s a w:=
 λb k cs hb hk=>hJ.ctl (λw=>stepG_cond hc) (h b k cs hb hk)
theorem zq46(hJ:JC P main J){id:Nat}{c:Code}(h:wpJ J c (zq3z id Q) s a w):wpJ J (.block id c) Q s a w:=λb k cs hb hk=>by
 refine hJ.ctl (λw=>stepG_block) (h b (.inBlock id::k) cs hb λs' e a' w' q=>?_);cases e with
 |normal=>exact hJ.ctl (λw=>stepG_inBlock) (hk _ _ _ _ q)
 |exit id'=>
  by_cases hid:id'=id
  . subst hid;simp only[zq3z,if_true]at q;exact⟨k,by simp[exitTo],hk _ _ _ _ q⟩
  . exact zx1v
 |ret=>exact hk _ _ _ _ q
 |goto l=>exact hk _ _ _ _ q
 |panic ch=>exact hk _ _ _ _ q
 |outgrown=>exact hk _ _ _ _ q
theorem zq7m(hJ:JC P main J){c:Code}(I:γ->Act->World->Nat->Prop)(n:Nat)(h₀:I s a w n)
 (round:∀s a w n,I s a w n->wpJ J c (thenJ (λs' a' w'=>∃m,m<n/\I s' a' w' m) Q) s a w):wpJ J (.loop c) Q s a w:=λb k cs hb hk=>by
 have key:∀N n,n<=N->∀s a w,I s a w n->J s (G (b.at a (.code c::.inLoop c::k)) cs) w:=by
  intro N
  induction N with
  |zero=>
   intro n hn s a w hI;refine round s a w n hI b (.inLoop c::k) cs hb λs' e a' w' q=>?_;cases e with
   |normal=>obtain⟨m,h1,_⟩:=q;exact absurd h1 zyo
   |exit id=>exact(hk _ _ _ _ q).push rfl zx2n
   |ret=>exact hk _ _ _ _ q
   |goto l=>exact hk _ _ _ _ q
   |panic ch=>exact hk _ _ _ _ q
   |outgrown=>exact hk _ _ _ _ q
  |succ N ih=>
   intro n hn s a w hI;refine round s a w n hI b (.inLoop c::k) cs hb λs' e a' w' q=>?_;cases e with
   |normal=>obtain⟨m,h1,h2⟩:=q;exact hJ.ctl (λw=>stepG_inLoop) (ih m zyo s' a' w' h2)
   |exit id=>exact(hk _ _ _ _ q).push rfl zx2n
   |ret=>exact hk _ _ _ _ q
   |goto l=>exact hk _ _ _ _ q
   |panic ch=>exact hk _ _ _ _ q
   |outgrown=>exact hk _ _ _ _ q
 exact hJ.ctl (λw=>stepG_loop) (key n n (Nat.le_refl _) s a w h₀)
theorem zqx(hJ:JC P main J){id:Nat}{ops:Array Oper}(h:opsJ J ops (List.range ops.size) Q s a w):wpJ J (.region id ops false) Q s a w:=
 λb k cs hb hk=>hJ.ctl (λw=>stepG_region) (h b k cs hb hk)
theorem zq1e(hJ:JC P main J){ops:Array Oper}(h:Q s .normal a w):opsJ J ops [] Q s a w:=λb k cs hb hk=>hJ.ctl (λw=>stepG_region_end) (hk _ _ _ _ h)
def bodyC(Bd:γ->Act->World->Prop)(Post:γ->Ending->World->Prop)(s:γ)(e:Exit)(a:Act)(w:World):Prop:=
 match e with
 |.normal|.ret=>Bd s a w
 |.panic ch=>a.defers=[]/\Post s (.panicked ch) w
 |_=>False
theorem zqfk(hJ:JC P main J){ops:Array Oper}{i:Nat}{rest:List Nat}{o:Oper}{f:FuncId}{args:Array Value}{Post:γ->Ending->World->Prop}
 (ho:ops[i]?=some o) (hw:Region.wanted o (yielded ops a.tmps)=true) (hr:∀w,(execOp a.eval o).run P w=.ok (.enter f args) w) (hev:∀w,(execOp a.eval o).events P w #[]=#[])
 (hc:CallsJ P J f args Post s w) (hpost:∀s' e w',Post s' e w'->match e with
  |.returned v=>opsJ J ops rest Q s' (a.put o.dst v) w'
  |.panicked ch=>Q s' (.panic ch) a w'
  |.outgrown=>False):opsJ J ops (i::rest) Q s a w:=λb k cs hb hk=>by
 refine hJ.ctl (λw=>by rw[stepG_enter ho hw hb (hr w),listed_none (hev w)]) ?_;refine hc _ cs (λs' v w' hp=>?_) (λs' ch w' hp=>?_)
 . rw[Frame.finish_at,ho];exact hpost _ _ _ hp b k cs hb hk
 . rw[Frame.raise_at];exact hk _ _ _ _ (hpost _ _ _ hp) _
theorem zq7y(hJ:JC P main J){f:FuncId}{fn:Func}{c:Code}{args:Array Value}{Bd:γ->Act->World->Prop}{Post:γ->Ending->World->Prop}(hf:P.funcs[f]?=some fn)(hb:fn.body=some c)
 (hL:∀(s:γ)(a:Act)(w:World)(b cl:Frame)(cs:List Frame)(todo:List Item),Bd s a w->b.fn=f->b.kind=.normal->(∀s' v w',Post s' (.returned v) w'->J s' (G (cl.finish v) cs) w')->J s (G {b.at a todo with mode:=.returning} (cl::cs)) w)
 (h:wpJ J c (bodyC Bd Post) s (zqe fn args) w):CallsJ P J f args Post s w:=by
 intro cl cs h1 h2
 let b:Frame:={(default:Frame)with fn:=f,kind:=.normal}
 have henter:Frame.enter P f args .normal=b.at (zqe fn args) [.code c]:=by
  simp[Frame.enter,Frame.at,hf,hb,b,zqe]
 rw[henter];refine h b [] (cl::cs) (by simp[b]) λs' e a' w' q=>?_;cases e with
 |normal=>exact hJ.ctl (λw=>stepG_end) (hL s' a' w' b cl cs [] q rfl rfl h1)
 |ret=>exact λtodo=>hL s' a' w' b cl cs todo q rfl rfl h1
 |panic ch=>
  obtain⟨hd,hp⟩:=q;exact λtodo=>hJ.ctl (λw=>by simp[G,stepG,unwind,Frame.catches,Frame.at,hd,hf,b]) (h2 _ _ _ hp)
 |_=>exact q.elim
end rules
end
end Go.Car
namespace Go.Car
inductive Tree(σ α:Type)where
 |ret (a:α)
 |out
 |step (u:σ->σ) (k:σ->Tree σ α)
abbrev Proc(σ α:Type):=σ->σ×Tree σ α
section
variable {σ α β δ:Type}
def Tree.bind:Tree σ α->(α->Proc σ β)->Proc σ β
 |.ret a,K,s=>K a s
 |.out,_,s=>(s,.out)
 |.step u k,K,s=>(s,.step (λs=>((k s).bind K (u s)).1) (λs=>((k s).bind K (u s)).2))
def Proc.bind (p:Proc σ α)(K:α->Proc σ β):Proc σ β:=λs=>(p s).2.bind K (p s).1
def Proc.ret (a:α):Proc σ α:=λs=>(s,.ret a)
def Proc.act (f:σ->σ×α):Proc σ α:=λs=>((f s).1,.ret (f s).2)
def Proc.then (p:Proc σ α):Proc σ α:=λs=>(s,.step (λs=>(p s).1) (λs=>(p s).2))
@[simp] theorem Tree.bind_ret (a : α) (K : α → Proc σ β) (s : σ) : (Tree.ret a : Tree σ α).bind K s = K a s := rfl
@[simp] theorem Tree.bind_out (K : α → Proc σ β) (s : σ) : (Tree.out : Tree σ α).bind K s = (s, .out) := rfl
theorem Proc.bind_ret (a:α)(K:α->Proc σ β):(Proc.ret a:Proc σ α).bind K=K a:=rfl
theorem Tree.bind_bind (t:Tree σ α)(K:α->Proc σ β)(L:β->Proc σ δ):∀s,(t.bind K s).2.bind L (t.bind K s).1=t.bind (λa=>(K a).bind L) s:=by
 induction t with
 |ret a=>intro s;rfl
 |out=>intro s;rfl
 |step u k ih=>
  intro s;show(s,Tree.step _ _)=(s,Tree.step _ _);congr 2
  . funext s'
    exact congrArg Prod.fst (ih s' (u s'))
  . funext s'
    exact congrArg Prod.snd (ih s' (u s'))
theorem Proc.bind_bind (p:Proc σ α)(K:α->Proc σ β)(L:β->Proc σ δ):(p.bind K).bind L=p.bind (λa=>(K a).bind L):=funext λs=>Tree.bind_bind _ K L _
theorem Tree.bind_pure (t:Tree σ α):∀s,t.bind Proc.ret s=(s,t):=by
 induction t with
 |ret a=>intro s;rfl
 |out=>intro s;rfl
 |step u k ih=>
  intro s;show(s,Tree.step _ _)=(s,Tree.step _ _);congr 2
  . funext s'
    exact congrArg Prod.fst (ih s' (u s'))
  . funext s'
    exact congrArg Prod.snd (ih s' (u s'))
theorem Proc.bind_pure (p:Proc σ α):p.bind Proc.ret=p:=funext λs=>Tree.bind_pure _ _
def Tree.Deep:Nat->Tree σ α->Prop
 |0,_=>True
 |_+1,.ret _=>True
 |_+1,.out=>False
 |n+1,.step _ k=>∀s,(k s).Deep n
def Proc.Deep (n:Nat)(p:Proc σ α):Prop:=∀s,(p s).2.Deep n
theorem Tree.Deep.less {n:Nat}:∀{m:Nat}{t:Tree σ α},m<=n->t.Deep n->t.Deep m:=by
 induction n with
 |zero=>intro m t h _;obtain rfl:m=0:=by omega
        trivial
 |succ n ih=>
  intro m t h hd;cases m with
  |zero=>trivial
  |succ m=>
   cases t with
   |ret a=>trivial
   |out=>exact hd
   |step u k=>exact λs=>ih zyo (hd s)
theorem Tree.Deep.bind {n:Nat}:∀{t:Tree σ α}{K:α->Proc σ β},t.Deep n->(∀a,(K a).Deep n)->∀s,(t.bind K s).2.Deep n:=by
 induction n with
 |zero=>intros;trivial
 |succ n ih=>
  intro t K h hK s;cases t with
  |ret a=>exact hK a s
  |out=>exact h.elim
  |step u k=>exact λs'=>ih (h s') (λa s=>Tree.Deep.less (Nat.le_succ n) (hK a s)) _
theorem Proc.Deep.bind {n:Nat}{p:Proc σ α}{K:α->Proc σ β}(h:p.Deep n)(hK:∀a,(K a).Deep n):(p.bind K).Deep n:=λs=>Tree.Deep.bind (h s) hK _
theorem Proc.Deep.ret {n:Nat}(a:α):(Proc.ret a:Proc σ α).Deep n:=λs=>by cases n<;>trivial
theorem Proc.Deep.act {n:Nat}(f:σ->σ×α):(Proc.act f).Deep n:=λs=>by cases n<;>trivial
theorem Proc.Deep.then {n:Nat}{p:Proc σ α}(h:p.Deep n):p.then.Deep n:=λs=>by
 cases n with
 |zero=>trivial
 |succ n=>exact λs'=>Tree.Deep.less (Nat.le_succ n) (h s')
def Tree.run:Tree σ α->σ->σ×Option α×Nat
 |.ret a,s=>(s,some a,0)
 |.out,s=>(s,none,0)
 |.step u k,s=>(((k s).run (u s)).1,((k s).run (u s)).2.1,((k s).run (u s)).2.2+1)
def Proc.run (p:Proc σ α)(s:σ):σ×Option α×Nat:=(p s).2.run (p s).1
theorem Tree.run_bind (t:Tree σ α)(K:α->Proc σ β):∀s,(t.bind K s).2.run (t.bind K s).1=match t.run s with
 |(s',some a,n)=>(((K a).run s').1,((K a).run s').2.1,((K a).run s').2.2+n)
 |(s',none,n)=>(s',none,n):=by
 induction t with
 |ret a=>intro s;rfl
 |out=>intro s;rfl
 |step u k ih=>
  intro s;show(((((k s).bind K (u s)).2).run ((k s).bind K (u s)).1).1,((((k s).bind K (u s)).2).run ((k s).bind K (u s)).1).2.1,((((k s).bind K (u s)).2).run ((k s).bind K (u s)).1).2.2+1)=_;rw[ih s (u s)];show _=match (((k s).run (u s)).1,((k s).run (u s)).2.1,((k s).run (u s)).2.2+1)with
   |(s',some a,n)=>(((K a).run s').1,((K a).run s').2.1,((K a).run s').2.2+n)
   |(s',none,n)=>(s',none,n)
  obtain⟨s1,o,n⟩:=(k s).run (u s);cases o<;>rfl
theorem Proc.run_bind (p:Proc σ α)(K:α->Proc σ β)(s:σ):(p.bind K).run s=match p.run s with
 |(s',some a,n)=>(((K a).run s').1,((K a).run s').2.1,((K a).run s').2.2+n)
 |(s',none,n)=>(s',none,n):=Tree.run_bind _ K _
end
end Go.Car
namespace Go.Car
open Go Go.Conc Go.RowKit
structure Core(Ml S:Type)where
 foot:Ml->Nat->Prop
 Rep:Ml->World->Prop
 st:Ml->S
 frame:∀l w w',Rep l w->(∀b,foot l b->w'.heap[b]?=w.heap[b]?)->Rep l w'
 lt:∀l w b,Rep l w->foot l b->b<w.heap.size
 pin:Ml->Nat
structure BM(Ml:Type)where
 l:Ml
 box:Nat->Nat->Option Obj
def BM.put {Ml:Type}(m:BM Ml)(i:Nat)(l':Ml)(B':Nat->Option Obj):BM Ml:=⟨l',λj=>if j=i then B' else m.box j⟩
structure BRep{Ml S:Type}(C:Core Ml S)(ro:Nat->Option Obj)(m:BM Ml)(w:World):Prop where
 core:C.Rep m.l w
 box:∀i b o,m.box i b=some o->w.heap[b]?=some o
 rod:∀b o,ro b=some o->w.heap[b]?=some o
 apart:∀i b,m.box i b≠none->¬C.foot m.l b
 own:∀i j b,i≠j->m.box i b≠none->m.box j b=none
 rol:∀b,ro b≠none->¬C.foot m.l b
 rob:∀i b,ro b≠none->m.box i b=none
structure Moved{Ml S:Type}(C:Core Ml S)(l:Ml)(B:Nat->Option Obj)(w:World)(l':Ml)(B':Nat->Option Obj)(w':World):Prop where
 size:w.heap.size<=w'.heap.size
 old:∀b,b<w.heap.size->¬C.foot l b->B b=none->w'.heap[b]?=w.heap[b]?
 rep:C.Rep l' w'
 box:∀b o,B' b=some o->w'.heap[b]?=some o
 growl:∀b,C.foot l' b->C.foot l b\/B b≠none\/w.heap.size<=b
 growb:∀b,B' b≠none->B b≠none\/w.heap.size<=b
 apart:∀b,C.foot l' b->B' b=none
 pin:C.pin l'=C.pin l
structure Ext(w w':World):Prop where
 size:w.heap.size<=w'.heap.size
 old:∀b,b<w.heap.size->w'.heap[b]?=w.heap[b]?
theorem Ext.refl (w:World):Ext w w:=⟨Nat.le_refl _,λ_ _=>rfl⟩
theorem Ext.re (w:World)(τ:Nat->Question->Nat)(d:Nat):Ext w (re w τ d):=⟨Nat.le_refl _,λ_ _=>rfl⟩
theorem Ext.trans {a b c:World}(h:Ext a b)(k:Ext b c):Ext a c:=⟨Nat.le_trans h.size k.size,λx hx=>(k.old x (Nat.lt_of_lt_of_le hx h.size)).trans (h.old x hx)⟩
theorem Ext.alloc (w:World)(o:Obj):Ext w (w.alloc o):=by
 have e:(w.alloc o).heap=w.heap.push o:=rfl;refine⟨by rw[e,Array.size_push];omega,λb hb=>?_⟩;rw[e,Array.getElem?_push];rw[if_neg zyo]
theorem zq7{w:World}{b:Nat}{o:Obj}(h:w.heap[b]?=some o):b<w.heap.size:=(Array.getElem?_eq_some_iff.1 h).1
theorem Ext.heap {w w':World}(h:Ext w w'){b:Nat}{o:Obj}(hb:w.heap[b]?=some o):w'.heap[b]?=some o:=(h.old b (zq7 hb)).trans hb
section
variable {Ml S:Type} {C:Core Ml S} {ro:Nat->Option Obj} {i:Nat} {m:BM Ml} {w w':World} {l':Ml} {B':Nat->Option Obj}
@[simp] theorem BM.put_l (m : BM Ml) (i : Nat) (l' : Ml) (B' : Nat → Option Obj) : (m.put i l' B').l = l' := rfl
@[simp] theorem BM.put_box (m : BM Ml) (i : Nat) (l' : Ml) (B' : Nat → Option Obj) : (m.put i l' B').box i = B' := by simp [BM.put]
theorem BM.put_other (m:BM Ml){i j:Nat}(l':Ml)(B':Nat->Option Obj)(h:j≠i):(m.put i l' B').box j=m.box j:=by simp[BM.put,h]
theorem BM.put_same (m:BM Ml)(i:Nat):m.put i m.l (m.box i)=m:=by
 obtain⟨l,box⟩:=m;simp only[BM.put,BM.mk.injEq,true_and]
 funext j
 by_cases h:j=i
 . subst h;simp
 . simp[h]
def BM.foot (C:Core Ml S)(ro:Nat->Option Obj)(m:BM Ml)(b:Nat):Prop:=C.foot m.l b\/(∃i,m.box i b≠none)\/ro b≠none
theorem BRep.lt (h:BRep C ro m w){b:Nat}(hb:BM.foot C ro m b):b<w.heap.size:=by
 rcases hb with hb|⟨i,hb⟩|hb
 . exact C.lt _ _ _ h.core hb
 . cases ho:m.box i b with
   |none=>exact absurd ho hb
   |some o=>exact zq7 (h.box i b o ho)
 . cases ho:ro b with
   |none=>exact absurd ho hb
   |some o=>exact zq7 (h.rod b o ho)
theorem BRep.frame (h:BRep C ro m w)(hs:∀b,BM.foot C ro m b->w'.heap[b]?=w.heap[b]?):BRep C ro m w':=
 ⟨C.frame _ _ _ h.core λb hb=>hs b (.inl hb),λi b o hb=>(hs b (.inr (.inl ⟨i,by rw[hb];simp⟩))).trans (h.box i b o hb),λb o hb=>(hs b (.inr (.inr zx41))).trans (h.rod b o hb),h.apart,h.own,h.rol,h.rob⟩
theorem BRep.re (h:BRep C ro m w)(τ:Nat->Question->Nat)(d:Nat):BRep C ro m (re w τ d):=h.frame λ_ _=>rfl
theorem Moved.done (h:BRep C ro m w)(k:Moved C m.l (m.box i) w l' B' w'):BRep C ro (m.put i l' B') w':=by
 have hb:∀j b,m.box j b≠none->b<w.heap.size:=λj b hb=>h.lt (.inr (.inl ⟨j,hb⟩));have hr:∀b,ro b≠none->b<w.heap.size:=λb hb=>h.lt (.inr (.inr hb));refine⟨k.rep,λj b o hj=>?_,λb o hb'=>?_,λj b hj=>?_,λj1 j2 b hne h1=>?_,λb hb' hf=>?_,λj b hb'=>?_⟩
 . by_cases e:j=i
   . subst e;rw[BM.put_box]at hj;exact k.box b o hj
   . rw[BM.put_other _ _ _ e]at hj;have hn:m.box j b≠none:=by rw[hj];simp
     rw[k.old b (hb j b hn) (h.apart j b hn) (h.own j i b e hn)];exact h.box j b o hj
 . have hn:ro b≠none:=by rw[hb'];simp
   rw[k.old b (hr b hn) (h.rol b hn) (h.rob i b hn)];exact h.rod b o hb'
 . by_cases e:j=i
   . subst e;rw[BM.put_box]at hj;exact λhf=>hj (k.apart b hf)
   . rw[BM.put_other _ _ _ e]at hj;exact λhf=>(k.growl b hf).elim (h.apart j b hj) (λx=>x.elim (λy=>hj (h.own i j b (λz=>e z.symm) y)) (λx=>absurd (hb j b hj) (Nat.not_lt_of_le x)))
 . by_cases e1:j1=i
   . subst e1;rw[BM.put_box]at h1;rw[BM.put_other _ _ _ (Ne.symm hne)];rcases k.growb b h1 with h2|h2
     . exact h.own _ _ b hne h2
     . exact Classical.byContradiction λh3=>absurd (hb j2 b h3) (Nat.not_lt_of_le h2)
   . rw[BM.put_other _ _ _ e1]at h1
     by_cases e2:j2=i
     . subst e2;rw[BM.put_box];refine Classical.byContradiction λh3=>?_;rcases k.growb b h3 with h2|h2
       . exact h2 (h.own _ _ b hne h1)
       . exact absurd (hb j1 b h1) (Nat.not_lt_of_le h2)
     . rw[BM.put_other _ _ _ e2];exact h.own _ _ b hne h1
 . exact(k.growl b hf).elim (h.rol b hb') (λx=>x.elim (λy=>y (h.rob i b hb')) (λx=>absurd (hr b hb') (Nat.not_lt_of_le x)))
 . by_cases e:j=i
   . subst e;rw[BM.put_box];refine Classical.byContradiction λh3=>?_;rcases k.growb b h3 with h2|h2
     . exact h2 (h.rob j b hb')
     . exact absurd (hr b hb') (Nat.not_lt_of_le h2)
   . rw[BM.put_other _ _ _ e];exact h.rob j b hb'
theorem Moved.foot_old (h:BRep C ro m w)(k:Moved C m.l (m.box i) w l' B' w'):∀b,b<w.heap.size->¬BM.foot C ro m b->w'.heap[b]?=w.heap[b]?:=λb hb hf=>
 k.old b hb (λx=>hf (.inl x)) (Classical.byContradiction λx=>hf (.inr (.inl ⟨i,x⟩)))
theorem Moved.foot_grow (k:Moved C m.l (m.box i) w l' B' w'):∀b,BM.foot C ro (m.put i l' B') b->BM.foot C ro m b\/w.heap.size<=b:=by
 rintro b (hb|⟨j,hb⟩|hb)
 . exact(k.growl b hb).elim (λx=>.inl (.inl x)) (λx=>x.elim (λy=>.inl (.inr (.inl ⟨i,y⟩))) .inr)
 . by_cases e:j=i
   . subst e;rw[BM.put_box]at hb;exact(k.growb b hb).imp (λx=>.inr (.inl ⟨j,x⟩)) id
   . rw[BM.put_other _ _ _ e]at hb;exact .inl (.inr (.inl ⟨j,hb⟩))
 . exact .inl (.inr (.inr hb))
theorem Moved.ext (h:BRep C ro m w)(e:Ext w w'):Moved C m.l (m.box i) w m.l (m.box i) w':=
 ⟨e.size,λb hb _ _=>e.old b hb,C.frame _ _ _ h.core λb hb=>e.old b (C.lt _ _ _ h.core hb),λb o hb=>e.heap (h.box i b o hb),λb hb=>.inl hb,λb hb=>.inl hb,
  λb hb=>Classical.byContradiction λx=>h.apart i b x hb,rfl⟩
theorem Moved.re {l:Ml}{B:Nat->Option Obj}(k:Moved C l B w l' B' w')(τ:Nat->Question->Nat)(d:Nat):Moved C l B w l' B' (re w' τ d):=
 ⟨k.size,k.old,C.frame _ _ _ k.rep λ_ _=>rfl,k.box,k.growl,k.growb,k.apart,k.pin⟩
end
structure OwnRep(ro B:Nat->Option Obj)(w:World):Prop where
 box:∀b o,B b=some o->w.heap[b]?=some o
 rod:∀b o,ro b=some o->w.heap[b]?=some o
 rob:∀b,ro b≠none->B b=none
structure OMoved(B:Nat->Option Obj)(w:World)(B':Nat->Option Obj)(w':World):Prop where
 size:w.heap.size<=w'.heap.size
 one:w'.heap.size<=w.heap.size+1
 old:∀b,b<w.heap.size->B b=none->w'.heap[b]?=w.heap[b]?
 box:∀b o,B' b=some o->w'.heap[b]?=some o
 grow:∀b,B' b≠none->B b≠none\/w.heap.size<=b
structure Ext1(w w':World):Prop extends Ext w w' where
 one:w'.heap.size<=w.heap.size+1
theorem Ext1.refl (w:World):Ext1 w w:=⟨Ext.refl w,Nat.le_succ _⟩
theorem Ext1.alloc (w:World)(o:Obj):Ext1 w (w.alloc o):=⟨Ext.alloc w o,by show(w.heap.push o).size<=_;simp⟩
section
variable {Ml S:Type} {C:Core Ml S} {ro B:Nat->Option Obj} {i:Nat} {m:BM Ml} {w w':World} {B':Nat->Option Obj}
theorem BRep.own' (h:BRep C ro m w):OwnRep ro (m.box i) w:=⟨h.box i,h.rod,h.rob i⟩
theorem OwnRep.lt (h:OwnRep ro B w){b:Nat}(hb:B b≠none):b<w.heap.size:=by
 cases ho:B b with
 |none=>exact absurd ho hb
 |some o=>exact zq7 (h.box b o ho)
theorem OMoved.ext (h:OwnRep ro B w)(e:Ext1 w w'):OMoved B w B w':=⟨e.size,e.one,λb hb _=>e.old b hb,λb o hb=>e.heap (h.box b o hb),λb hb=>.inl hb⟩
theorem OMoved.moved (h:BRep C ro m w)(k:OMoved (m.box i) w B' w'):Moved C m.l (m.box i) w m.l B' w':=by
 have hbx:∀b,C.foot m.l b->m.box i b=none:=λb hb=>Classical.byContradiction λx=>h.apart i b x hb;have hlt:∀b,C.foot m.l b->b<w.heap.size:=λb hb=>C.lt _ _ _ h.core hb;exact⟨k.size,λb hb' _ hn=>k.old b hb' hn,C.frame _ _ _ h.core λb hb'=>k.old b (hlt b hb') (hbx b hb'),k.box,λb hb'=>.inl hb',k.grow,λb hb'=>Classical.byContradiction λx=>(k.grow b x).elim (λy=>y (hbx b hb')) (λy=>absurd (hlt b hb') (Nat.not_lt_of_le y)),rfl⟩
end
def Proc.tick {S:Type}:Proc S Unit:=Proc.then (Proc.ret ())
structure YSys(P:Program)(A:FuncId->Bool){Ml S:Type}(C:Core Ml S)(ro:Nat->Option Obj)(i:Nat)(β:Type)where
 main:Bool
 γ:Type
 J:γ->Goroutine->World->Prop
 jc:JC P main J
 At:γ->BM Ml->World->Proc S β->Prop
 Dead:γ->List PanicEntry->World->Prop
 Kn:BM Ml->World->Prop
 sil:Proc S β->Prop
 kn:∀{m w},Kn m w->OwnRep ro (m.box i) w
 sil_tick:∀K:Unit->Proc S β,sil (Proc.tick.bind K)
 drop:∀{s m w p B'},At s m w p->(∀b o,B' b=some o->m.box i b=some o)->At s (m.put i m.l B') w p
 item:∀{s m w p}{it:Item}{t:Array Value}{ds:List Deferred}(Φ Ψ:Array Value->(Nat->Option Obj)->Prop),At s m w p->zq11 P A it=true->
  (∀wc,Kn m wc->zq2x P it (ends (λa w'=>∃B',OMoved (m.box i) wc B' w'/\Φ a.tmps B') (λa w'=>∃B',OMoved (m.box i) wc B' w'/\Ψ a.tmps B')) ⟨t,[]⟩ wc)->
  wpI J it (λs' e a w'=>s'=s/\a.defers=ds/\∃m',((e=.normal/\Φ a.tmps (m'.box i))\/(e=.ret/\Ψ a.tmps (m'.box i)))/\At s m' w' p) s ⟨t,ds⟩ w
 pre:∀{s m w p}{ops:Array Oper}{todo rest:List Nat}{t:Array Value}{ds:List Deferred}{Q:γ->Exit->Act->World->Prop}(k n q:Nat)(Φ:Array Value->(Nat->Option Obj)->Prop),At s m w p->
  k+n+q=ops.size->todo=List.range' k (n+q)->rest=List.range' (k+n) q->chk P (λ_=>false) true ops k n=true->
  (∀wc,Kn m wc->∀X:Exit->Act->World->Prop,(∀t' B' w',OMoved (m.box i) wc B' w'->Φ t' B'->X .normal ⟨t',ds⟩ w')->wpList P ops X ((ops.toList.drop k).take n) ⟨t,ds⟩ wc)->
  (∀t' m' w',Φ t' (m'.box i)->At s m' w' p->opsJ J ops rest Q s ⟨t',ds⟩ w')->opsJ J ops todo Q s ⟨t,ds⟩ w
 call:∀{s m w p}{f:FuncId}{fn:Func}{c:Code}{args:Array Value}(R:Value->(Nat->Option Obj)->Prop),At s m w p->P.funcs[f]?=some fn->fn.body=some c->zqn P A c=true->
  (∀wc,Kn m wc->Calls P f args wc (zq3i λv w'=>∃B',OMoved (m.box i) wc B' w'/\R v B'))->
  CallsJ P J f args (λs' e w'=>s'=s/\∃v m',e=.returned v/\R v (m'.box i)/\At s m' w' p) s w
 leave:∀{s m w p}{b cl:Frame}{cs:List Frame}{todo:List Item}{a:Act}{fn:Func}{v:Value},At s m w p->P.funcs[b.fn]?=some fn->b.kind=.normal->a.defers=[]->(∀wc,Kn m wc->(results fn a.tmps).run P wc=.ok v wc)->
  (∀m' w',m'.box i=m.box i->At s m' w' p->J s (G (cl.finish v) cs) w')->J s (G {b.at a todo with mode:=.returning} (cl::cs)) w
section
variable {P:Program} {A:FuncId->Bool} {Ml S β α:Type} {C:Core Ml S} {ro:Nat->Option Obj} {i:Nat}
def YSys.Bd (Y:YSys P A C ro i β)(fn:Func)(Post:Y.γ->Ending->World->Prop)(s:Y.γ)(a:Act)(w:World):Prop:=
 a.defers=[]/\((∃v,ResultsC P fn a.tmps v/\Post s (.returned v) w)\/∃m p v,Y.At s m w p/\(∀wc,Y.Kn m wc->(results fn a.tmps).run P wc=.ok v wc)/\∀m' w',m'.box i=m.box i->Y.At s m' w' p->Post s (.returned v) w')
def BodyY(Y:YSys P A C ro i β)(f:FuncId)(args:Array Value)(Post:Y.γ->Ending->World->Prop)(s:Y.γ)(w:World):Prop:=
 ∃fn c,P.funcs[f]?=some fn/\fn.body=some c/\wpJ Y.J c (bodyC (Y.Bd fn Post) Post) s (zqe fn args) w
def PostY(Y:YSys P A C ro i β)(K:α->Proc S β)(val:α->Value)(B:Nat->Option Obj)(s:Y.γ):Ending->World->Prop
 |.returned v,w=>∃a m,v=val a/\m.box i=B/\Y.At s m w (K a)
 |.panicked ch,w=>Y.Dead s ch w
 |.outgrown,_=>False
def SpecY(Y:YSys P A C ro i β)(f:FuncId)(args:Array Value)(p:Proc S α)(val:α->Value):Prop:=
 ∀(K:α->Proc S β)(s:Y.γ)(m:BM Ml)(w:World),(∀a,Y.sil (K a))->Y.At s m w (p.bind K)->CallsJ P Y.J f args (PostY Y K val (m.box i)) s w
def SpecB(Y:YSys P A C ro i β)(f:FuncId)(args:Array Value)(p:Proc S α)(val:α->Value):Prop:=
 ∀(K:α->Proc S β)(s:Y.γ)(m:BM Ml)(w:World),(∀a,Y.sil (K a))->Y.At s m w (p.bind K)->BodyY Y f args (PostY Y K val (m.box i)) s w
def StepY(Y:YSys P A C ro i β)(f:FuncId)(args:Array Value):Prop:=
 ∀(K:Unit->Proc S β)(s:Y.γ)(m:BM Ml)(w:World),Y.At s m w (Proc.tick.bind K)->CallsJ P Y.J f args (PostY Y K (λ_=>.tuple #[]) (m.box i)) s w
theorem BodyY.calls {Y:YSys P A C ro i β}{f:FuncId}{args:Array Value}{Post:Y.γ->Ending->World->Prop}{s:Y.γ}{w:World}(h:BodyY Y f args Post s w):CallsJ P Y.J f args Post s w:=by
 obtain⟨fn,c,h1,h2,h3⟩:=h;refine zq7y Y.jc h1 h2 ?_ h3;rintro s a w b cl cs todo ⟨hd,(⟨v,k1,k2⟩|⟨m,p,v,k1,k2,k3⟩)⟩ rfl hk hP
 . exact Y.jc.ctl (λw=>stepG_leave hk hd h1 (k1 w).1 (k1 w).2) (hP _ _ _ k2)
 . exact Y.leave k1 h1 hk hd k2 λm' w' e hA=>hP _ _ _ (k3 m' w' e hA)
theorem SpecB.spec {Y:YSys P A C ro i β}{f:FuncId}{args:Array Value}{p:Proc S α}{val:α->Value}(h:SpecB Y f args p val):SpecY Y f args p val:=λK s m w hK hA=>(h K s m w hK hA).calls
end
structure Alone(P:Program)(A:FuncId->Bool){Ml S:Type}(C:Core Ml S)(ro:Nat->Option Obj)(i:Nat)(β:Type)where
 main:Bool
 γ:Type
 J:γ->Goroutine->World->Prop
 js:∀s,∃Kc,JS P main Kc (λ(_:Unit)=>J s)
 AtE:γ->BM Ml->World->S×Tree S β->Prop
 Dead:γ->List PanicEntry->World->Prop
 Oth:S->S->Prop
 oth:∀s,Oth s s
 rep:∀{s m w r},AtE s m w r->BRep C ro m w
 move:∀{s m w r l' B' w'},AtE s m w r->Moved C m.l (m.box i) w l' B' w'->Oth (C.st m.l) (C.st l')->AtE s (m.put i l' B') w' r
 item:∀{s m w r}{it:Item}{t:Array Value}{ds:List Deferred}(Φ Ψ:Array Value->Ml->(Nat->Option Obj)->Prop),AtE s m w r->zq11 P A it=true->
  (∀wc,BRep C ro m wc->wc.heap.size=w.heap.size->zq2x P it (ends (λa w'=>∃l' B',(Moved C m.l (m.box i) wc l' B' w'/\Oth (C.st m.l) (C.st l'))/\Φ a.tmps l' B') (λa w'=>∃l' B',(Moved C m.l (m.box i) wc l' B' w'/\Oth (C.st m.l) (C.st l'))/\Ψ a.tmps l' B')) ⟨t,[]⟩ wc)->
  wpI J it (λs' e a w'=>s'=s/\a.defers=ds/\∃l' B',((e=.normal/\Φ a.tmps l' B')\/(e=.ret/\Ψ a.tmps l' B'))/\AtE s (m.put i l' B') w' r) s ⟨t,ds⟩ w
 call:∀{s m w r}{f:FuncId}{fn:Func}{c:Code}{args:Array Value}(R:Value->Ml->(Nat->Option Obj)->Prop),AtE s m w r->P.funcs[f]?=some fn->fn.body=some c->zqn P A c=true->
  (∀wc,BRep C ro m wc->wc.heap.size=w.heap.size->Calls P f args wc (zq3i λv w'=>∃l' B',(Moved C m.l (m.box i) wc l' B' w'/\Oth (C.st m.l) (C.st l'))/\R v l' B'))->
  CallsJ P J f args (λs' e w'=>s'=s/\∃v l' B',e=.returned v/\R v l' B'/\AtE s (m.put i l' B') w' r) s w
section
variable {P:Program} {A:FuncId->Bool} {Ml S β α:Type} {C:Core Ml S} {ro:Nat->Option Obj} {i:Nat}
def Alone.sys (Z:Alone P A C ro i β)(I:S->Prop):YSys P A C ro i β where
 main:=Z.main
 γ:=Z.γ
 J:=Z.J
 jc:=.of_js Z.js
 At s m w p:=Z.AtE s m w (p (C.st m.l))/\I (C.st m.l)
 Dead:=Z.Dead
 Kn m w:=BRep C ro m w
 sil _:=True
 kn h:=h.own'
 sil_tick _:=trivial
 drop {s m w p B'} h hB:=⟨Z.move h.1 ⟨Nat.le_refl _,λ_ _ _ _=>rfl,(Z.rep h.1).core,λb o hb=>(Z.rep h.1).box i b o (hB b o hb),λb hb=>.inl hb,λb hb=>.inl (by
  cases ho:B' b with
  |none=>exact absurd ho hb
  |some o=>rw[hB b o ho];simp),λb hb=>Classical.byContradiction λx=>(Z.rep h.1).apart i b (by
  cases ho:B' b with
  |none=>exact absurd ho x
  |some o=>rw[hB b o ho];simp) hb,rfl⟩ (Z.oth _),h.2⟩
 item {s m w p it t ds} Φ Ψ h hok hw:=by
  intro b k cs hb hk;refine Z.item (λt l' B'=>l'=m.l/\Φ t B') (λt l' B'=>l'=m.l/\Ψ t B') h.1 hok (λwc hB _=>zq3q (hw wc hB) λe a w' q=>?_) b k cs hb ?_
  . cases e with
    |normal=>obtain⟨q1,B',q2,q3⟩:=q;exact⟨q1,m.l,B',⟨q2.moved hB,Z.oth _⟩,rfl,q3⟩
    |ret=>obtain⟨q1,B',q2,q3⟩:=q;exact⟨q1,m.l,B',⟨q2.moved hB,Z.oth _⟩,rfl,q3⟩
    |_=>exact q
  . rintro s' e a w' ⟨rfl,hd,l',B',hh,hA⟩;refine hk s' e a w' ⟨rfl,hd,m.put i l' B',?_,?_⟩
    . rw[BM.put_box];exact hh.imp (λx=>⟨x.1,x.2.2⟩) (λx=>⟨x.1,x.2.2⟩)
    . have e:l'=m.l:=hh.elim (·.2.1) (·.2.1);subst e;exact⟨hA,h.2⟩
 pre {s m w p ops todo rest t ds Q} k n q Φ h hsz ht hr hc hw hrest:=by
  intro b kk cs hb hQ;obtain⟨Kc,hJ⟩:=Z.js s;refine zq12 (J:=λ(_:Unit)=>Z.J s) (s:=()) hb hJ (zqu P) true (.inl rfl) k n q hsz ht hr hc λτ d=>?_;refine hw (Car.re w τ d) ((Z.rep h.1).re τ d) _ λt' B' w' k1 k2=>?_;have k1':Moved C m.l (m.box i) w m.l B' w':=by
   have:=k1.moved ((Z.rep h.1).re τ d);exact⟨this.size,this.old,this.rep,this.box,this.growl,this.growb,this.apart,this.pin⟩
  refine hrest t' (m.put i m.l B') w' (by rw[BM.put_box];exact k2) ⟨Z.move h.1 k1' (Z.oth _),h.2⟩ b kk cs hb hQ
 call {s m w p f fn c args} R h hf hb hok hw:=by
  intro cl cs h1 h2;refine Z.call (λv l' B'=>l'=m.l/\R v B') h.1 hf hb hok (λwc hB _=>Calls.mono (hw wc hB) λe w' q=>?_) cl cs ?_ ?_
  . cases e with
    |returned v=>obtain⟨B',k1,k2⟩:=q;exact⟨m.l,B',⟨k1.moved hB,Z.oth _⟩,rfl,k2⟩
    |_=>exact q
  . rintro s' v w' ⟨rfl,v',l',B',e,⟨rfl,k⟩,hA⟩;exact h1 _ v w' ⟨rfl,v',m.put i m.l B',e,by rw[BM.put_box];exact k,hA,h.2⟩
  . rintro s' ch w' ⟨_,_,_,_,e,_⟩;cases e
 leave {s m w p b cl cs todo a fn v} h hf hk hd hr hP:=by
  obtain⟨Kc,hJ⟩:=Z.js s;exact zq28 (J:=λ(_:Unit)=>Z.J s) (s:=()) hJ hk hd hf (λτ d=>hr _ ((Z.rep h.1).re τ d)) (hP m w rfl h)
theorem Alone.act (Z:Alone P A C ro i β){I:S->Prop}{f:FuncId}{fn:Func}{c:Code}{args:Array Value}{g:S->S×α}{val:α->Value}(hf:P.funcs[f]?=some fn)(hb:fn.body=some c)(hok:zqn P A c=true)(hI:∀s,I s->I (g s).1)(hO:∀s,Z.Oth s (g s).1)
 (h:∀m wc,BRep C ro m wc->Calls P f args wc (zq3i λv w'=>∃l',Moved C m.l (m.box i) wc l' (m.box i) w'/\C.st l'=(g (C.st m.l)).1/\v=val (g (C.st m.l)).2)):SpecY (Z.sys I) f args (Proc.act g) val:=by
 rintro K s m w _ ⟨hA,hAI⟩ cl cs h1 h2;refine Z.call (λv l' B'=>B'=m.box i/\C.st l'=(g (C.st m.l)).1/\v=val (g (C.st m.l)).2) hA hf hb hok (λwc hB _=>Calls.mono (h m wc hB) λe w' q=>?_) cl cs ?_ ?_
 . cases e with
   |returned v=>obtain⟨l',k1,k2,k3⟩:=q;exact⟨l',m.box i,⟨k1,by rw[k2];exact hO _⟩,rfl,k2,k3⟩
   |_=>exact q
 . rintro s' v w' ⟨rfl,v',l',B',e,⟨rfl,k1,rfl⟩,hA'⟩;cases e;refine h1 _ _ _ ⟨_,m.put i l' (m.box i),rfl,BM.put_box _ _ _ _,?_,?_⟩
   . rw[BM.put_l,k1];exact hA'
   . rw[BM.put_l,k1];exact hI _ hAI
 . rintro s' ch w' ⟨_,_,_,_,e,_⟩;cases e
theorem Alone.actS (Z:Alone P A C ro i β){I I':S->Prop}{x:Code}{g:S->S×α}{K:α->Proc S β}{s:Z.γ}{m:BM Ml}{w:World}{t:Array Value}{ds:List Deferred}{Q:Z.γ->Exit->Act->World->Prop}(Φ:Array Value->(Nat->Option Obj)->Prop)(h:(Z.sys I).At s m w ((Proc.act g).bind K))(hok:zqn P A x=true)
 (hI:∀s,I s->I' (g s).1) (hO:∀s,Z.Oth s (g s).1)
 (hx:∀wc,BRep C ro m wc->I (C.st m.l)->∀X:Act->World->Prop,(∀t l' B' w',Moved C m.l (m.box i) wc l' B' w'->C.st l'=(g (C.st m.l)).1->Φ t B'->X ⟨t,[]⟩ w')->Code.wp P x (ends X (λ_ _=>False)) ⟨t,[]⟩ wc)
 (hy:∀t' m' w',Φ t' (m'.box i)->(Z.sys I').At s m' w' (K (g (C.st m.l)).2)->Q s .normal ⟨t',ds⟩ w'):wpJ Z.J x Q s ⟨t,ds⟩ w:=by
 intro b k cs hb hk;refine Z.item (it:=.code x) (ds:=ds) (λt l' B'=>C.st l'=(g (C.st m.l)).1/\Φ t B') (λ_ _ _=>False) h.1 hok (λwc hB _=>zq3q (zqco (hx wc hB h.2 (λa w'=>∃l' B',(Moved C m.l (m.box i) wc l' B' w'/\Z.Oth (C.st m.l) (C.st l'))/\C.st l'=(g (C.st m.l)).1/\Φ a.tmps B') λt l' B' w' k1 k2 k3=>⟨l',B',⟨k1,by rw[k2];exact hO _⟩,k2,k3⟩)) λe a w' q=>?_) b k cs hb ?_
 . exact zx28
 . rintro s' e a w' ⟨rfl,hd,l',B',(⟨rfl,h1,h2⟩|⟨_,h1⟩),hA⟩
   . obtain⟨tt,dd⟩:=a;simp only at h2 hd;subst hd;refine hk _ .normal _ _ (hy tt (m.put i l' B') w' (by rw[BM.put_box];exact h2) ⟨?_,?_⟩)
     . rw[BM.put_l,h1];exact hA
     . rw[BM.put_l,h1];exact hI _ h.2
   . exact h1.elim
end
section
variable {M1 S1 M2 S2:Type} {C:Core M1 S1} {D:Core M2 S2} {ro:Nat->Option Obj} {i:Nat}
def zqc(C:Core M1 S1)(D:Core M2 S2):Core (M1×M2) (S1×S2) where
 foot l b:=C.foot l.1 b\/D.foot l.2 b
 Rep l w:=C.Rep l.1 w/\D.Rep l.2 w/\∀b,C.foot l.1 b->¬D.foot l.2 b
 st l:=(C.st l.1,D.st l.2)
 frame l w w' h hs:=⟨C.frame _ _ _ h.1 λb hb=>hs b (.inl hb),D.frame _ _ _ h.2.1 λb hb=>hs b (.inr hb),h.2.2⟩
 lt l w b h hb:=hb.elim (C.lt _ _ _ h.1) (D.lt _ _ _ h.2.1)
 pin l:=D.pin l.2
theorem Moved.left {m:BM (M1×M2)}{w w':World}{l1':M1}{B':Nat->Option Obj}(h:BRep (zqc C D) ro m w)(k:Moved C m.l.1 (m.box i) w l1' B' w'):Moved (zqc C D) m.l (m.box i) w (l1',m.l.2) B' w':=by
 have hlt:∀b,D.foot m.l.2 b->b<w.heap.size:=λb hb=>D.lt _ _ _ h.core.2.1 hb;have hbx:∀b,D.foot m.l.2 b->m.box i b=none:=λb hb=>Classical.byContradiction λx=>h.apart i b x (.inr hb);refine⟨k.size,λb hb hf hn=>k.old b hb (λx=>hf (.inl x)) hn,⟨k.rep,D.frame _ _ _ h.core.2.1 λb hb=>k.old b (hlt b hb) (λx=>h.core.2.2 b x hb) (hbx b hb),λb hb hd=>?_⟩,k.box,λb hb=>?_,k.growb,λb hb=>?_,rfl⟩
 . exact(k.growl b hb).elim (λx=>h.core.2.2 b x hd) (λx=>x.elim (λy=>y (hbx b hd)) (λx=>absurd (hlt b hd) (Nat.not_lt_of_le x)))
 . exact hb.elim (λx=>(k.growl b x).imp .inl id) (λx=>.inl (.inr x))
 . refine hb.elim (k.apart b) λx=>Classical.byContradiction λy=>?_;exact(k.growb b y).elim (λz=>z (hbx b x)) (λz=>absurd (hlt b x) (Nat.not_lt_of_le z))
end
def YSys.AtB {P:Program}{A:FuncId->Bool}{Ml S β:Type}{C:Core Ml S}{ro:Nat->Option Obj}{i:Nat}(Y:YSys P A C ro i β)(B:Nat->Option Obj)(s:Y.γ)(w:World)(p:Proc S β):Prop:=∃m,m.box i=B/\Y.At s m w p
def YSys.KnB {P:Program}{A:FuncId->Bool}{Ml S β:Type}{C:Core Ml S}{ro:Nat->Option Obj}{i:Nat}(Y:YSys P A C ro i β)(B:Nat->Option Obj)(w:World):Prop:=∃m,m.box i=B/\Y.Kn m w
section
variable {P:Program} {A:FuncId->Bool} {Ml S β α:Type} {C:Core Ml S} {ro:Nat->Option Obj} {i:Nat} {Y:YSys P A C ro i β} {B:Nat->Option Obj}
variable {Q:Y.γ->Exit->Act->World->Prop} {s:Y.γ} {w:World} {p:Proc S β} {t:Array Value} {ds:List Deferred}
theorem YSys.KnB.own {wc:World}(h:Y.KnB B wc):OwnRep ro B wc:=by
 obtain⟨m,rfl,h⟩:=h;exact Y.kn h
theorem YSys.AtB.drop {B':Nat->Option Obj}(h:Y.AtB B s w p)(hB:∀b o,B' b=some o->B b=some o):Y.AtB B' s w p:=by
 obtain⟨m,rfl,h⟩:=h;exact⟨_,BM.put_box _ _ _ _,Y.drop h hB⟩
theorem YSys.itemX {it:Item}(Φ Ψ:Array Value->(Nat->Option Obj)->Prop)(h:Y.AtB B s w p)(hok:zq11 P A it=true)
 (hx:∀wc,Y.KnB B wc->∀X R:Act->World->Prop,(∀t B' w',OMoved B wc B' w'->Φ t B'->X ⟨t,[]⟩ w')->(∀t B' w',OMoved B wc B' w'->Ψ t B'->R ⟨t,[]⟩ w')->zq2x P it (ends X R) ⟨t,[]⟩ wc):
 wpI Y.J it (λs' e a w'=>s'=s/\a.defers=ds/\∃B',((e=.normal/\Φ a.tmps B')\/(e=.ret/\Ψ a.tmps B'))/\Y.AtB B' s w' p) s ⟨t,ds⟩ w:=by
 obtain⟨m,rfl,h⟩:=h;intro b k cs hb hk;refine Y.item (ds:=ds) Φ Ψ h hok (λwc hB=>hx wc ⟨m,rfl,hB⟩ _ _ (λt B' w' k1 k2=>⟨B',k1,k2⟩) (λt B' w' k1 k2=>⟨B',k1,k2⟩)) b k cs hb ?_;rintro s' e a w' ⟨rfl,hd,m',hh,hA⟩;exact hk s' e a w' ⟨rfl,hd,m'.box i,hh,m',rfl,hA⟩
theorem YSys.codeX {x:Code}(Φ:Array Value->(Nat->Option Obj)->Prop)(h:Y.AtB B s w p)(hok:zqn P A x=true)
 (hx:∀wc,Y.KnB B wc->∀X:Act->World->Prop,(∀t B' w',OMoved B wc B' w'->Φ t B'->X ⟨t,[]⟩ w')->Code.wp P x (ends X (λ_ _=>False)) ⟨t,[]⟩ wc)
 (hy:∀t' B' w',Φ t' B'->Y.AtB B' s w' p->Q s .normal ⟨t',ds⟩ w'):wpJ Y.J x Q s ⟨t,ds⟩ w:=by
 intro b k cs hb hk;refine Y.itemX (it:=.code x) (ds:=ds) Φ (λ_ _=>False) h hok (λwc hB X R hX _=>zq3q (zqco (hx wc hB X hX)) λe a w' q=>?_) b k cs hb ?_
 . exact zx28
 . exact zx1t
theorem YSys.seqX {x y:Code}(Φ:Array Value->(Nat->Option Obj)->Prop)(h:Y.AtB B s w p)(hok:zqn P A x=true)
 (hx:∀wc,Y.KnB B wc->∀X:Act->World->Prop,(∀t B' w',OMoved B wc B' w'->Φ t B'->X ⟨t,[]⟩ w')->Code.wp P x (ends X (λ_ _=>False)) ⟨t,[]⟩ wc)
 (hy:∀t' B' w',Φ t' B'->Y.AtB B' s w' p->wpJ Y.J y Q s ⟨t',ds⟩ w'):wpJ Y.J (.seq x y) Q s ⟨t,ds⟩ w:=by
 refine zqh Y.jc ?_;exact Y.codeX Φ h hok hx hy
theorem YSys.code0 {x:Code}{t':Array Value}(h:Y.AtB B s w p)(hok:zqn P A x=true)
 (hx:∀wc,Y.KnB B wc->Code.wp P x (ends (λa w'=>Ext1 wc w'/\a.tmps=t') (λ_ _=>False)) ⟨t,[]⟩ wc)
 (hy:∀w',Y.AtB B s w' p->Q s .normal ⟨t',ds⟩ w'):wpJ Y.J x Q s ⟨t,ds⟩ w:=by
 refine Y.codeX (λt B'=>t=t'/\B'=B) h hok (λwc hB X hX=>Code.wp_mono (λe a w' q=>?_) (hx wc hB)) ?_
 . exact zx1k
 . rintro _ _ w' ⟨rfl,rfl⟩ hA;exact hy w' hA
theorem YSys.seq0 {x y:Code}{t':Array Value}(h:Y.AtB B s w p)(hok:zqn P A x=true)
 (hx:∀wc,Y.KnB B wc->Code.wp P x (ends (λa w'=>Ext1 wc w'/\a.tmps=t') (λ_ _=>False)) ⟨t,[]⟩ wc)
 (hy:∀w',Y.AtB B s w' p->wpJ Y.J y Q s ⟨t',ds⟩ w'):wpJ Y.J (.seq x y) Q s ⟨t,ds⟩ w:=by
 refine zqh Y.jc ?_;exact Y.code0 h hok hx hy
theorem YSys.opsX {ops:Array Oper}{todo:List Nat}(k n:Nat)(Φ:Array Value->(Nat->Option Obj)->Prop)(h:Y.AtB B s w p)(hsz:k+n=ops.size)(ht:todo=List.range' k n)(hok:zq11 P A (.inRegion ops todo)=true)
 (hx:∀wc,Y.KnB B wc->∀X:Act->World->Prop,(∀t B' w',OMoved B wc B' w'->Φ t B'->X ⟨t,[]⟩ w')->wpList P ops (ends X (λ_ _=>False)) (ops.toList.drop k) ⟨t,[]⟩ wc)
 (hy:∀t' B' w',Φ t' B'->Y.AtB B' s w' p->Q s .normal ⟨t',ds⟩ w'):opsJ Y.J ops todo Q s ⟨t,ds⟩ w:=by
 intro b kk cs hb hk;refine Y.itemX (it:=.inRegion ops todo) (ds:=ds) Φ (λ_ _=>False) h hok (λwc hB X R hX _=>zq3q (zqcp k n hsz ht (hx wc hB X hX)) λe a w' q=>?_) b kk cs hb ?_
 . exact zx28
 . exact zx1t
theorem YSys.ops0 {ops:Array Oper}{todo:List Nat}(k n:Nat){t':Array Value}(h:Y.AtB B s w p)(hsz:k+n=ops.size)(ht:todo=List.range' k n)(hok:zq11 P A (.inRegion ops todo)=true)
 (hx:∀wc,Y.KnB B wc->wpList P ops (ends (λa w'=>Ext1 wc w'/\a.tmps=t') (λ_ _=>False)) (ops.toList.drop k) ⟨t,[]⟩ wc)
 (hy:∀w',Y.AtB B s w' p->Q s .normal ⟨t',ds⟩ w'):opsJ Y.J ops todo Q s ⟨t,ds⟩ w:=by
 intro b kk cs hb hk;refine Y.itemX (it:=.inRegion ops todo) (ds:=ds) (λt B'=>t=t'/\B'=B) (λ_ _=>False) h hok (λwc hB X R hX _=>zq3q (zqcp k n hsz ht (hx wc hB)) λe a w' q=>?_) b kk cs hb ?_
 . exact zx1k
 . rintro s' e a w' ⟨rfl,hd,B',(⟨rfl,h1,rfl⟩|⟨_,h1⟩),hA⟩
   . obtain⟨tt,dd⟩:=a;simp only at h1 hd;subst h1 hd;exact hk _ .normal _ _ (hy w' hA)
   . exact h1.elim
theorem YSys.preX {ops:Array Oper}{todo rest:List Nat}(k n q:Nat)(Φ:Array Value->(Nat->Option Obj)->Prop)(h:Y.AtB B s w p)(hsz:k+n+q=ops.size)(ht:todo=List.range' k (n+q))(hr:rest=List.range' (k+n) q)(hc:chk P (λ_=>false) true ops k n=true)
 (hx:∀wc,Y.KnB B wc->∀X:Exit->Act->World->Prop,(∀t' B' w',OMoved B wc B' w'->Φ t' B'->X .normal ⟨t',ds⟩ w')->wpList P ops X ((ops.toList.drop k).take n) ⟨t,ds⟩ wc)
 (hy:∀t' B' w',Φ t' B'->Y.AtB B' s w' p->opsJ Y.J ops rest Q s ⟨t',ds⟩ w'):opsJ Y.J ops todo Q s ⟨t,ds⟩ w:=by
 obtain⟨m,rfl,h⟩:=h;exact Y.pre k n q Φ h hsz ht hr hc (λwc hB X hX=>hx wc ⟨m,rfl,hB⟩ X hX) λt' m' w' h1 h2=>hy t' _ w' h1 ⟨m',rfl,h2⟩
theorem YSys.pre0 {ops:Array Oper}{todo rest:List Nat}(k n q:Nat){t₁:Array Value}(h:Y.AtB B s w p)(hsz:k+n+q=ops.size)(ht:todo=List.range' k (n+q))(hr:rest=List.range' (k+n) q)(hc:chk P (λ_=>false) true ops k n=true)
 (hx:∀wc,Y.KnB B wc->∀X:Exit->Act->World->Prop,(∀w',Ext1 wc w'->X .normal ⟨t₁,ds⟩ w')->wpList P ops X ((ops.toList.drop k).take n) ⟨t,ds⟩ wc)
 (hy:∀w',Y.AtB B s w' p->opsJ Y.J ops rest Q s ⟨t₁,ds⟩ w'):opsJ Y.J ops todo Q s ⟨t,ds⟩ w:=by
 refine Y.preX k n q (λt B'=>t=t₁/\B'=B) h hsz ht hr hc (λwc hB X hX=>hx wc hB X λw' k1=>hX _ _ _ (OMoved.ext hB.own k1) ⟨rfl,rfl⟩) ?_;rintro _ _ w' ⟨rfl,rfl⟩ hA;exact hy w' hA
theorem YSys.callO {ops:Array Oper}{rest:List Nat}{j:Nat}{o:Oper}{f:FuncId}{args:Array Value}{Post:Y.γ->Ending->World->Prop}{d₀:Tmp}(hc:CallsJ P Y.J f args Post s w)(ho:ops[j]?=some o)(hg:o.guard=none)(hd₀:o.dst=some d₀)
 (hrun:∀w,(execOp (Act.mk t ds).eval o).run P w=.ok (.enter f args) w) (hev:∀w,(execOp (Act.mk t ds).eval o).events P w #[]=#[])
 (hk:∀s' e w',Post s' e w'->match e with
  |.returned v=>opsJ Y.J ops rest Q s' ⟨t.setIfInBounds d₀ v,ds⟩ w'
  |.panicked ch=>Q s' (.panic ch) ⟨t,ds⟩ w'
  |.outgrown=>False):opsJ Y.J ops (j::rest) Q s ⟨t,ds⟩ w:=by
 refine zqfk Y.jc ho (by simp[Region.wanted,hg]) hrun hev hc ?_;intro s' e w' hp;have:=hk s' e w' hp;cases e with
 |returned v=>rw[hd₀];exact this
 |panicked ch=>exact this
 |outgrown=>exact this
theorem YSys.callR {ops:Array Oper}{todo rest:List Nat}(k n q:Nat){t₁:Array Value}{o:Oper}{f:FuncId}{args:Array Value}{pp:Proc S α}{val:α->Value}{K:α->Proc S β}{d₀:Tmp}(hA:Y.AtB B s w (pp.bind K))(hspec:SpecY Y f args pp val)(hK:∀a,Y.sil (K a))
 (hsz:k+n+(q+1)=ops.size) (ht:todo=List.range' k (n+(q+1))) (hr:rest=List.range' (k+n+1) q) (hc:chk P (λ_=>false) true ops k n=true) (ho:ops[k+n]?=some o) (hg:o.guard=none) (hd₀:o.dst=some d₀)
 (hpre:∀wc,Y.KnB B wc->∀X:Exit->Act->World->Prop,(∀w',Ext1 wc w'->X .normal ⟨t₁,ds⟩ w')->wpList P ops X ((ops.toList.drop k).take n) ⟨t,ds⟩ wc)
 (hrun:∀w,(execOp (Act.mk t₁ ds).eval o).run P w=.ok (.enter f args) w) (hev:∀w,(execOp (Act.mk t₁ ds).eval o).events P w #[]=#[])
 (hd:∀s' ch w',Y.Dead s' ch w'->Q s' (.panic ch) ⟨t₁,ds⟩ w')
 (hk:∀s' a w',Y.AtB B s' w' (K a)->opsJ Y.J ops rest Q s' ⟨t₁.setIfInBounds d₀ (val a),ds⟩ w'):opsJ Y.J ops todo Q s ⟨t,ds⟩ w:=by
 refine Y.pre0 k n (q+1) (rest:=(k+n)::rest) hA hsz ht (by rw[hr,List.range'_succ]) hc hpre λw' hA'=>?_;obtain⟨m,rfl,hA'⟩:=hA';refine Y.callO (hspec K s m w' hK hA') ho hg hd₀ hrun hev ?_;intro s' e w'' hp;cases e with
 |returned v=>
  obtain⟨a,m',rfl,k1,k2⟩:=hp;exact hk s' a w'' ⟨m',k1,k2⟩
 |panicked ch=>exact hd s' ch w'' hp
 |outgrown=>exact hp
theorem YSys.callS {ops:Array Oper}{todo rest:List Nat}(k n q:Nat){t₁:Array Value}{o:Oper}{f:FuncId}{args:Array Value}{K:Unit->Proc S β}{d₀:Tmp}(hA:Y.AtB B s w (Proc.tick.bind K))(hspec:StepY Y f args)
 (hsz:k+n+(q+1)=ops.size) (ht:todo=List.range' k (n+(q+1))) (hr:rest=List.range' (k+n+1) q) (hc:chk P (λ_=>false) true ops k n=true) (ho:ops[k+n]?=some o) (hg:o.guard=none) (hd₀:o.dst=some d₀)
 (hpre:∀wc,Y.KnB B wc->∀X:Exit->Act->World->Prop,(∀w',Ext1 wc w'->X .normal ⟨t₁,ds⟩ w')->wpList P ops X ((ops.toList.drop k).take n) ⟨t,ds⟩ wc)
 (hrun:∀w,(execOp (Act.mk t₁ ds).eval o).run P w=.ok (.enter f args) w) (hev:∀w,(execOp (Act.mk t₁ ds).eval o).events P w #[]=#[])
 (hd:∀s' ch w',Y.Dead s' ch w'->Q s' (.panic ch) ⟨t₁,ds⟩ w')
 (hk:∀s' w',Y.AtB B s' w' (K ())->opsJ Y.J ops rest Q s' ⟨t₁.setIfInBounds d₀ (.tuple #[]),ds⟩ w'):opsJ Y.J ops todo Q s ⟨t,ds⟩ w:=by
 refine Y.pre0 k n (q+1) (rest:=(k+n)::rest) hA hsz ht (by rw[hr,List.range'_succ]) hc hpre λw' hA'=>?_;obtain⟨m,rfl,hA'⟩:=hA';refine Y.callO (hspec K s m w' hA') ho hg hd₀ hrun hev ?_;intro s' e w'' hp;cases e with
 |returned v=>
  obtain⟨a,m',rfl,k1,k2⟩:=hp;exact hk s' w'' ⟨m',k1,k2⟩
 |panicked ch=>exact hd s' ch w'' hp
 |outgrown=>exact hp
def PureY(Y:YSys P A C ro i β)(f:FuncId)(args:Array Value)(v:Value):Prop:=
 ∀(B:Nat->Option Obj)(s:Y.γ)(w:World)(p:Proc S β),Y.AtB B s w p->CallsJ P Y.J f args (λs' e w'=>s'=s/\e=.returned v/\Y.AtB B s w' p) s w
theorem PureY.of {f:FuncId}{fn:Func}{c:Code}{args:Array Value}{v:Value}(hf:P.funcs[f]?=some fn)(hb:fn.body=some c)(hok:zqn P A c=true)
 (h:∀B wc,Y.KnB B wc->Calls P f args wc (zq3i λv' w'=>Ext1 wc w'/\v'=v)):PureY Y f args v:=by
 rintro B s w p ⟨m,rfl,hA⟩ cl cs h1 h2;refine Y.call (λv' B'=>v'=v/\B'=m.box i) hA hf hb hok (λwc hB=>Calls.mono (h _ wc ⟨m,rfl,hB⟩) λe w' q=>?_) cl cs ?_ ?_
 . cases e with
   |returned v'=>exact⟨m.box i,OMoved.ext (Y.kn hB) q.1,q.2,rfl⟩
   |_=>exact q
 . rintro s' v' w' ⟨rfl,v'',m',e,⟨rfl,k⟩,hA'⟩;cases e;exact h1 _ _ w' ⟨rfl,rfl,m',k,hA'⟩
 . rintro s' ch w' ⟨_,_,_,e,_⟩;cases e
theorem YSys.callP {ops:Array Oper}{todo rest:List Nat}(k n q:Nat){t₁:Array Value}{o:Oper}{f:FuncId}{args:Array Value}{v:Value}{d₀:Tmp}(hA:Y.AtB B s w p)(hspec:PureY Y f args v)
 (hsz:k+n+(q+1)=ops.size) (ht:todo=List.range' k (n+(q+1))) (hr:rest=List.range' (k+n+1) q) (hc:chk P (λ_=>false) true ops k n=true) (ho:ops[k+n]?=some o) (hg:o.guard=none) (hd₀:o.dst=some d₀)
 (hpre:∀wc,Y.KnB B wc->∀X:Exit->Act->World->Prop,(∀w',Ext1 wc w'->X .normal ⟨t₁,ds⟩ w')->wpList P ops X ((ops.toList.drop k).take n) ⟨t,ds⟩ wc)
 (hrun:∀w,(execOp (Act.mk t₁ ds).eval o).run P w=.ok (.enter f args) w) (hev:∀w,(execOp (Act.mk t₁ ds).eval o).events P w #[]=#[])
 (hk:∀w',Y.AtB B s w' p->opsJ Y.J ops rest Q s ⟨t₁.setIfInBounds d₀ v,ds⟩ w'):opsJ Y.J ops todo Q s ⟨t,ds⟩ w:=by
 refine Y.pre0 k n (q+1) (rest:=(k+n)::rest) hA hsz ht (by rw[hr,List.range'_succ]) hc hpre λw' hA'=>?_;refine Y.callO (hspec B s w' p hA') ho hg hd₀ hrun hev ?_;rintro s' e w'' ⟨rfl,rfl,hA''⟩;exact hk w'' hA''
def RetY(Y:YSys P A C ro i β)(K:α->Proc S β)(val:α->Value)(B:Nat->Option Obj)(s:Y.γ):Ending->World->Prop
 |.returned v,w=>∃a,v=val a/\Y.AtB B s w (K a)
 |.panicked ch,w=>Y.Dead s ch w
 |.outgrown,_=>False
theorem SpecB.of {f:FuncId}{fn:Func}{c:Code}{args:Array Value}{pp:Proc S α}{val:α->Value}(hf:P.funcs[f]?=some fn)(hb:fn.body=some c)
 (h:∀(K:α->Proc S β)(s:Y.γ)(B:Nat->Option Obj)(w:World),(∀a,Y.sil (K a))->Y.AtB B s w (pp.bind K)->wpJ Y.J c (bodyC (Y.Bd fn (RetY Y K val B)) (RetY Y K val B)) s (zqe fn args) w):SpecB Y f args pp val:=by
 intro K s m w hK hA;refine⟨fn,c,hf,hb,wpJ_mono (h K s (m.box i) w hK ⟨m,rfl,hA⟩) λs e a w q=>?_⟩;have key:∀s e w,RetY Y K val (m.box i) s e w->PostY Y K val (m.box i) s e w:=by
  intro s e w q;cases e with
  |returned v=>obtain⟨a,rfl,m',k1,k2⟩:=q;exact⟨a,m',rfl,k1,k2⟩
  |panicked ch=>exact q
  |outgrown=>exact q
 have kb:∀s a w,Y.Bd fn (RetY Y K val (m.box i)) s a w->Y.Bd fn (PostY Y K val (m.box i)) s a w:=by
  rintro s a w ⟨q1,q2⟩;exact⟨q1,q2.imp (λ⟨v,k1,k2⟩=>⟨v,k1,key _ _ _ k2⟩) (λ⟨m',p,v,k1,k2,k3⟩=>⟨m',p,v,k1,k2,λm'' w' e hA=>key _ _ _ (k3 m'' w' e hA)⟩)⟩
 cases e with
 |normal=>exact kb _ _ _ q
 |ret=>exact kb _ _ _ q
 |panic ch=>exact q
 |_=>exact q
theorem YSys.left {Post:Y.γ->Ending->World->Prop}{fn:Func}{v:Value}(h:Y.AtB B s w p)(hr:∀wc,Y.KnB B wc->(results fn t).run P wc=.ok v wc)(hp:∀w',Y.AtB B s w' p->Post s (.returned v) w'):Y.Bd fn Post s ⟨t,[]⟩ w:=by
 obtain⟨m,rfl,h⟩:=h;exact⟨rfl,.inr ⟨m,p,v,h,λwc hw=>hr wc ⟨m,rfl,hw⟩,λm' w' e hA=>hp w' ⟨m',e,hA⟩⟩⟩
end
def orB(X B:Nat->Option Obj):Nat->Option Obj:=λb=>match X b with
 |some o=>some o
 |none=>B b
def upB(B:Nat->Option Obj)(b:Nat)(o:Obj):Nat->Option Obj:=λx=>if x=b then some o else B x
@[simp] theorem upB_same (B : Nat → Option Obj) (b : Nat) (o : Obj) : upB B b o b = some o := by simp [upB]
theorem zq2w(B:Nat->Option Obj){b x:Nat}(o:Obj)(h:x≠b):upB B b o x=B x:=by simp[upB,h]
theorem zq3p{B:Nat->Option Obj}{b:Nat}{o:Obj}(h:B b=none):∀x y,B x=some y->upB B b o x=some y:=λx y hx=>by
 by_cases e:x=b
 . subst e;rw[h]at hx;cases hx
 . rw[zq2w _ _ e];exact hx
theorem zq1z{B B1:Nat->Option Obj}{b:Nat}{o:Obj}(hle:∀x y,B x=some y->B1 x=some y)(h:B b=none):∀x y,B x=some y->upB B1 b o x=some y:=λx y hx=>by
 by_cases e:x=b
 . subst e;rw[h]at hx;cases hx
 . rw[zq2w _ _ e];exact hle x y hx
theorem zq39{B:Nat->Option Obj}{b x:Nat}{o y:Obj}(hx:B x=some y)(h:x≠b):upB B b o x=some y:=by rw[zq2w _ _ h];exact hx
theorem zq41{B:Nat->Option Obj}{b x:Nat}{y:Obj}(hx:B x=some y)(h:B b=none):x≠b:=λe=>by rw[e,h]at hx;cases hx
def RowB(X:Nat->Option Obj)(e:TypeId)(size:Nat)(v:Value)(n:Nat)(xs:List Value):Prop:=
 xs.length=n*size/\((v=.slice none 0 0/\n=0/\X=λ_=>none)\/
  ∃g cap cur,v=.slice (some ⟨g,0,none⟩) n cap/\(X=λb=>if b=g then some (.cells cur e (0,0))else none)/\n<=cap/\cap<=maxLen/\cur.size=cap*size/\cur.toList.take (n*size)=xs)
theorem RowB.nil (e:TypeId)(size:Nat):RowB (λ_=>none) e size (.slice none 0 0) 0 []:=⟨by simp,.inl ⟨rfl,rfl,rfl⟩⟩
theorem RowB.own {X:Nat->Option Obj}{e:TypeId}{size n:Nat}{v:Value}{xs:List Value}{w:World}(h:RowB X e size v n xs)(hX:∀b o,X b=some o->w.heap[b]?=some o):w.ownsRow 0 e size v n xs:=by
 obtain⟨h1,h2⟩:=h;refine⟨h1,?_⟩;rcases h2 with⟨a,b,c⟩|⟨g,cap,cur,a,b,c,d,k,l⟩
 . exact .inl ⟨a,b⟩
 . subst b;exact .inr ⟨g,cap,cur,a,Nat.zero_le _,hX g _ zx2n,c,d,k,l⟩
theorem RowB.block {X:Nat->Option Obj}{e:TypeId}{size n:Nat}{v:Value}{xs:List Value}(h:RowB X e size v n xs)(b:Nat):X b≠none↔v.ownBlock=some b:=by
 rcases h.2 with⟨a,_,c⟩|⟨g,cap,cur,a,c,_⟩
 . subst a c;simp[Value.ownBlock]
 . subst a c;simp only[Value.ownBlock,al_oi]
   by_cases e:b=g
   . subst e;simp
   . simp[e];exact λh=>e h.symm
section
variable {ro:Nat->Option Obj} {wc:World} {X B B0:Nat->Option Obj}
theorem OwnRep.fresh (hB:OwnRep ro B wc){b:Nat}(hb:wc.heap.size<=b):B b=none:=Classical.byContradiction λh=>absurd (hB.lt h) (Nat.not_lt_of_le hb)
theorem OMoved.poke (hB:OwnRep ro B wc){w':World}{b:Nat}{o:Obj}(hb:B b≠none)(hs:w'.heap.size=wc.heap.size)(hne:∀x,x≠b->w'.heap[x]?=wc.heap[x]?)(hn:w'.heap[b]?=some o):OMoved B wc (upB B b o) w':=by
 refine⟨by omega,by omega,λx hx hn'=>hne x λe=>hb (by rw[<-e];exact hn'),λx o' hx=>?_,λx hx=>?_⟩
 . by_cases e:x=b
   . subst e;rw[upB_same]at hx;rw[hn];exact hx
   . rw[zq2w _ _ e]at hx;rw[hne x e];exact hB.box x o' hx
 . by_cases e:x=b
   . subst e;exact .inl hb
   . rw[zq2w _ _ e]at hx;exact .inl hx
theorem OMoved.set3 (hB:OwnRep ro B wc){b o1 o2 o3:Nat}{c:Array Value}{e:TypeId}{f:Nat×Nat}(hb:B b=some (.cells c e f))(v1 v2 v3:Value):OMoved B wc (upB B b (.cells (((c.setIfInBounds o1 v1).setIfInBounds o2 v2).setIfInBounds o3 v3) e f)) (((wc.setCell ⟨b,o1,none⟩ v1).setCell ⟨b,o2,none⟩ v2).setCell ⟨b,o3,none⟩ v3):=
 .poke hB zx41 (by rw[zqf,zqf,zqf]) (λx hx=>by rw[zq8 _ _ _ _ hx,zq8 _ _ _ _ hx,zq8 _ _ _ _ hx]) (zqa _ _ _ _ (zqa _ _ _ _ (zqa _ _ _ _ (hB.box b _ hb))))
theorem OMoved.push (hB:OwnRep ro B wc){w':World}{b:Nat}{o:Obj}(hx:Ext1 wc w')(hb:wc.heap.size<=b)(hn:w'.heap[b]?=some o):OMoved B wc (upB B b o) w':=by
 refine⟨hx.size,hx.one,λx hl _=>hx.old x hl,λx o' hx'=>?_,λx hx'=>?_⟩
 . by_cases e:x=b
   . subst e;rw[upB_same]at hx';rw[hn];exact hx'
   . rw[zq2w _ _ e]at hx';exact hx.heap (hB.box x o' hx')
 . by_cases e:x=b
   . subst e;exact .inr hb
   . rw[zq2w _ _ e]at hx';exact .inl hx'
end
structure OpX where
 k:Int
 a:Int
 b:Int
 c:Int
structure Ans where
 ok:Bool
 n:Int
 l:List Int
def Ans.none:Ans:=⟨false,0,[]⟩
def OpX.cells (o:OpX):List Value:=[.int .i64 o.k,.int .i64 o.a,.int .i64 o.b,.int .i64 o.c]
def OpX.val (o:OpX):Value:=.agg #[.int .i64 o.k,.int .i64 o.a,.int .i64 o.b,.int .i64 o.c]
def AnsC(tI:TypeId)(X:Nat->Option Obj)(a:Ans)(cs:List Value):Prop:=∃sl,cs=[.bool a.ok,.int .i64 a.n,sl]/\RowB X tI 1 sl a.l.length (a.l.map (Value.int .i64))
def AnsV(tI:TypeId)(a:Ans)(v:Value)(X:Nat->Option Obj):Prop:=∃sl,v=.agg #[.bool a.ok,.int .i64 a.n,sl]/\RowB X tI 1 sl a.l.length (a.l.map (Value.int .i64))
theorem AnsV.plain (tI:TypeId)(ok:Bool)(n:Int):AnsV tI ⟨ok,n,[]⟩ (.agg #[.bool ok,.int .i64 n,.slice Option.none 0 0]) (λ_=>Option.none):=⟨_,rfl,RowB.nil tI 1⟩
inductive AnsL(tI:TypeId):(Nat->Option Obj)->List Ans->List Value->Prop
 |nil:AnsL tI (λ_=>Option.none) [] []
 |snoc {X Y:Nat->Option Obj} {l:List Ans} {cs cs':List Value} {a:Ans} (h:AnsL tI X l cs) (ha:AnsC tI Y a cs') (hd:∀b,Y b≠Option.none->X b=Option.none):AnsL tI (orB Y X) (l++[a]) (cs++cs')
theorem AnsL.len {tI:TypeId}{X:Nat->Option Obj}{l:List Ans}{cs:List Value}(h:AnsL tI X l cs):cs.length=l.length*3:=by
 induction h with
 |nil=>rfl
 |snoc h ha hd ih=>
  obtain⟨sl,rfl,_⟩:=ha;simp[ih];omega
def AnsR(tA tI:TypeId)(X:Nat->Option Obj)(hv:Value)(l:List Ans):Prop:=
 ∃Xr XL cs,RowB Xr tA 3 hv l.length cs/\AnsL tI XL l cs/\X=orB Xr XL/\∀b,Xr b≠Option.none->XL b=Option.none
theorem AnsR.nil (tA tI:TypeId):AnsR tA tI (λ_=>Option.none) (.slice Option.none 0 0) []:=⟨_,_,[],RowB.nil tA 3,.nil,rfl,λ_ h=>rfl⟩
structure AnsM where
 hv:Nat->Value
 X:Nat->Nat->Option Obj
 st:Nat->List Ans
structure AnsT where
 tA:TypeId
 tAs:TypeId
 tI:TypeId
structure zq3s(T:AnsT)(ab N:Nat)(m:AnsM)(w:World):Prop where
 hd:w.heap[ab]?=some (.cells ((List.range N).map m.hv).toArray T.tAs)
 row:∀i,i<N->AnsR T.tA T.tI (m.X i) (m.hv i) (m.st i)
 blk:∀i b o,i<N->m.X i b=some o->w.heap[b]?=some o
 nab:∀i,i<N->m.X i ab=Option.none
 sep:∀i j b,i<N->j<N->i≠j->m.X i b≠Option.none->m.X j b=Option.none
def zqr(T:AnsT)(ab N:Nat):Core AnsM (Nat->List Ans) where
 foot m b:=b=ab\/∃i,i<N/\m.X i b≠Option.none
 Rep m w:=zq3s T ab N m w
 st m:=m.st
 frame m w w' h hs:=⟨(hs ab (.inl rfl)).trans h.hd,h.row,λi b o hi hb=>(hs b (.inr ⟨i,hi,by rw[hb];simp⟩)).trans (h.blk i b o hi hb),h.nab,h.sep⟩
 lt m w b h hb:=by
  rcases hb with rfl |⟨i,hi,hb⟩
  . exact zq7 h.hd
  . cases ho:m.X i b with
    |none=>exact absurd ho hb
    |some o=>exact zq7 (h.blk i b o hi ho)
 pin _:=0
def upd'{α:Type}(f:Nat->α)(i:Nat)(x:α):Nat->α:=λj=>if j=i then x else f j
@[simp] theorem upd'_same {α : Type} (f : Nat → α) (i : Nat) (x : α) : upd' f i x i = x := by simp [upd']
theorem zqd{α:Type}(f:Nat->α){i j:Nat}(x:α)(h:j≠i):upd' f i x j=f j:=by simp[upd',h]
def pushP{S1:Type}(i:Nat)(a:Ans):Proc (S1×(Nat->List Ans)) Unit:=Proc.act λs=>((s.1,upd' s.2 i (s.2 i++[a])),())
def opsP{S1:Type}(i:Nat)(dop:OpX->Proc (S1×(Nat->List Ans)) Ans):List OpX->Proc (S1×(Nat->List Ans)) Unit
 |[]=>Proc.ret ()
 |op::l=>(dop op).bind λa=>(pushP i a).bind λ_=>opsP i dop l
theorem AnsR.push {tA tI:TypeId}{Xr XL Y X':Nat->Option Obj}{l:List Ans}{cs cs':List Value}{a:Ans}{v:Value}(hL:AnsL tI XL l cs)(ha:AnsC tI Y a cs')(hd:∀b,Y b≠Option.none->XL b=Option.none)
 (hr:RowB X' tA 3 v (l.length+1) (cs++cs')) (hx:∀b,X' b≠Option.none->orB Y XL b=Option.none):AnsR tA tI (orB X' (orB Y XL)) v (l++[a]):=
 ⟨X',orB Y XL,cs++cs',by simpa using hr,.snoc hL ha hd,rfl,hx⟩
section
variable {P:Program} {A:FuncId->Bool} {Ml S β α:Type} {C:Core Ml S} {ro:Nat->Option Obj} {i:Nat}
def PostR(Y:YSys P A C ro i β)(K:α->Proc S β)(rel:α->Value->(Nat->Option Obj)->Prop)(B:Nat->Option Obj)(s:Y.γ):Ending->World->Prop
 |.returned v,w=>∃a X,rel a v X/\(∀b,X b≠Option.none->B b=Option.none)/\Y.AtB (orB X B) s w (K a)
 |.panicked ch,w=>Y.Dead s ch w
 |.outgrown,_=>False
def SpecR(Y:YSys P A C ro i β)(f:FuncId)(args:Array Value)(p:Proc S α)(rel:α->Value->(Nat->Option Obj)->Prop):Prop:=
 ∀(K:α->Proc S β)(s:Y.γ)(B:Nat->Option Obj)(w:World),(∀a,Y.sil (K a))->Y.AtB B s w (p.bind K)->CallsJ P Y.J f args (PostR Y K rel B) s w
theorem SpecR.of {Y:YSys P A C ro i β}{f:FuncId}{fn:Func}{c:Code}{args:Array Value}{pp:Proc S α}{rel:α->Value->(Nat->Option Obj)->Prop}(hf:P.funcs[f]?=some fn)(hb:fn.body=some c)
 (h:∀(K:α->Proc S β)(s:Y.γ)(B:Nat->Option Obj)(w:World),(∀a,Y.sil (K a))->Y.AtB B s w (pp.bind K)->wpJ Y.J c (bodyC (Y.Bd fn (PostR Y K rel B)) (PostR Y K rel B)) s (zqe fn args) w):SpecR Y f args pp rel:=
 λK s B w hK hA=>BodyY.calls ⟨fn,c,hf,hb,h K s B w hK hA⟩
end
theorem upd'_row{α:Type}(hv:Nat->α)(N i:Nat)(x:α):((List.range N).map hv).toArray.setIfInBounds i x=((List.range N).map (upd' hv i x)).toArray:=by
 apply Array.ext_getElem?;intro j;simp only[al_gs,al_gl,List.getElem?_map,List.size_toArray,List.length_map,List.length_range]
 by_cases e:i=j
 . subst e
   by_cases h:i<N
   . simp[h]
   . simp[h]
 . rw[if_neg e]
   by_cases h:j<N
   . simp[h,zqd hv x (λe'=>e e'.symm)]
   . simp[h]
section
variable {P:Program} {M1 S1:Type} {C:Core M1 S1} {T:AnsT} {ab N i:Nat} {ro:Nat->Option Obj} {m:BM (M1×AnsM)} {wc:World}
theorem ans_push(hB:BRep (zqc C (zqr T ab N)) ro m wc)(hi:i<N)(t ty:TypeId)(ti:TypeInfo)(z:Value)(ht:P.underlying t=some (.slice T.tA))(hti:P.info? T.tA=some ti)(hz:ti.zero=some z)(hsz:ti.size=3)(hby:ti.bytes=40)(hzs:z.cells.size=3)
 {B Y:Nat->Option Obj} {a:Ans} {sl:Value} (hY:RowB Y T.tI 1 sl a.l.length (a.l.map (Value.int .i64))) (hYB:∀b o,Y b=some o->m.box i b=some o) (hBB:∀b o,B b=some o->m.box i b=some o) (hYn:∀b,Y b≠none->B b=none)
 (hlen:(m.l.2.st i).length<=65536) (τ:Nat->Question->Nat) (d:Nat):
 ∃g cap w2 m',(Builtin.append_ #[t,t] ty #[m.l.2.hv i,.slice (some ⟨wc.heap.size,0,none⟩) 1 1]).run P ((Car.re wc τ d).alloc (.cells #[.bool a.ok,.int .i64 a.n,sl] T.tA))=.ok (.slice (some ⟨g,0,none⟩) ((m.l.2.st i).length+1) cap) w2/\
  (∀b,b<wc.heap.size->m.l.2.X i b=none->w2.heap[b]?=wc.heap[b]?)/\m'.st=upd' m.l.2.st i (m.l.2.st i++[a])/\
  ∀τ' d',Moved (zqc C (zqr T ab N)) m.l (m.box i) wc (m.l.1,m') B (Car.re (w2.setCell ⟨ab,i,none⟩ (.slice (some ⟨g,0,none⟩) ((m.l.2.st i).length+1) cap)) τ' d'):=by
 have hone:sl.oneCell'=true:=by rcases hY.2 with⟨rfl,_⟩|⟨_,_,_,rfl,_⟩<;>rfl
 have hD:zq3s T ab N m.l.2 wc:=hB.core.2.1;have hdis:∀b,C.foot m.l.1 b->¬(zqr T ab N).foot m.l.2 b:=hB.core.2.2;obtain⟨Xr,XL,cs,hr,hL,hX,hd⟩:=hD.row i hi;have hXr:∀b,Xr b≠none->m.l.2.X i b≠none:=λb hb=>by
  rw[hX];cases ho:Xr b with
  |none=>exact absurd ho hb
  |some o=>simp[orB,ho]
 have hfoot:∀b,m.l.2.X i b≠none->(zqr T ab N).foot m.l.2 b:=λb hb=>.inr ⟨i,hi,hb⟩;have hfr:∀b,Xr b≠none->(zqr T ab N).foot m.l.2 b:=λb hb=>hfoot b (hXr b hb);have hboxf:∀b,m.box i b≠none->¬(zqr T ab N).foot m.l.2 b:=λb hb hf=>hB.apart i b hb (.inr hf);have hboxC:∀b,m.box i b≠none->¬C.foot m.l.1 b:=λb hb hf=>hB.apart i b hb (.inl hf);have hYbox:∀b,Y b≠none->m.box i b≠none:=λb hb=>by
  cases ho:Y b with
  |none=>exact absurd ho hb
  |some o=>rw[hYB b o ho];simp
 have hBbox:∀b,B b≠none->m.box i b≠none:=λb hb=>by
  cases ho:B b with
  |none=>exact absurd ho hb
  |some o=>rw[hBB b o ho];simp
 have hlt:∀b,(zqr T ab N).foot m.l.2 b->b<wc.heap.size:=λb hb=>(zqr T ab N).lt _ _ _ hD hb;have hltB:∀b,m.box i b≠none->b<wc.heap.size:=λb hb=>hB.own'.lt hb;obtain⟨w1,hw1⟩:∃w1,(Car.re wc τ d).alloc (.cells #[.bool a.ok,.int .i64 a.n,sl] T.tA)=w1:=⟨_,rfl⟩;have hs1:w1.heap.size=wc.heap.size+1:=by rw[<-hw1,zq4];rfl
 have hold1:∀b,b<wc.heap.size->w1.heap[b]?=wc.heap[b]?:=λb hb=>by
  rw[<-hw1,zq6,if_neg (by show b≠wc.heap.size;omega)];rfl
 have hnew1:w1.heap[wc.heap.size]?=some (.cells #[.bool a.ok,.int .i64 a.n,sl] T.tA):=by
  rw[<-hw1,zq6];exact if_pos rfl
 have hrow:w1.ownsRow 0 T.tA 3 (m.l.2.hv i) (m.l.2.st i).length cs:=hr.own λb o hb=>by
  have hx:m.l.2.X i b=some o:=by rw[hX];simp[orB,hb]
  have hh:=hD.blk i b o hi hx;rw[hold1 b (zq7 hh)];exact hh
 obtain⟨g,cap,w2,hrun,hown,hg,hat,hlt2⟩:=run_append_lies (P:=P) w1 t ty 0 T.tA ti z 3 40 ht hti hz hsz hby hzs zyd (m.l.2.hv i) (m.l.2.st i).length cs hrow ⟨wc.heap.size,0,none⟩ 1 1 [.bool a.ok,.int .i64 a.n,sl] zx2n (World.news_of_block hnew1) (λu hu=>by simp only[List.mem_cons,List.not_mem_nil,or_false]at hu;exact hu.elim (λe=>by rw[e];rfl) (λh=>h.elim (λe=>by rw[e];rfl) (λe=>by rw[e];exact hone))) zyd zx3t zyo (Nat.zero_le _) _ rfl;have hold2:∀b,b<wc.heap.size->Xr b=none->w2.heap[b]?=wc.heap[b]?:=λb hb hx=>by
  rw[hg.block b zyo (λe=>(hr.block b).2 e.symm hx)];exact hold1 b hb
 have hs2:wc.heap.size<=w2.heap.size:=by have:=hg.size;omega
 obtain⟨hl,h2⟩:=hown;rcases h2 with⟨e,_⟩|⟨g',cap',cur,e,_,hh,c1,c2,c3,c4⟩
 . cases e
 cases e;have hgx:Xr g≠none\/wc.heap.size<g:=hat.imp (λe=>(hr.block g).2 e) (λe=>by omega);have hgab:g≠ab:=λe=>by
  subst e;rcases hgx with x|x
  . exact hXr _ x (hD.nab i hi)
  . have:=hlt g (.inl rfl);omega
 have hgfoot:(zqr T ab N).foot m.l.2 g\/wc.heap.size<=g:=hgx.imp (hfr g) (λx=>Nat.le_of_lt x)
 let X':Nat->Option Obj:=λb=>if b=g then some (.cells cur T.tA (0,0))else none
 have hX'g:X' g=some (.cells cur T.tA (0,0)):=by simp[X']
 have hX'n:∀b,b≠g->X' b=none:=λb hb=>by simp[X',hb]
 have hX':∀b,X' b≠none->b=g:=λb hb=>Classical.byContradiction λe=>hb (hX'n b e);have hXL:∀b,XL b≠none->m.l.2.X i b≠none/\Xr b=none:=λb hb=>by
  have hx:Xr b=none:=Classical.byContradiction λx=>hb (hd b x);refine⟨?_,hx⟩;rw[hX];simp[orB,hx];exact hb
 have hYXL:∀b,Y b≠none->XL b=none:=λb hb=>Classical.byContradiction λx=>hboxf b (hYbox b hb) (hfoot b (hXL b x).1);have hYg:∀b,Y b≠none->b≠g:=λb hb e=>by
  subst e;exact hgfoot.elim (hboxf b (hYbox b hb)) (λx=>by have:=hltB b (hYbox b hb);omega)
 have hXLg:∀b,XL b≠none->b≠g:=λb hb e=>by
  subst e;rcases hgx with x|x
  . exact x (hXL b hb).2
  . have:=hlt b (hfoot b (hXL b hb).1);omega
 have hgn:orB Y XL g=none:=by
  have h1:Y g=none:=Classical.byContradiction λx=>hYg g x rfl;have h2:XL g=none:=Classical.byContradiction λx=>hXLg g x rfl;simp[orB,h1,h2]
 have hnewX:∀b,orB X' (orB Y XL) b≠none->b=g\/Y b≠none\/XL b≠none:=λb hb=>by
  by_cases e:b=g
  . exact .inl e
  . right
    by_cases hy:Y b=none
    . right
      simpa[orB,hX'n b e,hy]using hb
    . exact .inl hy
 have hrowN:AnsR T.tA T.tI (orB X' (orB Y XL)) (.slice (some ⟨g,0,none⟩) ((m.l.2.st i).length+1) cap) (m.l.2.st i++[a]):=
  AnsR.push (Xr:=Xr) hL ⟨sl,rfl,hY⟩ hYXL ⟨hl,.inr ⟨g,cap,cur,rfl,rfl,c1,c2,c3,c4⟩⟩ λb hb=>by rw[hX' b hb];exact hgn
 refine⟨g,cap,w2,⟨upd' m.l.2.hv i (.slice (some ⟨g,0,none⟩) ((m.l.2.st i).length+1) cap),upd' m.l.2.X i (orB X' (orB Y XL)),upd' m.l.2.st i (m.l.2.st i++[a])⟩,by rw[hw1];exact hrun,λb hb hx=>hold2 b hb (Classical.byContradiction λx=>hXr b x hx),rfl,λτ' d'=>?_⟩;have hw3:∀b,b≠ab->(Car.re (w2.setCell ⟨ab,i,none⟩ (.slice (some ⟨g,0,none⟩) ((m.l.2.st i).length+1) cap)) τ' d').heap[b]?=w2.heap[b]?:=λb hb=>zq8 _ _ _ _ hb;have habX:Xr ab=none:=Classical.byContradiction λx=>hXr ab x (hD.nab i hi);have hab2:w2.heap[ab]?=some (.cells ((List.range N).map m.l.2.hv).toArray T.tAs):=(hold2 ab (hlt ab (.inl rfl)) habX).trans hD.hd;have hY2:∀b,Y b≠none->Xr b=none:=λb hb=>Classical.byContradiction λx=>hboxf b (hYbox b hb) (hfr b x);have hkeepF:∀b,¬(zqr T ab N).foot m.l.2 b->b<wc.heap.size->(Car.re (w2.setCell ⟨ab,i,none⟩ (.slice (some ⟨g,0,none⟩) ((m.l.2.st i).length+1) cap)) τ' d').heap[b]?=wc.heap[b]?:=λb hf hb=>by
  rw[hw3 b (λe=>hf (.inl e))];exact hold2 b hb (Classical.byContradiction λx=>hf (hfr b x))
 have hAns:zq3s T ab N ⟨upd' m.l.2.hv i (.slice (some ⟨g,0,none⟩) ((m.l.2.st i).length+1) cap),upd' m.l.2.X i (orB X' (orB Y XL)),upd' m.l.2.st i (m.l.2.st i++[a])⟩ (Car.re (w2.setCell ⟨ab,i,none⟩ (.slice (some ⟨g,0,none⟩) ((m.l.2.st i).length+1) cap)) τ' d'):=by
  refine⟨?_,λj hj=>?_,λj b o hj hb=>?_,λj hj=>?_,λj k b hj hk hne hb=>?_⟩
  . refine(zqa _ _ _ _ hab2).trans ?_;rw[upd'_row]
  . by_cases e:j=i
    . subst e;simp only[upd'_same];exact hrowN
    . simp only[zqd _ _ e];exact hD.row j hj
  . by_cases e:j=i
    . subst e;simp only[upd'_same]at hb;rcases hnewX b zx41 with e|hy|hx
      . subst e;rw[hw3 b hgab];have:orB X' (orB Y XL) b=some (.cells cur T.tA (0,0)):=by simp[orB,hX'g]
        rw[this]at hb;cases hb;exact hh
      . have hby:Y b=some o:=by
         have h1:=hX'n b (hYg b hy);cases ho:Y b with
         |none=>exact absurd ho hy
         |some o'=>simp[orB,h1,ho]at hb;rw[hb]
        rw[hkeepF b (hboxf b (hYbox b hy)) (hltB b (hYbox b hy))];exact hB.box j b o (hYB b o hby)
      . have hbx:XL b=some o:=by
         have h1:=hX'n b (hXLg b hx);have h2:Y b=none:=Classical.byContradiction λy=>hx (hYXL b y);simpa[orB,h1,h2]using hb
        have hx2:=hXL b hx;have hxb:m.l.2.X j b=some o:=by rw[hX];simp[orB,hx2.2,hbx]
        rw[hw3 b (λe=>by subst e;exact hx2.1 (hD.nab j hj)),hold2 b (hlt b (hfoot b hx2.1)) hx2.2];exact hD.blk j b o hj hxb
    . simp only[zqd _ _ e]at hb;have hn:m.l.2.X j b≠none:=by rw[hb];simp
      rw[hw3 b (λe'=>by subst e';exact hn (hD.nab j hj)),hold2 b (hlt b (.inr ⟨j,hj,hn⟩)) (Classical.byContradiction λx=>hXr b x (hD.sep j i b hj hi e hn))];exact hD.blk j b o hj hb
  . by_cases e:j=i
    . subst e;simp only[upd'_same];refine Classical.byContradiction λx=>?_;rcases hnewX ab x with e|hy|hx
      . exact hgab e.symm
      . exact hboxf ab (hYbox ab hy) (.inl rfl)
      . exact(hXL ab hx).1 (hD.nab j hj)
    . simp only[zqd _ _ e];exact hD.nab j hj
  ·
   have key:∀x b,x<N->x≠i->m.l.2.X x b≠none->orB X' (orB Y XL) b=none:=λx b0 hx0 hne0 hb0=>by
    refine Classical.byContradiction λx1=>?_;have hf:(zqr T ab N).foot m.l.2 b0:=.inr ⟨x,hx0,hb0⟩;rcases hnewX b0 x1 with e|hy|hx
    . rw[e]at hb0 hf;rcases hgx with y|y
      . exact hXr g y (hD.sep x i g hx0 hi hne0 hb0)
      . have:=hlt g hf;omega
    . exact hboxf b0 (hYbox b0 hy) hf
    . exact(hXL b0 hx).1 (hD.sep x i b0 hx0 hi hne0 hb0)
   by_cases e:j=i
   . subst e;simp only[upd'_same]at hb;simp only[zqd _ _ (λe=>hne e.symm)];exact Classical.byContradiction λx=>hb (key k b hk (λe=>hne e.symm) x)
   . simp only[zqd _ _ e]at hb
     by_cases e2:k=i
     . subst e2;simp only[upd'_same];exact key j b hj e hb
     . simp only[zqd _ _ e2];exact hD.sep j k b hj hk hne hb
 have hnf:∀b,(zqr T ab N).foot ⟨upd' m.l.2.hv i (.slice (some ⟨g,0,none⟩) ((m.l.2.st i).length+1) cap),upd' m.l.2.X i (orB X' (orB Y XL)),upd' m.l.2.st i (m.l.2.st i++[a])⟩ b->(zqr T ab N).foot m.l.2 b\/Y b≠none\/wc.heap.size<=b:=by
  rintro b (e|⟨j,hj,hb⟩)
  . exact .inl (.inl e)
  . by_cases e:j=i
    . subst e;have hb2:orB X' (orB Y XL) b≠none:=λh=>hb (by show upd' m.l.2.X j _ j b=none;rw[upd'_same];exact h);rcases hnewX b hb2 with e|hy|hx
      . subst e;exact hgfoot.imp id .inr
      . exact .inr (.inl hy)
      . exact .inl (hfoot b (hXL b hx).1)
    . have hb2:m.l.2.X j b≠none:=λh=>hb (by show upd' m.l.2.X i _ j b=none;rw[zqd _ _ e];exact h);exact .inl (.inr ⟨j,hj,hb2⟩)
 refine⟨?_,λb hb hf hn=>hkeepF b (λx=>hf (.inr x)) hb,⟨C.frame _ _ _ hB.core.1 λb hb=>hkeepF b (hdis b hb) (C.lt _ _ _ hB.core.1 hb),hAns,λb hb hf=>?_⟩,λb o hb=>?_,λb hb=>?_,λb hb=>.inl (hBbox b hb),λb hb=>?_,rfl⟩
 . show wc.heap.size<=(w2.setCell _ _).heap.size;rw[zqf];exact hs2
 . rcases hnf b hf with x|x|x
   . exact hdis b hb x
   . exact hboxC b (hYbox b x) hb
   . exact absurd (C.lt _ _ _ hB.core.1 hb) (Nat.not_lt_of_le x)
 . have hbx:=hBB b o hb;have hn:m.box i b≠none:=by rw[hbx];simp
   rw[hkeepF b (hboxf b hn) (hltB b hn)];exact hB.box i b o hbx
 . rcases hb with hb|hb
   . exact .inl (.inl hb)
   . rcases hnf b hb with x|x|x
     . exact .inl (.inr x)
     . exact .inr (.inl (hYbox b x))
     . exact .inr (.inr x)
 . refine Classical.byContradiction λx=>?_;have hbx:=hBbox b x;rcases hb with hb|hb
   . exact hboxC b hbx hb
   . rcases hnf b hb with y|y|y
     . exact hboxf b hbx y
     . exact x (hYn b y)
     . have:=hltB b hbx;omega
end
end Go.Car
namespace Go.Car
open Go Go.RowKit
section
variable {P:Program} {md:Region.Mode} {ops:Array Oper} {C:World->Prop}
def Closed(md:Region.Mode)(ops:Array Oper)(listed:Array Bool):Prop:=∀i o e,ops[i]?=some o->listed.getD i false=true->e∈o.after->Region.binds md e=true->listed.getD e.on false=true
theorem Closed.set {listed:Array Bool}(h:Closed md ops listed){i:Nat}(hi:i∈Region.ready md ops listed):Closed md ops (listed.setIfInBounds i true):=by
 obtain⟨hun,o,ho,hall⟩:=mem_ready.1 hi;intro j oj e hoj hlj he hb;refine getD_set_true ?_
 by_cases hji:i=j
 . subst hji;rw[ho]at hoj;obtain rfl:=Option.some.inj hoj;exact hall e he hb
 . rw[getD_set_ne false hji]at hlj;exact h j oj e hoj hlj he hb
def zq63(md:Region.Mode)(ops:Array Oper)(k:Nat):Prop:=∀listed,Closed md ops listed->∀j,j∈Region.ready md ops listed->k<=j->∀i,i<k->listed.getD i false=true
def zq4z(P:Program)(md:Region.Mode)(ops:Array Oper)(k:Nat)(C:World->Prop)(R:Array Bool->Act->Prop):Nat->Array Bool->Act->Prop
 |0,listed,a=>(∀i,i<k->listed.getD i false=true)/\R listed a
 |fuel+1,listed,a=>(∃i,i<k/\listed.getD i true=false)/\∀i∈Region.ready md ops listed,i<k/\qOp P ops C i (zq4z P md ops k C R fuel (listed.setIfInBounds i true)) a
theorem zqcn{k:Nat}{R:Array Bool->Act->Prop}{Q':Exit->Act->World->Prop}(hw:∀listed,(∃i,i<k/\listed.getD i true=false)->∃i,i∈Region.ready md ops listed)(r:Nat)(hR:∀listed a w,C w->R listed a->wpAny P md ops Q' r listed a w):
 ∀(fuel:Nat)(listed:Array Bool)(a:Act)(w:World),C w->zq4z P md ops k C R fuel listed a->wpAny P md ops Q' (fuel+r) listed a w
 |0,listed,a,w,hc,h=>by rw[Nat.zero_add];exact hR _ _ _ hc h.2
 |fuel+1,listed,a,w,hc,h=>by
  have e:fuel+1+r=(fuel+r)+1:=by omega
  rw[e];refine⟨λh0=>?_,λi hi=>?_⟩
  . obtain⟨i,hi⟩:=hw listed h.1;rw[h0]at hi;cases hi
  . exact wpOp_of_qOp hc (λa' w' hc' hh=>zqcn hw r hR fuel _ a' w' hc' hh) (h.2 i hi).2
theorem zq4g{l:Array Bool}{i:Nat}(h:l.getD i true=false)(h':l.getD i false=true):False:=by
 rcases Nat.lt_or_ge i l.size with hl|hl
 . simp[hl]at h h';rw[h]at h';cases h'
 . simp[Array.getElem?_eq_none hl]at h'
theorem zqmk{k:Nat}{R:Array Bool->Act->Prop}{i:Nat}{oi:Oper}{v:Value}(hi:ops[i]?=some oi)(hik:i<k)(hsel:∀(j:Nat)(o:Oper)cs b,ops[j]?=some o->o.op≠.select cs b)(hAW:zq63 md ops k):
 ∀(fuel:Nat)(listed:Array Bool)(a:Act),Closed md ops listed->
  (∀j oj,ops[j]?=some oj->j<k->j≠i->listed.getD j true=false->(∀e∈oj.after,Region.binds md e=true->e.on≠i)->oi.apart ops oj=true)->
  i∈Region.ready md ops listed->YieldsIn P ops C oi v a->
  zq4z P md ops k C R fuel (listed.setIfInBounds i true) (a.put oi.dst v)->zq4z P md ops k C R (fuel+1) listed a:=by
 intro fuel
 induction fuel with
 |zero=>
  intro listed a hcl _ hr hy H;have hun:=(mem_ready.1 hr).1;refine⟨⟨i,hik,hun⟩,λj hj=>?_⟩;have hjk:j<k:=by
   rcases Nat.lt_or_ge j k with h|h
   . exact h
   . exact(zq4g hun (hAW listed hcl j hj h i hik)).elim
  refine⟨hjk,?_⟩
  by_cases hji:j=i
  . subst hji;exact hy.qOp hi H
  . have h1:=H.1 j hjk;rw[getD_set_ne false (Ne.symm hji)]at h1;exact(zq4g (mem_ready.1 hj).1 h1).elim
 |succ fuel ih=>
  intro listed a hcl hfree hr hy H;have hun:=(mem_ready.1 hr).1;refine⟨⟨i,hik,hun⟩,λj hj=>?_⟩;have hjk:j<k:=by
   rcases Nat.lt_or_ge j k with h|h
   . exact h
   . exact(zq4g hun (hAW listed hcl j hj h i hik)).elim
  refine⟨hjk,?_⟩
  by_cases hji:j=i
  . subst hji;exact hy.qOp hi H
  . have h1:=(H.2 j (ready_mono hj hji)).2;obtain⟨hjun,oj,hoj,hall⟩:=mem_ready.1 hj;have hnot:∀e∈oj.after,Region.binds md e=true->e.on≠i:=λe he hb heq=>by
     have h1:=hall e he hb;rw[heq]at h1;exact zq4g hun h1
    have h2:=qOp_put hoj (hfree j oj hoj hjk hji hjun hnot) (λcs b=>hsel i oi cs b hi) (λcs b=>hsel j oj cs b hoj) hy h1;have hfree':∀q oq,ops[q]?=some oq->q<k->q≠i->(listed.setIfInBounds j true).getD q true=false->
     (∀e∈oq.after,Region.binds md e=true->e.on≠i)->oi.apart ops oq=true:=λq oq hq hqk hqi hqun hno=>by
     refine hfree q oq hq hqk hqi ?_ hno
     by_cases hjq:j=q
     . subst hjq;exact hjun
     . rw[getD_set_ne true hjq]at hqun;exact hqun
    refine qOp_mono (λa' h3=>ih (listed.setIfInBounds j true) a' (hcl.set hj) hfree' (ready_mono hr (Ne.symm hji)) h3.1 ?_) h2;rw[Array.setIfInBounds_comm _ _ hji];exact h3.2
def lexR(md:Region.Mode)(ops:Array Oper)(k:Nat):Nat->Nat->Array Bool->Bool
 |0,_,listed=>(List.range k).all λi=>listed.getD i false
 |fuel+1,p,listed=>(Region.ready md ops listed).contains p&&decide (p<k)&&((List.range k).all λj=>j==p || listed.getD j true || (match ops[j]?,ops[p]? with
  |some oj,some op=>oj.after.any (λe=>Region.binds md e&&e.on==p) || op.apart ops oj
  |_,_=>true))&&lexR md ops k fuel (p+1) (listed.setIfInBounds p true)
def zq5w:Nat->Nat->Array Bool->Array Bool
 |0,_,l=>l
 |n+1,p,l=>zq5w n (p+1) (l.setIfInBounds p true)
theorem zqcm(hs:Region.noSelect ops=true){k:Nat}(hAW:zq63 md ops k){Q:Act->Prop}(F:Array Bool):∀(l:List Oper)(p:Nat)(listed:Array Bool)(a:Act),(∀j,j<l.length->l[j]?=ops[p+j]?)->Closed md ops listed->
 lexR md ops k l.length p listed=true->zq5w l.length p listed=F->wpQuiet P ops C Q l a->zq4z P md ops k C (λL a=>L=F/\Q a) l.length listed a
 |[],p,listed,a,_,_,hB,hF,h=>by
  refine⟨λi hi=>?_,hF,h⟩;simp only[List.length_nil,lexR,List.all_eq_true,List.mem_range]at hB;exact hB i hi
 |o::l,p,listed,a,hl,hcl,hB,hF,h=>by
  have h0:ops[p]?=some o:=by have:=hl 0 zx2n;simpa using this.symm
  simp only[List.length_cons,lexR,Bool.and_eq_true,List.contains_iff_mem,decide_eq_true_eq,List.all_eq_true,List.mem_range]at hB;obtain⟨⟨⟨hr,hpk⟩,hf⟩,hB'⟩:=hB;have hst:qOp P ops C p (wpQuiet P ops C Q l) a:=by unfold qOp;simp only[h0];exact h
  obtain⟨v,hy,hK⟩:=yieldsIn_of_qOp h0 hst;refine zqmk h0 hpk (Region.noSelect_spec hs) hAW l.length listed a hcl (λj oj hoj hjk hjp hun hno=>?_) hr hy
   (zqcm hs hAW F l (p+1) _ _ (λj hj=>by have:=hl (j+1) (by simpa using hj);simpa[Nat.add_assoc,Nat.add_comm 1 j]using this) (hcl.set hr) hB' hF hK)
  have:=hf j hjk;rw[hun,hoj,h0]at this;simp only[Bool.or_false,Bool.or_eq_true,beq_iff_eq,hjp,false_or,Array.any_eq_true]at this;rcases this with⟨q,hq,hb⟩|h
  . simp only[Bool.and_eq_true,beq_iff_eq]at hb;exact absurd hb.2 (hno _ (Array.getElem_mem hq) hb.1)
  . exact h
def anc(md:Region.Mode)(ops:Array Oper):Nat->Nat->Nat->Bool
 |0,_,_=>false
 |f+1,j,i=>match ops[j]? with
  |some o=>o.after.toList.any λe=>Region.binds md e&&(e.on==i || anc md ops f e.on i)
  |none=>false
def zq2p(md:Region.Mode)(ops:Array Oper)(k:Nat):Bool:=(List.range ops.size).all λj=>decide (j<k) || (List.range k).all λi=>anc md ops ops.size j i
theorem zq7s{listed:Array Bool}(hc:Closed md ops listed):∀(f j i:Nat)(o:Oper),ops[j]?=some o->(∀e∈o.after,Region.binds md e=true->listed.getD e.on false=true)->anc md ops f j i=true->listed.getD i false=true
 |0,_,_,_,_,_,h=>by cases h
 |f+1,j,i,o,ho,hall,h=>by
  simp only[anc,ho,List.any_eq_true,Bool.and_eq_true,Bool.or_eq_true,beq_iff_eq]at h;obtain⟨e,he,hb,h⟩:=h;have he':e∈o.after:=by simpa using he
  have hl:=hall e he' hb;rcases h with rfl |h
  . exact hl
  . cases hoe:ops[e.on]? with
    |none=>cases f with
     |zero=>cases h
     |succ f=>simp only[anc,hoe]at h;cases h
    |some oe=>exact zq7s hc f e.on i oe hoe (λe' he'' hb'=>hc e.on oe e' hoe hl he'' hb') h
theorem zq67{k:Nat}(h:zq2p md ops k=true):zq63 md ops k:=by
 intro listed hc j hj hk i hi;obtain⟨_,o,ho,hall⟩:=mem_ready.1 hj;have hlt:=(Array.getElem?_eq_some_iff.1 ho).1;unfold zq2p at h;rw[List.all_eq_true]at h;have:=h j (List.mem_range.2 hlt);simp only[Bool.or_eq_true,decide_eq_true_eq,List.all_eq_true,List.mem_range]at this;rcases this with h|h
 . omega
 . exact zq7s hc _ j i o ho hall (h i hi)
def backB(md:Region.Mode)(ops:Array Oper)(k:Nat):Bool:=decide (k<=ops.size)&&(List.range k).all λi=>match ops[i]? with
 |some o=>o.after.toList.all (λe=>!Region.binds md e || decide (e.on<i))
 |none=>false
theorem zq6c{k:Nat}(h:backB md ops k=true)(listed:Array Bool)(hex:∃i,i<k/\listed.getD i true=false):∃i,i∈Region.ready md ops listed:=by
 unfold backB at h;simp only[Bool.and_eq_true,decide_eq_true_eq,List.all_eq_true,List.mem_range]at h;obtain⟨hk,h⟩:=h;obtain⟨i,hik,hun⟩:=hex;have:∀m i,m=i->i<k->listed.getD i true=false->∃j,j∈Region.ready md ops listed:=by
  intro m
  induction m using Nat.strongRecOn with
  |_ m ihm=>
   intro i hi hik hun;subst hi;have hops:m<ops.size:=by omega
   by_cases hall:∀e∈(ops[m]'hops).after,Region.binds md e=true->listed.getD e.on false=true
   . exact zx18
   . obtain⟨e,he⟩:=Classical.not_forall.1 hall;obtain⟨h1,he⟩:=Classical.not_imp.1 he;obtain⟨h2,he⟩:=Classical.not_imp.1 he;have hb:=h m hik;rw[Array.getElem?_eq_getElem hops]at hb;simp only[List.all_eq_true]at hb;have hlt:e.on<m:=by have:=hb e (by simpa using h1);simpa[h2]using this
     refine ihm e.on hlt e.on rfl zyo ?_;have hm:=zq1m hun;have:e.on<listed.size:=by omega
     simp[this]at he |-;exact he
 exact this i i rfl hik hun
theorem zq47{id k:Nat}{Q':Exit->Act->World->Prop}{a:Act}{w:World}(hm:P.follows .mixedOrders=true)(hs:Region.noSelect ops=true)(hback:backB .any ops k=true)(hwait:zq2p .any ops k=true)(hlex:lexR .any ops k k 0 (Array.replicate ops.size false)=true)
 (hC:C {w with drawn:=w.drawn+1}) (h:wpQuiet P ops C (λa'=>∀w',C w'->wpAny P .any ops Q' (ops.size - k) (zq5w k 0 (Array.replicate ops.size false)) a' w') (ops.toList.take k) a):(Code.region id ops true).wp P Q' a w:=by
 have hk:k<=ops.size:=by
  unfold backB at hback;simp only[Bool.and_eq_true,decide_eq_true_eq]at hback;exact hback.1
 have hlen:(ops.toList.take k).length=k:=by simp;omega
 refine wp_region_any hm ?_;have hcl:Closed .any ops (Array.replicate ops.size false):=λi o e _ hl=>by
  exfalso;simp[al_gd,Array.getElem?_replicate]at hl;split at hl<;>simp at hl
 have h1:=zqcm (C:=C) hs (zq67 hwait) (zq5w k 0 (Array.replicate ops.size false)) (ops.toList.take k) 0 (Array.replicate ops.size false) a (λj hj=>by rw[hlen]at hj;simp[List.getElem?_take,hj]) hcl (by rw[hlen];exact hlex) (by rw[hlen]) h;rw[hlen]at h1;have h2:=zqcn (Q':=Q') (zq6c hback) (ops.size - k) (λlisted a w hc hR=>by rw[hR.1];exact hR.2 w hc) k _ a _ hC h1;rw[show k+(ops.size - k)=ops.size by omega]at h2;exact h2
theorem zq87:∀(k i:Nat)(p q:Nat->Bool),i<k->p i=true->q i=false->(∀j,j≠i->p j=q j)->(List.range k).countP p=(List.range k).countP q+1
 |0,i,p,q,hi,_,_,_=>by omega
 |k+1,i,p,q,hi,hp,hq,h=>by
  rw[List.range_succ,List.countP_append,List.countP_append]
  by_cases e:i=k
  . subst e;have:(List.range i).countP p=(List.range i).countP q:=List.countP_congr λj hj=>by rw[h j (by have:=List.mem_range.1 hj;omega)]
    simp[this,hp,hq]
  . have ih:=zq87 k i p q zyo hp hq h;have e2:=h k (Ne.symm e);simp[ih,e2];omega
theorem zqml{Q:Exit->Act->World->Prop}{i:Nat}{K K':Act->World->Prop}{a:Act}{w:World}(h:∀a w,K a w->K' a w)(hh:wpOp P ops Q i K a w):wpOp P ops Q i K' a w:=by
 unfold wpOp at *;split
 . simp only[*]at hh |-;exact h _ _ (by simpa[*]using hh)
 . rename_i o ho;simp only[ho]at hh;split
   . rename_i hw;simp only[hw,if_true]at hh;rcases hh with hh|hh
     . exact .inl (Oper.wp_mono h hh)
     . exact .inr hh
   . rename_i hw;simp only[hw]at hh;exact h _ _ hh
theorem zqcs{id k:Nat}{Q':Exit->Act->World->Prop}{a:Act}{w:World}(hm:P.follows .mixedOrders=true)(hback:backB .any ops k=true)(hwait:zq2p .any ops k=true)(I:Array Bool->Act->World->Prop)
 (h0:I (Array.replicate ops.size false) a {w with drawn:=w.drawn+1})
 (hstep:∀(L:Array Bool)(a:Act)(w:World)(i:Nat),L.size=ops.size->i<k->L.getD i true=false->(∀o,ops[i]?=some o->∀e∈o.after,Region.binds .any e=true->L.getD e.on false=true)->I L a w->wpOp P ops Q' i (I (L.setIfInBounds i true)) a w)
 (hend:∀(a:Act)(w:World),I (Array.ofFn λi:Fin ops.size=>decide (i.val<k)) a w->wpAny P .any ops Q' (ops.size - k) (Array.ofFn λi:Fin ops.size=>decide (i.val<k)) a w):(Code.region id ops true).wp P Q' a w:=by
 have hk:k<=ops.size:=by
  unfold backB at hback;simp only[Bool.and_eq_true,decide_eq_true_eq]at hback;exact hback.1
 refine wp_region_any hm ?_;have key:∀(f:Nat)(L:Array Bool)(a:Act)(w:World),Closed .any ops L->L.size=ops.size->(∀j,k<=j->L.getD j false=false)->(List.range k).countP (λi=>!L.getD i false)=f->I L a w->wpAny P .any ops Q' (f+(ops.size - k)) L a w:=by
  intro f
  induction f with
  |zero=>
   intro L a w hcl hsz hno hc hI;have hall:∀i,i<k->L.getD i false=true:=by
    intro i hi;rw[List.countP_eq_zero]at hc;have:=hc i (List.mem_range.2 hi);simpa using this
   have hL:L=Array.ofFn λi:Fin ops.size=>decide (i.val<k):=by
    apply Array.ext
    . simp[hsz]
    . intro i h1 h2;simp only[Array.getElem_ofFn]
      by_cases hik:i<k
      . have:=hall i hik;simp[h1]at this;rw[this];simp[hik]
      . have:=hno i zyo;simp[h1]at this;rw[this];simp[hik]
   rw[Nat.zero_add];rw[hL]at hI |-;exact hend a w hI
  |succ f ih=>
   intro L a w hcl hsz hno hc hI;have hex:∃i,i<k/\L.getD i true=false:=by
    have:0<(List.range k).countP (λi=>!L.getD i false):=by omega
    obtain⟨i,hi,hp⟩:=List.countP_pos_iff.1 this;have hik:=List.mem_range.1 hi;refine⟨i,hik,?_⟩;have hlt:i<L.size:=by omega
    simp[hlt]at hp |-;exact hp
   have e:f+1+(ops.size - k)=(f+(ops.size - k))+1:=by omega
   rw[e];refine⟨λhr=>?_,λi hi=>?_⟩
   . obtain⟨i,hi⟩:=zq6c hback L hex;rw[hr]at hi;cases hi
   . have hik:i<k:=by
      rcases Nat.lt_or_ge i k with h|h
      . exact h
      . obtain⟨q,hq,hun⟩:=hex;exact(zq4g hun (zq67 hwait L hcl i hi h q hq)).elim
     obtain⟨hun,o,ho,hall⟩:=mem_ready.1 hi;refine zqml (λa' w' hI'=>ih _ a' w' (hcl.set hi) (by simp[hsz]) (λj hj=>?_) ?_ hI') (hstep L a w i hsz hik hun (λo' ho' e he hb=>by rw[ho]at ho';cases ho';exact hall e he hb) hI)
     . rw[getD_set_ne false zyo];exact hno j hj
     . have:=zq87 k i (λj=>!L.getD j false) (λj=>!(L.setIfInBounds i true).getD j false) hik ?_ ?_ (λj hj=>?_)
       . omega
       . have hlt:i<L.size:=by omega
         simp[hlt]at hun |-;exact hun
       . have hlt:i<L.size:=by omega
         simp[hlt]
       . rw[getD_set_ne false (Ne.symm hj)]
 have hcl:Closed .any ops (Array.replicate ops.size false):=λi o e _ hl=>by
  exfalso;simp[al_gd,Array.getElem?_replicate]at hl;split at hl<;>simp at hl
 have hf:∀i,(Array.replicate ops.size false).getD i false=false:=λi=>by
  simp[al_gd,Array.getElem?_replicate];split<;>rfl
 have:=key k (Array.replicate ops.size false) a _ hcl zx2n (λj _=>hf j) (by rw[List.countP_eq_length.2 (λi _=>by rw[hf i];rfl),List.length_range]) h0;rw[show k+(ops.size - k)=ops.size by omega]at this;exact this
theorem zq2l{Q:Exit->Act->World->Prop}{fuel i:Nat}{listed:Array Bool}{a:Act}{w:World}(hr:Region.ready md ops listed=[i])(h:wpOp P ops Q i (wpAny P md ops Q fuel (listed.setIfInBounds i true)) a w):wpAny P md ops Q (fuel+1) listed a w:=
 ⟨λh0=>(by rw[hr]at h0;cases h0),λj hj=>by rw[hr]at hj;obtain rfl:=List.mem_singleton.1 hj;exact h⟩
theorem zq2k{Q:Exit->Act->World->Prop}{listed:Array Bool}{a:Act}{w:World}(hr:Region.ready md ops listed=[])(h:Q .normal a w):wpAny P md ops Q 0 listed a w:=⟨hr,h⟩
end
end Go.Car
