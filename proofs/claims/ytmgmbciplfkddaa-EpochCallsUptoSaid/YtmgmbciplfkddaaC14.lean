/- YtmgmbciplfkddaaECal13: part 14 of the proof (the texts behind it, in order). -/
import Derived.Test.YtmgmbciplfkddaaC13
set_option maxHeartbeats 4000000
set_option maxRecDepth 100000
set_option linter.all false
namespace Go.Car
open Go Go.Conc Go.RowKit
open Go.ConcN (upd upd_ne upd_same)
def chkGd(ops:Array Oper)(n:Nat):Bool:=
 (List.range ops.size).all (λi=>match ops[i]? with
  |some o=>match o.dst with|some d=>decide (d<n)|none=>true
  |none=>false)&&
 (List.range ops.size).all (λi=>(List.range i).all λj=>(dstOf ops i).isNone || dstOf ops i !=dstOf ops j)
section
variable {P:Program} {main:Bool} {γ:Type} {J:γ->Goroutine->World->Prop}
theorem zqc9(hJ:JS P main (λ_=>none) J){b:Frame}{k:List Item}{cs:List Frame}(hb:b.kind≠.early)(hm:P.follows .mixedOrders=true){id:Nat}{ops:Array Oper}{T₀:Array Value}{ds:List Deferred}{s:γ}{w:World}(hback:zq4r ops=true)(hchk:chkGd ops T₀.size=true)
 (W:γ->(Nat->Bool)->List Value->World->Prop) (hWre:∀s L v w τ d,W s L v w->W s L v (re w τ d)) (v₀:List Value) (hv₀:v₀.length=ops.size) (hW:W s (λ_=>false) v₀ w)
 (hstep:∀(s:γ)(L:Nat->Bool)(vals:List Value)(T:Array Value)(w:World)(i:Nat)(o:Oper),vals.length=ops.size->W s L vals w->L i=false->ops[i]?=some o->(∀e∈o.after,Region.binds .any e=true->L e.on=true)->
  (∀j t,dstOf ops j=some t->L j=true->T[t]?=vals[j]?)->(∀t,noD ops t=true->T[t]?=T₀[t]?)->
  Region.wanted o (yielded ops T)=true/\DrawX P J s T o w (λs' v w'=>W s' (upd L i true) (vals.set i v) w') (λw'=>W s (upd L i true) vals w'))
 (hend:∀s L vals w,(∀i,i<ops.size->L i=true)->vals.length=ops.size->W s L vals w->J s (G (b.at ⟨putv ops vals 0 T₀,ds⟩ (.inRegion ops []::k)) cs) w):J s (G (b.at ⟨T₀,ds⟩ (.code (.region id ops true)::k)) cs) w:=by
 unfold chkGd at hchk;simp only[Bool.and_eq_true,List.all_eq_true,List.mem_range]at hchk;obtain⟨h1,h2⟩:=hchk;have plain:∀(i:Nat)(o:Oper),ops[i]?=some o->∀d,o.dst=some d->d<T₀.size:=λi o ho=>by
  have:=h1 i (Array.getElem?_eq_some_iff.1 ho).1;rw[ho]at this;simp only at this;intro d hd;rw[hd]at this;simpa using this
 have dlt:∀i d,dstOf ops i=some d->i<ops.size/\d<T₀.size:=λi d hd=>by
  unfold dstOf at hd;cases ho:ops[i]? with
  |none=>rw[ho]at hd;cases hd
  |some o=>rw[ho]at hd;exact⟨(Array.getElem?_eq_some_iff.1 ho).1,plain i o ho d hd⟩
 have apart:∀(i j:Nat)(d:Tmp),dstOf ops i=some d->dstOf ops j=some d->i=j:=λi j d hd hd'=>by
  rcases Nat.lt_trichotomy i j with h|h|h
  . have:=h2 j (dlt j d hd').1 i h;rw[hd,hd']at this;simp at this
  . exact h
  . have:=h2 i (dlt i d hd).1 j h;rw[hd,hd']at this;simp at this
 have final:∀(vals:List Value),vals.length=ops.size->∀i x,dstOf ops i=some x->(putv ops vals 0 T₀)[x]?=vals[i]?:=λvals hlen i x hd=>by
  obtain⟨hi,hlt⟩:=dlt i x hd;rw[List.getElem?_eq_getElem (by omega)];refine zq4a vals 0 _ i _ x (List.getElem?_eq_getElem (by omega)) (by rw[Nat.zero_add];exact hd) hlt λm a b e=>?_;have:=apart m i x e hd;omega
 let I:γ->(Nat->Bool)->Array Value->World->Prop:=λs L T w=>∃vals:List Value,vals.length=ops.size/\W s L vals w/\T.size=T₀.size/\(∀t,(∀j,dstOf ops j≠some t)->T[t]?=T₀[t]?)/\∀j t,dstOf ops j=some t->L j=true->T[t]?=vals[j]?
 refine zqca hJ hb hm I hback (λs L T w τ d⟨vals,a1,a2,a3⟩=>⟨vals,a1,hWre _ _ _ _ _ _ a2,a3⟩) ⟨v₀,hv₀,hW,rfl,λ_ _=>rfl,λ_ _ _ h=>(by cases h)⟩ ?_ ?_
 . rintro s L T w i o ⟨vals,hlen,hw,hsz,hout,hin⟩ hLi ho hdep rest hnext;have hdo:=plain i o ho;have hil:i<ops.size:=(Array.getElem?_eq_some_iff.1 ho).1;have hst1:=λw hw=>hstep s L vals T w i o hlen hw hLi ho hdep hin λt ht=>hout t (zq92 ht);have hst0:=λw hw=>(hst1 w hw).2;have hwan:=(hst1 w hw).1;have value:∀s' d v w',o.dst=some d->W s' (upd L i true) (vals.set i v) w'->I s' (upd L i true) (T.setIfInBounds d v) w':=λs' d v w' hd hW'=>by
    have hdi:dstOf ops i=some d:=by unfold dstOf;rw[ho];exact hd
    refine⟨vals.set i v,by simpa using hlen,hW',by simpa using hsz,λt ht=>?_,λj t hdj hl=>?_⟩
    . have:d≠t:=λe=>ht i (e▸hdi);rw[al_gn this];exact hout t ht
    . by_cases e:j=i
      . subst e;rw[hdi]at hdj;obtain rfl:=Option.some.inj hdj;have:d<T.size:=by rw[hsz];exact hdo d hd
        have hjl:j<vals.length:=by omega
        simp[this,hjl]
      . have hdt:d≠t:=λe2=>by subst e2;exact e (apart j i d hdj hdi)
        rw[upd_ne _ _ e]at hl;rw[al_gn hdt,List.getElem?_set_ne (λe2=>e e2.symm),hin j t hdj hl]
   have skip:∀w',o.dst=none->W s (upd L i true) vals w'->I s (upd L i true) T w':=λw' hd hW'=>by
    refine⟨vals,hlen,hW',hsz,hout,λj t hdj hl=>?_⟩;have e:j≠i:=λe=>by
     subst e;unfold dstOf at hdj;rw[ho]at hdj;simp only[al_ob]at hdj;rw[hd]at hdj;cases hdj
    rw[upd_ne _ _ e]at hl;exact hin j t hdj hl
   rcases hst0 w hw with⟨hok,hpl⟩|⟨d,f,args,hd,hrun,hev,hcall⟩
   . have hst:=λτ dd=>hst0 (re w τ dd) (hWre _ _ _ _ τ dd hw);cases hdst:o.dst with
     |some d=>
      refine zq2q hJ hb ho hok hwan hdst λτ dd=>?_;rcases hst τ dd with⟨_,⟨d',v,w',hd',hr,hI'⟩|⟨hd',_⟩⟩|⟨d',f,args,hd',hrun,hev,hcall⟩
      . exact⟨v,w',hr,hnext _ _ _ (value s d v w' hdst hI')⟩
      . rw[hdst]at hd';cases hd'
      . exfalso;rcases hpl with⟨_,v,w',_,hr,_⟩|⟨hd',_⟩
        . rw[hrun]at hr;cases hr
        . rw[hdst]at hd';cases hd'
     |none=>
      refine zq3t hJ hb ho hok hwan hdst λτ dd=>?_;rcases hst τ dd with⟨_,⟨d',v,w',hd',_⟩|⟨hd',w',hr,hI'⟩⟩|⟨d',f,args,hd',_⟩
      . rw[hdst]at hd';cases hd'
      . exact⟨w',hr,hnext _ _ _ (skip w' hdst hI')⟩
      . rw[hdst]at hd';cases hd'
   . have hrun':∀w,(execOp (Act.mk T ds).eval o).run P w=.ok (.enter f args) w:=hrun;refine zq1g hb hJ ho hwan (λτ dd=>hrun' (re w τ dd)) (λτ dd e he=>?_) ?_
     . rw[Sem.runT_eq,show(execOp (Act.mk T ds).eval o).events P (re w τ dd) #[]=#[]from hev _]at he;simp at he
     . refine hcall _ _ ?_ ?_
       . rintro s' v w' ⟨v',e,hW'⟩;cases e;rw[Frame.finish_at,ho];have hp:(Act.mk T ds).put o.dst v=⟨T.setIfInBounds d v,ds⟩:=by rw[hd];rfl
         simp only[al_ob];have:=hnext _ _ _ (value s' d v w' hd hW');simpa[hp]using this
       . rintro s' ch w' ⟨v,e,_⟩;cases e
 . rintro s L T w hall ⟨vals,hlen,hw,hsz,hout,hin⟩;have:T=putv ops vals 0 T₀:=by
    apply Array.ext_getElem?;intro x
    by_cases hx:∃j,dstOf ops j=some x
    . obtain⟨j,hdj⟩:=hx;rw[hin j x hdj (hall j (dlt j x hdj).1),final vals hlen j x hdj]
    . have hno:∀j,dstOf ops j≠some x:=λj hd=>hx ⟨j,hd⟩;rw[hout x hno];exact(zq2u vals 0 _ x λj _ _=>hno j).symm
   rw[this];exact hend s L vals w hall hlen hw
end
def Bey(w w':World):Prop:=w.heap.size<=w'.heap.size/\∀b,b<w.heap.size->w'.heap[b]?=w.heap[b]?
theorem Bey.refl (w:World):Bey w w:=⟨Nat.le_refl _,λ_ _=>rfl⟩
theorem Bey.trans {a b c:World}(h:Bey a b)(k:Bey b c):Bey a c:=⟨Nat.le_trans h.1 k.1,λx hx=>(k.2 x (Nat.lt_of_lt_of_le hx h.1)).trans (h.2 x hx)⟩
theorem Bey.re (w:World)(τ:Nat->Question->Nat)(d:Nat):Bey w (re w τ d):=⟨Nat.le_refl _,λ_ _=>rfl⟩
def SpB(sp:List (Option Value))(Sx:Nat->Value->World->Prop)(j:Nat)(v:Value)(w:World):Prop:=match sp[j]? with
 |some (some x)=>v=x
 |_=>Sx j v w
theorem SpB.mono {sp:List (Option Value)}{Sx:Nat->Value->World->Prop}{j:Nat}{v:Value}{w w':World}(hS:∀j v w w',Sx j v w->Bey w w'->Sx j v w')(h:SpB sp Sx j v w)(hb:Bey w w'):SpB sp Sx j v w':=by
 unfold SpB at h |-;cases hs:sp[j]? with
 |none=>rw[hs]at h;exact hS _ _ _ _ h hb
 |some x=>cases x with
  |none=>rw[hs]at h;exact hS _ _ _ _ h hb
  |some x=>rw[hs]at h;exact h
theorem zqc{sp:List (Option Value)}{Sx:Nat->Value->World->Prop}{ops:Array Oper}{L:Nat->Bool}{T:Array Value}{w:World}(hT:∀j t,dstOf ops j=some t->L j=true->∃v,T[t]?=some v/\SpB sp Sx j v w){j t:Nat}{x:Value}(hd:dstOf ops j=some t)(hL:L j=true)(hs:sp[j]?=some (some x)):T[t]?=some x:=by
 obtain⟨v,h1,h2⟩:=hT j t hd hL;unfold SpB at h2;rw[hs]at h2;rw[h1,show v=x from h2]
theorem zq11{ops:Array Oper}{T:Array Value}{j:Nat}{d:Tmp}{b:Bool}(h:dstOf ops j=some d)(hT:T[d]?=some (.bool b)):yielded ops T j=some b:=by
 unfold dstOf at h;unfold yielded;rw[h];simp only[al_ob,hT]
section
variable {P:Program} {main:Bool} {γ:Type} {J:γ->Goroutine->World->Prop} {A:FuncId->Bool}
def DrawB(P:Program)(A:FuncId->Bool)(T:Array Value)(o:Oper)(w:World)(K:Value->World->Prop):Prop:=
 (∃d v w',o.dst=some d/\okOp P (λ_=>false) o.op=true/\(execOp (Act.mk T []).eval o).run P w=.ok (.value v) w'/\Bey w w'/\K v w')\/
 (∃d f fn c args,o.dst=some d/\(∀w,(execOp (Act.mk T []).eval o).run P w=.ok (.enter f args) w)/\(∀w,(execOp (Act.mk T []).eval o).events P w #[]=#[])/\P.funcs[f]?=some fn/\fn.body=some c/\zqp P A c=true/\∀τ d,Calls P f args (re w τ d) λe w'=>∃v,e=.returned v/\Bey (re w τ d) w'/\K v w')
theorem zq79(hJ:JS P main (λ_=>none) J)(hC:CalmJ P main J)(hP:Plain P A){b:Frame}{k:List Item}{cs:List Frame}(hb:b.kind≠.early)(hm:P.follows .mixedOrders=true){id:Nat}{ops:Array Oper}{T₀:Array Value}{ds:List Deferred}{s:γ}{w0:World}(hback:zq4r ops=true)(hchk:chkGd ops T₀.size=true)
 (sp:List (Option Value)) (Sx:Nat->Value->World->Prop) (hS:∀j v w w',Sx j v w->Bey w w'->Sx j v w')
 (hstep:∀(w:World)(L:Nat->Bool)(T:Array Value)(i:Nat)(o:Oper),Bey w0 w->ops[i]?=some o->(∀e∈o.after,Region.binds .any e=true->L e.on=true)->(∀j t,dstOf ops j=some t->L j=true->∃v,T[t]?=some v/\SpB sp Sx j v w)->(∀t,noD ops t=true->T[t]?=T₀[t]?)->
  Region.wanted o (yielded ops T)=true/\DrawB P A T o w (SpB sp Sx i))
 (hend:∀vals w,Bey w0 w->vals.length=ops.size->(∀i v,vals[i]?=some v->SpB sp Sx i v w)->J s (G (b.at ⟨putv ops vals 0 T₀,ds⟩ (.inRegion ops []::k)) cs) w):J s (G (b.at ⟨T₀,ds⟩ (.code (.region id ops true)::k)) cs) w0:=by
 refine zqc9 hJ hb hm hback hchk (λs' L vals w=>s'=s/\Bey w0 w/\∀i,i<ops.size->L i=true->∃v,vals[i]?=some v/\SpB sp Sx i v w) (λs' L v w τ d h=>⟨h.1,h.2.1.trans (Bey.re _ _ _),λi hi hl=>?_⟩) (List.replicate ops.size undef) (by simp) ⟨rfl,Bey.refl _,λi _ h=>(by cases h)⟩ ?_ ?_
 . obtain⟨x,h1,h2⟩:=h.2.2 i hi hl;exact⟨x,h1,h2.mono hS (Bey.re _ _ _)⟩
 . rintro s' L vals T w i o hlen ⟨rfl,hbe,hv⟩ hLi ho hdep hT hT0;have hi:i<ops.size:=(Array.getElem?_eq_some_iff.1 ho).1;have hT':∀j t,dstOf ops j=some t->L j=true->∃v,T[t]?=some v/\SpB sp Sx j v w:=λj t hd hl=>by
    have hj:j<ops.size:=by
     unfold dstOf at hd;cases h:ops[j]? with
     |none=>rw[h]at hd;cases hd
     |some o=>exact(Array.getElem?_eq_some_iff.1 h).1
    obtain⟨v,h1,h2⟩:=hv j hj hl;exact⟨v,(hT j t hd hl).trans h1,h2⟩
   obtain⟨hw,hd⟩:=hstep w L T i o hbe ho hdep hT' hT0;refine⟨hw,?_⟩;have key:∀v w',Bey w w'->SpB sp Sx i v w'->s'=s'/\Bey w0 w'/\∀j,j<ops.size->upd L i true j=true->∃x,(vals.set i v)[j]?=some x/\SpB sp Sx j x w':=λv w' h1 h2=>by
    refine⟨rfl,hbe.trans h1,λj hj hl=>?_⟩
    by_cases e:j=i
    . subst e;exact⟨v,List.getElem?_set_self (by omega),h2⟩
    . rw[upd_ne _ _ e]at hl;obtain⟨x,k1,k2⟩:=hv j hj hl;exact⟨x,by rw[List.getElem?_set_ne (λy=>e y.symm)];exact k1,k2.mono hS h1⟩
   rcases hd with⟨d,v,w',h1,h2,h3,h4,h5⟩|⟨d,f,fn,c,args,h1,h2,h3,h4,h5,h6,h7⟩
   . exact .inl ⟨h2,.inl ⟨d,v,w',h1,h3,key v w' h4 h5⟩⟩
   . refine .inr ⟨d,f,args,h1,h2,h3,?_⟩;intro cl cs' q1 q2;refine zq5o hJ hC hP h4 h5 h6 (R:=λv w'=>Bey w w'/\SpB sp Sx i v w') (λv w' τ d h=>⟨h.1.trans (Bey.re _ _ _),h.2.mono hS (Bey.re _ _ _)⟩) (λτ d=>Calls.mono (h7 τ d) ?_) ?_
     . rintro e w' ⟨v,rfl,k1,k2⟩;exact⟨v,rfl,(Bey.re w τ d).trans k1,k2⟩
     . intro v w' hR;exact q1 _ v w' ⟨v,rfl,key v w' hR.1 hR.2⟩
 . rintro s' L vals w hL hlen ⟨rfl,hbe,hv⟩;refine hend vals w hbe hlen λi v hi=>?_;have hi':i<ops.size:=by rw[<-hlen];exact(List.getElem?_eq_some_iff.1 hi).1
   obtain⟨x,h1,h2⟩:=hv i hi' (hL i hi');rw[hi]at h1;cases h1;exact h2
end
end Go.Car
namespace Go.Proofs
open Go Go.Conc Go.RowKit Go.Car
open Go.ConcN (upd upd_ne upd_same)
theorem zq76{W:World}{Z:Nat}{a:Ans}{v:Value}(h:W.heap[Z]?=some (.cells #[.bool a.ok,.int .i64 a.n,v] 48))(hl:IntsAt W v a.l):AnsAt W (.slice (some ⟨Z,0,none⟩) 1 1) [a]:=
 ⟨_,1,rfl,λ_=>⟨Z,0,rfl,λi b hi=>by
  match i,hi with
  |0,hi=>
   simp only[al_g0,al_oi]at hi;subst hi;exact⟨(zq0 h).trans rfl,(zq0 h).trans rfl,v,(zq0 h).trans rfl,hl⟩
  |i+1,hi=>simp at hi⟩⟩
structure EcQ(db rb gm N kb b12 b14:Nat)(mv:Value)(e0:Int)(ml:List Int)(a:Ans)(gp:Option Addr)(gn gc:Nat)(lp:Option Addr)(ln lc:Nat)(s0:Int)(w:World):Prop where
 ep:∀W,Beyond w W->Calls Try.prog 18 #[.pointer (some ⟨db,0,none⟩)] W λe w'=>e=.returned (.int .i64 e0)/\w'=W
 mks:∀W,Beyond w W->Calls Try.prog 20 #[.pointer (some ⟨db,0,none⟩)] W λe w'=>∃v,e=.returned v/\NumsI W ml v w'
 got:w.heap[b14]?=some (.cells #[.bool a.ok,.int .i64 a.n,.slice gp gn gc] 48)
 gl:IntsAt w (.slice gp gn gc) a.l
 want:w.heap[b12]?=some (.cells #[.bool a.ok,.int .i64 a.n,.slice lp ln lc] 48)
 wl:IntsAt w (.slice lp ln lc) a.l
 cnt:w.cell? ⟨kb,0,none⟩=some (.int .i64 s0)
 dom:w.heap[rb]?=some (.cells #[.int .i64 e0,.slice (some ⟨gm,0,none⟩) N N,mv] 60)
 mar:IntsAt w (.slice (some ⟨gm,0,none⟩) N N) ml
 mll:ml.length<=64
 al:a.l.length<=1099511627776
noncomputable def ec23:Array Oper:=match headC (headC (ecB 5))with
 |.region _ o _=>o
 |_=>#[]
theorem ec5:headC (ecB 5)=.seq (.region 23 ec23 true) (sndC (headC (ecB 5))):=by kernel_rfl
def ec23S(a:Ans)(ml:List Int)(gp:Option Addr)(gn gc:Nat)(lp:Option Addr)(ln lc:Nat):Nat->Value->World->Prop:=λj v w=>match j with
 |1=>∃Z,v=.slice (some ⟨Z,0,none⟩) 1 1/\w.heap[Z]?=some (.cells #[.bool a.ok,.int .i64 a.n,.slice gp gn gc] 48)
 |3=>∃Z,v=.slice (some ⟨Z,0,none⟩) 1 1/\w.heap[Z]?=some (.cells #[.bool a.ok,.int .i64 a.n,.slice lp ln lc] 48)
 |25=>IntsAt w v ml
 |_=>True
theorem zqd2{a:Ans}{ml:List Int}{gp:Option Addr}{gn gc:Nat}{lp:Option Addr}{ln lc:Nat}:∀j v w w',ec23S a ml gp gn gc lp ln lc j v w->Bey w w'->ec23S a ml gp gn gc lp ln lc j v w':=by
 intro j v w w' h hb;have hB:Beyond w w':=hb;unfold ec23S at h |-;split at h
 . obtain⟨Z,h1,h2⟩:=h;exact⟨Z,h1,hB.heap h2⟩
 . obtain⟨Z,h1,h2⟩:=h;exact⟨Z,h1,hB.heap h2⟩
 . exact h.beyond hB
 . simp_all
abbrev ec23L(db rb gm N kb:Nat)(e0:Int)(a:Ans)(gp:Option Addr)(gn gc:Nat)(lp:Option Addr)(ln lc:Nat)(s0:Int):List (Option Value):=[some (.agg #[.bool a.ok,.int .i64 a.n,.slice gp gn gc]),none,some (.agg #[.bool a.ok,.int .i64 a.n,.slice lp ln lc]),none,some (.bool true),some (.bool false),some (.bool false),some (.pointer (some ⟨kb,0,none⟩)),some (.pointer (some ⟨kb,0,none⟩)),some (.pointer (some ⟨kb,0,none⟩)),some (.int .i64 s0),some (.int .i64 s0),some (.bool false),some (.bool false),some (.bool false),some (.pointer (some ⟨db,0,none⟩)),some (.int .i64 e0),some (.pointer (some ⟨rb,0,none⟩)),some (.pointer (some ⟨rb,0,none⟩)),some (.pointer (some ⟨rb,0,none⟩)),some (.int .i64 e0),some (.bool false),some (.bool false),some (.bool false),some (.pointer (some ⟨db,0,none⟩)),none,some (.pointer (some ⟨rb,0,none⟩)),some (.pointer (some ⟨rb,0,none⟩)),some (.pointer (some ⟨rb,1,none⟩)),some (.slice (some ⟨gm,0,none⟩) N N),some (.bool true),some (.bool false),some (.bool false)]
theorem zqd3{T₀:Array Value}{N db rb kb gm b10 b12 b14 gn gc ln lc:Nat}{gp lp:Option Addr}{s0 e0:Int}{mv:Value}{ml:List Int}{a:Ans}{w0:World}
 (h5:T₀[5]?=some (.pointer (some ⟨db,0,none⟩))) (h7:T₀[7]?=some (.pointer (some ⟨rb,0,none⟩))) (h8:T₀[8]?=some (.pointer (some ⟨kb,0,none⟩))) (h11:T₀[11]?=some (.int .i64 s0)) (h12:T₀[12]?=some (.pointer (some ⟨b12,0,none⟩))) (h14:T₀[14]?=some (.pointer (some ⟨b14,0,none⟩)))
 (HQ:RowKit.Hid (EcQ db rb gm N kb b12 b14 mv e0 ml a gp gn gc lp ln lc s0 w0)):∀(w:World)(L:Nat->Bool)(T:Array Value)(i:Nat)(o:Oper),Bey w0 w->ec23[i]?=some o->(∀e∈o.after,Region.binds .any e=true->L e.on=true)->(∀j t,dstOf ec23 j=some t->L j=true->∃v,T[t]?=some v/\SpB (ec23L db rb gm N kb e0 a gp gn gc lp ln lc s0) (ec23S a ml gp gn gc lp ln lc) j v w)->(∀t,noD ec23 t=true->T[t]?=T₀[t]?)->
  Region.wanted o (yielded ec23 T)=true/\DrawB Try.prog aM T o w (SpB (ec23L db rb gm N kb e0 a gp gn gc lp ln lc s0) (ec23S a ml gp gn gc lp ln lc) i):=by
 intro w L T i o hbe0 ho hdep hT hT0;have hbe:Beyond w0 w:=hbe0;have hi:i<33:=(Array.getElem?_eq_some_iff.1 ho).1;have y6:dstOf ec23 6=some 111:=by kernel_rfl
 have y14:dstOf ec23 14=some 119:=by kernel_rfl
 have y23:dstOf ec23 23=some 128:=by kernel_rfl
 obtain⟨u3,hu3⟩:∃c,ec23=c:=⟨_,rfl⟩;have eu3:=hu3;simp only[ec23,ecB,ecLp,ecT,headC,tailN,sndC,zqx,loopC,Try.f4,al_od]at eu3;rw[hu3,<-eu3]at ho;clear eu3 hu3;obtain rfl |rfl |rfl |rfl |rfl |rfl |rfl |rfl |rfl |rfl |rfl |rfl |rfl |rfl |rfl |rfl |rfl |rfl |rfl |rfl |rfl |rfl |rfl |rfl |rfl |rfl |rfl |rfl |rfl |rfl |rfl |rfl |rfl:i=0\/i=1\/i=2\/i=3\/i=4\/i=5\/i=6\/i=7\/i=8\/i=9\/i=10\/i=11\/i=12\/i=13\/i=14\/i=15\/i=16\/i=17\/i=18\/i=19\/i=20\/i=21\/i=22\/i=23\/i=24\/i=25\/i=26\/i=27\/i=28\/i=29\/i=30\/i=31\/i=32:=by omega
 ·
  simp only[al_gl,al_g0,al_g1,al_oi]at ho;subst ho;refine⟨rfl,?_⟩;have e14:=(hT0 14 (by kernel_rfl)).trans h14;have c0:w.cell? ⟨b14,0,none⟩=some (.bool a.ok):=(zq0 (hbe.heap HQ.out.got)).trans rfl;have c1:w.cell? ⟨b14,1,none⟩=some (.int .i64 a.n):=(zq0 (hbe.heap HQ.out.got)).trans rfl;have c2:w.cell? ⟨b14,2,none⟩=some (.slice gp gn gc):=(zq0 (hbe.heap HQ.out.got)).trans rfl;refine .inl ⟨105,.agg #[.bool a.ok,.int .i64 a.n,.slice gp gn gc],w,rfl,rfl,?_,Bey.refl w,rfl⟩;simp only[execOp,Act.eval,al_gd,e14,al_od]
  try go_simp
 ·
  simp only[al_gl,al_g0,al_g1,al_oi]at ho;subst ho;refine⟨rfl,?_⟩;have e105:T[105]?=some (.agg #[.bool a.ok,.int .i64 a.n,.slice gp gn gc]):=zqc hT (j:=0) rfl (hdep ⟨0,.data⟩ (by simp) rfl) rfl;refine .inl ⟨106,.slice (some ⟨w.heap.size,0,none⟩) 1 1,w.alloc (.cells #[.bool a.ok,.int .i64 a.n,.slice gp gn gc] 48),rfl,rfl,?_,Beyond.alloc _ _,⟨w.heap.size,rfl,zqn _ _⟩⟩;simp only[execOp,Act.eval,al_gd,e105,al_od];go_simp
 ·
  simp only[al_gl,al_g0,al_g1,al_oi]at ho;subst ho;refine⟨rfl,?_⟩;have e12:=(hT0 12 (by kernel_rfl)).trans h12;have c0:w.cell? ⟨b12,0,none⟩=some (.bool a.ok):=(zq0 (hbe.heap HQ.out.want)).trans rfl;have c1:w.cell? ⟨b12,1,none⟩=some (.int .i64 a.n):=(zq0 (hbe.heap HQ.out.want)).trans rfl;have c2:w.cell? ⟨b12,2,none⟩=some (.slice lp ln lc):=(zq0 (hbe.heap HQ.out.want)).trans rfl;refine .inl ⟨107,.agg #[.bool a.ok,.int .i64 a.n,.slice lp ln lc],w,rfl,rfl,?_,Bey.refl w,rfl⟩;simp only[execOp,Act.eval,al_gd,e12,al_od]
  try go_simp
 ·
  simp only[al_gl,al_g0,al_g1,al_oi]at ho;subst ho;refine⟨rfl,?_⟩;have e107:T[107]?=some (.agg #[.bool a.ok,.int .i64 a.n,.slice lp ln lc]):=zqc hT (j:=2) rfl (hdep ⟨2,.data⟩ (by simp) rfl) rfl;refine .inl ⟨108,.slice (some ⟨w.heap.size,0,none⟩) 1 1,w.alloc (.cells #[.bool a.ok,.int .i64 a.n,.slice lp ln lc] 48),rfl,rfl,?_,Beyond.alloc _ _,⟨w.heap.size,rfl,zqn _ _⟩⟩;simp only[execOp,Act.eval,al_gd,e107,al_od];go_simp
 ·
  simp only[al_gl,al_g0,al_g1,al_oi]at ho;subst ho;refine⟨rfl,?_⟩;obtain⟨v106,e106,q106⟩:=hT 1 106 rfl (hdep ⟨1,.data⟩ (by simp) rfl);obtain⟨Z1,rfl,hZ1⟩:∃Z,v106=.slice (some ⟨Z,0,none⟩) 1 1/\w.heap[Z]?=some (.cells #[.bool a.ok,.int .i64 a.n,.slice gp gn gc] 48):=q106;obtain⟨v108,e108,q108⟩:=hT 3 108 rfl (hdep ⟨3,.data⟩ (by simp) rfl);obtain⟨Z3,rfl,hZ3⟩:∃Z,v108=.slice (some ⟨Z,0,none⟩) 1 1/\w.heap[Z]?=some (.cells #[.bool a.ok,.int .i64 a.n,.slice lp ln lc] 48):=q108;refine .inr ⟨109,17,_,_,#[.slice (some ⟨Z1,0,none⟩) 1 1,.slice (some ⟨Z3,0,none⟩) 1 1],rfl,λw=>?_,λw=>?_,Try.func17,rfl,by kernel_rfl,λτ d=>?_⟩
  . simp only[execOp,Act.eval,al_gd,e106,e108,al_od,List.map_toArray,List.map_cons,List.map_nil];simp[go_sem,execOp,Act.eval,resolve,Deferred.ofValue,invoke,callFunc,Try.func17,Try.f17,e106,e108]
  . simp only[execOp,Act.eval,al_gd,e106,e108,al_od,List.map_toArray,List.map_cons,List.map_nil];simp[go_sem,execOp,Act.eval,resolve,Deferred.ofValue,invoke,callFunc,Try.func17,Try.f17,e106,e108]
  . have hbr:=Beyond.re w τ d;refine Calls.mono (zqc4 (l:=[a]) (by simp) (λb hb=>by rw[List.mem_singleton.1 hb];exact HQ.out.al) (zq76 (hbr.heap hZ1) (HQ.out.gl.beyond (hbe.trans hbr))) (zq76 (hbr.heap hZ3) (HQ.out.wl.beyond (hbe.trans hbr)))) ?_;rintro e w' ⟨rfl,m,rfl⟩;exact⟨_,rfl,⟨Nat.le_refl _,λ_ _=>rfl⟩,rfl⟩
 ·
  simp only[al_gl,al_g0,al_g1,al_oi]at ho;subst ho;refine⟨rfl,?_⟩;have e109:T[109]?=some (.bool true):=zqc hT (j:=4) rfl (hdep ⟨4,.data⟩ (by simp) rfl) rfl;refine .inl ⟨110,.bool false,w,rfl,rfl,?_,Bey.refl w,rfl⟩;simp only[execOp,Act.eval,al_gd,e109,al_od]
  try go_simp
 ·
  simp only[al_gl,al_g0,al_g1,al_oi]at ho;subst ho;refine⟨rfl,?_⟩;have e110:T[110]?=some (.bool false):=zqc hT (j:=5) rfl (hdep ⟨5,.data⟩ (by simp) rfl) rfl;refine .inl ⟨111,.bool false,w,rfl,rfl,?_,Bey.refl w,rfl⟩;simp only[execOp,Act.eval,al_gd,e110,al_od]
  try go_simp
 ·
  simp only[al_gl,al_g0,al_g1,al_oi]at ho;subst ho;have eg:T[111]?=some (.bool false):=zqc hT y6 (hdep ⟨6,.guard⟩ (by simp) rfl) rfl;refine⟨by simp only[Region.wanted,zq11 y6 eg];rfl,?_⟩;have e8:=(hT0 8 (by kernel_rfl)).trans h8;refine .inl ⟨112,.pointer (some ⟨kb,0,none⟩),w,rfl,rfl,?_,Bey.refl w,rfl⟩;simp only[execOp,Act.eval,al_gd,e8,al_od]
  try go_simp
 ·
  simp only[al_gl,al_g0,al_g1,al_oi]at ho;subst ho;have eg:T[111]?=some (.bool false):=zqc hT y6 (hdep ⟨6,.guard⟩ (by simp) rfl) rfl;refine⟨by simp only[Region.wanted,zq11 y6 eg];rfl,?_⟩;have e112:T[112]?=some (.pointer (some ⟨kb,0,none⟩)):=zqc hT (j:=7) rfl (hdep ⟨7,.data⟩ (by simp) rfl) rfl;refine .inl ⟨113,.pointer (some ⟨kb,0,none⟩),w,rfl,rfl,?_,Bey.refl w,rfl⟩;simp only[execOp,Act.eval,al_gd,e112,al_od]
  try go_simp
 ·
  simp only[al_gl,al_g0,al_g1,al_oi]at ho;subst ho;have eg:T[111]?=some (.bool false):=zqc hT y6 (hdep ⟨6,.guard⟩ (by simp) rfl) rfl;refine⟨by simp only[Region.wanted,zq11 y6 eg];rfl,?_⟩;have e113:T[113]?=some (.pointer (some ⟨kb,0,none⟩)):=zqc hT (j:=8) rfl (hdep ⟨8,.data⟩ (by simp) rfl) rfl;refine .inl ⟨114,.pointer (some ⟨kb,0,none⟩),w,rfl,rfl,?_,Bey.refl w,rfl⟩;simp only[execOp,Act.eval,al_gd,e113,al_od]
  try go_simp
 ·
  simp only[al_gl,al_g0,al_g1,al_oi]at ho;subst ho;have eg:T[111]?=some (.bool false):=zqc hT y6 (hdep ⟨6,.guard⟩ (by simp) rfl) rfl;refine⟨by simp only[Region.wanted,zq11 y6 eg];rfl,?_⟩;have e114:T[114]?=some (.pointer (some ⟨kb,0,none⟩)):=zqc hT (j:=9) rfl (hdep ⟨9,.data⟩ (by simp) rfl) rfl;have c0:=hbe.cell HQ.out.cnt;refine .inl ⟨115,.int .i64 s0,w,rfl,rfl,?_,Bey.refl w,rfl⟩;simp only[execOp,Act.eval,al_gd,e114,al_od]
  try go_simp
 ·
  simp only[al_gl,al_g0,al_g1,al_oi]at ho;subst ho;have eg:T[111]?=some (.bool false):=zqc hT y6 (hdep ⟨6,.guard⟩ (by simp) rfl) rfl;refine⟨by simp only[Region.wanted,zq11 y6 eg];rfl,?_⟩;have e11:=(hT0 11 (by kernel_rfl)).trans h11;refine .inl ⟨116,.int .i64 s0,w,rfl,rfl,?_,Bey.refl w,rfl⟩;simp only[execOp,Act.eval,al_gd,e11,al_od]
  try go_simp
 ·
  simp only[al_gl,al_g0,al_g1,al_oi]at ho;subst ho;have eg:T[111]?=some (.bool false):=zqc hT y6 (hdep ⟨6,.guard⟩ (by simp) rfl) rfl;refine⟨by simp only[Region.wanted,zq11 y6 eg];rfl,?_⟩;have e115:T[115]?=some (.int .i64 s0):=zqc hT (j:=10) rfl (hdep ⟨10,.data⟩ (by simp) rfl) rfl;have e116:T[116]?=some (.int .i64 s0):=zqc hT (j:=11) rfl (hdep ⟨11,.data⟩ (by simp) rfl) rfl;refine .inl ⟨117,.bool false,w,rfl,rfl,?_,Bey.refl w,rfl⟩;simp only[execOp,Act.eval,al_gd,e115,e116,al_od]
  try go_simp
 ·
  simp only[al_gl,al_g0,al_g1,al_oi]at ho;subst ho;refine⟨rfl,?_⟩;have e111:T[111]?=some (.bool false):=zqc hT (j:=6) rfl (hdep ⟨6,.data⟩ (by simp) rfl) rfl;have e117:T[117]?=some (.bool false):=zqc hT (j:=12) rfl (hdep ⟨12,.data⟩ (by simp) rfl) rfl;refine .inl ⟨118,.bool false,w,rfl,rfl,?_,Bey.refl w,rfl⟩;simp only[execOp,Act.eval,al_gd,e111,e117,al_od]
  try go_simp
 ·
  simp only[al_gl,al_g0,al_g1,al_oi]at ho;subst ho;refine⟨rfl,?_⟩;have e118:T[118]?=some (.bool false):=zqc hT (j:=13) rfl (hdep ⟨13,.data⟩ (by simp) rfl) rfl;refine .inl ⟨119,.bool false,w,rfl,rfl,?_,Bey.refl w,rfl⟩;simp only[execOp,Act.eval,al_gd,e118,al_od]
  try go_simp
 ·
  simp only[al_gl,al_g0,al_g1,al_oi]at ho;subst ho;have eg:T[119]?=some (.bool false):=zqc hT y14 (hdep ⟨14,.guard⟩ (by simp) rfl) rfl;refine⟨by simp only[Region.wanted,zq11 y14 eg];rfl,?_⟩;have e5:=(hT0 5 (by kernel_rfl)).trans h5;refine .inl ⟨120,.pointer (some ⟨db,0,none⟩),w,rfl,rfl,?_,Bey.refl w,rfl⟩;simp only[execOp,Act.eval,al_gd,e5,al_od]
  try go_simp
 ·
  simp only[al_gl,al_g0,al_g1,al_oi]at ho;subst ho;have eg:T[119]?=some (.bool false):=zqc hT y14 (hdep ⟨14,.guard⟩ (by simp) rfl) rfl;refine⟨by simp only[Region.wanted,zq11 y14 eg];rfl,?_⟩;have e120:T[120]?=some (.pointer (some ⟨db,0,none⟩)):=zqc hT (j:=15) rfl (hdep ⟨15,.data⟩ (by simp) rfl) rfl;refine .inr ⟨121,18,_,_,#[.pointer (some ⟨db,0,none⟩)],rfl,λw=>?_,λw=>?_,Try.func18,rfl,by kernel_rfl,λτ d=>?_⟩
  . simp only[execOp,Act.eval,al_gd,e120,al_od,List.map_toArray,List.map_cons,List.map_nil];simp[go_sem,execOp,Act.eval,resolve,Deferred.ofValue,invoke,callFunc,Try.func18,Try.f18,e120]
  . simp only[execOp,Act.eval,al_gd,e120,al_od,List.map_toArray,List.map_cons,List.map_nil];simp[go_sem,execOp,Act.eval,resolve,Deferred.ofValue,invoke,callFunc,Try.func18,Try.f18,e120]
  . refine Calls.mono (HQ.out.ep _ (hbe.trans (Beyond.re w τ d))) ?_;rintro e w' ⟨rfl,rfl⟩;exact⟨_,rfl,Bey.refl _,rfl⟩
 ·
  simp only[al_gl,al_g0,al_g1,al_oi]at ho;subst ho;have eg:T[119]?=some (.bool false):=zqc hT y14 (hdep ⟨14,.guard⟩ (by simp) rfl) rfl;refine⟨by simp only[Region.wanted,zq11 y14 eg];rfl,?_⟩;have e7:=(hT0 7 (by kernel_rfl)).trans h7;refine .inl ⟨122,.pointer (some ⟨rb,0,none⟩),w,rfl,rfl,?_,Bey.refl w,rfl⟩;simp only[execOp,Act.eval,al_gd,e7,al_od]
  try go_simp
 ·
  simp only[al_gl,al_g0,al_g1,al_oi]at ho;subst ho;have eg:T[119]?=some (.bool false):=zqc hT y14 (hdep ⟨14,.guard⟩ (by simp) rfl) rfl;refine⟨by simp only[Region.wanted,zq11 y14 eg];rfl,?_⟩;have e122:T[122]?=some (.pointer (some ⟨rb,0,none⟩)):=zqc hT (j:=17) rfl (hdep ⟨17,.data⟩ (by simp) rfl) rfl;refine .inl ⟨123,.pointer (some ⟨rb,0,none⟩),w,rfl,rfl,?_,Bey.refl w,rfl⟩;simp only[execOp,Act.eval,al_gd,e122,al_od]
  try go_simp
 ·
  simp only[al_gl,al_g0,al_g1,al_oi]at ho;subst ho;have eg:T[119]?=some (.bool false):=zqc hT y14 (hdep ⟨14,.guard⟩ (by simp) rfl) rfl;refine⟨by simp only[Region.wanted,zq11 y14 eg];rfl,?_⟩;have e123:T[123]?=some (.pointer (some ⟨rb,0,none⟩)):=zqc hT (j:=18) rfl (hdep ⟨18,.data⟩ (by simp) rfl) rfl;refine .inl ⟨124,.pointer (some ⟨rb,0,none⟩),w,rfl,rfl,?_,Bey.refl w,rfl⟩;simp only[execOp,Act.eval,al_gd,e123,al_od]
  try go_simp
 ·
  simp only[al_gl,al_g0,al_g1,al_oi]at ho;subst ho;have eg:T[119]?=some (.bool false):=zqc hT y14 (hdep ⟨14,.guard⟩ (by simp) rfl) rfl;refine⟨by simp only[Region.wanted,zq11 y14 eg];rfl,?_⟩;have e124:T[124]?=some (.pointer (some ⟨rb,0,none⟩)):=zqc hT (j:=19) rfl (hdep ⟨19,.data⟩ (by simp) rfl) rfl;have c0:w.cell? ⟨rb,0,none⟩=some (.int .i64 e0):=(zq0 (hbe.heap HQ.out.dom)).trans rfl;refine .inl ⟨125,.int .i64 e0,w,rfl,rfl,?_,Bey.refl w,rfl⟩;simp only[execOp,Act.eval,al_gd,e124,al_od]
  try go_simp
 ·
  simp only[al_gl,al_g0,al_g1,al_oi]at ho;subst ho;have eg:T[119]?=some (.bool false):=zqc hT y14 (hdep ⟨14,.guard⟩ (by simp) rfl) rfl;refine⟨by simp only[Region.wanted,zq11 y14 eg];rfl,?_⟩;have e121:T[121]?=some (.int .i64 e0):=zqc hT (j:=16) rfl (hdep ⟨16,.data⟩ (by simp) rfl) rfl;have e125:T[125]?=some (.int .i64 e0):=zqc hT (j:=20) rfl (hdep ⟨20,.data⟩ (by simp) rfl) rfl;refine .inl ⟨126,.bool false,w,rfl,rfl,?_,Bey.refl w,rfl⟩;simp only[execOp,Act.eval,al_gd,e121,e125,al_od]
  try go_simp
 ·
  simp only[al_gl,al_g0,al_g1,al_oi]at ho;subst ho;refine⟨rfl,?_⟩;have e119:T[119]?=some (.bool false):=zqc hT (j:=14) rfl (hdep ⟨14,.data⟩ (by simp) rfl) rfl;have e126:T[126]?=some (.bool false):=zqc hT (j:=21) rfl (hdep ⟨21,.data⟩ (by simp) rfl) rfl;refine .inl ⟨127,.bool false,w,rfl,rfl,?_,Bey.refl w,rfl⟩;simp only[execOp,Act.eval,al_gd,e119,e126,al_od]
  try go_simp
 ·
  simp only[al_gl,al_g0,al_g1,al_oi]at ho;subst ho;refine⟨rfl,?_⟩;have e127:T[127]?=some (.bool false):=zqc hT (j:=22) rfl (hdep ⟨22,.data⟩ (by simp) rfl) rfl;refine .inl ⟨128,.bool false,w,rfl,rfl,?_,Bey.refl w,rfl⟩;simp only[execOp,Act.eval,al_gd,e127,al_od]
  try go_simp
 ·
  simp only[al_gl,al_g0,al_g1,al_oi]at ho;subst ho;have eg:T[128]?=some (.bool false):=zqc hT y23 (hdep ⟨23,.guard⟩ (by simp) rfl) rfl;refine⟨by simp only[Region.wanted,zq11 y23 eg];rfl,?_⟩;have e5:=(hT0 5 (by kernel_rfl)).trans h5;refine .inl ⟨129,.pointer (some ⟨db,0,none⟩),w,rfl,rfl,?_,Bey.refl w,rfl⟩;simp only[execOp,Act.eval,al_gd,e5,al_od]
  try go_simp
 ·
  simp only[al_gl,al_g0,al_g1,al_oi]at ho;subst ho;have eg:T[128]?=some (.bool false):=zqc hT y23 (hdep ⟨23,.guard⟩ (by simp) rfl) rfl;refine⟨by simp only[Region.wanted,zq11 y23 eg];rfl,?_⟩;have e129:T[129]?=some (.pointer (some ⟨db,0,none⟩)):=zqc hT (j:=24) rfl (hdep ⟨24,.data⟩ (by simp) rfl) rfl;refine .inr ⟨130,20,_,_,#[.pointer (some ⟨db,0,none⟩)],rfl,λw=>?_,λw=>?_,Try.func20,rfl,by kernel_rfl,λτ d=>?_⟩
  . simp only[execOp,Act.eval,al_gd,e129,al_od,List.map_toArray,List.map_cons,List.map_nil];simp[go_sem,execOp,Act.eval,resolve,Deferred.ofValue,invoke,callFunc,Try.func20,Try.f20,e129]
  . simp only[execOp,Act.eval,al_gd,e129,al_od,List.map_toArray,List.map_cons,List.map_nil];simp[go_sem,execOp,Act.eval,resolve,Deferred.ofValue,invoke,callFunc,Try.func20,Try.f20,e129]
  . refine Calls.mono (HQ.out.mks _ (hbe.trans (Beyond.re w τ d))) ?_;rintro e w' ⟨v,rfl,hN⟩;exact⟨v,rfl,hN.be,zq3i hN.row⟩
 ·
  simp only[al_gl,al_g0,al_g1,al_oi]at ho;subst ho;have eg:T[128]?=some (.bool false):=zqc hT y23 (hdep ⟨23,.guard⟩ (by simp) rfl) rfl;refine⟨by simp only[Region.wanted,zq11 y23 eg];rfl,?_⟩;have e7:=(hT0 7 (by kernel_rfl)).trans h7;refine .inl ⟨131,.pointer (some ⟨rb,0,none⟩),w,rfl,rfl,?_,Bey.refl w,rfl⟩;simp only[execOp,Act.eval,al_gd,e7,al_od]
  try go_simp
 ·
  simp only[al_gl,al_g0,al_g1,al_oi]at ho;subst ho;have eg:T[128]?=some (.bool false):=zqc hT y23 (hdep ⟨23,.guard⟩ (by simp) rfl) rfl;refine⟨by simp only[Region.wanted,zq11 y23 eg];rfl,?_⟩;have e131:T[131]?=some (.pointer (some ⟨rb,0,none⟩)):=zqc hT (j:=26) rfl (hdep ⟨26,.data⟩ (by simp) rfl) rfl;refine .inl ⟨132,.pointer (some ⟨rb,0,none⟩),w,rfl,rfl,?_,Bey.refl w,rfl⟩;simp only[execOp,Act.eval,al_gd,e131,al_od]
  try go_simp
 ·
  simp only[al_gl,al_g0,al_g1,al_oi]at ho;subst ho;have eg:T[128]?=some (.bool false):=zqc hT y23 (hdep ⟨23,.guard⟩ (by simp) rfl) rfl;refine⟨by simp only[Region.wanted,zq11 y23 eg];rfl,?_⟩;have e132:T[132]?=some (.pointer (some ⟨rb,0,none⟩)):=zqc hT (j:=27) rfl (hdep ⟨27,.data⟩ (by simp) rfl) rfl;refine .inl ⟨133,.pointer (some ⟨rb,1,none⟩),w,rfl,rfl,?_,Bey.refl w,rfl⟩;simp only[execOp,Act.eval,al_gd,e132,al_od]
  try go_simp
 ·
  simp only[al_gl,al_g0,al_g1,al_oi]at ho;subst ho;have eg:T[128]?=some (.bool false):=zqc hT y23 (hdep ⟨23,.guard⟩ (by simp) rfl) rfl;refine⟨by simp only[Region.wanted,zq11 y23 eg];rfl,?_⟩;have e133:T[133]?=some (.pointer (some ⟨rb,1,none⟩)):=zqc hT (j:=28) rfl (hdep ⟨28,.data⟩ (by simp) rfl) rfl;have c0:w.cell? ⟨rb,1,none⟩=some (.slice (some ⟨gm,0,none⟩) N N):=(zq0 (hbe.heap HQ.out.dom)).trans rfl;refine .inl ⟨134,.slice (some ⟨gm,0,none⟩) N N,w,rfl,rfl,?_,Bey.refl w,rfl⟩;simp only[execOp,Act.eval,al_gd,e133,al_od]
  try go_simp
 ·
  simp only[al_gl,al_g0,al_g1,al_oi]at ho;subst ho;have eg:T[128]?=some (.bool false):=zqc hT y23 (hdep ⟨23,.guard⟩ (by simp) rfl) rfl;refine⟨by simp only[Region.wanted,zq11 y23 eg];rfl,?_⟩;obtain⟨v130,e130,q130⟩:=hT 25 130 rfl (hdep ⟨25,.data⟩ (by simp) rfl);have hI25:IntsAt w v130 ml:=q130;have e134:T[134]?=some (.slice (some ⟨gm,0,none⟩) N N):=zqc hT (j:=29) rfl (hdep ⟨29,.data⟩ (by simp) rfl) rfl;refine .inr ⟨135,19,_,_,#[v130,.slice (some ⟨gm,0,none⟩) N N],rfl,λw=>?_,λw=>?_,Try.func19,rfl,by kernel_rfl,λτ d=>?_⟩
  . simp only[execOp,Act.eval,al_gd,e130,e134,al_od,List.map_toArray,List.map_cons,List.map_nil];simp[go_sem,execOp,Act.eval,resolve,Deferred.ofValue,invoke,callFunc,Try.func19,Try.f19,e130,e134]
  . simp only[execOp,Act.eval,al_gd,e130,e134,al_od,List.map_toArray,List.map_cons,List.map_nil];simp[go_sem,execOp,Act.eval,resolve,Deferred.ofValue,invoke,callFunc,Try.func19,Try.f19,e130,e134]
  . have hbr:=Beyond.re w τ d;refine Calls.mono (zq66 (l:=ml) (by have:=HQ.out.mll;omega) (hI25.beyond hbr) (HQ.out.mar.beyond (hbe.trans hbr))) ?_;rintro e w' ⟨rfl,m,rfl⟩;exact⟨_,rfl,⟨Nat.le_refl _,λ_ _=>rfl⟩,rfl⟩
 ·
  simp only[al_gl,al_g0,al_g1,al_oi]at ho;subst ho;have eg:T[128]?=some (.bool false):=zqc hT y23 (hdep ⟨23,.guard⟩ (by simp) rfl) rfl;refine⟨by simp only[Region.wanted,zq11 y23 eg];rfl,?_⟩;have e135:T[135]?=some (.bool true):=zqc hT (j:=30) rfl (hdep ⟨30,.data⟩ (by simp) rfl) rfl;refine .inl ⟨136,.bool false,w,rfl,rfl,?_,Bey.refl w,rfl⟩;simp only[execOp,Act.eval,al_gd,e135,al_od]
  try go_simp
 ·
  simp only[al_gl,al_g0,al_g1,al_oi]at ho;subst ho;refine⟨rfl,?_⟩;have e128:T[128]?=some (.bool false):=zqc hT (j:=23) rfl (hdep ⟨23,.data⟩ (by simp) rfl) rfl;have e136:T[136]?=some (.bool false):=zqc hT (j:=31) rfl (hdep ⟨31,.data⟩ (by simp) rfl) rfl;refine .inl ⟨137,.bool false,w,rfl,rfl,?_,Bey.refl w,rfl⟩;simp only[execOp,Act.eval,al_gd,e128,e136,al_od]
  try go_simp
structure EcFr(N:Int)(aL aC db rb kb:Nat)(ap:Option Addr)(i:Int)(T:Array Value):Prop where
 sz:T.size=207
 t0:T[0]?=some (.int .i64 N)
 t1:T[1]?=some (.slice ap aL aC)
 t4:T[4]?=some (.bool false)
 t5:T[5]?=some (.pointer (some ⟨db,0,none⟩))
 t6:T[6]?=some (.int .i64 0)
 t7:T[7]?=some (.pointer (some ⟨rb,0,none⟩))
 t8:T[8]?=some (.pointer (some ⟨kb,0,none⟩))
 t9:T[9]?=some (.int .i64 i)
theorem zq14{T:Array Value}{k:Nat}{x:Value}(h:T[k]?=some x):T.getD k undef=x:=by rw[al_gd,h];rfl
theorem zq67{T:Array Value}{k:Nat}{x:Value}(hk:k<T.size)(h:T.getD k undef=x):T[k]?=some x:=by
 rw[al_gd]at h;rw[Array.getElem?_eq_getElem hk]at h |-;exact congrArg some h
section
variable {N:Int} {aL aC db rb kb:Nat} {ap:Option Addr} {i:Int} {T:Array Value}
theorem EcFr.ec (h:EcFr N aL aC db rb kb ap i T):T=ecF N aL aC db rb kb ap i (λi=>T.getD i undef):=by
 have e:=lit T 207 h.sz;unfold ecF;have e0:.int .i64 N=T.getD 0 undef:=(zq14 h.t0).symm;have e1:.slice ap aL aC=T.getD 1 undef:=(zq14 h.t1).symm;have e4:.bool false=T.getD 4 undef:=(zq14 h.t4).symm;have e5:.pointer (some ⟨db,0,none⟩)=T.getD 5 undef:=(zq14 h.t5).symm;have e6:.int .i64 0=T.getD 6 undef:=(zq14 h.t6).symm;have e7:.pointer (some ⟨rb,0,none⟩)=T.getD 7 undef:=(zq14 h.t7).symm;have e8:.pointer (some ⟨kb,0,none⟩)=T.getD 8 undef:=(zq14 h.t8).symm;have e9:.int .i64 i=T.getD 9 undef:=(zq14 h.t9).symm;rw[e0,e1,e4,e5,e6,e7,e8,e9];exact e
theorem EcFr.of (h:T=ecF N aL aC db rb kb ap i (λi=>T.getD i undef)):EcFr N aL aC db rb kb ap i T:=by
 obtain⟨v,hv⟩:∃v,T=ecF N aL aC db rb kb ap i v:=⟨_,h⟩;subst hv;exact⟨rfl,rfl,rfl,rfl,rfl,rfl,rfl,rfl,rfl⟩
theorem zq2m{ops:Array Oper}{x:Nat}(hn:noD ops x=true)(vs:List Value)(hl:vs.length=ops.size)(t:Array Value):(putv ops vs 0 t)[x]?=t[x]?:=by
 exact zq2u vs 0 t x λj h1 h2 hd=>zq92 hn j hd
theorem EcFr.putv {ops:Array Oper}(h:EcFr N aL aC db rb kb ap i T){vs:List Value}(hl:vs.length=ops.size)(hn:(noD ops 0&&noD ops 1&&noD ops 4&&noD ops 5&&noD ops 6&&noD ops 7&&noD ops 8&&noD ops 9)=true):EcFr N aL aC db rb kb ap i (putv ops vs 0 T):=by
 simp only[Bool.and_eq_true]at hn;obtain⟨⟨⟨⟨⟨⟨⟨n0,n1⟩,n4⟩,n5⟩,n6⟩,n7⟩,n8⟩,n9⟩:=hn;exact⟨by rw[zq4b];exact h.sz,(zq2m n0 vs hl T).trans h.t0,(zq2m n1 vs hl T).trans h.t1,(zq2m n4 vs hl T).trans h.t4,(zq2m n5 vs hl T).trans h.t5,(zq2m n6 vs hl T).trans h.t6,(zq2m n7 vs hl T).trans h.t7,(zq2m n8 vs hl T).trans h.t8,(zq2m n9 vs hl T).trans h.t9⟩
end
structure EcW(db rb N b10 k:Nat)(tl:List Int)(w:World):Prop where
 wt:∀W,Beyond w W->Calls Try.prog 21 #[.pointer (some ⟨db,0,none⟩),.int .i64 k] W λe w'=>∃v,e=.returned v/\NumsI W tl v w'
 rw:∀W,Beyond w W->Calls Try.prog 22 #[.pointer (some ⟨rb,0,none⟩),.int .i64 k] W λe w'=>∃v,e=.returned v/\NumsI W tl v w'
 act:w.cell? ⟨b10,0,none⟩=some (.int .i64 k)
 lt:k<N
 tll:tl.length<=1099511627776
noncomputable def ec25:Array Oper:=match headC (ecB 6)with
 |.region _ o _=>o
 |_=>#[]
theorem ec6:ecB 6=.seq (.region 25 ec25 true) (sndC (ecB 6)):=by kernel_rfl
def ec25S(tl:List Int):Nat->Value->World->Prop:=λj v w=>match j with
 |13=>IntsAt w v tl
 |17=>IntsAt w v tl
 |_=>True
theorem zqd4{tl:List Int}:∀j v w w',ec25S tl j v w->Bey w w'->ec25S tl j v w':=by
 intro j v w w' h hb;have hB:Beyond w w':=hb;unfold ec25S at h |-;split at h
 . exact h.beyond hB
 . exact h.beyond hB
 . simp_all
abbrev ec25L(db rb N b10 k:Nat):List (Option Value):=[some (.pointer (some ⟨b10,0,none⟩)),some (.int .i64 k),some (.bool true),some (.bool true),some (.pointer (some ⟨b10,0,none⟩)),some (.int .i64 k),some (.int .i64 N),some (.bool true),some (.bool true),some (.bool true),some (.pointer (some ⟨db,0,none⟩)),some (.pointer (some ⟨b10,0,none⟩)),some (.int .i64 k),none,some (.pointer (some ⟨rb,0,none⟩)),some (.pointer (some ⟨b10,0,none⟩)),some (.int .i64 k),none,some (.bool true),some (.bool false),some (.bool false)]
theorem zqd5{T₀:Array Value}{N db rb b10 k:Nat}{tl:List Int}{w0:World}
 (h0:T₀[0]?=some (.int .i64 N)) (h5:T₀[5]?=some (.pointer (some ⟨db,0,none⟩))) (h7:T₀[7]?=some (.pointer (some ⟨rb,0,none⟩))) (h10:T₀[10]?=some (.pointer (some ⟨b10,0,none⟩)))
 (HQ:RowKit.Hid (EcW db rb N b10 k tl w0)):∀(w:World)(L:Nat->Bool)(T:Array Value)(i:Nat)(o:Oper),Bey w0 w->ec25[i]?=some o->(∀e∈o.after,Region.binds .any e=true->L e.on=true)->(∀j t,dstOf ec25 j=some t->L j=true->∃v,T[t]?=some v/\SpB (ec25L db rb N b10 k) (ec25S tl) j v w)->(∀t,noD ec25 t=true->T[t]?=T₀[t]?)->
  Region.wanted o (yielded ec25 T)=true/\DrawB Try.prog aM T o w (SpB (ec25L db rb N b10 k) (ec25S tl) i):=by
 intro w L T i o hbe0 ho hdep hT hT0;have hbe:Beyond w0 w:=hbe0;have hi:i<21:=(Array.getElem?_eq_some_iff.1 ho).1;have y3:dstOf ec25 3=some 141:=by kernel_rfl
 have y9:dstOf ec25 9=some 147:=by kernel_rfl
 obtain⟨u3,hu3⟩:∃c,ec25=c:=⟨_,rfl⟩;have eu3:=hu3;simp only[ec25,ecB,ecLp,ecT,headC,tailN,sndC,zqx,loopC,Try.f4,al_od]at eu3;rw[hu3,<-eu3]at ho;clear eu3 hu3;obtain rfl |rfl |rfl |rfl |rfl |rfl |rfl |rfl |rfl |rfl |rfl |rfl |rfl |rfl |rfl |rfl |rfl |rfl |rfl |rfl |rfl:i=0\/i=1\/i=2\/i=3\/i=4\/i=5\/i=6\/i=7\/i=8\/i=9\/i=10\/i=11\/i=12\/i=13\/i=14\/i=15\/i=16\/i=17\/i=18\/i=19\/i=20:=by omega
 ·
  simp only[al_gl,al_g0,al_g1,al_oi]at ho;subst ho;refine⟨rfl,?_⟩;have e10:=(hT0 10 (by kernel_rfl)).trans h10;refine .inl ⟨138,.pointer (some ⟨b10,0,none⟩),w,rfl,rfl,?_,Bey.refl w,rfl⟩;simp only[execOp,Act.eval,al_gd,e10,al_od]
  try go_simp
 ·
  simp only[al_gl,al_g0,al_g1,al_oi]at ho;subst ho;refine⟨rfl,?_⟩;have e138:T[138]?=some (.pointer (some ⟨b10,0,none⟩)):=zqc hT (j:=0) rfl (hdep ⟨0,.data⟩ (by simp) rfl) rfl;have c0:w.cell? ⟨b10,0,none⟩=some (.int .i64 k):=hbe.cell HQ.out.act;refine .inl ⟨139,.int .i64 k,w,rfl,rfl,?_,Bey.refl w,rfl⟩;simp only[execOp,Act.eval,al_gd,e138,al_od]
  try go_simp
 ·
  simp only[al_gl,al_g0,al_g1,al_oi]at ho;subst ho;refine⟨rfl,?_⟩;have e139:T[139]?=some (.int .i64 k):=zqc hT (j:=1) rfl (hdep ⟨1,.data⟩ (by simp) rfl) rfl;have hk0:(0:Int)<=(k:Int):=by omega
  refine .inl ⟨140,.bool true,w,rfl,rfl,?_,Bey.refl w,rfl⟩;simp only[execOp,Act.eval,al_gd,e139,al_od]
  try go_simp
 ·
  simp only[al_gl,al_g0,al_g1,al_oi]at ho;subst ho;refine⟨rfl,?_⟩;have e140:T[140]?=some (.bool true):=zqc hT (j:=2) rfl (hdep ⟨2,.data⟩ (by simp) rfl) rfl;refine .inl ⟨141,.bool true,w,rfl,rfl,?_,Bey.refl w,rfl⟩;simp only[execOp,Act.eval,al_gd,e140,al_od]
  try go_simp
 ·
  simp only[al_gl,al_g0,al_g1,al_oi]at ho;subst ho;have eg:T[141]?=some (.bool true):=zqc hT y3 (hdep ⟨3,.guard⟩ (by simp) rfl) rfl;refine⟨by simp only[Region.wanted,zq11 y3 eg];rfl,?_⟩;have e10:=(hT0 10 (by kernel_rfl)).trans h10;refine .inl ⟨142,.pointer (some ⟨b10,0,none⟩),w,rfl,rfl,?_,Bey.refl w,rfl⟩;simp only[execOp,Act.eval,al_gd,e10,al_od]
  try go_simp
 ·
  simp only[al_gl,al_g0,al_g1,al_oi]at ho;subst ho;have eg:T[141]?=some (.bool true):=zqc hT y3 (hdep ⟨3,.guard⟩ (by simp) rfl) rfl;refine⟨by simp only[Region.wanted,zq11 y3 eg];rfl,?_⟩;have e142:T[142]?=some (.pointer (some ⟨b10,0,none⟩)):=zqc hT (j:=4) rfl (hdep ⟨4,.data⟩ (by simp) rfl) rfl;have c0:w.cell? ⟨b10,0,none⟩=some (.int .i64 k):=hbe.cell HQ.out.act;refine .inl ⟨143,.int .i64 k,w,rfl,rfl,?_,Bey.refl w,rfl⟩;simp only[execOp,Act.eval,al_gd,e142,al_od]
  try go_simp
 ·
  simp only[al_gl,al_g0,al_g1,al_oi]at ho;subst ho;have eg:T[141]?=some (.bool true):=zqc hT y3 (hdep ⟨3,.guard⟩ (by simp) rfl) rfl;refine⟨by simp only[Region.wanted,zq11 y3 eg];rfl,?_⟩;have e0:=(hT0 0 (by kernel_rfl)).trans h0;refine .inl ⟨144,.int .i64 N,w,rfl,rfl,?_,Bey.refl w,rfl⟩;simp only[execOp,Act.eval,al_gd,e0,al_od]
  try go_simp
 ·
  simp only[al_gl,al_g0,al_g1,al_oi]at ho;subst ho;have eg:T[141]?=some (.bool true):=zqc hT y3 (hdep ⟨3,.guard⟩ (by simp) rfl) rfl;refine⟨by simp only[Region.wanted,zq11 y3 eg];rfl,?_⟩;have e143:T[143]?=some (.int .i64 k):=zqc hT (j:=5) rfl (hdep ⟨5,.data⟩ (by simp) rfl) rfl;have e144:T[144]?=some (.int .i64 N):=zqc hT (j:=6) rfl (hdep ⟨6,.data⟩ (by simp) rfl) rfl;have hk1:(k:Int)<(N:Int):=by have:=HQ.out.lt;omega
  refine .inl ⟨145,.bool true,w,rfl,rfl,?_,Bey.refl w,rfl⟩;simp only[execOp,Act.eval,al_gd,e143,e144,al_od]
  try go_simp
 ·
  simp only[al_gl,al_g0,al_g1,al_oi]at ho;subst ho;refine⟨rfl,?_⟩;have e141:T[141]?=some (.bool true):=zqc hT (j:=3) rfl (hdep ⟨3,.data⟩ (by simp) rfl) rfl;have e145:T[145]?=some (.bool true):=zqc hT (j:=7) rfl (hdep ⟨7,.data⟩ (by simp) rfl) rfl;refine .inl ⟨146,.bool true,w,rfl,rfl,?_,Bey.refl w,rfl⟩;simp only[execOp,Act.eval,al_gd,e141,e145,al_od]
  try go_simp
 ·
  simp only[al_gl,al_g0,al_g1,al_oi]at ho;subst ho;refine⟨rfl,?_⟩;have e146:T[146]?=some (.bool true):=zqc hT (j:=8) rfl (hdep ⟨8,.data⟩ (by simp) rfl) rfl;refine .inl ⟨147,.bool true,w,rfl,rfl,?_,Bey.refl w,rfl⟩;simp only[execOp,Act.eval,al_gd,e146,al_od]
  try go_simp
 ·
  simp only[al_gl,al_g0,al_g1,al_oi]at ho;subst ho;have eg:T[147]?=some (.bool true):=zqc hT y9 (hdep ⟨9,.guard⟩ (by simp) rfl) rfl;refine⟨by simp only[Region.wanted,zq11 y9 eg];rfl,?_⟩;have e5:=(hT0 5 (by kernel_rfl)).trans h5;refine .inl ⟨148,.pointer (some ⟨db,0,none⟩),w,rfl,rfl,?_,Bey.refl w,rfl⟩;simp only[execOp,Act.eval,al_gd,e5,al_od]
  try go_simp
 ·
  simp only[al_gl,al_g0,al_g1,al_oi]at ho;subst ho;have eg:T[147]?=some (.bool true):=zqc hT y9 (hdep ⟨9,.guard⟩ (by simp) rfl) rfl;refine⟨by simp only[Region.wanted,zq11 y9 eg];rfl,?_⟩;have e10:=(hT0 10 (by kernel_rfl)).trans h10;refine .inl ⟨149,.pointer (some ⟨b10,0,none⟩),w,rfl,rfl,?_,Bey.refl w,rfl⟩;simp only[execOp,Act.eval,al_gd,e10,al_od]
  try go_simp
 ·
  simp only[al_gl,al_g0,al_g1,al_oi]at ho;subst ho;have eg:T[147]?=some (.bool true):=zqc hT y9 (hdep ⟨9,.guard⟩ (by simp) rfl) rfl;refine⟨by simp only[Region.wanted,zq11 y9 eg];rfl,?_⟩;have e149:T[149]?=some (.pointer (some ⟨b10,0,none⟩)):=zqc hT (j:=11) rfl (hdep ⟨11,.data⟩ (by simp) rfl) rfl;have c0:w.cell? ⟨b10,0,none⟩=some (.int .i64 k):=hbe.cell HQ.out.act;refine .inl ⟨150,.int .i64 k,w,rfl,rfl,?_,Bey.refl w,rfl⟩;simp only[execOp,Act.eval,al_gd,e149,al_od]
  try go_simp
 ·
  simp only[al_gl,al_g0,al_g1,al_oi]at ho;subst ho;have eg:T[147]?=some (.bool true):=zqc hT y9 (hdep ⟨9,.guard⟩ (by simp) rfl) rfl;refine⟨by simp only[Region.wanted,zq11 y9 eg];rfl,?_⟩;have e148:T[148]?=some (.pointer (some ⟨db,0,none⟩)):=zqc hT (j:=10) rfl (hdep ⟨10,.data⟩ (by simp) rfl) rfl;have e150:T[150]?=some (.int .i64 k):=zqc hT (j:=12) rfl (hdep ⟨12,.data⟩ (by simp) rfl) rfl;refine .inr ⟨151,21,_,_,#[.pointer (some ⟨db,0,none⟩),.int .i64 k],rfl,λw=>?_,λw=>?_,Try.func21,rfl,by kernel_rfl,λτ d=>?_⟩
  . simp only[execOp,Act.eval,al_gd,e148,e150,al_od,List.map_toArray,List.map_cons,List.map_nil];simp[go_sem,execOp,Act.eval,resolve,Deferred.ofValue,invoke,callFunc,Try.func21,Try.f21,e148,e150]
  . simp only[execOp,Act.eval,al_gd,e148,e150,al_od,List.map_toArray,List.map_cons,List.map_nil];simp[go_sem,execOp,Act.eval,resolve,Deferred.ofValue,invoke,callFunc,Try.func21,Try.f21,e148,e150]
  . refine Calls.mono (HQ.out.wt _ (hbe.trans (Beyond.re w τ d))) ?_;rintro e w' ⟨v,rfl,hN⟩;exact⟨v,rfl,hN.be,zq3i hN.row⟩
 ·
  simp only[al_gl,al_g0,al_g1,al_oi]at ho;subst ho;have eg:T[147]?=some (.bool true):=zqc hT y9 (hdep ⟨9,.guard⟩ (by simp) rfl) rfl;refine⟨by simp only[Region.wanted,zq11 y9 eg];rfl,?_⟩;have e7:=(hT0 7 (by kernel_rfl)).trans h7;refine .inl ⟨152,.pointer (some ⟨rb,0,none⟩),w,rfl,rfl,?_,Bey.refl w,rfl⟩;simp only[execOp,Act.eval,al_gd,e7,al_od]
  try go_simp
 ·
  simp only[al_gl,al_g0,al_g1,al_oi]at ho;subst ho;have eg:T[147]?=some (.bool true):=zqc hT y9 (hdep ⟨9,.guard⟩ (by simp) rfl) rfl;refine⟨by simp only[Region.wanted,zq11 y9 eg];rfl,?_⟩;have e10:=(hT0 10 (by kernel_rfl)).trans h10;refine .inl ⟨153,.pointer (some ⟨b10,0,none⟩),w,rfl,rfl,?_,Bey.refl w,rfl⟩;simp only[execOp,Act.eval,al_gd,e10,al_od]
  try go_simp
 ·
  simp only[al_gl,al_g0,al_g1,al_oi]at ho;subst ho;have eg:T[147]?=some (.bool true):=zqc hT y9 (hdep ⟨9,.guard⟩ (by simp) rfl) rfl;refine⟨by simp only[Region.wanted,zq11 y9 eg];rfl,?_⟩;have e153:T[153]?=some (.pointer (some ⟨b10,0,none⟩)):=zqc hT (j:=15) rfl (hdep ⟨15,.data⟩ (by simp) rfl) rfl;have c0:w.cell? ⟨b10,0,none⟩=some (.int .i64 k):=hbe.cell HQ.out.act;refine .inl ⟨154,.int .i64 k,w,rfl,rfl,?_,Bey.refl w,rfl⟩;simp only[execOp,Act.eval,al_gd,e153,al_od]
  try go_simp
 ·
  simp only[al_gl,al_g0,al_g1,al_oi]at ho;subst ho;have eg:T[147]?=some (.bool true):=zqc hT y9 (hdep ⟨9,.guard⟩ (by simp) rfl) rfl;refine⟨by simp only[Region.wanted,zq11 y9 eg];rfl,?_⟩;have e152:T[152]?=some (.pointer (some ⟨rb,0,none⟩)):=zqc hT (j:=14) rfl (hdep ⟨14,.data⟩ (by simp) rfl) rfl;have e154:T[154]?=some (.int .i64 k):=zqc hT (j:=16) rfl (hdep ⟨16,.data⟩ (by simp) rfl) rfl;refine .inr ⟨155,22,_,_,#[.pointer (some ⟨rb,0,none⟩),.int .i64 k],rfl,λw=>?_,λw=>?_,Try.func22,rfl,by kernel_rfl,λτ d=>?_⟩
  . simp only[execOp,Act.eval,al_gd,e152,e154,al_od,List.map_toArray,List.map_cons,List.map_nil];simp[go_sem,execOp,Act.eval,resolve,Deferred.ofValue,invoke,callFunc,Try.func22,Try.f22,e152,e154]
  . simp only[execOp,Act.eval,al_gd,e152,e154,al_od,List.map_toArray,List.map_cons,List.map_nil];simp[go_sem,execOp,Act.eval,resolve,Deferred.ofValue,invoke,callFunc,Try.func22,Try.f22,e152,e154]
  . refine Calls.mono (HQ.out.rw _ (hbe.trans (Beyond.re w τ d))) ?_;rintro e w' ⟨v,rfl,hN⟩;exact⟨v,rfl,hN.be,zq3i hN.row⟩
 ·
  simp only[al_gl,al_g0,al_g1,al_oi]at ho;subst ho;have eg:T[147]?=some (.bool true):=zqc hT y9 (hdep ⟨9,.guard⟩ (by simp) rfl) rfl;refine⟨by simp only[Region.wanted,zq11 y9 eg];rfl,?_⟩;obtain⟨v151,e151,q151⟩:=hT 13 151 rfl (hdep ⟨13,.data⟩ (by simp) rfl);have hI13:IntsAt w v151 tl:=q151;obtain⟨v155,e155,q155⟩:=hT 17 155 rfl (hdep ⟨17,.data⟩ (by simp) rfl);have hI17:IntsAt w v155 tl:=q155;refine .inr ⟨156,19,_,_,#[v151,v155],rfl,λw=>?_,λw=>?_,Try.func19,rfl,by kernel_rfl,λτ d=>?_⟩
  . simp only[execOp,Act.eval,al_gd,e151,e155,al_od,List.map_toArray,List.map_cons,List.map_nil];simp[go_sem,execOp,Act.eval,resolve,Deferred.ofValue,invoke,callFunc,Try.func19,Try.f19,e151,e155]
  . simp only[execOp,Act.eval,al_gd,e151,e155,al_od,List.map_toArray,List.map_cons,List.map_nil];simp[go_sem,execOp,Act.eval,resolve,Deferred.ofValue,invoke,callFunc,Try.func19,Try.f19,e151,e155]
  . have hbr:=Beyond.re w τ d;refine Calls.mono (zq66 (l:=tl) HQ.out.tll (hI13.beyond hbr) (hI17.beyond hbr)) ?_;rintro e w' ⟨rfl,m,rfl⟩;exact⟨_,rfl,⟨Nat.le_refl _,λ_ _=>rfl⟩,rfl⟩
 ·
  simp only[al_gl,al_g0,al_g1,al_oi]at ho;subst ho;have eg:T[147]?=some (.bool true):=zqc hT y9 (hdep ⟨9,.guard⟩ (by simp) rfl) rfl;refine⟨by simp only[Region.wanted,zq11 y9 eg];rfl,?_⟩;have e156:T[156]?=some (.bool true):=zqc hT (j:=18) rfl (hdep ⟨18,.data⟩ (by simp) rfl) rfl;refine .inl ⟨157,.bool false,w,rfl,rfl,?_,Bey.refl w,rfl⟩;simp only[execOp,Act.eval,al_gd,e156,al_od]
  try go_simp
 ·
  simp only[al_gl,al_g0,al_g1,al_oi]at ho;subst ho;refine⟨rfl,?_⟩;have e147:T[147]?=some (.bool true):=zqc hT (j:=9) rfl (hdep ⟨9,.data⟩ (by simp) rfl) rfl;have e157:T[157]?=some (.bool false):=zqc hT (j:=19) rfl (hdep ⟨19,.data⟩ (by simp) rfl) rfl;refine .inl ⟨158,.bool false,w,rfl,rfl,?_,Bey.refl w,rfl⟩;simp only[execOp,Act.eval,al_gd,e147,e157,al_od]
  try go_simp
section
variable {main:Bool} {γ:Type} {J:γ->Goroutine->World->Prop} {s:γ} {b:Frame} {kk:List Item} {cs:List Frame}
theorem sp_at{sp:List (Option Value)}{Sx:Nat->Value->World->Prop}{ops:Array Oper}{vals:List Value}{T:Array Value}{w:World}(hlen:vals.length=ops.size)(h:∀i v,vals[i]?=some v->SpB sp Sx i v w){j t:Nat}{x:Value}(hj:j<ops.size)(hd:dstOf ops j=some t)(ht:t<T.size)(hs:sp[j]?=some (some x))(hlast:∀m,j<m->m<ops.size->dstOf ops m≠some t):(putv ops vals 0 T)[t]?=some x:=by
 obtain⟨v,hv⟩:∃v,vals[j]?=some v:=⟨_,List.getElem?_eq_getElem (by omega)⟩;have h2:=h j v hv;unfold SpB at h2;rw[hs]at h2;have h3:v=x:=h2;subst h3;exact zq4a vals 0 T j v t hv (by rw[Nat.zero_add];exact hd) ht λm a c=>hlast m (by omega) (by omega)
theorem ec_cmp23(hJ:JS Try.prog main (λ_=>none) J)(hC:CalmJ Try.prog main J)(hb:b.kind≠.early){T:Array Value}{N aL aC db rb kb gm b10 b12 b14 gn gc ln lc:Nat}{ap gp lp:Option Addr}{i s0 e0:Int}{mv:Value}{ml:List Int}{a:Ans}{w:World}
 (hF:EcFr N aL aC db rb kb ap i T) (h10:T[10]?=some (.pointer (some ⟨b10,0,none⟩))) (h11:T[11]?=some (.int .i64 s0)) (h12:T[12]?=some (.pointer (some ⟨b12,0,none⟩))) (h14:T[14]?=some (.pointer (some ⟨b14,0,none⟩)))
 (h:EcQ db rb gm N kb b12 b14 mv e0 ml a gp gn gc lp ln lc s0 w)
 (hq:∀T' w',EcFr N aL aC db rb kb ap i T'->T'[10]?=some (.pointer (some ⟨b10,0,none⟩))->Beyond w w'->J s (G (b.at ⟨T',[]⟩ (.code (ecB 6)::kk)) cs) w'):J s (G (b.at ⟨T,[]⟩ (.code (ecB 5)::kk)) cs) w:=by
 have e:ecB 5=.seq (headC (ecB 5)) (ecB 6):=by kernel_rfl
 rw[e,ec5];refine hJ.ctl (s:=s) (λw=>stepG_seq) ?_;refine hJ.ctl (s:=s) (λw=>stepG_seq) ?_;refine zq79 hJ hC zqz hb (by kernel_rfl) (by kernel_rfl) (by rw[hF.sz];kernel_rfl) (ec23L db rb gm N kb e0 a gp gn gc lp ln lc s0) (ec23S a ml gp gn gc lp ln lc) zqd2 (zqd3 (T₀:=T) (b10:=b10) hF.t5 hF.t7 hF.t8 h11 h12 h14 (Lib.hid h)) ?_;intro vals w' hbe hlen hv;have hF':=hF.putv hlen (by kernel_rfl);have h10':(putv ec23 vals 0 T)[10]?=some (.pointer (some ⟨b10,0,none⟩)):=(zq2m (by kernel_rfl) vals hlen T).trans h10;have h137:(putv ec23 vals 0 T)[137]?=some (.bool false):=sp_at hlen hv (j:=32) (show 32<ec23.size by rw[show ec23.size=33 by kernel_rfl];decide) (by kernel_rfl) (by rw[hF.sz];decide) rfl λm a c=>by
  have:ec23.size=33:=by kernel_rfl
  omega
 have hq':=hq _ w' hF' h10' hbe;generalize putv ec23 vals 0 T=T' at hF' h10' h137 hq' |-;refine hJ.ctl (s:=s) (λw=>stepG_region_end) ?_;have e2:sndC (headC (ecB 5))=.cond (.tmp 137) (condT (sndC (headC (ecB 5)))) .skip:=by kernel_rfl
 rw[e2];refine hJ.ctl (s:=s) (λw=>stepG_cond (t:=false) (by show T'.getD 137 undef=_;exact zq14 h137)) ?_;rw[if_neg (by decide)];refine hJ.ctl (s:=s) (λw=>stepG_skip) ?_;exact hq'
theorem ec_cmp25(hJ:JS Try.prog main (λ_=>none) J)(hC:CalmJ Try.prog main J)(hb:b.kind≠.early){T:Array Value}{N aL aC db rb kb b10 k:Nat}{ap:Option Addr}{i:Int}{tl:List Int}{w:World}
 (hF:EcFr N aL aC db rb kb ap i T) (h10:T[10]?=some (.pointer (some ⟨b10,0,none⟩))) (h:EcW db rb N b10 k tl w)
 (hq:∀T' w',EcFr N aL aC db rb kb ap i T'->Beyond w w'->J s (G (b.at ⟨T',[]⟩ kk) cs) w'):J s (G (b.at ⟨T,[]⟩ (.code (ecB 6)::kk)) cs) w:=by
 rw[ec6];refine hJ.ctl (s:=s) (λw=>stepG_seq) ?_;refine zq79 hJ hC zqz hb (by kernel_rfl) (by kernel_rfl) (by rw[hF.sz];kernel_rfl) (ec25L db rb N b10 k) (ec25S tl) zqd4 (zqd5 (T₀:=T) hF.t0 hF.t5 hF.t7 h10 (Lib.hid h)) ?_;intro vals w' hbe hlen hv;have hF':=hF.putv hlen (by kernel_rfl);have h158:(putv ec25 vals 0 T)[158]?=some (.bool false):=sp_at hlen hv (j:=20) (show 20<ec25.size by rw[show ec25.size=21 by kernel_rfl];decide) (by kernel_rfl) (by rw[hF.sz];decide) rfl λm a c=>by
  have:ec25.size=21:=by kernel_rfl
  omega
 have hq':=hq _ w' hF' hbe;generalize putv ec25 vals 0 T=T' at hF' h158 hq' |-;refine hJ.ctl (s:=s) (λw=>stepG_region_end) ?_;have e2:sndC (ecB 6)=.cond (.tmp 158) (condT (sndC (ecB 6))) .skip:=by kernel_rfl
 rw[e2];refine hJ.ctl (s:=s) (λw=>stepG_cond (t:=false) (by show T'.getD 158 undef=_;exact zq14 h158)) ?_;rw[if_neg (by decide)];refine hJ.ctl (s:=s) (λw=>stepG_skip) ?_;exact hq'
end
end Go.Proofs
namespace Go.Proofs
open Go Go.Conc Go.RowKit Go.Car
def ActsIn(w:World)(ap:Option Addr)(acts:List (Int×OpX)):Prop:=acts≠[]->∃ab ao,ap=some ⟨ab,ao,none⟩/\∀(i:Nat)(x:Int×OpX),acts[i]?=some x->w.cell? ⟨ab,ao+i*5,none⟩=some (.int .i64 x.1)/\w.cell? ⟨ab,ao+i*5+1,none⟩=some (.int .i64 x.2.k)/\w.cell? ⟨ab,ao+i*5+2,none⟩=some (.int .i64 x.2.a)/\w.cell? ⟨ab,ao+i*5+3,none⟩=some (.int .i64 x.2.b)/\w.cell? ⟨ab,ao+i*5+4,none⟩=some (.int .i64 x.2.c)
section
variable {N:Int} {aL aC db rb kb b10 b12:Nat} {ap:Option Addr} {i:Int} {T:Array Value} {w:World}
theorem ec_r13{j:Nat}{acts:List (Int×OpX)}{x:Int×OpX}(hF:EcFr N aL aC db rb kb ap j T)(hA:ActsIn w ap acts)(hx:acts[j]?=some x)(hl:acts.length=aL):
 Code.wp Try.prog (headC (ecB 0)) (ends (λa' w'=>EcFr N aL aC db rb kb ap j a'.tmps/\Beyond w w'/\∃b10,a'.tmps[10]?=some (.pointer (some ⟨b10,0,none⟩))/\w.heap.size<=b10/\w'.heap[b10]?=some (.cells (actC x.1 x.2) 46)) (λ_ _=>False)) ⟨T,[]⟩ w:=by
 obtain⟨i,hi⟩:∃i:Int,(j:Int)=i:=⟨_,rfl⟩;rw[hi]at hF |-;have hj:=(List.getElem?_eq_some_iff.1 hx).1;obtain⟨ab,ao,rfl,hc⟩:=hA (λe=>by rw[e]at hx;simp at hx);obtain⟨c0,c1,c2,c3,c4⟩:=hc j x hx;have hj0:(0:Int)<=i:=by omega
 have hjl:i<(aL:Int):=by omega
 have hjn:i.toNat=j:=by omega
 clear hA hc hx hl hj;obtain⟨v,hv0,hvv⟩:∃v,T=ecF N aL aC db rb kb (some ⟨ab,ao,none⟩) i v/\v=λi=>T.getD i undef:=⟨_,hF.ec,rfl⟩;clear hF hvv;subst hv0;unfold ecF;obtain⟨xw,xo⟩:=x;simp only at c0 c1 c2 c3 c4;unfold actC;clear hi;obtain⟨u_,hu_⟩:∃c,headC (ecB 0)=c:=⟨_,rfl⟩;have eu_:=hu_;rw[hu_];simp only[ecB,ecLp,ecT,headC,tailN,sndC,zqx,loopC,Try.f4,al_od]at eu_;subst eu_;clear hu_;go_wp2;refine⟨rfl,EcFr.of rfl,?_,_,rfl,Nat.le_refl _,?_⟩
 . exact Beyond.alloc _ _
 . exact zqn _ _
theorem ec_r14{s:Int}(hF:EcFr N aL aC db rb kb ap i T)(h10:T[10]?=some (.pointer (some ⟨b10,0,none⟩)))(hk:w.cell? ⟨kb,0,none⟩=some (.int .i64 s)):
 Code.wp Try.prog (headC (ecB 1)) (ends (λa' w'=>EcFr N aL aC db rb kb ap i a'.tmps/\Beyond w w'/\a'.tmps[10]?=some (.pointer (some ⟨b10,0,none⟩))/\a'.tmps[11]?=some (.int .i64 s)) (λ_ _=>False)) ⟨T,[]⟩ w:=by
 obtain⟨v,hv0,hvv⟩:∃v,T=ecF N aL aC db rb kb ap i v/\v=λi=>T.getD i undef:=⟨_,hF.ec,rfl⟩;have e10:v 10=.pointer (some ⟨b10,0,none⟩):=by rw[hvv];exact zq14 h10
 clear hF h10 hvv;subst hv0;unfold ecF;rw[e10];clear e10;obtain⟨u_,hu_⟩:∃c,headC (ecB 1)=c:=⟨_,rfl⟩;have eu_:=hu_;rw[hu_];simp only[ecB,ecLp,ecT,headC,tailN,sndC,zqx,loopC,Try.f4,al_od]at eu_;subst eu_;clear hu_;go_wp2;exact⟨rfl,EcFr.of rfl,Beyond.refl _,rfl,rfl⟩
theorem ec_r15{s:Int}(hF:EcFr N aL aC db rb kb ap i T)(h10:T[10]?=some (.pointer (some ⟨b10,0,none⟩)))(h11:T[11]?=some (.int .i64 s)):
 Code.wp Try.prog (headC (ecB 2)) (ends (λa' w'=>EcFr N aL aC db rb kb ap i a'.tmps/\Beyond w w'/\a'.tmps[10]?=some (.pointer (some ⟨b10,0,none⟩))/\a'.tmps[11]?=some (.int .i64 s)/\∃b12,a'.tmps[12]?=some (.pointer (some ⟨b12,0,none⟩))/\w.heap.size<=b12/\w'.heap[b12]?=some (.cells #[.bool false,.int .i64 0,.slice none 0 0] 48)) (λ_ _=>False)) ⟨T,[]⟩ w:=by
 obtain⟨v,hv0,hvv⟩:∃v,T=ecF N aL aC db rb kb ap i v/\v=λi=>T.getD i undef:=⟨_,hF.ec,rfl⟩;have e10:v 10=.pointer (some ⟨b10,0,none⟩):=by rw[hvv];exact zq14 h10
 have e11:v 11=.int .i64 s:=by rw[hvv];exact zq14 h11
 clear hF h10 h11 hvv;subst hv0;unfold ecF;rw[e10,e11];clear e10 e11;obtain⟨u_,hu_⟩:∃c,headC (ecB 2)=c:=⟨_,rfl⟩;have eu_:=hu_;rw[hu_];simp only[ecB,ecLp,ecT,headC,tailN,sndC,zqx,loopC,Try.f4,al_od]at eu_;subst eu_;clear hu_;go_wp2;exact⟨rfl,EcFr.of rfl,Beyond.alloc _ _,rfl,rfl,_,rfl,Nat.le_refl _,zqn _ _⟩
theorem ec_none{s who:Int}(hF:EcFr N aL aC db rb kb ap i T)(h10:T[10]?=some (.pointer (some ⟨b10,0,none⟩)))(h11:T[11]?=some (.int .i64 s))(h12:T[12]?=some (.pointer (some ⟨b12,0,none⟩)))(ha:w.cell? ⟨b10,0,none⟩=some (.int .i64 who))(hk:who<0\/N<=who):
 Code.wp Try.prog (headC (ecB 3)) (ends (λa' w'=>EcFr N aL aC db rb kb ap i a'.tmps/\Beyond w w'/\a'.tmps[10]?=some (.pointer (some ⟨b10,0,none⟩))/\a'.tmps[11]?=some (.int .i64 s)/\a'.tmps[12]?=some (.pointer (some ⟨b12,0,none⟩))) (λ_ _=>False)) ⟨T,[]⟩ w:=by
 obtain⟨v,hv0,hvv⟩:∃v,T=ecF N aL aC db rb kb ap i v/\v=λi=>T.getD i undef:=⟨_,hF.ec,rfl⟩;have e10:v 10=.pointer (some ⟨b10,0,none⟩):=by rw[hvv];exact zq14 h10
 have e11:v 11=.int .i64 s:=by rw[hvv];exact zq14 h11
 have e12:v 12=.pointer (some ⟨b12,0,none⟩):=by rw[hvv];exact zq14 h12
 clear hF h10 h11 h12 hvv;subst hv0;unfold ecF;rw[e10,e11,e12];clear e10 e11 e12;obtain⟨u_,hu_⟩:∃c,headC (ecB 3)=c:=⟨_,rfl⟩;have eu_:=hu_;rw[hu_];simp only[ecB,ecLp,ecT,headC,tailN,sndC,zqx,loopC,Try.f4,al_od]at eu_;subst eu_;clear hu_
 by_cases h0:who<0
 . have h1:¬(0:Int)<=who:=by omega
   clear hk;go_wp2;exact⟨rfl,EcFr.of rfl,Beyond.refl _,rfl,rfl,rfl⟩
 . have h1:(0:Int)<=who:=by omega
   have h2:¬who<N:=by omega
   clear hk;go_wp2;exact⟨rfl,EcFr.of rfl,Beyond.refl _,rfl,rfl,rfl⟩
theorem zqd6{who:Int}(hF:EcFr N aL aC db rb kb ap i T)(h10:T[10]?=some (.pointer (some ⟨b10,0,none⟩)))(ha:w.cell? ⟨b10,0,none⟩=some (.int .i64 who))(hk:who<0\/N<=who):
 Code.wp Try.prog (ecB 6) (ends (λa' w'=>EcFr N aL aC db rb kb ap i a'.tmps/\Beyond w w') (λ_ _=>False)) ⟨T,[]⟩ w:=by
 obtain⟨v,hv0,hvv⟩:∃v,T=ecF N aL aC db rb kb ap i v/\v=λi=>T.getD i undef:=⟨_,hF.ec,rfl⟩;have e10:v 10=.pointer (some ⟨b10,0,none⟩):=by rw[hvv];exact zq14 h10
 clear hF h10 hvv;subst hv0;unfold ecF;rw[e10];clear e10;obtain⟨u_,hu_⟩:∃c,ecB 6=c:=⟨_,rfl⟩;have eu_:=hu_;rw[hu_];simp only[ecB,ecLp,ecT,headC,tailN,sndC,zqx,loopC,Try.f4,al_od]at eu_;subst eu_;clear hu_
 by_cases h0:who<0
 . have h1:¬(0:Int)<=who:=by omega
   have hd:decide ((0:Int)<=who)=false:=by simp;omega
   clear hk
   go_wp2_with (fail)
   go_quiet (fail)
   go_wp2;exact⟨rfl,EcFr.of rfl,Beyond.drew _ _⟩
 . have h1:(0:Int)<=who:=by omega
   have h2:¬who<N:=by omega
   have hd:decide ((0:Int)<=who)=true:=by simp;omega
   have hd2:decide (who<N)=false:=by simp;omega
   clear hk
   go_wp2_with (fail)
   go_quiet (fail)
   go_wp2;exact⟨rfl,EcFr.of rfl,Beyond.drew _ _⟩
theorem ec_r12{j:Nat}(hF:EcFr N aL aC db rb kb ap j T)(hj:j<1099511627776):
 Code.wp Try.prog (sndC (sndC ecLp)) (ends (λa' w'=>EcFr N aL aC db rb kb ap ((j+1:Nat):Int) a'.tmps/\Beyond w w') (λ_ _=>False)) ⟨T,[]⟩ w:=by
 obtain⟨i,hi⟩:∃i:Int,(j:Int)=i:=⟨_,rfl⟩;rw[hi]at hF;have hw:IntKind.i64.wrap (i+1)=((j+1:Nat):Int):=by rw[<-hi,show(j:Int)+1=((j+1:Nat):Int)by omega];exact IntWalk.i64_in _ (by omega)
 have hw2:wrap64 (i+1)=((j+1:Nat):Int):=by rw[<-wrapE];exact hw
 clear hi;obtain⟨v,hv0,hvv⟩:∃v,T=ecF N aL aC db rb kb ap i v/\v=λi=>T.getD i undef:=⟨_,hF.ec,rfl⟩;clear hF hvv;subst hv0;unfold ecF;obtain⟨u_,hu_⟩:∃c,sndC (sndC ecLp)=c:=⟨_,rfl⟩;have eu_:=hu_;rw[hu_];simp only[ecB,ecLp,ecT,headC,tailN,sndC,zqx,loopC,Try.f4,al_od]at eu_;subst eu_;clear hu_;go_wp2;refine⟨rfl,EcFr.of ?_,Beyond.refl _⟩
 first|rfl |(simp only[hw,hw2];rfl)
end
theorem mr_bound{N i:Nat}{op:OpX}{C C':EpS}{t:RTh}{a:Ans}{q:Nat}(hN:0<N)(h:MR N i op C t C' a q):t.pc≠0->OkE N op t->(C.th i).length<mostT->a.l.length<=(C.th i).length/\∀j,(C'.th j).length<=(C.th j).length+1:=by
 induction h with
 |fin h1 h2=>
  rename_i C C' t a;intro hp hO hlen;obtain⟨t1,h2⟩:=h2;subst h1;have ha:∀b,RTh.fin t1 a=RTh.fin t b->a=b:=λb e=>by
   have:=congrArg RTh.ans e;have e':t1.ans++[a]=t.ans++[b]:=this;exact(List.append_inj' e' rfl).2 |> λh=>by simpa using h
  have hb:∀(t2:RTh)b,RTh.fin t1 a=RTh.fin t2 b->a=b:=λt2 b e=>by
   have:=congrArg RTh.ans e;have e':t1.ans++[a]=t2.ans++[b]:=this;exact(List.append_inj' e' rfl).2 |> λh=>by simpa using h
  unfold epStp at h2 |-;split at h2
  . rename_i e1;rw[if_pos e1];unfold zq3x at h2 |-;split at h2
    . have:=congrArg RTh.pc h2;cases this
    . rename_i e2;rw[if_neg e2];rw[hb _ _ h2.symm];exact⟨Nat.zero_le _,λj=>Nat.le_succ _⟩
  . rename_i e1;rw[if_neg e1];split at h2
    . rename_i e2;rw[if_pos e2,hb _ _ h2.symm];exact⟨Nat.zero_le _,λj=>Nat.le_succ _⟩
    . rename_i e2;rw[if_neg e2];split at h2
      . rename_i e3;rw[if_pos e3,hb _ _ h2.symm];refine⟨Nat.zero_le _,λj=>?_⟩;show(upd' C.th i _ j).length<=_
        by_cases e:j=i
        . subst e;rw[upd'_same,List.length_append];exact Nat.le_refl _
        . rw[zqu _ _ e];exact Nat.le_succ _
      . rename_i e3;rw[if_neg e3];split at h2
        . rename_i e4;rw[if_pos e4];have hth:∀j,(epAdv N C t).1.th j=C.th j:=λj=>by
           unfold epAdv;simp only
           repeat' split
           all_goals rfl
          have hl:a.l=[]:=by
           unfold epAdv at h2;simp only at h2
           repeat' split at h2
           all_goals first
            |(rw[hb _ _ h2.symm])
            |(have:=congrArg RTh.pc h2;exact absurd this hp)
            |(have:=congrArg RTh.pc h2;cases this)
          rw[hl];exact⟨Nat.zero_le _,λj=>by rw[hth j];exact Nat.le_succ _⟩
        . rename_i e4;rw[if_neg e4];unfold zq3w at h2 |-;rw[hb _ _ h2.symm];refine⟨?_,λj=>?_⟩
          . show(oldsE i C).length<=_;unfold oldsE;rw[List.length_map];exact List.length_filter_le _ _
          . show(upd' C.th i _ j).length<=_
            by_cases e:j=i
            . subst e;rw[upd'_same];exact Nat.le_succ_of_le (List.length_filter_le _ _)
            . rw[zqu _ _ e];exact Nat.le_succ _
 |on hpc hO2 hm ih=>
  intro hp hO hlen;have hC:=zqaf hN hp hO hlen hpc;have:=ih hpc hO2 (by rw[hC];exact hlen);rw[hC]at this;exact this
theorem op_bound{N k:Nat}{op:OpX}{C:EpS}(hN:0<N)(hlen:(C.th k).length<mostT):∃C' a q,(opE N k op:Proc SE Ans).run (C,λ_=>[])=((C',λ_=>[]),some a,q)/\a.l.length<=(C.th k).length/\∀j,(C'.th j).length<=(C.th j).length+1:=by
 rcases opRun (A:=λ_=>[]) (op:=op) hN hlen with⟨p1,p2,p3⟩|⟨p1,p2,C2,a2,q2,p3,p4,p5⟩
 . exact⟨C,Ans.none,0,p3,Nat.zero_le _,λj=>Nat.le_succ _⟩
 . have hth:(epBg k op C (zAt C k)).1.th=C.th:=(epBg_e k op C (zAt C k)).2.2;obtain⟨b1,b2⟩:=mr_bound hN p3 p1 p2 (by rw[hth];exact hlen);rw[hth]at b1 b2;exact⟨C2,a2,q2+1,p5,b1,b2⟩
section
variable {T:EpT} {m m':EpM} {w w':World}
theorem zq8b(hty:EpTy T)(h:EpRep T m w){b:Nat}(hf:(zqb T).foot m b):∃c ty,w.heap[b]?=some (.cells c ty)/\(ty=81\/ty=121\/ty=125):=by
 rcases hf with rfl |rfl |⟨i,hi,hX⟩
 . exact⟨_,_,h.dom,.inl hty.tD⟩
 . exact⟨_,_,h.mem,.inr (.inl hty.tM)⟩
 . rcases(h.row i hi).2 with⟨_,_,e⟩|⟨g,cap,cur,_,e,_⟩
   . rw[e]at hX;exact absurd rfl hX
   . have hbg:b=g:=Classical.byContradiction λhn=>hX (by rw[e];exact if_neg hn);subst hbg;exact⟨cur,T.tT,h.blk i b _ hi (by rw[e];exact if_pos rfl),.inr (.inr hty.tT)⟩
theorem ep_keep(hty:EpTy T)(h:EpRep T m w)(hk:∀(b:Nat)(c:Array Value)(ty:TypeId),w.heap[b]?=some (.cells c ty)->ty=81\/ty=121\/ty=125->w'.heap[b]?=w.heap[b]?):EpRep T m w':=
 (zqb T).frame _ _ _ h λb hb=>by
  obtain⟨c,ty,h1,h2⟩:=zq8b hty h hb;exact hk b c ty h1 h2
end
structure EcN(W:World)(T:EpT)(rb gm gM kb j c:Nat)(m:EpM)(w:World):Prop where
 be:Beyond W w
 rep:EpRep T m w
 ft:∀b,(zqb T).foot m b->b≠kb/\W.heap.size<=b
 cnt:w.heap[kb]?=some (.cells #[.int .i64 (wrap64 (c:Int))] 42)
 klo:W.heap.size<=kb
 ref:∃G hv,RefE G W.heap.size rb gm gM T.N m.s RTh.z hv w
 th:∀i,(m.s.th i).length<=j
theorem EcN.more {W:World}{T:EpT}{rb gm gM kb j c:Nat}{m:EpM}{w w':World}(h:EcN W T rb gm gM kb j c m w)(hb:Beyond w w'):EcN W T rb gm gM kb j c m w':=by
 obtain⟨G,hv,hr⟩:=h.ref;exact⟨h.be.trans hb,(zqb T).frame _ _ _ h.rep λb hf=>hb.2 b ((zqb T).lt _ _ _ h.rep hf),h.ft,hb.heap h.cnt,h.klo,⟨G,hv,hr.more hb.2⟩,h.th⟩
section
variable {Fin:Machine->Trace->Prop} {n:Nat} {b:Frame} {kk:List Item} {cs:List Frame}
theorem ec_r22(hFin:Back Try.prog Fin)(hbk:b.kind=.normal){N:Int}{aL aC db rb kb b10 b12:Nat}{ap:Option Addr}{i s who:Int}{op:OpX}{T:Array Value}{w:World}{Φ:Ans->Value->World->Prop}(hF:EcFr N aL aC db rb kb ap i T)(h10:T[10]?=some (.pointer (some ⟨b10,0,none⟩)))(h11:T[11]?=some (.int .i64 s))(h12:T[12]?=some (.pointer (some ⟨b12,0,none⟩)))
 (ha:w.heap[b10]?=some (.cells (actC who op) 46)) (hΦ:∀a v w' τ d,Φ a v w'->Φ a v (re w' τ d))
 (hcall:∀(w1:World)(cl:Frame)(cs:List Frame),Beyond w w1->(∀a p l c w',Φ a (.slice p l c) w'->J0 Try.prog Fin n (G (cl.finish (.agg #[.bool a.ok,.int .i64 a.n,.slice p l c])) cs) w')->J0 Try.prog Fin n (G (Frame.enter Try.prog 16 #[.pointer (some ⟨db,0,none⟩),.pointer (some ⟨kb,0,none⟩),actV who op] .normal) (cl::cs)) w1)
 (hq:∀T' w' w3 a p l c b14,EcFr N aL aC db rb kb ap i T'->T'[10]?=some (.pointer (some ⟨b10,0,none⟩))->T'[11]?=some (.int .i64 s)->T'[12]?=some (.pointer (some ⟨b12,0,none⟩))->T'[14]?=some (.pointer (some ⟨b14,0,none⟩))->Φ a (.slice p l c) w3->Beyond w3 w'->w3.heap.size<=b14->w'.heap[b14]?=some (.cells #[.bool a.ok,.int .i64 a.n,.slice p l c] 48)->J0 Try.prog Fin n (G (b.at ⟨T',[]⟩ kk) cs) w'):
 J0 Try.prog Fin n (G (b.at ⟨T,[]⟩ (.code (headC (ecB 4))::kk)) cs) w:=by
 have hJ:=j0_JS hFin;have HA:=Lib.hid ha;have HC:=Lib.hid hcall;have HQ:=Lib.hid hq;have HP:=Lib.hid hΦ;clear ha hcall hq hΦ;obtain⟨v,hv0,hvv⟩:∃v,T=ecF N aL aC db rb kb ap i v/\v=λi=>T.getD i undef:=⟨_,hF.ec,rfl⟩;have e10:v 10=.pointer (some ⟨b10,0,none⟩):=by rw[hvv];exact zq14 h10
 have e11:v 11=.int .i64 s:=by rw[hvv];exact zq14 h11
 have e12:v 12=.pointer (some ⟨b12,0,none⟩):=by rw[hvv];exact zq14 h12
 clear hF h10 h11 h12 hvv;subst hv0;unfold ecF;rw[e10,e11,e12];clear e10 e11 e12;obtain⟨u_,hu_⟩:∃c,headC (ecB 4)=c:=⟨_,rfl⟩;have eu_:=hu_;rw[hu_];simp only[ecB,ecLp,ecT,headC,tailN,sndC,zqx,loopC,Try.f4,al_od]at eu_;subst eu_;clear hu_;refine hJ.ctl (s:=n) (λw=>stepG_region) ?_;refine zqw (s:=n) (by rw[hbk];decide) hJ (zqt _) false (.inr rfl) 0 3 3 rfl rfl rfl (by rfl) ?_;intro τ d;simp only[List.drop_succ_cons,List.drop_zero,List.take_succ_cons,List.take_zero];have hb1:=Beyond.re w τ d;generalize re w τ d=w1 at hb1 |-;have ha1:=hb1.heap HA.out;have c0:w1.cell? ⟨b10,0,none⟩=some (.int .i64 who):=(zq0 ha1).trans rfl;have c1:w1.cell? ⟨b10,1,none⟩=some (.int .i64 op.k):=(zq0 ha1).trans rfl;have c2:w1.cell? ⟨b10,2,none⟩=some (.int .i64 op.a):=(zq0 ha1).trans rfl;have c3:w1.cell? ⟨b10,3,none⟩=some (.int .i64 op.b):=(zq0 ha1).trans rfl;have c4:w1.cell? ⟨b10,4,none⟩=some (.int .i64 op.c):=(zq0 ha1).trans rfl;clear ha1;go_wp2;simp only[zqi];clear c0 c1 c2 c3 c4;refine zq1g (by rw[hbk];decide) hJ (s:=n) rfl rfl (f:=16) (args:=#[.pointer (some ⟨db,0,none⟩),.pointer (some ⟨kb,0,none⟩),actV who op]) (λτ d=>?_) (λτ d=>?_) ?_
 . unfold actV actC;simp[go_sem,execOp,Act.eval,resolve,Deferred.ofValue,invoke,callFunc,Try.func16,Try.f16]
 . intro e he;simp[go_sem,execOp,Act.eval,resolve,Deferred.ofValue,invoke,callFunc,Try.func16,Try.f16,Sem.runT_eq]at he
 refine HC.out w1 _ _ hb1 ?_;intro a p l c w3 hΦ;rw[Frame.finish_at]
 walk_nrm
 refine zqw (s:=n) (by rw[hbk];decide) hJ (zqt _) false (.inr rfl) 4 2 0 rfl rfl rfl (by rfl) ?_;intro τ d;simp only[List.drop_succ_cons,List.drop_zero,List.take_succ_cons,List.take_zero];have hΦ':=HP.out _ _ _ τ d hΦ;generalize re w3 τ d=w4 at hΦ' |-;have HF:=Lib.hid hΦ';clear hΦ hΦ';obtain⟨ok,hok⟩:∃x,a.ok=x:=⟨_,rfl⟩;obtain⟨nn,hnn⟩:∃x,a.n=x:=⟨_,rfl⟩;have HOK:=Lib.hid (And.intro hok hnn);rw[hok,hnn];clear hok hnn;go_wp2;simp only[zqi];refine hJ.ctl (s:=n) (λw=>stepG_region_end) ?_;refine HQ.out _ _ w4 a p l c w4.heap.size (EcFr.of rfl) rfl rfl rfl rfl HF.out ?_ (Nat.le_refl _) ?_
 . exact Beyond.alloc _ _
 . rw[HOK.out.1,HOK.out.2];exact zqn _ _
end
theorem ECR.re {B N aL aC db rb kb gm gM b10 b12:Nat}{ap:Option Addr}{i:Int}{C':EpS}{t:RTh}{a:Ans}{s:Int}{w w':World}{T':Array Value}(h:ECR B N aL aC db rb kb gm gM b10 b12 ap i C' t a s w T' w')(τ:Nat->Question->Nat)(d:Nat):ECR B N aL aC db rb kb gm gM b10 b12 ap i C' t a s w T' (re w' τ d):=by
 obtain⟨G,hv,p,n,c,h1,h2,h3⟩:=h.ref;exact⟨h.fr,h.t10,h.t11,h.t12,⟨G,hv,p,n,c,h1.more (λ_ _=>rfl),h2,h3⟩,⟨h.held.size,h.held.old⟩,h.keep⟩
theorem ECR.of_re {B N aL aC db rb kb gm gM b10 b12:Nat}{ap:Option Addr}{i:Int}{C':EpS}{t:RTh}{a:Ans}{s:Int}{w w':World}{T':Array Value}{τ:Nat->Question->Nat}{d:Nat}(h:ECR B N aL aC db rb kb gm gM b10 b12 ap i C' t a s (Go.Car.re w τ d) T' w'):ECR B N aL aC db rb kb gm gM b10 b12 ap i C' t a s w T' w':=
 ⟨h.fr,h.t10,h.t11,h.t12,h.ref,⟨h.held.size,h.held.old⟩,h.keep⟩
theorem ActsIn.more {w w':World}{ap:Option Addr}{acts:List (Int×OpX)}(h:ActsIn w ap acts)(hb:Beyond w w'):ActsIn w' ap acts:=λhn=>by
 obtain⟨ab,ao,e,hc⟩:=h hn;refine⟨ab,ao,e,λi x hx=>?_⟩;obtain⟨c0,c1,c2,c3,c4⟩:=hc i x hx;exact⟨hb.cell c0,hb.cell c1,hb.cell c2,hb.cell c3,hb.cell c4⟩
theorem zqe7{gm N:Nat}{C:EpS}{w:World}(h:w.heap[gm]?=some (.cells (zq1b C N) 2)):IntsAt w (.slice (some ⟨gm,0,none⟩) N N) (markL C N):=by
 refine⟨_,N,by rw[zq2t],λhl=>⟨gm,0,rfl,λi hi=>?_⟩⟩;rw[zq2t]at hi;rw[Nat.zero_add];refine(zq0 h).trans ?_;refine zqeq C N i _ ?_;have:i<(markL C N).length:=by rw[zq2t];exact hi
 rw[List.getElem?_map,List.getElem?_eq_getElem this,List.getD_eq_getElem?_getD,List.getElem?_eq_getElem this];rfl
theorem zqg3{X:Nat->Option Obj}{e:TypeId}{k n:Nat}{v:Value}{xs:List Value}(h:RowB X e k v n xs):∃p c,v=.slice p n c:=by
 rcases h.2 with⟨a,b,_⟩|⟨g,cap,cur,a,_⟩
 . exact⟨none,0,by rw[a,b]⟩
 . exact⟨_,cap,a⟩
section
variable {N:Int} {aL aC db rb kb:Nat} {ap:Option Addr} {T:Array Value} {w:World}
theorem ec_r11{j:Nat}(hF:EcFr N aL aC db rb kb ap j T):
 Code.wp Try.prog (headC (headC ecLp)) (ends (λa' w'=>EcFr N aL aC db rb kb ap j a'.tmps/\a'.tmps[61]?=some (.bool (decide ((j:Int)<(aL:Int))))/\Beyond w w') (λ_ _=>False)) ⟨T,[]⟩ w:=by
 obtain⟨i,hi⟩:∃i:Int,(j:Int)=i:=⟨_,rfl⟩;rw[hi]at hF |-;clear hi;obtain⟨v,hv0,hvv⟩:∃v,T=ecF N aL aC db rb kb ap i v/\v=λi=>T.getD i undef:=⟨_,hF.ec,rfl⟩;clear hF hvv;subst hv0;unfold ecF;obtain⟨u_,hu_⟩:∃c,headC (headC ecLp)=c:=⟨_,rfl⟩;have eu_:=hu_;rw[hu_];simp only[ecB,ecLp,ecT,headC,tailN,sndC,zqx,loopC,Try.f4,al_od]at eu_;subst eu_;clear hu_;go_wp2;exact⟨rfl,EcFr.of rfl,rfl,Beyond.refl _⟩
end
section
variable {Fin:Machine->Trace->Prop} {n:Nat} {b:Frame} {kk:List Item} {cs:List Frame}
theorem ecLp0:ecLp=.seq (.seq (headC (headC ecLp)) (.cond (.tmp 61) .skip (.exit 0))) (.seq (.block 1 (ecB 0)) (sndC (sndC ecLp))):=by kernel_rfl
theorem ecB0:ecB 0=.seq (headC (ecB 0)) (.seq (headC (ecB 1)) (.seq (headC (ecB 2)) (.seq (headC (ecB 3)) (.seq (headC (ecB 4)) (ecB 5))))):=by kernel_rfl
theorem zq7q(hFin:Back Try.prog Fin)(hbk:b.kind=.normal){W:World}{T:EpT}{aL aC rb gm gM kb j c b10 b12 b14 gn gc ln lc:Nat}{ap gp lp:Option Addr}{m:EpM}{who:Int}{op:OpX}{a:Ans}{Tf:Array Value}{w:World}(hty:EpTy T)(hN:T.N<=64)(hj:j<1048576)(hI:EcN W T rb gm gM kb (j+1) c m w)
 (hF:EcFr T.N aL aC T.db rb kb ap j Tf) (h10:Tf[10]?=some (.pointer (some ⟨b10,0,none⟩))) (h11:Tf[11]?=some (.int .i64 (wrap64 (c:Int)))) (h12:Tf[12]?=some (.pointer (some ⟨b12,0,none⟩))) (h14:Tf[14]?=some (.pointer (some ⟨b14,0,none⟩)))
 (ha:w.heap[b10]?=some (.cells (actC who op) 46)) (h14b:w.heap[b14]?=some (.cells #[.bool a.ok,.int .i64 a.n,.slice gp gn gc] 48)) (hgl:IntsAt w (.slice gp gn gc) a.l) (h12b:w.heap[b12]?=some (.cells #[.bool a.ok,.int .i64 a.n,.slice lp ln lc] 48)) (hwl:IntsAt w (.slice lp ln lc) a.l) (hal:a.l.length<=1099511627776)
 (hq:∀T' w',EcFr T.N aL aC T.db rb kb ap ((j+1:Nat):Int) T'->EcN W T rb gm gM kb (j+1) c m w'->J0 Try.prog Fin n (G (b.at ⟨T',[]⟩ kk) cs) w'):
 J0 Try.prog Fin n (G (b.at ⟨Tf,[]⟩ (.code (ecB 5)::.inBlock 1::.code (sndC (sndC ecLp))::kk)) cs) w:=by
 have hJ:=j0_JS hFin;have hC:=zq22 hFin;have hbk':b.kind≠.early:=by rw[hbk];decide
 obtain⟨GG,hv,hR⟩:=hI.ref;refine ec_cmp23 (s:=n) hJ hC hbk' hF h10 h11 h12 h14 (e0:=m.s.e) (ml:=markL m.s T.N) (mv:=.slice (some ⟨gM,0,none⟩) T.N T.N) (gm:=gm) ⟨λW' hb=>zq80 (hI.more hb).rep,λW' hb=>zq8t (hI.more hb).rep hN,h14b,hgl,h12b,hwl,(zq0 hI.cnt).trans rfl,hR.d.dom,zqe7 hR.d.mar,by rw[zq2t];exact hN,hal⟩ ?_;intro T1 w1 hF1 h10' hb1;have hI1:=hI.more hb1;have ha1:=hb1.heap ha;have fin:∀T2 w2,EcFr T.N aL aC T.db rb kb ap j T2->EcN W T rb gm gM kb (j+1) c m w2->J0 Try.prog Fin n (G (b.at ⟨T2,[]⟩ (.inBlock 1::.code (sndC (sndC ecLp))::kk)) cs) w2:=by
  intro T2 w2 hF2 hI2;refine hJ.ctl (s:=n) (λw=>stepG_inBlock) ?_;refine zq19 hJ hC zqz (by kernel_rfl) (λ(t:Array Value)(w':World)=>EcFr T.N aL aC T.db rb kb ap ((j+1:Nat):Int) t/\Beyond w2 w') (λt w' τ d h=>h) hbk' (λτ d=>ec_r12 (w:=re w2 τ d) hF2 (by omega)) ?_;rintro T3 w3 ⟨hF3,hb3⟩;exact hq T3 w3 hF3 (hI2.more hb3)
 have c0:w1.cell? ⟨b10,0,none⟩=some (.int .i64 who):=(zq0 ha1).trans rfl
 by_cases hk:who<0\/(T.N:Int)<=who
 . refine zq19 hJ hC zqz (by kernel_rfl) (λ(t:Array Value)(w':World)=>EcFr T.N aL aC T.db rb kb ap j t/\Beyond w1 w') (λt w' τ d h=>h) hbk' (λτ d=>zqd6 (w:=re w1 τ d) hF1 h10' c0 hk) ?_;rintro T2 w2 ⟨hF2,hb2⟩;exact fin T2 w2 hF2 (hI1.more hb2)
 . obtain⟨k,hkw⟩:∃k:Nat,who=k:=⟨who.toNat,by omega⟩;have hkN:k<T.N:=by omega
   rw[hkw]at c0;refine ec_cmp25 (s:=n) hJ hC hbk' hF1 h10' (k:=k) (tl:=thN (m.s.th k)) ⟨λW' hb=>zqdh (hI1.more hb).rep hty.tT hN hkN (by have:=hI.th k;omega),λW' hb=>?_,c0,hkN,by rw[zq6r];have:=hI.th k;omega⟩ ?_
   . obtain⟨G2,hv2,hR2⟩:=(hI1.more hb).ref;obtain⟨p,cc,e,_⟩:=zq1q (hR2.row k hkN);refine zqga hR2.d hN hkN (by have:=hI.th k;omega) e λi x hx=>?_;rcases(hR2.row k hkN).2 with⟨hv0,h0⟩|⟨g,cap,cur,hv0,hbb,hgc,q1,q2,q3,q4⟩
     . have:=(List.getElem?_eq_some_iff.1 hx).1;omega
     . have hpe:p=some ⟨g,0,none⟩:=by rw[e]at hv0;simp only[Value.slice.injEq]at hv0;exact hv0.1
       have hil:=(List.getElem?_eq_some_iff.1 hx).1;refine⟨g,hpe,?_⟩;have t0:=(zq6q hx).1;rw[<-q4,List.getElem?_take,if_pos (by omega)]at t0;rw[zq0 hgc];simpa using t0
   . intro T2 w2 hF2 hb2;exact fin T2 w2 hF2 (hI1.more hb2)
theorem ec_round(hFin:Back Try.prog Fin)(hbk:b.kind=.normal){W:World}{T:EpT}{aL aC rb gm gM kb j c:Nat}{ap:Option Addr}{m:EpM}{acts:List (Int×OpX)}{x:Int×OpX}{Tf:Array Value}{w:World}(hty:EpTy T)(hN:T.N<=64)(hA:ActsIn W ap acts)(hl:acts.length=aL)(hle:aL<=1048576)(hx:acts[j]?=some x)(hI:EcN W T rb gm gM kb j c m w)(hF:EcFr T.N aL aC T.db rb kb ap j Tf)
 (hq:∀T' w' c' m',EcFr T.N aL aC T.db rb kb ap ((j+1:Nat):Int) T'->EcN W T rb gm gM kb (j+1) c' m' w'->J0 Try.prog Fin n (G (b.at ⟨T',[]⟩ kk) cs) w'):
 J0 Try.prog Fin n (G (b.at ⟨Tf,[]⟩ (.code ecLp::kk)) cs) w:=by
 have hJ:=j0_JS hFin;have hC:=zq22 hFin;have hbk':b.kind≠.early:=by rw[hbk];decide
 have hjl:=(List.getElem?_eq_some_iff.1 hx).1;rw[ecLp0];refine hJ.ctl (s:=n) (λw=>stepG_seq) ?_;refine hJ.ctl (s:=n) (λw=>stepG_seq) ?_;refine zq19 hJ hC zqz (by kernel_rfl) (λ(t:Array Value)(w':World)=>EcFr T.N aL aC T.db rb kb ap j t/\t[61]?=some (Value.bool (decide ((j:Int)<(aL:Int))))/\Beyond w w') (λt w' τ d h=>h) hbk' (λτ d=>ec_r11 (w:=re w τ d) hF) ?_;rintro T0 w0 ⟨hF0,h61,hb0⟩;have hI0:=hI.more hb0;have hdec:decide ((j:Int)<(aL:Int))=true:=by simp;omega
 rw[hdec]at h61;refine hJ.ctl (s:=n) (λw=>stepG_cond (t:=true) (by show T0.getD 61 undef=_;exact zq14 h61)) ?_;rw[if_pos rfl];refine hJ.ctl (s:=n) (λw=>stepG_skip) ?_;refine hJ.ctl (s:=n) (λw=>stepG_seq) ?_;refine hJ.ctl (s:=n) (λw=>stepG_block) ?_;rw[ecB0];refine hJ.ctl (s:=n) (λw=>stepG_seq) ?_;refine zq19 hJ hC zqz (by kernel_rfl) (λ(t:Array Value)(w':World)=>EcFr T.N aL aC T.db rb kb ap j t/\Beyond w0 w'/\∃b10,t[10]?=some (Value.pointer (some ⟨b10,0,none⟩))/\w0.heap.size<=b10/\w'.heap[b10]?=some (.cells (actC x.1 x.2) 46)) (λt w' τ d h=>h) hbk' (λτ d=>ec_r13 (w:=re w0 τ d) hF0 ((hA.more hI0.be).more (Beyond.re w0 τ d)) hx hl) ?_;rintro T1 w1 ⟨hF1,hb1,b10,h10,hlo10,ha1⟩;have hI1:=hI0.more hb1;refine hJ.ctl (s:=n) (λw=>stepG_seq) ?_;refine zq19 hJ hC zqz (by kernel_rfl) (λ(t:Array Value)(w':World)=>EcFr T.N aL aC T.db rb kb ap j t/\Beyond w1 w'/\t[10]?=some (Value.pointer (some ⟨b10,0,none⟩))/\t[11]?=some (Value.int .i64 (wrap64 (c:Int)))) (λt w' τ d h=>h) hbk' (λτ d=>ec_r14 (w:=re w1 τ d) hF1 h10 ((zq0 hI1.cnt).trans rfl)) ?_;rintro T2 w2 ⟨hF2,hb2,h10,h11⟩;have hI2:=hI1.more hb2;have ha2:=hb2.heap ha1;refine hJ.ctl (s:=n) (λw=>stepG_seq) ?_;refine zq19 hJ hC zqz (by kernel_rfl) (λ(t:Array Value)(w':World)=>EcFr T.N aL aC T.db rb kb ap j t/\Beyond w2 w'/\t[10]?=some (Value.pointer (some ⟨b10,0,none⟩))/\t[11]?=some (Value.int .i64 (wrap64 (c:Int)))/\∃b12,t[12]?=some (Value.pointer (some ⟨b12,0,none⟩))/\w2.heap.size<=b12/\w'.heap[b12]?=some (.cells #[.bool false,.int .i64 0,.slice none 0 0] 48)) (λt w' τ d h=>h) hbk' (λτ d=>ec_r15 (w:=re w2 τ d) hF2 h10 h11) ?_;rintro T3 w3 ⟨hF3,hb3,h10,h11,b12,h12,hlo12,hz12⟩;have hI3:=hI2.more hb3;have ha3:=hb3.heap ha2;refine hJ.ctl (s:=n) (λw=>stepG_seq) ?_;have hB12:W.heap.size<=b12:=Nat.le_trans hI2.be.1 hlo12
 by_cases hk:x.1<0\/(T.N:Int)<=x.1
 . refine zq19 hJ hC zqz (by kernel_rfl) (λ(t:Array Value)(w':World)=>EcFr T.N aL aC T.db rb kb ap j t/\Beyond w3 w'/\t[10]?=some (Value.pointer (some ⟨b10,0,none⟩))/\t[11]?=some (Value.int .i64 (wrap64 (c:Int)))/\t[12]?=some (Value.pointer (some ⟨b12,0,none⟩))) (λt w' τ d h=>h) hbk' (λτ d=>ec_none (w:=re w3 τ d) hF3 h10 h11 h12 ((zq0 ha3).trans rfl) hk) ?_;rintro T4 w4 ⟨hF4,hb4,h10,h11,h12⟩;have hI4:=hI3.more hb4;have ha4:=hb4.heap ha3;have hz4:=hb4.heap hz12;refine hJ.ctl (s:=n) (λw=>stepG_seq) ?_;refine ec_r22 hFin (b:=b) (n:=n) hbk hF4 h10 h11 h12 ha4 (Φ:=λa v w'=>a=Ans.none/\Beyond w4 w'/\∃p c,v=.slice p 0 c) (λa v w' τ d h=>h) (λw5 cl cs' hb5 hq'=>?_) ?_
   . refine dcall_J (jU0 hFin n) (jC0 hFin n) (hb5.heap hI4.rep.dom) hN hk λp cc w' hbb=>hq' Ans.none p 0 cc w' ⟨rfl,hb5.trans hbb,p,cc,rfl⟩
   . rintro T5 w6 w5 a p l cc b14 hF5 h10 h11 h12 h14 ⟨rfl,hb5,p',c',e⟩ hb6 hlo14 hz14;cases e;have hI6:=(hI4.more hb5).more hb6;have hI7:EcN W T rb gm gM kb (j+1) c m w6:=⟨hI6.be,hI6.rep,hI6.ft,hI6.cnt,hI6.klo,hI6.ref,λi=>Nat.le_succ_of_le (hI6.th i)⟩;exact zq7q hFin hbk hty hN (by omega) hI7 hF5 h10 h11 h12 h14 ((hb5.trans hb6).heap ha4) hz14 ⟨p,cc,rfl,λh=>absurd rfl h⟩ ((hb5.trans hb6).heap hz4) ⟨none,0,rfl,λh=>absurd rfl h⟩ (Nat.zero_le _) λT' w' h1 h2=>hq T' w' c m h1 h2
 . obtain⟨k,hkw⟩:∃k:Nat,x.1=k:=⟨x.1.toNat,by omega⟩;have hkN:k<T.N:=by omega
   have hthk:=hI3.th k;obtain⟨C',a,q,hrun,hal,hth⟩:=op_bound (N:=T.N) (k:=k) (op:=x.2) (C:=m.s) (by omega) (by simp only[mostT];omega);rw[hkw]at ha3;obtain⟨GG,hv,hR⟩:=hI3.ref;refine zq19 hJ hC zqz (by kernel_rfl) (λ(t:Array Value)(w':World)=>ECR W.heap.size T.N aL aC T.db rb kb gm gM b10 b12 ap j C' RTh.z a ((c:Int)+q) w3 t w') (λt w' τ d h=>h.re τ d) hbk' (λτ d=>?_) ?_
   . refine Code.wp_mono ?_ (ec_ref (w:=re w3 τ d) (c:=c) (a:=a) (q:=q) (C:=m.s) (C':=C') (op:=x.2) (k:=k) hF3.ec (zq14 h10) (zq14 h11) (zq14 h12) (by omega) hN hkN (by omega) ha3 hz12 hB12 (Nat.le_trans hI3.be.1 (Nat.le_refl _)) (hR.more (λ_ _=>rfl)) hrun);intro e a' w' h;cases e<;>first|exact⟨h.1,h.2.of_re⟩|exact h
   rintro T4 w4 hE;have hF4:=EcFr.of hE.fr;have h10':=zq67 (k:=10) (by rw[hF4.sz];decide) hE.t10;have h11':=zq67 (k:=11) (by rw[hF4.sz];decide) hE.t11;have h12':=zq67 (k:=12) (by rw[hF4.sz];decide) hE.t12;have ecast:(c:Int)+(q:Int)=((c+q:Nat):Int):=by omega
   rw[ecast]at h11';have hcnt4:=(hE.keep kb _ _ hI3.cnt (zql hI3.cnt hz12 (by decide)) (by decide) (by decide) (by decide) (by decide) (by decide)).trans hI3.cnt;have ha4:=(hE.keep b10 _ _ ha3 (zql ha3 hz12 (by decide)) (by decide) (by decide) (by decide) (by decide) (by decide)).trans ha3;have hrep4:EpRep T m w4:=ep_keep hty hI3.rep λb' c' ty h1 h2=>hE.keep b' c' ty h1 (zql h1 hz12 (by rcases h2 with rfl |rfl |rfl<;>decide)) (by rcases h2 with rfl |rfl |rfl<;>decide) (by rcases h2 with rfl |rfl |rfl<;>decide) (by rcases h2 with rfl |rfl |rfl<;>decide) (by rcases h2 with rfl |rfl |rfl<;>decide) (by rcases h2 with rfl |rfl |rfl<;>decide);have hbe4:Beyond W w4:=⟨Nat.le_trans hI3.be.1 hE.held.size,λb' hb'=>(hE.held.old b' hb' (Nat.lt_of_lt_of_le hb' hI3.be.1)).trans (hI3.be.2 b' hb')⟩;obtain⟨G4,hv4,lp,ln,lc,hR4,hw4,hls4⟩:=hE.ref;refine hJ.ctl (s:=n) (λw=>stepG_seq) ?_;refine ec_r22 hFin (b:=b) (n:=n) hbk hF4 h10' h11' h12' ha4 (Φ:=λa' v w'=>a'=a/\IntsAt w' v a.l/\(∃m',EcN W T rb gm gM kb (j+1) (c+q) m' w')/\w'.heap[b12]?=some (.cells #[.bool a.ok,.int .i64 a.n,.slice lp ln lc] 48)/\IntsAt w' (.slice lp ln lc) a.l/\w'.heap[b10]?=some (.cells (actC k x.2) 46)) (λa' v w' τ d h=>⟨h.1,h.2.1.beyond (Beyond.re _ _ _),⟨h.2.2.1.choose,h.2.2.1.choose_spec.more (Beyond.re _ _ _)⟩,h.2.2.2.1,h.2.2.2.2.1.beyond (Beyond.re _ _ _),h.2.2.2.2.2⟩) (λw5 cl cs' hb5 hq'=>?_) ?_
   . have hrep5:=(zqb T).frame _ _ _ hrep4 λb' hf=>hb5.2 b' ((zqb T).lt _ _ _ hrep4 hf);have hR5:=hR4.more (w':=w5) hb5.2;refine ecall_J hFin hty hN hrep5 (hb5.heap hcnt4) (λb' hf=>(hI3.ft b' hf).1) hkN hrun ?_;intro v X m' w6 ⟨sl,hv',hrow⟩ hms hA6;subst hv';obtain⟨p,cc,rfl⟩:=zqg3 hrow;have old6:∀(b':Nat)(c':Array Value)(ty:TypeId),w5.heap[b']?=some (.cells c' ty)->ty≠81->ty≠121->ty≠125->ty≠42->w6.heap[b']?=w5.heap[b']?:=λb' c' ty h0 h1 h2 h3 h4=>hA6.old b' (zqg h0) (λhf=>by
      obtain⟨c2,ty2,k1,k2⟩:=zq8b hty hrep5 hf;have:=zq5x h0 k1;subst this;rcases k2 with k2|k2|k2
      . exact h1 k2
      . exact h2 k2
      . exact h3 k2) (zql h0 (hb5.heap hcnt4) h4)
     have hR6:RefE G4 W.heap.size rb gm gM T.N C' RTh.z hv4 w6:=RefE.keep hR5 λb' c' ty h0 h1=>old6 b' c' ty h0 (by rcases h1 with rfl |rfl |rfl |rfl<;>decide) (by rcases h1 with rfl |rfl |rfl |rfl<;>decide) (by rcases h1 with rfl |rfl |rfl |rfl<;>decide) (by rcases h1 with rfl |rfl |rfl |rfl<;>decide);refine hq' a p _ cc w6 ⟨rfl,zq6a hrow hA6.x,⟨m',⟨⟨?_,λb' hb'=>?_⟩,hA6.rep,λb' hf=>⟨hA6.nk b' hf,?_⟩,hA6.cnt,hI3.klo,⟨G4,hv4,by rw[hms];exact hR6⟩,λi=>?_⟩⟩,?_,?_,?_⟩
     . exact Nat.le_trans (hbe4.trans hb5).1 hA6.size
     . have hw5:b'<w5.heap.size:=Nat.lt_of_lt_of_le hb' (hbe4.trans hb5).1;rw[hA6.old b' hw5 (λhf=>by have:=(hI3.ft b' hf).2;omega) (by have:=hI3.klo;omega)];exact(hbe4.trans hb5).2 b' hb'
     . rcases hA6.grow b' hf with h1|h1
       . exact(hI3.ft b' h1).2
       . exact Nat.le_trans (hbe4.trans hb5).1 h1
     . have h1:=hth i;have h2:=hI3.th i;rw[hms];omega
     . exact(old6 b12 _ _ (hb5.heap hw4) (by decide) (by decide) (by decide) (by decide)).trans (hb5.heap hw4)
     . exact hls4.at' λb' o' hb'=>(hR6.gho b' o' hb').1
     . exact(old6 b10 _ _ (hb5.heap ha4) (by decide) (by decide) (by decide) (by decide)).trans (hb5.heap ha4)
   . rintro T5 w7 w6 a' p l cc b14 hF5 h10 h11 h12 h14 ⟨rfl,hgl,⟨m',hI6⟩,hw6,hl6,ha6⟩ hb7 hlo14 hz14;exact zq7q hFin hbk hty hN (by omega) (hI6.more hb7) hF5 h10 h11 h12 h14 (hb7.heap ha6) hz14 (hgl.beyond hb7) (hb7.heap hw6) (hl6.beyond hb7) (by omega) λT' w' h1 h2=>hq T' w' _ m' h1 h2
end
def ec0(mm:Int)(aL aC:Nat)(ap:Option Addr)(v:Nat->Value):Array Value:=#[.int .i64 mm,.slice ap aL aC,v 2,v 3,.bool false,v 5,v 6,v 7,v 8,v 9,v 10,v 11,v 12,v 13,v 14,v 15,v 16,v 17,v 18,v 19,v 20,v 21,v 22,v 23,v 24,v 25,v 26,v 27,v 28,v 29,v 30,v 31,v 32,v 33,v 34,v 35,v 36,v 37,v 38,v 39,v 40,v 41,v 42,v 43,v 44,v 45,v 46,v 47,v 48,v 49,v 50,v 51,v 52,v 53,v 54,v 55,v 56,v 57,v 58,v 59,v 60,v 61,v 62,v 63,v 64,v 65,v 66,v 67,v 68,v 69,v 70,v 71,v 72,v 73,v 74,v 75,v 76,v 77,v 78,v 79,v 80,v 81,v 82,v 83,v 84,v 85,v 86,v 87,v 88,v 89,v 90,v 91,v 92,v 93,v 94,v 95,v 96,v 97,v 98,v 99,v 100,v 101,v 102,v 103,v 104,v 105,v 106,v 107,v 108,v 109,v 110,v 111,v 112,v 113,v 114,v 115,v 116,v 117,v 118,v 119,v 120,v 121,v 122,v 123,v 124,v 125,v 126,v 127,v 128,v 129,v 130,v 131,v 132,v 133,v 134,v 135,v 136,v 137,v 138,v 139,v 140,v 141,v 142,v 143,v 144,v 145,v 146,v 147,v 148,v 149,v 150,v 151,v 152,v 153,v 154,v 155,v 156,v 157,v 158,v 159,v 160,v 161,v 162,v 163,v 164,v 165,v 166,v 167,v 168,v 169,v 170,v 171,v 172,v 173,v 174,v 175,v 176,v 177,v 178,v 179,v 180,v 181,v 182,v 183,v 184,v 185,v 186,v 187,v 188,v 189,v 190,v 191,v 192,v 193,v 194,v 195,v 196,v 197,v 198,v 199,v 200,v 201,v 202,v 203,v 204,v 205,v 206]
def ec1(mm:Int)(aL aC:Nat)(ap:Option Addr)(db:Nat)(v:Nat->Value):Array Value:=#[.int .i64 mm,.slice ap aL aC,v 2,v 3,.bool false,.pointer (some ⟨db,0,none⟩),.int .i64 0,v 7,v 8,v 9,v 10,v 11,v 12,v 13,v 14,v 15,v 16,v 17,v 18,v 19,v 20,v 21,v 22,v 23,v 24,v 25,v 26,v 27,v 28,v 29,v 30,v 31,v 32,v 33,v 34,v 35,v 36,v 37,v 38,v 39,v 40,v 41,v 42,v 43,v 44,v 45,v 46,v 47,v 48,v 49,v 50,v 51,v 52,v 53,v 54,v 55,v 56,v 57,v 58,v 59,v 60,v 61,v 62,v 63,v 64,v 65,v 66,v 67,v 68,v 69,v 70,v 71,v 72,v 73,v 74,v 75,v 76,v 77,v 78,v 79,v 80,v 81,v 82,v 83,v 84,v 85,v 86,v 87,v 88,v 89,v 90,v 91,v 92,v 93,v 94,v 95,v 96,v 97,v 98,v 99,v 100,v 101,v 102,v 103,v 104,v 105,v 106,v 107,v 108,v 109,v 110,v 111,v 112,v 113,v 114,v 115,v 116,v 117,v 118,v 119,v 120,v 121,v 122,v 123,v 124,v 125,v 126,v 127,v 128,v 129,v 130,v 131,v 132,v 133,v 134,v 135,v 136,v 137,v 138,v 139,v 140,v 141,v 142,v 143,v 144,v 145,v 146,v 147,v 148,v 149,v 150,v 151,v 152,v 153,v 154,v 155,v 156,v 157,v 158,v 159,v 160,v 161,v 162,v 163,v 164,v 165,v 166,v 167,v 168,v 169,v 170,v 171,v 172,v 173,v 174,v 175,v 176,v 177,v 178,v 179,v 180,v 181,v 182,v 183,v 184,v 185,v 186,v 187,v 188,v 189,v 190,v 191,v 192,v 193,v 194,v 195,v 196,v 197,v 198,v 199,v 200,v 201,v 202,v 203,v 204,v 205,v 206]
def ec2(mm:Int)(aL aC:Nat)(ap:Option Addr)(db rb:Nat)(v:Nat->Value):Array Value:=#[.int .i64 mm,.slice ap aL aC,v 2,v 3,.bool false,.pointer (some ⟨db,0,none⟩),.int .i64 0,.pointer (some ⟨rb,0,none⟩),v 8,v 9,v 10,v 11,v 12,v 13,v 14,v 15,v 16,v 17,v 18,v 19,v 20,v 21,v 22,v 23,v 24,v 25,v 26,v 27,v 28,v 29,v 30,v 31,v 32,v 33,v 34,v 35,v 36,v 37,v 38,v 39,v 40,v 41,v 42,v 43,v 44,v 45,v 46,v 47,v 48,v 49,v 50,v 51,v 52,v 53,v 54,v 55,v 56,v 57,v 58,v 59,v 60,v 61,v 62,v 63,v 64,v 65,v 66,v 67,v 68,v 69,v 70,v 71,v 72,v 73,v 74,v 75,v 76,v 77,v 78,v 79,v 80,v 81,v 82,v 83,v 84,v 85,v 86,v 87,v 88,v 89,v 90,v 91,v 92,v 93,v 94,v 95,v 96,v 97,v 98,v 99,v 100,v 101,v 102,v 103,v 104,v 105,v 106,v 107,v 108,v 109,v 110,v 111,v 112,v 113,v 114,v 115,v 116,v 117,v 118,v 119,v 120,v 121,v 122,v 123,v 124,v 125,v 126,v 127,v 128,v 129,v 130,v 131,v 132,v 133,v 134,v 135,v 136,v 137,v 138,v 139,v 140,v 141,v 142,v 143,v 144,v 145,v 146,v 147,v 148,v 149,v 150,v 151,v 152,v 153,v 154,v 155,v 156,v 157,v 158,v 159,v 160,v 161,v 162,v 163,v 164,v 165,v 166,v 167,v 168,v 169,v 170,v 171,v 172,v 173,v 174,v 175,v 176,v 177,v 178,v 179,v 180,v 181,v 182,v 183,v 184,v 185,v 186,v 187,v 188,v 189,v 190,v 191,v 192,v 193,v 194,v 195,v 196,v 197,v 198,v 199,v 200,v 201,v 202,v 203,v 204,v 205,v 206]
def ec3(mm:Int)(aL aC:Nat)(ap:Option Addr)(db rb kb:Nat)(v:Nat->Value):Array Value:=#[.int .i64 mm,.slice ap aL aC,v 2,v 3,.bool false,.pointer (some ⟨db,0,none⟩),.int .i64 0,.pointer (some ⟨rb,0,none⟩),.pointer (some ⟨kb,0,none⟩),v 9,v 10,v 11,v 12,v 13,v 14,v 15,v 16,v 17,v 18,v 19,v 20,v 21,v 22,v 23,v 24,v 25,v 26,v 27,v 28,v 29,v 30,v 31,v 32,v 33,v 34,v 35,v 36,v 37,v 38,v 39,v 40,v 41,v 42,v 43,v 44,v 45,v 46,v 47,v 48,v 49,v 50,v 51,v 52,v 53,v 54,v 55,v 56,v 57,v 58,v 59,v 60,v 61,v 62,v 63,v 64,v 65,v 66,v 67,v 68,v 69,v 70,v 71,v 72,v 73,v 74,v 75,v 76,v 77,v 78,v 79,v 80,v 81,v 82,v 83,v 84,v 85,v 86,v 87,v 88,v 89,v 90,v 91,v 92,v 93,v 94,v 95,v 96,v 97,v 98,v 99,v 100,v 101,v 102,v 103,v 104,v 105,v 106,v 107,v 108,v 109,v 110,v 111,v 112,v 113,v 114,v 115,v 116,v 117,v 118,v 119,v 120,v 121,v 122,v 123,v 124,v 125,v 126,v 127,v 128,v 129,v 130,v 131,v 132,v 133,v 134,v 135,v 136,v 137,v 138,v 139,v 140,v 141,v 142,v 143,v 144,v 145,v 146,v 147,v 148,v 149,v 150,v 151,v 152,v 153,v 154,v 155,v 156,v 157,v 158,v 159,v 160,v 161,v 162,v 163,v 164,v 165,v 166,v 167,v 168,v 169,v 170,v 171,v 172,v 173,v 174,v 175,v 176,v 177,v 178,v 179,v 180,v 181,v 182,v 183,v 184,v 185,v 186,v 187,v 188,v 189,v 190,v 191,v 192,v 193,v 194,v 195,v 196,v 197,v 198,v 199,v 200,v 201,v 202,v 203,v 204,v 205,v 206]
theorem ec_p2{mm:Int}{aL aC:Nat}{ap:Option Addr}{N:Nat}{T:Array Value}{w:World}(hT:T=ec0 mm aL aC ap (λi=>T.getD i undef))(hm:mm=(N:Int))(hN:N<=64):
 Code.wp Try.prog (headC (ecT 2)) (ends (λa' w'=>∃db mb,a'.tmps=ec1 mm aL aC ap db (λi=>a'.tmps.getD i undef)/\NewDom w db mb N 0 w') (λ_ _=>False)) ⟨T,[]⟩ w:=by
 obtain⟨v,hv0⟩:∃v,T=ec0 mm aL aC ap v:=⟨_,hT⟩;clear hT;subst hv0;unfold ec0;have HN:=Lib.hid (zq7t N hN w);subst hm;obtain⟨u_,hu_⟩:∃c,headC (ecT 2)=c:=⟨_,rfl⟩;have eu_:=hu_;rw[hu_];simp only[ecB,ecLp,ecT,headC,tailN,sndC,zqx,loopC,Try.f4,al_od]at eu_;subst eu_;clear hu_
 go_wp2_with (fail)
 refine Calls.mono HN.out ?_;rintro e w' ⟨db,mb,rfl,hd⟩;have HD:=Lib.hid hd;clear hd;go_wp2;exact⟨rfl,db,mb,rfl,HD.out⟩
theorem ec_p2bad{mm:Int}{aL aC:Nat}{ap:Option Addr}{T:Array Value}{w:World}(hT:T=ec0 mm aL aC ap (λi=>T.getD i undef))(hm:mm<0\/64<mm):
 Code.wp Try.prog (headC (ecT 2)) (ends (λa' w'=>a'.tmps=ec0 mm aL aC ap (λi=>a'.tmps.getD i undef)/\a'.tmps[5]?=some (Value.pointer none)/\a'.tmps[6]?=some (Value.int .i64 1)/\Beyond w w') (λ_ _=>False)) ⟨T,[]⟩ w:=by
 obtain⟨v,hv0⟩:∃v,T=ec0 mm aL aC ap v:=⟨_,hT⟩;clear hT;subst hv0;unfold ec0;have HN:=Lib.hid (enew_bad mm hm w);clear hm;obtain⟨u_,hu_⟩:∃c,headC (ecT 2)=c:=⟨_,rfl⟩;have eu_:=hu_;rw[hu_];simp only[ecB,ecLp,ecT,headC,tailN,sndC,zqx,loopC,Try.f4,al_od]at eu_;subst eu_;clear hu_
 go_wp2_with (fail)
 refine Calls.mono HN.out ?_;rintro e w' ⟨rfl,rfl⟩;go_wp2;exact⟨rfl,rfl,rfl,rfl,Beyond.refl _⟩
theorem ec_p3{mm:Int}{aL aC:Nat}{ap:Option Addr}{db:Nat}{T:Array Value}{w:World}(hT:T=ec1 mm aL aC ap db (λi=>T.getD i undef))(h1:0<=mm)(h2:mm<=64):
 Code.wp Try.prog (headC (ecT 3)) (ends (λa' w'=>a'.tmps=ec1 mm aL aC ap db (λi=>a'.tmps.getD i undef)/\Beyond w w') (λ_ _=>False)) ⟨T,[]⟩ w:=by
 obtain⟨v,hv0⟩:∃v,T=ec1 mm aL aC ap db v:=⟨_,hT⟩;clear hT;subst hv0;unfold ec1;have h1':¬mm<0:=by omega
 have h2':¬64<mm:=by omega
 clear h1 h2;obtain⟨u_,hu_⟩:∃c,headC (ecT 3)=c:=⟨_,rfl⟩;have eu_:=hu_;rw[hu_];simp only[ecB,ecLp,ecT,headC,tailN,sndC,zqx,loopC,Try.f4,al_od]at eu_;subst eu_;clear hu_;go_wp2;exact⟨rfl,rfl,Beyond.refl _⟩
theorem ec_p4{mm:Int}{aL aC:Nat}{ap:Option Addr}{N db mb:Nat}{T:Array Value}{w:World}(hT:T=ec1 mm aL aC ap db (λi=>T.getD i undef))(hm:mm=(N:Int))(hN:N<=64)(hr:w.cell? ⟨db,1,none⟩=some (.slice (some ⟨mb,0,none⟩) N N)):
 Code.wp Try.prog (headC (ecT 4)) (ends (λa' w'=>a'.tmps=ec1 mm aL aC ap db (λi=>a'.tmps.getD i undef)/\Beyond w w') (λ_ _=>False)) ⟨T,[]⟩ w:=by
 obtain⟨v,hv0⟩:∃v,T=ec1 mm aL aC ap db v:=⟨_,hT⟩;clear hT;subst hv0;unfold ec1;have HM:=Lib.hid (zq49 hr (by omega));subst hm;clear hr;obtain⟨u_,hu_⟩:∃c,headC (ecT 4)=c:=⟨_,rfl⟩;have eu_:=hu_;rw[hu_];simp only[ecB,ecLp,ecT,headC,tailN,sndC,zqx,loopC,Try.f4,al_od]at eu_;subst eu_;clear hu_
 go_wp2_with (fail)
 refine Calls.mono HM.out ?_;rintro e w' ⟨rfl,rfl⟩;clear HM;go_wp2;exact⟨rfl,rfl,Beyond.refl _⟩
theorem ec_p5{mm:Int}{aL aC:Nat}{ap:Option Addr}{N db:Nat}{T:Array Value}{w:World}(hT:T=ec1 mm aL aC ap db (λi=>T.getD i undef))(hm:mm=(N:Int))(hN:N<=64):
 Code.wp Try.prog (headC (ecT 5)) (ends (λa' w'=>∃rb gm gM,a'.tmps=ec2 mm aL aC ap db rb (λi=>a'.tmps.getD i undef)/\DmAt rb gm gM N 0 (zq1b (ep0 0) N) (memR (ep0 0) noHv N) w'/\Beyond w w'/\w.heap.size<=rb/\w.heap.size<=gm/\w.heap.size<=gM) (λ_ _=>False)) ⟨T,[]⟩ w:=by
 obtain⟨v,hv0⟩:∃v,T=ec1 mm aL aC ap db v:=⟨_,hT⟩;clear hT;subst hv0;unfold ec1;have HM:=Lib.hid (zqfz N hN w);subst hm;obtain⟨u_,hu_⟩:∃c,headC (ecT 5)=c:=⟨_,rfl⟩;have eu_:=hu_;rw[hu_];simp only[ecB,ecLp,ecT,headC,tailN,sndC,zqx,loopC,Try.f4,al_od]at eu_;subst eu_;clear hu_
 go_wp2_with (fail)
 refine Calls.mono HM.out ?_;rintro e w' ⟨rb,gm,gM,rfl,hd,hE,h1,h2,h3⟩;have HD:=Lib.hid (And.intro hd (And.intro hE (And.intro h1 (And.intro h2 h3))));clear hd hE h1 h2 h3;go_wp2;exact⟨rfl,rb,gm,gM,rfl,HD.out.1,⟨HD.out.2.1.size,HD.out.2.1.old⟩,HD.out.2.2.1,HD.out.2.2.2.1,HD.out.2.2.2.2⟩
theorem ec_p6{mm:Int}{aL aC:Nat}{ap:Option Addr}{db rb:Nat}{T:Array Value}{w:World}(hT:T=ec2 mm aL aC ap db rb (λi=>T.getD i undef)):
 Code.wp Try.prog (headC (ecT 6)) (ends (λa' w'=>∃kb,a'.tmps=ec3 mm aL aC ap db rb kb (λi=>a'.tmps.getD i undef)/\w'.heap[kb]?=some (.cells #[.int .i64 0] 42)/\Beyond w w'/\w.heap.size<=kb) (λ_ _=>False)) ⟨T,[]⟩ w:=by
 obtain⟨v,hv0⟩:∃v,T=ec2 mm aL aC ap db rb v:=⟨_,hT⟩;clear hT;subst hv0;unfold ec2;obtain⟨u_,hu_⟩:∃c,headC (ecT 6)=c:=⟨_,rfl⟩;have eu_:=hu_;rw[hu_];simp only[ecB,ecLp,ecT,headC,tailN,sndC,zqx,loopC,Try.f4,al_od]at eu_;subst eu_;clear hu_;go_wp2;exact⟨rfl,_,rfl,zqn _ _,Beyond.alloc _ _,Nat.le_refl _⟩
theorem ec_p7{mm:Int}{aL aC:Nat}{ap:Option Addr}{db rb kb:Nat}{T:Array Value}{w:World}(hT:T=ec3 mm aL aC ap db rb kb (λi=>T.getD i undef)):
 Code.wp Try.prog (headC (headC (ecT 7))) (ends (λa' w'=>EcFr mm aL aC db rb kb ap 0 a'.tmps/\Beyond w w') (λ_ _=>False)) ⟨T,[]⟩ w:=by
 obtain⟨v,hv0⟩:∃v,T=ec3 mm aL aC ap db rb kb v:=⟨_,hT⟩;clear hT;subst hv0;unfold ec3;obtain⟨u_,hu_⟩:∃c,headC (headC (ecT 7))=c:=⟨_,rfl⟩;have eu_:=hu_;rw[hu_];simp only[ecB,ecLp,ecT,headC,tailN,sndC,zqx,loopC,Try.f4,al_od]at eu_;subst eu_;clear hu_;go_wp2;exact⟨rfl,EcFr.of rfl,Beyond.refl _⟩
theorem zqdi{w:World}{db mb N:Nat}(h:w.cell? ⟨db,1,none⟩=some (.slice (some ⟨mb,0,none⟩) N N))(hN:N<=64):Calls Try.prog 21 #[.pointer (some ⟨db,0,none⟩),.int .i64 (-1)] w λe w'=>e=.returned (.slice none 0 0)/\w'=w:=by
 have hm:=zq88 (k:= -1) (zq49 h (by omega)) (by omega);clear h
 go_enter Try.func21,Try.ntmps21
 go_wp2_with (fail)
 refine Calls.mono hm ?_;rintro e w' ⟨rfl,rfl⟩;go_wp2;go_ret;exact⟨rfl,rfl⟩
end Go.Proofs
