/- YtkdlklpffdlglaaBox5: part 9 of the proof (the texts behind it, in order). -/
import Derived.Test.YtkdlklpffdlglaaV08
set_option maxHeartbeats 4000000
set_option maxRecDepth 100000
set_option linter.all false
namespace Go.Proofs
open Go Go.Conc Go.RowKit Go.Car
noncomputable def opsT(n:Nat):Code:=tailN n (Try.f35.body.getD .skip)
theorem ops0:Try.f35.body.getD .skip=.seq (headC (opsT 0)) (.seq (headC (opsT 1)) (.seq (headC (opsT 2)) (opsT 3))):=by kernel_rfl
def ans0:AnsM:=⟨λ_=>.slice none 0 0,λ_ _=>none,λ_=>[]⟩
structure OpsAt(w:World)(RP:Nat->Option Obj)(pp:Option Addr)(n N:Nat)(sp:Nat->Option Addr)(L Cp:Nat->Nat)(ops:Nat->List OpX):Prop where
 eq:N=min n 64
 le:n<=4611686018427387904
 at':0<n->∃tb to',pp=some ⟨tb,to',none⟩/\∀i,i<N->w.cell? ⟨tb,to'+i,none⟩=some (.slice (sp i) (L i) (Cp i))
 row:∀i,i<N->L i<=Cp i/\L i<=4611686018427387904/\(sp i=none->L i=0/\Cp i=0)
 len:∀i,i<N->(ops i).length=min (L i) 65536
 op:∀i,i<N->∀k op,(ops i)[k]?=some op->∃g off cur e fr,sp i=some ⟨g,off,none⟩/\RP g=some (.cells cur e fr)/\∀j,j<4->cur[off+k*4+j]?=op.cells[j]?
open Classical in
noncomputable def roOf(RP:Nat->Option Obj)(H N:Nat)(ob ib:Nat->Nat)(w1:World):Nat->Option Obj:=λb=>if RP b≠none then RP b else if b=H\/b=H+2\/∃i,i<N/\(b=ob i\/b=ib i)then w1.heap[b]? else none
theorem zq5d{RP:Nat->Option Obj}{H N:Nat}{ob ib:Nat->Nat}{w1:World}{b:Nat}{o:Obj}(h:RP b=some o):roOf RP H N ob ib w1 b=some o:=by
 unfold roOf;rw[if_pos (by rw[h];simp),h]
theorem zq4j{RP:Nat->Option Obj}{H N:Nat}{ob ib:Nat->Nat}{w1:World}{b:Nat}(h:RP b=none)(hb:b=H\/b=H+2\/∃i,i<N/\(b=ob i\/b=ib i)):roOf RP H N ob ib w1 b=w1.heap[b]?:=by
 unfold roOf;rw[if_neg (by rw[h];simp),if_pos hb]
theorem zq3l{RP:Nat->Option Obj}{H N:Nat}{ob ib:Nat->Nat}{w1:World}{b:Nat}{o:Obj}(h:roOf RP H N ob ib w1 b=some o):RP b=some o\/((b=H\/b=H+2\/∃i,i<N/\(b=ob i\/b=ib i))/\w1.heap[b]?=some o):=by
 unfold roOf at h;split at h
 . exact .inl h
 . split at h
   . rename_i h2;exact .inr ⟨h2,h⟩
   . cases h
structure OpsRes{M1 S1:Type}(C:Core M1 S1)(N:Nat)(l₀:M1)(w:World)(r:TSt (S1×(Nat->List Ans)))(ab:Nat)(v:Value)(l':M1)(am:AnsM)(w':World):Prop where
 rep:C.Rep l' w'
 st:C.st l'=r.s.1
 ans:zq2u tT ab N am w'
 ast:am.st=r.s.2
 size:w.heap.size<=w'.heap.size
 old:∀b,b<w.heap.size->¬C.foot l₀ b->w'.heap[b]?=w.heap[b]?
 foot:∀b,C.foot l' b->C.foot l₀ b\/w.heap.size<=b
 abl:w.heap.size<=ab
 ansn:∀i b,i<N->am.X i b≠none->C.foot l₀ b\/w.heap.size<=b
 anf:∀b,C.foot l' b->b≠ab/\∀i,i<N->am.X i b=none
 row:w'.ownsRow w.heap.size 3 1 v r.ord.length (r.ord.map λ(i:Nat)=>.int .i64 i)
 rowf:∀x,v.ownBlock=some x->¬C.foot l' x/\x≠ab/\∀i,i<N->am.X i x=none
theorem OpsRes.re {M1 S1:Type}{C:Core M1 S1}{N:Nat}{l₀:M1}{w w':World}{r:TSt (S1×(Nat->List Ans))}{ab:Nat}{v:Value}{l':M1}{am:AnsM}(h:OpsRes C N l₀ w r ab v l' am w')(τ:Nat->Question->Nat)(d:Nat):OpsRes C N l₀ w r ab v l' am (Go.Car.re w' τ d):=
 ⟨C.frame _ _ _ h.rep λ_ _=>rfl,h.st,⟨h.ans.hd,h.ans.row,h.ans.blk,h.ans.nab,h.ans.sep⟩,h.ast,h.size,h.old,h.foot,h.abl,h.ansn,h.anf,h.row,h.rowf⟩
section
variable {M1 S1:Type} {C:Core M1 S1} {RP:Nat->Option Obj} {l₀:M1} {wa w1:World} {N n:Nat} {pp:Option Addr} {sp:Nat->Option Addr} {L Cp:Nat->Nat} {ops:Nat->List OpX} {ob ib:Nat->Nat} {dv fv:Value}
theorem ops_rep(hR:DRes wa N dv sp L Cp N ob ib fv w1)(hb:BRep C RP ⟨l₀,λ_ _=>none⟩ wa):BRep (zq8 C (zqq tT (wa.heap.size+1) N)) (roOf RP wa.heap.size N ob ib w1) ⟨(l₀,ans0),λ_ _=>none⟩ w1:=by
 have hcl:∀b,C.foot l₀ b->b<wa.heap.size:=λb h=>C.lt _ _ _ hb.core h;have hrl:∀b o,RP b=some o->b<wa.heap.size:=λb o h=>zqr (hb.rod b o h);have hnw:∀b o,roOf RP wa.heap.size N ob ib w1 b=some o->RP b=some o\/(wa.heap.size<=b/\b≠wa.heap.size+1/\w1.heap[b]?=some o):=λb o h=>by
  rcases zq3l h with h|⟨h,h2⟩
  . exact .inl h
  . right
    rcases h with h|h|⟨i,hi,h⟩
    . exact⟨by omega,by omega,h2⟩
    . exact⟨by omega,by omega,h2⟩
    . have:=hR.lo i hi;rcases h with h|h<;>exact⟨by omega,by omega,h2⟩
 refine⟨⟨C.frame _ _ _ hb.core λb h=>hR.old b (hcl b h),⟨?_,λi hi=>AnsR.nil _ _,λi b o _ h=>(by cases h),λi _=>rfl,λi j b _ _ _ _=>rfl⟩,λb h=>?_⟩,λi b o h=>(by cases h),λb o h=>?_,λi b h=>absurd rfl h,λi j b _ h=>absurd rfl h,λb h=>?_,λi b _=>rfl⟩
 . show w1.heap[wa.heap.size+1]?=_;rw[hR.ab];congr 2;apply Array.ext_getElem?;intro i
   by_cases hi:i<N
   . simp[ans0,hi]
   . simp[ans0,hi]
 . rintro(h2|⟨i,hi,h2⟩)
   . have:=hcl b h;omega
   . exact h2 rfl
 . rcases hnw b o h with h|h
   . rw[hR.old b (hrl b o h)];exact hb.rod b o h
   . exact h.2.2
 . cases ho:roOf RP wa.heap.size N ob ib w1 b with
   |none=>exact absurd ho h
   |some o=>
    rintro(h2|h2|⟨i,hi,h2⟩)
    . rcases hnw b o ho with h3|h3
      . exact hb.rol b (by rw[h3];simp) h2
      . have:=hcl b h2;omega
    . rcases hnw b o ho with h3|h3
      . have:=hrl b o h3;omega
      . exact h3.2.1 h2
    . exact h2 rfl
theorem ops_ro{f:FuncId}{first caps:Array Value}(hR:DRes wa N (.func (.func f) first caps) sp L Cp N ob ib fv w1)(hb:BRep C RP ⟨l₀,λ_ _=>none⟩ wa)(hN:N<=64)(hlen:∀i,i<N->(ops i).length=min (L i) 65536)(hop:∀i,i<N->∀k op,(ops i)[k]?=some op->∃g off cur e fr,sp i=some ⟨g,off,none⟩/\RP g=some (.cells cur e fr)/\∀j,j<4->cur[off+k*4+j]?=op.cells[j]?){i:Nat}(hi:i<N):
 DoRo (roOf RP wa.heap.size N ob ib w1) i N (wa.heap.size+1) (ob i) wa.heap.size (ib i) (wa.heap.size+2) (sp i) (min (L i) 65536) (Cp i) (ops i) f first caps:=by
 have hno:∀b,wa.heap.size<=b->RP b=none:=λb hle=>by
  cases h:RP b with
  |none=>rfl
  |some o=>have:=zqr (hb.rod b o h);omega
 have hlo:=hR.lo i hi;refine⟨?_,?_,?_,?_,hlen i hi,Nat.min_le_right _ _,hi,hN,λk op hk=>?_⟩
 . rw[zq4j (hno _ (by omega)) (.inr (.inr ⟨i,hi,.inl rfl⟩))];exact hR.obx i hi
 . rw[zq4j (hno _ (Nat.le_refl _)) (.inl rfl)];exact hR.db
 . rw[zq4j (hno _ (by omega)) (.inr (.inr ⟨i,hi,.inr rfl⟩))];exact hR.ibx i hi
 . rw[zq4j (hno _ (by omega)) (.inr (.inl rfl))];exact hR.hb
 . obtain⟨g,off,cur,e,fr,h1,h2,h3⟩:=hop i hi k op hk;exact⟨g,off,cur,e,fr,h1,zq5d h2,h3⟩
end
def Beyond(w w':World):Prop:=w.heap.size<=w'.heap.size/\∀b,b<w.heap.size->w'.heap[b]?=w.heap[b]?
theorem Beyond.refl (w:World):Beyond w w:=⟨Nat.le_refl _,λ_ _=>rfl⟩
theorem Beyond.trans {w w' w'':World}(h:Beyond w w')(k:Beyond w' w''):Beyond w w'':=⟨Nat.le_trans h.1 k.1,λb hb=>(k.2 b (Nat.lt_of_lt_of_le hb h.1)).trans (h.2 b hb)⟩
theorem Beyond.alloc (w:World)(o:Obj):Beyond w (w.alloc o):=⟨by rw[zqg];omega,λb hb=>by rw[zqc,if_neg (by omega)]⟩
theorem Beyond.heap {w w':World}(h:Beyond w w'){b:Nat}{o:Obj}(hb:w.heap[b]?=some o):w'.heap[b]?=some o:=(h.2 b (zqr hb)).trans hb
theorem Beyond.cell {w w':World}(h:Beyond w w'){a:Addr}{v:Value}(hb:w.cell? a=some v):w'.cell? a=some v:=(zq17 (h.2 a.block (cell_lt hb))).trans hb
theorem Beyond.re (w:World)(τ:Nat->Question->Nat)(d:Nat):Beyond w (Go.Car.re w τ d):=⟨Nat.le_refl _,λ_ _=>rfl⟩
def zq3u(w:World)(v:Value)(l:List Int):Prop:=∃p C,v=.slice p l.length C/\(l≠[]->∃b o,p=some ⟨b,o,none⟩/\∀i,i<l.length->w.cell? ⟨b,o+i,none⟩=some (.int .i64 (l.getD i 0)))
def AnsAt(w:World)(v:Value)(l:List Ans):Prop:=∃p C,v=.slice p l.length C/\(l≠[]->∃b o,p=some ⟨b,o,none⟩/\∀i a,l[i]?=some a->w.cell? ⟨b,o+i*3,none⟩=some (.bool a.ok)/\w.cell? ⟨b,o+i*3+1,none⟩=some (.int .i64 a.n)/\∃lv,w.cell? ⟨b,o+i*3+2,none⟩=some lv/\zq3u w lv a.l)
end Go.Proofs
namespace Go.Car
open Go Go.Conc Go.RowKit
section
variable {P:Program}
def FinOf(P:Program)(Post:Value->World->Prop)(m:Machine)(T:Trace):Prop:=
 ∃N last o w' t',runNT P (N+1) m T=(.ended o w',t')/\runN P N m=.next last/\step P last=.ended o w'/\Conc.Good P (λv w=>Post v w/\w.os=m.world.os/\w.output=m.world.output) last o w' t'
theorem zq69(Post:Value->World->Prop):Back P (FinOf P Post):=by
 intro N m T m' T' hrun e1 e2 ⟨M,last,o,w',t',h1,h2,h3,h4⟩;rw[e1,e2]at h4;have hn:runN P N m=.next m':=by rw[<-runNT_fst P _ _ T,hrun]
 refine⟨N+M,last,o,w',t',?_,?_,h3,h4⟩
 . rw[Nat.add_assoc,runNT_add,hrun];exact h1
 . rw[runN_add,hn];exact h2
theorem j0_end{Post:Value->World->Prop}(hPost:∀v w τ d,Post v w->Post v (re w τ d)){n:Nat}{b:Frame}(hb:b.kind=.normal)(hini:P.inits.idxOf? b.fn=none){fn:Func}(hf:P.funcs[b.fn]?=some fn){t:Array Value}{todo:List Item}{w:World}{v:Value}
 (hr:(results fn t).run P w=.ok v w) (hp:Post v w):J0 P (FinOf P Post) n (G {b.at ⟨t,[]⟩ todo with mode:=.returning} []) w:=by
 intro τ d Mem B gs sl T q hM hsz hg hR;obtain⟨hL,hP⟩:=ring_end hR hM (λ_ _=>rfl);obtain⟨es,hes⟩:∃es,((results fn t).runT P w #[]).2=es:=⟨_,rfl⟩;have hT:∀τ d,(results fn t).runT P (re w τ d) #[]=(.ok v (re w τ d),es):=λτ d=>by
  obtain⟨_,_,h3⟩:=zq2q _ (zq25 _ (zq1i (P:=P) fn t)) w #[];have h4:((results fn t).runT P w #[]).1=.ok v w:=by rw[Sem.runT_eq];exact hr
  have:=h3 τ d (λj hj=>by rw[h4]at hj;simp only[resW]at hj;omega);rw[h4,hes]at this;simp only[resRe,resW,Nat.sub_self,Nat.add_zero]at this;exact this
 have hcalm:∀e∈es,calmEv true e:=λe he=>by
  rw[<-hes]at he;have:=(zq1v _ (zq1i (P:=P) fn t) w #[] e he).resolve_left (by simp);exact⟨this.1,λh=>by cases h⟩
 obtain⟨B2,hB2⟩:=zq4a es;have hP2:Past (λ_=>False) (max B B2) T:=hP.mono (Nat.le_max_left _ _);refine beside_ends (Shun:=λ_=>False) (B:=max B B2) (D:=λ_ _ _=>False) (n:=0) (λ_ _ _ h=>h.elim) hg hL hP2 ?_;rintro w₁ ⟨d₁,rfl⟩;have hw:∃τ' d',(((re w τ 0).at d).at d₁)=re w τ' d':=⟨τ,d₁,rfl⟩;obtain⟨τ',d',hw⟩:=hw;rw[hw];refine⟨rfl,v,seen P b.fn es,?_,λe he=>?_,hPost _ _ _ _ hp,rfl,rfl⟩
 . simp only[G,stepG,unwind,Frame.at,hf,hT τ' d',GStep.after,doReturn];simp[GStep.after,hb,hini]
 . have he':=mem_seen he;obtain⟨k1,k2⟩:=zq40 (hcalm e he');exact⟨λx _ h=>h.elim,k1,k2,MemAct.low_mono (Nat.le_max_right _ _) (hB2 e he')⟩
theorem j0_run{Post:Value->World->Prop}{f:FuncId}{fn:Func}{c:Code}{args:Array Value}{W:World}(hf:P.funcs[f]?=some fn)(hb:fn.body=some c)
 (h:J0 P (FinOf P Post) 1 (G (Frame.enter P f args .normal) []) W):FinOf P Post (solo (G (Frame.enter P f args .normal) []) W) #[]:=by
 have hL:Leavers P (#[]:Trace) #[G (Frame.enter P f args .normal) []] (λ_=>0):=⟨λi g hi hg=>by
  rcases i with _|i
  . omega
  . simp at hg,λj _=>rfl⟩
 have hP:Past (λ_=>False) 0 (#[]:Trace):=past_nil;have hR:=ring_begin (P:=P) (K:=KK (λ_=>none)) (Still:=zq20 (λ_=>none)) (w:=W.at W.drawn) (B:=0) (λl⟨a,v,_,hv⟩=>by cases hv) hL hP (zq61 _);have:=h W.tape W.drawn (λg=>g=0) 0 #[G (Frame.enter P f args .normal) []] none #[] (λ_=>0) rfl rfl rfl hR;rw[solo_eq_crowd];exact this
end
end Go.Car
namespace Go.Car
open Go Go.Conc Go.RowKit
section
variable {P:Program} {A:FuncId->Bool}
theorem zqal{Post:Value->World->Prop}(hPost:∀v w τ d,Post v w->Post v (re w τ d))(hP:Plain P A){c:Code}(hc:zqp P A c=true){n:Nat}{b:Frame}(hb:b.kind=.normal)(hini:P.inits.idxOf? b.fn=none){fn:Func}(hf:P.funcs[b.fn]?=some fn){t:Array Value}{w:World}
 (h:∀τ d,Code.wp P c (bodyPost P fn λe w'=>∃v,e=.returned v/\Post v w') ⟨t,[]⟩ (re w τ d)):J0 P (FinOf P Post) n (G (b.at ⟨t,[]⟩ [.code c]) []) w:=by
 have hFin:=zq69 (P:=P) Post;have hJ:=j0_JS hFin;have hC:=zq2y hFin
 let Φ:Act->World->Prop:=λa w=>∃v,(results fn a.tmps).run P w=.ok v w/\Post v w
 have hΦ:∀a w τ d,Φ a w->Φ a (re w τ d):=λa w τ d⟨v,h1,h2⟩=>⟨v,zq2o h1 τ d,hPost _ _ _ _ h2⟩;have hleave:∀(t:Array Value)(w:World)(todo:List Item),Φ ⟨t,[]⟩ w->J0 P (FinOf P Post) n (G {b.at ⟨t,[]⟩ todo with mode:=.returning} []) w:=λt w todo⟨v,h1,h2⟩=>j0_end hPost hb hini hf h1 h2;refine zq5y (Q:=λs' e a' w'=>s'=n/\(e=.normal\/e=.ret)/\a'.defers=[]/\Φ a' w') hJ hC hP hc Φ Φ hΦ hΦ (λτ d=>?_) (λt w h=>⟨rfl,.inl rfl,rfl,h⟩) (λt w h=>⟨rfl,.inr rfl,rfl,h⟩) b [] [] (by rw[hb];decide) ?_
 . refine Code.wp_mono ?_ (h τ d);intro e a w hh;cases e with
   |normal=>obtain⟨h1,v,h2,v',h3,h4⟩:=hh;cases h3;exact⟨h1,v,h2,h4⟩
   |ret=>obtain⟨h1,v,h2,v',h3,h4⟩:=hh;cases h3;exact⟨h1,v,h2,h4⟩
   |panic ch=>obtain⟨h1,v,h2,_⟩:=hh;cases h2
   |outgrown=>obtain⟨v,h2,_⟩:=hh;cases h2
   |_=>exact hh
 . rintro s' e ⟨t',ds⟩ w' ⟨rfl,he,hd,h⟩;simp only at hd;subst hd;rcases he with rfl |rfl
   . exact hJ.ctl (λw=>stepG_end) (hleave t' w' [] h)
   . exact λtodo=>hleave t' w' todo h
end
end Go.Car
namespace Go.Proofs
open Go Go.Conc Go.RowKit Go.Car Go.ChangeShapes Go.WideShapes Go.Deep
section
variable {H:Type} {enc:TypeId×Value->H} {P:Program} {w:World} {held:Bool} {sp:Nat->Bool}
end
end Go.Proofs
namespace Go.Car
open Go Go.Conc
theorem zqch{H:Type}{enc:TypeId×Value->H}{a:Assume}{C:Checked}{os:Os}{f:FuncId}{fn:Func}{s:OpenSpec}{k:(H:Type)->List (DataW H)->Bool}(hk:s.cond=some k){F:Stop.Interp}{conds:List PathCond}{apart fresh handsOn again:Bool}
 (own:ownKnob C.prog.godebug=none) (started:os.Started) (hfn:C.prog.funcs[f]?=some fn)
 (witness:∃(w:World)(tape:Tape)(i:Input),w.os=os/\(w.forCall tape i).Shaped C.prog/\i.vars=[]/\Input.okWide C.prog (w.forCall tape i) .any w.heap.size f i/\
  s.pre6 enc C.prog fn conds apart (w.forCall tape i).memory i.args/\a.holds C.prog (lone (Frame.enter C.prog f i.args .normal) [] (w.forCall tape i)))
 (runs:∀(W:World)(base:Nat)(args:Array Value)(ds gs:List (DataW H))(before:List MemPlace),
  (∀(j:Nat)t v,fn.params[j]?=some t->args[j]?=some v->Value.okWide C.prog W .any base t v)->
  DataW.Whole enc C.prog fn.params.toList s.vars apart W args.toList ds gs before->k H (ds++gs)=true->
  ∃M last o w' t',runNT C.prog (M+1) (solo (G (Frame.enter C.prog f args .normal) []) W) #[]=(.ended o w',t')/\runN C.prog M (solo (G (Frame.enter C.prog f args .normal) []) W)=.next last/\
   step C.prog last=.ended o w'/\Conc.Good C.prog (λv W'=>(s.at F).post enc C.prog fn apart fresh handsOn again W args v W') last o w' t'):
 ReturnsInLeavingWide a C os f .any (s.pre6 enc C.prog fn conds apart) ((s.at F).post enc C.prog fn apart fresh handsOn again):=by
 refine returnsInLeavingWide_of_good own started witness ?_;intro w tape i _ _ _ hok hpre _;obtain⟨_,_,_,fn',hfn',_,_,_,_,hval⟩:=hok;obtain rfl:fn'=fn:=Option.some.inj (hfn'.symm.trans hfn);obtain⟨ds,gs,before,hw,_,hkk⟩:=(OpenSpec.pre_some hk conds apart _ _).1 hpre.1;obtain⟨M,last,o,w',t',h1,h2,h3,h4⟩:=runs (w.forCall tape i) w.heap.size i.args ds gs before hval (DataW.Whole.of_heap (w':=w.forCall tape i) (by rfl) hw) hkk;exact⟨M,last,o,w',t',h1,h2,h3,h4.mono λv hp=>ChangeSpec.post_blind hp⟩
theorem zqc1{p:Pinned}{s:OpenSpec}{c:OpenClaim}(f:FuncId)(fn:Func)
 (hn:c.program=p.name) (hs:c.sum=p.sum) (hsp:c.spec=s.name)
 (hstart:c.start=.entering) (hout:c.outside=[]) (hin:c.inits=[]) (hun:c.under=none) (hi4:c.initsInPlace=[]/\c.initsUnfollowed=false/\c.initsRecurse=false/\c.initsNamed=[]/\c.initsPassed=[]) (hnb:c.noBlocks=false) (hlv:c.leaving=true) (hfo:c.followed=none) (hnar:c.narrowed=s.cond.isSome) (hstill:c.still=false)
 (hfn:p.checked.prog.funcNamed c.func=some f) (hf:p.checked.prog.funcs[f]?=some fn)
 (closed:joinedFacts p.checked.prog f fn s.bare c=true)
 (hinst:fn.isInstance p.checked.prog c.origin c.targs) (hwrap:fn.isWrapper p.checked.prog c.wrapper c.mainSum)
 (h:∀os:Os,os.Started->∀(H:Type)(enc:TypeId×Value->H),(∀a b,enc a=enc b->a=b)->∀F:Stop.Interp,
  ReturnsInLeavingWide c.assume p.checked os f .any (c.pre enc p.checked.prog fn s) ((s.at F).post enc p.checked.prog fn c.apart c.fresh c.handsOn c.again)):c.holds p s:=by
 simp only[joinedFacts,Bool.and_eq_true,beq_iff_eq,Array.all_eq_true_iff_forall_mem,List.all_eq_true,decide_eq_true_eq]at closed;obtain⟨⟨⟨⟨⟨⟨⟨⟨⟨⟨⟨⟨⟨⟨⟨⟨⟨⟨⟨⟨⟨⟨⟨⟨⟨⟨⟨⟨⟨⟨⟨a1,a2⟩,a3⟩,a4⟩,a5⟩,a6⟩,a7⟩,a8⟩,a9⟩,a10⟩,a11⟩,a12⟩,a13⟩,a14⟩,a15⟩,a16⟩,a17⟩,b17⟩,a18⟩,a19⟩,a20⟩,a21⟩,a22⟩,a23⟩,b23⟩,a24⟩,b24⟩,c24⟩,a25⟩,a26⟩,a27⟩,a28⟩:=closed;have quiet:∀os:Os,Stop.quiet p.checked.prog os:=λos k hk=>by rw[a9]at hk;cases hk
 have fits:c.startFits p.checked.prog:=by unfold OpenClaim.startFits;rw[hstart];exact a24
 have told:c.startTold p.checked.prog:=by unfold OpenClaim.startTold;rw[hstart];exact⟨hin,hun,hi4⟩
 have named:namedTie p.checked.prog c.namedList s.vars=true:=by unfold OpenClaim.namedList;rw[hfo];exact a5
 have worded:p.checked.prog.envWorded=true:=by unfold Program.envWorded;rw[a9];rfl
 have world0:∃os:Os,c.world os/\Stop.quiet p.checked.prog os:=⟨_,by unfold OpenClaim.world;rw[hout,hstart];exact WideRow.started_initial,quiet _⟩;have lists0:c.lists p.checked.prog []:=by unfold OpenClaim.lists;rw[hfo]
 refine⟨a1,hn,hs,hsp,a2,a3,fits,told,f,fn,hfn,hf,⟨a4,a19⟩,(λhb=>by rw[hnb]at hb;cases hb),named,hinst,hwrap,
  a6.trans a7.symm,⟨a8.trans a9.symm,worded,b23⟩,a10,a11,a12,a13,a14,⟨a15,a27,a28⟩,⟨a16,a20⟩,⟨a17,a21,a25,a26⟩,⟨a22,b24,c24,b17⟩,(by rw[hout,hnar];cases hsh:c.shortTexts with|none=>simp |some _=>rw[hsh]at a23;cases a23),λn hn'=>varReadable_some (a18 n hn'),
  world0,[],lists0,λos st _ H enc inj=>?_⟩
 have st':os.Started:=by unfold OpenClaim.world at st;rw[hout,hstart]at st;exact st
 rw[OpenClaim.post_not_still hstill];unfold OpenClaim.form;rw[hstart,a6];intro F;have e1:c.okInput=Input.okWide:=by unfold OpenClaim.okInput;rw[hnb]
 have e2:c.atReturn p.checked.prog=leavingAtReturn p.checked.prog:=by unfold OpenClaim.atReturn;rw[hlv]
 have e3:c.always p.checked.prog []=nothingAlways:=by unfold OpenClaim.always;rw[hfo]
 have e4:s.post enc p.checked.prog fn F c.outside c.apart c.fresh c.handsOn c.again=(s.at F).post enc p.checked.prog fn c.apart c.fresh c.handsOn c.again:=by rw[hout];rfl
 rw[e1,e2,e3];show ReturnsInOpen _ _ _ _ _ _ _ _ (s.post enc p.checked.prog fn F c.outside c.apart c.fresh c.handsOn c.again) _ _;rw[e4];exact h os st' H enc inj F a24
end Go.Car
namespace Go.Proofs.Ytkdlklpffdlglaa
open Go Go.Conc Go.RowKit Go.Car Go.ChangeShapes Go.WideShapes Go.ChangeAt
theorem own_knob:ownKnob Try.prog.godebug=none:=by kernel_rfl
theorem laid_out:laidOutB Try.prog=true:=by kernel_rfl
theorem zqdl{H:Type}{enc:TypeId×Value->H}{t:TypeId}(hr:Try.prog.readableRec t=true)(hrow:t<Try.prog.types.size){W w':World}{v:Value}{d:DataW H}{ps:List MemPlace}
 (h:DataW.Trod enc Try.prog W 0 (λ_=>true) true t v d ps) (hb:Beyond W w') (hlt:∀x∈ps,x.block<W.heap.size):DataW.Trod enc Try.prog w' 0 (λb=>decide (b<W.heap.size)) true t v d ps:=
 DataW.Trod.of_heap (w:={w' with os:=W.os,tape:=W.tape,output:=W.output}) (by rfl) (Below.trod laid_out hr hrow h ⟨rfl,rfl,rfl,hb.1,hb.2⟩ hlt)
theorem zqcb{W w':World}(hb:Beyond W w')(ho:w'.os=W.os)(hu:w'.output=W.output)(may:MemPlace->Prop):W.keptBut w' may:=by
 have h:=Below.frame (W:=W) (w':={w' with os:=W.os,tape:=W.tape,output:=W.output}) ⟨rfl,rfl,rfl,hb.1,hb.2⟩ may;exact⟨ho,hu,h.2.2⟩
end Go.Proofs.Ytkdlklpffdlglaa
namespace Go.Proofs
open Go Go.Conc Go.RowKit Go.Car
theorem zqd2{S1:Type}{i:Nat}{dop:OpX->Proc (S1×(Nat->List Ans)) Ans}{k:Nat}(h:∀op,(dop op).Deep k):∀l,(opsP i dop l).Deep k:=by
 intro l
 induction l with
 |nil=>exact Proc.Deep.ret _
 |cons op l ih=>exact(h op).bind λa=>(Proc.Deep.act _).bind λ_=>ih
section
variable {M1 S1:Type} {C:Core M1 S1} {RP:Nat->Option Obj} {l₀:M1} {w wa w1 w2:World} {N n most:Nat} {sp:Nat->Option Addr} {L Cp:Nat->Nat} {ob ib:Nat->Nat} {dv fv v:Value} {pr:Nat->Proc (S1×(Nat->List Ans)) Unit} {sched:List Int} {b:OSt (TM (M1×AnsM) (S1×(Nat->List Ans)))} {m':TM (M1×AnsM) (S1×(Nat->List Ans))} {g:Nat}
def mOps(l₀:M1)(room:Nat):TM (M1×AnsM) (S1×(Nat->List Ans)):=⟨⟨(l₀,ans0),λ_ _=>none⟩,λ_=>.ret (),room⟩
theorem ops_rep0{ro:Nat->Option Obj}{ab:Nat}{room:Nat}(h:BRep (zq8 C (zqq tT ab N)) ro ⟨(l₀,ans0),λ_ _=>none⟩ w1):(thrOf (zq8 C (zqq tT ab N)) ownA ro pr).Rep (mOps l₀ room) w1:=⟨h,λi=>trivial⟩
theorem zq4f{ro:Nat->Option Obj}{ab room x:Nat}(h:(thrOf (zq8 C (zqq tT ab N)) ownA ro pr).foot (mOps l₀ room) x):C.foot l₀ x\/x=ab\/ro x≠none:=by
 rcases h with(h|h|⟨i,hi,h⟩)|⟨i,h⟩|h
 . exact .inl h
 . exact .inr (.inl h)
 . exact absurd rfl h
 . exact absurd rfl h
 . exact .inr (.inr h)
theorem ops_res(hR:DRes wa N dv sp L Cp N ob ib fv w1)(hb:BRep C RP ⟨l₀,λ_ _=>none⟩ wa){room:Nat}
 (ho:Over1 (thrOf (zq8 C (zqq tT (wa.heap.size+1) N)) ownA (roOf RP wa.heap.size N ob ib w1) pr) N most sched (mOps l₀ room) w1 b m' v g w2):
 OpsRes C N l₀ wa (playT pr N most sched (C.st l₀,λ_=>[])) (wa.heap.size+1) v m'.bm.l.1 m'.bm.l.2 w2/\leftN b.ov N=leftN (playT pr N most sched (C.st l₀,λ_=>[])).ov N:=by
 obtain⟨hs,he⟩:=ran_T (m₀:=mOps l₀ room) rfl ho.ran;have hs0:(zq8 C (zqq tT (wa.heap.size+1) N)).st (mOps (S1:=S1) l₀ room).bm.l=(C.st l₀,λ_=>[]):=rfl;rw[hs0]at hs;have hst:(C.st m'.bm.l.1,m'.bm.l.2.st)=(playT pr N most sched (C.st l₀,λ_=>[])).s:=he.trans hs.st;have hB:=ho.rep.1;have hsz:=hR.size;have hsz2:=ho.size;have hrl:∀x o,RP x=some o->x<wa.heap.size:=λx o h=>zqr (hb.rod x o h);have hrn:∀x,roOf RP wa.heap.size N ob ib w1 x≠none->RP x≠none\/wa.heap.size<=x:=λx h=>by
  cases hx:roOf RP wa.heap.size N ob ib w1 x with
  |none=>exact absurd hx h
  |some o=>
   rcases zq3l hx with h|⟨h,_⟩
   . exact .inl (by rw[h];simp)
   . right
     rcases h with h|h|⟨i,hi,h⟩
     . omega
     . omega
     . have:=hR.lo i hi;rcases h with h|h<;>omega
 have hfn:∀x,(thrOf (zq8 C (zqq tT (wa.heap.size+1) N)) ownA (roOf RP wa.heap.size N ob ib w1) pr).foot m' x->roOf RP wa.heap.size N ob ib w1 x=none->C.foot l₀ x\/wa.heap.size<=x:=λx h hn=>by
  rcases ho.foot x h with h|h
  . rcases zq4f h with h|h|h
    . exact .inl h
    . exact .inr (by omega)
    . exact absurd hn h
  . exact .inr (by omega)
 have hcr:∀x,C.foot m'.bm.l.1 x->roOf RP wa.heap.size N ob ib w1 x=none:=λx h=>Classical.byContradiction λy=>hB.rol x y (.inl h);refine⟨⟨hB.core.1,congrArg Prod.fst hst,hB.core.2.1,congrArg Prod.snd hst,by omega,λx hx hf=>?_,λx hx=>hfn x (.inl (.inl hx)) (hcr x hx),by omega,λi x hi hx=>hfn x (.inl (.inr (.inr ⟨i,hi,hx⟩))) (Classical.byContradiction λy=>hB.rol x y (.inr (.inr ⟨i,hi,hx⟩))),λx hx=>?_,?_,λx hx=>?_⟩,?_⟩
 . by_cases hro:roOf RP wa.heap.size N ob ib w1 x=none
   . refine(ho.old x (by omega) λh=>?_).trans (hR.old x hx);rcases zq4f h with h|h|h
     . exact hf h
     . omega
     . exact h hro
   . cases hx2:roOf RP wa.heap.size N ob ib w1 x with
     |none=>exact absurd hx2 hro
     |some o=>
      rw[hB.rod x o hx2];rcases zq3l hx2 with h|⟨h,_⟩
      . exact(hb.rod x o h).symm
      . exfalso;rcases h with h|h|⟨i,hi,h⟩
        . omega
        . omega
        . have:=hR.lo i hi;rcases h with h|h<;>omega
 . have h:=hB.core.2.2 x hx;exact⟨λe=>h (.inl e),λi hi=>Classical.byContradiction λy=>h (.inr ⟨i,hi,y⟩)⟩
 . have:=ho.row;rw[hs.ord]at this;exact zq3h this (by omega)
 . have h:=(ho.rowf x hx).1;exact⟨λy=>h (.inl (.inl y)),λe=>h (.inl (.inr (.inl e))),λi hi=>Classical.byContradiction λy=>h (.inl (.inr (.inr ⟨i,hi,y⟩)))⟩
 . exact zq77 λi _=>by rw[hs.ov]
theorem OpsRes.ext {r:TSt (S1×(Nat->List Ans))}{ab:Nat}{l':M1}{am:AnsM}{w':World}(h:OpsRes C N l₀ wa r ab v l' am w2){H:Nat}(hw:w.heap.size=H)(hwa:wa.heap.size=H+1)(hoa:∀b,b<H->wa.heap[b]?=w.heap[b]?)(hl:∀b,C.foot l₀ b->b<H)(hsz:w2.heap.size<=w'.heap.size)(hold:∀x,x<w2.heap.size->x≠H->w'.heap[x]?=w2.heap[x]?):OpsRes C N l₀ w r ab v l' am w':=by
 have hs:=h.size;have hab:=h.abl;have hcn:∀b,C.foot l' b->b≠H:=λb hb e=>by
  rcases h.foot b hb with h2|h2
  . have:=hl b h2;omega
  . omega
 have han:∀i b,i<N->am.X i b≠none->b≠H:=λi b hi hb e=>by
  rcases h.ansn i b hi hb with h2|h2
  . have:=hl b h2;omega
  . omega
 refine⟨C.frame _ _ _ h.rep λb hb=>hold b (C.lt _ _ _ h.rep hb) (hcn b hb),h.st,⟨(hold ab (zqr h.ans.hd) (by omega)).trans h.ans.hd,h.ans.row,λi b o hi hb=>(hold b (zqr (h.ans.blk i b o hi hb)) (han i b hi (by rw[hb];simp))).trans (h.ans.blk i b o hi hb),h.ans.nab,h.ans.sep⟩,h.ast,by omega,λb hb hf=>(hold b (by omega) (by omega)).trans ((h.old b (by omega) hf).trans (hoa b (by omega))),λb hb=>(h.foot b hb).imp id (λx=>by omega),by omega,λi b hi hb=>(h.ansn i b hi hb).imp id (λx=>by omega),h.anf,?_,h.rowf⟩;refine zq3h (zq24 h.row λg hg=>hold g (own_lt h.row hg).2.2 ?_) (by omega);have:=(own_lt h.row hg).2.1;omega
end
theorem DRes.re {w w':World}{N n:Nat}{dv:Value}{sp:Nat->Option Addr}{L Cp:Nat->Nat}{ob ib:Nat->Nat}{fv:Value}(h:DRes w N dv sp L Cp n ob ib fv w')(τ:Nat->Question->Nat)(d:Nat):DRes w N dv sp L Cp n ob ib fv (Go.Car.re w' τ d):=h.of_heap rfl
theorem DRes.of_re {w w':World}{τ:Nat->Question->Nat}{d:Nat}{N n:Nat}{dv:Value}{sp:Nat->Option Addr}{L Cp:Nat->Nat}{ob ib:Nat->Nat}{fv:Value}(h:DRes (Go.Car.re w τ d) N dv sp L Cp n ob ib fv w'):DRes w N dv sp L Cp n ob ib fv w':=
 ⟨h.size,h.old,h.db,h.ab,h.hb,h.frow,h.obx,h.ibx,h.lo,h.inc⟩
theorem zqd4{w:World}{B N:Nat}{T:TypeId}{v:Value}{xs:List Value}(h:w.ownsRow B T 1 v N xs):∃p C,v=.slice p N C/\(v.ownBlock=p.map (·.block))/\(0<N->∃g,p=some ⟨g,0,none⟩/\v.ownBlock=some g/\∀i x,xs[i]?=some x->w.cell? ⟨g,i,none⟩=some x):=by
 rcases h.2 with⟨hv,h0⟩|⟨g,cap,cur,hv,hb,hh,h1,h2,h3,h4⟩
 . subst h0;exact⟨none,0,hv,by rw[hv];rfl,λh=>absurd h (Nat.lt_irrefl _)⟩
 . refine⟨_,cap,hv,by rw[hv];rfl,λ_=>⟨g,rfl,by rw[hv];rfl,λi x hx=>?_⟩⟩;rw[zq1 (off:=i) hh];have hi:i<xs.length:=(List.getElem?_eq_some_iff.1 hx).1;have hl:=h.1;rw[<-h4,List.getElem?_take]at hx;split at hx
   . simpa using hx
   . cases hx
theorem zqd3{Fin:Machine->Trace->Prop}(hFin:Back Try.prog Fin){n:Nat}(hn:0<n){A:FuncId->Bool}(hP:Plain Try.prog A)(hRS:RowsS Try.prog A){M1 S1:Type}{C:Core M1 S1}{RP:Nat->Option Obj}{l₀:M1}{w:World}
 {np Cn N Cs:Nat} {pp scp:Option Addr} {sp:Nat->Option Addr} {L Cp:Nat->Nat} {ops:Nat->List OpX} {sched:List Int} {mo:Int} {f:FuncId} {first caps:Array Value} {fn:Func} {cc:Code} (hf:Try.prog.funcs[f]?=some fn) (hb':fn.body=some cc) (hnm:(fn.name== "runtime.NumGoroutine")=false)
 (hb:BRep C RP ⟨l₀,λ_ _=>none⟩ w) (ho:OpsAt w RP pp np N sp L Cp ops) (hsl:sched.length<=4611686018427387904)
 (hs:sched≠[]->∃sb off,scp=some ⟨sb,off,none⟩/\¬C.foot l₀ sb/\∀j x,sched[j]?=some x->w.cell? ⟨sb,off+j,none⟩=some (.int .i64 x))
 {dop:Nat->OpX->Proc (S1×(Nat->List Ans)) Ans} (hdeep:∀i op k,(dop i op).Deep k)
 (hdo:∀(ro:Nat->Option Obj)(ab:Nat)(pr:Nat->Proc (S1×(Nat->List Ans)) Unit)(st:Nat)(cr:Frame)(rest:List Frame)(EN:List PanicEntry->Prop)(i:Nat)(o:List Ans)(op:OpX),(∀b x,RP b=some x->ro b=some x)->i<N->
  SpecR (zq2r hP hRS (zq8 C (zqq tT ab N)) ownA ro pr 130 (.pointer (some ⟨st,0,none⟩)) cr rest NEnd EN i o) f (first++#[.iface 141 (.pointer (some ⟨st,0,none⟩)),.int .i64 i,op.val]++caps) (dop i op) (AnsV 2))
 {c:Frame} {cs:List Frame}
 (hmain:∀ab v l' am w',OpsRes C N l₀ w (playT (λi=>opsP i (dop i) (ops i)) N (min mo.toNat 1048576) sched (C.st l₀,λ_=>[])) ab v l' am w'->
  J0 Try.prog Fin (n+N) (G (c.finish (.agg #[.slice (some ⟨ab,0,none⟩) N N,v,.slice none 0 0,.bool (decide (0<leftN (playT (λi=>opsP i (dop i) (ops i)) N (min mo.toNat 1048576) sched (C.st l₀,λ_=>[])).ov N))])) cs) w'):
 J0 Try.prog Fin n (G (Frame.enter Try.prog 35 #[.slice pp np Cn,.func (.func f) first caps,.slice scp sched.length Cs,.int .i64 mo] .normal) (c::cs)) w:=by
 have hJ:=j0_JS hFin;have hC:=zq2y hFin;have e:Frame.enter Try.prog 35 #[.slice pp np Cn,.func (.func f) first caps,.slice scp sched.length Cs,.int .i64 mo] .normal=(bN 35).at (zql Try.f35 #[.slice pp np Cn,.func (.func f) first caps,.slice scp sched.length Cs,.int .i64 mo]) [.code ((Try.f35.body).getD .skip)]:=by kernel_rfl
 have ea:zql Try.f35 #[.slice pp np Cn,.func (.func f) first caps,.slice scp sched.length Cs,.int .i64 mo]=⟨#[.slice pp np Cn,.func (.func f) first caps,.slice scp sched.length Cs,.int .i64 mo,undef,undef,undef,undef,undef,undef,undef,undef,undef,undef,undef,undef,undef,undef,undef,undef,undef,undef,undef,undef,undef,undef,undef,undef,undef,undef,undef,undef],[]⟩:=by kernel_rfl
 rw[e,ea,ops0];clear e ea;have hm:=Lib.hid hmain;clear hmain;obtain⟨H,hH⟩:∃H,w.heap.size=H:=⟨_,rfl⟩;refine hJ.ctl (s:=n) (λw=>stepG_seq) ?_;refine zq38 hJ hC zq5b (by kernel_rfl) (λt w'=>t=#[.slice pp np Cn,.func (.func f) first caps,.slice scp sched.length Cs,.int .i64 mo,undef,undef,undef,undef,.pointer (some ⟨H,0,none⟩),undef,undef,undef,undef,undef,undef,undef,undef,undef,undef,undef,undef,undef,undef,undef,undef,undef,undef,undef,undef,undef,undef,undef]/\∃τ d,w'=re (w.alloc (.cells #[.slice none 0 0,.slice none 0 0,.slice none 0 0,.bool false] 29)) τ d) (λt w' τ d h=>⟨h.1,by obtain⟨τ',d',rfl⟩:=h.2;exact⟨τ,d,by rw[re_re]⟩⟩) (by decide) (λτ d=>?_) ?_
 . obtain⟨u0,hu0⟩:∃c,headC (opsT 0)=c:=⟨_,rfl⟩;have eu0:=hu0;rw[hu0];simp only[opsT,headC,tailN,Try.f35,al_od]at eu0;subst eu0;clear hu0 hdo hdeep hs ho hb hf hb' hnm;go_wp2;exact⟨rfl,rfl,τ,d,rfl⟩
 rintro t w' ⟨rfl,τ,d,rfl⟩;refine hJ.re' n _ _ τ d ?_;have hwa:(w.alloc (.cells #[.slice none 0 0,.slice none 0 0,.slice none 0 0,.bool false] 29)).heap.size=H+1:=by rw[zqg,hH]
 have hob:∀b,b<H->(w.alloc (.cells #[.slice none 0 0,.slice none 0 0,.slice none 0 0,.bool false] 29)).heap[b]?=w.heap[b]?:=λb hb=>by rw[zqc,if_neg (by omega)]
 have hzb:(w.alloc (.cells #[.slice none 0 0,.slice none 0 0,.slice none 0 0,.bool false] 29)).heap[H]?=some (.cells #[.slice none 0 0,.slice none 0 0,.slice none 0 0,.bool false] 29):=hH▸zq13 w _;obtain⟨wa,hwae⟩:∃wa,w.alloc (.cells #[.slice none 0 0,.slice none 0 0,.slice none 0 0,.bool false] 29)=wa:=⟨_,rfl⟩;rw[hwae]at hwa hob hzb |-;clear hwae;have hlw:∀b,C.foot l₀ b->b<H:=λb h=>by rw[<-hH];exact C.lt _ _ _ hb.core h
 have hba:BRep C RP ⟨l₀,λ_ _=>none⟩ wa:=hb.frame λb h=>hob b (by rw[<-hH];exact hb.lt h);have hat:0<np->∃tb to',pp=some ⟨tb,to',none⟩/\∀i,i<N->wa.cell? ⟨tb,to'+i,none⟩=some (.slice (sp i) (L i) (Cp i)):=λh0=>by
  obtain⟨tb,to',e,h1⟩:=ho.at' h0;exact⟨tb,to',e,λi hi=>(zq17 (hob tb (by rw[<-hH];exact cell_lt (h1 i hi)))).trans (h1 i hi)⟩
 have hs2:sched≠[]->∃sb off,scp=some ⟨sb,off,none⟩/\¬C.foot l₀ sb/\sb<H/\∀j x,sched[j]?=some x->wa.cell? ⟨sb,off+j,none⟩=some (.int .i64 x):=λh0=>by
  obtain⟨sb,off,e,h1',h2⟩:=hs h0;obtain⟨x,l,hsl⟩:=List.exists_cons_of_ne_nil h0;have hlt:sb<H:=by rw[<-hH];exact cell_lt (h2 0 x (by rw[hsl];rfl))
  exact⟨sb,off,e,h1',hlt,λj x hj=>(zq17 (hob sb hlt)).trans (h2 j x hj)⟩
 have hNe:=ho.eq;have hN64:N<=64:=by omega
 have hnp:=ho.le;have hrow:=ho.row;have hlen:=ho.len;have hop:=ho.op;clear ho hs hb;refine hJ.ctl (s:=n) (λw=>stepG_seq) ?_;refine zq38 hJ hC zq5b (by kernel_rfl) (λt w'=>∃ob ib fv,t=#[.slice pp np Cn,.func (.func f) first caps,.slice scp sched.length Cs,.int .i64 mo,undef,undef,undef,undef,.pointer (some ⟨H,0,none⟩),fv,.slice (some ⟨H+1+1,0,none⟩) N N,undef,undef,undef,.tuple #[fv,.slice (some ⟨H+1+1,0,none⟩) N N],.slice pp np Cn,.func (.func f) first caps,.tuple #[fv,.slice (some ⟨H+1+1,0,none⟩) N N],fv,.slice (some ⟨H+1+1,0,none⟩) N N,undef,undef,undef,undef,undef,undef,undef,undef,undef,undef,undef,undef]/\DRes wa N (.func (.func f) first caps) sp L Cp N ob ib fv w') (λt w' τ d h=>?_) (by decide) (λτ d=>?_) ?_
 . obtain⟨ob,ib,fv,h1,h2⟩:=h;exact⟨ob,ib,fv,h1,h2.re τ d⟩
 . obtain⟨u0,hu0⟩:∃c,headC (opsT 1)=c:=⟨_,rfl⟩;have eu0:=hu0;rw[hu0];simp only[opsT,headC,tailN,Try.f35,al_od]at eu0;subst eu0;clear hu0;have HM:=Lib.hid (zqbf (pp:=pp) (n:=np) (Cn:=Cn) (dv:=.func (.func f) first caps) (sp:=sp) (L:=L) (Cp:=Cp) ⟨_,_,_,rfl⟩ (re wa τ d) hnp (λi hi=>hrow i (by rw[hNe];exact hi)) (λh0=>by
    obtain⟨tb,to',e,h1⟩:=hat h0;exact⟨tb,to',e,λi hi=>h1 i (by rw[hNe];exact hi)⟩))
   rw[<-hNe]at HM;have HH:=Lib.hid (And.intro hH hwa);clear hs2 hat hlw hba hob hzb hH hwa hNe hN64 hnp hrow hlen hop hdo hdeep hf hb' hnm hsl
   go_wp2_with (fail)
   refine Calls.mono HM.out ?_;rintro e w' ⟨ob,ib,fv,rfl,hR⟩;have hR2:=Lib.hid hR.of_re;clear hR;rw[show(re wa τ d).heap.size=H+1 from HH.out.2];go_wp2;exact⟨rfl,ob,ib,fv,rfl,hR2.out⟩
 rintro t w1 ⟨ob,ib,fv,rfl,hR⟩;obtain⟨fp,Cf,rfl,hfo,hfp⟩:=zqd4 hR.frow;refine hJ.ctl (s:=n) (λw=>stepG_seq) ?_;have hrep1:=ops_rep hR hba;obtain⟨u0,hu0⟩:∃c,headC (opsT 2)=c:=⟨_,rfl⟩;have eu0:=hu0;rw[hu0];simp only[opsT,headC,tailN,Try.f35,al_od]at eu0;subst eu0;clear hu0;refine hJ.ctl (s:=n) (λw=>stepG_region) ?_;have HR:=Lib.hid hR;have HP:=Lib.hid hrep1;have HX:=Lib.hid (And.intro hat (And.intro hs2 (And.intro hob (And.intro hzb (And.intro hwa (And.intro hlw (And.intro hba (And.intro hrow (And.intro hlen hop)))))))));have HA:=Lib.hid (And.intro hfo hfp);have HNE:=Lib.hid hNe;clear hNe;have HD:=Lib.hid (And.intro hdo (And.intro hdeep (And.intro hf (And.intro hb' hnm))));clear hR hrep1 hat hs2 hob hzb hwa hfo hfp hlw hba hrow hlen hop hdo hdeep hf hb' hnm;refine zqi (s:=n) (by decide) hJ (zqh _) true (.inl rfl) 0 3 8 rfl rfl rfl (by rfl) ?_;intro τ d;simp only[List.drop_zero,List.take_succ_cons,List.take_zero];go_wp2;simp only[zqb];refine hJ.re' n _ _ τ d ?_;refine zq1f (by decide) hJ (s:=n) rfl rfl (f:=22) (args:=#[.slice fp N Cf,.slice scp sched.length Cs,.int .i64 mo]) (λτ d=>?_) (λτ d=>?_) ?_
 . simp[go_sem,execOp,Act.eval,resolve,Deferred.ofValue,invoke,callFunc,Try.func22,Try.f22]
 . intro e he;simp[go_sem,execOp,Act.eval,resolve,Deferred.ofValue,invoke,callFunc,Try.func22,Try.f22,Sem.runT_eq]at he
 obtain⟨hat,hs2,hob,hzb,hwa,hlw,hba,hrow,hlen,hop⟩:=HX.out;obtain⟨hfo,hfp⟩:=HA.out;obtain⟨hdo,hdeep,hf,hb',hnm⟩:=HD.out;have hRo:∀i,i<N->DoRo (roOf RP wa.heap.size N ob ib w1) i N (wa.heap.size+1) (ob i) wa.heap.size (ib i) (wa.heap.size+2) (sp i) (min (L i) 65536) (Cp i) (ops i) f first caps:=λi hi=>ops_ro HR.out hba hN64 hlen hop hi
 have hfree:∀x,wa.heap.size+3<=x->w1.heap[x]?≠none->(∀i,i<N->x≠ob i/\x≠ib i)->¬(C.foot l₀ x\/x=wa.heap.size+1\/roOf RP wa.heap.size N ob ib w1 x≠none):=λx hx _ hne h=>by
  rcases h with h|h|h
  . have:=hlw x h;omega
  . omega
  . cases ho:roOf RP wa.heap.size N ob ib w1 x with
    |none=>exact h ho
    |some o=>
     rcases zq3l ho with h2|⟨h2,_⟩
     . have:=zqr (hba.rod x o h2);omega
     . rcases h2 with h2|h2|⟨i,hi,h2|h2⟩
       . omega
       . omega
       . exact(hne i hi).1 h2
       . exact(hne i hi).2 h2
 refine zqd6 hFin (T:=thrOf (zq8 C (zqq tT (wa.heap.size+1) N)) ownA (roOf RP wa.heap.size N ob ib w1) (λi=>opsP i (dop i) (ops i))) (m₀:=mOps l₀ (min mo.toNat 1048576+100)) (N:=N) (most:=min mo.toNat 1048576) (tv:=λi=>cloD wa.heap.size (ob i) (ib i)) (sched:=sched) hn (by have:=HNE.out;omega) rfl (ops_rep0 HP.out) (Nat.le_refl _) ?_ (λi hi=>?_) ?_ ?_
 . intro h0;obtain⟨g,e,hg,hc⟩:=hfp h0;refine⟨g,e,λhf=>?_,λi hi=>hc i _ (by simp[clsD,hi])⟩;obtain⟨⟨cc,hcc⟩,hlo,hlt⟩:=own_lt HR.out.frow hg;refine hfree g hlo (by rw[hcc];simp) (λi hi=>⟨λe=>?_,λe=>?_⟩) (zq4f hf)
   . exact zq3b hcc (HR.out.obx i hi) (by decide) e
   . exact zq3b hcc (HR.out.ibx i hi) (by decide) e
 . refine thr_runs hP hRS (fn:=Try.f84) (c:=(Try.f84.body).getD .skip) Try.func84 rfl rfl (λk=>zqd2 (λop=>hdeep i op k) _) (λst cr rest EN s m w hA hown=>?_);exact zqbe hP hRS hf hb' hnm (hRo i hi) (λo op=>hdo _ _ _ st cr rest EN i o op (λb x h=>zq5d h) hi) s m w hA hown
 . refine⟨hsl,scp,Cs,rfl,λh0=>?_⟩;obtain⟨sb,off,e,h1',h2,h3⟩:=hs2 h0;refine⟨sb,off,e,λj x hj=>?_⟩;cases h1:RP sb with
   |some o=>exact .inr λm w h=>(zq17 ((h.1.rod sb o (zq5d h1)).trans (hba.rod sb o h1).symm)).trans (h3 j x hj)
   |none=>
   refine .inl ⟨(zq17 (HR.out.old sb (by omega))).trans (h3 j x hj),by have:=HR.out.size;omega,λhf=>?_⟩;rcases zq4f hf with h4|h4|h4
   . exact h1' h4
   . omega
   . cases ho:roOf RP wa.heap.size N ob ib w1 sb with
     |none=>exact h4 ho
     |some o=>
      rcases zq3l ho with h5|⟨h5,_⟩
      . rw[h1]at h5;cases h5
      . rcases h5 with h5|h5|⟨i,hi,h5⟩
        . omega
        . omega
        . have:=HR.out.lo i hi;rcases h5 with h5|h5<;>omega
 intro b m' v g capg w2 ho;obtain⟨hres,hleft⟩:=ops_res HR.out hba ho;have hvrow:=ho.row;clear ho;rw[Frame.finish_at]
 walk_nrm
 obtain⟨pv',cv',rfl,_⟩:=zq4g hvrow;clear hvrow;generalize b.ord.length=nv' at hres |-;have HO:=Lib.hid hres;rw[hleft];have hHw:=zqr hzb;clear hleft hres;obtain⟨stuck,hstuck⟩:∃x,decide (0<leftN (playT (λi=>opsP i (dop i) (ops i)) N (min mo.toNat 1048576) sched (C.st l₀,λ_=>[])).ov N)=x:=⟨_,rfl⟩;rw[hstuck];have HST:=Lib.hid hstuck;clear hstuck;refine zqi (s:=n+N) (by decide) hJ (zqh _) true (.inl rfl) 4 7 0 rfl rfl rfl (by rfl) ?_;intro τ d;simp only[List.drop_succ_cons,List.drop_zero,List.take_succ_cons,List.take_zero];go_wp2;simp only[zqb];refine hJ.re' (n+N) _ _ τ d ?_;refine hJ.ctl (s:=n+N) (λw=>stepG_region_end) ?_;have hze:w2.heap[H]?=some (.cells #[.slice none 0 0,.slice none 0 0,.slice none 0 0,.bool false] 29):=(HO.out.old H hHw (λh=>by have:=hlw H h;omega)).trans hzb;refine zq4u hJ hC zq5b (by kernel_rfl) (λv w'=>v=.agg #[.slice (some ⟨H+1+1,0,none⟩) N N,.slice pv' nv' cv',.slice none 0 0,.bool stuck]/\∃l' am,OpsRes C N l₀ w (playT (λi=>opsP i (dop i) (ops i)) N (min mo.toNat 1048576) sched (C.st l₀,λ_=>[])) (H+1+1) (.slice pv' nv' cv') l' am w') (λv w' τ d⟨h1,l',am,h2⟩=>⟨h1,l',am,h2.re τ d⟩) rfl Try.func35 (λτ d=>?_) ?_
 . obtain⟨u0,hu0⟩:∃c,opsT 3=c:=⟨_,rfl⟩;have eu0:=hu0;rw[hu0];simp only[opsT,headC,tailN,Try.f35,al_od]at eu0;subst eu0;clear hu0;have HZ:=Lib.hid (And.intro hH (And.intro hwa (And.intro hob hlw)));have b0:(re w2 τ d).heap[H]?=some (.cells #[.slice none 0 0,.slice none 0 0,.slice none 0 0,.bool false] 29):=hze;have hre:=HO.out.re τ d;clear HO;generalize re w2 τ d=w3 at b0 hre |-;have HPR:=Lib.hid hre;clear hre hfree hRo hat hs2 hob hzb hwa hlw hba hrow hlen hop hfo hfp hdo hdeep hf hb' hnm hze hHw HX HA HD HP HR hH hsl hN64 hnp hm;have r0:=(zq1 (off:=0) b0).trans rfl;have r1:=(zq1 (off:=1) b0).trans rfl;have r2:=(zq1 (off:=2) b0).trans rfl;have r3:=(zq1 (off:=3) b0).trans rfl;have z0:=zqd (off:=0) b0;have z1:=zqd (off:=1) b0;have z2:=zqd (off:=2) b0;have z3:=zqd (off:=3) b0;have B0:=Lib.hid b0;clear b0;go_wp2;clear r0 r1 r2 r3 z0 z1 z2 z3;have b1':=zqv w3 H 0 (.slice (some ⟨H+1+1,0,none⟩) N N) B0.out;have b2':=zqv _ H 1 (.slice pv' nv' cv') b1';have b3':=zqv _ H 2 (.slice none 0 0) b2';have b4':=zqv _ H 3 (.bool stuck) b3';have hext:∀x,x<w3.heap.size->x≠H->((((w3.setCell ⟨H,0,none⟩ (.slice (some ⟨H+1+1,0,none⟩) N N)).setCell ⟨H,1,none⟩ (.slice pv' nv' cv')).setCell ⟨H,2,none⟩ (.slice none 0 0)).setCell ⟨H,3,none⟩ (.bool stuck)).heap[x]?=w3.heap[x]?:=λx _ hx=>by
    rw[zqn _ _ _ _ hx,zqn _ _ _ _ hx,zqn _ _ _ _ hx,zqn _ _ _ _ hx]
   have hsz8:((((w3.setCell ⟨H,0,none⟩ (.slice (some ⟨H+1+1,0,none⟩) N N)).setCell ⟨H,1,none⟩ (.slice pv' nv' cv')).setCell ⟨H,2,none⟩ (.slice none 0 0)).setCell ⟨H,3,none⟩ (.bool stuck)).heap.size=w3.heap.size:=by simp only[zq11]
   generalize ((((w3.setCell ⟨H,0,none⟩ (.slice (some ⟨H+1+1,0,none⟩) N N)).setCell ⟨H,1,none⟩ (.slice pv' nv' cv')).setCell ⟨H,2,none⟩ (.slice none 0 0)).setCell ⟨H,3,none⟩ (.bool stuck))=w8 at b4' hext hsz8 |-;clear b1' b2' b3';have k0:=(zq1 (off:=0) b4').trans rfl;have k1:=(zq1 (off:=1) b4').trans rfl;have k2:=(zq1 (off:=2) b4').trans rfl;have k3:=(zq1 (off:=3) b4').trans rfl;have hres:=HPR.out;rw[HZ.out.2.1]at hres;refine⟨rfl,.agg #[.slice (some ⟨H+1+1,0,none⟩) N N,.slice pv' nv' cv',.slice none 0 0,.bool stuck],?_,_,rfl,rfl,_,_,hres.ext HZ.out.1 HZ.out.2.1 HZ.out.2.2.1 HZ.out.2.2.2 (by omega) hext⟩;simp only[results,Try.f35];simp[go_sem,k0,k1,k2,k3]
 . rintro v w' ⟨rfl,l',am,h⟩;have h2:=hm.out _ _ l' am w' h;rw[HST.out]at h2;exact h2
structure PlayedR{S1:Type}(N:Nat)(w:World)(r:TSt (S1×(Nat->List Ans)))(st:List Int)(ab:Nat)(ov sv:Value)(am:AnsM)(w':World):Prop where
 size:w.heap.size<=w'.heap.size
 old:∀b,b<w.heap.size->w'.heap[b]?=w.heap[b]?
 ans:zq2u tT ab N am w'
 ast:am.st=r.s.2
 abl:w.heap.size<=ab
 ansn:∀i b,i<N->am.X i b≠none->w.heap.size<=b
 orow:w'.ownsRow w.heap.size 3 1 ov r.ord.length (r.ord.map λ(i:Nat)=>.int .i64 i)
 srow:w'.ownsRow w.heap.size 2 1 sv st.length (st.map (Value.int .i64))
 rowf:∀x,ov.ownBlock=some x->x≠ab/\∀i,i<N->am.X i x=none
 srowf:∀x,sv.ownBlock=some x->x≠ab/\(∀i,i<N->am.X i x=none)/\ov.ownBlock≠some x
theorem PlayedR.re {S1:Type}{N:Nat}{w w':World}{r:TSt (S1×(Nat->List Ans))}{st:List Int}{ab:Nat}{ov sv:Value}{am:AnsM}(h:PlayedR N w r st ab ov sv am w')(τ:Nat->Question->Nat)(d:Nat):PlayedR N w r st ab ov sv am (Go.Car.re w' τ d):=
 ⟨h.size,h.old,⟨h.ans.hd,h.ans.row,h.ans.blk,h.ans.nab,h.ans.sep⟩,h.ast,h.abl,h.ansn,h.orow,h.srow,h.rowf,h.srowf⟩
theorem zqdh{M1 S1:Type}{C:Core M1 S1}{N H:Nat}{l₀ l':M1}{w wb w2 w':World}{r:TSt (S1×(Nat->List Ans))}{ab:Nat}{v sv:Value}{am:AnsM}{st:List Int}(h:OpsRes C N l₀ wb r ab v l' am w2)(hw:w.heap.size=H)(hwb:H+1<=wb.heap.size)(hob:∀b,b<H->wb.heap[b]?=w.heap[b]?)
 (hl:∀b,C.foot l₀ b->H+1<=b) (hsz:w2.heap.size<=w'.heap.size) (hold:∀x,x<w2.heap.size->x≠H->w'.heap[x]?=w2.heap[x]?) (hs:w'.ownsRow w2.heap.size 2 1 sv st.length (st.map (Value.int .i64))):PlayedR N w r st ab v sv am w':=by
 have h1:=h.size;have h2:=h.abl;have han:∀i b,i<N->am.X i b≠none->H+1<=b:=λi b hi hb=>(h.ansn i b hi hb).elim (hl b) (λx=>by omega);refine⟨by omega,λb hb=>(hold b (by omega) (by omega)).trans ((h.old b (by omega) λx=>by have:=hl b x;omega).trans (hob b (by omega))),⟨(hold ab (zqr h.ans.hd) (by omega)).trans h.ans.hd,h.ans.row,λi b o hi hb=>(hold b (zqr (h.ans.blk i b o hi hb)) (by have:=han i b hi (by rw[hb];simp);omega)).trans (h.ans.blk i b o hi hb),h.ans.nab,h.ans.sep⟩,h.ast,by omega,λi b hi hb=>by have:=han i b hi hb;omega,?_,zq3h hs (by omega),λx hx=>(h.rowf x hx).2,λx hx=>?_⟩
 . refine zq3h (zq24 h.row λg hg=>hold g (own_lt h.row hg).2.2 ?_) (by omega);have:=(own_lt h.row hg).2.1;omega
 . have h3:=(own_lt hs hx).2.1;refine⟨?_,λi hi=>?_,λe=>?_⟩
   . have:=zqr h.ans.hd;omega
   . cases ho:am.X i x with
     |none=>rfl
     |some o=>have:=zqr (h.ans.blk i x o hi ho);omega
   . have:=(own_lt h.row e).2.2;omega
def aL:List FuncId:=[13,15,36,34,81,83,65,51,47,55,57,58,10,16,33,37,38,68,40,41,42,39,43,44,69,70,66,67,85,12,17,18,19,31,32]
def aR:List FuncId:=[71,77,76,75]
def aM(f:FuncId):Bool:=aL.contains f || aR.contains f
theorem plain_rows:Plain Try.prog aM/\RowsS Try.prog aM:=by
 refine zq5c (by kernel_rfl) (λf hf=>?_) (by kernel_rfl) (by kernel_rfl);simp only[aR,List.mem_cons,List.not_mem_nil,or_false]at hf;rcases hf with rfl |rfl |rfl |rfl
 . exact⟨_,Extern.Atomic.loadT (.int .i64),Try.func71,rfl,by kernel_rfl,by kernel_rfl,by kernel_rfl,λ_=>zq9q _ _,λ_=>zq8h _ _⟩
 . exact⟨_,Extern.Atomic.storeT,Try.func77,rfl,by kernel_rfl,by kernel_rfl,by kernel_rfl,λ_=>zqiz _,λ_=>zqgi _⟩
 . exact⟨_,Extern.Atomic.update (Op.intArith .add) .i64 true,Try.func76,rfl,by kernel_rfl,by kernel_rfl,by kernel_rfl,λ_=>zqj8 _ _ _,λ_=>zqgs _ _ _⟩
 . exact⟨_,Extern.Atomic.casT (.int .i64),Try.func75,rfl,by kernel_rfl,by kernel_rfl,by kernel_rfl,λ_=>zq96 _ _,λ_=>zq87 _ _⟩
theorem zq2b:Plain Try.prog aM:=plain_rows.1
theorem rowsM:RowsS Try.prog aM:=plain_rows.2
end Go.Proofs
namespace Go.Car
open Go Go.Conc Go.RowKit
structure NumT where
 N:Nat
 ob:Nat->Nat
 len:Nat->Nat
 ty:Nat->TypeId
abbrev Nums:=Nat->Nat->Int
def upd2(g:Nums)(c j:Nat)(x:Int):Nums:=upd' g c (upd' (g c) j x)
def rowA(n:Nat)(f:Nat->Int):Array Value:=((List.range n).map λj=>Value.int .i64 (f j)).toArray
theorem zq5e{n j:Nat}{f:Nat->Int}(h:j<n):(rowA n f)[j]?=some (.int .i64 (f j)):=by
 unfold rowA;rw[al_gl,List.getElem?_map,List.getElem?_range h];rfl
theorem rowA_set{n j:Nat}{f:Nat->Int}(x:Int):(rowA n f).setIfInBounds j (.int .i64 x)=rowA n (upd' f j x):=by
 apply Array.ext_getElem?;intro k;rw[al_gs]
 by_cases hk:k<n
 . rw[zq5e hk,zq5e hk]
   by_cases e:j=k
   . subst e;rw[if_pos rfl,if_pos (by unfold rowA;simpa using hk),upd'_same]
   . rw[if_neg e,zq18 _ _ (λx=>e x.symm)]
 . have e1:∀f:Nat->Int,(rowA n f)[k]?=none:=λf=>by unfold rowA;simp[hk]
   rw[e1,e1]
   by_cases e:j=k
   . subst e;rw[if_pos rfl,if_neg (by unfold rowA;simpa using hk)]
   . rw[if_neg e]
structure NumRep(T:NumT)(g:Nums)(w:World):Prop where
 blk:∀c,c<T.N->w.heap[T.ob c]?=some (.cells (rowA (T.len c) (g c)) (T.ty c))
 inj:∀c d,c<T.N->d<T.N->T.ob c=T.ob d->c=d
def zqw(T:NumT):Core Nums Nums where
 foot _ b:=∃c,c<T.N/\b=T.ob c
 Rep:=NumRep T
 st g:=g
 frame g w w' h hs:=⟨λc hc=>(hs _ ⟨c,hc,rfl⟩).trans (h.blk c hc),h.inj⟩
 lt g w b h hb:=by
  obtain⟨c,hc,rfl⟩:=hb;exact zqr (h.blk c hc)
 pin _:=0
def onN{S2 α:Type}(f:Nums->Nums×α):Proc (Nums×S2) α:=Proc.act λs=>(((f s.1).1,s.2),(f s.1).2)
section
variable {T:NumT} {g:Nums} {w:World} {c j:Nat}
theorem NumRep.re (h:NumRep T g w)(τ:Nat->Question->Nat)(d:Nat):NumRep T g (Car.re w τ d):=⟨h.blk,h.inj⟩
theorem NumRep.cell (h:NumRep T g w)(hc:c<T.N)(hj:j<T.len c):w.cell? ⟨T.ob c,j,none⟩=some (.int .i64 (g c j)):=
 (zq1 (h.blk c hc)).trans (zq5e hj)
theorem NumRep.frozen (h:NumRep T g w)(hc:c<T.N):w.frozen? ⟨T.ob c,j,none⟩=false:=zqd (h.blk c hc)
theorem NumRep.set (h:NumRep T g w)(hc:c<T.N)(x:Int):NumRep T (upd2 g c j x) (w.setCell ⟨T.ob c,j,none⟩ (.int .i64 x)):=by
 refine⟨λd hd=>?_,h.inj⟩
 by_cases e:d=c
 . subst e;refine(zqv _ _ _ _ (h.blk d hd)).trans ?_;rw[rowA_set];unfold upd2;rw[upd'_same]
 . rw[zqn _ _ _ _ (λx=>e (h.inj d c hd hc x))];unfold upd2;rw[zq18 _ _ e];exact h.blk d hd
end
section
variable {M2 S2:Type} {D:Core M2 S2} {ro:Nat->Option Obj} {i:Nat} {T:NumT} {m:BM (Nums×M2)} {wc:World}
theorem zq1r(hB:BRep (zq8 (zqw T) D) ro m wc)(τ:Nat->Question->Nat)(d:Nat):NumRep T m.l.1 (re wc τ d):=NumRep.re hB.core.1 τ d
theorem zq59(hB:BRep (zq8 (zqw T) D) ro m wc){c j:Nat}(hc:c<T.N)(x:Int)(τ:Nat->Question->Nat)(d:Nat)(τ':Nat->Question->Nat)(d':Nat):Moved (zq8 (zqw T) D) m.l (m.box i) wc (upd2 m.l.1 c j x,m.l.2) (m.box i) (re ((re wc τ d).setCell ⟨T.ob c,j,none⟩ (.int .i64 x)) τ' d'):=by
 have hS:=zq1r hB τ d;have hf:(zqw T).foot m.l.1 (T.ob c):=⟨c,hc,rfl⟩;refine Moved.left hB ⟨?_,λb hb h1 h2=>?_,(hS.set hc x).re τ' d',λb o hb=>?_,λb hb=>.inl hb,λb hb=>.inl hb,λb hb=>?_,rfl⟩
 . show wc.heap.size<=((re wc τ d).setCell _ _).heap.size;rw[zq11];exact Nat.le_refl _
 . show((re wc τ d).setCell _ _).heap[b]?=_;rw[zqn _ _ _ _ (λe=>h1 (by subst e;exact hf))];rfl
 . show((re wc τ d).setCell _ _).heap[b]?=_;have hn:m.box i b≠none:=by rw[hb];simp
   rw[zqn _ _ _ _ (λe=>hB.apart i b hn (.inl (by subst e;exact hf)))];exact hB.box i b o hb
 . exact Classical.byContradiction λx=>hB.apart i b x (.inl hb)
end
section
variable {P:Program}
end
section
variable {P:Program} {A:FuncId->Bool} {Ml S α:Type} {C:Core Ml S} {ro:Nat->Option Obj} {i:Nat}
structure LoneAt(C:Core Ml S)(ro:Nat->Option Obj)(i cf:Nat)(m₀:BM Ml)(w₀:World)(T:S×Option α×Nat)(m:BM Ml)(w:World)(r:S×Tree S α):Prop where
 rep:BRep C ro m w
 size:w₀.heap.size<=w.heap.size
 old:∀b,b<w₀.heap.size->¬BM.foot C ro m₀ b->w.heap[b]?=w₀.heap[b]?
 grow:∀b,BM.foot C ro m b->BM.foot C ro m₀ b\/w₀.heap.size<=b
 run:∃n,r.2.run r.1=(T.1,T.2.1,n)/\(∃a,T.2.1=some a)/\C.pin m.l+cf*n=C.pin m₀.l+cf*T.2.2
 others:∀j,j≠i->m.box j=m₀.box j
theorem LoneAt.done {cf:Nat}{m₀:BM Ml}{w₀:World}{T:S×Option α×Nat}{m:BM Ml}{w w':World}{r:S×Tree S α}{l':Ml}{B':Nat->Option Obj}(h:LoneAt C ro i cf m₀ w₀ T m w r)(k:Moved C m.l (m.box i) w l' B' w'):LoneAt C ro i cf m₀ w₀ T (m.put i l' B') w' r:=by
 refine⟨k.done h.rep,Nat.le_trans h.size k.size,λb hb hf=>?_,λb hb=>?_,?_,λj hj=>(BM.put_other _ _ _ hj).trans (h.others j hj)⟩
 . rw[Moved.foot_old h.rep k b (Nat.lt_of_lt_of_le hb h.size) λhf'=>(h.grow b hf').elim hf (λx=>absurd hb (Nat.not_lt_of_le x))];exact h.old b hb hf
 . exact(k.foot_grow b hb).elim (h.grow b) (λx=>.inr (Nat.le_trans h.size x))
 . obtain⟨n,h1,h2,h3⟩:=h.run;exact⟨n,h1,h2,by rw[BM.put_l,k.pin];exact h3⟩
def zq5g(hP:Plain P A){main:Bool}{Kc:Addr->Option Value}{J:Goroutine->World->Prop}(hJ:JS P main Kc (λ(_:Unit)=>J))(hC:CalmJ P main (λ(_:Unit)=>J))(C:Core Ml S)(ro:Nat->Option Obj)(i cf:Nat)(m₀:BM Ml)(w₀:World)(T:S×Option α×Nat):Alone P A C ro i α where
 main:=main
 γ:=Unit
 J _:=J
 js _:=⟨Kc,hJ⟩
 AtE _ m w r:=LoneAt C ro i cf m₀ w₀ T m w r
 Dead _ _ _:=False
 Oth _ _:=True
 oth _:=trivial
 rep h:=h.rep
 move h k _:=h.done k
 item {s m w r it t ds} Φ Ψ h hok hw:=by
  intro b k cs hb hk;refine wpI_lone (J:=λ(_:Unit)=>J) (s:=()) (A:=A) (a:=⟨t,ds⟩) (w:=w)
   (Q:=λ_ e a w'=>a.defers=ds/\∃l' B',((e=.normal/\Φ a.tmps l' B')\/(e=.ret/\Ψ a.tmps l' B'))/\LoneAt C ro i cf m₀ w₀ T (m.put i l' B') w' r) hJ hC hP hok
   (λa w'=>∃l' B',Moved C m.l (m.box i) w l' B' w'/\Φ a.tmps l' B') (λa w'=>∃l' B',Moved C m.l (m.box i) w l' B' w'/\Ψ a.tmps l' B')
   (λa w' τ d⟨l',B',h2,h3⟩=>⟨l',B',h2.re τ d,h3⟩) (λa w' τ d⟨l',B',h2,h3⟩=>⟨l',B',h2.re τ d,h3⟩) ?_ ?_ ?_ b k cs hb ?_
  . intro τ d;refine zq2h (hw (Car.re w τ d) (h.rep.re τ d) rfl) ?_;intro e a w' q;cases e with
    |normal=>obtain⟨q1,l',B',⟨q2,_⟩,q3⟩:=q;exact⟨q1,l',B',⟨q2.size,q2.old,q2.rep,q2.box,q2.growl,q2.growb,q2.apart,q2.pin⟩,q3⟩
    |ret=>obtain⟨q1,l',B',⟨q2,_⟩,q3⟩:=q;exact⟨q1,l',B',⟨q2.size,q2.old,q2.rep,q2.box,q2.growl,q2.growb,q2.apart,q2.pin⟩,q3⟩
    |_=>exact q
  . rintro t' w' ⟨l',B',h2,h3⟩;exact⟨rfl,l',B',.inl ⟨rfl,h3⟩,h.done h2⟩
  . rintro t' w' ⟨l',B',h2,h3⟩;exact⟨rfl,l',B',.inr ⟨rfl,h3⟩,h.done h2⟩
  . rintro _ e a w' ⟨h1,l',B',h2,h3⟩;have:=hk s e a w' ⟨rfl,h1,l',B',h2,h3⟩;cases e<;>exact this
 call {s m w r g fn c args} R' h hf hb hok hw:=by
  intro cl cs h1 h2;refine zq6j (J:=λ(_:Unit)=>J) (s:=()) (A:=A) (w:=w) hJ hC hP hf hb hok (R:=λv w'=>∃l' B',Moved C m.l (m.box i) w l' B' w'/\R' v l' B')
   (λv w' τ d⟨l',B',h2,h3⟩=>⟨l',B',h2.re τ d,h3⟩) ?_ cl cs ?_ ?_
  . intro τ d;refine Calls.mono (hw (Car.re w τ d) (h.rep.re τ d) rfl) ?_;intro e w' q;cases e with
    |returned v=>obtain⟨l',B',⟨q2,_⟩,q3⟩:=q;exact⟨l',B',⟨q2.size,q2.old,q2.rep,q2.box,q2.growl,q2.growb,q2.apart,q2.pin⟩,q3⟩
    |_=>exact q
  . rintro s' v w' ⟨_,l',B',k1,k2⟩;exact h1 () v w' ⟨rfl,v,l',B',rfl,k2,h.done k1⟩
  . rintro s' ch w' hf';exact hf'.elim
theorem LoneAt.count {m₀:BM Ml}{w₀:World}{T:S×Option α×Nat}{m:BM Ml}{w w':World}{l':Ml}{K:Unit->Proc S α}(h:LoneAt C ro i 1 m₀ w₀ T m w (Proc.tick.bind K (C.st m.l)))(hst:C.st l'=C.st m.l)(hpin:C.pin l'=C.pin m.l+1)(hl:∀b,C.foot l' b↔C.foot m.l b)(hrep:BRep C ro ⟨l',m.box⟩ w')(hs:w.heap.size<=w'.heap.size)(ho:∀b,b<w.heap.size->¬C.foot m.l b->w'.heap[b]?=w.heap[b]?):LoneAt C ro i 1 m₀ w₀ T ⟨l',m.box⟩ w' (K () (C.st l')):=by
 have hf:∀b,BM.foot C ro ⟨l',m.box⟩ b↔BM.foot C ro m b:=λb=>⟨λx=>x.elim (λy=>.inl ((hl b).1 y)) .inr,λx=>x.elim (λy=>.inl ((hl b).2 y)) .inr⟩;refine⟨hrep,Nat.le_trans h.size hs,λb hb hn=>?_,λb hb=>h.grow b ((hf b).1 hb),?_,h.others⟩
 . rw[ho b (Nat.lt_of_lt_of_le hb h.size) λx=>(h.grow b (.inl x)).elim hn (λy=>absurd hb (Nat.not_lt_of_le y))];exact h.old b hb hn
 obtain⟨n,h1,h2,h3⟩:=h.run;have e:(Proc.tick.bind K (C.st m.l)).2.run (Proc.tick.bind K (C.st m.l)).1=(((K ()).run (C.st m.l)).1,((K ()).run (C.st m.l)).2.1,((K ()).run (C.st m.l)).2.2+1):=rfl;rw[e]at h1;have a1:=congrArg (λx=>x.1) h1;have a2:=congrArg (λx=>x.2.1) h1;have a3:=congrArg (λx=>x.2.2) h1;simp only at a1 a2 a3;refine⟨((K ()).run (C.st m.l)).2.2,?_,h2,by show C.pin l'+_=_;omega⟩;rw[hst];show(K ()).run (C.st m.l)=_;exact Prod.ext a1 (Prod.ext a2 rfl)
end
end Go.Car
namespace Go.Proofs
open Go Go.Conc Go.RowKit Go.Car
theorem zq56(ad:Addr)(x:Int)(w:World)(h0:w.cell? ad=some (.int .i64 x)):
 Calls Try.prog 47 #[.pointer (some ad)] w λe w'=>e=.returned (.int .i64 x)/\w'=w:=by
 have hl:=run_call_load (P:=Try.prog) Try.func71 (by kernel_rfl) (by kernel_rfl) (by kernel_rfl) .i64 (by kernel_rfl) h0
 go_enter Try.func47,Try.ntmps47
 go_wp2;go_ret;exact⟨rfl,rfl⟩
theorem zqgz(ad:Addr)(x y:Int)(w:World)(h0:w.cell? ad=some (.int .i64 x))(f0:w.frozen? ad=false):
 Calls Try.prog 58 #[.pointer (some ad),.int .i64 y] w λe w'=>e=.returned (.tuple #[])/\w'=w.setCell ad (.int .i64 y):=by
 have hl:=run_call_store (P:=Try.prog) Try.func77 (by kernel_rfl) (by kernel_rfl) (by kernel_rfl) (by kernel_rfl) (k:=.i64) (y:=y) h0 f0
 go_enter Try.func58,Try.ntmps58
 go_wp2
 go_end0
 exact⟨rfl,rfl⟩
theorem add_lone(ad:Addr)(x y:Int)(w:World)(h0:w.cell? ad=some (.int .i64 x))(f0:w.frozen? ad=false):
 Calls Try.prog 57 #[.pointer (some ad),.int .i64 y] w λe w'=>e=.returned (.int .i64 (IntKind.i64.wrap (x+y)))/\w'=w.setCell ad (.int .i64 (IntKind.i64.wrap (x+y))):=by
 have hl:=run_call_add (P:=Try.prog) Try.func76 (by kernel_rfl) (by kernel_rfl) (by kernel_rfl) .i64 (by kernel_rfl) (y:=y) (s:=IntKind.i64.wrap (x+y)) h0 f0 (by rfl)
 go_enter Try.func57,Try.ntmps57
 go_wp2;go_ret;have hw:wrap64 (x+y)=IntKind.i64.wrap (x+y):=by rw[IntKind.wrap_i64];simp only[wrap64]
 rw[hw];exact⟨rfl,rfl⟩
theorem zqaw(ad:Addr)(x y:Int)(w:World)(h0:w.cell? ad=some (.int .i64 x))(f0:w.frozen? ad=false):
 Calls Try.prog 55 #[.pointer (some ad),.int .i64 x,.int .i64 y] w λe w'=>e=.returned (.bool true)/\w'=w.setCell ad (.int .i64 y):=by
 have hl:=run_call_cas_hit (P:=Try.prog) Try.func75 (by kernel_rfl) (by kernel_rfl) (by kernel_rfl) .i64 (by kernel_rfl) (y:=y) h0 f0
 go_enter Try.func55,Try.ntmps55
 go_wp2;go_ret;exact⟨rfl,rfl⟩
theorem zqax(ad:Addr)(x o y:Int)(w:World)(h0:w.cell? ad=some (.int .i64 x))(f0:w.frozen? ad=false)(hne:¬x=o):
 Calls Try.prog 55 #[.pointer (some ad),.int .i64 o,.int .i64 y] w λe w'=>e=.returned (.bool false)/\w'=w:=by
 have hl:=run_call_cas_miss (P:=Try.prog) Try.func75 (by kernel_rfl) (by kernel_rfl) (by kernel_rfl) .i64 (by kernel_rfl) (y:=y) h0 f0 hne
 go_enter Try.func55,Try.ntmps55
 go_wp2;go_ret;exact⟨rfl,rfl⟩
def getN(c j:Nat)(g:Nums):Nums×Int:=(g,g c j)
def putN(c j:Nat)(x:Int)(g:Nums):Nums×Unit:=(upd2 g c j x,())
def addN(c j:Nat)(x:Int)(g:Nums):Nums×Int:=(upd2 g c j (IntKind.i64.wrap (g c j+x)),IntKind.i64.wrap (g c j+x))
def casN(c j:Nat)(o x:Int)(g:Nums):Nums×Bool:=if g c j=o then(upd2 g c j x,true)else(g,false)
section
variable {M2 S2 β:Type} {D:Core M2 S2} {ro:Nat->Option Obj} {i:Nat} {T:NumT}
structure zq63(Y:YSys Try.prog aM (zq8 (zqw T) D) ro i β):Prop where
 load:∀c j,c<T.N->j<T.len c->SpecY Y 47 #[.pointer (some ⟨T.ob c,j,none⟩)] (onN (getN c j)) (λx=>.int .i64 x)
 store:∀c j x,c<T.N->j<T.len c->SpecY Y 58 #[.pointer (some ⟨T.ob c,j,none⟩),.int .i64 x] (onN (putN c j x)) (λ_=>.tuple #[])
 add:∀c j x,c<T.N->j<T.len c->SpecY Y 57 #[.pointer (some ⟨T.ob c,j,none⟩),.int .i64 x] (onN (addN c j x)) (λx=>.int .i64 x)
 cas:∀c j o x,c<T.N->j<T.len c->SpecY Y 55 #[.pointer (some ⟨T.ob c,j,none⟩),.int .i64 o,.int .i64 x] (onN (casN c j o x)) (λb=>.bool b)
theorem zq7o(Z:Alone Try.prog aM (zq8 (zqw T) D) ro i β){I:Nums×S2->Prop}(hI:∀g g' s,I (g,s)->I (g',s))(hO:∀g g' s,Z.Oth (g,s) (g',s)):zq63 (Z.sys I) where
 load c j hc hj:=by
  refine Z.act Try.func47 rfl (by kernel_rfl) (λs h=>h) (λs=>Z.oth s) λm wc hB=>Calls.mono (zq56 _ _ wc ((zq1r hB wc.tape wc.drawn).cell hc hj)) ?_;rintro e w' ⟨rfl,rfl⟩;exact⟨m.l,Moved.ext hB (Ext.refl _),rfl,rfl⟩
 store c j x hc hj:=by
  refine Z.act Try.func58 rfl (by kernel_rfl) (λs h=>hI _ _ _ h) (λs=>hO _ _ _) λm wc hB=>Calls.mono (zqgz _ _ x wc ((zq1r hB wc.tape wc.drawn).cell hc hj) ((zq1r hB wc.tape wc.drawn).frozen hc)) ?_;rintro e w' ⟨rfl,rfl⟩;exact⟨_,zq59 hB hc x wc.tape wc.drawn _ _,rfl,rfl⟩
 add c j x hc hj:=by
  refine Z.act Try.func57 rfl (by kernel_rfl) (λs h=>hI _ _ _ h) (λs=>hO _ _ _) λm wc hB=>Calls.mono (add_lone _ _ x wc ((zq1r hB wc.tape wc.drawn).cell hc hj) ((zq1r hB wc.tape wc.drawn).frozen hc)) ?_;rintro e w' ⟨rfl,rfl⟩;exact⟨_,zq59 hB hc _ wc.tape wc.drawn _ _,rfl,rfl⟩
 cas c j o x hc hj:=by
  refine Z.act (g:=λs=>(((casN c j o x s.1).1,s.2),(casN c j o x s.1).2)) Try.func55 rfl (by kernel_rfl) (λs h=>hI _ _ _ h) (λs=>hO _ _ _) λm wc hB=>?_;have hst:(zq8 (zqw T) D).st m.l=(m.l.1,D.st m.l.2):=rfl
  by_cases h:m.l.1 c j=o
  . have hcell:=(zq1r hB wc.tape wc.drawn).cell hc hj;rw[h]at hcell;refine Calls.mono (zqaw _ _ x wc hcell ((zq1r hB wc.tape wc.drawn).frozen hc)) ?_;rintro e w' ⟨rfl,rfl⟩;refine⟨_,zq59 hB hc x wc.tape wc.drawn _ _,?_,?_⟩
    . rw[hst];unfold casN;rw[if_pos h];rfl
    . rw[hst];unfold casN;rw[if_pos h]
  . refine Calls.mono (zqax _ _ o x wc ((zq1r hB wc.tape wc.drawn).cell hc hj) ((zq1r hB wc.tape wc.drawn).frozen hc) h) ?_;rintro e w' ⟨rfl,rfl⟩;refine⟨m.l,Moved.ext hB (Ext.refl _),?_,?_⟩
    . rw[hst];unfold casN;rw[if_neg h]
    . rw[hst];unfold casN;rw[if_neg h]
end
def getP{S2:Type}(c:Nat):Proc (Nums×S2) (Int×Bool):=(Proc.tick.bind λ_=>onN (getN c 0)).bind λx=>if x=2 then(Proc.tick.bind λ_=>onN (getN c 1)).bind λv=>Proc.ret (v,true)else Proc.ret (0,false)
def finP{S2:Type}(c:Nat)(v:Int):Proc (Nums×S2) Unit:=(Proc.tick.bind λ_=>onN (putN c 1 v)).bind λ_=>Proc.tick.bind λ_=>onN (putN c 0 2)
def setP{S2:Type}(c:Nat)(v:Int):Proc (Nums×S2) (Int×Bool):=(Proc.tick.bind λ_=>onN (casN c 0 0 1)).bind λb=>if b=true then(finP c v).bind λ_=>Proc.ret (v,true)else(getP c).bind λx=>Proc.ret (x.1,false)
abbrev pairV(x:Int×Bool):Value:=.tuple #[.int .i64 x.1,.bool x.2]
section
variable {M2 S2 β:Type} {D:Core M2 S2} {ro:Nat->Option Obj} {i:Nat} {T:NumT}
structure OnceAtoms(Y:YSys Try.prog aM (zq8 (zqw T) D) ro i β)(sv:Value):Prop where
 len:∀c,c<T.N->T.len c=3
 num:zq63 Y
 step:StepY Y 48 #[sv]
section
variable {Y:YSys Try.prog aM (zq8 (zqw T) D) ro i β} {sv:Value} (hst:OnceAtoms Y sv) {c:Nat} (hc:c<T.N)
include hst hc
theorem OnceAtoms.load {j:Nat}(hj:j<3):SpecY Y 47 #[.pointer (some ⟨T.ob c,j,none⟩)] (onN (getN c j)) (λx=>.int .i64 x):=hst.num.load c j hc (by rw[hst.len c hc];exact hj)
theorem OnceAtoms.store {j:Nat}(hj:j<3)(x:Int):SpecY Y 58 #[.pointer (some ⟨T.ob c,j,none⟩),.int .i64 x] (onN (putN c j x)) (λ_=>.tuple #[]):=hst.num.store c j x hc (by rw[hst.len c hc];exact hj)
theorem OnceAtoms.add {j:Nat}(hj:j<3)(x:Int):SpecY Y 57 #[.pointer (some ⟨T.ob c,j,none⟩),.int .i64 x] (onN (addN c j x)) (λx=>.int .i64 x):=hst.num.add c j x hc (by rw[hst.len c hc];exact hj)
theorem OnceAtoms.cas {j:Nat}(hj:j<3)(o x:Int):SpecY Y 55 #[.pointer (some ⟨T.ob c,j,none⟩),.int .i64 o,.int .i64 x] (onN (casN c j o x)) (λb=>.bool b):=hst.num.cas c j o x hc (by rw[hst.len c hc];exact hj)
end
theorem zq72(Y:YSys Try.prog aM (zq8 (zqw T) D) ro i β)(c:Nat)(K:Int×Bool->Proc (Nums×S2) β):Y.sil ((getP c).bind K):=by
 rw[getP,Proc.bind_bind,Proc.bind_bind];exact Y.sil_tick _
theorem zq4w(Y:YSys Try.prog aM (zq8 (zqw T) D) ro i β)(c:Nat)(v:Int)(K:Unit->Proc (Nums×S2) β):Y.sil ((finP c v).bind K):=by
 rw[finP,Proc.bind_bind,Proc.bind_bind];exact Y.sil_tick _
theorem zq4z(Y:YSys Try.prog aM (zq8 (zqw T) D) ro i β){sv:Value}(hst:OnceAtoms Y sv){c:Nat}(hc:c<T.N):
 SpecB Y 25 #[.pointer (some ⟨T.ob c,0,none⟩),sv] (getP c) pairV:=by
 refine SpecB.of Try.func25 rfl ?_;intro K s B w hK hA;simp only[zql,Try.ntmps25,List.size_toArray,List.length_cons,List.length_nil,Nat.reduceAdd,Nat.reduceSub,Array.replicate_succ,Array.replicate_zero,List.push_toArray,List.append_toArray,List.nil_append,List.cons_append];apply YSys.seq0 hA (by kernel_rfl)
 . intro wc hB;go_wp2;exact⟨rfl,Ext1.refl _,rfl⟩
 intro w hA;refine zqf Y.jc ?_;apply YSys.seq0 hA (by kernel_rfl)
 . intro wc hB;go_wp2;exact⟨rfl,Ext1.refl _,rfl⟩
 intro w hA;refine zqt Y.jc rfl (zq1b Y.jc ?_);show wpJ Y.J _ _ _ _ _;refine zqf Y.jc (zqs Y.jc ?_);rw[getP,Proc.bind_bind,Proc.bind_bind]at hA;apply YSys.callS 0 1 0 hA hst.step rfl rfl rfl (by rfl) rfl rfl rfl
 . intro wc hB X hX;have HX:=Lib.hid hX;clear hX;go_wp2;exact HX.out _ (Ext1.refl _)
 . intro w;simp[go_sem,execOp,Act.eval,resolve,Deferred.ofValue,invoke,callFunc,Try.func48,Try.f48]
 . intro w;simp[go_sem,execOp,Act.eval,resolve,Deferred.ofValue,invoke,callFunc,Try.func48,Try.f48]
 . intro s' ch w' h;exact⟨rfl,h⟩
 intro s w hA;refine zq12 Y.jc ?_;show wpJ Y.J _ _ _ _ _;refine zqf Y.jc ?_;refine zqf Y.jc (zqs Y.jc ?_);apply YSys.callR 0 3 1 hA (hst.load hc (j:=0) (by decide)) (λx=>by split<;>first|exact hK _|(rw[Proc.bind_bind,Proc.bind_bind];exact Y.sil_tick _)) rfl rfl rfl (by rfl) rfl rfl rfl
 . intro wc hB X hX;have HX:=Lib.hid hX;clear hX;go_wp2;exact HX.out _ (Ext1.refl _)
 . intro w;simp[go_sem,execOp,Act.eval,resolve,Deferred.ofValue,invoke,callFunc,Try.func47,Try.f47]
 . intro w;simp[go_sem,execOp,Act.eval,resolve,Deferred.ofValue,invoke,callFunc,Try.func47,Try.f47]
 . intro s' ch w' h;exact⟨rfl,h⟩
 intro s x w hA;apply YSys.ops0 4 1 hA rfl rfl (by kernel_rfl)
 . intro wc hB;go_wp2;exact⟨rfl,Ext1.refl _,rfl⟩
 intro w hA;show wpJ Y.J _ _ _ _ _
 by_cases hx:x=2
 . rw[if_pos hx]at hA;refine zqt Y.jc rfl ?_;rw[if_neg (by simp[hx])];refine zq1b Y.jc ?_;show wpJ Y.J _ _ _ _ _;refine zqf Y.jc (zqs Y.jc ?_);rw[Proc.bind_bind,Proc.bind_bind]at hA;apply YSys.callS 0 1 0 hA hst.step rfl rfl rfl (by rfl) rfl rfl rfl
   . intro wc hB X hX;have HX:=Lib.hid hX;clear hX;go_wp2;exact HX.out _ (Ext1.refl _)
   . intro w;simp[go_sem,execOp,Act.eval,resolve,Deferred.ofValue,invoke,callFunc,Try.func48,Try.f48]
   . intro w;simp[go_sem,execOp,Act.eval,resolve,Deferred.ofValue,invoke,callFunc,Try.func48,Try.f48]
   . intro s' ch w' h;exact⟨rfl,h⟩
   intro s w hA;refine zq12 Y.jc ?_;show wpJ Y.J _ _ _ _ _;refine zqf Y.jc (zqs Y.jc ?_);apply YSys.callR 0 3 2 hA (hst.load hc (j:=1) (by decide)) (λ_=>hK _) rfl rfl rfl (by rfl) rfl rfl rfl
   . intro wc hB X hX;have HX:=Lib.hid hX;clear hX;go_wp2;exact HX.out _ (Ext1.refl _)
   . intro w;simp[go_sem,execOp,Act.eval,resolve,Deferred.ofValue,invoke,callFunc,Try.func47,Try.f47]
   . intro w;simp[go_sem,execOp,Act.eval,resolve,Deferred.ofValue,invoke,callFunc,Try.func47,Try.f47]
   . intro s' ch w' h;exact⟨rfl,h⟩
   intro s x w hA;apply YSys.ops0 4 2 hA rfl rfl (by kernel_rfl)
   . intro wc hB;go_wp2;exact⟨rfl,Ext1.refl _,rfl⟩
   intro w hA;show wpJ Y.J _ _ _ _ _;refine zq16 Y.jc ?_;exact⟨rfl,.inl ⟨_,resultsC_tmp2 rfl _,_,rfl,hA⟩⟩
 . rw[if_neg hx]at hA;refine zqt Y.jc rfl ?_;rw[if_pos (by simpa using hx)];apply YSys.seq0 hA (by kernel_rfl)
   . intro wc hB;go_wp2;exact⟨rfl,Ext1.refl _,rfl⟩
   intro w hA;refine zq16 Y.jc ?_;exact⟨rfl,.inl ⟨_,resultsC_tmp2 rfl _,_,rfl,hA⟩⟩
end
section
variable {M2 S2 β:Type} {D:Core M2 S2} {ro:Nat->Option Obj} {i:Nat} {T:NumT}
theorem zq6x(Y:YSys Try.prog aM (zq8 (zqw T) D) ro i β){sv:Value}(hst:OnceAtoms Y sv){c:Nat}(hc:c<T.N)(v:Int):
 SpecB Y 56 #[.pointer (some ⟨T.ob c,0,none⟩),sv,.int .i64 v] (finP c v) (λ_=>.tuple #[]):=by
 refine SpecB.of Try.func56 rfl ?_;intro K s B w hK hA;simp only[zql,Try.ntmps56,List.size_toArray,List.length_cons,List.length_nil,Nat.reduceAdd,Nat.reduceSub,Array.replicate_succ,Array.replicate_zero,List.push_toArray,List.append_toArray,List.nil_append,List.cons_append];refine zqf Y.jc (zqs Y.jc ?_);rw[finP,Proc.bind_bind,Proc.bind_bind]at hA;apply YSys.callS 0 1 0 hA hst.step rfl rfl rfl (by rfl) rfl rfl rfl
 . intro wc hB X hX;have HX:=Lib.hid hX;clear hX;go_wp2;exact HX.out _ (Ext1.refl _)
 . intro w;simp[go_sem,execOp,Act.eval,resolve,Deferred.ofValue,invoke,callFunc,Try.func48,Try.f48]
 . intro w;simp[go_sem,execOp,Act.eval,resolve,Deferred.ofValue,invoke,callFunc,Try.func48,Try.f48]
 . intro s' ch w' h;exact⟨rfl,h⟩
 intro s w hA;refine zq12 Y.jc ?_;show wpJ Y.J _ _ _ _ _;refine zqf Y.jc (zqs Y.jc ?_);apply YSys.callR 0 4 0 hA (hst.store hc (j:=1) (by decide) v) (λ_=>by rw[Proc.bind_bind];exact Y.sil_tick _) rfl rfl rfl (by rfl) rfl rfl rfl
 . intro wc hB X hX;have HX:=Lib.hid hX;clear hX;go_wp2;exact HX.out _ (Ext1.refl _)
 . intro w;simp[go_sem,execOp,Act.eval,resolve,Deferred.ofValue,invoke,callFunc,Try.func58,Try.f58]
 . intro w;simp[go_sem,execOp,Act.eval,resolve,Deferred.ofValue,invoke,callFunc,Try.func58,Try.f58]
 . intro s' ch w' h;exact⟨rfl,h⟩
 intro s x w hA;refine zq12 Y.jc ?_;show wpJ Y.J _ _ _ _ _;refine zqf Y.jc (zqs Y.jc ?_);rw[Proc.bind_bind]at hA;apply YSys.callS 0 1 0 hA hst.step rfl rfl rfl (by rfl) rfl rfl rfl
 . intro wc hB X hX;have HX:=Lib.hid hX;clear hX;go_wp2;exact HX.out _ (Ext1.refl _)
 . intro w;simp[go_sem,execOp,Act.eval,resolve,Deferred.ofValue,invoke,callFunc,Try.func48,Try.f48]
 . intro w;simp[go_sem,execOp,Act.eval,resolve,Deferred.ofValue,invoke,callFunc,Try.func48,Try.f48]
 . intro s' ch w' h;exact⟨rfl,h⟩
 intro s w hA;refine zq12 Y.jc ?_;show wpJ Y.J _ _ _ _ _;refine zqs Y.jc ?_;apply YSys.callR 0 3 0 hA (hst.store hc (j:=0) (by decide) 2) (λ_=>hK _) rfl rfl rfl (by rfl) rfl rfl rfl
 . intro wc hB X hX;have HX:=Lib.hid hX;clear hX;go_wp2;exact HX.out _ (Ext1.refl _)
 . intro w;simp[go_sem,execOp,Act.eval,resolve,Deferred.ofValue,invoke,callFunc,Try.func58,Try.f58]
 . intro w;simp[go_sem,execOp,Act.eval,resolve,Deferred.ofValue,invoke,callFunc,Try.func58,Try.f58]
 . intro s' ch w' h;exact⟨rfl,h⟩
 intro s x w hA;refine zq12 Y.jc ?_;exact⟨rfl,.inl ⟨_,resultsC_none rfl _,(),rfl,hA⟩⟩
theorem set_spec(Y:YSys Try.prog aM (zq8 (zqw T) D) ro i β){sv:Value}(hst:OnceAtoms Y sv){c:Nat}(hc:c<T.N)(v:Int):
 SpecB Y 26 #[.pointer (some ⟨T.ob c,0,none⟩),sv,.int .i64 v] (setP c v) pairV:=by
 refine SpecB.of Try.func26 rfl ?_;intro K s B w hK hA;simp only[zql,Try.ntmps26,List.size_toArray,List.length_cons,List.length_nil,Nat.reduceAdd,Nat.reduceSub,Array.replicate_succ,Array.replicate_zero,List.push_toArray,List.append_toArray,List.nil_append,List.cons_append];apply YSys.seq0 hA (by kernel_rfl)
 . intro wc hB;go_wp2;exact⟨rfl,Ext1.refl _,rfl⟩
 intro w hA;refine zqf Y.jc ?_;apply YSys.seq0 hA (by kernel_rfl)
 . intro wc hB;go_wp2;exact⟨rfl,Ext1.refl _,rfl⟩
 intro w hA;refine zqt Y.jc rfl (zq1b Y.jc ?_);show wpJ Y.J _ _ _ _ _;refine zqf Y.jc (zqs Y.jc ?_);rw[setP,Proc.bind_bind,Proc.bind_bind]at hA;apply YSys.callS 0 1 0 hA hst.step rfl rfl rfl (by rfl) rfl rfl rfl
 . intro wc hB X hX;have HX:=Lib.hid hX;clear hX;go_wp2;exact HX.out _ (Ext1.refl _)
 . intro w;simp[go_sem,execOp,Act.eval,resolve,Deferred.ofValue,invoke,callFunc,Try.func48,Try.f48]
 . intro w;simp[go_sem,execOp,Act.eval,resolve,Deferred.ofValue,invoke,callFunc,Try.func48,Try.f48]
 . intro s' ch w' h;exact⟨rfl,h⟩
 intro s w hA;refine zq12 Y.jc ?_;show wpJ Y.J _ _ _ _ _;refine zqf Y.jc ?_;refine zqf Y.jc (zqs Y.jc ?_);apply YSys.callR 0 3 0 hA (hst.cas hc (j:=0) (by decide) 0 1) (λb=>by split<;>(rw[Proc.bind_bind];first|exact zq4w Y _ _ _|exact zq72 Y _ _)) rfl rfl rfl (by rfl) rfl rfl rfl
 . intro wc hB X hX;have HX:=Lib.hid hX;clear hX;go_wp2;exact HX.out _ (Ext1.refl _)
 . intro w;simp[go_sem,execOp,Act.eval,resolve,Deferred.ofValue,invoke,callFunc,Try.func55,Try.f55]
 . intro w;simp[go_sem,execOp,Act.eval,resolve,Deferred.ofValue,invoke,callFunc,Try.func55,Try.f55]
 . intro s' ch w' h;exact⟨rfl,h⟩
 intro s x w hA;refine zq12 Y.jc ?_;show wpJ Y.J _ _ _ _ _;cases x with
 |true=>
  rw[if_pos rfl,Proc.bind_bind]at hA;refine zqt Y.jc rfl ?_;rw[if_pos rfl];refine zqf Y.jc (zqs Y.jc ?_);apply YSys.callR 0 3 0 hA (zq6x Y hst hc v).spec (λ_=>hK _) rfl rfl rfl (by rfl) rfl rfl rfl
  . intro wc hB X hX;have HX:=Lib.hid hX;clear hX;go_wp2;exact HX.out _ (Ext1.refl _)
  . intro w;simp[go_sem,execOp,Act.eval,resolve,Deferred.ofValue,invoke,callFunc,Try.func56,Try.f56]
  . intro w;simp[go_sem,execOp,Act.eval,resolve,Deferred.ofValue,invoke,callFunc,Try.func56,Try.f56]
  . intro s' ch w' h;exact⟨rfl,h⟩
  intro s x w hA;refine zq12 Y.jc ?_;show wpJ Y.J _ _ _ _ _;apply YSys.seq0 hA (by kernel_rfl)
  . intro wc hB;go_wp2;exact⟨rfl,Ext1.refl _,rfl⟩
  intro w hA;refine zq16 Y.jc ?_;exact⟨rfl,.inl ⟨_,resultsC_tmp2 rfl _,_,rfl,hA⟩⟩
 |false=>
  rw[if_neg (by decide),Proc.bind_bind]at hA;refine zqt Y.jc rfl (zq1b Y.jc ?_);show wpJ Y.J _ _ _ _ _;refine zqf Y.jc (zqs Y.jc ?_);apply YSys.callR 0 2 4 hA (zq4z Y hst hc).spec (λ_=>hK _) rfl rfl rfl (by rfl) rfl rfl rfl
  . intro wc hB X hX;have HX:=Lib.hid hX;clear hX;go_wp2;exact HX.out _ (Ext1.refl _)
  . intro w;simp[go_sem,execOp,Act.eval,resolve,Deferred.ofValue,invoke,callFunc,Try.func25,Try.f25]
  . intro w;simp[go_sem,execOp,Act.eval,resolve,Deferred.ofValue,invoke,callFunc,Try.func25,Try.f25]
  . intro s' ch w' h;exact⟨rfl,h⟩
  intro s x w hA;apply YSys.ops0 3 4 hA rfl rfl (by kernel_rfl)
  . intro wc hB;go_wp2;exact⟨rfl,Ext1.refl _,rfl⟩
  intro w hA;show wpJ Y.J _ _ _ _ _;apply YSys.seq0 hA (by kernel_rfl)
  . intro wc hB;go_wp2;exact⟨rfl,Ext1.refl _,rfl⟩
  intro w hA;refine zq16 Y.jc ?_;exact⟨rfl,.inl ⟨_,resultsC_tmp2 rfl _,_,rfl,hA⟩⟩
end
end Go.Proofs
namespace Go.Car
open Go Go.Conc Go.RowKit
section
variable {P:Program} {A:FuncId->Bool} {Ml S β α:Type} {C:Core Ml S} {ro:Nat->Option Obj} {i:Nat} {Y:YSys P A C ro i β} {B:Nat->Option Obj}
variable {Q:Y.γ->Exit->Act->World->Prop} {s:Y.γ} {w:World} {p:Proc S β} {t:Array Value} {ds:List Deferred}
def SpecAt(Y:YSys P A C ro i β)(B:Nat->Option Obj)(f:FuncId)(args:Array Value)(p:Proc S α)(val:α->Value):Prop:=
 ∀(K:α->Proc S β)(s:Y.γ)(w:World),(∀a,Y.sil (K a))->Y.AtB B s w (p.bind K)->zq15 P Y.J f args (RetY Y K val B) s w
theorem SpecAt.of {f:FuncId}{fn:Func}{c:Code}{args:Array Value}{pp:Proc S α}{val:α->Value}(hf:P.funcs[f]?=some fn)(hb:fn.body=some c)
 (h:∀(K:α->Proc S β)(s:Y.γ)(w:World),(∀a,Y.sil (K a))->Y.AtB B s w (pp.bind K)->wpJ Y.J c (bodyC (Y.Bd fn (RetY Y K val B)) (RetY Y K val B)) s (zql fn args) w):SpecAt Y B f args pp val:=
 λK s w hK hA=>BodyY.calls ⟨fn,c,hf,hb,h K s w hK hA⟩
theorem YSys.callB {ops:Array Oper}{todo rest:List Nat}(k n q:Nat){t₁:Array Value}{o:Oper}{f:FuncId}{args:Array Value}{pp:Proc S α}{val:α->Value}{K:α->Proc S β}{d₀:Tmp}(hA:Y.AtB B s w (pp.bind K))(hspec:SpecAt Y B f args pp val)(hK:∀a,Y.sil (K a))
 (hsz:k+n+(q+1)=ops.size) (ht:todo=List.range' k (n+(q+1))) (hr:rest=List.range' (k+n+1) q) (hc:chk P (λ_=>false) true ops k n=true) (ho:ops[k+n]?=some o) (hg:o.guard=none) (hd₀:o.dst=some d₀)
 (hpre:∀wc,Y.KnB B wc->∀X:Exit->Act->World->Prop,(∀w',Ext1 wc w'->X .normal ⟨t₁,ds⟩ w')->wpList P ops X ((ops.toList.drop k).take n) ⟨t,ds⟩ wc)
 (hrun:∀w,(execOp (Act.mk t₁ ds).eval o).run P w=.ok (.enter f args) w) (hev:∀w,(execOp (Act.mk t₁ ds).eval o).events P w #[]=#[])
 (hd:∀s' ch w',Y.Dead s' ch w'->Q s' (.panic ch) ⟨t₁,ds⟩ w')
 (hk:∀s' a w',Y.AtB B s' w' (K a)->opsJ Y.J ops rest Q s' ⟨t₁.setIfInBounds d₀ (val a),ds⟩ w'):opsJ Y.J ops todo Q s ⟨t,ds⟩ w:=by
 refine Y.pre0 k n (q+1) (rest:=(k+n)::rest) hA hsz ht (by rw[hr,List.range'_succ]) hc hpre λw' hA'=>?_;refine Y.callO (hspec K s w' hK hA') ho hg hd₀ hrun hev ?_;intro s' e w'' hp;cases e with
 |returned v=>
  obtain⟨a,rfl,hA''⟩:=hp;exact hk s' a w'' hA''
 |panicked ch=>exact hd s' ch w'' hp
 |outgrown=>exact hp
end
end Go.Car
namespace Go.Proofs
open Go Go.Conc Go.RowKit Go.Car
@[go_sem] theorem eql_maker (f : Fn) (a b : Array Value) (w : World) : (binOp .eql 83 (.func f a b) .nilFunc).run Try.prog w = .ok (.bool false) w := by rfl
def makeL{S2:Type}(c:Nat)(mk:Proc (Nums×S2) (Int×Bool)):Nat->Proc (Nums×S2) (Int×Int)
 |0=>Proc.ret (0,4)
 |n+1=>(getP c).bind λx=>if x.2=true then Proc.ret (x.1,0)else
  (Proc.tick.bind λ_=>onN (casN c 0 0 1)).bind λb=>if b=true then
   (Proc.tick.bind λ_=>onN (addN c 2 1)).bind λ_=>mk.bind λv=>if v.2=true then(finP c v.1).bind λ_=>Proc.ret (v.1,0)else(Proc.tick.bind λ_=>onN (putN c 0 0)).bind λ_=>Proc.ret (0,6)
  else makeL c mk n
def triesN(t:Int):Nat:=(min (max t 1) 1024).toNat
theorem zqjb(t:Int):0<triesN t/\triesN t<=1024:=by unfold triesN;omega
abbrev errV(x:Int×Int):Value:=.tuple #[.int .i64 x.1,.int .i64 x.2]
section
variable {M2 S2 β:Type} {D:Core M2 S2} {ro:Nat->Option Obj} {i:Nat} {T:NumT}
theorem zqcl(Y:YSys Try.prog aM (zq8 (zqw T) D) ro i β)(c:Nat)(mk:Proc (Nums×S2) (Int×Bool)){K:Int×Int->Proc (Nums×S2) β}(hK:∀a,Y.sil (K a))(n:Nat):Y.sil ((makeL c mk n).bind K):=by
 cases n with
 |zero=>exact hK _
 |succ n=>rw[makeL,Proc.bind_bind];exact zq72 Y _ _
theorem zq7i(Y:YSys Try.prog aM (zq8 (zqw T) D) ro i β){sv:Value}(hst:OnceAtoms Y sv){c:Nat}(hc:c<T.N){mf:FuncId}{first caps:Array Value}{mk:Proc (Nums×S2) (Int×Bool)}{fn:Func}{cc:Code}(hf:Try.prog.funcs[mf]?=some fn)(hb':fn.body=some cc)(hnm:(fn.name== "runtime.NumGoroutine")=false){B:Nat->Option Obj}(hmk:SpecAt Y B mf (first++#[sv]++caps) mk pairV)(hms:∀K,(∀a,Y.sil (K a))->Y.sil (mk.bind K))(tries:Int):
 SpecAt Y B 27 #[.pointer (some ⟨T.ob c,0,none⟩),sv,.int .i64 tries,.func (.func mf) first caps] (makeL c mk (triesN tries)) errV:=by
 refine SpecAt.of Try.func27 rfl ?_;intro K s w hK hA;simp only[zql,Try.ntmps27,List.size_toArray,List.length_cons,List.length_nil,Nat.reduceAdd,Nat.reduceSub,Array.replicate_succ,Array.replicate_zero,List.push_toArray,List.append_toArray,List.nil_append,List.cons_append];have HKK:=Lib.hid hK;have HM:=Lib.hid (And.intro hmk hms);have HT:=Lib.hid (zqjb tries);have HF:=Lib.hid (And.intro hf (And.intro hb' hnm));clear hK hmk hms hf hb' hnm;apply YSys.seq0 hA (by kernel_rfl)
 . intro wc hB;go_wp2;exact⟨rfl,Ext1.refl _,rfl⟩
 intro w hA;refine zqf Y.jc (zq35 Y.jc ?_);apply YSys.seq0 hA (by kernel_rfl)
 . intro wc hB;go_wp2;exact⟨rfl,Ext1.refl _,rfl⟩
 intro w hA;refine zqt Y.jc rfl ?_;rw[if_neg (by decide)];apply YSys.seq0 hA (by kernel_rfl)
 . intro wc hB;go_wp2;exact⟨rfl,Ext1.refl _,rfl⟩
 intro w hA;refine zqt Y.jc rfl ?_;rw[if_neg (by decide)];refine zq1b Y.jc ?_;show wpJ Y.J _ _ _ _ _;refine zqf Y.jc ?_;apply YSys.seq0 (t':=#[.pointer (some ⟨T.ob c,0,none⟩),sv,.int .i64 tries,.func (.func mf) first caps,undef,undef,undef,undef,.int .i64 0,.int .i64 0,undef,undef,undef,undef,.bool false,.pointer (some ⟨T.ob c,0,none⟩),.bool false,.bool false,.func (.func mf) first caps,.bool false,.int .i64 tries,.int .i64 (max tries 1),.int .i64 (triesN tries:Nat),.int .i64 0,undef,undef,undef,undef,undef,undef,undef,undef,undef,undef,undef,undef,undef,undef,undef,undef,undef,undef,undef,undef,undef,undef,undef,undef,undef,undef,undef,undef,undef,undef,undef,undef,undef,undef,undef,undef,undef,undef,undef,undef,undef]) hA (by kernel_rfl)
 . intro wc hB;rcases(by omega:tries<1\/(1<=tries/\tries<=1024)\/1024<tries)with h|⟨h,h'⟩|h
   . have e:((triesN tries:Nat):Int)=1:=by unfold triesN;omega
     have e2:max tries 1=1:=by omega
     have h1:tries<=1:=by omega
     rw[e,e2];clear HT e e2;go_wp2;exact⟨rfl,Ext1.refl _,rfl⟩
   . have e:((triesN tries:Nat):Int)=tries:=by unfold triesN;omega
     have e2:max tries 1=tries:=by omega
     rw[e,e2];clear HT e e2;go_wp2;exact⟨rfl,Ext1.refl _,rfl⟩
   . have e:((triesN tries:Nat):Int)=1024:=by unfold triesN;omega
     have e2:max tries 1=tries:=by omega
     have h1:1<=tries:=by omega
     have h2:¬tries<=1024:=by omega
     rw[e,e2];clear HT e e2;go_wp2;exact⟨rfl,Ext1.refl _,rfl⟩
 intro w hA;refine zq35 Y.jc (zqaa Y.jc (λs a w n=>∃(k:Nat)(x4 x5 x6 x7 x10 x11 x12 x13 x14 x15 x16 x17 x18 x19 x20 x21 x24 x25 x26 x27 x28 x29 x30 x31 x32 x33 x34 x35 x36 x37 x38 x39 x40 x41 x42 x43 x44 x45 x46 x47 x48 x49 x50 x51 x52 x53 x54 x55 x56 x57 x58 x59 x60 x61 x62 x63 x64:Value),k+n=triesN tries/\a=⟨#[.pointer (some ⟨T.ob c,0,none⟩),sv,.int .i64 tries,.func (.func mf) first caps,x4,x5,x6,x7,.int .i64 0,.int .i64 0,x10,x11,x12,x13,x14,x15,x16,x17,x18,x19,x20,x21,.int .i64 (triesN tries:Nat),.int .i64 k,x24,x25,x26,x27,x28,x29,x30,x31,x32,x33,x34,x35,x36,x37,x38,x39,x40,x41,x42,x43,x44,x45,x46,x47,x48,x49,x50,x51,x52,x53,x54,x55,x56,x57,x58,x59,x60,x61,x62,x63,x64],[]⟩/\Y.AtB B s w ((makeL c mk n).bind K)) (triesN tries) ?_ ?_)
 . exact⟨0,_,_,_,_,_,_,_,_,_,_,_,_,_,_,_,_,_,_,_,_,_,_,_,_,_,_,_,_,_,_,_,_,_,_,_,_,_,_,_,_,_,_,_,_,_,_,_,_,_,_,_,_,_,_,_,_,_,by omega,rfl,hA⟩
 clear hA;rintro s a w n ⟨k,x4,x5,x6,x7,x10,x11,x12,x13,x14,x15,x16,x17,x18,x19,x20,x21,x24,x25,x26,x27,x28,x29,x30,x31,x32,x33,x34,x35,x36,x37,x38,x39,x40,x41,x42,x43,x44,x45,x46,x47,x48,x49,x50,x51,x52,x53,x54,x55,x56,x57,x58,x59,x60,x61,x62,x63,x64,hkn,rfl,hA⟩;have HN:=Lib.hid (And.intro hkn HT.out);clear hkn;cases n with
 |zero=>
  apply YSys.seq0 hA (by kernel_rfl)
  . intro wc hB;go_wp2;exact⟨rfl,Ext1.refl _,rfl⟩
  intro w hA;refine zqf Y.jc (zqt Y.jc rfl ?_);rw[if_neg (by have:=HN.out;simp only[decide_eq_true_eq];omega)];refine zq5z Y.jc ?_;show wpJ Y.J _ _ _ _ _;apply YSys.seq0 hA (by kernel_rfl)
  . intro wc hB;go_wp2;exact⟨rfl,Ext1.refl _,rfl⟩
  intro w hA;refine zq16 Y.jc ?_;exact⟨rfl,.inl ⟨_,resultsC_tmp2 rfl _,(0,4),rfl,hA⟩⟩
 |succ n=>
  have hk:(k:Int)<(triesN tries:Nat):=by have:=HN.out;omega
  apply YSys.seq0 hA (by kernel_rfl)
  . intro wc hB;go_wp2;exact⟨rfl,Ext1.refl _,rfl⟩
  intro w hA;refine zqf Y.jc (zqt Y.jc rfl ?_);rw[if_pos (by simpa using hk)];refine zq1b Y.jc ?_;show wpJ Y.J _ _ _ _ _;refine zqf Y.jc (zq35 Y.jc ?_);refine zqf Y.jc ?_;refine zqf Y.jc (zqs Y.jc ?_);rw[makeL,Proc.bind_bind]at hA;apply YSys.callR 0 2 5 hA (zq4z Y hst hc).spec (λx=>by split<;>first|exact HKK.out _|(rw[Proc.bind_bind,Proc.bind_bind];exact Y.sil_tick _)) rfl rfl rfl (by rfl) rfl rfl rfl
  . intro wc hB X hX;have HX:=Lib.hid hX;clear hX;go_wp2;exact HX.out _ (Ext1.refl _)
  . intro w;simp[go_sem,execOp,Act.eval,resolve,Deferred.ofValue,invoke,callFunc,Try.func25,Try.f25]
  . intro w;simp[go_sem,execOp,Act.eval,resolve,Deferred.ofValue,invoke,callFunc,Try.func25,Try.f25]
  . intro s' ch w' h;exact⟨rfl,h⟩
  intro s x w hA;apply YSys.ops0 3 5 hA rfl rfl (by kernel_rfl)
  . intro wc hB;go_wp2;exact⟨rfl,Ext1.refl _,rfl⟩
  intro w hA;show wpJ Y.J _ _ _ _ _;apply YSys.seq0 hA (by kernel_rfl)
  . intro wc hB;go_wp2;exact⟨rfl,Ext1.refl _,rfl⟩
  intro w hA
  by_cases hx:x.2=true
  . rw[if_pos hx]at hA;refine zqt Y.jc rfl ?_;rw[if_pos hx];apply YSys.seq0 hA (by kernel_rfl)
    . intro wc hB;go_wp2;exact⟨rfl,Ext1.refl _,rfl⟩
    intro w hA;refine zq16 Y.jc ?_;exact⟨rfl,.inl ⟨_,resultsC_tmp2 rfl _,(x.1,0),rfl,hA⟩⟩
  . rw[if_neg hx,Proc.bind_bind,Proc.bind_bind]at hA;refine zqt Y.jc rfl ?_;rw[if_neg hx];refine zq1b Y.jc ?_;clear hx;show wpJ Y.J _ _ _ _ _;refine zqf Y.jc (zqs Y.jc ?_);apply YSys.callS 0 1 0 hA hst.step rfl rfl rfl (by rfl) rfl rfl rfl
    . intro wc hB X hX;have HX:=Lib.hid hX;clear hX;go_wp2;exact HX.out _ (Ext1.refl _)
    . intro w;simp[go_sem,execOp,Act.eval,resolve,Deferred.ofValue,invoke,callFunc,Try.func48,Try.f48]
    . intro w;simp[go_sem,execOp,Act.eval,resolve,Deferred.ofValue,invoke,callFunc,Try.func48,Try.f48]
    . intro s' ch w' h;exact⟨rfl,h⟩
    intro s w hA;refine zq12 Y.jc ?_;show wpJ Y.J _ _ _ _ _;refine zqf Y.jc ?_;refine zqf Y.jc (zqs Y.jc ?_);apply YSys.callR 0 3 1 hA (hst.cas hc (j:=0) (by decide) 0 1) (λb=>by split<;>first|exact zqcl Y c mk HKK.out n|(rw[Proc.bind_bind,Proc.bind_bind];exact Y.sil_tick _)) rfl rfl rfl (by rfl) rfl rfl rfl
    . intro wc hB X hX;have HX:=Lib.hid hX;clear hX;go_wp2;exact HX.out _ (Ext1.refl _)
    . intro w;simp[go_sem,execOp,Act.eval,resolve,Deferred.ofValue,invoke,callFunc,Try.func55,Try.f55]
    . intro w;simp[go_sem,execOp,Act.eval,resolve,Deferred.ofValue,invoke,callFunc,Try.func55,Try.f55]
    . intro s' ch w' h;exact⟨rfl,h⟩
    intro s b w hA;apply YSys.ops0 4 1 hA rfl rfl (by kernel_rfl)
    . intro wc hB;go_wp2;exact⟨rfl,Ext1.refl _,rfl⟩
    intro w hA;show wpJ Y.J _ _ _ _ _
    by_cases hb:¬b=true
    . rw[if_neg hb]at hA;refine zqt Y.jc rfl ?_;rw[if_pos (by simpa using hb)];clear hb;refine zq5z Y.jc ?_;show wpJ Y.J _ _ _ _ _;have e1:IntKind.i64.wrap ((k:Int)+1)=((k+1:Nat):Int):=by have:=HN.out;rw[IntWalk.i64_in _ (by omega)];omega
      apply YSys.code0 hA (by kernel_rfl)
      . intro wc hB;go_wp2;exact⟨rfl,Ext1.refl _,rfl⟩
      intro w hA;exact⟨n,by omega,k+1,_,_,_,_,_,_,_,_,_,_,_,_,_,_,_,_,_,_,_,_,_,_,_,_,_,_,_,_,_,_,_,_,_,_,_,_,_,_,_,_,_,_,_,_,_,_,_,_,_,_,_,_,_,_,_,_,_,by have:=HN.out;omega,rfl,hA⟩
    . replace hb:=Classical.not_not.1 hb;rw[if_pos hb,Proc.bind_bind,Proc.bind_bind]at hA;refine zqt Y.jc rfl ?_;rw[if_neg (by simp[hb])];clear hb;refine zq1b Y.jc ?_;show wpJ Y.J _ _ _ _ _;refine zqf Y.jc (zqs Y.jc ?_);apply YSys.callS 0 1 0 hA hst.step rfl rfl rfl (by rfl) rfl rfl rfl
      . intro wc hB X hX;have HX:=Lib.hid hX;clear hX;go_wp2;exact HX.out _ (Ext1.refl _)
      . intro w;simp[go_sem,execOp,Act.eval,resolve,Deferred.ofValue,invoke,callFunc,Try.func48,Try.f48]
      . intro w;simp[go_sem,execOp,Act.eval,resolve,Deferred.ofValue,invoke,callFunc,Try.func48,Try.f48]
      . intro s' ch w' h;exact⟨rfl,h⟩
      intro s w hA;refine zq12 Y.jc ?_;show wpJ Y.J _ _ _ _ _;refine zqf Y.jc (zqs Y.jc ?_);apply YSys.callR 0 3 0 hA (hst.add hc (j:=2) (by decide) 1) (λ_=>by rw[Proc.bind_bind];exact HM.out.2 _ (λv=>by split<;>(rw[Proc.bind_bind];first|exact zq4w Y _ _ _|(rw[Proc.bind_bind];exact Y.sil_tick _)))) rfl rfl rfl (by rfl) rfl rfl rfl
      . intro wc hB X hX;have HX:=Lib.hid hX;clear hX;go_wp2;exact HX.out _ (Ext1.refl _)
      . intro w;simp[go_sem,execOp,Act.eval,resolve,Deferred.ofValue,invoke,callFunc,Try.func57,Try.f57]
      . intro w;simp[go_sem,execOp,Act.eval,resolve,Deferred.ofValue,invoke,callFunc,Try.func57,Try.f57]
      . intro s' ch w' h;exact⟨rfl,h⟩
      intro s _ w hA;refine zq12 Y.jc ?_;show wpJ Y.J _ _ _ _ _;rw[Proc.bind_bind]at hA;refine zqf Y.jc (zqs Y.jc ?_);apply YSys.callB 0 2 5 hA HM.out.1 (λv=>by split<;>(rw[Proc.bind_bind];first|exact zq4w Y _ _ _|(rw[Proc.bind_bind];exact Y.sil_tick _))) rfl rfl rfl (by rfl) rfl rfl rfl
      . intro wc hB X hX;have HX:=Lib.hid hX;clear hX;go_wp2;exact HX.out _ (Ext1.refl _)
      . intro w;have hf:=HF.out.1;have hb':=HF.out.2.1;have hnm':¬fn.name= "runtime.NumGoroutine" :=by simpa using HF.out.2.2
        simp[go_sem,execOp,Act.eval,resolve,Deferred.ofValue,invoke,callFunc,hf,hb',hnm']
      . intro w;have hf:=HF.out.1;have hb':=HF.out.2.1;have hnm':¬fn.name= "runtime.NumGoroutine" :=by simpa using HF.out.2.2
        simp[go_sem,execOp,Act.eval,resolve,Deferred.ofValue,invoke,callFunc,hf,hb',hnm']
      . intro s' ch w' h;exact⟨rfl,h⟩
      intro s v w hA;apply YSys.ops0 3 5 hA rfl rfl (by kernel_rfl)
      . intro wc hB;go_wp2;exact⟨rfl,Ext1.refl _,rfl⟩
      intro w hA;show wpJ Y.J _ _ _ _ _;refine zqf Y.jc ?_;apply YSys.seq0 hA (by kernel_rfl)
      . intro wc hB;go_wp2;exact⟨rfl,Ext1.refl _,rfl⟩
      intro w hA
      by_cases hv:v.2=true
      . rw[if_pos hv,Proc.bind_bind]at hA;refine zqt Y.jc rfl ?_;rw[if_pos hv];clear hv;refine zqf Y.jc (zqs Y.jc ?_);apply YSys.callR 0 3 0 hA (zq6x Y hst hc v.1).spec (λ_=>HKK.out _) rfl rfl rfl (by rfl) rfl rfl rfl
        . intro wc hB X hX;have HX:=Lib.hid hX;clear hX;go_wp2;exact HX.out _ (Ext1.refl _)
        . intro w;simp[go_sem,execOp,Act.eval,resolve,Deferred.ofValue,invoke,callFunc,Try.func56,Try.f56]
        . intro w;simp[go_sem,execOp,Act.eval,resolve,Deferred.ofValue,invoke,callFunc,Try.func56,Try.f56]
        . intro s' ch w' h;exact⟨rfl,h⟩
        intro s _ w hA;refine zq12 Y.jc ?_;show wpJ Y.J _ _ _ _ _;apply YSys.seq0 hA (by kernel_rfl)
        . intro wc hB;go_wp2;exact⟨rfl,Ext1.refl _,rfl⟩
        intro w hA;refine zq16 Y.jc ?_;exact⟨rfl,.inl ⟨_,resultsC_tmp2 rfl _,(v.1,0),rfl,hA⟩⟩
      . rw[if_neg hv,Proc.bind_bind,Proc.bind_bind]at hA;refine zqt Y.jc rfl ?_;rw[if_neg hv];clear hv;refine zq1b Y.jc ?_;show wpJ Y.J _ _ _ _ _;refine zqf Y.jc (zqs Y.jc ?_);apply YSys.callS 0 1 0 hA hst.step rfl rfl rfl (by rfl) rfl rfl rfl
        . intro wc hB X hX;have HX:=Lib.hid hX;clear hX;go_wp2;exact HX.out _ (Ext1.refl _)
        . intro w;simp[go_sem,execOp,Act.eval,resolve,Deferred.ofValue,invoke,callFunc,Try.func48,Try.f48]
        . intro w;simp[go_sem,execOp,Act.eval,resolve,Deferred.ofValue,invoke,callFunc,Try.func48,Try.f48]
        . intro s' ch w' h;exact⟨rfl,h⟩
        intro s w hA;refine zq12 Y.jc ?_;show wpJ Y.J _ _ _ _ _;refine zqf Y.jc (zqs Y.jc ?_);apply YSys.callR 0 3 0 hA (hst.store hc (j:=0) (by decide) 0) (λ_=>HKK.out _) rfl rfl rfl (by rfl) rfl rfl rfl
        . intro wc hB X hX;have HX:=Lib.hid hX;clear hX;go_wp2;exact HX.out _ (Ext1.refl _)
        . intro w;simp[go_sem,execOp,Act.eval,resolve,Deferred.ofValue,invoke,callFunc,Try.func58,Try.f58]
        . intro w;simp[go_sem,execOp,Act.eval,resolve,Deferred.ofValue,invoke,callFunc,Try.func58,Try.f58]
        . intro s' ch w' h;exact⟨rfl,h⟩
        intro s _ w hA;refine zq12 Y.jc ?_;show wpJ Y.J _ _ _ _ _;apply YSys.seq0 hA (by kernel_rfl)
        . intro wc hB;go_wp2;exact⟨rfl,Ext1.refl _,rfl⟩
        intro w hA;refine zq16 Y.jc ?_;exact⟨rfl,.inl ⟨_,resultsC_tmp2 rfl _,(0,6),rfl,hA⟩⟩
end
def madeA(v e:Int):Ans:=if e=0 then⟨true,v,[]⟩else⟨false,wrap64 (-e),[]⟩
abbrev ansV(a:Ans):Value:=.agg #[.bool a.ok,.int .i64 a.n,.slice none 0 0]
theorem zqcj(v e:Int)(w:World):Calls Try.prog 81 #[.int .i64 v,.int .i64 e] w (zq2m λx w'=>Ext1 w w'/\x=ansV (madeA v e)):=by
 by_cases h:e=0
 . subst h;have hm:madeA v 0=⟨true,v,[]⟩:=rfl;rw[hm];clear hm
   go_enter Try.func81,Try.ntmps81
   go_wp2;have hn:(w.alloc (.cells #[.bool true,.int .i64 (v),.slice none 0 0] 49)).heap[w.heap.size]?=some (.cells #[.bool true,.int .i64 (v),.slice none 0 0] 49):=by rw[zqc,if_pos rfl]
   have k0:=(zq1 (off:=0) hn).trans rfl;have k1:=(zq1 (off:=1) hn).trans rfl;have k2:=(zq1 (off:=2) hn).trans rfl;refine bodyPost_ret (v:=ansV ⟨true,v,[]⟩) ?_ rfl ⟨Ext1.alloc w _,rfl⟩;simp only[results,Try.f81];simp[go_sem,k0,k1,k2]
 . have hm:madeA v e=⟨false,wrap64 (-e),[]⟩:=by unfold madeA;rw[if_neg h]
   rw[hm];clear hm
   go_enter Try.func81,Try.ntmps81
   go_wp2;have hn:(w.alloc (.cells #[.bool false,.int .i64 (wrap64 (-e)),.slice none 0 0] 49)).heap[w.heap.size]?=some (.cells #[.bool false,.int .i64 (wrap64 (-e)),.slice none 0 0] 49):=by rw[zqc,if_pos rfl]
   have k0:=(zq1 (off:=0) hn).trans rfl;have k1:=(zq1 (off:=1) hn).trans rfl;have k2:=(zq1 (off:=2) hn).trans rfl;refine bodyPost_ret (v:=ansV ⟨false,wrap64 (-e),[]⟩) ?_ rfl ⟨Ext1.alloc w _,rfl⟩;simp only[results,Try.f81];simp[go_sem,k0,k1,k2]
section
variable {M2 S2 β:Type} {D:Core M2 S2} {ro:Nat->Option Obj} {i:Nat} {T:NumT}
theorem zqdi(Y:YSys Try.prog aM (zq8 (zqw T) D) ro i β)(B:Nat->Option Obj)(sv:Value):SpecAt Y B 83 #[sv] (Proc.ret (0,false)) pairV:=by
 refine SpecAt.of Try.func83 rfl ?_;intro K s w hK hA;simp only[zql,Try.ntmps83,List.size_toArray,List.length_cons,List.length_nil,Nat.reduceAdd,Nat.reduceSub,Array.replicate_succ,Array.replicate_zero,List.push_toArray,List.append_toArray,List.nil_append,List.cons_append];apply YSys.seq0 hA (by kernel_rfl)
 . intro wc hB;go_wp2;exact⟨rfl,Ext1.refl _,rfl⟩
 intro w hA;apply YSys.seq0 hA (by kernel_rfl)
 . intro wc hB;go_wp2;exact⟨rfl,Ext1.refl _,rfl⟩
 intro w hA;refine zq16 Y.jc ?_;exact⟨rfl,.inl ⟨_,resultsC_tmp2 rfl _,(0,false),rfl,hA⟩⟩
def mkP{S2:Type}(c:Nat)(op:OpX):Proc (Nums×S2) (Int×Bool):=Proc.tick.bind λ_=>onN λg=>(g,(IntKind.i64.wrap (op.b+g c 2),true))
theorem zqcn(Z:Alone Try.prog aM (zq8 (zqw T) D) ro i β){I:Nums×S2->Prop}{sv:Value}(hst:OnceAtoms (Z.sys I) sv){c:Nat}(hc:c<T.N){B:Nat->Option Obj}{b3 b5:Nat}{op:OpX}(h3:B b3=some (.cells #[.pointer (some ⟨T.ob c,0,none⟩)] 35))(h5:B b5=some (.cells op.cells.toArray 34)):
 SpecAt (Z.sys I) B 82 #[sv,.pointer (some ⟨b5,0,none⟩),.pointer (some ⟨b3,0,none⟩)] (mkP c op) pairV:=by
 have HI:=Lib.hid (And.intro h3 h5);have HS:=Lib.hid hst;have hlen:=hst.len c hc;clear h3 h5;refine SpecAt.of Try.func82 rfl ?_;intro K s w hK hA;simp only[zql,Try.ntmps82,List.size_toArray,List.length_cons,List.length_nil,Nat.reduceAdd,Nat.reduceSub,Array.replicate_succ,Array.replicate_zero,List.push_toArray,List.append_toArray,List.nil_append,List.cons_append];apply YSys.seq0 hA (by kernel_rfl)
 . intro wc hB;go_wp2;exact⟨rfl,Ext1.refl _,rfl⟩
 intro w hA;refine zqf (Z.sys I).jc (zqs (Z.sys I).jc ?_);rw[mkP,Proc.bind_bind]at hA;apply YSys.callS 0 1 0 hA HS.out.step rfl rfl rfl (by rfl) rfl rfl rfl
 . intro wc hB X hX;have HX:=Lib.hid hX;clear hX;go_wp2;exact HX.out _ (Ext1.refl _)
 . intro w;simp[go_sem,execOp,Act.eval,resolve,Deferred.ofValue,invoke,callFunc,Try.func48,Try.f48]
 . intro w;simp[go_sem,execOp,Act.eval,resolve,Deferred.ofValue,invoke,callFunc,Try.func48,Try.f48]
 . intro s' ch w' h;exact⟨rfl,h⟩
 intro s w hA;refine zq12 (Z.sys I).jc ?_;show wpJ (Z.sys I).J _ _ _ _ _;refine zqf (Z.sys I).jc ?_;obtain⟨m,hm,hA⟩:=hA;refine Z.actS (I':=I) (g:=λs=>(s,(IntKind.i64.wrap (op.b+s.1 c 2),true))) (λt B'=>t=#[sv,.pointer (some ⟨b5,0,none⟩),.pointer (some ⟨b3,0,none⟩),undef,.int .i64 (IntKind.i64.wrap (op.b+m.l.1 c 2)),.bool true,sv,.tuple #[],.pointer (some ⟨b5,2,none⟩),.int .i64 op.b,.pointer (some ⟨T.ob c,0,none⟩),.pointer (some ⟨T.ob c,0,none⟩),.pointer (some ⟨T.ob c,2,none⟩),.int .i64 (m.l.1 c 2),.int .i64 (IntKind.i64.wrap (op.b+m.l.1 c 2))]/\B'=B) hA (by kernel_rfl) (λs h=>h) (λs=>Z.oth s) ?_ ?_
 . intro wc hB hIs X hX;have HX:=Lib.hid hX;clear hX;have k3:=hB.box i b3 _ (by rw[hm];exact HI.out.1);have k5:=hB.box i b5 _ (by rw[hm];exact HI.out.2);have cb:wc.cell? ⟨b5,2,none⟩=some (.int .i64 op.b):=(zq1 k5).trans rfl;have cp:wc.cell? ⟨b3,0,none⟩=some (.pointer (some ⟨T.ob c,0,none⟩)):=(zq1 k3).trans rfl;have cn:=(zq1r hB wc.tape wc.drawn).cell hc (j:=2) (by rw[hlen];decide);obtain⟨x,hx⟩:∃x,m.l.1 c 2=x:=⟨_,rfl⟩;rw[hx]at cn;have HL:RowKit.Hid (∀W:World,(∀a,W.cell? a=wc.cell? a)->Calls Try.prog 47 #[.pointer (some ⟨T.ob c,2,none⟩)] W λe w'=>e=.returned (.int .i64 x)/\∃n,w'=W.drewN n):=Lib.hid λW hW=>Calls.mono (zq56 _ x W ((hW _).trans cn)) (by rintro e w' ⟨rfl,rfl⟩;exact⟨rfl,0,rfl⟩);have HB:=Lib.hid (And.intro hB (And.intro hm hx));obtain⟨pb,hpb⟩:∃p,T.ob c=p:=⟨_,rfl⟩;rw[hpb]at cp HL HX;clear hB hm hx cn k3 k5 hA hK hIs hlen
   go_quiet (first|(go_at_call 47;exact Calls.quiet_of (HL.out _ (λa=>rfl))))
   obtain⟨hB,hm,hx⟩:=HB.out;exact⟨rfl,HX.out _ m.l _ _ (Moved.ext hB ⟨Nat.le_refl _,λ_ _=>rfl⟩) rfl ⟨by rw[hx],hm⟩⟩
 . rintro t' m' w' ⟨rfl,hb⟩ hA';show wpJ (Z.sys I).J _ _ _ _ _;refine zq16 (Z.sys I).jc ?_;exact⟨rfl,.inl ⟨_,resultsC_tmp2 rfl _,(IntKind.i64.wrap (op.b+m.l.1 c 2),true),rfl,m',hb,hA'⟩⟩
end
end Go.Proofs
