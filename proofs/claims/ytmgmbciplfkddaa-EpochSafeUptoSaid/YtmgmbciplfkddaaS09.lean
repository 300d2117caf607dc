/- YtmgmbciplfkddaaESaf16: part 9 of the proof (the texts behind it, in order). -/
import Derived.Test.YtmgmbciplfkddaaS08
set_option maxHeartbeats 4000000
set_option maxRecDepth 100000
set_option linter.all false
namespace Go.Proofs
open Go Go.Conc Go.RowKit Go.Car
noncomputable def opsT(n:Nat):Code:=tailN n (Try.f32.body.getD .skip)
theorem ops0:Try.f32.body.getD .skip=.seq (headC (opsT 0)) (.seq (headC (opsT 1)) (.seq (headC (opsT 2)) (opsT 3))):=by kernel_rfl
def ans0:AnsM:=⟨λ_=>.slice none 0 0,λ_ _=>none,λ_=>[]⟩
structure OpsAt(w:World)(RP:Nat->Option Obj)(pp:Option Addr)(n N:Nat)(sp:Nat->Option Addr)(L Cp:Nat->Nat)(ops:Nat->List OpX):Prop where
 eq:N=min n 64
 le:n<=4611686018427387904
 at':0<n->∃tb to',pp=some ⟨tb,to',none⟩/\∀i,i<N->w.cell? ⟨tb,to'+i,none⟩=some (.slice (sp i) (L i) (Cp i))
 row:∀i,i<N->L i<=Cp i/\L i<=4611686018427387904/\(sp i=none->L i=0/\Cp i=0)
 len:∀i,i<N->(ops i).length=min (L i) 65536
 op:∀i,i<N->∀k op,(ops i)[k]?=some op->∃g off cur e fr,sp i=some ⟨g,off,none⟩/\RP g=some (.cells cur e fr)/\∀j,j<4->cur[off+k*4+j]?=op.cells[j]?
open Classical in
noncomputable def roOf(RP:Nat->Option Obj)(H N:Nat)(ob ib:Nat->Nat)(w1:World):Nat->Option Obj:=λb=>if RP b≠none then RP b else if b=H\/b=H+2\/∃i,i<N/\(b=ob i\/b=ib i)then w1.heap[b]? else none
theorem zq5t{RP:Nat->Option Obj}{H N:Nat}{ob ib:Nat->Nat}{w1:World}{b:Nat}{o:Obj}(h:RP b=some o):roOf RP H N ob ib w1 b=some o:=by
 unfold roOf;rw[if_pos (by rw[h];simp),h]
theorem zq4y{RP:Nat->Option Obj}{H N:Nat}{ob ib:Nat->Nat}{w1:World}{b:Nat}(h:RP b=none)(hb:b=H\/b=H+2\/∃i,i<N/\(b=ob i\/b=ib i)):roOf RP H N ob ib w1 b=w1.heap[b]?:=by
 unfold roOf;rw[if_neg (by rw[h];simp),if_pos hb]
theorem zq3x{RP:Nat->Option Obj}{H N:Nat}{ob ib:Nat->Nat}{w1:World}{b:Nat}{o:Obj}(h:roOf RP H N ob ib w1 b=some o):RP b=some o\/((b=H\/b=H+2\/∃i,i<N/\(b=ob i\/b=ib i))/\w1.heap[b]?=some o):=by
 unfold roOf at h;split at h
 . exact .inl h
 . split at h
   . rename_i h2;exact .inr ⟨h2,h⟩
   . cases h
structure OpsRes{M1 S1:Type}(C:Core M1 S1)(N:Nat)(l₀:M1)(w:World)(r:TSt (S1×(Nat->List Ans)))(ab:Nat)(v:Value)(l':M1)(am:AnsM)(w':World):Prop where
 rep:C.Rep l' w'
 st:C.st l'=r.s.1
 ans:zq30 tT ab N am w'
 ast:am.st=r.s.2
 size:w.heap.size<=w'.heap.size
 old:∀b,b<w.heap.size->¬C.foot l₀ b->w'.heap[b]?=w.heap[b]?
 foot:∀b,C.foot l' b->C.foot l₀ b\/w.heap.size<=b
 abl:w.heap.size<=ab
 ansn:∀i b,i<N->am.X i b≠none->C.foot l₀ b\/w.heap.size<=b
 anf:∀b,C.foot l' b->b≠ab/\∀i,i<N->am.X i b=none
 row:w'.ownsRow w.heap.size 3 1 v r.ord.length (r.ord.map λ(i:Nat)=>.int .i64 i)
 rowf:∀x,v.ownBlock=some x->¬C.foot l' x/\x≠ab/\∀i,i<N->am.X i x=none
theorem OpsRes.re {M1 S1:Type}{C:Core M1 S1}{N:Nat}{l₀:M1}{w w':World}{r:TSt (S1×(Nat->List Ans))}{ab:Nat}{v:Value}{l':M1}{am:AnsM}(h:OpsRes C N l₀ w r ab v l' am w')(τ:Nat->Question->Nat)(d:Nat):OpsRes C N l₀ w r ab v l' am (Go.Car.re w' τ d):=
 ⟨C.frame _ _ _ h.rep λ_ _=>rfl,h.st,⟨h.ans.hd,h.ans.row,h.ans.blk,h.ans.nab,h.ans.sep⟩,h.ast,h.size,h.old,h.foot,h.abl,h.ansn,h.anf,h.row,h.rowf⟩
section
variable {M1 S1:Type} {C:Core M1 S1} {RP:Nat->Option Obj} {l₀:M1} {wa w1:World} {N n:Nat} {pp:Option Addr} {sp:Nat->Option Addr} {L Cp:Nat->Nat} {ops:Nat->List OpX} {ob ib:Nat->Nat} {dv fv:Value}
theorem ops_rep(hR:DRes wa N dv sp L Cp N ob ib fv w1)(hb:BRep C RP ⟨l₀,λ_ _=>none⟩ wa):BRep (zqd C (zqw tT (wa.heap.size+1) N)) (roOf RP wa.heap.size N ob ib w1) ⟨(l₀,ans0),λ_ _=>none⟩ w1:=by
 have hcl:∀b,C.foot l₀ b->b<wa.heap.size:=λb h=>C.lt _ _ _ hb.core h;have hrl:∀b o,RP b=some o->b<wa.heap.size:=λb o h=>zqs (hb.rod b o h);have hnw:∀b o,roOf RP wa.heap.size N ob ib w1 b=some o->RP b=some o\/(wa.heap.size<=b/\b≠wa.heap.size+1/\w1.heap[b]?=some o):=λb o h=>by
  rcases zq3x h with h|⟨h,h2⟩
  . exact .inl h
  . right
    rcases h with h|h|⟨i,hi,h⟩
    . exact⟨by omega,by omega,h2⟩
    . exact⟨by omega,by omega,h2⟩
    . have:=hR.lo i hi;rcases h with h|h<;>exact⟨by omega,by omega,h2⟩
 refine⟨⟨C.frame _ _ _ hb.core λb h=>hR.old b (hcl b h),⟨?_,λi hi=>AnsR.nil _ _,λi b o _ h=>(by cases h),λi _=>rfl,λi j b _ _ _ _=>rfl⟩,λb h=>?_⟩,λi b o h=>(by cases h),λb o h=>?_,λi b h=>absurd rfl h,λi j b _ h=>absurd rfl h,λb h=>?_,λi b _=>rfl⟩
 . show w1.heap[wa.heap.size+1]?=_;rw[hR.ab];congr 2;apply Array.ext_getElem?;intro i
   by_cases hi:i<N
   . simp[ans0,hi]
   . simp[ans0,hi]
 . rintro(h2|⟨i,hi,h2⟩)
   . have:=hcl b h;omega
   . exact h2 rfl
 . rcases hnw b o h with h|h
   . rw[hR.old b (hrl b o h)];exact hb.rod b o h
   . exact h.2.2
 . cases ho:roOf RP wa.heap.size N ob ib w1 b with
   |none=>exact absurd ho h
   |some o=>
    rintro(h2|h2|⟨i,hi,h2⟩)
    . rcases hnw b o ho with h3|h3
      . exact hb.rol b (by rw[h3];simp) h2
      . have:=hcl b h2;omega
    . rcases hnw b o ho with h3|h3
      . have:=hrl b o h3;omega
      . exact h3.2.1 h2
    . exact h2 rfl
theorem ops_ro{f:FuncId}{first caps:Array Value}(hR:DRes wa N (.func (.func f) first caps) sp L Cp N ob ib fv w1)(hb:BRep C RP ⟨l₀,λ_ _=>none⟩ wa)(hN:N<=64)(hlen:∀i,i<N->(ops i).length=min (L i) 65536)(hop:∀i,i<N->∀k op,(ops i)[k]?=some op->∃g off cur e fr,sp i=some ⟨g,off,none⟩/\RP g=some (.cells cur e fr)/\∀j,j<4->cur[off+k*4+j]?=op.cells[j]?){i:Nat}(hi:i<N):
 DoRo (roOf RP wa.heap.size N ob ib w1) i N (wa.heap.size+1) (ob i) wa.heap.size (ib i) (wa.heap.size+2) (sp i) (min (L i) 65536) (Cp i) (ops i) f first caps:=by
 have hno:∀b,wa.heap.size<=b->RP b=none:=λb hle=>by
  cases h:RP b with
  |none=>rfl
  |some o=>have:=zqs (hb.rod b o h);omega
 have hlo:=hR.lo i hi;refine⟨?_,?_,?_,?_,hlen i hi,Nat.min_le_right _ _,hi,hN,λk op hk=>?_⟩
 . rw[zq4y (hno _ (by omega)) (.inr (.inr ⟨i,hi,.inl rfl⟩))];exact hR.obx i hi
 . rw[zq4y (hno _ (Nat.le_refl _)) (.inl rfl)];exact hR.db
 . rw[zq4y (hno _ (by omega)) (.inr (.inr ⟨i,hi,.inr rfl⟩))];exact hR.ibx i hi
 . rw[zq4y (hno _ (by omega)) (.inr (.inl rfl))];exact hR.hb
 . obtain⟨g,off,cur,e,fr,h1,h2,h3⟩:=hop i hi k op hk;exact⟨g,off,cur,e,fr,h1,zq5t h2,h3⟩
end
def Beyond(w w':World):Prop:=w.heap.size<=w'.heap.size/\∀b,b<w.heap.size->w'.heap[b]?=w.heap[b]?
theorem Beyond.refl (w:World):Beyond w w:=⟨Nat.le_refl _,λ_ _=>rfl⟩
theorem Beyond.trans {w w' w'':World}(h:Beyond w w')(k:Beyond w' w''):Beyond w w'':=⟨Nat.le_trans h.1 k.1,λb hb=>(k.2 b (Nat.lt_of_lt_of_le hb h.1)).trans (h.2 b hb)⟩
theorem Beyond.alloc (w:World)(o:Obj):Beyond w (w.alloc o):=⟨by rw[zq8];omega,λb hb=>by rw[zqc,if_neg (by omega)]⟩
theorem Beyond.cell {w w':World}(h:Beyond w w'){a:Addr}{v:Value}(hb:w.cell? a=some v):w'.cell? a=some v:=(zq17 (h.2 a.block (cell_lt hb))).trans hb
theorem Beyond.re (w:World)(τ:Nat->Question->Nat)(d:Nat):Beyond w (Go.Car.re w τ d):=⟨Nat.le_refl _,λ_ _=>rfl⟩
def zq49(w:World)(v:Value)(l:List Int):Prop:=∃p C,v=.slice p l.length C/\(l≠[]->∃b o,p=some ⟨b,o,none⟩/\∀i,i<l.length->w.cell? ⟨b,o+i,none⟩=some (.int .i64 (l.getD i 0)))
def AnsAt(w:World)(v:Value)(l:List Ans):Prop:=∃p C,v=.slice p l.length C/\(l≠[]->∃b o,p=some ⟨b,o,none⟩/\∀i a,l[i]?=some a->w.cell? ⟨b,o+i*3,none⟩=some (.bool a.ok)/\w.cell? ⟨b,o+i*3+1,none⟩=some (.int .i64 a.n)/\∃lv,w.cell? ⟨b,o+i*3+2,none⟩=some lv/\zq49 w lv a.l)
theorem Beyond.drew (w:World)(n:Nat):Beyond w (w.drewN n):=⟨Nat.le_refl _,λ_ _=>rfl⟩
end Go.Proofs
namespace Go.Car
open Go Go.Conc Go.RowKit
section
variable {P:Program}
def FinOf(P:Program)(Post:Value->World->Prop)(m:Machine)(T:Trace):Prop:=
 ∃N last o w' t',runNT P (N+1) m T=(.ended o w',t')/\runN P N m=.next last/\step P last=.ended o w'/\Conc.Good P (λv w=>Post v w/\w.os=m.world.os/\w.output=m.world.output) last o w' t'
theorem zq6n(Post:Value->World->Prop):Back P (FinOf P Post):=by
 intro N m T m' T' hrun e1 e2 ⟨M,last,o,w',t',h1,h2,h3,h4⟩;rw[e1,e2]at h4;have hn:runN P N m=.next m':=by rw[<-runNT_fst P _ _ T,hrun]
 refine⟨N+M,last,o,w',t',?_,?_,h3,h4⟩
 . rw[Nat.add_assoc,runNT_add,hrun];exact h1
 . rw[runN_add,hn];exact h2
theorem j0_end{Post:Value->World->Prop}(hPost:∀v w τ d,Post v w->Post v (re w τ d)){n:Nat}{b:Frame}(hb:b.kind=.normal)(hini:P.inits.idxOf? b.fn=none){fn:Func}(hf:P.funcs[b.fn]?=some fn){t:Array Value}{todo:List Item}{w:World}{v:Value}
 (hr:(results fn t).run P w=.ok v w) (hp:Post v w):J0 P (FinOf P Post) n (G {b.at ⟨t,[]⟩ todo with mode:=.returning} []) w:=by
 intro τ d Mem B gs sl T q hM hsz hg hR;obtain⟨hL,hP⟩:=ring_end hR hM (λ_ _=>rfl);obtain⟨es,hes⟩:∃es,((results fn t).runT P w #[]).2=es:=⟨_,rfl⟩;have hT:∀τ d,(results fn t).runT P (re w τ d) #[]=(.ok v (re w τ d),es):=λτ d=>by
  obtain⟨_,_,h3⟩:=zq2t _ (zq25 _ (zq1i (P:=P) fn t)) w #[];have h4:((results fn t).runT P w #[]).1=.ok v w:=by rw[Sem.runT_eq];exact hr
  have:=h3 τ d (λj hj=>by rw[h4]at hj;simp only[resW]at hj;omega);rw[h4,hes]at this;simp only[resRe,resW,Nat.sub_self,Nat.add_zero]at this;exact this
 have hcalm:∀e∈es,calmEv true e:=λe he=>by
  rw[<-hes]at he;have:=(zq1y _ (zq1i (P:=P) fn t) w #[] e he).resolve_left (by simp);exact⟨this.1,λh=>by cases h⟩
 obtain⟨B2,hB2⟩:=zq4t es;have hP2:Past (λ_=>False) (max B B2) T:=hP.mono (Nat.le_max_left _ _);refine beside_ends (Shun:=λ_=>False) (B:=max B B2) (D:=λ_ _ _=>False) (n:=0) (λ_ _ _ h=>h.elim) hg hL hP2 ?_;rintro w₁ ⟨d₁,rfl⟩;have hw:∃τ' d',(((re w τ 0).at d).at d₁)=re w τ' d':=⟨τ,d₁,rfl⟩;obtain⟨τ',d',hw⟩:=hw;rw[hw];refine⟨rfl,v,seen P b.fn es,?_,λe he=>?_,hPost _ _ _ _ hp,rfl,rfl⟩
 . simp only[G,stepG,unwind,Frame.at,hf,hT τ' d',GStep.after,doReturn];simp[GStep.after,hb,hini]
 . have he':=mem_seen he;obtain⟨k1,k2⟩:=zq4e (hcalm e he');exact⟨λx _ h=>h.elim,k1,k2,MemAct.low_mono (Nat.le_max_right _ _) (hB2 e he')⟩
theorem j0_run{Post:Value->World->Prop}{f:FuncId}{fn:Func}{c:Code}{args:Array Value}{W:World}(hf:P.funcs[f]?=some fn)(hb:fn.body=some c)
 (h:J0 P (FinOf P Post) 1 (G (Frame.enter P f args .normal) []) W):FinOf P Post (solo (G (Frame.enter P f args .normal) []) W) #[]:=by
 have hL:Leavers P (#[]:Trace) #[G (Frame.enter P f args .normal) []] (λ_=>0):=⟨λi g hi hg=>by
  rcases i with _|i
  . omega
  . simp at hg,λj _=>rfl⟩
 have hP:Past (λ_=>False) 0 (#[]:Trace):=past_nil;have hR:=ring_begin (P:=P) (K:=KK (λ_=>none)) (Still:=zq21 (λ_=>none)) (w:=W.at W.drawn) (B:=0) (λl⟨a,v,_,hv⟩=>by cases hv) hL hP (zq6d _);have:=h W.tape W.drawn (λg=>g=0) 0 #[G (Frame.enter P f args .normal) []] none #[] (λ_=>0) rfl rfl rfl hR;rw[solo_eq_crowd];exact this
end
end Go.Car
namespace Go.Car
open Go Go.Conc Go.RowKit
section
variable {P:Program} {A:FuncId->Bool}
end
end Go.Car
namespace Go.Proofs
open Go Go.Conc Go.RowKit Go.Car Go.ChangeShapes Go.WideShapes Go.Deep
theorem add_at{a:Addr}(h:a.spot=none)(i:Nat):a.add i=⟨a.block,a.off+i,none⟩:=by
 obtain⟨b,o,s⟩:=a;simp only at h;subst h;unfold Addr.add;split
 . rename_i e;rw[e];rfl
 . rfl
theorem zqek{w:World}{a:Addr}{v:Value}(h:w.cell? a=some v):a.spot=none:=by
 unfold World.cell? at h;split at h
 . split at h
   . cases h
   . rename_i hh;simpa using hh
 . cases h
theorem spot_add{w:World}{a:Addr}{v:Value}(h:w.cell? (a.add 0)=some v):a.spot=none:=zqek (a:=a) (by simpa[Addr.add]using h)
def lenD{H:Type}:DataW H->Nat
 |.slice e _=>e.length
 |_=>0
section
variable {H:Type} {enc:TypeId×Value->H} {P:Program} {w:World} {held:Bool} {sp:Nat->Bool}
end
end Go.Proofs
namespace Go.Car
open Go Go.Conc
theorem zqd5{H:Type}{enc:TypeId×Value->H}{a:Assume}{C:Checked}{os:Os}{f:FuncId}{fn:Func}{s:OpenSpec}{k:(H:Type)->List (DataW H)->Bool}(hk:s.cond=some k){F:Stop.Interp}{conds:List PathCond}{apart fresh handsOn again:Bool}
 (own:ownKnob C.prog.godebug=none) (started:os.Started) (hfn:C.prog.funcs[f]?=some fn)
 (witness:∃(w:World)(tape:Tape)(i:Input),w.os=os/\(w.forCall tape i).Shaped C.prog/\i.vars=[]/\Input.okWide C.prog (w.forCall tape i) .any w.heap.size f i/\
  s.pre6 enc C.prog fn conds apart (w.forCall tape i).memory i.args/\a.holds C.prog (lone (Frame.enter C.prog f i.args .normal) [] (w.forCall tape i)))
 (runs:∀(W:World)(base:Nat)(args:Array Value)(ds gs:List (DataW H))(before:List MemPlace),
  (∀(j:Nat)t v,fn.params[j]?=some t->args[j]?=some v->Value.okWide C.prog W .any base t v)->
  DataW.Whole enc C.prog fn.params.toList s.vars apart W args.toList ds gs before->k H (ds++gs)=true->
  ∃M last o w' t',runNT C.prog (M+1) (solo (G (Frame.enter C.prog f args .normal) []) W) #[]=(.ended o w',t')/\runN C.prog M (solo (G (Frame.enter C.prog f args .normal) []) W)=.next last/\
   step C.prog last=.ended o w'/\Conc.Good C.prog (λv W'=>(s.at F).post enc C.prog fn apart fresh handsOn again W args v W') last o w' t'):
 ReturnsInLeavingWide a C os f .any (s.pre6 enc C.prog fn conds apart) ((s.at F).post enc C.prog fn apart fresh handsOn again):=by
 refine returnsInLeavingWide_of_good own started witness ?_;intro w tape i _ _ _ hok hpre _;obtain⟨_,_,_,fn',hfn',_,_,_,_,hval⟩:=hok;obtain rfl:fn'=fn:=Option.some.inj (hfn'.symm.trans hfn);obtain⟨ds,gs,before,hw,_,hkk⟩:=(OpenSpec.pre_some hk conds apart _ _).1 hpre.1;obtain⟨M,last,o,w',t',h1,h2,h3,h4⟩:=runs (w.forCall tape i) w.heap.size i.args ds gs before hval (DataW.Whole.of_heap (w':=w.forCall tape i) (by rfl) hw) hkk;exact⟨M,last,o,w',t',h1,h2,h3,h4.mono λv hp=>ChangeSpec.post_blind hp⟩
theorem zqcn{p:Pinned}{s:OpenSpec}{c:OpenClaim}(f:FuncId)(fn:Func)
 (hn:c.program=p.name) (hs:c.sum=p.sum) (hsp:c.spec=s.name)
 (hstart:c.start=.entering) (hout:c.outside=[]) (hin:c.inits=[]) (hun:c.under=none) (hi4:c.initsInPlace=[]/\c.initsUnfollowed=false/\c.initsRecurse=false/\c.initsNamed=[]/\c.initsPassed=[]) (hnb:c.noBlocks=false) (hlv:c.leaving=true) (hfo:c.followed=none) (hnar:c.narrowed=s.cond.isSome) (hstill:c.still=false)
 (hfn:p.checked.prog.funcNamed c.func=some f) (hf:p.checked.prog.funcs[f]?=some fn)
 (closed:joinedFacts p.checked.prog f fn s.bare c=true)
 (hinst:fn.isInstance p.checked.prog c.origin c.targs) (hwrap:fn.isWrapper p.checked.prog c.wrapper c.mainSum)
 (h:∀os:Os,os.Started->∀(H:Type)(enc:TypeId×Value->H),(∀a b,enc a=enc b->a=b)->∀F:Stop.Interp,
  ReturnsInLeavingWide c.assume p.checked os f .any (c.pre enc p.checked.prog fn s) ((s.at F).post enc p.checked.prog fn c.apart c.fresh c.handsOn c.again)):c.holds p s:=by
 simp only[joinedFacts,Bool.and_eq_true,beq_iff_eq,Array.all_eq_true_iff_forall_mem,List.all_eq_true,decide_eq_true_eq]at closed;obtain⟨⟨⟨⟨⟨⟨⟨⟨⟨⟨⟨⟨⟨⟨⟨⟨⟨⟨⟨⟨⟨⟨⟨⟨⟨⟨⟨⟨⟨⟨⟨a1,a2⟩,a3⟩,a4⟩,a5⟩,a6⟩,a7⟩,a8⟩,a9⟩,a10⟩,a11⟩,a12⟩,a13⟩,a14⟩,a15⟩,a16⟩,a17⟩,b17⟩,a18⟩,a19⟩,a20⟩,a21⟩,a22⟩,a23⟩,b23⟩,a24⟩,b24⟩,c24⟩,a25⟩,a26⟩,a27⟩,a28⟩:=closed;have quiet:∀os:Os,Stop.quiet p.checked.prog os:=λos k hk=>by rw[a9]at hk;cases hk
 have fits:c.startFits p.checked.prog:=by unfold OpenClaim.startFits;rw[hstart];exact a24
 have told:c.startTold p.checked.prog:=by unfold OpenClaim.startTold;rw[hstart];exact⟨hin,hun,hi4⟩
 have named:namedTie p.checked.prog c.namedList s.vars=true:=by unfold OpenClaim.namedList;rw[hfo];exact a5
 have worded:p.checked.prog.envWorded=true:=by unfold Program.envWorded;rw[a9];rfl
 have world0:∃os:Os,c.world os/\Stop.quiet p.checked.prog os:=⟨_,by unfold OpenClaim.world;rw[hout,hstart];exact WideRow.started_initial,quiet _⟩;have lists0:c.lists p.checked.prog []:=by unfold OpenClaim.lists;rw[hfo]
 refine⟨a1,hn,hs,hsp,a2,a3,fits,told,f,fn,hfn,hf,⟨a4,a19⟩,(λhb=>by rw[hnb]at hb;cases hb),named,hinst,hwrap,
  a6.trans a7.symm,⟨a8.trans a9.symm,worded,b23⟩,a10,a11,a12,a13,a14,⟨a15,a27,a28⟩,⟨a16,a20⟩,⟨a17,a21,a25,a26⟩,⟨a22,b24,c24,b17⟩,(by rw[hout,hnar];cases hsh:c.shortTexts with|none=>simp |some _=>rw[hsh]at a23;cases a23),λn hn'=>varReadable_some (a18 n hn'),
  world0,[],lists0,λos st _ H enc inj=>?_⟩
 have st':os.Started:=by unfold OpenClaim.world at st;rw[hout,hstart]at st;exact st
 rw[OpenClaim.post_not_still hstill];unfold OpenClaim.form;rw[hstart,a6];intro F;have e1:c.okInput=Input.okWide:=by unfold OpenClaim.okInput;rw[hnb]
 have e2:c.atReturn p.checked.prog=leavingAtReturn p.checked.prog:=by unfold OpenClaim.atReturn;rw[hlv]
 have e3:c.always p.checked.prog []=nothingAlways:=by unfold OpenClaim.always;rw[hfo]
 have e4:s.post enc p.checked.prog fn F c.outside c.apart c.fresh c.handsOn c.again=(s.at F).post enc p.checked.prog fn c.apart c.fresh c.handsOn c.again:=by rw[hout];rfl
 rw[e1,e2,e3];show ReturnsInOpen _ _ _ _ _ _ _ _ (s.post enc p.checked.prog fn F c.outside c.apart c.fresh c.handsOn c.again) _ _;rw[e4];exact h os st' H enc inj F a24
end Go.Car
namespace Go.Proofs.Ytmgmbciplfkddaa
open Go Go.Conc Go.RowKit Go.Car Go.ChangeShapes Go.WideShapes Go.ChangeAt
theorem bulk_one{H:Type}(d:DataW H):1<=Rows.uptoBulk d:=by
 cases d with
 |lit l=>cases l<;>simp[Rows.uptoBulk]
 |nil=>simp[Rows.uptoBulk]
 |ptr d=>simp[Rows.uptoBulk]
 |slice elems spare=>simp[Rows.uptoBulk]
 |agg parts=>simp[Rows.uptoBulk]
 |iface t d=>simp[Rows.uptoBulk]
 |map entries=>simp[Rows.uptoBulk]
 |held h=>simp[Rows.uptoBulk]
theorem bulk_mem{H:Type}{d:DataW H}{l:List (DataW H)}(h:d∈l):Rows.uptoBulk d<=Rows.uptoBulkAll l:=by
 induction l with
 |nil=>cases h
 |cons x r ih=>
  simp only[Rows.uptoBulkAll];rcases List.mem_cons.1 h with e|e
  . subst e;omega
  . have:=ih e;omega
theorem zqbb{H:Type}(l:List (DataW H)):l.length<=Rows.uptoBulkAll l:=by
 induction l with
 |nil=>simp[Rows.uptoBulkAll]
 |cons x r ih=>have:=bulk_one x;simp only[Rows.uptoBulkAll,List.length_cons];omega
theorem zqba{H:Type}(d:DataW H):lenD d<=Rows.uptoBulk d:=by
 cases d with
 |slice e s=>have:=zqbb e;simp only[lenD,Rows.uptoBulk];omega
 |_=>exact Nat.zero_le _
theorem zqbc{H:Type}{l:List (DataW H)}(hk:Rows.uptoSmall H l=true){d:DataW H}(h:d∈l):Rows.uptoBulk d<=1048576:=by
 have h1:=of_decide_eq_true hk;have h2:=bulk_mem h;omega
theorem own_knob:ownKnob Try.prog.godebug=none:=by kernel_rfl
theorem laid_out:laidOutB Try.prog=true:=by kernel_rfl
theorem zqe1{H:Type}{enc:TypeId×Value->H}{t:TypeId}(hr:Try.prog.readableRec t=true)(hrow:t<Try.prog.types.size){W w':World}{v:Value}{d:DataW H}{ps:List MemPlace}
 (h:DataW.Trod enc Try.prog W 0 (λ_=>true) true t v d ps) (hb:Beyond W w') (hlt:∀x∈ps,x.block<W.heap.size):DataW.Trod enc Try.prog w' 0 (λb=>decide (b<W.heap.size)) true t v d ps:=
 DataW.Trod.of_heap (w:={w' with os:=W.os,tape:=W.tape,output:=W.output}) (by rfl) (Below.trod laid_out hr hrow h ⟨rfl,rfl,rfl,hb.1,hb.2⟩ hlt)
theorem zqcx{W w':World}(hb:Beyond W w')(ho:w'.os=W.os)(hu:w'.output=W.output)(may:MemPlace->Prop):W.keptBut w' may:=by
 have h:=Below.frame (W:=W) (w':={w' with os:=W.os,tape:=W.tape,output:=W.output}) ⟨rfl,rfl,rfl,hb.1,hb.2⟩ may;exact⟨ho,hu,h.2.2⟩
end Go.Proofs.Ytmgmbciplfkddaa
namespace Go.Proofs
open Go Go.Conc Go.RowKit Go.Car
def aL:List FuncId:=[11,12,47,18,20,21,31,34,53,59,46,50,51,8,17,19,30,35,36,38,39,40,13,10,14,15,37,42,43,44,41,45,22]
def aR:List FuncId:=[55,56,57]
def aM(f:FuncId):Bool:=aL.contains f || aR.contains f
theorem plain_rows:Plain Try.prog aM/\RowsS Try.prog aM:=by
 refine zq84 (by kernel_rfl) (λf hf=>?_) (by kernel_rfl) (by kernel_rfl);simp only[aR,List.mem_cons,List.not_mem_nil,or_false]at hf;rcases hf with rfl |rfl |rfl
 . exact⟨_,Extern.Atomic.loadT (.int .i64),Try.func55,rfl,by kernel_rfl,by kernel_rfl,by kernel_rfl,λ_=>zqip _ _,λ_=>zqg5 _ _⟩
 . exact⟨_,Extern.Atomic.storeT,Try.func56,rfl,by kernel_rfl,by kernel_rfl,by kernel_rfl,λ_=>zqjf _,λ_=>zqh1 _⟩
 . exact⟨_,Extern.Atomic.casT (.int .i64),Try.func57,rfl,by kernel_rfl,by kernel_rfl,by kernel_rfl,λ_=>zqhz _ _,λ_=>zqf7 _ _⟩
theorem zqk:Plain Try.prog aM:=plain_rows.1
theorem rowsM:RowsS Try.prog aM:=plain_rows.2
end Go.Proofs
namespace Go.Car
open Go Go.Conc Go.RowKit
structure NumT where
 N:Nat
 ob:Nat->Nat
 len:Nat->Nat
 ty:Nat->TypeId
abbrev Nums:=Nat->Nat->Int
section
variable {T:NumT} {g:Nums} {w:World} {c j:Nat}
end
section
variable {M2 S2:Type} {D:Core M2 S2} {ro:Nat->Option Obj} {i:Nat} {T:NumT} {m:BM (Nums×M2)} {wc:World}
end
structure EpS where
 e:Int
 mark:Nat->Int
 ins:Nat->Bool
 th:Nat->List (Int×Int)
structure EpT where
 db:Nat
 mb:Nat
 N:Nat
 tD:TypeId
 tM:TypeId
 tT:TypeId
structure EpM where
 s:EpS
 hv:Nat->Value
 X:Nat->Nat->Option Obj
def mostT:Nat:=1099511627776
def thC(l:List (Int×Int)):List Value:=l.flatMap λx=>[.int .i64 x.1,.int .i64 x.2]
theorem zqak(l k:List (Int×Int)):thC (l++k)=thC l++thC k:=by simp[thC]
def memC(m:EpM)(j:Nat):Value:=if j % 3=0 then .int .i64 (m.s.mark (j / 3))else if j % 3=1 then .bool (m.s.ins (j / 3))else m.hv (j / 3)
def memA(N:Nat)(m:EpM):Array Value:=((List.range (N*3)).map (memC m)).toArray
theorem zq2q{N j:Nat}{m:EpM}(h:j<N*3):(memA N m)[j]?=some (memC m j):=by
 unfold memA;rw[al_gl,List.getElem?_map,List.getElem?_range h];rfl
theorem zq5p{N j:Nat}{m:EpM}(h:¬j<N*3):(memA N m)[j]?=none:=by unfold memA;simp[h]
theorem zq5q{N i c:Nat}{m m':EpM}{v:Value}(h:i<N)(hc:c<3)(hv:memC m' (i*3+c)=v)(ho:∀j,j≠i*3+c->memC m' j=memC m j):(memA N m).setIfInBounds (i*3+c) v=memA N m':=by
 apply Array.ext_getElem?;intro k;rw[al_gs]
 by_cases hk:k<N*3
 . rw[zq2q hk,zq2q hk]
   by_cases e:i*3+c=k
   . subst e;rw[if_pos rfl,if_pos (by unfold memA;simpa using hk),hv]
   . rw[if_neg e,ho k (λx=>e x.symm)]
 . rw[zq5p hk,zq5p hk]
   by_cases e:i*3+c=k
   . subst e;rw[if_pos rfl,if_neg (by unfold memA;simpa using hk)]
   . rw[if_neg e]
structure EpRep(T:EpT)(m:EpM)(w:World):Prop where
 dom:w.heap[T.db]?=some (.cells #[.int .i64 m.s.e,.slice (some ⟨T.mb,0,none⟩) T.N T.N] T.tD)
 mem:w.heap[T.mb]?=some (.cells (memA T.N m) T.tM)
 ne:T.db≠T.mb
 row:∀i,i<T.N->RowB (m.X i) T.tT 2 (m.hv i) (m.s.th i).length (thC (m.s.th i))
 blk:∀i b o,i<T.N->m.X i b=some o->w.heap[b]?=some o
 nd:∀i,i<T.N->m.X i T.db=none
 nm:∀i,i<T.N->m.X i T.mb=none
 sep:∀i j b,i<T.N->j<T.N->i≠j->m.X i b≠none->m.X j b=none
 cap:∀i,i<T.N->(m.s.th i).length<=mostT
def zqb(T:EpT):Core EpM EpS where
 foot m b:=b=T.db\/b=T.mb\/∃i,i<T.N/\m.X i b≠none
 Rep:=EpRep T
 st m:=m.s
 frame m w w' h hs:=⟨(hs _ (.inl rfl)).trans h.dom,(hs _ (.inr (.inl rfl))).trans h.mem,h.ne,h.row,λi b o hi hb=>(hs b (.inr (.inr ⟨i,hi,by rw[hb];simp⟩))).trans (h.blk i b o hi hb),h.nd,h.nm,h.sep,h.cap⟩
 lt m w b h hb:=by
  rcases hb with rfl |rfl |⟨i,hi,hb⟩
  . exact zqs h.dom
  . exact zqs h.mem
  . cases ho:m.X i b with
    |none=>exact absurd ho hb
    |some o=>exact zqs (h.blk i b o hi ho)
 pin _:=0
def onE{S2 α:Type}(f:EpS->EpS×α):Proc (EpS×S2) α:=Proc.act λs=>(((f s.1).1,s.2),(f s.1).2)
def EpS.putE (s:EpS)(x:Int):EpS:={s with e:=x}
def EpS.putM (s:EpS)(i:Nat)(x:Int):EpS:={s with mark:=upd' s.mark i x}
def EpS.putI (s:EpS)(i:Nat)(b:Bool):EpS:={s with ins:=upd' s.ins i b}
def EpS.putT (s:EpS)(i:Nat)(l:List (Int×Int)):EpS:={s with th:=upd' s.th i l}
section
variable {T:EpT} {m:EpM} {w:World} {i:Nat}
theorem EpRep.re (h:EpRep T m w)(τ:Nat->Question->Nat)(d:Nat):EpRep T m (Car.re w τ d):=⟨h.dom,h.mem,h.ne,h.row,h.blk,h.nd,h.nm,h.sep,h.cap⟩
theorem EpRep.cellE (h:EpRep T m w):w.cell? ⟨T.db,0,none⟩=some (.int .i64 m.s.e):=(zq1 (off:=0) h.dom).trans rfl
theorem EpRep.hdr (h:EpRep T m w):w.cell? ⟨T.db,1,none⟩=some (.slice (some ⟨T.mb,0,none⟩) T.N T.N):=(zq1 (off:=1) h.dom).trans rfl
theorem EpRep.frzE (h:EpRep T m w)(c:Nat):w.frozen? ⟨T.db,c,none⟩=false:=zqh h.dom
theorem EpRep.frzM (h:EpRep T m w)(c:Nat):w.frozen? ⟨T.mb,c,none⟩=false:=zqh h.mem
theorem memC_0(m:EpM)(i:Nat):memC m (i*3+0)=.int .i64 (m.s.mark i):=by
 unfold memC;rw[if_pos (by omega),show(i*3+0) / 3=i from by omega]
theorem memC_1(m:EpM)(i:Nat):memC m (i*3+1)=.bool (m.s.ins i):=by
 unfold memC;rw[if_neg (by omega),if_pos (by omega),show(i*3+1) / 3=i from by omega]
theorem memC_2(m:EpM)(i:Nat):memC m (i*3+2)=m.hv i:=by
 unfold memC;rw[if_neg (by omega),if_neg (by omega),show(i*3+2) / 3=i from by omega]
theorem EpRep.cellM (h:EpRep T m w)(hi:i<T.N):w.cell? ⟨T.mb,i*3+0,none⟩=some (.int .i64 (m.s.mark i)):=(zq1 h.mem).trans ((zq2q (by omega)).trans (by rw[memC_0]))
theorem EpRep.cellI (h:EpRep T m w)(hi:i<T.N):w.cell? ⟨T.mb,i*3+1,none⟩=some (.bool (m.s.ins i)):=(zq1 h.mem).trans ((zq2q (by omega)).trans (by rw[memC_1]))
theorem EpRep.cellT (h:EpRep T m w)(hi:i<T.N):w.cell? ⟨T.mb,i*3+2,none⟩=some (m.hv i):=(zq1 h.mem).trans ((zq2q (by omega)).trans (by rw[memC_2]))
theorem zqdd{N:Nat}(hi:i<N)(x:Int):(memA N m).setIfInBounds (i*3+0) (.int .i64 x)=memA N ⟨m.s.putM i x,m.hv,m.X⟩:=zq5q hi (by decide) (by rw[memC_0];simp[EpS.putM]) λj hj=>by
 unfold memC EpS.putM
 by_cases e:j % 3=0
 . rw[if_pos e,if_pos e];simp only[zqx m.s.mark x (show j / 3≠i by omega)]
 . rw[if_neg e,if_neg e]
theorem zqdc{N:Nat}(hi:i<N)(x:Bool):(memA N m).setIfInBounds (i*3+1) (.bool x)=memA N ⟨m.s.putI i x,m.hv,m.X⟩:=zq5q hi (by decide) (by rw[memC_1];simp[EpS.putI]) λj hj=>by
 unfold memC EpS.putI
 by_cases e:j % 3=0
 . rw[if_pos e,if_pos e]
 . rw[if_neg e,if_neg e]
   by_cases e1:j % 3=1
   . rw[if_pos e1,if_pos e1];simp only[zqx m.s.ins x (show j / 3≠i by omega)]
   . rw[if_neg e1,if_neg e1]
theorem zqde{N:Nat}(hi:i<N)(l:List (Int×Int))(v:Value)(X':Nat->Nat->Option Obj):(memA N m).setIfInBounds (i*3+2) v=memA N ⟨m.s.putT i l,upd' m.hv i v,X'⟩:=zq5q hi (by decide) (by rw[memC_2];simp) λj hj=>by
 unfold memC EpS.putT
 by_cases e:j % 3=0
 . rw[if_pos e,if_pos e]
 . rw[if_neg e,if_neg e]
   by_cases e1:j % 3=1
   . rw[if_pos e1,if_pos e1]
   . rw[if_neg e1,if_neg e1];simp only[zqx m.hv v (show j / 3≠i by omega)]
end
theorem thC_get{l:List (Int×Int)}:∀{j:Nat}{x:Int×Int},l[j]?=some x->(thC l)[j*2]?=some (.int .i64 x.1)/\(thC l)[j*2+1]?=some (.int .i64 x.2):=by
 induction l with
 |nil=>intro j x h;simp at h
 |cons y l ih=>
  intro j x h;have e:thC (y::l)=.int .i64 y.1::.int .i64 y.2::thC l:=rfl;cases j with
  |zero=>
   simp only[al_g0,al_oi]at h;subst h;exact⟨rfl,rfl⟩
  |succ j=>
   simp only[al_g1]at h;have:=ih h;rw[e,show(j+1)*2=j*2+1+1 from by omega];simpa using this
theorem zqal{X:Nat->Option Obj}{tT:TypeId}{v:Value}{l:List (Int×Int)}{w:World}(h:RowB X tT 2 v l.length (thC l))(hX:∀b o,X b=some o->w.heap[b]?=some o):∃p C,v=.slice p l.length C/\∀j x,l[j]?=some x->∃g,p=some ⟨g,0,none⟩/\X g≠none/\w.cell? ⟨g,j*2,none⟩=some (.int .i64 x.1)/\w.cell? ⟨g,j*2+1,none⟩=some (.int .i64 x.2):=by
 obtain⟨hl,h2⟩:=h;rcases h2 with⟨a,b,c⟩|⟨g,cap,cur,a,b,c1,c2,c3,c4⟩
 . refine⟨none,0,by rw[a,b],λj x hj=>?_⟩;have:=(List.getElem?_eq_some_iff.1 hj).1;omega
 . refine⟨_,cap,a,λj x hj=>⟨g,rfl,by rw[b];simp,?_⟩⟩;have hg:=hX g (.cells cur tT (0,0)) (by rw[b];simp);have hlt:=(List.getElem?_eq_some_iff.1 hj).1;obtain⟨h5,h6⟩:=thC_get hj;have key:∀k,k<l.length*2->cur[k]?=(thC l)[k]?:=λk hk=>by
    rw[<-c4,List.getElem?_take,if_pos hk,Array.getElem?_toList]
   exact⟨(zq1 hg).trans ((key _ (by omega)).trans h5),(zq1 hg).trans ((key _ (by omega)).trans h6)⟩
section
variable {M2 S2:Type} {D:Core M2 S2} {ro:Nat->Option Obj} {i:Nat} {T:EpT} {m:BM (EpM×M2)} {wc w':World}
theorem ep_at(hB:BRep (zqd (zqb T) D) ro m wc):EpRep T m.l.1 wc:=hB.core.1
theorem zq5g(hB:BRep (zqd (zqb T) D) ro m wc){s':EpS}(hth:s'.th=m.l.1.s.th)(hs:wc.heap.size=w'.heap.size)(ho:∀b,b≠T.db->b≠T.mb->w'.heap[b]?=wc.heap[b]?)
 (hd:w'.heap[T.db]?=some (.cells #[.int .i64 s'.e,.slice (some ⟨T.mb,0,none⟩) T.N T.N] T.tD)) (hm:w'.heap[T.mb]?=some (.cells (memA T.N ⟨s',m.l.1.hv,m.l.1.X⟩) T.tM)):
 Moved (zqd (zqb T) D) m.l (m.box i) wc (⟨s',m.l.1.hv,m.l.1.X⟩,m.l.2) (m.box i) w':=by
 have h:=ep_at hB;have hbn:∀b,(zqb T).foot m.l.1 b->m.box i b=none:=λb hb=>Classical.byContradiction λx=>hB.apart i b x (.inl hb);refine Moved.left hB ⟨Nat.le_of_eq hs,λb hb h1 h2=>ho b (λe=>h1 (.inl e)) (λe=>h1 (.inr (.inl e))),⟨hd,hm,h.ne,λj hj=>by rw[hth];exact h.row j hj,λj b o hj hb=>?_,h.nd,h.nm,h.sep,λj hj=>by rw[hth];exact h.cap j hj⟩,λb o hb=>?_,λb hb=>.inl hb,λb hb=>.inl hb,λb hb=>hbn b hb,rfl⟩
 . rw[ho b (λe=>by subst e;rw[h.nd j hj]at hb;cases hb) (λe=>by subst e;rw[h.nm j hj]at hb;cases hb)];exact h.blk j b o hj hb
 . have hn:m.box i b≠none:=by rw[hb];simp
   rw[ho b (λe=>hn (hbn b (.inl e))) (λe=>hn (hbn b (.inr (.inl e))))];exact hB.box i b o hb
theorem ep_setE(hB:BRep (zqd (zqb T) D) ro m wc)(x:Int)(τ:Nat->Question->Nat)(d:Nat)(τ':Nat->Question->Nat)(d':Nat):Moved (zqd (zqb T) D) m.l (m.box i) wc (⟨m.l.1.s.putE x,m.l.1.hv,m.l.1.X⟩,m.l.2) (m.box i) (re ((re wc τ d).setCell ⟨T.db,0,none⟩ (.int .i64 x)) τ' d'):=by
 have h:=ep_at hB;refine zq5g hB rfl (zqz (re wc τ d) _ _).symm (λb h1 h2=>zql (re wc τ d) _ _ _ h1) ?_ ?_
 . refine(zqy (re wc τ d) _ _ _ h.dom).trans rfl
 . exact(zql (re wc τ d) _ _ _ (Ne.symm h.ne)).trans h.mem
theorem ep_setM(hB:BRep (zqd (zqb T) D) ro m wc){j:Nat}(hj:j<T.N)(x:Int)(τ:Nat->Question->Nat)(d:Nat)(τ':Nat->Question->Nat)(d':Nat):Moved (zqd (zqb T) D) m.l (m.box i) wc (⟨m.l.1.s.putM j x,m.l.1.hv,m.l.1.X⟩,m.l.2) (m.box i) (re ((re wc τ d).setCell ⟨T.mb,j*3+0,none⟩ (.int .i64 x)) τ' d'):=by
 have h:=ep_at hB;refine zq5g hB rfl (zqz (re wc τ d) _ _).symm (λb h1 h2=>zql (re wc τ d) _ _ _ h2) ?_ ?_
 . exact(zql (re wc τ d) _ _ _ h.ne).trans h.dom
 . refine(zqy (re wc τ d) _ _ _ h.mem).trans ?_;rw[zqdd hj]
theorem ep_setI(hB:BRep (zqd (zqb T) D) ro m wc){j:Nat}(hj:j<T.N)(x:Bool)(τ:Nat->Question->Nat)(d:Nat)(τ':Nat->Question->Nat)(d':Nat):Moved (zqd (zqb T) D) m.l (m.box i) wc (⟨m.l.1.s.putI j x,m.l.1.hv,m.l.1.X⟩,m.l.2) (m.box i) (re ((re wc τ d).setCell ⟨T.mb,j*3+1,none⟩ (.bool x)) τ' d'):=by
 have h:=ep_at hB;refine zq5g hB rfl (zqz (re wc τ d) _ _).symm (λb h1 h2=>zql (re wc τ d) _ _ _ h2) ?_ ?_
 . exact(zql (re wc τ d) _ _ _ h.ne).trans h.dom
 . refine(zqy (re wc τ d) _ _ _ h.mem).trans ?_;rw[zqdc hj]
theorem zq71(hB:BRep (zqd (zqb T) D) ro m wc)(k:Nat)(hi:k<T.N){l':List (Int×Int)}{v':Value}{X' B':Nat->Option Obj}(hs:wc.heap.size<=w'.heap.size)
 (ho:∀b,b<wc.heap.size->b≠T.mb->m.l.1.X k b=none->w'.heap[b]?=wc.heap[b]?) (hm:w'.heap[T.mb]?=some (.cells ((memA T.N m.l.1).setIfInBounds (k*3+2) v') T.tM))
 (hl:l'.length<=mostT) (hr:RowB X' T.tT 2 v' l'.length (thC l')) (hx:∀b o,X' b=some o->w'.heap[b]?=some o) (hg:∀b,X' b≠none->m.l.1.X k b≠none\/wc.heap.size<=b)
 (hb:∀b o,B' b=some o->w'.heap[b]?=some o) (hbg:∀b,B' b≠none->m.box i b≠none\/wc.heap.size<=b) (hd:∀b,X' b≠none->B' b=none):
 Moved (zqd (zqb T) D) m.l (m.box i) wc (⟨m.l.1.s.putT k l',upd' m.l.1.hv k v',upd' m.l.1.X k X'⟩,m.l.2) B' w':=by
 have h:=ep_at hB;have hlt:∀b,(zqb T).foot m.l.1 b->b<wc.heap.size:=λb hb=>(zqb T).lt _ _ _ h hb;have hXk:∀j b,j<T.N->j≠k->m.l.1.X j b≠none->m.l.1.X k b=none:=λj b hj hne hb=>h.sep j k b hj hi hne hb;have hbn:∀b,(zqb T).foot m.l.1 b->m.box i b=none:=λb hb=>Classical.byContradiction λx=>hB.apart i b x (.inl hb);have hfg:∀b,(zqb T).foot ⟨m.l.1.s.putT k l',upd' m.l.1.hv k v',upd' m.l.1.X k X'⟩ b->((zqb T).foot m.l.1 b\/wc.heap.size<=b):=by
  rintro b (e|e|⟨j,hj,hb⟩)
  . exact .inl (.inl e)
  . exact .inl (.inr (.inl e))
  . by_cases e:j=k
    . subst e;have hb2:X' b≠none:=by simpa using hb
      exact(hg b hb2).imp (λx=>.inr (.inr ⟨j,hj,x⟩)) id
    . have hb2:m.l.1.X j b≠none:=by simpa[zqx _ _ e]using hb
      exact .inl (.inr (.inr ⟨j,hj,hb2⟩))
 refine Moved.left hB ⟨hs,λb hb h1 h2=>ho b hb (λe=>h1 (.inr (.inl e))) (Classical.byContradiction λx=>h1 (.inr (.inr ⟨k,hi,x⟩))),⟨?_,?_,h.ne,λj hj=>?_,λj b o hj hb=>?_,λj hj=>?_,λj hj=>?_,λj1 j2 b h1 h2 hne hb=>?_,λj hj=>?_⟩,hb,λb hb=>(hfg b hb).imp id .inr,hbg,λb hf=>?_,rfl⟩
 . rw[ho T.db (hlt _ (.inl rfl)) h.ne (h.nd k hi)];exact h.dom
 . rw[hm,zqde hi]
 . by_cases e:j=k
   . subst e;simp only[upd'_same,EpS.putT];exact hr
   . simp only[zqx _ _ e,EpS.putT];exact h.row j hj
 . by_cases e:j=k
   . subst e;simp only[upd'_same]at hb;exact hx b o hb
   . simp only[zqx _ _ e]at hb;have hn:m.l.1.X j b≠none:=by rw[hb];simp
     rw[ho b (zqs (h.blk j b o hj hb)) (λx=>hn (by rw[x];exact h.nm j hj)) (hXk j b hj e hn)];exact h.blk j b o hj hb
 . by_cases e:j=k
   . subst e;simp only[upd'_same];exact Classical.byContradiction λx=>(hg _ x).elim (λy=>y (h.nd j hj)) (λy=>absurd (hlt _ (.inl rfl)) (Nat.not_lt_of_le y))
   . simp only[zqx _ _ e];exact h.nd j hj
 . by_cases e:j=k
   . subst e;simp only[upd'_same];exact Classical.byContradiction λx=>(hg _ x).elim (λy=>y (h.nm j hj)) (λy=>absurd (hlt _ (.inr (.inl rfl))) (Nat.not_lt_of_le y))
   . simp only[zqx _ _ e];exact h.nm j hj
 . by_cases e1:j1=k
   . subst e1;simp only[upd'_same]at hb;simp only[zqx _ _ (Ne.symm hne)];refine Classical.byContradiction λx=>(hg b hb).elim (λy=>x (h.sep _ _ b h1 h2 hne y)) (λy=>?_);exact absurd (hlt b (.inr (.inr ⟨j2,h2,x⟩))) (Nat.not_lt_of_le y)
   . simp only[zqx _ _ e1]at hb
     by_cases e2:j2=k
     . subst e2;simp only[upd'_same];refine Classical.byContradiction λx=>(hg b x).elim (λy=>y (h.sep _ _ b h1 h2 hne hb)) (λy=>?_);exact absurd (hlt b (.inr (.inr ⟨j1,h1,hb⟩))) (Nat.not_lt_of_le y)
     . simp only[zqx _ _ e2];exact h.sep j1 j2 b h1 h2 hne hb
 . by_cases e:j=k
   . subst e;simp only[upd'_same,EpS.putT];exact hl
   . simp only[zqx _ _ e,EpS.putT];exact h.cap j hj
 . refine Classical.byContradiction λx=>?_;rcases hf with e|e|⟨j,hj,hf⟩
   . subst e;exact(hbg _ x).elim (λy=>y (hbn _ (.inl rfl))) (λy=>absurd (hlt _ (.inl rfl)) (Nat.not_lt_of_le y))
   . subst e;exact(hbg _ x).elim (λy=>y (hbn _ (.inr (.inl rfl)))) (λy=>absurd (hlt _ (.inr (.inl rfl))) (Nat.not_lt_of_le y))
   . by_cases e:j=k
     . subst e;have hf2:X' b≠none:=by simpa using hf
       exact x (hd b hf2)
     . have hf2:m.l.1.X j b≠none:=by simpa[zqx _ _ e]using hf
       exact(hbg _ x).elim (λy=>y (hbn _ (.inr (.inr ⟨j,hj,hf2⟩)))) (λy=>absurd (hlt _ (.inr (.inr ⟨j,hj,hf2⟩))) (Nat.not_lt_of_le y))
theorem ep_push(hB:BRep (zqd (zqb T) D) ro m wc)(k:Nat)(hk:k<T.N)(x:Int×Int)(hl:(m.l.1.s.th k).length<mostT){w1 w2:World}(h1s:w1.heap.size=wc.heap.size+1)(h1o:∀b,b<wc.heap.size->w1.heap[b]?=wc.heap[b]?){g cap:Nat}
 (hown:w2.ownsRow 0 T.tT 2 (.slice (some ⟨g,0,none⟩) ((m.l.1.s.th k).length+1) cap) ((m.l.1.s.th k).length+1) (thC (m.l.1.s.th k)++[.int .i64 x.1,.int .i64 x.2])) (hg:w1.grownBy w2 (m.l.1.hv k).ownBlock) (hat:(m.l.1.hv k).ownBlock=some g\/g=w1.heap.size) (τ:Nat->Question->Nat) (d:Nat):
 ∃m',m'.s=m.l.1.s.putT k (m.l.1.s.th k++[x])/\Moved (zqd (zqb T) D) m.l (m.box i) wc (m',m.l.2) (m.box i) (re (w2.setCell ⟨T.mb,k*3+2,none⟩ (.slice (some ⟨g,0,none⟩) ((m.l.1.s.th k).length+1) cap)) τ d):=by
 have h:=ep_at hB;have hlt:∀b,(zqb T).foot m.l.1 b->b<wc.heap.size:=λb hb=>(zqb T).lt _ _ _ h hb;have hbn:∀b,(zqb T).foot m.l.1 b->m.box i b=none:=λb hb=>Classical.byContradiction λx=>hB.apart i b x (.inl hb);have hrow:=h.row k hk;have hold2:∀b,b<wc.heap.size->m.l.1.X k b=none->w2.heap[b]?=wc.heap[b]?:=λb hb hx=>by
  rw[hg.block b (by omega) (λe=>(hrow.block b).2 e.symm hx)];exact h1o b hb
 have hs2:wc.heap.size<=w2.heap.size:=by have:=hg.size;omega
 obtain⟨hl2,h2⟩:=hown;rcases h2 with⟨e,_⟩|⟨g',cap',cur,e,_,hh,c1,c2,c3,c4⟩
 . cases e
 cases e;have hgx:m.l.1.X k g≠none\/wc.heap.size<=g:=hat.imp (λe=>(hrow.block g).2 e) (λe=>by omega);have hgm:g≠T.mb:=λe=>by
  subst e;rcases hgx with x|x
  . exact x (h.nm k hk)
  . have:=hlt T.mb (.inr (.inl rfl));omega
 have hmm:w2.heap[T.mb]?=some (.cells (memA T.N m.l.1) T.tM):=(hold2 T.mb (hlt _ (.inr (.inl rfl))) (h.nm k hk)).trans h.mem;have hw3:∀b,b≠T.mb->(w2.setCell ⟨T.mb,k*3+2,none⟩ (.slice (some ⟨g,0,none⟩) ((m.l.1.s.th k).length+1) cap)).heap[b]?=w2.heap[b]?:=λb hb=>zql _ _ _ _ hb;refine⟨_,rfl,zq71 (X':=λb=>if b=g then some (.cells cur T.tT (0,0))else none) hB k hk (l':=m.l.1.s.th k++[x]) (v':=.slice (some ⟨g,0,none⟩) ((m.l.1.s.th k).length+1) cap) ?_ (λb hb h1 hx=>?_) ?_ ?_ ?_ (λb o hb=>?_) (λb hb=>?_) (λb o hb=>?_) (λb hb=>.inl hb) (λb hb=>?_)⟩
 . show wc.heap.size<=(w2.setCell _ _).heap.size;rw[zqz];exact hs2
 . exact(hw3 b h1).trans (hold2 b hb hx)
 . exact zqy _ _ _ _ hmm
 . simp only[List.length_append,List.length_cons,List.length_nil];omega
 . have e1:(m.l.1.s.th k++[x]).length=(m.l.1.s.th k).length+1:=by simp
   have e2:thC (m.l.1.s.th k++[x])=thC (m.l.1.s.th k)++[.int .i64 x.1,.int .i64 x.2]:=by rw[zqak];rfl
   rw[e1,e2];exact⟨hl2,.inr ⟨g,cap,cur,rfl,rfl,c1,c2,c3,c4⟩⟩
 . by_cases e:b=g
   . subst e;simp only[if_true]at hb;refine(hw3 b hgm).trans ?_;rw[<-hb];exact hh
   . simp[e]at hb
 . by_cases e:b=g
   . subst e;exact hgx
   . simp[e]at hb
 . have hn:m.box i b≠none:=by rw[hb];simp
   have hx:m.l.1.X k b=none:=Classical.byContradiction λy=>hn (hbn b (.inr (.inr ⟨k,hk,y⟩)));have hm1:b≠T.mb:=λe=>hn (hbn b (.inr (.inl e)));refine(hw3 b hm1).trans ((hold2 b (hB.lt (.inr (.inl ⟨i,hn⟩))) hx).trans ?_);exact hB.box i b o hb
 . by_cases e:b=g
   . subst e;rcases hgx with y|y
     . exact hbn b (.inr (.inr ⟨k,hk,y⟩))
     . exact Classical.byContradiction λz=>by have:=hB.lt (.inr (.inl ⟨i,z⟩));omega
   . simp[e]at hb
end
section
variable {P:Program}
end
section
variable {P:Program} {A:FuncId->Bool} {Ml S α:Type} {C:Core Ml S} {ro:Nat->Option Obj} {i:Nat}
structure LoneAt(C:Core Ml S)(ro:Nat->Option Obj)(i cf:Nat)(m₀:BM Ml)(w₀:World)(T:S×Option α×Nat)(m:BM Ml)(w:World)(r:S×Tree S α):Prop where
 rep:BRep C ro m w
 size:w₀.heap.size<=w.heap.size
 old:∀b,b<w₀.heap.size->¬BM.foot C ro m₀ b->w.heap[b]?=w₀.heap[b]?
 grow:∀b,BM.foot C ro m b->BM.foot C ro m₀ b\/w₀.heap.size<=b
 run:∃n,r.2.run r.1=(T.1,T.2.1,n)/\(∃a,T.2.1=some a)/\C.pin m.l+cf*n=C.pin m₀.l+cf*T.2.2
 others:∀j,j≠i->m.box j=m₀.box j
theorem LoneAt.done {cf:Nat}{m₀:BM Ml}{w₀:World}{T:S×Option α×Nat}{m:BM Ml}{w w':World}{r:S×Tree S α}{l':Ml}{B':Nat->Option Obj}(h:LoneAt C ro i cf m₀ w₀ T m w r)(k:Moved C m.l (m.box i) w l' B' w'):LoneAt C ro i cf m₀ w₀ T (m.put i l' B') w' r:=by
 refine⟨k.done h.rep,Nat.le_trans h.size k.size,λb hb hf=>?_,λb hb=>?_,?_,λj hj=>(BM.put_other _ _ _ hj).trans (h.others j hj)⟩
 . rw[Moved.foot_old h.rep k b (Nat.lt_of_lt_of_le hb h.size) λhf'=>(h.grow b hf').elim hf (λx=>absurd hb (Nat.not_lt_of_le x))];exact h.old b hb hf
 . exact(k.foot_grow b hb).elim (h.grow b) (λx=>.inr (Nat.le_trans h.size x))
 . obtain⟨n,h1,h2,h3⟩:=h.run;exact⟨n,h1,h2,by rw[BM.put_l,k.pin];exact h3⟩
def zq5v(hP:Plain P A){main:Bool}{Kc:Addr->Option Value}{J:Goroutine->World->Prop}(hJ:JS P main Kc (λ(_:Unit)=>J))(hC:CalmJ P main (λ(_:Unit)=>J))(C:Core Ml S)(ro:Nat->Option Obj)(i cf:Nat)(m₀:BM Ml)(w₀:World)(T:S×Option α×Nat):Alone P A C ro i α where
 main:=main
 γ:=Unit
 J _:=J
 js _:=⟨Kc,hJ⟩
 AtE _ m w r:=LoneAt C ro i cf m₀ w₀ T m w r
 Dead _ _ _:=False
 Oth _ _:=True
 oth _:=trivial
 rep h:=h.rep
 move h k _:=h.done k
 item {s m w r it t ds} Φ Ψ h hok hw:=by
  intro b k cs hb hk;refine wpI_lone (J:=λ(_:Unit)=>J) (s:=()) (A:=A) (a:=⟨t,ds⟩) (w:=w)
   (Q:=λ_ e a w'=>a.defers=ds/\∃l' B',((e=.normal/\Φ a.tmps l' B')\/(e=.ret/\Ψ a.tmps l' B'))/\LoneAt C ro i cf m₀ w₀ T (m.put i l' B') w' r) hJ hC hP hok
   (λa w'=>∃l' B',Moved C m.l (m.box i) w l' B' w'/\Φ a.tmps l' B') (λa w'=>∃l' B',Moved C m.l (m.box i) w l' B' w'/\Ψ a.tmps l' B')
   (λa w' τ d⟨l',B',h2,h3⟩=>⟨l',B',h2.re τ d,h3⟩) (λa w' τ d⟨l',B',h2,h3⟩=>⟨l',B',h2.re τ d,h3⟩) ?_ ?_ ?_ b k cs hb ?_
  . intro τ d;refine zq28 (hw (Car.re w τ d) (h.rep.re τ d) rfl) ?_;intro e a w' q;cases e with
    |normal=>obtain⟨q1,l',B',⟨q2,_⟩,q3⟩:=q;exact⟨q1,l',B',⟨q2.size,q2.old,q2.rep,q2.box,q2.growl,q2.growb,q2.apart,q2.pin⟩,q3⟩
    |ret=>obtain⟨q1,l',B',⟨q2,_⟩,q3⟩:=q;exact⟨q1,l',B',⟨q2.size,q2.old,q2.rep,q2.box,q2.growl,q2.growb,q2.apart,q2.pin⟩,q3⟩
    |_=>exact q
  . rintro t' w' ⟨l',B',h2,h3⟩;exact⟨rfl,l',B',.inl ⟨rfl,h3⟩,h.done h2⟩
  . rintro t' w' ⟨l',B',h2,h3⟩;exact⟨rfl,l',B',.inr ⟨rfl,h3⟩,h.done h2⟩
  . rintro _ e a w' ⟨h1,l',B',h2,h3⟩;have:=hk s e a w' ⟨rfl,h1,l',B',h2,h3⟩;cases e<;>exact this
 call {s m w r g fn c args} R' h hf hb hok hw:=by
  intro cl cs h1 h2;refine zq6r (J:=λ(_:Unit)=>J) (s:=()) (A:=A) (w:=w) hJ hC hP hf hb hok (R:=λv w'=>∃l' B',Moved C m.l (m.box i) w l' B' w'/\R' v l' B')
   (λv w' τ d⟨l',B',h2,h3⟩=>⟨l',B',h2.re τ d,h3⟩) ?_ cl cs ?_ ?_
  . intro τ d;refine Calls.mono (hw (Car.re w τ d) (h.rep.re τ d) rfl) ?_;intro e w' q;cases e with
    |returned v=>obtain⟨l',B',⟨q2,_⟩,q3⟩:=q;exact⟨l',B',⟨q2.size,q2.old,q2.rep,q2.box,q2.growl,q2.growb,q2.apart,q2.pin⟩,q3⟩
    |_=>exact q
  . rintro s' v w' ⟨_,l',B',k1,k2⟩;exact h1 () v w' ⟨rfl,v,l',B',rfl,k2,h.done k1⟩
  . rintro s' ch w' hf';exact hf'.elim
abbrev zq41(hP:Plain P A){main:Bool}{Kc:Addr->Option Value}{J:Goroutine->World->Prop}(hJ:JS P main Kc (λ(_:Unit)=>J))(hC:CalmJ P main (λ(_:Unit)=>J))(C:Core Ml S)(ro:Nat->Option Obj)(i cf:Nat)(m₀:BM Ml)(w₀:World)(T:S×Option α×Nat):YSys P A C ro i α:=(zq5v hP hJ hC C ro i cf m₀ w₀ T).sys (λ_=>True)
theorem zqeg(hP:Plain P A){main:Bool}{Kc:Addr->Option Value}{J:Goroutine->World->Prop}(hJ:JS P main Kc (λ(_:Unit)=>J))(hC:CalmJ P main (λ(_:Unit)=>J)){f:FuncId}{args:Array Value}{p:Proc S α}{val:α->Value}{m₀:BM Ml}{w₀:World}(hrep:BRep C ro m₀ w₀)(hT:∃a,(p.run (C.st m₀.l)).2.1=some a)(cf:Nat)
 (hspec:SpecY (zq41 hP hJ hC C ro i cf m₀ w₀ (p.run (C.st m₀.l))) f args p val) {cl:Frame} {cs:List Frame}
 (hq:∀a m' w',m'.box i=m₀.box i->LoneAt C ro i cf m₀ w₀ (p.run (C.st m₀.l)) m' w' (C.st m'.l,.ret a)->J (G (cl.finish (val a)) cs) w'):J (G (Frame.enter P f args .normal) (cl::cs)) w₀:=by
 have h0:LoneAt C ro i cf m₀ w₀ (p.run (C.st m₀.l)) m₀ w₀ (p.bind Proc.ret (C.st m₀.l)):=by
  rw[Proc.bind_pure];exact⟨hrep,Nat.le_refl _,λ_ _ _=>rfl,λ_ h=>.inl h,⟨_,rfl,hT,rfl⟩,λ_ _=>rfl⟩
 refine hspec Proc.ret () m₀ w₀ (λ_=>trivial) ⟨h0,trivial⟩ cl cs ?_ ?_
 . rintro s' v w' ⟨a,m',rfl,k2,k3,_⟩;exact hq a m' w' k2 k3
 . intro s' ch w' hf;exact hf.elim
theorem LoneAt.skip {m₀:BM Ml}{w₀:World}{T:S×Option α×Nat}{m:BM Ml}{w:World}{K:Unit->Proc S α}(h:LoneAt C ro i 0 m₀ w₀ T m w (Proc.tick.bind K (C.st m.l))):LoneAt C ro i 0 m₀ w₀ T m w (K () (C.st m.l)):=by
 refine⟨h.rep,h.size,h.old,h.grow,?_,h.others⟩;obtain⟨n,h1,h2,h3⟩:=h.run;have e:(Proc.tick.bind K (C.st m.l)).2.run (Proc.tick.bind K (C.st m.l)).1=(((K ()).run (C.st m.l)).1,((K ()).run (C.st m.l)).2.1,((K ()).run (C.st m.l)).2.2+1):=rfl;rw[e]at h1;refine⟨((K ()).run (C.st m.l)).2.2,?_,h2,by omega⟩;show(K ()).run (C.st m.l)=_;have a1:=congrArg (λx=>x.1) h1;have a2:=congrArg (λx=>x.2.1) h1;exact Prod.ext a1 (Prod.ext a2 rfl)
end
end Go.Car
namespace Go.Proofs
open Go Go.Conc Go.RowKit Go.Car
theorem zq4r(ad:Addr)(x:Int)(w:World)(h0:w.cell? ad=some (.int .i64 x)):
 Calls Try.prog 46 #[.pointer (some ad)] w λe w'=>e=.returned (.int .i64 x)/\w'=w:=by
 have hl:=run_call_load (P:=Try.prog) Try.func55 (by kernel_rfl) (by kernel_rfl) (by kernel_rfl) .i64 (by kernel_rfl) h0
 go_enter Try.func46,Try.ntmps46
 go_wp2;go_ret;exact⟨rfl,rfl⟩
theorem zq61(ad:Addr)(x y:Int)(w:World)(h0:w.cell? ad=some (.int .i64 x))(f0:w.frozen? ad=false):
 Calls Try.prog 50 #[.pointer (some ad),.int .i64 y] w λe w'=>e=.returned (.tuple #[])/\w'=w.setCell ad (.int .i64 y):=by
 have hl:=run_call_store (P:=Try.prog) Try.func56 (by kernel_rfl) (by kernel_rfl) (by kernel_rfl) (by kernel_rfl) (k:=.i64) (y:=y) h0 f0
 go_enter Try.func50,Try.ntmps50
 go_wp2
 go_end0
 exact⟨rfl,rfl⟩
theorem zqbg(ad:Addr)(x y:Int)(w:World)(h0:w.cell? ad=some (.int .i64 x))(f0:w.frozen? ad=false):
 Calls Try.prog 51 #[.pointer (some ad),.int .i64 x,.int .i64 y] w λe w'=>e=.returned (.bool true)/\w'=w.setCell ad (.int .i64 y):=by
 have hl:=run_call_cas_hit (P:=Try.prog) Try.func57 (by kernel_rfl) (by kernel_rfl) (by kernel_rfl) .i64 (by kernel_rfl) (y:=y) h0 f0
 go_enter Try.func51,Try.ntmps51
 go_wp2;go_ret;exact⟨rfl,rfl⟩
theorem zqbh(ad:Addr)(x o y:Int)(w:World)(h0:w.cell? ad=some (.int .i64 x))(f0:w.frozen? ad=false)(hne:¬x=o):
 Calls Try.prog 51 #[.pointer (some ad),.int .i64 o,.int .i64 y] w λe w'=>e=.returned (.bool false)/\w'=w:=by
 have hl:=run_call_cas_miss (P:=Try.prog) Try.func57 (by kernel_rfl) (by kernel_rfl) (by kernel_rfl) .i64 (by kernel_rfl) (y:=y) h0 f0 hne
 go_enter Try.func51,Try.ntmps51
 go_wp2;go_ret;exact⟨rfl,rfl⟩
def loadE(s:EpS):EpS×Int:=(s,s.e)
def loadM(j:Nat)(s:EpS):EpS×Int:=(s,s.mark j)
def zq42(j:Nat)(x:Int)(s:EpS):EpS×Unit:=(s.putM j x,())
def casE(o x:Int)(s:EpS):EpS×Bool:=if s.e=o then(s.putE x,true)else(s,false)
def getI(k:Nat)(s:EpS):EpS×Bool:=(s,s.ins k)
def setI(k:Nat)(b:Bool)(s:EpS):EpS×Unit:=(s.putI k b,())
def pushT(k:Nat)(x:Int×Int)(s:EpS):EpS×Bool:=if(s.th k).length<mostT then(s.putT k (s.th k++[x]),true)else(s,false)
def oldT(e:Int)(t:Int×Int):Bool:=decide (t.2<=wrap64 (e - 2))
def takeT(k:Nat)(e:Int)(s:EpS):EpS×List Int:=(s.putT k ((s.th k).filter λt=>!oldT e t),((s.th k).filter (oldT e)).map Prod.fst)
theorem zq7u{w:World}{db N C:Nat}{p:Option Addr}(h:w.cell? ⟨db,1,none⟩=some (.slice p N C))(hN:N<=1099511627776):
 Calls Try.prog 12 #[.pointer (some ⟨db,0,none⟩)] w λe w'=>e=.returned (.int .i64 N)/\w'=w:=by
 go_enter Try.func12,Try.ntmps12
 go_wp2;go_ret;exact⟨rfl,rfl⟩
theorem zq7a{w:World}{db mb N k:Nat}(h:w.cell? ⟨db,1,none⟩=some (.slice (some ⟨mb,0,none⟩) N N))(hk:k<N)(hN:N<=1099511627776):
 Calls Try.prog 47 #[.pointer (some ⟨db,0,none⟩),.int .i64 k] w λe w'=>e=.returned (.pointer (some ⟨mb,k*3,none⟩))/\w'=w:=by
 have h1:¬(k:Int)<0:=by omega
 have h2:(k:Int)<(N:Int):=by omega
 have h3:¬(N:Int)<=(k:Int):=by omega
 have h4:(0:Int)<=(k:Int):=by omega
 have hm:=zq7u h hN
 go_enter Try.func47,Try.ntmps47
 go_wp2_with (fail)
 refine Calls.mono hm ?_;rintro e w' ⟨rfl,rfl⟩;go_wp2;go_ret;exact⟨rfl,rfl⟩
end Go.Proofs
namespace Go.Car
open Go Go.Conc Go.RowKit
section
variable {P:Program} {A:FuncId->Bool} {Ml S β α:Type} {C:Core Ml S} {ro:Nat->Option Obj} {i:Nat}
theorem Alone.restS (Z:Alone P A C ro i β){I:S->Prop}{c:Code}{fn:Func}{Post:Z.γ->Ending->World->Prop}{g:S->S×α}{K:α->Proc S β}{s:Z.γ}{m:BM Ml}{w:World}{t:Array Value}(Φ:Array Value->(Nat->Option Obj)->Prop)(h:(Z.sys I).At s m w ((Proc.act g).bind K))(hok:zqp P A c=true)
 (hI:∀s,I s->I (g s).1) (hO:∀s,Z.Oth s (g s).1)
 (hx:∀wc,BRep C ro m wc->I (C.st m.l)->∀X:Act->World->Prop,(∀t l' B' w',Moved C m.l (m.box i) wc l' B' w'->C.st l'=(g (C.st m.l)).1->Φ t B'->X ⟨t,[]⟩ w')->Code.wp P c (ends X X) ⟨t,[]⟩ wc)
 (hp:∀t' m' w',Φ t' (m'.box i)->(Z.sys I).At s m' w' (K (g (C.st m.l)).2)->(Z.sys I).Bd fn Post s ⟨t',[]⟩ w'):wpJ Z.J c (bodyC ((Z.sys I).Bd fn Post) Post) s ⟨t,[]⟩ w:=by
 intro b k cs hb hk;refine Z.item (it:=.code c) (ds:=[]) (λt l' B'=>C.st l'=(g (C.st m.l)).1/\Φ t B') (λt l' B'=>C.st l'=(g (C.st m.l)).1/\Φ t B') h.1 hok (λwc hB _=>zq28 (zq59 (hx wc hB h.2 (λa w'=>∃l' B',(Moved C m.l (m.box i) wc l' B' w'/\Z.Oth (C.st m.l) (C.st l'))/\C.st l'=(g (C.st m.l)).1/\Φ a.tmps B') λt l' B' w' k1 k2 k3=>⟨l',B',⟨k1,by rw[k2];exact hO _⟩,k2,k3⟩)) λe a w' q=>?_) b k cs hb ?_
 . cases e with
   |normal=>exact q
   |ret=>exact q
   |_=>exact q
 . rintro s' e a w' ⟨rfl,hd,l',B',hh,hA⟩;obtain⟨tt,dd⟩:=a;simp only at hd hh;subst hd;have key:∀h1:C.st l'=(g (C.st m.l)).1,(Z.sys I).At s' (m.put i l' B') w' (K (g (C.st m.l)).2):=λh1=>by
    refine⟨?_,?_⟩
    . rw[BM.put_l,h1];exact hA
    . rw[BM.put_l,h1];exact hI _ h.2
   rcases hh with⟨rfl,h1,h2⟩|⟨rfl,h1,h2⟩
   . exact hk _ .normal _ _ (hp tt (m.put i l' B') w' (by rw[BM.put_box];exact h2) (key h1))
   . exact hk _ .ret _ _ (hp tt (m.put i l' B') w' (by rw[BM.put_box];exact h2) (key h1))
theorem YSys.callQ {Y:YSys P A C ro i β}{B:Nat->Option Obj}{Q:Y.γ->Exit->Act->World->Prop}{s:Y.γ}{w:World}{t:Array Value}{ds:List Deferred}{ops:Array Oper}{todo rest:List Nat}(k n q:Nat){t₁:Array Value}{o:Oper}{f:FuncId}{args:Array Value}{pp:Proc S α}{rel:α->Value->(Nat->Option Obj)->Prop}{K:α->Proc S β}{d₀:Tmp}(hA:Y.AtB B s w (pp.bind K))(hspec:SpecR Y f args pp rel)(hK:∀a,Y.sil (K a))
 (hsz:k+n+(q+1)=ops.size) (ht:todo=List.range' k (n+(q+1))) (hr:rest=List.range' (k+n+1) q) (hc:chk P (λ_=>false) true ops k n=true) (ho:ops[k+n]?=some o) (hg:o.guard=none) (hd₀:o.dst=some d₀)
 (hpre:∀wc,Y.KnB B wc->∀X:Exit->Act->World->Prop,(∀w',Ext1 wc w'->X .normal ⟨t₁,ds⟩ w')->wpList P ops X ((ops.toList.drop k).take n) ⟨t,ds⟩ wc)
 (hrun:∀w,(execOp (Act.mk t₁ ds).eval o).run P w=.ok (.enter f args) w) (hev:∀w,(execOp (Act.mk t₁ ds).eval o).events P w #[]=#[])
 (hd:∀s' ch w',Y.Dead s' ch w'->Q s' (.panic ch) ⟨t₁,ds⟩ w')
 (hk:∀s' a v X w',rel a v X->(∀b,X b≠none->B b=none)->Y.AtB (orB X B) s' w' (K a)->opsJ Y.J ops rest Q s' ⟨t₁.setIfInBounds d₀ v,ds⟩ w'):opsJ Y.J ops todo Q s ⟨t,ds⟩ w:=by
 refine Y.pre0 k n (q+1) (rest:=(k+n)::rest) hA hsz ht (by rw[hr,List.range'_succ]) hc hpre λw' hA'=>?_;refine Y.callO (hspec K s B w' hK hA') ho hg hd₀ hrun hev ?_;intro s' e w'' hp;cases e with
 |returned v=>
  obtain⟨a,X,k1,k2,k3⟩:=hp;exact hk s' a v X w'' k1 k2 k3
 |panicked ch=>exact hd s' ch w'' hp
 |outgrown=>exact hp
theorem YSys.endX {Y:YSys P A C ro i β}{B:Nat->Option Obj}{Q:Y.γ->Exit->Act->World->Prop}{s:Y.γ}{w:World}{p:Proc S β}{t:Array Value}{c:Code}(Φ:Array Value->(Nat->Option Obj)->Prop)(h:Y.AtB B s w p)(hok:zqp P A c=true)
 (hx:∀wc,Y.KnB B wc->∀X:Act->World->Prop,(∀t B' w',OMoved B wc B' w'->Φ t B'->X ⟨t,[]⟩ w')->Code.wp P c (ends (λ_ _=>False) X) ⟨t,[]⟩ wc)
 (hp:∀t' B' w',Φ t' B'->Y.AtB B' s w' p->Q s .ret ⟨t',[]⟩ w'):wpJ Y.J c Q s ⟨t,[]⟩ w:=by
 intro b k cs hb hk;refine Y.itemX (it:=.code c) (ds:=[]) (λ_ _=>False) Φ h hok (λwc hB X R _ hR=>zq28 (zq59 (hx wc hB R hR)) λe a w' q=>?_) b k cs hb ?_
 . cases e with
   |normal=>exact q.2.elim
   |ret=>exact q
   |_=>exact q
 . rintro s' e a w' ⟨rfl,hd,B',(⟨_,h1⟩|⟨rfl,h1⟩),hA⟩
   . exact h1.elim
   . obtain⟨tt,dd⟩:=a;simp only at hd h1;subst hd;exact hk _ .ret _ _ (hp _ B' w' h1 hA)
theorem OMoved.behind {B B':Nat->Option Obj}{w w1 w':World}(e:Ext1 w w1)(h:OMoved B w1 B' w')(hB:∀b,B b≠none->b<w.heap.size)(hs:w'.heap.size=w1.heap.size):OMoved B w B' w':=
 ⟨Nat.le_trans e.size h.size,by have:=e.one;omega,λb hb hn=>(h.old b (Nat.lt_of_lt_of_le hb e.size) hn).trans (e.old b hb),h.box,λb hb=>(h.grow b hb).imp id λx=>Nat.le_trans e.size x⟩
theorem OwnRep.ext {ro B:Nat->Option Obj}{w w1:World}(h:OwnRep ro B w)(e:Ext w w1):OwnRep ro B w1:=⟨λb o hb=>e.heap (h.box b o hb),λb o hb=>e.heap (h.rod b o hb),h.rob⟩
end
end Go.Car
namespace Go.Proofs
open Go Go.Conc Go.RowKit Go.Car
noncomputable def rtT(n:Nat):Code:=tailN n (Try.f24.body.getD .skip)
noncomputable def clT(n:Nat):Code:=tailN n (Try.f26.body.getD .skip)
theorem cl0:Try.f26.body.getD .skip=.seq (headC (clT 0)) (.seq (headC (clT 1)) (.seq (headC (clT 2)) (.seq (headC (clT 3)) (clT 4)))):=by kernel_rfl
section
variable {M2 S2 β:Type} {D:Core M2 S2} {ro:Nat->Option Obj} {i:Nat} {T:EpT}
structure EpTy(T:EpT):Prop where
 tD:T.tD=81
 tM:T.tM=121
 tT:T.tT=125
 N:T.N<=64
def rtF(db mb k:Nat)(sv:Value)(n e:Int)(v:Nat->Value):Array Value:=#[.pointer (some ⟨db,0,none⟩),sv,.int .i64 k,.int .i64 n,v 4,v 5,v 6,v 7,.int .i64 0,.int .i64 0,.pointer (some ⟨mb,k*3,none⟩),.int .i64 e,v 12,v 13,v 14,v 15,v 16,v 17,v 18,v 19,v 20,v 21,v 22,v 23,v 24,v 25,v 26,v 27,v 28,v 29,v 30,v 31,v 32]
structure EpoY(T:EpT)(k:Nat)(Y:YSys Try.prog aM (zqd (zqb T) D) ro i β)(sv:Value):Prop where
 step:StepY Y 49 #[sv]
 hdr:∀{B wc},Y.KnB B wc->wc.cell? ⟨T.db,1,none⟩=some (.slice (some ⟨T.mb,0,none⟩) T.N T.N)
 nout:∀{s B w},¬Y.AtB B s w Proc.out
 silI:∀{K:Bool->Proc (EpS×S2) β},(∀b,Y.sil (K b))->Y.sil ((onE (getI k)).bind K)
 silS:∀{b:Bool}{K:Unit->Proc (EpS×S2) β},(∀u,Y.sil (K u))->Y.sil ((onE (setI k b)).bind K)
 silP:∀{x}{K:Bool->Proc (EpS×S2) β},(∀u,Y.sil (K u))->Y.sil ((onE (pushT k x)).bind K)
 silT:∀{e}{K:List Int->Proc (EpS×S2) β},(∀u,Y.sil (K u))->Y.sil ((onE (takeT k e)).bind K)
 silO:Y.sil Proc.out
 load:SpecY Y 46 #[.pointer (some ⟨T.db,0,none⟩)] (onE loadE) (λx=>.int .i64 x)
 loadm:∀j,j<T.N->SpecY Y 46 #[.pointer (some ⟨T.mb,j*3,none⟩)] (onE (loadM j)) (λx=>.int .i64 x)
 storem:∀x,SpecY Y 50 #[.pointer (some ⟨T.mb,k*3,none⟩),.int .i64 x] (onE (zq42 k x)) (λ_=>.tuple #[])
 cas:∀o x,SpecY Y 51 #[.pointer (some ⟨T.db,0,none⟩),.int .i64 o,.int .i64 x] (onE (casE o x)) (λb=>.bool b)
 readI:∀{x y:Code}{Q:Y.γ->Exit->Act->World->Prop}{s w t ds B}{K:Bool->Proc (EpS×S2) β}{t':Bool->Array Value},Y.AtB B s w ((onE (getI k)).bind K)->zqp Try.prog aM x=true->
  (∀wc b,Y.KnB B wc->wc.cell? ⟨T.mb,k*3+1,none⟩=some (.bool b)->Code.wp Try.prog x (ends (λa w'=>Ext1 wc w'/\a.tmps=t' b) (λ_ _=>False)) ⟨t,[]⟩ wc)->
  (∀b w',Y.AtB B s w' (K b)->wpJ Y.J y Q s ⟨t' b,ds⟩ w')->wpJ Y.J (.seq x y) Q s ⟨t,ds⟩ w
 writeI:∀{x y:Code}{Q:Y.γ->Exit->Act->World->Prop}{s w t t' ds B}{K:Unit->Proc (EpS×S2) β}(b:Bool),Y.AtB B s w ((onE (setI k b)).bind K)->zqp Try.prog aM x=true->
  (∀wc b0,Y.KnB B wc->wc.cell? ⟨T.mb,k*3+1,none⟩=some (.bool b0)->wc.frozen? ⟨T.mb,k*3+1,none⟩=false->Code.wp Try.prog x (ends (λa w'=>w'=wc.setCell ⟨T.mb,k*3+1,none⟩ (.bool b)/\a.tmps=t') (λ_ _=>False)) ⟨t,[]⟩ wc)->
  (∀w',Y.AtB B s w' (K ())->wpJ Y.J y Q s ⟨t',ds⟩ w')->wpJ Y.J (.seq x y) Q s ⟨t,ds⟩ w
 push:∀{y:Code}{Q:Y.γ->Exit->Act->World->Prop}{s w t ds B}{K:Bool->Proc (EpS×S2) β}{n e:Int},t=rtF T.db T.mb k sv n e (λj=>t.getD j undef)->Y.AtB B s w ((onE (pushT k (n,e))).bind K)->
  (∀s w,Y.AtB B s w (K false)->False)->(∀v' w',Y.AtB B s w' (K true)->wpJ Y.J y Q s ⟨rtF T.db T.mb k sv n e v',ds⟩ w')->wpJ Y.J (.seq (headC (rtT 4)) y) Q s ⟨t,ds⟩ w
theorem zq73(Z:Alone Try.prog aM (zqd (zqb T) D) ro i β){I:EpS×S2->Prop}(hty:EpTy T){k:Nat}(hk:k<T.N)(hI:∀g g' s,I (g,s)->I (g',s))(hO:∀g g' s,(∀j,j≠k->g'.th j=g.th j)->Z.Oth (g,s) (g',s))(hn:∀{s m w r},Z.AtE s m w r->r.2≠.out){sv:Value}(hs:StepY (Z.sys I) 49 #[sv]):EpoY T k (Z.sys I) sv where
 step:=hs
 hdr h:=by
  obtain⟨m,_,hB⟩:=h;exact(ep_at hB).hdr
 silI _:=trivial
 silS _:=trivial
 silP _:=trivial
 silT _:=trivial
 silO:=trivial
 nout h:=by
  obtain⟨m,_,h,_⟩:=h;exact hn h rfl
 load:=by
  refine Z.act Try.func46 rfl (by kernel_rfl) (λs h=>h) (λs=>Z.oth s) λm wc hB=>Calls.mono (zq4r _ _ wc (ep_at hB).cellE) ?_;rintro e w' ⟨rfl,rfl⟩;exact⟨m.l,Moved.ext hB (Ext.refl _),rfl,rfl⟩
 loadm j hj:=by
  refine Z.act Try.func46 rfl (by kernel_rfl) (λs h=>h) (λs=>Z.oth s) λm wc hB=>Calls.mono (zq4r _ _ wc ((ep_at hB).cellM hj)) ?_;rintro e w' ⟨rfl,rfl⟩;exact⟨m.l,Moved.ext hB (Ext.refl _),rfl,rfl⟩
 storem x:=by
  refine Z.act Try.func50 rfl (by kernel_rfl) (λs h=>hI _ _ _ h) (λs=>hO _ _ _ λj _=>rfl) λm wc hB=>Calls.mono (zq61 _ _ x wc ((ep_at hB).cellM hk) ((ep_at hB).frzM _)) ?_;rintro e w' ⟨rfl,rfl⟩;exact⟨_,ep_setM hB hk x wc.tape wc.drawn _ _,rfl,rfl⟩
 cas o x:=by
  refine Z.act Try.func51 rfl (by kernel_rfl) (λs h=>?_) (λs=>?_) λm wc hB=>?_
  . unfold casE;split
    . exact hI _ _ _ h
    . exact h
  . unfold casE;split
    . exact hO _ _ _ λj _=>rfl
    . exact Z.oth s
  . by_cases e:m.l.1.s.e=o
    . have c0:=(ep_at hB).cellE;rw[e]at c0;refine Calls.mono (zqbg _ o x wc c0 ((ep_at hB).frzE _)) ?_;rintro e' w' ⟨rfl,rfl⟩;have e2:casE o x m.l.1.s=(m.l.1.s.putE x,true):=by unfold casE;rw[if_pos e]
      refine⟨_,ep_setE hB x wc.tape wc.drawn _ _,?_,?_⟩
      . show(m.l.1.s.putE x,D.st m.l.2)=((casE o x m.l.1.s).1,D.st m.l.2);rw[e2]
      . show Value.bool true=.bool (casE o x m.l.1.s).2;rw[e2]
    . refine Calls.mono (zqbh _ _ o x wc (ep_at hB).cellE ((ep_at hB).frzE _) e) ?_;rintro e' w' ⟨rfl,rfl⟩;have e2:casE o x m.l.1.s=(m.l.1.s,false):=by unfold casE;rw[if_neg e]
      refine⟨m.l,Moved.ext hB (Ext.refl _),?_,?_⟩
      . show(m.l.1.s,D.st m.l.2)=((casE o x m.l.1.s).1,D.st m.l.2);rw[e2]
      . show Value.bool false=.bool (casE o x m.l.1.s).2;rw[e2]
 readI h hok hx hy:=by
  refine zqq (Z.sys I).jc ?_;obtain⟨m,hmB,h⟩:=h;rename_i t';refine Alone.actS Z (I:=I) (I':=I) (g:=λs=>(((getI k s.1).1,s.2),(getI k s.1).2)) (λt B'=>t=t' (m.l.1.s.ins k)/\B'=m.box i) h hok (λs h=>h) (λs=>Z.oth s) ?_ ?_
  . intro wc hB _ X hX;refine Code.wp_mono ?_ (hx wc (m.l.1.s.ins k) ⟨m,hmB,hB⟩ ((ep_at hB).cellI hk));intro e a w' q;cases e with
    |normal=>
     obtain⟨q0,q1,q2⟩:=q;obtain⟨tt,dd⟩:=a;simp only at q0 q2;subst q0 q2;exact⟨rfl,hX _ m.l (m.box i) _ (Moved.ext hB q1.toExt) rfl ⟨rfl,rfl⟩⟩
    |ret=>exact q.2.elim
    |_=>exact q
  . rintro _ m' w' ⟨rfl,e⟩ hA;exact hy _ w' ⟨m',e.trans hmB,hA⟩
 writeI b h hok hx hy:=by
  refine zqq (Z.sys I).jc ?_;obtain⟨m,hmB,h⟩:=h;rename_i x y Q s w t t' ds B K;refine Alone.actS Z (I:=I) (I':=I) (g:=λs=>(((setI k b s.1).1,s.2),(setI k b s.1).2)) (λt B'=>t=t'/\B'=m.box i) h hok (λs h=>hI _ _ _ h) (λs=>hO _ _ _ λj _=>rfl) ?_ ?_
  . intro wc hB _ X hX;refine Code.wp_mono ?_ (hx wc (m.l.1.s.ins k) ⟨m,hmB,hB⟩ ((ep_at hB).cellI hk) ((ep_at hB).frzM _));intro e a w' q;cases e with
    |normal=>
     obtain⟨q0,q1,q2⟩:=q;obtain⟨tt,dd⟩:=a;simp only at q0 q2;subst q0 q1 q2;exact⟨rfl,hX _ _ (m.box i) _ (ep_setI hB hk b wc.tape wc.drawn _ _) rfl ⟨rfl,rfl⟩⟩
    |ret=>exact q.2.elim
    |_=>exact q
  . rintro _ m' w' ⟨rfl,e⟩ hA;exact hy w' ⟨m',e.trans hmB,hA⟩
 push ht h hno hy:=by
  refine zqq (Z.sys I).jc ?_;rename_i y Q s w t ds B K n e;obtain⟨v,hv⟩:∃v:Nat->Value,(λj=>t.getD j undef)=v:=⟨_,rfl⟩;rw[hv]at ht;clear hv;subst ht;obtain⟨m,hmB,h⟩:=h
  by_cases hl:(m.l.1.s.th k).length<mostT
  . have eg:pushT k (n,e) m.l.1.s=(m.l.1.s.putT k (m.l.1.s.th k++[(n,e)]),true):=by unfold pushT;rw[if_pos hl]
    refine Alone.actS Z (I:=I) (I':=I) (g:=λs=>(((pushT k (n,e) s.1).1,s.2),(pushT k (n,e) s.1).2)) (λt B'=>(∃v',t=rtF T.db T.mb k sv n e v')/\B'=m.box i) h (by kernel_rfl) (λs h=>hI _ _ _ h) (λs=>hO _ _ _ λj hj=>?_) ?_ ?_
    . show((pushT k (n,e) s.1).1).th j=_;unfold pushT;split
      . exact zqx _ _ hj
      . rfl
    . intro wc hB _ X hX;have c2:=(ep_at hB).cellT hk;have HX:=Lib.hid hX;have HB:=Lib.hid hB;have HL:=Lib.hid hl;have HE:=Lib.hid eg;have f2:=(ep_at hB).frzM (k*3+2);obtain⟨hv,hhv⟩:∃hv,m.l.1.hv k=hv:=⟨_,rfl⟩;have hrow:=(ep_at hB).row k hk;have hblk:=λb o=>(ep_at hB).blk k b o hk;rw[hhv]at c2 hrow;have HW:=Lib.hid (And.intro hrow (And.intro hblk hhv));have HT:=Lib.hid hty;clear hX hB hl eg hhv hrow hblk hty;unfold rtF;obtain⟨u_,hu_⟩:∃c,headC (rtT 4)=c:=⟨_,rfl⟩;have eu_:=hu_;rw[hu_];simp only[rtT,headC,tailN,Try.f24,al_od]at eu_;subst eu_;clear hu_;obtain⟨tj,htj,hy0,hy1,hy2⟩:∃ti,Try.prog.info? 125=some ti/\ti.zero=some (.agg #[.int .i64 0,.int .i64 0])/\ti.size=2/\ti.bytes=16:=⟨_,rfl,rfl,rfl,rfl⟩;have TJ:=Lib.hid (And.intro htj (And.intro hy0 (And.intro hy1 hy2)));clear htj hy0 hy1 hy2;have HRW:RowKit.Hid (wc.ownsRow 0 125 2 hv (m.l.1.s.th k).length (thC (m.l.1.s.th k))):=Lib.hid (HT.out.tT▸HW.out.1.own HW.out.2.1)
      go_wp2_with (at_builtin;go_loud (refine wpList_append_lies _ rfl (.tmp 24) (.tmp 28) 119 rfl 0 125 tj (.agg #[.int .i64 0,.int .i64 0]) 2 16 (by kernel_rfl) TJ.out.1 TJ.out.2.1 TJ.out.2.2.1 TJ.out.2.2.2 rfl (by decide) _ (m.l.1.s.th k).length (thC (m.l.1.s.th k)) rfl (zq1r HRW.out _) _ 1 1 [.int .i64 n,.int .i64 e] rfl rfl (World.news_of_block (zq13 _ _)) (λu hu=>by simp only[List.mem_cons,List.not_mem_nil,or_false]at hu;rcases hu with rfl |rfl<;>rfl) (by decide) (by simp only[maxLen];have:=HL.out;simp only[mostT]at this;omega) (by have:=HL.out;simp only[mostT]at this;omega) (Nat.zero_le _) _ rfl ?next))
      case next=>
       intro g7 cap7 w7 hown7 hgrow7 hat7 hlt7;have L7:=Lib.hid (And.intro hown7 (And.intro hgrow7 hat7));have hmb7:w7.heap[T.mb]?=some (.cells (memA T.N m.l.1) T.tM):=by
        have hl:=zqs (ep_at HB.out).mem;rw[hgrow7.block T.mb (by rw[zq8];omega) (λe=>((HW.out.1.block T.mb).2 e.symm) ((ep_at HB.out).nm k hk)),zqt (ep_at HB.out).mem]
       have c7:w7.cell? ⟨T.mb,k*3+2,none⟩=some hv:=(zq1 hmb7).trans ((zq2q (by omega)).trans (by rw[memC_2,HW.out.2.2]));have f7:w7.frozen? ⟨T.mb,k*3+2,none⟩=false:=zqh hmb7;clear hown7 hgrow7 hat7 hlt7 hmb7;go_wp2;obtain⟨o7,q7,a7⟩:=L7.out;rw[<-HT.out.tT]at o7;rw[<-HW.out.2.2]at q7 a7;obtain⟨m',e1,e2⟩:=ep_push HB.out k hk (n,e) HL.out (w1:=wc.alloc (.cells #[.int .i64 n,.int .i64 e] 125)) (zq8 _ _) (λb hb=>by rw[zqc,if_neg (by omega)]) o7 q7 (by rw[zq8];exact a7) (w7.setCell ⟨T.mb,k*3+2,none⟩ (.slice (some ⟨g7,0,none⟩) ((m.l.1.s.th k).length+1) cap7)).tape (w7.setCell ⟨T.mb,k*3+2,none⟩ (.slice (some ⟨g7,0,none⟩) ((m.l.1.s.th k).length+1) cap7)).drawn;refine⟨rfl,HX.out _ _ _ _ e2 ?_ ⟨⟨λj=>if j=20\/j=21\/j=22\/j=30 then .pointer (some ⟨T.mb,k*3,none⟩)else if j=23\/j=31 then .pointer (some ⟨T.mb,k*3+2,none⟩)else if j=24 then hv else if j=25 then .int .i64 n else if j=26 then .int .i64 e else if j=27 then .agg #[.int .i64 n,.int .i64 e]else if j=28 then .slice (some ⟨wc.heap.size,0,none⟩) 1 1 else if j=29 then .slice (some ⟨g7,0,none⟩) ((m.l.1.s.th k).length+1) cap7 else v j,rfl⟩,rfl⟩⟩;show(m'.s,D.st m.l.2)=((pushT k (n,e) m.l.1.s).1,D.st m.l.2);rw[HE.out,e1]
    . rintro _ m' w' ⟨⟨v',rfl⟩,e3⟩ hA;refine hy v' w' ⟨m',e3.trans hmB,?_⟩;have e4:(pushT k (n,e) ((zqd (zqb T) D).st m.l).1).2=true:=congrArg Prod.snd eg;have hA':=hA;simp only at hA';rw[e4]at hA';exact hA'
  . exfalso;have eg:pushT k (n,e) m.l.1.s=(m.l.1.s,false):=by unfold pushT;rw[if_neg hl]
    refine hno s w ⟨m,hmB,?_⟩;have e3:((onE (pushT k (n,e))).bind K) ((zqd (zqb T) D).st m.l)=K (pushT k (n,e) m.l.1.s).2 ((pushT k (n,e) m.l.1.s).1,D.st m.l.2):=rfl;rw[eg]at e3;refine⟨?_,h.2⟩;have h1:=h.1;rw[e3]at h1;exact h1
end
def clF(db mb k:Nat)(sv:Value)(e:Int)(v:Nat->Value):Array Value:=#[.pointer (some ⟨db,0,none⟩),sv,.int .i64 k,v 3,v 4,v 5,.slice none 0 0,.int .i64 0,.pointer (some ⟨mb,k*3,none⟩),.int .i64 e,v 10,v 11,v 12,v 13,v 14,v 15,v 16,v 17,v 18,v 19,v 20,v 21,v 22,v 23,v 24,v 25,v 26,v 27,v 28,v 29,v 30,v 31,v 32,v 33,v 34,v 35,v 36,v 37,v 38,v 39,v 40,v 41,v 42,v 43,v 44,v 45,v 46,v 47,v 48,v 49,v 50]
def doneL(e:Int)(l:List (Int×Int)):List Int:=(l.filter (oldT e)).map Prod.fst
def leftL(e:Int)(l:List (Int×Int)):List (Int×Int):=l.filter λt=>!oldT e t
theorem zqbt{e:Int}{l:List (Int×Int)}{x:Int×Int}{j:Nat}(hx:l[j]?=some x)(h:oldT e x=true):doneL e (l.take (j+1))=doneL e (l.take j)++[x.1]/\leftL e (l.take (j+1))=leftL e (l.take j):=by
 rw[List.take_add_one,hx];unfold doneL leftL;constructor
 . simp[List.filter_append,h]
 . simp[List.filter_append,h]
theorem zqbu{e:Int}{l:List (Int×Int)}{x:Int×Int}{j:Nat}(hx:l[j]?=some x)(h:oldT e x=false):doneL e (l.take (j+1))=doneL e (l.take j)/\leftL e (l.take (j+1))=leftL e (l.take j)++[x]:=by
 rw[List.take_add_one,hx];unfold doneL leftL;constructor
 . simp[List.filter_append,h]
 . simp[List.filter_append,h]
theorem zq3h(e:Int)(l:List (Int×Int)):(doneL e l).length<=l.length/\(leftL e l).length<=l.length:=by
 unfold doneL leftL;rw[List.length_map];exact⟨List.length_filter_le _ _,List.length_filter_le _ _⟩
structure CollI(w:World)(e:Int)(l:List (Int×Int))(dv lv:Value)(wr:World):Prop where
 be:Ext w wr
 done:wr.ownsRow w.heap.size 2 1 dv (doneL e l).length ((doneL e l).map (Value.int .i64))
 left:wr.ownsRow w.heap.size 125 2 lv (leftL e l).length (thC (leftL e l))
theorem CollI.hit {w wr w7:World}{e:Int}{l l':List (Int×Int)}{dv lv:Value}{x:Int}{o1 o2:Obj}{g7 n cap7:Nat}(h:CollI w e l dv lv wr)(h1:doneL e l'=doneL e l++[x])(h2:leftL e l'=leftL e l)
 (ho:w7.ownsRow w.heap.size 2 1 (.slice (some ⟨g7,0,none⟩) n cap7) (doneL e l').length ((doneL e l').map (Value.int .i64))) (hg:((wr.alloc o1).alloc o2).grownBy w7 dv.ownBlock):CollI w e l' (.slice (some ⟨g7,0,none⟩) n cap7) lv w7:=by
 have hs:=h.be.size;have hs7:=hg.size;rw[zq8,zq8]at hs7;refine⟨⟨by omega,λb hb=>?_⟩,ho,?_⟩
 . rw[hg.block b (by rw[zq8,zq8];omega) (λe=>by have:=(own_lt h.done e.symm).2.1;omega),zqc,if_neg (by rw[zq8];omega),zqc,if_neg (by omega)];exact h.be.old b hb
 . rw[h2];refine zq1v h.left λb hb=>?_;obtain⟨⟨cc,hcc⟩,_,hlt⟩:=own_lt h.left hb;rw[hg.block b (by rw[zq8,zq8];omega) (λe=>own_ne h.done hcc (by decide) e.symm),zqc,if_neg (by rw[zq8];omega),zqc,if_neg (by omega)]
theorem CollI.miss {w wr w7:World}{e:Int}{l l':List (Int×Int)}{dv lv:Value}{x:Int×Int}{o1 o2:Obj}{g7 n cap7:Nat}(h:CollI w e l dv lv wr)(h1:doneL e l'=doneL e l)(h2:leftL e l'=leftL e l++[x])
 (ho:w7.ownsRow w.heap.size 125 2 (.slice (some ⟨g7,0,none⟩) n cap7) (leftL e l').length (thC (leftL e l'))) (hg:((wr.alloc o1).alloc o2).grownBy w7 lv.ownBlock):CollI w e l' dv (.slice (some ⟨g7,0,none⟩) n cap7) w7:=by
 have hs:=h.be.size;have hs7:=hg.size;rw[zq8,zq8]at hs7;refine⟨⟨by omega,λb hb=>?_⟩,?_,ho⟩
 . rw[hg.block b (by rw[zq8,zq8];omega) (λe=>by have:=(own_lt h.left e.symm).2.1;omega),zqc,if_neg (by rw[zq8];omega),zqc,if_neg (by omega)];exact h.be.old b hb
 . rw[h1];refine zq1v h.done λb hb=>?_;obtain⟨⟨cc,hcc⟩,_,hlt⟩:=own_lt h.done hb;rw[hg.block b (by rw[zq8,zq8];omega) (λe=>own_ne h.left hcc (by decide) e.symm),zqc,if_neg (by rw[zq8];omega),zqc,if_neg (by omega)]
section
variable {db mb k:Nat} {sv:Value} {e:Int} {v:Nat->Value} {w:World} {p:Option Addr} {C:Nat} {l:List (Int×Int)}
theorem coll_wp(hv:w.cell? ⟨mb,k*3+2,none⟩=some (.slice p l.length C))(hf:w.frozen? ⟨mb,k*3+2,none⟩=false)
 (hl:l.length<=mostT) (hx:∀j x,l[j]?=some x->∃g,p=some ⟨g,0,none⟩/\w.cell? ⟨g,j*2,none⟩=some (.int .i64 x.1)/\w.cell? ⟨g,j*2+1,none⟩=some (.int .i64 x.2)) (hmb:mb<w.heap.size)
 {X:Act->World->Prop} (hX:∀(t:Array Value)dv lv wr,t[6]?=some dv->t[7]?=some (.int .i64 0)->CollI w e l dv lv wr->X ⟨t,[]⟩ (wr.setCell ⟨mb,k*3+2,none⟩ lv)):
 Code.wp Try.prog (clT 4) (ends X X) ⟨clF db mb k sv e v,[]⟩ w:=by
 have HX:=Lib.hid hX;have HL:=Lib.hid (And.intro hl hmb);have HT:=Lib.hid hx;clear hX hl hx;have h0:RowKit.Hid (CollI w e (l.take 0) (.slice none 0 0) (.slice none 0 0) w):=Lib.hid ⟨Ext.refl w,World.ownsRow_nil _ _ _ _,World.ownsRow_nil _ _ _ _⟩;unfold clF;obtain⟨u_,hu_⟩:∃c,clT 4=c:=⟨_,rfl⟩;have eu_:=hu_;rw[hu_];simp only[clT,headC,tailN,Try.f26,al_od]at eu_;subst eu_;clear hu_
 go_wp2_with (fail)
 go_loopg [10,11,27] l.length (λq s10 s11 s27 wr=>∃(j:Nat)(dv lv:Value),dv=s10/\lv=s11/\q=l.length - j/\j<=l.length/\s27=.int .i64 j/\CollI w e (l.take j) dv lv wr)
 case atStart=>exact⟨0,_,_,rfl,rfl,rfl,Nat.zero_le _,rfl,h0.out⟩
 case round=>
  obtain⟨j,dv,lv,rfl,rfl,hq,hj,rfl,hR⟩:=hrel;have HR:=Lib.hid hR;clear hR
  by_cases hlt:j<l.length
  . have hlt':(j:Int)<(l.length:Int):=by omega
    have hj0:(0:Int)<=j:=by omega
    obtain⟨x,hxj⟩:∃x,l[j]?=some x:=⟨_,List.getElem?_eq_getElem hlt⟩;obtain⟨g,rfl,t1,t2⟩:=HT.out j x hxj;have t1':wr.cell? ⟨g,j*2,none⟩=some (.int .i64 x.1):=(zq17 (HR.out.be.old g (cell_lt t1))).trans t1;have t2':wr.cell? ⟨g,j*2+1,none⟩=some (.int .i64 x.2):=(zq17 (HR.out.be.old g (cell_lt t2))).trans t2;have HJ:=Lib.hid (And.intro hxj (And.intro hlt hq));clear t1 t2 hxj hq
    by_cases hc:x.2<=wrap64 (e - 2)
    . have ho:oldT e x=true:=decide_eq_true hc;have HO:=Lib.hid (And.intro (zqbt HJ.out.1 ho) ho);clear ho;obtain⟨tj,htj,hy0,hy1,hy2⟩:∃ti,Try.prog.info? 2=some ti/\ti.zero=some (.int .i64 0)/\ti.size=1/\ti.bytes=8:=⟨_,rfl,rfl,rfl,rfl⟩;have TJ:=Lib.hid (And.intro htj (And.intro hy0 (And.intro hy1 hy2)));clear htj hy0 hy1 hy2;have HLN:RowKit.Hid ((doneL e (l.take j)).length<=mostT/\j<l.length):=Lib.hid ⟨Nat.le_trans (zq3h e _).1 (Nat.le_trans (by simp;omega) HL.out.1),HJ.out.2.1⟩;clear hlt
      go_wp2_with (at_builtin;go_loud (refine wpList_append_lies _ rfl (.tmp 36) (.tmp 39) 22 rfl w.heap.size 2 tj (.int .i64 0) 1 8 (by kernel_rfl) TJ.out.1 TJ.out.2.1 TJ.out.2.2.1 TJ.out.2.2.2 rfl (by decide) _ (doneL e (l.take j)).length ((doneL e (l.take j)).map (Value.int .i64)) rfl (zq1r (zq1r HR.out.done _) _) _ 1 1 [.int .i64 x.1] rfl rfl (zq3t (zq8 _ _)) (λu hu=>by simp only[List.mem_cons,List.not_mem_nil,or_false]at hu;subst hu;rfl) (by decide) (by simp only[maxLen];have:=HLN.out.1;simp only[mostT]at this;omega) (by have:=HLN.out.1;simp only[mostT]at this;omega) (by rw[zq8,zq8];have:=HR.out.be.size;omega) _ rfl ?next))
      case next=>
       intro g7 cap7 w7 hown7 hgrow7 hat7 hlt7;have L7:=Lib.hid (And.intro hown7 hgrow7);clear hown7 hgrow7 hat7 hlt7;go_wp2;go_roundg (l.length - (j+1))
       case measure=>have:=HJ.out.2.2;have:=HJ.out.2.1;omega
       case rel=>
        obtain⟨o7,q7⟩:=L7.out;refine⟨j+1,_,_,rfl,rfl,rfl,HLN.out.2,congrArg (Value.int .i64) (by have:=HL.out.1;simp only[mostT]at this;simp only[wrap64];have:=HLN.out.2;omega),?_⟩;refine HR.out.hit HO.out.1.1 HO.out.1.2 ?_ q7;rw[HO.out.1.1,List.length_append,List.map_append];exact o7
    . have ho:oldT e x=false:=decide_eq_false hc;have HO:=Lib.hid (And.intro (zqbu HJ.out.1 ho) ho);clear ho;obtain⟨tj,htj,hy0,hy1,hy2⟩:∃ti,Try.prog.info? 125=some ti/\ti.zero=some (.agg #[.int .i64 0,.int .i64 0])/\ti.size=2/\ti.bytes=16:=⟨_,rfl,rfl,rfl,rfl⟩;have TJ:=Lib.hid (And.intro htj (And.intro hy0 (And.intro hy1 hy2)));clear htj hy0 hy1 hy2;have HLN:RowKit.Hid ((leftL e (l.take j)).length<=mostT/\j<l.length):=Lib.hid ⟨Nat.le_trans (zq3h e _).2 (Nat.le_trans (by simp;omega) HL.out.1),HJ.out.2.1⟩;clear hlt
      go_wp2_with (at_builtin;go_loud (refine wpList_append_lies _ rfl (.tmp 41) (.tmp 43) 119 rfl w.heap.size 125 tj (.agg #[.int .i64 0,.int .i64 0]) 2 16 (by kernel_rfl) TJ.out.1 TJ.out.2.1 TJ.out.2.2.1 TJ.out.2.2.2 rfl (by decide) _ (leftL e (l.take j)).length (thC (leftL e (l.take j))) rfl (zq1r (zq1r HR.out.left _) _) _ 1 1 [.int .i64 x.1,.int .i64 x.2] rfl rfl (World.news_of_block (by rw[<-zq8 wr (.cells #[.int .i64 x.1,.int .i64 x.2] 125)];exact zq13 _ _)) (λu hu=>by simp only[List.mem_cons,List.not_mem_nil,or_false]at hu;rcases hu with rfl |rfl<;>rfl) (by decide) (by simp only[maxLen];have:=HLN.out.1;simp only[mostT]at this;omega) (by have:=HLN.out.1;simp only[mostT]at this;omega) (by rw[zq8,zq8];have:=HR.out.be.size;omega) _ rfl ?next))
      case next=>
       intro g7 cap7 w7 hown7 hgrow7 hat7 hlt7;have L7:=Lib.hid (And.intro hown7 hgrow7);clear hown7 hgrow7 hat7 hlt7;go_wp2;go_roundg (l.length - (j+1))
       case measure=>have:=HJ.out.2.2;have:=HJ.out.2.1;omega
       case rel=>
        obtain⟨o7,q7⟩:=L7.out;refine⟨j+1,_,_,rfl,rfl,rfl,HLN.out.2,congrArg (Value.int .i64) (by have:=HL.out.1;simp only[mostT]at this;simp only[wrap64];have:=HLN.out.2;omega),?_⟩;refine HR.out.miss HO.out.1.1 HO.out.1.2 ?_ q7;rw[HO.out.1.2,List.length_append,zqak];exact o7
  . obtain rfl:j=l.length:=by omega
    have e1:l.take l.length=l:=List.take_length;rw[e1]at HR;clear hlt hj hq HT h0;have hwm:wr.heap[mb]?=w.heap[mb]?:=HR.out.be.old mb HL.out.2;have c9:wr.cell? ⟨mb,k*3+2,none⟩=some (.slice p l.length C):=(zq17 hwm).trans hv;have f9:wr.frozen? ⟨mb,k*3+2,none⟩=false:=(zq7f hwm).trans hf;clear hv hf hwm e1;have HM:=HR;obtain⟨lp,lc,rfl,_⟩:=zq2d HR.out.left;obtain⟨dp,dc,rfl,_⟩:=zq2d HR.out.done;clear HR;go_wp2;exact⟨rfl,HX.out _ _ _ _ rfl rfl HM.out⟩
end
theorem zq87{w:World}{base size n:Nat}{ty:TypeId}{v:Value}{xs:List Value}(h:w.ownsRow base ty size v n xs):∃X,RowB X ty size v n xs/\(∀b o,X b=some o->w.heap[b]?=some o/\∃c,o=.cells c ty)/\∀b,X b≠none->base<=b:=by
 obtain⟨h1,h2⟩:=h;rcases h2 with⟨a,b⟩|⟨g,cap,cur,a,hb,hh,c1,c2,c3,c4⟩
 . exact⟨λ_=>none,⟨h1,.inl ⟨a,b,rfl⟩⟩,λb o h=>(by cases h),λb h=>absurd rfl h⟩
 . refine⟨λb=>if b=g then some (.cells cur ty (0,0))else none,⟨h1,.inr ⟨g,cap,cur,a,rfl,c1,c2,c3,c4⟩⟩,λb o h=>?_,λb h=>?_⟩
   . by_cases e:b=g
     . subst e;simp only[if_true,al_oi]at h;subst h;exact⟨hh,cur,rfl⟩
     . simp[e]at h
   . by_cases e:b=g
     . subst e;exact hb
     . simp[e]at h
section
variable {M2 S2 β:Type} {D:Core M2 S2} {ro:Nat->Option Obj} {i:Nat} {T:EpT}
structure EpoC(T:EpT)(k:Nat)(Y:YSys Try.prog aM (zqd (zqb T) D) ro i β)(sv:Value):Prop where
 coll:∀{Post:Y.γ->Ending->World->Prop}{s w t B}{K:List Int->Proc (EpS×S2) β}{e:Int},t=clF T.db T.mb k sv e (λj=>t.getD j undef)->Y.AtB B s w ((onE (takeT k e)).bind K)->
  (∀l X dv w',l.length<=mostT->RowB X 2 1 dv l.length (l.map (Value.int .i64))->(∀b,X b≠none->B b=none)->Y.AtB (orB X B) s w' (K l)->Post s (.returned (.tuple #[dv,.int .i64 0])) w')->
  wpJ Y.J (clT 4) (bodyC (Y.Bd Try.f26 Post) Post) s ⟨t,[]⟩ w
theorem zq72(Z:Alone Try.prog aM (zqd (zqb T) D) ro i β){I:EpS×S2->Prop}(hty:EpTy T){k:Nat}(hk:k<T.N)(hI:∀g g' s,I (g,s)->I (g',s))(hO:∀g g' s,(∀j,j≠k->g'.th j=g.th j)->Z.Oth (g,s) (g',s))(sv:Value):EpoC T k (Z.sys I) sv where
 coll ht h hy:=by
  rename_i Post s w t B K e;obtain⟨v,hv⟩:∃v:Nat->Value,(λj=>t.getD j undef)=v:=⟨_,rfl⟩;rw[hv]at ht;clear hv;subst ht;obtain⟨m,hmB,h⟩:=h;refine Z.restS (g:=λs=>(((takeT k e s.1).1,s.2),(takeT k e s.1).2)) (λt B'=>∃dv X,t[6]?=some dv/\t[7]?=some (.int .i64 0)/\(doneL e (m.l.1.s.th k)).length<=mostT/\RowB X 2 1 dv (doneL e (m.l.1.s.th k)).length ((doneL e (m.l.1.s.th k)).map (Value.int .i64))/\(∀b,X b≠none->m.box i b=none)/\B'=orB X (m.box i)) h (by kernel_rfl) (λs h=>hI _ _ _ h) (λs=>hO _ _ _ λj hj=>zqx _ _ hj) ?_ ?_
  . intro wc hB _ X hX;have hE:=ep_at hB;obtain⟨p,C,hv,hx⟩:=zqal (hE.row k hk) (λb o=>hE.blk k b o hk);have c2:=hE.cellT hk;rw[hv]at c2;refine coll_wp c2 (hE.frzM _) (hE.cap k hk) (λj x hj=>?_) (zqs hE.mem) λt dv lv wr h6 h7 hC=>?_
    . obtain⟨g,h1,_,h3,h4⟩:=hx j x hj;exact⟨g,h1,h3,h4⟩
    have hmb:=zqs hE.mem;have hwm:wr.heap[T.mb]?=some (.cells (memA T.N m.l.1) T.tM):=(hC.be.old _ hmb).trans hE.mem;obtain⟨Xd,d1,d2,d3⟩:=zq87 hC.done;obtain⟨Xl,l1,l2,l3⟩:=zq87 hC.left;have hset:∀b,b≠T.mb->(wr.setCell ⟨T.mb,k*3+2,none⟩ lv).heap[b]?=wr.heap[b]?:=λb hb=>zql _ _ _ _ hb;have hfr:∀b,m.box i b≠none->b<wc.heap.size:=λb hb=>hB.lt (.inr (.inl ⟨i,hb⟩));have hXd:∀b,Xd b≠none->m.box i b=none:=λb hb=>Classical.byContradiction λy=>by have:=hfr b y;have:=d3 b hb;omega
    have hmbx:∀b,m.box i b≠none->b≠T.mb:=λb hb e=>hB.apart i b hb (.inl (.inr (.inl e)));refine hX t _ (orB Xd (m.box i)) _ (zq71 hB k hk (l':=leftL e (m.l.1.s.th k)) (v':=lv) (X':=Xl) ?_ (λb hb h1 _=>(hset b h1).trans (hC.be.old b hb)) (zqy _ _ _ _ hwm) (Nat.le_trans (zq3h e _).2 (hE.cap k hk)) ?_ (λb o hb=>?_) (λb hb=>.inr (l3 b hb)) (λb o hb=>?_) (λb hb=>?_) (λb hb=>?_)) rfl ⟨dv,Xd,h6,h7,Nat.le_trans (zq3h e _).1 (hE.cap k hk),d1,hXd,rfl⟩
    . rw[zqz];exact hC.be.size
    . rw[hty.tT];exact l1
    . rw[hset b (λe=>by have:=l3 b (by rw[hb];simp);omega)];exact(l2 b o hb).1
    . cases hd:Xd b with
      |some o'=>
       have e:o'=o:=by simpa[orB,hd]using hb
       subst e;rw[hset b (λe=>by have:=d3 b (by rw[hd];simp);omega)];exact(d2 b _ hd).1
      |none=>
       have e:m.box i b=some o:=by simpa[orB,hd]using hb
       have hn:m.box i b≠none:=by rw[e];simp
       rw[hset b (hmbx b hn),hC.be.old b (hfr b hn)];exact hB.box i b o e
    . cases hd:Xd b with
      |some o'=>exact .inr (d3 b (by rw[hd];simp))
      |none=>exact .inl (by simpa[orB,hd]using hb)
    . have hd:Xd b=none:=by
       cases hd:Xd b with
       |none=>rfl
       |some o'=>
        obtain⟨h1,c1,rfl⟩:=d2 b o' hd;cases hl:Xl b with
        |none=>exact absurd hl hb
        |some o2=>
         obtain⟨h2,c2,rfl⟩:=l2 b o2 hl;rw[h1]at h2;cases h2
      have hn:m.box i b=none:=Classical.byContradiction λy=>by have:=hfr b y;have:=l3 b hb;omega
      simp[orB,hd,hn]
  . rintro t m' w' ⟨dv,X,h6,h7,h0,h1,h2,h3⟩ hA;refine YSys.left (B:=orB X B) ⟨m',by rw[h3,hmB],hA⟩ (λwc _=>?_) (λw' hA'=>hy _ X dv w' h0 h1 (λb hb=>by rw[<-hmB];exact h2 b hb) hA');simp[results,Try.f26,al_gd,h6,h7,go_sem]
end
section
variable {S2:Type}
def loadP:Proc (EpS×S2) Int:=Proc.tick.bind λ_=>onE loadE
def enterP(k:Nat):Proc (EpS×S2) (Int×Int):=(onE (getI k)).bind λb=>if b=true then Proc.ret (0,7)else loadP.bind λe=>(Proc.tick.bind λ_=>onE (zq42 k (wrap64 (e+1)))).bind λ_=>(onE (setI k true)).bind λ_=>Proc.ret (e,0)
def leaveP(k:Nat):Proc (EpS×S2) Int:=(onE (getI k)).bind λb=>if b=true then(onE (setI k false)).bind λ_=>(Proc.tick.bind λ_=>onE (zq42 k 0)).bind λ_=>Proc.ret 0 else Proc.ret 6
def zq2e(k:Nat)(n:Int):Proc (EpS×S2) (Int×Int):=loadP.bind λe=>(onE (pushT k (n,e))).bind λb=>if b=true then Proc.ret (e,0)else Proc.out
def advL(N:Nat)(e:Int):Nat->Proc (EpS×S2) (Bool×Int)
 |0=>(Proc.tick.bind λ_=>onE (casE e (wrap64 (e+1)))).bind λb=>Proc.ret (b,0)
 |r+1=>(Proc.tick.bind λ_=>onE (loadM (N - (r+1)))).bind λm=>if m≠0/\m≠wrap64 (e+1)then Proc.ret (false,0)else advL N e r
def advP(N:Nat):Proc (EpS×S2) (Bool×Int):=loadP.bind λe=>advL N e N
def collP(k:Nat):Proc (EpS×S2) (List Int):=loadP.bind λe=>(onE (takeT k e)).bind λl=>Proc.ret l
end
abbrev errV(x:Int×Int):Value:=.tuple #[.int .i64 x.1,.int .i64 x.2]
abbrev errB(x:Bool×Int):Value:=.tuple #[.bool x.1,.int .i64 x.2]
section
variable {M2 S2 β:Type} {D:Core M2 S2} {ro:Nat->Option Obj} {i:Nat} {T:EpT}
theorem zq3m(Y:YSys Try.prog aM (zqd (zqb T) D) ro i β){sv:Value}{k j:Nat}(hst:EpoY T k Y sv)(hj:j<T.N)(hN:T.N<=64):PureY Y 47 #[.pointer (some ⟨T.db,0,none⟩),.int .i64 j] (.pointer (some ⟨T.mb,j*3,none⟩)):=
 PureY.of Try.func47 rfl (by kernel_rfl) λB wc hB=>Calls.mono (zq7a (hst.hdr hB) hj (by omega)) λe w' h=>by
  obtain⟨rfl,rfl⟩:=h;exact⟨Ext1.refl _,rfl⟩
theorem zq4s(Y:YSys Try.prog aM (zqd (zqb T) D) ro i β){sv:Value}{k:Nat}(hst:EpoY T k Y sv):SpecB Y 48 #[.pointer (some ⟨T.db,0,none⟩),sv] loadP (λx=>.int .i64 x):=by
 refine SpecB.of Try.func48 rfl ?_;intro K s B w hK hA;simp only[zqm,Try.ntmps48,List.size_toArray,List.length_cons,List.length_nil,Nat.reduceAdd,Nat.reduceSub,Array.replicate_succ,Array.replicate_zero,List.push_toArray,List.append_toArray,List.nil_append,List.cons_append];apply YSys.seq0 hA (by kernel_rfl)
 . intro wc hB;go_wp2;exact⟨rfl,Ext1.refl _,rfl⟩
 intro w hA;refine zqq Y.jc (zq12 Y.jc ?_);rw[loadP,Proc.bind_bind]at hA;apply YSys.callS 0 1 0 hA hst.step rfl rfl rfl (by rfl) rfl rfl rfl
 . intro wc hB X hX;have HX:=Lib.hid hX;clear hX;go_wp2;exact HX.out _ (Ext1.refl _)
 . intro w;simp[go_sem,execOp,Act.eval,resolve,Deferred.ofValue,invoke,callFunc,Try.func49,Try.f49]
 . intro w;simp[go_sem,execOp,Act.eval,resolve,Deferred.ofValue,invoke,callFunc,Try.func49,Try.f49]
 . intro s' ch w' h;exact⟨rfl,h⟩
 intro s w hA;refine zq2c Y.jc ?_;show wpJ Y.J _ _ _ _ _;refine zqq Y.jc (zq12 Y.jc ?_);apply YSys.callR 0 3 1 hA hst.load (λ_=>hK _) rfl rfl rfl (by rfl) rfl rfl rfl
 . intro wc hB X hX;have HX:=Lib.hid hX;clear hX;go_wp2;exact HX.out _ (Ext1.refl _)
 . intro w;simp[go_sem,execOp,Act.eval,resolve,Deferred.ofValue,invoke,callFunc,Try.func46,Try.f46]
 . intro w;simp[go_sem,execOp,Act.eval,resolve,Deferred.ofValue,invoke,callFunc,Try.func46,Try.f46]
 . intro s' ch w' h;exact⟨rfl,h⟩
 intro s x w hA;apply YSys.ops0 4 1 hA rfl rfl (by kernel_rfl)
 . intro wc hB;go_wp2;exact⟨rfl,Ext1.refl _,rfl⟩
 intro w hA;show wpJ Y.J _ _ _ _ _;refine zq1k Y.jc ?_;exact⟨rfl,.inl ⟨_,resultsC_tmp rfl _,x,rfl,hA⟩⟩
theorem zq6z(Y:YSys Try.prog aM (zqd (zqb T) D) ro i β){sv:Value}{k:Nat}(hst:EpoY T k Y sv)(hk:k<T.N)(hN:T.N<=64):SpecB Y 23 #[.pointer (some ⟨T.db,0,none⟩),sv,.int .i64 k] (enterP k) errV:=by
 refine SpecB.of Try.func23 rfl ?_;intro K s B w hK hA;simp only[zqm,Try.ntmps23,List.size_toArray,List.length_cons,List.length_nil,Nat.reduceAdd,Nat.reduceSub,Array.replicate_succ,Array.replicate_zero,List.push_toArray,List.append_toArray,List.nil_append,List.cons_append];apply YSys.seq0 hA (by kernel_rfl)
 . intro wc hB;go_wp2;exact⟨rfl,Ext1.refl _,rfl⟩
 intro w hA;refine zqq Y.jc (zq12 Y.jc ?_);apply YSys.callP 0 2 1 hA (zq3m Y hst hk hN) rfl rfl rfl (by rfl) rfl rfl rfl
 . intro wc hB X hX;have HX:=Lib.hid hX;clear hX;go_wp2;exact HX.out _ (Ext1.refl _)
 . intro w;simp[go_sem,execOp,Act.eval,resolve,Deferred.ofValue,invoke,callFunc,Try.func47,Try.f47]
 . intro w;simp[go_sem,execOp,Act.eval,resolve,Deferred.ofValue,invoke,callFunc,Try.func47,Try.f47]
 intro w hA;apply YSys.ops0 3 1 hA rfl rfl (by kernel_rfl)
 . intro wc hB;go_wp2;exact⟨rfl,Ext1.refl _,rfl⟩
 intro w hA;show wpJ Y.J _ _ _ _ _;refine zqq Y.jc (zq2w Y.jc ?_);apply YSys.seq0 hA (by kernel_rfl)
 . intro wc hB;go_wp2;exact⟨rfl,Ext1.refl _,rfl⟩
 intro w hA;refine zq19 Y.jc rfl ?_;rw[if_neg (by decide)];rw[enterP,Proc.bind_bind]at hA;apply hst.readI hA (by kernel_rfl)
 . intro wc b hB c0;go_wp2;exact⟨rfl,Ext1.refl _,rfl⟩
 intro b w hA;refine zq19 Y.jc rfl ?_;cases b with
 |true=>
  rw[if_pos rfl]at hA |-;apply YSys.seq0 hA (by kernel_rfl)
  . intro wc hB;go_wp2;exact⟨rfl,Ext1.refl _,rfl⟩
  intro w hA;refine zq1k Y.jc ?_;simp only[thenJ,zq1p,bodyC];exact⟨rfl,.inl ⟨_,resultsC_tmp2 rfl _,(0,7),rfl,hA⟩⟩
 |false=>
  rw[if_neg (by decide)]at hA |-;refine zq1s Y.jc ?_;show wpJ Y.J _ _ _ _ _;rw[Proc.bind_bind]at hA;refine zqq Y.jc (zq12 Y.jc ?_);apply YSys.callR 0 2 1 hA (zq4s Y hst).spec (λe=>by rw[Proc.bind_bind,Proc.bind_bind];exact Y.sil_tick _) rfl rfl rfl (by rfl) rfl rfl rfl
  . intro wc hB X hX;have HX:=Lib.hid hX;clear hX;go_wp2;exact HX.out _ (Ext1.refl _)
  . intro w;simp[go_sem,execOp,Act.eval,resolve,Deferred.ofValue,invoke,callFunc,Try.func48,Try.f48]
  . intro w;simp[go_sem,execOp,Act.eval,resolve,Deferred.ofValue,invoke,callFunc,Try.func48,Try.f48]
  . intro s' ch w' h;exact⟨rfl,h⟩
  intro s e w hA;apply YSys.ops0 3 1 hA rfl rfl (by kernel_rfl)
  . intro wc hB;go_wp2;exact⟨rfl,Ext1.refl _,rfl⟩
  intro w hA;show wpJ Y.J _ _ _ _ _;rw[Proc.bind_bind,Proc.bind_bind]at hA;refine zqq Y.jc (zq12 Y.jc ?_);apply YSys.callS 0 1 0 hA hst.step rfl rfl rfl (by rfl) rfl rfl rfl
  . intro wc hB X hX;have HX:=Lib.hid hX;clear hX;go_wp2;exact HX.out _ (Ext1.refl _)
  . intro w;simp[go_sem,execOp,Act.eval,resolve,Deferred.ofValue,invoke,callFunc,Try.func49,Try.f49]
  . intro w;simp[go_sem,execOp,Act.eval,resolve,Deferred.ofValue,invoke,callFunc,Try.func49,Try.f49]
  . intro s' ch w' h;exact⟨rfl,h⟩
  intro s w hA;refine zq2c Y.jc ?_;show wpJ Y.J _ _ _ _ _;refine zqq Y.jc (zq12 Y.jc ?_);apply YSys.callR 0 5 0 hA (hst.storem _) (λ_=>by rw[Proc.bind_bind];exact hst.silS (λ_=>hK _)) rfl rfl rfl (by rfl) rfl rfl rfl
  . intro wc hB X hX;have HX:=Lib.hid hX;clear hX;go_wp2;exact HX.out _ (Ext1.refl _)
  . intro w;simp[go_sem,execOp,Act.eval,resolve,Deferred.ofValue,invoke,callFunc,Try.func50,Try.f50]
  . intro w;simp[go_sem,execOp,Act.eval,resolve,Deferred.ofValue,invoke,callFunc,Try.func50,Try.f50]
  . intro s' ch w' h;exact⟨rfl,h⟩
  intro s x w hA;refine zq2c Y.jc ?_;show wpJ Y.J _ _ _ _ _;rw[Proc.bind_bind]at hA;apply hst.writeI true hA (by kernel_rfl)
  . intro wc b0 hB c0 f0;go_wp2;exact⟨rfl,rfl,rfl⟩
  intro w hA;apply YSys.seq0 hA (by kernel_rfl)
  . intro wc hB;go_wp2;exact⟨rfl,Ext1.refl _,rfl⟩
  intro w hA;refine zq1k Y.jc ?_;exact⟨rfl,.inl ⟨_,resultsC_tmp2 rfl _,(e,0),rfl,hA⟩⟩
theorem zq7m(Y:YSys Try.prog aM (zqd (zqb T) D) ro i β){sv:Value}{k:Nat}(hst:EpoY T k Y sv)(hk:k<T.N)(hN:T.N<=64):SpecB Y 27 #[.pointer (some ⟨T.db,0,none⟩),sv,.int .i64 k] (leaveP k) (λx=>.int .i64 x):=by
 refine SpecB.of Try.func27 rfl ?_;intro K s B w hK hA;simp only[zqm,Try.ntmps27,List.size_toArray,List.length_cons,List.length_nil,Nat.reduceAdd,Nat.reduceSub,Array.replicate_succ,Array.replicate_zero,List.push_toArray,List.append_toArray,List.nil_append,List.cons_append];apply YSys.seq0 hA (by kernel_rfl)
 . intro wc hB;go_wp2;exact⟨rfl,Ext1.refl _,rfl⟩
 intro w hA;refine zqq Y.jc (zq12 Y.jc ?_);apply YSys.callP 0 2 1 hA (zq3m Y hst hk hN) rfl rfl rfl (by rfl) rfl rfl rfl
 . intro wc hB X hX;have HX:=Lib.hid hX;clear hX;go_wp2;exact HX.out _ (Ext1.refl _)
 . intro w;simp[go_sem,execOp,Act.eval,resolve,Deferred.ofValue,invoke,callFunc,Try.func47,Try.f47]
 . intro w;simp[go_sem,execOp,Act.eval,resolve,Deferred.ofValue,invoke,callFunc,Try.func47,Try.f47]
 intro w hA;apply YSys.ops0 3 1 hA rfl rfl (by kernel_rfl)
 . intro wc hB;go_wp2;exact⟨rfl,Ext1.refl _,rfl⟩
 intro w hA;show wpJ Y.J _ _ _ _ _;refine zqq Y.jc (zq2w Y.jc ?_);apply YSys.seq0 hA (by kernel_rfl)
 . intro wc hB;go_wp2;exact⟨rfl,Ext1.refl _,rfl⟩
 intro w hA;refine zq19 Y.jc rfl ?_;rw[if_neg (by decide)];rw[leaveP,Proc.bind_bind]at hA;apply hst.readI hA (by kernel_rfl)
 . intro wc b hB c0;go_wp2;exact⟨rfl,Ext1.refl _,rfl⟩
 intro b w hA;refine zq19 Y.jc rfl ?_;cases b with
 |false=>
  rw[if_neg (by decide)]at hA;rw[if_pos (by decide)];apply YSys.seq0 hA (by kernel_rfl)
  . intro wc hB;go_wp2;exact⟨rfl,Ext1.refl _,rfl⟩
  intro w hA;refine zq1k Y.jc ?_;simp only[thenJ,zq1p,bodyC];exact⟨rfl,.inl ⟨_,resultsC_tmp rfl _,6,rfl,hA⟩⟩
 |true=>
  rw[if_pos rfl]at hA;rw[if_neg (by decide)];refine zq1s Y.jc ?_;show wpJ Y.J _ _ _ _ _;rw[Proc.bind_bind]at hA;apply hst.writeI false hA (by kernel_rfl)
  . intro wc b0 hB c0 f0;go_wp2;exact⟨rfl,rfl,rfl⟩
  intro w hA;show wpJ Y.J _ _ _ _ _;rw[Proc.bind_bind,Proc.bind_bind]at hA;refine zqq Y.jc (zq12 Y.jc ?_);apply YSys.callS 0 1 0 hA hst.step rfl rfl rfl (by rfl) rfl rfl rfl
  . intro wc hB X hX;have HX:=Lib.hid hX;clear hX;go_wp2;exact HX.out _ (Ext1.refl _)
  . intro w;simp[go_sem,execOp,Act.eval,resolve,Deferred.ofValue,invoke,callFunc,Try.func49,Try.f49]
  . intro w;simp[go_sem,execOp,Act.eval,resolve,Deferred.ofValue,invoke,callFunc,Try.func49,Try.f49]
  . intro s' ch w' h;exact⟨rfl,h⟩
  intro s w hA;refine zq2c Y.jc ?_;show wpJ Y.J _ _ _ _ _;refine zqq Y.jc (zq12 Y.jc ?_);apply YSys.callR 0 3 0 hA (hst.storem 0) (λ_=>hK _) rfl rfl rfl (by rfl) rfl rfl rfl
  . intro wc hB X hX;have HX:=Lib.hid hX;clear hX;go_wp2;exact HX.out _ (Ext1.refl _)
  . intro w;simp[go_sem,execOp,Act.eval,resolve,Deferred.ofValue,invoke,callFunc,Try.func50,Try.f50]
  . intro w;simp[go_sem,execOp,Act.eval,resolve,Deferred.ofValue,invoke,callFunc,Try.func50,Try.f50]
  . intro s' ch w' h;exact⟨rfl,h⟩
  intro s x w hA;refine zq2c Y.jc ?_;show wpJ Y.J _ _ _ _ _;apply YSys.seq0 hA (by kernel_rfl)
  . intro wc hB;go_wp2;exact⟨rfl,Ext1.refl _,rfl⟩
  intro w hA;refine zq1k Y.jc ?_;exact⟨rfl,.inl ⟨_,resultsC_tmp rfl _,0,rfl,hA⟩⟩
theorem zq85(Y:YSys Try.prog aM (zqd (zqb T) D) ro i β){sv:Value}{k:Nat}(hst:EpoY T k Y sv)(hk:k<T.N)(hN:T.N<=64)(n:Int):SpecB Y 24 #[.pointer (some ⟨T.db,0,none⟩),sv,.int .i64 k,.int .i64 n] (zq2e k n) errV:=by
 refine SpecB.of Try.func24 rfl ?_;intro K s B w hK hA;simp only[zqm,Try.ntmps24,List.size_toArray,List.length_cons,List.length_nil,Nat.reduceAdd,Nat.reduceSub,Array.replicate_succ,Array.replicate_zero,List.push_toArray,List.append_toArray,List.nil_append,List.cons_append];apply YSys.seq0 hA (by kernel_rfl)
 . intro wc hB;go_wp2;exact⟨rfl,Ext1.refl _,rfl⟩
 intro w hA;refine zqq Y.jc (zq12 Y.jc ?_);apply YSys.callP 0 2 1 hA (zq3m Y hst hk hN) rfl rfl rfl (by rfl) rfl rfl rfl
 . intro wc hB X hX;have HX:=Lib.hid hX;clear hX;go_wp2;exact HX.out _ (Ext1.refl _)
 . intro w;simp[go_sem,execOp,Act.eval,resolve,Deferred.ofValue,invoke,callFunc,Try.func47,Try.f47]
 . intro w;simp[go_sem,execOp,Act.eval,resolve,Deferred.ofValue,invoke,callFunc,Try.func47,Try.f47]
 intro w hA;apply YSys.ops0 3 1 hA rfl rfl (by kernel_rfl)
 . intro wc hB;go_wp2;exact⟨rfl,Ext1.refl _,rfl⟩
 intro w hA;show wpJ Y.J _ _ _ _ _;refine zqq Y.jc ?_;apply YSys.seq0 hA (by kernel_rfl)
 . intro wc hB;go_wp2;exact⟨rfl,Ext1.refl _,rfl⟩
 intro w hA;refine zq19 Y.jc rfl ?_;rw[if_neg (by decide)];refine zq1s Y.jc ?_;show wpJ Y.J _ _ _ _ _;rw[zq2e,Proc.bind_bind]at hA;refine zqq Y.jc (zq12 Y.jc ?_);apply YSys.callR 0 2 1 hA (zq4s Y hst).spec (λe=>by rw[Proc.bind_bind];exact hst.silP (λb=>by split;exact hK _;exact hst.silO)) rfl rfl rfl (by rfl) rfl rfl rfl
 . intro wc hB X hX;have HX:=Lib.hid hX;clear hX;go_wp2;exact HX.out _ (Ext1.refl _)
 . intro w;simp[go_sem,execOp,Act.eval,resolve,Deferred.ofValue,invoke,callFunc,Try.func48,Try.f48]
 . intro w;simp[go_sem,execOp,Act.eval,resolve,Deferred.ofValue,invoke,callFunc,Try.func48,Try.f48]
 . intro s' ch w' h;exact⟨rfl,h⟩
 intro s e w hA;apply YSys.ops0 3 1 hA rfl rfl (by kernel_rfl)
 . intro wc hB;go_wp2;exact⟨rfl,Ext1.refl _,rfl⟩
 intro w hA;show wpJ Y.J _ _ _ _ _;rw[Proc.bind_bind]at hA;refine hst.push (n:=n) (e:=e) (by kernel_rfl) hA (λs w h=>hst.nout h) ?_;intro v' w hA;rw[if_pos rfl]at hA;unfold rtF;apply YSys.seq0 hA (by kernel_rfl)
 . intro wc hB;go_wp2;exact⟨rfl,Ext1.refl _,rfl⟩
 intro w hA;refine zq1k Y.jc ?_;exact⟨rfl,.inl ⟨_,resultsC_tmp2 rfl _,(e,0),rfl,hA⟩⟩
end
section
variable {M2 S2 β:Type} {D:Core M2 S2} {ro:Nat->Option Obj} {i:Nat} {T:EpT}
theorem zq6h(Y:YSys Try.prog aM (zqd (zqb T) D) ro i β){K:Bool×Int->Proc (EpS×S2) β}(N:Nat)(e:Int)(r:Nat):Y.sil ((advL N e r).bind K):=by
 cases r with
 |zero=>rw[advL,Proc.bind_bind,Proc.bind_bind];exact Y.sil_tick _
 |succ r=>rw[advL,Proc.bind_bind,Proc.bind_bind];exact Y.sil_tick _
theorem zq5c(Y:YSys Try.prog aM (zqd (zqb T) D) ro i β){sv:Value}{k:Nat}(hst:EpoY T k Y sv)(hk:k<T.N)(hN:T.N<=64):SpecB Y 25 #[.pointer (some ⟨T.db,0,none⟩),sv,.int .i64 k] (advP T.N) errB:=by
 refine SpecB.of Try.func25 rfl ?_;intro K s B w hK hA;simp only[zqm,Try.ntmps25,List.size_toArray,List.length_cons,List.length_nil,Nat.reduceAdd,Nat.reduceSub,Array.replicate_succ,Array.replicate_zero,List.push_toArray,List.append_toArray,List.nil_append,List.cons_append];apply YSys.seq0 hA (by kernel_rfl)
 . intro wc hB;go_wp2;exact⟨rfl,Ext1.refl _,rfl⟩
 intro w hA;refine zqq Y.jc ?_;refine zqq Y.jc (zq12 Y.jc ?_);apply YSys.callP 0 2 1 hA (zq3m Y hst hk hN) rfl rfl rfl (by rfl) rfl rfl rfl
 . intro wc hB X hX;have HX:=Lib.hid hX;clear hX;go_wp2;exact HX.out _ (Ext1.refl _)
 . intro w;simp[go_sem,execOp,Act.eval,resolve,Deferred.ofValue,invoke,callFunc,Try.func47,Try.f47]
 . intro w;simp[go_sem,execOp,Act.eval,resolve,Deferred.ofValue,invoke,callFunc,Try.func47,Try.f47]
 intro w hA;apply YSys.ops0 3 1 hA rfl rfl (by kernel_rfl)
 . intro wc hB;go_wp2;exact⟨rfl,Ext1.refl _,rfl⟩
 intro w hA;show wpJ Y.J _ _ _ _ _;refine zq19 Y.jc rfl ?_;rw[if_neg (by decide)];refine zq1s Y.jc ?_;show wpJ Y.J _ _ _ _ _;rw[advP,Proc.bind_bind]at hA;refine zqq Y.jc (zq12 Y.jc ?_);apply YSys.callR 0 2 1 hA (zq4s Y hst).spec (λe=>zq6h Y T.N e T.N) rfl rfl rfl (by rfl) rfl rfl rfl
 . intro wc hB X hX;have HX:=Lib.hid hX;clear hX;go_wp2;exact HX.out _ (Ext1.refl _)
 . intro w;simp[go_sem,execOp,Act.eval,resolve,Deferred.ofValue,invoke,callFunc,Try.func48,Try.f48]
 . intro w;simp[go_sem,execOp,Act.eval,resolve,Deferred.ofValue,invoke,callFunc,Try.func48,Try.f48]
 . intro s' ch w' h;exact⟨rfl,h⟩
 intro s e w hA;apply YSys.ops0 3 1 hA rfl rfl (by kernel_rfl)
 . intro wc hB;go_wp2;exact⟨rfl,Ext1.refl _,rfl⟩
 intro w hA;show wpJ Y.J _ _ _ _ _;refine zqq Y.jc ?_;apply YSys.seq0 hA (by kernel_rfl)
 . intro wc hB;have c1:=hst.hdr hB;go_wp2;exact⟨rfl,Ext1.refl _,rfl⟩
 intro w hA;refine zq2w Y.jc (zqau Y.jc (λs a w n=>∃(j:Nat)(x3 x4 x5 x9 x10 x11 x12 x13 x14 x15 x16 x17 x18 x19 x20 x21 x24 x25 x26 x27 x28 x29 x30 x31 x32 x33 x34 x35 x36 x37 x38 x39 x40 x41 x42 x43 x44 x45 x46 x47 x48 x49 x50 x51 x52 x53:Value),j+n=T.N/\a=⟨#[.pointer (some ⟨T.db,0,none⟩),sv,.int .i64 k,x3,x4,x5,.bool false,.int .i64 0,.int .i64 e,x9,x10,x11,x12,x13,x14,x15,x16,x17,x18,x19,x20,x21,.int .i64 T.N,.int .i64 j,x24,x25,x26,x27,x28,x29,x30,x31,x32,x33,x34,x35,x36,x37,x38,x39,x40,x41,x42,x43,x44,x45,x46,x47,x48,x49,x50,x51,x52,x53],[]⟩/\Y.AtB B s w ((advL T.N e n).bind K)) T.N ?_ ?_)
 . exact⟨0,_,_,_,_,_,_,_,_,_,_,_,_,_,_,_,_,_,_,_,_,_,_,_,_,_,_,_,_,_,_,_,_,_,_,_,_,_,_,_,_,_,_,_,_,_,_,by omega,rfl,hA⟩
 clear hA;rintro s a w n ⟨j,x3,x4,x5,x9,x10,x11,x12,x13,x14,x15,x16,x17,x18,x19,x20,x21,x24,x25,x26,x27,x28,x29,x30,x31,x32,x33,x34,x35,x36,x37,x38,x39,x40,x41,x42,x43,x44,x45,x46,x47,x48,x49,x50,x51,x52,x53,hjn,rfl,hA⟩;have HJ:=Lib.hid (And.intro hjn hN);clear hjn;cases n with
 |zero=>
  apply YSys.seq0 hA (by kernel_rfl)
  . intro wc hB;go_wp2;exact⟨rfl,Ext1.refl _,rfl⟩
  intro w hA;refine zqq Y.jc (zq19 Y.jc rfl ?_);rw[if_neg (by have:=HJ.out;simp only[decide_eq_true_eq];omega)];refine zqat Y.jc ?_;show wpJ Y.J _ _ _ _ _;rw[advL,Proc.bind_bind,Proc.bind_bind]at hA;refine zqq Y.jc (zq12 Y.jc ?_);apply YSys.callS 0 1 0 hA hst.step rfl rfl rfl (by rfl) rfl rfl rfl
  . intro wc hB X hX;have HX:=Lib.hid hX;clear hX;go_wp2;exact HX.out _ (Ext1.refl _)
  . intro w;simp[go_sem,execOp,Act.eval,resolve,Deferred.ofValue,invoke,callFunc,Try.func49,Try.f49]
  . intro w;simp[go_sem,execOp,Act.eval,resolve,Deferred.ofValue,invoke,callFunc,Try.func49,Try.f49]
  . intro s' ch w' h;exact⟨rfl,h⟩
  intro s w hA;refine zq2c Y.jc ?_;show wpJ Y.J _ _ _ _ _;refine zqq Y.jc (zq12 Y.jc ?_);apply YSys.callR 0 6 2 hA (hst.cas _ _) (λ_=>hK _) rfl rfl rfl (by rfl) rfl rfl rfl
  . intro wc hB X hX;have HX:=Lib.hid hX;clear hX;go_wp2;exact HX.out _ (Ext1.refl _)
  . intro w;simp[go_sem,execOp,Act.eval,resolve,Deferred.ofValue,invoke,callFunc,Try.func51,Try.f51]
  . intro w;simp[go_sem,execOp,Act.eval,resolve,Deferred.ofValue,invoke,callFunc,Try.func51,Try.f51]
  . intro s' ch w' h;exact⟨rfl,h⟩
  intro s x w hA;apply YSys.ops0 7 2 hA rfl rfl (by kernel_rfl)
  . intro wc hB;go_wp2;exact⟨rfl,Ext1.refl _,rfl⟩
  intro w hA;show wpJ Y.J _ _ _ _ _;refine zq1k Y.jc ?_;exact⟨rfl,.inl ⟨_,resultsC_tmp2 rfl _,(x,0),rfl,hA⟩⟩
 |succ n=>
  have hlt:(j:Int)<(T.N:Int):=by have:=HJ.out;omega
  have hj0:(0:Int)<=(j:Int):=by omega
  have e1:wrap64 ((j:Int)+1)=((j+1:Nat):Int):=by have:=HJ.out;simp only[wrap64];omega
  apply YSys.seq0 hA (by kernel_rfl)
  . intro wc hB;go_wp2;exact⟨rfl,Ext1.refl _,rfl⟩
  intro w hA;refine zqq Y.jc (zq19 Y.jc rfl ?_);rw[if_pos (by simpa using hlt)];refine zq1s Y.jc ?_;show wpJ Y.J _ _ _ _ _;refine zqq Y.jc (zq2w Y.jc ?_);apply YSys.seq0 hA (by kernel_rfl)
  . intro wc hB;go_wp2;exact⟨rfl,Ext1.refl _,rfl⟩
  intro w hA;rw[advL,Proc.bind_bind,Proc.bind_bind,show T.N - (n+1)=j from by have:=HJ.out;omega]at hA;refine zqq Y.jc (zq12 Y.jc ?_);apply YSys.callS 0 1 0 hA hst.step rfl rfl rfl (by rfl) rfl rfl rfl
  . intro wc hB X hX;have HX:=Lib.hid hX;clear hX;go_wp2;exact HX.out _ (Ext1.refl _)
  . intro w;simp[go_sem,execOp,Act.eval,resolve,Deferred.ofValue,invoke,callFunc,Try.func49,Try.f49]
  . intro w;simp[go_sem,execOp,Act.eval,resolve,Deferred.ofValue,invoke,callFunc,Try.func49,Try.f49]
  . intro s' ch w' h;exact⟨rfl,h⟩
  intro s w hA;refine zq2c Y.jc ?_;show wpJ Y.J _ _ _ _ _;refine zqq Y.jc (zq12 Y.jc ?_);apply YSys.callR 0 7 1 hA (hst.loadm j (by have:=HJ.out;omega)) (λm=>by split;exact hK _;exact zq6h Y T.N e n) rfl rfl rfl (by rfl) rfl rfl rfl
  . intro wc hB X hX;have HX:=Lib.hid hX;clear hX;have c1:=hst.hdr hB;go_wp2;exact HX.out _ (Ext1.refl _)
  . intro w;simp[go_sem,execOp,Act.eval,resolve,Deferred.ofValue,invoke,callFunc,Try.func46,Try.f46]
  . intro w;simp[go_sem,execOp,Act.eval,resolve,Deferred.ofValue,invoke,callFunc,Try.func46,Try.f46]
  . intro s' ch w' h;exact⟨rfl,h⟩
  intro s m w hA;apply YSys.ops0 8 1 hA rfl rfl (by kernel_rfl)
  . intro wc hB;go_wp2;exact⟨rfl,Ext1.refl _,rfl⟩
  intro w hA;show wpJ Y.J _ _ _ _ _;have hm3:m=0\/(¬m=0/\m=wrap64 (e+1))\/(¬m=0/\¬m=wrap64 (e+1)):=by
   by_cases h:m=0
   . exact .inl h
   . by_cases h2:m=wrap64 (e+1)
     . exact .inr (.inl ⟨h,h2⟩)
     . exact .inr (.inr ⟨h,h2⟩)
  rcases hm3 with hm0|⟨hm0,hm1⟩|⟨hm0,hm1⟩
  . rw[if_neg (by rw[hm0];simp)]at hA;apply YSys.seq0 hA (by kernel_rfl)
    . intro wc hB;go_wp2;exact⟨rfl,Ext1.refl _,rfl⟩
    intro w hA;refine zq19 Y.jc rfl ?_;rw[if_neg (by decide)];refine zq1s Y.jc ?_;show wpJ Y.J _ _ _ _ _;apply YSys.code0 hA (by kernel_rfl)
    . intro wc hB;go_wp2;exact⟨rfl,Ext1.refl _,rfl⟩
    intro w hA;exact⟨n,by omega,j+1,_,_,_,_,_,_,_,_,_,_,_,_,_,_,_,_,_,_,_,_,_,_,_,_,_,_,_,_,_,_,_,_,_,_,_,_,_,_,_,_,_,_,_,_,_,_,by have:=HJ.out;omega,rfl,hA⟩
  . rw[if_neg (by rw[hm1];simp)]at hA;apply YSys.seq0 hA (by kernel_rfl)
    . intro wc hB;go_wp2;exact⟨rfl,Ext1.refl _,rfl⟩
    intro w hA;refine zq19 Y.jc rfl ?_;rw[if_neg (by decide)];refine zq1s Y.jc ?_;show wpJ Y.J _ _ _ _ _;apply YSys.code0 hA (by kernel_rfl)
    . intro wc hB;go_wp2;exact⟨rfl,Ext1.refl _,rfl⟩
    intro w hA;exact⟨n,by omega,j+1,_,_,_,_,_,_,_,_,_,_,_,_,_,_,_,_,_,_,_,_,_,_,_,_,_,_,_,_,_,_,_,_,_,_,_,_,_,_,_,_,_,_,_,_,_,_,by have:=HJ.out;omega,rfl,hA⟩
  . rw[if_pos ⟨hm0,hm1⟩]at hA;apply YSys.seq0 hA (by kernel_rfl)
    . intro wc hB;go_wp2;exact⟨rfl,Ext1.refl _,rfl⟩
    intro w hA;refine zq19 Y.jc rfl ?_;rw[if_pos (by simp[hm0,hm1])];apply YSys.seq0 hA (by kernel_rfl)
    . intro wc hB;go_wp2;exact⟨rfl,Ext1.refl _,rfl⟩
    intro w hA;refine zq1k Y.jc ?_;simp only[thenJ,zq1p,bodyC];exact⟨rfl,.inl ⟨_,resultsC_tmp2 rfl _,(false,0),rfl,hA⟩⟩
end
end Go.Proofs
