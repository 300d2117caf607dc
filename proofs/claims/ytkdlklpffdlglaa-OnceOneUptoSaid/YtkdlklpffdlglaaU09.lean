/- YtkdlklpffdlglaaOOne5: part 9 of the proof (the texts behind it, in order). -/
import Derived.Test.YtkdlklpffdlglaaU08
set_option maxHeartbeats 4000000
set_option maxRecDepth 100000
set_option linter.all false
namespace Go.Proofs
open Go Go.Conc Go.RowKit Go.Car
noncomputable def opsT(n:Nat):Code:=tailN n (Try.f35.body.getD .skip)
theorem ops0:Try.f35.body.getD .skip=.seq (headC (opsT 0)) (.seq (headC (opsT 1)) (.seq (headC (opsT 2)) (opsT 3))):=by kernel_rfl
def ans0:AnsM:=⟨λ_=>.slice none 0 0,λ_ _=>none,λ_=>[]⟩
structure OpsAt(w:World)(RP:Nat->Option Obj)(pp:Option Addr)(n N:Nat)(sp:Nat->Option Addr)(L Cp:Nat->Nat)(ops:Nat->List OpX):Prop where
 eq:N=min n 64
 le:n<=4611686018427387904
 at':0<n->∃tb to',pp=some ⟨tb,to',none⟩/\∀i,i<N->w.cell? ⟨tb,to'+i,none⟩=some (.slice (sp i) (L i) (Cp i))
 row:∀i,i<N->L i<=Cp i/\L i<=4611686018427387904/\(sp i=none->L i=0/\Cp i=0)
 len:∀i,i<N->(ops i).length=min (L i) 65536
 op:∀i,i<N->∀k op,(ops i)[k]?=some op->∃g off cur e fr,sp i=some ⟨g,off,none⟩/\RP g=some (.cells cur e fr)/\∀j,j<4->cur[off+k*4+j]?=op.cells[j]?
open Classical in
noncomputable def roOf(RP:Nat->Option Obj)(H N:Nat)(ob ib:Nat->Nat)(w1:World):Nat->Option Obj:=λb=>if RP b≠none then RP b else if b=H\/b=H+2\/∃i,i<N/\(b=ob i\/b=ib i)then w1.heap[b]? else none
theorem zq5e{RP:Nat->Option Obj}{H N:Nat}{ob ib:Nat->Nat}{w1:World}{b:Nat}{o:Obj}(h:RP b=some o):roOf RP H N ob ib w1 b=some o:=by
 unfold roOf;rw[if_pos (by rw[h];simp),h]
theorem zq4n{RP:Nat->Option Obj}{H N:Nat}{ob ib:Nat->Nat}{w1:World}{b:Nat}(h:RP b=none)(hb:b=H\/b=H+2\/∃i,i<N/\(b=ob i\/b=ib i)):roOf RP H N ob ib w1 b=w1.heap[b]?:=by
 unfold roOf;rw[if_neg (by rw[h];simp),if_pos hb]
theorem zq3p{RP:Nat->Option Obj}{H N:Nat}{ob ib:Nat->Nat}{w1:World}{b:Nat}{o:Obj}(h:roOf RP H N ob ib w1 b=some o):RP b=some o\/((b=H\/b=H+2\/∃i,i<N/\(b=ob i\/b=ib i))/\w1.heap[b]?=some o):=by
 unfold roOf at h;split at h
 . exact .inl h
 . split at h
   . rename_i h2;exact .inr ⟨h2,h⟩
   . cases h
structure OpsRes{M1 S1:Type}(C:Core M1 S1)(N:Nat)(l₀:M1)(w:World)(r:TSt (S1×(Nat->List Ans)))(ab:Nat)(v:Value)(l':M1)(am:AnsM)(w':World):Prop where
 rep:C.Rep l' w'
 st:C.st l'=r.s.1
 ans:zq2i tT ab N am w'
 ast:am.st=r.s.2
 size:w.heap.size<=w'.heap.size
 old:∀b,b<w.heap.size->¬C.foot l₀ b->w'.heap[b]?=w.heap[b]?
 foot:∀b,C.foot l' b->C.foot l₀ b\/w.heap.size<=b
 abl:w.heap.size<=ab
 ansn:∀i b,i<N->am.X i b≠none->C.foot l₀ b\/w.heap.size<=b
 anf:∀b,C.foot l' b->b≠ab/\∀i,i<N->am.X i b=none
 row:w'.ownsRow w.heap.size 3 1 v r.ord.length (r.ord.map λ(i:Nat)=>.int .i64 i)
 rowf:∀x,v.ownBlock=some x->¬C.foot l' x/\x≠ab/\∀i,i<N->am.X i x=none
theorem OpsRes.re {M1 S1:Type}{C:Core M1 S1}{N:Nat}{l₀:M1}{w w':World}{r:TSt (S1×(Nat->List Ans))}{ab:Nat}{v:Value}{l':M1}{am:AnsM}(h:OpsRes C N l₀ w r ab v l' am w')(τ:Nat->Question->Nat)(d:Nat):OpsRes C N l₀ w r ab v l' am (Go.Car.re w' τ d):=
 ⟨C.frame _ _ _ h.rep λ_ _=>rfl,h.st,⟨h.ans.hd,h.ans.row,h.ans.blk,h.ans.nab,h.ans.sep⟩,h.ast,h.size,h.old,h.foot,h.abl,h.ansn,h.anf,h.row,h.rowf⟩
section
variable {M1 S1:Type} {C:Core M1 S1} {RP:Nat->Option Obj} {l₀:M1} {wa w1:World} {N n:Nat} {pp:Option Addr} {sp:Nat->Option Addr} {L Cp:Nat->Nat} {ops:Nat->List OpX} {ob ib:Nat->Nat} {dv fv:Value}
theorem ops_rep(hR:DRes wa N dv sp L Cp N ob ib fv w1)(hb:BRep C RP ⟨l₀,λ_ _=>none⟩ wa):BRep (zqf C (zqq tT (wa.heap.size+1) N)) (roOf RP wa.heap.size N ob ib w1) ⟨(l₀,ans0),λ_ _=>none⟩ w1:=by
 have hcl:∀b,C.foot l₀ b->b<wa.heap.size:=λb h=>C.lt _ _ _ hb.core h;have hrl:∀b o,RP b=some o->b<wa.heap.size:=λb o h=>zqs (hb.rod b o h);have hnw:∀b o,roOf RP wa.heap.size N ob ib w1 b=some o->RP b=some o\/(wa.heap.size<=b/\b≠wa.heap.size+1/\w1.heap[b]?=some o):=λb o h=>by
  rcases zq3p h with h|⟨h,h2⟩
  . exact .inl h
  . right
    rcases h with h|h|⟨i,hi,h⟩
    . exact⟨by omega,by omega,h2⟩
    . exact⟨by omega,by omega,h2⟩
    . have:=hR.lo i hi;rcases h with h|h<;>exact⟨by omega,by omega,h2⟩
 refine⟨⟨C.frame _ _ _ hb.core λb h=>hR.old b (hcl b h),⟨?_,λi hi=>AnsR.nil _ _,λi b o _ h=>(by cases h),λi _=>rfl,λi j b _ _ _ _=>rfl⟩,λb h=>?_⟩,λi b o h=>(by cases h),λb o h=>?_,λi b h=>absurd rfl h,λi j b _ h=>absurd rfl h,λb h=>?_,λi b _=>rfl⟩
 . show w1.heap[wa.heap.size+1]?=_;rw[hR.ab];congr 2;apply Array.ext_getElem?;intro i
   by_cases hi:i<N
   . simp[ans0,hi]
   . simp[ans0,hi]
 . rintro(h2|⟨i,hi,h2⟩)
   . have:=hcl b h;omega
   . exact h2 rfl
 . rcases hnw b o h with h|h
   . rw[hR.old b (hrl b o h)];exact hb.rod b o h
   . exact h.2.2
 . cases ho:roOf RP wa.heap.size N ob ib w1 b with
   |none=>exact absurd ho h
   |some o=>
    rintro(h2|h2|⟨i,hi,h2⟩)
    . rcases hnw b o ho with h3|h3
      . exact hb.rol b (by rw[h3];simp) h2
      . have:=hcl b h2;omega
    . rcases hnw b o ho with h3|h3
      . have:=hrl b o h3;omega
      . exact h3.2.1 h2
    . exact h2 rfl
theorem ops_ro{f:FuncId}{first caps:Array Value}(hR:DRes wa N (.func (.func f) first caps) sp L Cp N ob ib fv w1)(hb:BRep C RP ⟨l₀,λ_ _=>none⟩ wa)(hN:N<=64)(hlen:∀i,i<N->(ops i).length=min (L i) 65536)(hop:∀i,i<N->∀k op,(ops i)[k]?=some op->∃g off cur e fr,sp i=some ⟨g,off,none⟩/\RP g=some (.cells cur e fr)/\∀j,j<4->cur[off+k*4+j]?=op.cells[j]?){i:Nat}(hi:i<N):
 DoRo (roOf RP wa.heap.size N ob ib w1) i N (wa.heap.size+1) (ob i) wa.heap.size (ib i) (wa.heap.size+2) (sp i) (min (L i) 65536) (Cp i) (ops i) f first caps:=by
 have hno:∀b,wa.heap.size<=b->RP b=none:=λb hle=>by
  cases h:RP b with
  |none=>rfl
  |some o=>have:=zqs (hb.rod b o h);omega
 have hlo:=hR.lo i hi;refine⟨?_,?_,?_,?_,hlen i hi,Nat.min_le_right _ _,hi,hN,λk op hk=>?_⟩
 . rw[zq4n (hno _ (by omega)) (.inr (.inr ⟨i,hi,.inl rfl⟩))];exact hR.obx i hi
 . rw[zq4n (hno _ (Nat.le_refl _)) (.inl rfl)];exact hR.db
 . rw[zq4n (hno _ (by omega)) (.inr (.inr ⟨i,hi,.inr rfl⟩))];exact hR.ibx i hi
 . rw[zq4n (hno _ (by omega)) (.inr (.inl rfl))];exact hR.hb
 . obtain⟨g,off,cur,e,fr,h1,h2,h3⟩:=hop i hi k op hk;exact⟨g,off,cur,e,fr,h1,zq5e h2,h3⟩
end
def Beyond(w w':World):Prop:=w.heap.size<=w'.heap.size/\∀b,b<w.heap.size->w'.heap[b]?=w.heap[b]?
theorem Beyond.refl (w:World):Beyond w w:=⟨Nat.le_refl _,λ_ _=>rfl⟩
theorem Beyond.trans {w w' w'':World}(h:Beyond w w')(k:Beyond w' w''):Beyond w w'':=⟨Nat.le_trans h.1 k.1,λb hb=>(k.2 b (Nat.lt_of_lt_of_le hb h.1)).trans (h.2 b hb)⟩
theorem Beyond.alloc (w:World)(o:Obj):Beyond w (w.alloc o):=⟨by rw[zqc];omega,λb hb=>by rw[zqa,if_neg (by omega)]⟩
theorem Beyond.heap {w w':World}(h:Beyond w w'){b:Nat}{o:Obj}(hb:w.heap[b]?=some o):w'.heap[b]?=some o:=(h.2 b (zqs hb)).trans hb
theorem Beyond.cell {w w':World}(h:Beyond w w'){a:Addr}{v:Value}(hb:w.cell? a=some v):w'.cell? a=some v:=(zq14 (h.2 a.block (cell_lt hb))).trans hb
theorem Beyond.re (w:World)(τ:Nat->Question->Nat)(d:Nat):Beyond w (Go.Car.re w τ d):=⟨Nat.le_refl _,λ_ _=>rfl⟩
def IntsAt(w:World)(v:Value)(l:List Int):Prop:=∃p C,v=.slice p l.length C/\(l≠[]->∃b o,p=some ⟨b,o,none⟩/\∀i,i<l.length->w.cell? ⟨b,o+i,none⟩=some (.int .i64 (l.getD i 0)))
theorem IntsAt.beyond {w w':World}{v:Value}{l:List Int}(h:IntsAt w v l)(hb:Beyond w w'):IntsAt w' v l:=by
 obtain⟨p,C,e,h⟩:=h;refine⟨p,C,e,λhl=>?_⟩;obtain⟨b,o,e2,h2⟩:=h hl;exact⟨b,o,e2,λi hi=>hb.cell (h2 i hi)⟩
def AnsAt(w:World)(v:Value)(l:List Ans):Prop:=∃p C,v=.slice p l.length C/\(l≠[]->∃b o,p=some ⟨b,o,none⟩/\∀i a,l[i]?=some a->w.cell? ⟨b,o+i*3,none⟩=some (.bool a.ok)/\w.cell? ⟨b,o+i*3+1,none⟩=some (.int .i64 a.n)/\∃lv,w.cell? ⟨b,o+i*3+2,none⟩=some lv/\IntsAt w lv a.l)
theorem AnsAt.beyond {w w':World}{v:Value}{l:List Ans}(h:AnsAt w v l)(hb:Beyond w w'):AnsAt w' v l:=by
 obtain⟨p,C,e,h⟩:=h;refine⟨p,C,e,λhl=>?_⟩;obtain⟨b,o,e2,h2⟩:=h hl;refine⟨b,o,e2,λi a hi=>?_⟩;obtain⟨h3,h4,lv,h5,h6⟩:=h2 i a hi;exact⟨hb.cell h3,hb.cell h4,lv,hb.cell h5,h6.beyond hb⟩
def TraceAt(w:World)(v:Value)(N:Nat)(tolds:Nat->List Ans)(ord st:List Int)(stuck:Bool):Prop:=∃p C ov sv,v=.agg #[.slice p N C,ov,sv,.bool stuck]/\IntsAt w ov ord/\IntsAt w sv st/\
 (0<N->∃b o,p=some ⟨b,o,none⟩/\∀i,i<N->∃vi,w.cell? ⟨b,o+i,none⟩=some vi/\AnsAt w vi (tolds i))
theorem TraceAt.beyond {w w':World}{v:Value}{N:Nat}{tolds:Nat->List Ans}{ord st:List Int}{stuck:Bool}(h:TraceAt w v N tolds ord st stuck)(hb:Beyond w w'):TraceAt w' v N tolds ord st stuck:=by
 obtain⟨p,C,ov,sv,e,h1,h2,h3⟩:=h;refine⟨p,C,ov,sv,e,h1.beyond hb,h2.beyond hb,λh0=>?_⟩;obtain⟨b,o,e2,h4⟩:=h3 h0;refine⟨b,o,e2,λi hi=>?_⟩;obtain⟨vi,h5,h6⟩:=h4 i hi;exact⟨vi,hb.cell h5,h6.beyond hb⟩
theorem Beyond.drew (w:World)(n:Nat):Beyond w (w.drewN n):=⟨Nat.le_refl _,λ_ _=>rfl⟩
end Go.Proofs
namespace Go.Car
open Go Go.Conc Go.RowKit
section
variable {P:Program}
def FinOf(P:Program)(Post:Value->World->Prop)(m:Machine)(T:Trace):Prop:=
 ∃N last o w' t',runNT P (N+1) m T=(.ended o w',t')/\runN P N m=.next last/\step P last=.ended o w'/\Conc.Good P (λv w=>Post v w/\w.os=m.world.os/\w.output=m.world.output) last o w' t'
theorem zq6d(Post:Value->World->Prop):Back P (FinOf P Post):=by
 intro N m T m' T' hrun e1 e2 ⟨M,last,o,w',t',h1,h2,h3,h4⟩;rw[e1,e2]at h4;have hn:runN P N m=.next m':=by rw[<-runNT_fst P _ _ T,hrun]
 refine⟨N+M,last,o,w',t',?_,?_,h3,h4⟩
 . rw[Nat.add_assoc,runNT_add,hrun];exact h1
 . rw[runN_add,hn];exact h2
theorem j0_end{Post:Value->World->Prop}(hPost:∀v w τ d,Post v w->Post v (re w τ d)){n:Nat}{b:Frame}(hb:b.kind=.normal)(hini:P.inits.idxOf? b.fn=none){fn:Func}(hf:P.funcs[b.fn]?=some fn){t:Array Value}{todo:List Item}{w:World}{v:Value}
 (hr:(results fn t).run P w=.ok v w) (hp:Post v w):J0 P (FinOf P Post) n (G {b.at ⟨t,[]⟩ todo with mode:=.returning} []) w:=by
 intro τ d Mem B gs sl T q hM hsz hg hR;obtain⟨hL,hP⟩:=ring_end hR hM (λ_ _=>rfl);obtain⟨es,hes⟩:∃es,((results fn t).runT P w #[]).2=es:=⟨_,rfl⟩;have hT:∀τ d,(results fn t).runT P (re w τ d) #[]=(.ok v (re w τ d),es):=λτ d=>by
  obtain⟨_,_,h3⟩:=zq2v _ (zq22 _ (zq1h (P:=P) fn t)) w #[];have h4:((results fn t).runT P w #[]).1=.ok v w:=by rw[Sem.runT_eq];exact hr
  have:=h3 τ d (λj hj=>by rw[h4]at hj;simp only[resW]at hj;omega);rw[h4,hes]at this;simp only[resRe,resW,Nat.sub_self,Nat.add_zero]at this;exact this
 have hcalm:∀e∈es,calmEv true e:=λe he=>by
  rw[<-hes]at he;have:=(zq1w _ (zq1h (P:=P) fn t) w #[] e he).resolve_left (by simp);exact⟨this.1,λh=>by cases h⟩
 obtain⟨B2,hB2⟩:=zq4d es;have hP2:Past (λ_=>False) (max B B2) T:=hP.mono (Nat.le_max_left _ _);refine beside_ends (Shun:=λ_=>False) (B:=max B B2) (D:=λ_ _ _=>False) (n:=0) (λ_ _ _ h=>h.elim) hg hL hP2 ?_;rintro w₁ ⟨d₁,rfl⟩;have hw:∃τ' d',(((re w τ 0).at d).at d₁)=re w τ' d':=⟨τ,d₁,rfl⟩;obtain⟨τ',d',hw⟩:=hw;rw[hw];refine⟨rfl,v,seen P b.fn es,?_,λe he=>?_,hPost _ _ _ _ hp,rfl,rfl⟩
 . simp only[G,stepG,unwind,Frame.at,hf,hT τ' d',GStep.after,doReturn];simp[GStep.after,hb,hini]
 . have he':=mem_seen he;obtain⟨k1,k2⟩:=zq42 (hcalm e he');exact⟨λx _ h=>h.elim,k1,k2,MemAct.low_mono (Nat.le_max_right _ _) (hB2 e he')⟩
theorem j0_run{Post:Value->World->Prop}{f:FuncId}{fn:Func}{c:Code}{args:Array Value}{W:World}(hf:P.funcs[f]?=some fn)(hb:fn.body=some c)
 (h:J0 P (FinOf P Post) 1 (G (Frame.enter P f args .normal) []) W):FinOf P Post (solo (G (Frame.enter P f args .normal) []) W) #[]:=by
 have hL:Leavers P (#[]:Trace) #[G (Frame.enter P f args .normal) []] (λ_=>0):=⟨λi g hi hg=>by
  rcases i with _|i
  . omega
  . simp at hg,λj _=>rfl⟩
 have hP:Past (λ_=>False) 0 (#[]:Trace):=past_nil;have hR:=ring_begin (P:=P) (K:=KK (λ_=>none)) (Still:=zq1z (λ_=>none)) (w:=W.at W.drawn) (B:=0) (λl⟨a,v,_,hv⟩=>by cases hv) hL hP (zq65 _);have:=h W.tape W.drawn (λg=>g=0) 0 #[G (Frame.enter P f args .normal) []] none #[] (λ_=>0) rfl rfl rfl hR;rw[solo_eq_crowd];exact this
end
end Go.Car
namespace Go.Car
open Go Go.Conc Go.RowKit
section
variable {P:Program} {A:FuncId->Bool}
theorem zqas{Post:Value->World->Prop}(hPost:∀v w τ d,Post v w->Post v (re w τ d))(hP:Plain P A){c:Code}(hc:zqn P A c=true){n:Nat}{b:Frame}(hb:b.kind=.normal)(hini:P.inits.idxOf? b.fn=none){fn:Func}(hf:P.funcs[b.fn]?=some fn){t:Array Value}{w:World}
 (h:∀τ d,Code.wp P c (bodyPost P fn λe w'=>∃v,e=.returned v/\Post v w') ⟨t,[]⟩ (re w τ d)):J0 P (FinOf P Post) n (G (b.at ⟨t,[]⟩ [.code c]) []) w:=by
 have hFin:=zq6d (P:=P) Post;have hJ:=j0_JS hFin;have hC:=zq3i hFin
 let Φ:Act->World->Prop:=λa w=>∃v,(results fn a.tmps).run P w=.ok v w/\Post v w
 have hΦ:∀a w τ d,Φ a w->Φ a (re w τ d):=λa w τ d⟨v,h1,h2⟩=>⟨v,zq2t h1 τ d,hPost _ _ _ _ h2⟩;have hleave:∀(t:Array Value)(w:World)(todo:List Item),Φ ⟨t,[]⟩ w->J0 P (FinOf P Post) n (G {b.at ⟨t,[]⟩ todo with mode:=.returning} []) w:=λt w todo⟨v,h1,h2⟩=>j0_end hPost hb hini hf h1 h2;refine zq61 (Q:=λs' e a' w'=>s'=n/\(e=.normal\/e=.ret)/\a'.defers=[]/\Φ a' w') hJ hC hP hc Φ Φ hΦ hΦ (λτ d=>?_) (λt w h=>⟨rfl,.inl rfl,rfl,h⟩) (λt w h=>⟨rfl,.inr rfl,rfl,h⟩) b [] [] (by rw[hb];decide) ?_
 . refine Code.wp_mono ?_ (h τ d);intro e a w hh;cases e with
   |normal=>obtain⟨h1,v,h2,v',h3,h4⟩:=hh;cases h3;exact⟨h1,v,h2,h4⟩
   |ret=>obtain⟨h1,v,h2,v',h3,h4⟩:=hh;cases h3;exact⟨h1,v,h2,h4⟩
   |panic ch=>obtain⟨h1,v,h2,_⟩:=hh;cases h2
   |outgrown=>obtain⟨v,h2,_⟩:=hh;cases h2
   |_=>exact hh
 . rintro s' e ⟨t',ds⟩ w' ⟨rfl,he,hd,h⟩;simp only at hd;subst hd;rcases he with rfl |rfl
   . exact hJ.ctl (λw=>stepG_end) (hleave t' w' [] h)
   . exact λtodo=>hleave t' w' todo h
end
end Go.Car
namespace Go.Proofs
open Go Go.Conc Go.RowKit Go.Car Go.ChangeShapes Go.WideShapes Go.Deep
theorem zq3x{a:Addr}(h:a.spot=none)(i:Nat):a.add i=⟨a.block,a.off+i,none⟩:=by
 obtain⟨b,o,s⟩:=a;simp only at h;subst h;unfold Addr.add;split
 . rename_i e;rw[e];rfl
 . rfl
theorem zqe7{w:World}{a:Addr}{v:Value}(h:w.cell? a=some v):a.spot=none:=by
 unfold World.cell? at h;split at h
 . split at h
   . cases h
   . rename_i hh;simpa using hh
 . cases h
theorem zq5k{w:World}{a:Addr}{v:Value}(h:w.cell? (a.add 0)=some v):a.spot=none:=zqe7 (a:=a) (by simpa[Addr.add]using h)
def lenD{H:Type}:DataW H->Nat
 |.slice e _=>e.length
 |_=>0
def ThrIn(w:World)(pp:Option Addr)(n:Nat)(tops:Nat->List OpX):Prop:=
 0<n->∃pb po,pp=some ⟨pb,po,none⟩/\∀i,i<n->∃q C,w.cell? ⟨pb,po+i,none⟩=some (.slice q (tops i).length C)/\((tops i).length<=C/\(q=none->C=0))/\
  ((tops i)≠[]->∃gb go,q=some ⟨gb,go,none⟩/\∀(k:Nat)(c:OpX),(tops i)[k]?=some c->∀j,j<4->w.cell? ⟨gb,go+k*4+j,none⟩=c.cells[j]?)
section
variable {H:Type} {enc:TypeId×Value->H} {P:Program} {w:World} {held:Bool} {sp:Nat->Bool}
theorem zqca{t e:TypeId}(ht:P.underlying t=some (.slice e))(he:P.underlying e=some (.int .i64))(hc:P.cellsOf e=1){a0:Option Addr}{len cap:Nat}{d:DataW H}{ps:List MemPlace}{fuel:Nat}
 (h:DataW.trod enc P w 0 sp held fuel t [.slice a0 len cap]=some (d,ps)):∃l:List Int,l.length=len/\IntsAt w (.slice a0 len cap) l/\lenD d=len:=by
 rcases open_ints ht he hc h with⟨hcs,hx⟩|⟨a,len',cap',zs,hcs,_,hl,hm,hz,hx,hcell,_⟩
 . simp only[List.cons.injEq,Value.slice.injEq,and_true]at hcs;obtain⟨rfl,rfl,rfl⟩:=hcs;cases hx;exact⟨[],rfl,⟨none,0,rfl,λh=>absurd rfl h⟩,rfl⟩
 . simp only[List.cons.injEq,Value.slice.injEq,and_true]at hcs;obtain⟨rfl,rfl,rfl⟩:=hcs;cases hx;have hlz:len<=zs.length:=by rw[hz];split<;>omega
   have hlt:(zs.take len).length=len:=by rw[List.length_take];omega
   refine⟨zs.take len,hlt,⟨some a,cap,by rw[hlt],λhne=>?_⟩,by simp[lenD,lits,hlt];omega⟩;have h0:0<len:=by rw[<-hlt];exact List.length_pos_iff.2 hne
   have hs:=zq5k (hcell 0 (by omega));refine⟨a.block,a.off,by obtain⟨b,o,s⟩:=a;simp only at hs;rw[hs],λi hi=>?_⟩;rw[hlt]at hi;have:=hcell i (by omega);rw[zq3x hs]at this;rw[this];simp[List.getD_eq_getElem?_getD,List.getElem?_take,hi]
theorem op_open{t:TypeId}{fs:Array Field}(ht:P.underlying t=some (.struct fs))(hfs:∀j,j<4->∃f,fs[j]?=some f/\f.offset=j/\P.cellsOf f.type=1/\P.underlying f.type=some (.int .i64))(hsz:fs.size=4)
 {cs:List Value} {x:DataW H×List MemPlace} {fuel:Nat} (h:DataW.trod enc P w 0 sp held fuel t cs=some x):∃c:OpX,∀j,j<4->cs[j]?=c.cells[j]?:=by
 obtain⟨xs,n,_,_,_,hxl,hx⟩:=DataW.trod_struct ht h;have each:∀j,j<4->∃z:Int,cs[j]?=some (.int .i64 z):=λj hj=>by
  obtain⟨f,h1,h2,h3,h4⟩:=hfs j hj;have h5:=hx j f h1;rw[h2,h3]at h5;obtain⟨y,hy⟩:∃y,xs[j]?=some y:=⟨_,List.getElem?_eq_getElem (by omega)⟩;rw[hy]at h5;obtain⟨z,h6,_⟩:=DataW.trod_int h4 h5;refine⟨z,?_⟩;have:((cs.drop j).take 1)[0]?=some (.int .i64 z):=by rw[h6];rfl
  rw[List.getElem?_take,if_pos (by omega),List.getElem?_drop,Nat.add_zero]at this;exact this
 obtain⟨z0,h0⟩:=each 0 (by omega);obtain⟨z1,h1⟩:=each 1 (by omega);obtain⟨z2,h2⟩:=each 2 (by omega);obtain⟨z3,h3⟩:=each 3 (by omega);refine⟨⟨z0,z1,z2,z3⟩,λj hj=>?_⟩;obtain rfl |rfl |rfl |rfl:j=0\/j=1\/j=2\/j=3:=by omega
 . exact h0
 . exact h1
 . exact h2
 . exact h3
theorem opl_open{t e:TypeId}{fs:Array Field}(ht:P.underlying t=some (.slice e))(he:P.underlying e=some (.struct fs))(hc:P.cellsOf e=4)(hfs:∀j,j<4->∃f,fs[j]?=some f/\f.offset=j/\P.cellsOf f.type=1/\P.underlying f.type=some (.int .i64))(hsz:fs.size=4)
 {cs:List Value} {d:DataW H} {ps:List MemPlace} {fuel:Nat} (h:DataW.trod enc P w 0 sp held fuel t cs=some (d,ps)):
 ∃(q:Option Addr)(l:List OpX)(C:Nat),cs=[.slice q l.length C]/\lenD d=l.length/\(l.length<=C/\(q=none->C=0))/\(l≠[]->∃gb go,q=some ⟨gb,go,none⟩/\∀(k:Nat)(c:OpX),l[k]?=some c->∀j,j<4->w.cell? ⟨gb,go+k*4+j,none⟩=c.cells[j]?):=by
 rcases open_slice ht h with⟨hcs,hx⟩|⟨a,len,cap,m,n,D,Pl,hcs,_,hl,_,hm,hx,hcell⟩
 . cases hx;exact⟨none,[],0,hcs,rfl,⟨Nat.le_refl _,λ_=>rfl⟩,λh=>absurd rfl h⟩
 . have hlm:len<=m:=by rw[hm];split<;>omega
   have each:∀i,i<len->∃c:OpX,∀j,j<4->w.cell? ((a.add (i*4)).add j)=c.cells[j]?:=λi hi=>by
    obtain⟨cs',h1,h2⟩:=hcell i (by omega);rw[hc]at h1;obtain⟨c,h3⟩:=op_open he hfs hsz h2;exact⟨c,λj hj=>((World.cells?_some h1).2.2 j hj).trans (h3 j hj)⟩
   obtain⟨c,hcc⟩:∃c:Nat->OpX,∀i,i<len->∀j,j<4->w.cell? ((a.add (i*4)).add j)=(c i).cells[j]?:=by
    classical
    refine⟨λi=>if h:i<len then(each i h).choose else⟨0,0,0,0⟩,λi hi=>?_⟩;simp only[hi,dif_pos];exact(each i hi).choose_spec
   cases hx;refine⟨some a,(List.range len).map c,cap,by simpa using hcs,by simp[lenD],⟨by simpa using hl,λe=>by cases e⟩,λhne=>?_⟩;have h0:0<len:=by have:=List.length_pos_iff.2 hne;simpa using this
   have hs:a.spot=none:=by
    have:=hcc 0 h0 0 (by omega);rw[Nat.zero_mul]at this;exact zq5k (a:=a) (v:=.int .i64 (c 0).k) (by simpa[Addr.add,OpX.cells]using this)
   refine⟨a.block,a.off,by obtain⟨b,o,s⟩:=a;simp only at hs;rw[hs],λk cc hk j hj=>?_⟩;have hkl:k<len:=by have:=(List.getElem?_eq_some_iff.1 hk).1;simpa using this
   have:=hcc k hkl j hj;rw[zq3x hs,zq3x rfl]at this;rw[this];rw[List.getElem?_map,List.getElem?_range hkl]at hk;cases hk;rfl
theorem thr_open{t e e2:TypeId}{fs:Array Field}(ht:P.underlying t=some (.slice e))(hc1:P.cellsOf e=1)(he:P.underlying e=some (.slice e2))(he2:P.underlying e2=some (.struct fs))(hc:P.cellsOf e2=4)(hfs:∀j,j<4->∃f,fs[j]?=some f/\f.offset=j/\P.cellsOf f.type=1/\P.underlying f.type=some (.int .i64))(hsz:fs.size=4)
 {a0:Option Addr} {len cap:Nat} {d:DataW H} {ps:List MemPlace} {fuel:Nat} (h:DataW.trod enc P w 0 sp held fuel t [.slice a0 len cap]=some (d,ps)):
 ∃tops:Nat->List OpX,ThrIn w a0 len tops/\lenD d=len/\(∀i,i<len->∃x es sp',d=.slice es sp'/\es[i]?=some x/\lenD x=(tops i).length):=by
 rcases open_slice1 ht hc1 h with⟨hcs,hx⟩|⟨a,len',cap',m,n,V,D,Pl,hcs,_,hl,_,hm,hx,hcell⟩
 . simp only[List.cons.injEq,Value.slice.injEq,and_true]at hcs;obtain⟨rfl,rfl,rfl⟩:=hcs;cases hx;exact⟨λ_=>[],λh=>absurd h (Nat.lt_irrefl _),rfl,λi hi=>absurd hi (Nat.not_lt_zero _)⟩
 . simp only[List.cons.injEq,Value.slice.injEq,and_true]at hcs;obtain⟨rfl,rfl,rfl⟩:=hcs;have hlm:len<=m:=by rw[hm];split<;>omega
   have each:∀i,i<len->∃l:List OpX,∃q C,V i=.slice q l.length C/\lenD (D i)=l.length/\(l.length<=C/\(q=none->C=0))/\(l≠[]->∃gb go,q=some ⟨gb,go,none⟩/\∀(k:Nat)(c:OpX),l[k]?=some c->∀j,j<4->w.cell? ⟨gb,go+k*4+j,none⟩=c.cells[j]?):=λi hi=>by
    obtain⟨q,l,C,h1,h2,h2',h3⟩:=opl_open he he2 hc hfs hsz (hcell i (by omega)).2;simp only[List.cons.injEq,and_true]at h1;exact⟨l,q,C,h1,h2,h2',h3⟩
   obtain⟨tops,hpr⟩:∃tops:Nat->List OpX,∀i,i<len->∃q C,V i=.slice q (tops i).length C/\lenD (D i)=(tops i).length/\((tops i).length<=C/\(q=none->C=0))/\(tops i≠[]->∃gb go,q=some ⟨gb,go,none⟩/\∀(k:Nat)(c:OpX),(tops i)[k]?=some c->∀j,j<4->w.cell? ⟨gb,go+k*4+j,none⟩=c.cells[j]?):=by
    classical
    refine⟨λi=>if h:i<len then(each i h).choose else [],λi hi=>?_⟩;simp only[hi,dif_pos];exact(each i hi).choose_spec
   cases hx;refine⟨tops,λh0=>?_,by simp[lenD],λi hi=>⟨D i,_,_,rfl,by simp[hi],(hpr i hi).choose_spec.choose_spec.2.1⟩⟩;have hs:=zq5k (hcell 0 (by omega)).1;refine⟨a.block,a.off,by obtain⟨b,o,s⟩:=a;simp only at hs;rw[hs],λi hi=>?_⟩;obtain⟨q,C,h1,_,h2,h3⟩:=hpr i hi;have:=(hcell i (by omega)).1;rw[zq3x hs,h1]at this;exact⟨q,C,this,h2,h3⟩
end
end Go.Proofs
namespace Go.Car
open Go Go.Conc
theorem zqck{H:Type}{enc:TypeId×Value->H}{a:Assume}{C:Checked}{os:Os}{f:FuncId}{fn:Func}{s:OpenSpec}{k:(H:Type)->List (DataW H)->Bool}(hk:s.cond=some k){F:Stop.Interp}{conds:List PathCond}{apart fresh handsOn again:Bool}
 (own:ownKnob C.prog.godebug=none) (started:os.Started) (hfn:C.prog.funcs[f]?=some fn)
 (witness:∃(w:World)(tape:Tape)(i:Input),w.os=os/\(w.forCall tape i).Shaped C.prog/\i.vars=[]/\Input.okWide C.prog (w.forCall tape i) .any w.heap.size f i/\
  s.pre6 enc C.prog fn conds apart (w.forCall tape i).memory i.args/\a.holds C.prog (lone (Frame.enter C.prog f i.args .normal) [] (w.forCall tape i)))
 (runs:∀(W:World)(base:Nat)(args:Array Value)(ds gs:List (DataW H))(before:List MemPlace),
  (∀(j:Nat)t v,fn.params[j]?=some t->args[j]?=some v->Value.okWide C.prog W .any base t v)->
  DataW.Whole enc C.prog fn.params.toList s.vars apart W args.toList ds gs before->k H (ds++gs)=true->
  ∃M last o w' t',runNT C.prog (M+1) (solo (G (Frame.enter C.prog f args .normal) []) W) #[]=(.ended o w',t')/\runN C.prog M (solo (G (Frame.enter C.prog f args .normal) []) W)=.next last/\
   step C.prog last=.ended o w'/\Conc.Good C.prog (λv W'=>(s.at F).post enc C.prog fn apart fresh handsOn again W args v W') last o w' t'):
 ReturnsInLeavingWide a C os f .any (s.pre6 enc C.prog fn conds apart) ((s.at F).post enc C.prog fn apart fresh handsOn again):=by
 refine returnsInLeavingWide_of_good own started witness ?_;intro w tape i _ _ _ hok hpre _;obtain⟨_,_,_,fn',hfn',_,_,_,_,hval⟩:=hok;obtain rfl:fn'=fn:=Option.some.inj (hfn'.symm.trans hfn);obtain⟨ds,gs,before,hw,_,hkk⟩:=(OpenSpec.pre_some hk conds apart _ _).1 hpre.1;obtain⟨M,last,o,w',t',h1,h2,h3,h4⟩:=runs (w.forCall tape i) w.heap.size i.args ds gs before hval (DataW.Whole.of_heap (w':=w.forCall tape i) (by rfl) hw) hkk;exact⟨M,last,o,w',t',h1,h2,h3,h4.mono λv hp=>ChangeSpec.post_blind hp⟩
theorem zqc4{p:Pinned}{s:OpenSpec}{c:OpenClaim}(f:FuncId)(fn:Func)
 (hn:c.program=p.name) (hs:c.sum=p.sum) (hsp:c.spec=s.name)
 (hstart:c.start=.entering) (hout:c.outside=[]) (hin:c.inits=[]) (hun:c.under=none) (hi4:c.initsInPlace=[]/\c.initsUnfollowed=false/\c.initsRecurse=false/\c.initsNamed=[]/\c.initsPassed=[]) (hnb:c.noBlocks=false) (hlv:c.leaving=true) (hfo:c.followed=none) (hnar:c.narrowed=s.cond.isSome) (hstill:c.still=false)
 (hfn:p.checked.prog.funcNamed c.func=some f) (hf:p.checked.prog.funcs[f]?=some fn)
 (closed:joinedFacts p.checked.prog f fn s.bare c=true)
 (hinst:fn.isInstance p.checked.prog c.origin c.targs) (hwrap:fn.isWrapper p.checked.prog c.wrapper c.mainSum)
 (h:∀os:Os,os.Started->∀(H:Type)(enc:TypeId×Value->H),(∀a b,enc a=enc b->a=b)->∀F:Stop.Interp,
  ReturnsInLeavingWide c.assume p.checked os f .any (c.pre enc p.checked.prog fn s) ((s.at F).post enc p.checked.prog fn c.apart c.fresh c.handsOn c.again)):c.holds p s:=by
 simp only[joinedFacts,Bool.and_eq_true,beq_iff_eq,Array.all_eq_true_iff_forall_mem,List.all_eq_true,decide_eq_true_eq]at closed;obtain⟨⟨⟨⟨⟨⟨⟨⟨⟨⟨⟨⟨⟨⟨⟨⟨⟨⟨⟨⟨⟨⟨⟨⟨⟨⟨⟨⟨⟨⟨⟨a1,a2⟩,a3⟩,a4⟩,a5⟩,a6⟩,a7⟩,a8⟩,a9⟩,a10⟩,a11⟩,a12⟩,a13⟩,a14⟩,a15⟩,a16⟩,a17⟩,b17⟩,a18⟩,a19⟩,a20⟩,a21⟩,a22⟩,a23⟩,b23⟩,a24⟩,b24⟩,c24⟩,a25⟩,a26⟩,a27⟩,a28⟩:=closed;have quiet:∀os:Os,Stop.quiet p.checked.prog os:=λos k hk=>by rw[a9]at hk;cases hk
 have fits:c.startFits p.checked.prog:=by unfold OpenClaim.startFits;rw[hstart];exact a24
 have told:c.startTold p.checked.prog:=by unfold OpenClaim.startTold;rw[hstart];exact⟨hin,hun,hi4⟩
 have named:namedTie p.checked.prog c.namedList s.vars=true:=by unfold OpenClaim.namedList;rw[hfo];exact a5
 have worded:p.checked.prog.envWorded=true:=by unfold Program.envWorded;rw[a9];rfl
 have world0:∃os:Os,c.world os/\Stop.quiet p.checked.prog os:=⟨_,by unfold OpenClaim.world;rw[hout,hstart];exact WideRow.started_initial,quiet _⟩;have lists0:c.lists p.checked.prog []:=by unfold OpenClaim.lists;rw[hfo]
 refine⟨a1,hn,hs,hsp,a2,a3,fits,told,f,fn,hfn,hf,⟨a4,a19⟩,(λhb=>by rw[hnb]at hb;cases hb),named,hinst,hwrap,
  a6.trans a7.symm,⟨a8.trans a9.symm,worded,b23⟩,a10,a11,a12,a13,a14,⟨a15,a27,a28⟩,⟨a16,a20⟩,⟨a17,a21,a25,a26⟩,⟨a22,b24,c24,b17⟩,(by rw[hout,hnar];cases hsh:c.shortTexts with|none=>simp |some _=>rw[hsh]at a23;cases a23),λn hn'=>varReadable_some (a18 n hn'),
  world0,[],lists0,λos st _ H enc inj=>?_⟩
 have st':os.Started:=by unfold OpenClaim.world at st;rw[hout,hstart]at st;exact st
 rw[OpenClaim.post_not_still hstill];unfold OpenClaim.form;rw[hstart,a6];intro F;have e1:c.okInput=Input.okWide:=by unfold OpenClaim.okInput;rw[hnb]
 have e2:c.atReturn p.checked.prog=leavingAtReturn p.checked.prog:=by unfold OpenClaim.atReturn;rw[hlv]
 have e3:c.always p.checked.prog []=nothingAlways:=by unfold OpenClaim.always;rw[hfo]
 have e4:s.post enc p.checked.prog fn F c.outside c.apart c.fresh c.handsOn c.again=(s.at F).post enc p.checked.prog fn c.apart c.fresh c.handsOn c.again:=by rw[hout];rfl
 rw[e1,e2,e3];show ReturnsInOpen _ _ _ _ _ _ _ _ (s.post enc p.checked.prog fn F c.outside c.apart c.fresh c.handsOn c.again) _ _;rw[e4];exact h os st' H enc inj F a24
end Go.Car
namespace Go.Proofs.Ytkdlklpffdlglaa
open Go Go.Conc Go.RowKit Go.Car Go.ChangeShapes Go.WideShapes Go.ChangeAt
theorem bulk_one{H:Type}(d:DataW H):1<=Rows.uptoBulk d:=by
 cases d with
 |lit l=>cases l<;>simp[Rows.uptoBulk]
 |nil=>simp[Rows.uptoBulk]
 |ptr d=>simp[Rows.uptoBulk]
 |slice elems spare=>simp[Rows.uptoBulk]
 |agg parts=>simp[Rows.uptoBulk]
 |iface t d=>simp[Rows.uptoBulk]
 |map entries=>simp[Rows.uptoBulk]
 |held h=>simp[Rows.uptoBulk]
theorem zq6f{H:Type}{d:DataW H}{l:List (DataW H)}(h:d∈l):Rows.uptoBulk d<=Rows.uptoBulkAll l:=by
 induction l with
 |nil=>cases h
 |cons x r ih=>
  simp only[Rows.uptoBulkAll];rcases List.mem_cons.1 h with e|e
  . subst e;omega
  . have:=ih e;omega
theorem zqav{H:Type}(l:List (DataW H)):l.length<=Rows.uptoBulkAll l:=by
 induction l with
 |nil=>simp[Rows.uptoBulkAll]
 |cons x r ih=>have:=bulk_one x;simp only[Rows.uptoBulkAll,List.length_cons];omega
theorem zq4z{H:Type}(d:DataW H):lenD d<=Rows.uptoBulk d:=by
 cases d with
 |slice e s=>have:=zqav e;simp only[lenD,Rows.uptoBulk];omega
 |_=>exact Nat.zero_le _
theorem zqaw{H:Type}{x:DataW H}{es sp:List (DataW H)}{i:Nat}(h:es[i]?=some x):Rows.uptoBulk x<=Rows.uptoBulk (.slice es sp):=by
 have:=zq6f (List.mem_of_getElem? h);simp only[Rows.uptoBulk];omega
theorem zq6g{H:Type}{l:List (DataW H)}(hk:Rows.uptoSmall H l=true){d:DataW H}(h:d∈l):Rows.uptoBulk d<=1048576:=by
 have h1:=of_decide_eq_true hk;have h2:=zq6f h;omega
theorem own_knob:ownKnob Try.prog.godebug=none:=by kernel_rfl
theorem laid_out:laidOutB Try.prog=true:=by kernel_rfl
theorem zqdq{H:Type}{enc:TypeId×Value->H}{t:TypeId}(hr:Try.prog.readableRec t=true)(hrow:t<Try.prog.types.size){W w':World}{v:Value}{d:DataW H}{ps:List MemPlace}
 (h:DataW.Trod enc Try.prog W 0 (λ_=>true) true t v d ps) (hb:Beyond W w') (hlt:∀x∈ps,x.block<W.heap.size):DataW.Trod enc Try.prog w' 0 (λb=>decide (b<W.heap.size)) true t v d ps:=
 DataW.Trod.of_heap (w:={w' with os:=W.os,tape:=W.tape,output:=W.output}) (by rfl) (Below.trod laid_out hr hrow h ⟨rfl,rfl,rfl,hb.1,hb.2⟩ hlt)
theorem zqce{W w':World}(hb:Beyond W w')(ho:w'.os=W.os)(hu:w'.output=W.output)(may:MemPlace->Prop):W.keptBut w' may:=by
 have h:=Below.frame (W:=W) (w':={w' with os:=W.os,tape:=W.tape,output:=W.output}) ⟨rfl,rfl,rfl,hb.1,hb.2⟩ may;exact⟨ho,hu,h.2.2⟩
theorem zqd5:∃fs,Try.prog.underlying 34=some (.struct fs)/\fs.size=4/\∀j,j<4->∃f,fs[j]?=some f/\f.offset=j/\Try.prog.cellsOf f.type=1/\Try.prog.underlying f.type=some (.int .i64):=by
 refine⟨_,Try.underlying34,rfl,λj hj=>?_⟩;obtain rfl |rfl |rfl |rfl:j=0\/j=1\/j=2\/j=3:=by omega
 all_goals exact⟨_,rfl,rfl,by kernel_rfl,by kernel_rfl⟩
theorem ints_arg{H:Type}{enc:TypeId×Value->H}{W:World}{t e:TypeId}(ht:Try.prog.underlying t=some (.slice e))(he:Try.prog.underlying e=some (.int .i64))(hc:Try.prog.cellsOf e=1){base:Nat}{v:Value}{d:DataW H}{p:List MemPlace}(hok:Value.okWide Try.prog W .any base t v)
 (h:DataW.Trod enc Try.prog W 0 (λ_=>true) true t v d p) (hb:Rows.uptoBulk d<=1048576):∃a C,∃l:List Int,v=.slice a l.length C/\IntsAt W (.slice a l.length C) l/\l.length<=1048576:=by
 obtain⟨a,len,cap,rfl⟩:=okWide_slice ht hok;obtain⟨fuel,hf⟩:=h;obtain⟨l,h1,h2,h3⟩:=zqca ht he hc (by simpa[Value.cells]using hf);have:=zq4z d;exact⟨a,cap,l,by rw[h1],by rw[h1];exact h2,by omega⟩
end Go.Proofs.Ytkdlklpffdlglaa
namespace Go.Proofs
open Go Go.Conc Go.RowKit Go.Car
theorem zq4b{w:World}{B:Nat}{T:TypeId}{v:Value}{l:List Int}(h:w.ownsRow B T 1 v l.length (l.map (Value.int .i64))):IntsAt w v l:=by
 rcases h.2 with⟨hv,h0⟩|⟨g,cap,cur,hv,hb,hh,h1,h2,h3,h4⟩
 . exact⟨none,0,by rw[hv,h0],λhne=>absurd (List.length_eq_zero_iff.1 h0) hne⟩
 . refine⟨_,cap,hv,λ_=>⟨g,0,rfl,λi hi=>?_⟩⟩;rw[zq0 hh,Nat.zero_add];have e:(l.map (Value.int .i64))[i]?=some (.int .i64 (l.getD i 0)):=by simp[hi]
   rw[<-h4,List.getElem?_take,if_pos (by omega)]at e;simpa using e
theorem zq73{w:World}{B:Nat}{T:TypeId}{v:Value}{l:List Nat}(h:w.ownsRow B T 1 v l.length (l.map λ(i:Nat)=>.int .i64 i)):IntsAt w v (l.map λ(i:Nat)=>(i:Int)):=by
 refine zq4b (B:=B) (T:=T) ?_;rw[List.length_map,List.map_map];exact h
theorem zqdu{X:Nat->Option Obj}{T:TypeId}{v:Value}{l:List Int}{w:World}(h:RowB X T 1 v l.length (l.map (Value.int .i64)))(hX:∀b o,X b=some o->w.heap[b]?=some o):IntsAt w v l:=zq4b (h.own hX)
theorem ansL_get{tI:TypeId}{X:Nat->Option Obj}{l:List Ans}{cs:List Value}(h:AnsL tI X l cs):∀{i:Nat}{a:Ans},l[i]?=some a->∃Y sl,cs[i*3]?=some (.bool a.ok)/\cs[i*3+1]?=some (.int .i64 a.n)/\cs[i*3+2]?=some sl/\RowB Y tI 1 sl a.l.length (a.l.map (Value.int .i64))/\∀b o,Y b=some o->X b=some o:=by
 induction h with
 |nil=>intro i a hi;simp at hi
 |snoc h ha hd ih=>
  rename_i X Y l cs cs' a';intro i a hi;have hlen:=h.len;rcases Nat.lt_or_ge i l.length with hlt|hge
  . rw[List.getElem?_append_left hlt]at hi;obtain⟨Z,sl,h1,h2,h3,h4,h5⟩:=ih hi;refine⟨Z,sl,?_,?_,?_,h4,λb o hb=>?_⟩
    . rw[List.getElem?_append_left (by omega)];exact h1
    . rw[List.getElem?_append_left (by omega)];exact h2
    . rw[List.getElem?_append_left (by omega)];exact h3
    . have h6:=h5 b o hb;unfold orB;cases hY:Y b with
      |none=>simp[h6]
      |some y=>have:=hd b (by rw[hY];simp);rw[this]at h6;cases h6
  . have e:i=l.length:=by
     have:=(List.getElem?_eq_some_iff.1 hi).1;simp at this;omega
    subst e;simp at hi;subst hi;obtain⟨sl,rfl,hr⟩:=ha;refine⟨Y,sl,?_,?_,?_,hr,λb o hb=>by simp[orB,hb]⟩
    . rw[List.getElem?_append_right (by omega),hlen];simp
    . rw[List.getElem?_append_right (by omega),hlen];simp
    . rw[List.getElem?_append_right (by omega),hlen];simp
theorem ansR_at{tA tI:TypeId}{X:Nat->Option Obj}{hv:Value}{l:List Ans}{w:World}(h:AnsR tA tI X hv l)(hX:∀b o,X b=some o->w.heap[b]?=some o):AnsAt w hv l:=by
 obtain⟨Xr,XL,cs,hr,hL,rfl,hd⟩:=h;rcases hr.2 with⟨hv,h0,_⟩|⟨g,cap,cur,rfl,rfl,h1,h2,h3,h4⟩
 . exact⟨none,0,by rw[hv,h0],λhne=>absurd (List.length_eq_zero_iff.1 h0) hne⟩
 . refine⟨_,cap,rfl,λ_=>⟨g,0,rfl,λi a hi=>?_⟩⟩;have hg:w.heap[g]?=some (.cells cur tA (0,0)):=hX g _ (by simp[orB]);obtain⟨Y,sl,e1,e2,e3,e4,e5⟩:=ansL_get hL hi;have hil:=(List.getElem?_eq_some_iff.1 hi).1;have get:∀{j:Nat}{v:Value},j<l.length*3->cs[j]?=some v->w.cell? ⟨g,0+j,none⟩=some v:=λ{j v}hj e=>by
    rw[zq0 hg,Nat.zero_add];rw[<-h4,List.getElem?_take,if_pos hj]at e;simpa using e
   refine⟨get (by omega) e1,?_,sl,?_,zqdu e4 λb o hb=>hX b o ?_⟩
   . exact get (by omega) e2
   . exact get (by omega) e3
   . have h6:=e5 b o hb
     by_cases hbg:b=g
     . subst hbg;have:=hd b (by simp);rw[this]at h6;cases h6
     . simp[orB,hbg,h6]
theorem zq3y{ab N:Nat}{m:AnsM}{w:World}(h:zq2i tT ab N m w){i:Nat}(hi:i<N):w.cell? ⟨ab,i,none⟩=some (m.hv i)/\AnsAt w (m.hv i) (m.st i):=by
 refine⟨(zq0 h.hd).trans ?_,ansR_at (h.row i hi) λb o hb=>h.blk i b o hi hb⟩;simp[hi]
theorem trace_of{w:World}{N ab:Nat}{am:AnsM}{ov sv:Value}{ord:List Nat}{st:List Int}{stk:Bool}{B B':Nat}(h:zq2i tT ab N am w)(ho:w.ownsRow B 3 1 ov ord.length (ord.map λ(i:Nat)=>.int .i64 i))(hs:w.ownsRow B' 2 1 sv st.length (st.map (Value.int .i64))):
 TraceAt w (.agg #[.slice (some ⟨ab,0,none⟩) N N,ov,sv,.bool stk]) N am.st (ord.map λ(i:Nat)=>(i:Int)) st stk:=
 ⟨_,_,_,_,rfl,zq73 ho,zq4b hs,λ_=>⟨ab,0,rfl,λi hi=>⟨am.hv i,by rw[Nat.zero_add];exact(zq3y h hi).1,(zq3y h hi).2⟩⟩⟩
end Go.Proofs
namespace Go.Proofs
open Go Go.Conc Go.RowKit Go.Car Go.ChangeShapes Go.WideShapes Go.Deep
theorem cell_in{w:World}{b o:Nat}{v:Value}(h:w.cell? ⟨b,o,none⟩=some v):∃cur e fr,w.heap[b]?=some (.cells cur e fr)/\cur[o]?=some v:=by
 unfold World.cell? at h;split at h
 . rename_i c e fr hh;exact⟨c,e,fr,hh,by simpa using h⟩
 . cases h
theorem opsat_in{W:World}{pp:Option Addr}{np:Nat}{tops:Nat->List OpX}(h:ThrIn W pp np tops)(hn:np<=4611686018427387904)(hl:∀i,i<np->(tops i).length<=1048576):
 ∃(sp:Nat->Option Addr)(Cp:Nat->Nat),OpsAt W (λb=>W.heap[b]?) pp np (min np 64) sp (λi=>(tops i).length) Cp (λi=>(tops i).take 65536):=by
 by_cases h0:0<np
 . obtain⟨pb,po,rfl,hc⟩:=h h0;obtain⟨f,hf⟩:∃f:Nat->Option Addr×Nat,∀i,i<np->W.cell? ⟨pb,po+i,none⟩=some (.slice (f i).1 (tops i).length (f i).2)/\((tops i).length<=(f i).2/\((f i).1=none->(f i).2=0))/\((tops i)≠[]->∃gb go,(f i).1=some ⟨gb,go,none⟩/\∀(k:Nat)(c:OpX),(tops i)[k]?=some c->∀j,j<4->W.cell? ⟨gb,go+k*4+j,none⟩=c.cells[j]?):=by
    classical
    refine⟨λi=>if h:i<np then((hc i h).choose,(hc i h).choose_spec.choose)else(none,0),λi hi=>?_⟩;simp only[hi,dif_pos];exact(hc i hi).choose_spec.choose_spec
   have hne:∀{i k:Nat}{op:OpX},((tops i).take 65536)[k]?=some op->tops i≠[]/\(tops i)[k]?=some op:=λ{i k op}hop=>by
    rw[List.getElem?_take]at hop;split at hop
    . exact⟨λe=>by rw[e]at hop;simp at hop,hop⟩
    . cases hop
   refine⟨λi=>(f i).1,λi=>(f i).2,⟨rfl,hn,λ_=>⟨pb,po,rfl,λi hi=>(hf i (by omega)).1⟩,λi hi=>?_,λi hi=>by rw[List.length_take,Nat.min_comm],λi hi k op hop=>?_⟩⟩
   . obtain⟨_,h1,_⟩:=hf i (by omega);exact⟨h1.1,by have:=hl i (by omega);omega,λe=>⟨by have:=h1.2 e;omega,h1.2 e⟩⟩
   . obtain⟨_,h1,h2⟩:=hf i (by omega);obtain⟨hn1,hop'⟩:=hne hop;obtain⟨gb,go,e,h3⟩:=h2 hn1;obtain⟨cur,e2,fr,hh,-⟩:=cell_in (h3 k op hop' 0 (by decide));refine⟨gb,go,cur,e2,fr,e,hh,λj hj=>?_⟩;rw[<-zq0 hh];exact h3 k op hop' j hj
 . obtain rfl:np=0:=by omega
   exact⟨λ_=>none,λ_=>0,⟨rfl,hn,λh=>absurd h h0,λi hi=>absurd hi (Nat.not_lt_zero _),λi hi=>absurd hi (Nat.not_lt_zero _),λi hi=>absurd hi (Nat.not_lt_zero _)⟩⟩
theorem ThrIn.on {w w':World}{pp:Option Addr}{np:Nat}{tops:Nat->List OpX}(h:ThrIn w pp np tops)(hb:Beyond w w'):ThrIn w' pp np tops:=λh0=>by
 obtain⟨pb,po,e,h1⟩:=h h0;refine⟨pb,po,e,λi hi=>?_⟩;obtain⟨q,C,h2,h3,h4⟩:=h1 i hi;refine⟨q,C,hb.cell h2,h3,λh5=>?_⟩;obtain⟨gb,go,e2,h6⟩:=h4 h5;refine⟨gb,go,e2,λk c hk j hj=>?_⟩;have h7:=h6 k c hk j hj;obtain⟨v,hv⟩:∃v,c.cells[j]?=some v:=⟨_,List.getElem?_eq_getElem (by simpa[OpX.cells]using hj)⟩;rw[hv]at h7 |-;exact hb.cell h7
end Go.Proofs
namespace Go.Proofs
open Go Go.Conc Go.RowKit Go.Car
theorem zqd7{S1:Type}{i:Nat}{dop:OpX->Proc (S1×(Nat->List Ans)) Ans}{k:Nat}(h:∀op,(dop op).Deep k):∀l,(opsP i dop l).Deep k:=by
 intro l
 induction l with
 |nil=>exact Proc.Deep.ret _
 |cons op l ih=>exact(h op).bind λa=>(Proc.Deep.act _).bind λ_=>ih
section
variable {M1 S1:Type} {C:Core M1 S1} {RP:Nat->Option Obj} {l₀:M1} {w wa w1 w2:World} {N n most:Nat} {sp:Nat->Option Addr} {L Cp:Nat->Nat} {ob ib:Nat->Nat} {dv fv v:Value} {pr:Nat->Proc (S1×(Nat->List Ans)) Unit} {sched:List Int} {b:OSt (TM (M1×AnsM) (S1×(Nat->List Ans)))} {m':TM (M1×AnsM) (S1×(Nat->List Ans))} {g:Nat}
def mOps(l₀:M1)(room:Nat):TM (M1×AnsM) (S1×(Nat->List Ans)):=⟨⟨(l₀,ans0),λ_ _=>none⟩,λ_=>.ret (),room⟩
theorem ops_rep0{ro:Nat->Option Obj}{ab:Nat}{room:Nat}(h:BRep (zqf C (zqq tT ab N)) ro ⟨(l₀,ans0),λ_ _=>none⟩ w1):(thrOf (zqf C (zqq tT ab N)) ownA ro pr).Rep (mOps l₀ room) w1:=⟨h,λi=>trivial⟩
theorem zq4j{ro:Nat->Option Obj}{ab room x:Nat}(h:(thrOf (zqf C (zqq tT ab N)) ownA ro pr).foot (mOps l₀ room) x):C.foot l₀ x\/x=ab\/ro x≠none:=by
 rcases h with(h|h|⟨i,hi,h⟩)|⟨i,h⟩|h
 . exact .inl h
 . exact .inr (.inl h)
 . exact absurd rfl h
 . exact absurd rfl h
 . exact .inr (.inr h)
theorem ops_res(hR:DRes wa N dv sp L Cp N ob ib fv w1)(hb:BRep C RP ⟨l₀,λ_ _=>none⟩ wa){room:Nat}
 (ho:Over1 (thrOf (zqf C (zqq tT (wa.heap.size+1) N)) ownA (roOf RP wa.heap.size N ob ib w1) pr) N most sched (mOps l₀ room) w1 b m' v g w2):
 OpsRes C N l₀ wa (playT pr N most sched (C.st l₀,λ_=>[])) (wa.heap.size+1) v m'.bm.l.1 m'.bm.l.2 w2/\leftN b.ov N=leftN (playT pr N most sched (C.st l₀,λ_=>[])).ov N:=by
 obtain⟨hs,he⟩:=ran_T (m₀:=mOps l₀ room) rfl ho.ran;have hs0:(zqf C (zqq tT (wa.heap.size+1) N)).st (mOps (S1:=S1) l₀ room).bm.l=(C.st l₀,λ_=>[]):=rfl;rw[hs0]at hs;have hst:(C.st m'.bm.l.1,m'.bm.l.2.st)=(playT pr N most sched (C.st l₀,λ_=>[])).s:=he.trans hs.st;have hB:=ho.rep.1;have hsz:=hR.size;have hsz2:=ho.size;have hrl:∀x o,RP x=some o->x<wa.heap.size:=λx o h=>zqs (hb.rod x o h);have hrn:∀x,roOf RP wa.heap.size N ob ib w1 x≠none->RP x≠none\/wa.heap.size<=x:=λx h=>by
  cases hx:roOf RP wa.heap.size N ob ib w1 x with
  |none=>exact absurd hx h
  |some o=>
   rcases zq3p hx with h|⟨h,_⟩
   . exact .inl (by rw[h];simp)
   . right
     rcases h with h|h|⟨i,hi,h⟩
     . omega
     . omega
     . have:=hR.lo i hi;rcases h with h|h<;>omega
 have hfn:∀x,(thrOf (zqf C (zqq tT (wa.heap.size+1) N)) ownA (roOf RP wa.heap.size N ob ib w1) pr).foot m' x->roOf RP wa.heap.size N ob ib w1 x=none->C.foot l₀ x\/wa.heap.size<=x:=λx h hn=>by
  rcases ho.foot x h with h|h
  . rcases zq4j h with h|h|h
    . exact .inl h
    . exact .inr (by omega)
    . exact absurd hn h
  . exact .inr (by omega)
 have hcr:∀x,C.foot m'.bm.l.1 x->roOf RP wa.heap.size N ob ib w1 x=none:=λx h=>Classical.byContradiction λy=>hB.rol x y (.inl h);refine⟨⟨hB.core.1,congrArg Prod.fst hst,hB.core.2.1,congrArg Prod.snd hst,by omega,λx hx hf=>?_,λx hx=>hfn x (.inl (.inl hx)) (hcr x hx),by omega,λi x hi hx=>hfn x (.inl (.inr (.inr ⟨i,hi,hx⟩))) (Classical.byContradiction λy=>hB.rol x y (.inr (.inr ⟨i,hi,hx⟩))),λx hx=>?_,?_,λx hx=>?_⟩,?_⟩
 . by_cases hro:roOf RP wa.heap.size N ob ib w1 x=none
   . refine(ho.old x (by omega) λh=>?_).trans (hR.old x hx);rcases zq4j h with h|h|h
     . exact hf h
     . omega
     . exact h hro
   . cases hx2:roOf RP wa.heap.size N ob ib w1 x with
     |none=>exact absurd hx2 hro
     |some o=>
      rw[hB.rod x o hx2];rcases zq3p hx2 with h|⟨h,_⟩
      . exact(hb.rod x o h).symm
      . exfalso;rcases h with h|h|⟨i,hi,h⟩
        . omega
        . omega
        . have:=hR.lo i hi;rcases h with h|h<;>omega
 . have h:=hB.core.2.2 x hx;exact⟨λe=>h (.inl e),λi hi=>Classical.byContradiction λy=>h (.inr ⟨i,hi,y⟩)⟩
 . have:=ho.row;rw[hs.ord]at this;exact zq3m this (by omega)
 . have h:=(ho.rowf x hx).1;exact⟨λy=>h (.inl (.inl y)),λe=>h (.inl (.inr (.inl e))),λi hi=>Classical.byContradiction λy=>h (.inl (.inr (.inr ⟨i,hi,y⟩)))⟩
 . exact zq76 λi _=>by rw[hs.ov]
theorem OpsRes.ext {r:TSt (S1×(Nat->List Ans))}{ab:Nat}{l':M1}{am:AnsM}{w':World}(h:OpsRes C N l₀ wa r ab v l' am w2){H:Nat}(hw:w.heap.size=H)(hwa:wa.heap.size=H+1)(hoa:∀b,b<H->wa.heap[b]?=w.heap[b]?)(hl:∀b,C.foot l₀ b->b<H)(hsz:w2.heap.size<=w'.heap.size)(hold:∀x,x<w2.heap.size->x≠H->w'.heap[x]?=w2.heap[x]?):OpsRes C N l₀ w r ab v l' am w':=by
 have hs:=h.size;have hab:=h.abl;have hcn:∀b,C.foot l' b->b≠H:=λb hb e=>by
  rcases h.foot b hb with h2|h2
  . have:=hl b h2;omega
  . omega
 have han:∀i b,i<N->am.X i b≠none->b≠H:=λi b hi hb e=>by
  rcases h.ansn i b hi hb with h2|h2
  . have:=hl b h2;omega
  . omega
 refine⟨C.frame _ _ _ h.rep λb hb=>hold b (C.lt _ _ _ h.rep hb) (hcn b hb),h.st,⟨(hold ab (zqs h.ans.hd) (by omega)).trans h.ans.hd,h.ans.row,λi b o hi hb=>(hold b (zqs (h.ans.blk i b o hi hb)) (han i b hi (by rw[hb];simp))).trans (h.ans.blk i b o hi hb),h.ans.nab,h.ans.sep⟩,h.ast,by omega,λb hb hf=>(hold b (by omega) (by omega)).trans ((h.old b (by omega) hf).trans (hoa b (by omega))),λb hb=>(h.foot b hb).imp id (λx=>by omega),by omega,λi b hi hb=>(h.ansn i b hi hb).imp id (λx=>by omega),h.anf,?_,h.rowf⟩;refine zq3m (zq1e h.row λg hg=>hold g (own_lt h.row hg).2.2 ?_) (by omega);have:=(own_lt h.row hg).2.1;omega
end
theorem DRes.re {w w':World}{N n:Nat}{dv:Value}{sp:Nat->Option Addr}{L Cp:Nat->Nat}{ob ib:Nat->Nat}{fv:Value}(h:DRes w N dv sp L Cp n ob ib fv w')(τ:Nat->Question->Nat)(d:Nat):DRes w N dv sp L Cp n ob ib fv (Go.Car.re w' τ d):=h.of_heap rfl
theorem DRes.of_re {w w':World}{τ:Nat->Question->Nat}{d:Nat}{N n:Nat}{dv:Value}{sp:Nat->Option Addr}{L Cp:Nat->Nat}{ob ib:Nat->Nat}{fv:Value}(h:DRes (Go.Car.re w τ d) N dv sp L Cp n ob ib fv w'):DRes w N dv sp L Cp n ob ib fv w':=
 ⟨h.size,h.old,h.db,h.ab,h.hb,h.frow,h.obx,h.ibx,h.lo,h.inc⟩
theorem zqd9{w:World}{B N:Nat}{T:TypeId}{v:Value}{xs:List Value}(h:w.ownsRow B T 1 v N xs):∃p C,v=.slice p N C/\(v.ownBlock=p.map (·.block))/\(0<N->∃g,p=some ⟨g,0,none⟩/\v.ownBlock=some g/\∀i x,xs[i]?=some x->w.cell? ⟨g,i,none⟩=some x):=by
 rcases h.2 with⟨hv,h0⟩|⟨g,cap,cur,hv,hb,hh,h1,h2,h3,h4⟩
 . subst h0;exact⟨none,0,hv,by rw[hv];rfl,λh=>absurd h (Nat.lt_irrefl _)⟩
 . refine⟨_,cap,hv,by rw[hv];rfl,λ_=>⟨g,rfl,by rw[hv];rfl,λi x hx=>?_⟩⟩;rw[zq0 (off:=i) hh];have hi:i<xs.length:=(List.getElem?_eq_some_iff.1 hx).1;have hl:=h.1;rw[<-h4,List.getElem?_take]at hx;split at hx
   . simpa using hx
   . cases hx
theorem zqd8{Fin:Machine->Trace->Prop}(hFin:Back Try.prog Fin){n:Nat}(hn:0<n){A:FuncId->Bool}(hP:Plain Try.prog A)(hRS:RowsS Try.prog A){M1 S1:Type}{C:Core M1 S1}{RP:Nat->Option Obj}{l₀:M1}{w:World}
 {np Cn N Cs:Nat} {pp scp:Option Addr} {sp:Nat->Option Addr} {L Cp:Nat->Nat} {ops:Nat->List OpX} {sched:List Int} {mo:Int} {f:FuncId} {first caps:Array Value} {fn:Func} {cc:Code} (hf:Try.prog.funcs[f]?=some fn) (hb':fn.body=some cc) (hnm:(fn.name== "runtime.NumGoroutine")=false)
 (hb:BRep C RP ⟨l₀,λ_ _=>none⟩ w) (ho:OpsAt w RP pp np N sp L Cp ops) (hsl:sched.length<=4611686018427387904)
 (hs:sched≠[]->∃sb off,scp=some ⟨sb,off,none⟩/\¬C.foot l₀ sb/\∀j x,sched[j]?=some x->w.cell? ⟨sb,off+j,none⟩=some (.int .i64 x))
 {dop:Nat->OpX->Proc (S1×(Nat->List Ans)) Ans} (hdeep:∀i op k,(dop i op).Deep k)
 (hdo:∀(ro:Nat->Option Obj)(ab:Nat)(pr:Nat->Proc (S1×(Nat->List Ans)) Unit)(st:Nat)(cr:Frame)(rest:List Frame)(EN:List PanicEntry->Prop)(i:Nat)(o:List Ans)(op:OpX),(∀b x,RP b=some x->ro b=some x)->i<N->
  SpecR (zq2x hP hRS (zqf C (zqq tT ab N)) ownA ro pr 130 (.pointer (some ⟨st,0,none⟩)) cr rest NEnd EN i o) f (first++#[.iface 141 (.pointer (some ⟨st,0,none⟩)),.int .i64 i,op.val]++caps) (dop i op) (AnsV 2))
 {c:Frame} {cs:List Frame}
 (hmain:∀ab v l' am w',OpsRes C N l₀ w (playT (λi=>opsP i (dop i) (ops i)) N (min mo.toNat 1048576) sched (C.st l₀,λ_=>[])) ab v l' am w'->
  J0 Try.prog Fin (n+N) (G (c.finish (.agg #[.slice (some ⟨ab,0,none⟩) N N,v,.slice none 0 0,.bool (decide (0<leftN (playT (λi=>opsP i (dop i) (ops i)) N (min mo.toNat 1048576) sched (C.st l₀,λ_=>[])).ov N))])) cs) w'):
 J0 Try.prog Fin n (G (Frame.enter Try.prog 35 #[.slice pp np Cn,.func (.func f) first caps,.slice scp sched.length Cs,.int .i64 mo] .normal) (c::cs)) w:=by
 have hJ:=j0_JS hFin;have hC:=zq3i hFin;have e:Frame.enter Try.prog 35 #[.slice pp np Cn,.func (.func f) first caps,.slice scp sched.length Cs,.int .i64 mo] .normal=(bN 35).at (zql Try.f35 #[.slice pp np Cn,.func (.func f) first caps,.slice scp sched.length Cs,.int .i64 mo]) [.code ((Try.f35.body).getD .skip)]:=by kernel_rfl
 have ea:zql Try.f35 #[.slice pp np Cn,.func (.func f) first caps,.slice scp sched.length Cs,.int .i64 mo]=⟨#[.slice pp np Cn,.func (.func f) first caps,.slice scp sched.length Cs,.int .i64 mo,undef,undef,undef,undef,undef,undef,undef,undef,undef,undef,undef,undef,undef,undef,undef,undef,undef,undef,undef,undef,undef,undef,undef,undef,undef,undef,undef,undef],[]⟩:=by kernel_rfl
 rw[e,ea,ops0];clear e ea;have hm:=Lib.hid hmain;clear hmain;obtain⟨H,hH⟩:∃H,w.heap.size=H:=⟨_,rfl⟩;refine hJ.ctl (s:=n) (λw=>stepG_seq) ?_;refine zq2j hJ hC zq5d (by kernel_rfl) (λt w'=>t=#[.slice pp np Cn,.func (.func f) first caps,.slice scp sched.length Cs,.int .i64 mo,undef,undef,undef,undef,.pointer (some ⟨H,0,none⟩),undef,undef,undef,undef,undef,undef,undef,undef,undef,undef,undef,undef,undef,undef,undef,undef,undef,undef,undef,undef,undef,undef,undef]/\∃τ d,w'=re (w.alloc (.cells #[.slice none 0 0,.slice none 0 0,.slice none 0 0,.bool false] 29)) τ d) (λt w' τ d h=>⟨h.1,by obtain⟨τ',d',rfl⟩:=h.2;exact⟨τ,d,by rw[re_re]⟩⟩) (by decide) (λτ d=>?_) ?_
 . obtain⟨u0,hu0⟩:∃c,headC (opsT 0)=c:=⟨_,rfl⟩;have eu0:=hu0;rw[hu0];simp only[opsT,headC,tailN,Try.f35,al_od]at eu0;subst eu0;clear hu0 hdo hdeep hs ho hb hf hb' hnm;go_wp2;exact⟨rfl,rfl,τ,d,rfl⟩
 rintro t w' ⟨rfl,τ,d,rfl⟩;refine hJ.re' n _ _ τ d ?_;have hwa:(w.alloc (.cells #[.slice none 0 0,.slice none 0 0,.slice none 0 0,.bool false] 29)).heap.size=H+1:=by rw[zqc,hH]
 have hob:∀b,b<H->(w.alloc (.cells #[.slice none 0 0,.slice none 0 0,.slice none 0 0,.bool false] 29)).heap[b]?=w.heap[b]?:=λb hb=>by rw[zqa,if_neg (by omega)]
 have hzb:(w.alloc (.cells #[.slice none 0 0,.slice none 0 0,.slice none 0 0,.bool false] 29)).heap[H]?=some (.cells #[.slice none 0 0,.slice none 0 0,.slice none 0 0,.bool false] 29):=hH▸zq12 w _;obtain⟨wa,hwae⟩:∃wa,w.alloc (.cells #[.slice none 0 0,.slice none 0 0,.slice none 0 0,.bool false] 29)=wa:=⟨_,rfl⟩;rw[hwae]at hwa hob hzb |-;clear hwae;have hlw:∀b,C.foot l₀ b->b<H:=λb h=>by rw[<-hH];exact C.lt _ _ _ hb.core h
 have hba:BRep C RP ⟨l₀,λ_ _=>none⟩ wa:=hb.frame λb h=>hob b (by rw[<-hH];exact hb.lt h);have hat:0<np->∃tb to',pp=some ⟨tb,to',none⟩/\∀i,i<N->wa.cell? ⟨tb,to'+i,none⟩=some (.slice (sp i) (L i) (Cp i)):=λh0=>by
  obtain⟨tb,to',e,h1⟩:=ho.at' h0;exact⟨tb,to',e,λi hi=>(zq14 (hob tb (by rw[<-hH];exact cell_lt (h1 i hi)))).trans (h1 i hi)⟩
 have hs2:sched≠[]->∃sb off,scp=some ⟨sb,off,none⟩/\¬C.foot l₀ sb/\sb<H/\∀j x,sched[j]?=some x->wa.cell? ⟨sb,off+j,none⟩=some (.int .i64 x):=λh0=>by
  obtain⟨sb,off,e,h1',h2⟩:=hs h0;obtain⟨x,l,hsl⟩:=List.exists_cons_of_ne_nil h0;have hlt:sb<H:=by rw[<-hH];exact cell_lt (h2 0 x (by rw[hsl];rfl))
  exact⟨sb,off,e,h1',hlt,λj x hj=>(zq14 (hob sb hlt)).trans (h2 j x hj)⟩
 have hNe:=ho.eq;have hN64:N<=64:=by omega
 have hnp:=ho.le;have hrow:=ho.row;have hlen:=ho.len;have hop:=ho.op;clear ho hs hb;refine hJ.ctl (s:=n) (λw=>stepG_seq) ?_;refine zq2j hJ hC zq5d (by kernel_rfl) (λt w'=>∃ob ib fv,t=#[.slice pp np Cn,.func (.func f) first caps,.slice scp sched.length Cs,.int .i64 mo,undef,undef,undef,undef,.pointer (some ⟨H,0,none⟩),fv,.slice (some ⟨H+1+1,0,none⟩) N N,undef,undef,undef,.tuple #[fv,.slice (some ⟨H+1+1,0,none⟩) N N],.slice pp np Cn,.func (.func f) first caps,.tuple #[fv,.slice (some ⟨H+1+1,0,none⟩) N N],fv,.slice (some ⟨H+1+1,0,none⟩) N N,undef,undef,undef,undef,undef,undef,undef,undef,undef,undef,undef,undef]/\DRes wa N (.func (.func f) first caps) sp L Cp N ob ib fv w') (λt w' τ d h=>?_) (by decide) (λτ d=>?_) ?_
 . obtain⟨ob,ib,fv,h1,h2⟩:=h;exact⟨ob,ib,fv,h1,h2.re τ d⟩
 . obtain⟨u0,hu0⟩:∃c,headC (opsT 1)=c:=⟨_,rfl⟩;have eu0:=hu0;rw[hu0];simp only[opsT,headC,tailN,Try.f35,al_od]at eu0;subst eu0;clear hu0;have HM:=Lib.hid (zqbg (pp:=pp) (n:=np) (Cn:=Cn) (dv:=.func (.func f) first caps) (sp:=sp) (L:=L) (Cp:=Cp) ⟨_,_,_,rfl⟩ (re wa τ d) hnp (λi hi=>hrow i (by rw[hNe];exact hi)) (λh0=>by
    obtain⟨tb,to',e,h1⟩:=hat h0;exact⟨tb,to',e,λi hi=>h1 i (by rw[hNe];exact hi)⟩))
   rw[<-hNe]at HM;have HH:=Lib.hid (And.intro hH hwa);clear hs2 hat hlw hba hob hzb hH hwa hNe hN64 hnp hrow hlen hop hdo hdeep hf hb' hnm hsl
   go_wp2_with (fail)
   refine Calls.mono HM.out ?_;rintro e w' ⟨ob,ib,fv,rfl,hR⟩;have hR2:=Lib.hid hR.of_re;clear hR;rw[show(re wa τ d).heap.size=H+1 from HH.out.2];go_wp2;exact⟨rfl,ob,ib,fv,rfl,hR2.out⟩
 rintro t w1 ⟨ob,ib,fv,rfl,hR⟩;obtain⟨fp,Cf,rfl,hfo,hfp⟩:=zqd9 hR.frow;refine hJ.ctl (s:=n) (λw=>stepG_seq) ?_;have hrep1:=ops_rep hR hba;obtain⟨u0,hu0⟩:∃c,headC (opsT 2)=c:=⟨_,rfl⟩;have eu0:=hu0;rw[hu0];simp only[opsT,headC,tailN,Try.f35,al_od]at eu0;subst eu0;clear hu0;refine hJ.ctl (s:=n) (λw=>stepG_region) ?_;have HR:=Lib.hid hR;have HP:=Lib.hid hrep1;have HX:=Lib.hid (And.intro hat (And.intro hs2 (And.intro hob (And.intro hzb (And.intro hwa (And.intro hlw (And.intro hba (And.intro hrow (And.intro hlen hop)))))))));have HA:=Lib.hid (And.intro hfo hfp);have HNE:=Lib.hid hNe;clear hNe;have HD:=Lib.hid (And.intro hdo (And.intro hdeep (And.intro hf (And.intro hb' hnm))));clear hR hrep1 hat hs2 hob hzb hwa hfo hfp hlw hba hrow hlen hop hdo hdeep hf hb' hnm;refine zqr (s:=n) (by decide) hJ (zqp _) true (.inl rfl) 0 3 8 rfl rfl rfl (by rfl) ?_;intro τ d;simp only[List.drop_zero,List.take_succ_cons,List.take_zero];go_wp2;simp only[zqe];refine hJ.re' n _ _ τ d ?_;refine zq1b (by decide) hJ (s:=n) rfl rfl (f:=22) (args:=#[.slice fp N Cf,.slice scp sched.length Cs,.int .i64 mo]) (λτ d=>?_) (λτ d=>?_) ?_
 . simp[go_sem,execOp,Act.eval,resolve,Deferred.ofValue,invoke,callFunc,Try.func22,Try.f22]
 . intro e he;simp[go_sem,execOp,Act.eval,resolve,Deferred.ofValue,invoke,callFunc,Try.func22,Try.f22,Sem.runT_eq]at he
 obtain⟨hat,hs2,hob,hzb,hwa,hlw,hba,hrow,hlen,hop⟩:=HX.out;obtain⟨hfo,hfp⟩:=HA.out;obtain⟨hdo,hdeep,hf,hb',hnm⟩:=HD.out;have hRo:∀i,i<N->DoRo (roOf RP wa.heap.size N ob ib w1) i N (wa.heap.size+1) (ob i) wa.heap.size (ib i) (wa.heap.size+2) (sp i) (min (L i) 65536) (Cp i) (ops i) f first caps:=λi hi=>ops_ro HR.out hba hN64 hlen hop hi
 have hfree:∀x,wa.heap.size+3<=x->w1.heap[x]?≠none->(∀i,i<N->x≠ob i/\x≠ib i)->¬(C.foot l₀ x\/x=wa.heap.size+1\/roOf RP wa.heap.size N ob ib w1 x≠none):=λx hx _ hne h=>by
  rcases h with h|h|h
  . have:=hlw x h;omega
  . omega
  . cases ho:roOf RP wa.heap.size N ob ib w1 x with
    |none=>exact h ho
    |some o=>
     rcases zq3p ho with h2|⟨h2,_⟩
     . have:=zqs (hba.rod x o h2);omega
     . rcases h2 with h2|h2|⟨i,hi,h2|h2⟩
       . omega
       . omega
       . exact(hne i hi).1 h2
       . exact(hne i hi).2 h2
 refine zqdb hFin (T:=thrOf (zqf C (zqq tT (wa.heap.size+1) N)) ownA (roOf RP wa.heap.size N ob ib w1) (λi=>opsP i (dop i) (ops i))) (m₀:=mOps l₀ (min mo.toNat 1048576+100)) (N:=N) (most:=min mo.toNat 1048576) (tv:=λi=>cloD wa.heap.size (ob i) (ib i)) (sched:=sched) hn (by have:=HNE.out;omega) rfl (ops_rep0 HP.out) (Nat.le_refl _) ?_ (λi hi=>?_) ?_ ?_
 . intro h0;obtain⟨g,e,hg,hc⟩:=hfp h0;refine⟨g,e,λhf=>?_,λi hi=>hc i _ (by simp[clsD,hi])⟩;obtain⟨⟨cc,hcc⟩,hlo,hlt⟩:=own_lt HR.out.frow hg;refine hfree g hlo (by rw[hcc];simp) (λi hi=>⟨λe=>?_,λe=>?_⟩) (zq4j hf)
   . exact zq3g hcc (HR.out.obx i hi) (by decide) e
   . exact zq3g hcc (HR.out.ibx i hi) (by decide) e
 . refine thr_runs hP hRS (fn:=Try.f84) (c:=(Try.f84.body).getD .skip) Try.func84 rfl rfl (λk=>zqd7 (λop=>hdeep i op k) _) (λst cr rest EN s m w hA hown=>?_);exact zqbf hP hRS hf hb' hnm (hRo i hi) (λo op=>hdo _ _ _ st cr rest EN i o op (λb x h=>zq5e h) hi) s m w hA hown
 . refine⟨hsl,scp,Cs,rfl,λh0=>?_⟩;obtain⟨sb,off,e,h1',h2,h3⟩:=hs2 h0;refine⟨sb,off,e,λj x hj=>?_⟩;cases h1:RP sb with
   |some o=>exact .inr λm w h=>(zq14 ((h.1.rod sb o (zq5e h1)).trans (hba.rod sb o h1).symm)).trans (h3 j x hj)
   |none=>
   refine .inl ⟨(zq14 (HR.out.old sb (by omega))).trans (h3 j x hj),by have:=HR.out.size;omega,λhf=>?_⟩;rcases zq4j hf with h4|h4|h4
   . exact h1' h4
   . omega
   . cases ho:roOf RP wa.heap.size N ob ib w1 sb with
     |none=>exact h4 ho
     |some o=>
      rcases zq3p ho with h5|⟨h5,_⟩
      . rw[h1]at h5;cases h5
      . rcases h5 with h5|h5|⟨i,hi,h5⟩
        . omega
        . omega
        . have:=HR.out.lo i hi;rcases h5 with h5|h5<;>omega
 intro b m' v g capg w2 ho;obtain⟨hres,hleft⟩:=ops_res HR.out hba ho;have hvrow:=ho.row;clear ho;rw[Frame.finish_at]
 walk_nrm
 obtain⟨pv',cv',rfl,_⟩:=zq4k hvrow;clear hvrow;generalize b.ord.length=nv' at hres |-;have HO:=Lib.hid hres;rw[hleft];have hHw:=zqs hzb;clear hleft hres;obtain⟨stuck,hstuck⟩:∃x,decide (0<leftN (playT (λi=>opsP i (dop i) (ops i)) N (min mo.toNat 1048576) sched (C.st l₀,λ_=>[])).ov N)=x:=⟨_,rfl⟩;rw[hstuck];have HST:=Lib.hid hstuck;clear hstuck;refine zqr (s:=n+N) (by decide) hJ (zqp _) true (.inl rfl) 4 7 0 rfl rfl rfl (by rfl) ?_;intro τ d;simp only[List.drop_succ_cons,List.drop_zero,List.take_succ_cons,List.take_zero];go_wp2;simp only[zqe];refine hJ.re' (n+N) _ _ τ d ?_;refine hJ.ctl (s:=n+N) (λw=>stepG_region_end) ?_;have hze:w2.heap[H]?=some (.cells #[.slice none 0 0,.slice none 0 0,.slice none 0 0,.bool false] 29):=(HO.out.old H hHw (λh=>by have:=hlw H h;omega)).trans hzb;refine zq4y hJ hC zq5d (by kernel_rfl) (λv w'=>v=.agg #[.slice (some ⟨H+1+1,0,none⟩) N N,.slice pv' nv' cv',.slice none 0 0,.bool stuck]/\∃l' am,OpsRes C N l₀ w (playT (λi=>opsP i (dop i) (ops i)) N (min mo.toNat 1048576) sched (C.st l₀,λ_=>[])) (H+1+1) (.slice pv' nv' cv') l' am w') (λv w' τ d⟨h1,l',am,h2⟩=>⟨h1,l',am,h2.re τ d⟩) rfl Try.func35 (λτ d=>?_) ?_
 . obtain⟨u0,hu0⟩:∃c,opsT 3=c:=⟨_,rfl⟩;have eu0:=hu0;rw[hu0];simp only[opsT,headC,tailN,Try.f35,al_od]at eu0;subst eu0;clear hu0;have HZ:=Lib.hid (And.intro hH (And.intro hwa (And.intro hob hlw)));have b0:(re w2 τ d).heap[H]?=some (.cells #[.slice none 0 0,.slice none 0 0,.slice none 0 0,.bool false] 29):=hze;have hre:=HO.out.re τ d;clear HO;generalize re w2 τ d=w3 at b0 hre |-;have HPR:=Lib.hid hre;clear hre hfree hRo hat hs2 hob hzb hwa hlw hba hrow hlen hop hfo hfp hdo hdeep hf hb' hnm hze hHw HX HA HD HP HR hH hsl hN64 hnp hm;have r0:=(zq0 (off:=0) b0).trans rfl;have r1:=(zq0 (off:=1) b0).trans rfl;have r2:=(zq0 (off:=2) b0).trans rfl;have r3:=(zq0 (off:=3) b0).trans rfl;have z0:=zqb (off:=0) b0;have z1:=zqb (off:=1) b0;have z2:=zqb (off:=2) b0;have z3:=zqb (off:=3) b0;have B0:=Lib.hid b0;clear b0;go_wp2;clear r0 r1 r2 r3 z0 z1 z2 z3;have b1':=zqw w3 H 0 (.slice (some ⟨H+1+1,0,none⟩) N N) B0.out;have b2':=zqw _ H 1 (.slice pv' nv' cv') b1';have b3':=zqw _ H 2 (.slice none 0 0) b2';have b4':=zqw _ H 3 (.bool stuck) b3';have hext:∀x,x<w3.heap.size->x≠H->((((w3.setCell ⟨H,0,none⟩ (.slice (some ⟨H+1+1,0,none⟩) N N)).setCell ⟨H,1,none⟩ (.slice pv' nv' cv')).setCell ⟨H,2,none⟩ (.slice none 0 0)).setCell ⟨H,3,none⟩ (.bool stuck)).heap[x]?=w3.heap[x]?:=λx _ hx=>by
    rw[zqo _ _ _ _ hx,zqo _ _ _ _ hx,zqo _ _ _ _ hx,zqo _ _ _ _ hx]
   have hsz8:((((w3.setCell ⟨H,0,none⟩ (.slice (some ⟨H+1+1,0,none⟩) N N)).setCell ⟨H,1,none⟩ (.slice pv' nv' cv')).setCell ⟨H,2,none⟩ (.slice none 0 0)).setCell ⟨H,3,none⟩ (.bool stuck)).heap.size=w3.heap.size:=by simp only[zq13]
   generalize ((((w3.setCell ⟨H,0,none⟩ (.slice (some ⟨H+1+1,0,none⟩) N N)).setCell ⟨H,1,none⟩ (.slice pv' nv' cv')).setCell ⟨H,2,none⟩ (.slice none 0 0)).setCell ⟨H,3,none⟩ (.bool stuck))=w8 at b4' hext hsz8 |-;clear b1' b2' b3';have k0:=(zq0 (off:=0) b4').trans rfl;have k1:=(zq0 (off:=1) b4').trans rfl;have k2:=(zq0 (off:=2) b4').trans rfl;have k3:=(zq0 (off:=3) b4').trans rfl;have hres:=HPR.out;rw[HZ.out.2.1]at hres;refine⟨rfl,.agg #[.slice (some ⟨H+1+1,0,none⟩) N N,.slice pv' nv' cv',.slice none 0 0,.bool stuck],?_,_,rfl,rfl,_,_,hres.ext HZ.out.1 HZ.out.2.1 HZ.out.2.2.1 HZ.out.2.2.2 (by omega) hext⟩;simp only[results,Try.f35];simp[go_sem,k0,k1,k2,k3]
 . rintro v w' ⟨rfl,l',am,h⟩;have h2:=hm.out _ _ l' am w' h;rw[HST.out]at h2;exact h2
structure PlayedR{S1:Type}(N:Nat)(w:World)(r:TSt (S1×(Nat->List Ans)))(st:List Int)(ab:Nat)(ov sv:Value)(am:AnsM)(w':World):Prop where
 size:w.heap.size<=w'.heap.size
 old:∀b,b<w.heap.size->w'.heap[b]?=w.heap[b]?
 ans:zq2i tT ab N am w'
 ast:am.st=r.s.2
 abl:w.heap.size<=ab
 ansn:∀i b,i<N->am.X i b≠none->w.heap.size<=b
 orow:w'.ownsRow w.heap.size 3 1 ov r.ord.length (r.ord.map λ(i:Nat)=>.int .i64 i)
 srow:w'.ownsRow w.heap.size 2 1 sv st.length (st.map (Value.int .i64))
 rowf:∀x,ov.ownBlock=some x->x≠ab/\∀i,i<N->am.X i x=none
 srowf:∀x,sv.ownBlock=some x->x≠ab/\(∀i,i<N->am.X i x=none)/\ov.ownBlock≠some x
theorem PlayedR.re {S1:Type}{N:Nat}{w w':World}{r:TSt (S1×(Nat->List Ans))}{st:List Int}{ab:Nat}{ov sv:Value}{am:AnsM}(h:PlayedR N w r st ab ov sv am w')(τ:Nat->Question->Nat)(d:Nat):PlayedR N w r st ab ov sv am (Go.Car.re w' τ d):=
 ⟨h.size,h.old,⟨h.ans.hd,h.ans.row,h.ans.blk,h.ans.nab,h.ans.sep⟩,h.ast,h.abl,h.ansn,h.orow,h.srow,h.rowf,h.srowf⟩
theorem zqdm{M1 S1:Type}{C:Core M1 S1}{N H:Nat}{l₀ l':M1}{w wb w2 w':World}{r:TSt (S1×(Nat->List Ans))}{ab:Nat}{v sv:Value}{am:AnsM}{st:List Int}(h:OpsRes C N l₀ wb r ab v l' am w2)(hw:w.heap.size=H)(hwb:H+1<=wb.heap.size)(hob:∀b,b<H->wb.heap[b]?=w.heap[b]?)
 (hl:∀b,C.foot l₀ b->H+1<=b) (hsz:w2.heap.size<=w'.heap.size) (hold:∀x,x<w2.heap.size->x≠H->w'.heap[x]?=w2.heap[x]?) (hs:w'.ownsRow w2.heap.size 2 1 sv st.length (st.map (Value.int .i64))):PlayedR N w r st ab v sv am w':=by
 have h1:=h.size;have h2:=h.abl;have han:∀i b,i<N->am.X i b≠none->H+1<=b:=λi b hi hb=>(h.ansn i b hi hb).elim (hl b) (λx=>by omega);refine⟨by omega,λb hb=>(hold b (by omega) (by omega)).trans ((h.old b (by omega) λx=>by have:=hl b x;omega).trans (hob b (by omega))),⟨(hold ab (zqs h.ans.hd) (by omega)).trans h.ans.hd,h.ans.row,λi b o hi hb=>(hold b (zqs (h.ans.blk i b o hi hb)) (by have:=han i b hi (by rw[hb];simp);omega)).trans (h.ans.blk i b o hi hb),h.ans.nab,h.ans.sep⟩,h.ast,by omega,λi b hi hb=>by have:=han i b hi hb;omega,?_,zq3m hs (by omega),λx hx=>(h.rowf x hx).2,λx hx=>?_⟩
 . refine zq3m (zq1e h.row λg hg=>hold g (own_lt h.row hg).2.2 ?_) (by omega);have:=(own_lt h.row hg).2.1;omega
 . have h3:=(own_lt hs hx).2.1;refine⟨?_,λi hi=>?_,λe=>?_⟩
   . have:=zqs h.ans.hd;omega
   . cases ho:am.X i x with
     |none=>rfl
     |some o=>have:=zqs (h.ans.blk i x o hi ho);omega
   . have:=(own_lt h.row e).2.2;omega
def aL:List FuncId:=[13,15,36,34,81,83,65,51,47,55,57,58,10,16,33,37,38,68,40,41,42,39,43,44,69,70,66,67,85,12,17,18,19,31,32]
def aR:List FuncId:=[71,77,76,75]
def aM(f:FuncId):Bool:=aL.contains f || aR.contains f
theorem plain_rows:Plain Try.prog aM/\RowsS Try.prog aM:=by
 refine zq7w (by kernel_rfl) (λf hf=>?_) (by kernel_rfl) (by kernel_rfl);simp only[aR,List.mem_cons,List.not_mem_nil,or_false]at hf;rcases hf with rfl |rfl |rfl |rfl
 . exact⟨_,Extern.Atomic.loadT (.int .i64),Try.func71,rfl,by kernel_rfl,by kernel_rfl,by kernel_rfl,λ_=>zqic _ _,λ_=>zqfs _ _⟩
 . exact⟨_,Extern.Atomic.storeT,Try.func77,rfl,by kernel_rfl,by kernel_rfl,by kernel_rfl,λ_=>zqj2 _,λ_=>zqgo _⟩
 . exact⟨_,Extern.Atomic.update (Op.intArith .add) .i64 true,Try.func76,rfl,by kernel_rfl,by kernel_rfl,by kernel_rfl,λ_=>zqja _ _ _,λ_=>zqgy _ _ _⟩
 . exact⟨_,Extern.Atomic.casT (.int .i64),Try.func75,rfl,by kernel_rfl,by kernel_rfl,by kernel_rfl,λ_=>zqhm _ _,λ_=>zqeu _ _⟩
theorem zq1f:Plain Try.prog aM:=plain_rows.1
theorem rowsM:RowsS Try.prog aM:=plain_rows.2
end Go.Proofs
namespace Go.Car
open Go Go.Conc Go.RowKit
structure NumT where
 N:Nat
 ob:Nat->Nat
 len:Nat->Nat
 ty:Nat->TypeId
abbrev Nums:=Nat->Nat->Int
def upd2(g:Nums)(c j:Nat)(x:Int):Nums:=upd' g c (upd' (g c) j x)
theorem zq4u(g:Nums)(c j:Nat)(x:Int):upd2 g c j x c j=x:=by unfold upd2;rw[upd'_same,upd'_same]
theorem zqy(g:Nums)(c j:Nat)(x:Int)(d k:Nat):upd2 g c j x d k=if d=c/\k=j then x else g d k:=by
 unfold upd2
 by_cases h:d=c
 . subst h;rw[upd'_same]
   by_cases h2:k=j
   . subst h2;rw[upd'_same,if_pos ⟨rfl,rfl⟩]
   . rw[zqg _ _ h2,if_neg (λe=>h2 e.2)]
 . rw[zqg _ _ h,if_neg (λe=>h e.1)]
def rowA(n:Nat)(f:Nat->Int):Array Value:=((List.range n).map λj=>Value.int .i64 (f j)).toArray
theorem zq5f{n j:Nat}{f:Nat->Int}(h:j<n):(rowA n f)[j]?=some (.int .i64 (f j)):=by
 unfold rowA;rw[al_gl,List.getElem?_map,List.getElem?_range h];rfl
theorem rowA_set{n j:Nat}{f:Nat->Int}(x:Int):(rowA n f).setIfInBounds j (.int .i64 x)=rowA n (upd' f j x):=by
 apply Array.ext_getElem?;intro k;rw[al_gs]
 by_cases hk:k<n
 . rw[zq5f hk,zq5f hk]
   by_cases e:j=k
   . subst e;rw[if_pos rfl,if_pos (by unfold rowA;simpa using hk),upd'_same]
   . rw[if_neg e,zqg _ _ (λx=>e x.symm)]
 . have e1:∀f:Nat->Int,(rowA n f)[k]?=none:=λf=>by unfold rowA;simp[hk]
   rw[e1,e1]
   by_cases e:j=k
   . subst e;rw[if_pos rfl,if_neg (by unfold rowA;simpa using hk)]
   . rw[if_neg e]
structure NumRep(T:NumT)(g:Nums)(w:World):Prop where
 blk:∀c,c<T.N->w.heap[T.ob c]?=some (.cells (rowA (T.len c) (g c)) (T.ty c))
 inj:∀c d,c<T.N->d<T.N->T.ob c=T.ob d->c=d
def zqt(T:NumT):Core Nums Nums where
 foot _ b:=∃c,c<T.N/\b=T.ob c
 Rep:=NumRep T
 st g:=g
 frame g w w' h hs:=⟨λc hc=>(hs _ ⟨c,hc,rfl⟩).trans (h.blk c hc),h.inj⟩
 lt g w b h hb:=by
  obtain⟨c,hc,rfl⟩:=hb;exact zqs (h.blk c hc)
 pin _:=0
def onN{S2 α:Type}(f:Nums->Nums×α):Proc (Nums×S2) α:=Proc.act λs=>(((f s.1).1,s.2),(f s.1).2)
section
variable {T:NumT} {g:Nums} {w:World} {c j:Nat}
theorem NumRep.re (h:NumRep T g w)(τ:Nat->Question->Nat)(d:Nat):NumRep T g (Car.re w τ d):=⟨h.blk,h.inj⟩
theorem NumRep.cell (h:NumRep T g w)(hc:c<T.N)(hj:j<T.len c):w.cell? ⟨T.ob c,j,none⟩=some (.int .i64 (g c j)):=
 (zq0 (h.blk c hc)).trans (zq5f hj)
theorem NumRep.frozen (h:NumRep T g w)(hc:c<T.N):w.frozen? ⟨T.ob c,j,none⟩=false:=zqb (h.blk c hc)
theorem NumRep.set (h:NumRep T g w)(hc:c<T.N)(x:Int):NumRep T (upd2 g c j x) (w.setCell ⟨T.ob c,j,none⟩ (.int .i64 x)):=by
 refine⟨λd hd=>?_,h.inj⟩
 by_cases e:d=c
 . subst e;refine(zqw _ _ _ _ (h.blk d hd)).trans ?_;rw[rowA_set];unfold upd2;rw[upd'_same]
 . rw[zqo _ _ _ _ (λx=>e (h.inj d c hd hc x))];unfold upd2;rw[zqg _ _ e];exact h.blk d hd
end
section
variable {M2 S2:Type} {D:Core M2 S2} {ro:Nat->Option Obj} {i:Nat} {T:NumT} {m:BM (Nums×M2)} {wc:World}
theorem zq1s(hB:BRep (zqf (zqt T) D) ro m wc)(τ:Nat->Question->Nat)(d:Nat):NumRep T m.l.1 (re wc τ d):=NumRep.re hB.core.1 τ d
theorem zq5c(hB:BRep (zqf (zqt T) D) ro m wc){c j:Nat}(hc:c<T.N)(x:Int)(τ:Nat->Question->Nat)(d:Nat)(τ':Nat->Question->Nat)(d':Nat):Moved (zqf (zqt T) D) m.l (m.box i) wc (upd2 m.l.1 c j x,m.l.2) (m.box i) (re ((re wc τ d).setCell ⟨T.ob c,j,none⟩ (.int .i64 x)) τ' d'):=by
 have hS:=zq1s hB τ d;have hf:(zqt T).foot m.l.1 (T.ob c):=⟨c,hc,rfl⟩;refine Moved.left hB ⟨?_,λb hb h1 h2=>?_,(hS.set hc x).re τ' d',λb o hb=>?_,λb hb=>.inl hb,λb hb=>.inl hb,λb hb=>?_,rfl⟩
 . show wc.heap.size<=((re wc τ d).setCell _ _).heap.size;rw[zq13];exact Nat.le_refl _
 . show((re wc τ d).setCell _ _).heap[b]?=_;rw[zqo _ _ _ _ (λe=>h1 (by subst e;exact hf))];rfl
 . show((re wc τ d).setCell _ _).heap[b]?=_;have hn:m.box i b≠none:=by rw[hb];simp
   rw[zqo _ _ _ _ (λe=>hB.apart i b hn (.inl (by subst e;exact hf)))];exact hB.box i b o hb
 . exact Classical.byContradiction λx=>hB.apart i b x (.inl hb)
end
section
variable {P:Program}
end
section
variable {P:Program} {A:FuncId->Bool} {Ml S α:Type} {C:Core Ml S} {ro:Nat->Option Obj} {i:Nat}
end
end Go.Car
namespace Go.Proofs
open Go Go.Conc Go.RowKit Go.Car
theorem zq59(ad:Addr)(x:Int)(w:World)(h0:w.cell? ad=some (.int .i64 x)):
 Calls Try.prog 47 #[.pointer (some ad)] w λe w'=>e=.returned (.int .i64 x)/\w'=w:=by
 have hl:=run_call_load (P:=Try.prog) Try.func71 (by kernel_rfl) (by kernel_rfl) (by kernel_rfl) .i64 (by kernel_rfl) h0
 go_enter Try.func47,Try.ntmps47
 go_wp2;go_ret;exact⟨rfl,rfl⟩
theorem zqh5(ad:Addr)(x y:Int)(w:World)(h0:w.cell? ad=some (.int .i64 x))(f0:w.frozen? ad=false):
 Calls Try.prog 58 #[.pointer (some ad),.int .i64 y] w λe w'=>e=.returned (.tuple #[])/\w'=w.setCell ad (.int .i64 y):=by
 have hl:=run_call_store (P:=Try.prog) Try.func77 (by kernel_rfl) (by kernel_rfl) (by kernel_rfl) (by kernel_rfl) (k:=.i64) (y:=y) h0 f0
 go_enter Try.func58,Try.ntmps58
 go_wp2
 go_end0
 exact⟨rfl,rfl⟩
theorem add_lone(ad:Addr)(x y:Int)(w:World)(h0:w.cell? ad=some (.int .i64 x))(f0:w.frozen? ad=false):
 Calls Try.prog 57 #[.pointer (some ad),.int .i64 y] w λe w'=>e=.returned (.int .i64 (IntKind.i64.wrap (x+y)))/\w'=w.setCell ad (.int .i64 (IntKind.i64.wrap (x+y))):=by
 have hl:=run_call_add (P:=Try.prog) Try.func76 (by kernel_rfl) (by kernel_rfl) (by kernel_rfl) .i64 (by kernel_rfl) (y:=y) (s:=IntKind.i64.wrap (x+y)) h0 f0 (by rfl)
 go_enter Try.func57,Try.ntmps57
 go_wp2;go_ret;have hw:wrap64 (x+y)=IntKind.i64.wrap (x+y):=by rw[IntKind.wrap_i64];simp only[wrap64]
 rw[hw];exact⟨rfl,rfl⟩
theorem zqb1(ad:Addr)(x y:Int)(w:World)(h0:w.cell? ad=some (.int .i64 x))(f0:w.frozen? ad=false):
 Calls Try.prog 55 #[.pointer (some ad),.int .i64 x,.int .i64 y] w λe w'=>e=.returned (.bool true)/\w'=w.setCell ad (.int .i64 y):=by
 have hl:=run_call_cas_hit (P:=Try.prog) Try.func75 (by kernel_rfl) (by kernel_rfl) (by kernel_rfl) .i64 (by kernel_rfl) (y:=y) h0 f0
 go_enter Try.func55,Try.ntmps55
 go_wp2;go_ret;exact⟨rfl,rfl⟩
theorem zqb2(ad:Addr)(x o y:Int)(w:World)(h0:w.cell? ad=some (.int .i64 x))(f0:w.frozen? ad=false)(hne:¬x=o):
 Calls Try.prog 55 #[.pointer (some ad),.int .i64 o,.int .i64 y] w λe w'=>e=.returned (.bool false)/\w'=w:=by
 have hl:=run_call_cas_miss (P:=Try.prog) Try.func75 (by kernel_rfl) (by kernel_rfl) (by kernel_rfl) .i64 (by kernel_rfl) (y:=y) h0 f0 hne
 go_enter Try.func55,Try.ntmps55
 go_wp2;go_ret;exact⟨rfl,rfl⟩
def getN(c j:Nat)(g:Nums):Nums×Int:=(g,g c j)
def putN(c j:Nat)(x:Int)(g:Nums):Nums×Unit:=(upd2 g c j x,())
def addN(c j:Nat)(x:Int)(g:Nums):Nums×Int:=(upd2 g c j (IntKind.i64.wrap (g c j+x)),IntKind.i64.wrap (g c j+x))
def casN(c j:Nat)(o x:Int)(g:Nums):Nums×Bool:=if g c j=o then(upd2 g c j x,true)else(g,false)
section
variable {M2 S2 β:Type} {D:Core M2 S2} {ro:Nat->Option Obj} {i:Nat} {T:NumT}
structure zq67(Y:YSys Try.prog aM (zqf (zqt T) D) ro i β):Prop where
 load:∀c j,c<T.N->j<T.len c->SpecY Y 47 #[.pointer (some ⟨T.ob c,j,none⟩)] (onN (getN c j)) (λx=>.int .i64 x)
 store:∀c j x,c<T.N->j<T.len c->SpecY Y 58 #[.pointer (some ⟨T.ob c,j,none⟩),.int .i64 x] (onN (putN c j x)) (λ_=>.tuple #[])
 add:∀c j x,c<T.N->j<T.len c->SpecY Y 57 #[.pointer (some ⟨T.ob c,j,none⟩),.int .i64 x] (onN (addN c j x)) (λx=>.int .i64 x)
 cas:∀c j o x,c<T.N->j<T.len c->SpecY Y 55 #[.pointer (some ⟨T.ob c,j,none⟩),.int .i64 o,.int .i64 x] (onN (casN c j o x)) (λb=>.bool b)
theorem zq7o(Z:Alone Try.prog aM (zqf (zqt T) D) ro i β){I:Nums×S2->Prop}(hI:∀g g' s,I (g,s)->I (g',s))(hO:∀g g' s,Z.Oth (g,s) (g',s)):zq67 (Z.sys I) where
 load c j hc hj:=by
  refine Z.act Try.func47 rfl (by kernel_rfl) (λs h=>h) (λs=>Z.oth s) λm wc hB=>Calls.mono (zq59 _ _ wc ((zq1s hB wc.tape wc.drawn).cell hc hj)) ?_;rintro e w' ⟨rfl,rfl⟩;exact⟨m.l,Moved.ext hB (Ext.refl _),rfl,rfl⟩
 store c j x hc hj:=by
  refine Z.act Try.func58 rfl (by kernel_rfl) (λs h=>hI _ _ _ h) (λs=>hO _ _ _) λm wc hB=>Calls.mono (zqh5 _ _ x wc ((zq1s hB wc.tape wc.drawn).cell hc hj) ((zq1s hB wc.tape wc.drawn).frozen hc)) ?_;rintro e w' ⟨rfl,rfl⟩;exact⟨_,zq5c hB hc x wc.tape wc.drawn _ _,rfl,rfl⟩
 add c j x hc hj:=by
  refine Z.act Try.func57 rfl (by kernel_rfl) (λs h=>hI _ _ _ h) (λs=>hO _ _ _) λm wc hB=>Calls.mono (add_lone _ _ x wc ((zq1s hB wc.tape wc.drawn).cell hc hj) ((zq1s hB wc.tape wc.drawn).frozen hc)) ?_;rintro e w' ⟨rfl,rfl⟩;exact⟨_,zq5c hB hc _ wc.tape wc.drawn _ _,rfl,rfl⟩
 cas c j o x hc hj:=by
  refine Z.act (g:=λs=>(((casN c j o x s.1).1,s.2),(casN c j o x s.1).2)) Try.func55 rfl (by kernel_rfl) (λs h=>hI _ _ _ h) (λs=>hO _ _ _) λm wc hB=>?_;have hst:(zqf (zqt T) D).st m.l=(m.l.1,D.st m.l.2):=rfl
  by_cases h:m.l.1 c j=o
  . have hcell:=(zq1s hB wc.tape wc.drawn).cell hc hj;rw[h]at hcell;refine Calls.mono (zqb1 _ _ x wc hcell ((zq1s hB wc.tape wc.drawn).frozen hc)) ?_;rintro e w' ⟨rfl,rfl⟩;refine⟨_,zq5c hB hc x wc.tape wc.drawn _ _,?_,?_⟩
    . rw[hst];unfold casN;rw[if_pos h];rfl
    . rw[hst];unfold casN;rw[if_pos h]
  . refine Calls.mono (zqb2 _ _ o x wc ((zq1s hB wc.tape wc.drawn).cell hc hj) ((zq1s hB wc.tape wc.drawn).frozen hc) h) ?_;rintro e w' ⟨rfl,rfl⟩;refine⟨m.l,Moved.ext hB (Ext.refl _),?_,?_⟩
    . rw[hst];unfold casN;rw[if_neg h]
    . rw[hst];unfold casN;rw[if_neg h]
end
def getP{S2:Type}(c:Nat):Proc (Nums×S2) (Int×Bool):=(Proc.tick.bind λ_=>onN (getN c 0)).bind λx=>if x=2 then(Proc.tick.bind λ_=>onN (getN c 1)).bind λv=>Proc.ret (v,true)else Proc.ret (0,false)
def finP{S2:Type}(c:Nat)(v:Int):Proc (Nums×S2) Unit:=(Proc.tick.bind λ_=>onN (putN c 1 v)).bind λ_=>Proc.tick.bind λ_=>onN (putN c 0 2)
def setP{S2:Type}(c:Nat)(v:Int):Proc (Nums×S2) (Int×Bool):=(Proc.tick.bind λ_=>onN (casN c 0 0 1)).bind λb=>if b=true then(finP c v).bind λ_=>Proc.ret (v,true)else(getP c).bind λx=>Proc.ret (x.1,false)
abbrev pairV(x:Int×Bool):Value:=.tuple #[.int .i64 x.1,.bool x.2]
section
variable {M2 S2 β:Type} {D:Core M2 S2} {ro:Nat->Option Obj} {i:Nat} {T:NumT}
structure OnceAtoms(Y:YSys Try.prog aM (zqf (zqt T) D) ro i β)(sv:Value):Prop where
 len:∀c,c<T.N->T.len c=3
 num:zq67 Y
 step:StepY Y 48 #[sv]
section
variable {Y:YSys Try.prog aM (zqf (zqt T) D) ro i β} {sv:Value} (hst:OnceAtoms Y sv) {c:Nat} (hc:c<T.N)
include hst hc
theorem OnceAtoms.load {j:Nat}(hj:j<3):SpecY Y 47 #[.pointer (some ⟨T.ob c,j,none⟩)] (onN (getN c j)) (λx=>.int .i64 x):=hst.num.load c j hc (by rw[hst.len c hc];exact hj)
theorem OnceAtoms.store {j:Nat}(hj:j<3)(x:Int):SpecY Y 58 #[.pointer (some ⟨T.ob c,j,none⟩),.int .i64 x] (onN (putN c j x)) (λ_=>.tuple #[]):=hst.num.store c j x hc (by rw[hst.len c hc];exact hj)
theorem OnceAtoms.add {j:Nat}(hj:j<3)(x:Int):SpecY Y 57 #[.pointer (some ⟨T.ob c,j,none⟩),.int .i64 x] (onN (addN c j x)) (λx=>.int .i64 x):=hst.num.add c j x hc (by rw[hst.len c hc];exact hj)
theorem OnceAtoms.cas {j:Nat}(hj:j<3)(o x:Int):SpecY Y 55 #[.pointer (some ⟨T.ob c,j,none⟩),.int .i64 o,.int .i64 x] (onN (casN c j o x)) (λb=>.bool b):=hst.num.cas c j o x hc (by rw[hst.len c hc];exact hj)
end
theorem zq70(Y:YSys Try.prog aM (zqf (zqt T) D) ro i β)(c:Nat)(K:Int×Bool->Proc (Nums×S2) β):Y.sil ((getP c).bind K):=by
 rw[getP,Proc.bind_bind,Proc.bind_bind];exact Y.sil_tick _
theorem zq50(Y:YSys Try.prog aM (zqf (zqt T) D) ro i β)(c:Nat)(v:Int)(K:Unit->Proc (Nums×S2) β):Y.sil ((finP c v).bind K):=by
 rw[finP,Proc.bind_bind,Proc.bind_bind];exact Y.sil_tick _
theorem zq53(Y:YSys Try.prog aM (zqf (zqt T) D) ro i β){sv:Value}(hst:OnceAtoms Y sv){c:Nat}(hc:c<T.N):
 SpecB Y 25 #[.pointer (some ⟨T.ob c,0,none⟩),sv] (getP c) pairV:=by
 refine SpecB.of Try.func25 rfl ?_;intro K s B w hK hA;simp only[zql,Try.ntmps25,List.size_toArray,List.length_cons,List.length_nil,Nat.reduceAdd,Nat.reduceSub,Array.replicate_succ,Array.replicate_zero,List.push_toArray,List.append_toArray,List.nil_append,List.cons_append];apply YSys.seq0 hA (by kernel_rfl)
 . intro wc hB;go_wp2;exact⟨rfl,Ext1.refl _,rfl⟩
 intro w hA;refine zqh Y.jc ?_;apply YSys.seq0 hA (by kernel_rfl)
 . intro wc hB;go_wp2;exact⟨rfl,Ext1.refl _,rfl⟩
 intro w hA;refine zqz Y.jc rfl (zq1o Y.jc ?_);show wpJ Y.J _ _ _ _ _;refine zqh Y.jc (zqv Y.jc ?_);rw[getP,Proc.bind_bind,Proc.bind_bind]at hA;apply YSys.callS 0 1 0 hA hst.step rfl rfl rfl (by rfl) rfl rfl rfl
 . intro wc hB X hX;have HX:=Lib.hid hX;clear hX;go_wp2;exact HX.out _ (Ext1.refl _)
 . intro w;simp[go_sem,execOp,Act.eval,resolve,Deferred.ofValue,invoke,callFunc,Try.func48,Try.f48]
 . intro w;simp[go_sem,execOp,Act.eval,resolve,Deferred.ofValue,invoke,callFunc,Try.func48,Try.f48]
 . intro s' ch w' h;exact⟨rfl,h⟩
 intro s w hA;refine zq18 Y.jc ?_;show wpJ Y.J _ _ _ _ _;refine zqh Y.jc ?_;refine zqh Y.jc (zqv Y.jc ?_);apply YSys.callR 0 3 1 hA (hst.load hc (j:=0) (by decide)) (λx=>by split<;>first|exact hK _|(rw[Proc.bind_bind,Proc.bind_bind];exact Y.sil_tick _)) rfl rfl rfl (by rfl) rfl rfl rfl
 . intro wc hB X hX;have HX:=Lib.hid hX;clear hX;go_wp2;exact HX.out _ (Ext1.refl _)
 . intro w;simp[go_sem,execOp,Act.eval,resolve,Deferred.ofValue,invoke,callFunc,Try.func47,Try.f47]
 . intro w;simp[go_sem,execOp,Act.eval,resolve,Deferred.ofValue,invoke,callFunc,Try.func47,Try.f47]
 . intro s' ch w' h;exact⟨rfl,h⟩
 intro s x w hA;apply YSys.ops0 4 1 hA rfl rfl (by kernel_rfl)
 . intro wc hB;go_wp2;exact⟨rfl,Ext1.refl _,rfl⟩
 intro w hA;show wpJ Y.J _ _ _ _ _
 by_cases hx:x=2
 . rw[if_pos hx]at hA;refine zqz Y.jc rfl ?_;rw[if_neg (by simp[hx])];refine zq1o Y.jc ?_;show wpJ Y.J _ _ _ _ _;refine zqh Y.jc (zqv Y.jc ?_);rw[Proc.bind_bind,Proc.bind_bind]at hA;apply YSys.callS 0 1 0 hA hst.step rfl rfl rfl (by rfl) rfl rfl rfl
   . intro wc hB X hX;have HX:=Lib.hid hX;clear hX;go_wp2;exact HX.out _ (Ext1.refl _)
   . intro w;simp[go_sem,execOp,Act.eval,resolve,Deferred.ofValue,invoke,callFunc,Try.func48,Try.f48]
   . intro w;simp[go_sem,execOp,Act.eval,resolve,Deferred.ofValue,invoke,callFunc,Try.func48,Try.f48]
   . intro s' ch w' h;exact⟨rfl,h⟩
   intro s w hA;refine zq18 Y.jc ?_;show wpJ Y.J _ _ _ _ _;refine zqh Y.jc (zqv Y.jc ?_);apply YSys.callR 0 3 2 hA (hst.load hc (j:=1) (by decide)) (λ_=>hK _) rfl rfl rfl (by rfl) rfl rfl rfl
   . intro wc hB X hX;have HX:=Lib.hid hX;clear hX;go_wp2;exact HX.out _ (Ext1.refl _)
   . intro w;simp[go_sem,execOp,Act.eval,resolve,Deferred.ofValue,invoke,callFunc,Try.func47,Try.f47]
   . intro w;simp[go_sem,execOp,Act.eval,resolve,Deferred.ofValue,invoke,callFunc,Try.func47,Try.f47]
   . intro s' ch w' h;exact⟨rfl,h⟩
   intro s x w hA;apply YSys.ops0 4 2 hA rfl rfl (by kernel_rfl)
   . intro wc hB;go_wp2;exact⟨rfl,Ext1.refl _,rfl⟩
   intro w hA;show wpJ Y.J _ _ _ _ _;refine zq17 Y.jc ?_;exact⟨rfl,.inl ⟨_,resultsC_tmp2 rfl _,_,rfl,hA⟩⟩
 . rw[if_neg hx]at hA;refine zqz Y.jc rfl ?_;rw[if_pos (by simpa using hx)];apply YSys.seq0 hA (by kernel_rfl)
   . intro wc hB;go_wp2;exact⟨rfl,Ext1.refl _,rfl⟩
   intro w hA;refine zq17 Y.jc ?_;exact⟨rfl,.inl ⟨_,resultsC_tmp2 rfl _,_,rfl,hA⟩⟩
end
section
variable {M2 S2 β:Type} {D:Core M2 S2} {ro:Nat->Option Obj} {i:Nat} {T:NumT}
theorem zq6v(Y:YSys Try.prog aM (zqf (zqt T) D) ro i β){sv:Value}(hst:OnceAtoms Y sv){c:Nat}(hc:c<T.N)(v:Int):
 SpecB Y 56 #[.pointer (some ⟨T.ob c,0,none⟩),sv,.int .i64 v] (finP c v) (λ_=>.tuple #[]):=by
 refine SpecB.of Try.func56 rfl ?_;intro K s B w hK hA;simp only[zql,Try.ntmps56,List.size_toArray,List.length_cons,List.length_nil,Nat.reduceAdd,Nat.reduceSub,Array.replicate_succ,Array.replicate_zero,List.push_toArray,List.append_toArray,List.nil_append,List.cons_append];refine zqh Y.jc (zqv Y.jc ?_);rw[finP,Proc.bind_bind,Proc.bind_bind]at hA;apply YSys.callS 0 1 0 hA hst.step rfl rfl rfl (by rfl) rfl rfl rfl
 . intro wc hB X hX;have HX:=Lib.hid hX;clear hX;go_wp2;exact HX.out _ (Ext1.refl _)
 . intro w;simp[go_sem,execOp,Act.eval,resolve,Deferred.ofValue,invoke,callFunc,Try.func48,Try.f48]
 . intro w;simp[go_sem,execOp,Act.eval,resolve,Deferred.ofValue,invoke,callFunc,Try.func48,Try.f48]
 . intro s' ch w' h;exact⟨rfl,h⟩
 intro s w hA;refine zq18 Y.jc ?_;show wpJ Y.J _ _ _ _ _;refine zqh Y.jc (zqv Y.jc ?_);apply YSys.callR 0 4 0 hA (hst.store hc (j:=1) (by decide) v) (λ_=>by rw[Proc.bind_bind];exact Y.sil_tick _) rfl rfl rfl (by rfl) rfl rfl rfl
 . intro wc hB X hX;have HX:=Lib.hid hX;clear hX;go_wp2;exact HX.out _ (Ext1.refl _)
 . intro w;simp[go_sem,execOp,Act.eval,resolve,Deferred.ofValue,invoke,callFunc,Try.func58,Try.f58]
 . intro w;simp[go_sem,execOp,Act.eval,resolve,Deferred.ofValue,invoke,callFunc,Try.func58,Try.f58]
 . intro s' ch w' h;exact⟨rfl,h⟩
 intro s x w hA;refine zq18 Y.jc ?_;show wpJ Y.J _ _ _ _ _;refine zqh Y.jc (zqv Y.jc ?_);rw[Proc.bind_bind]at hA;apply YSys.callS 0 1 0 hA hst.step rfl rfl rfl (by rfl) rfl rfl rfl
 . intro wc hB X hX;have HX:=Lib.hid hX;clear hX;go_wp2;exact HX.out _ (Ext1.refl _)
 . intro w;simp[go_sem,execOp,Act.eval,resolve,Deferred.ofValue,invoke,callFunc,Try.func48,Try.f48]
 . intro w;simp[go_sem,execOp,Act.eval,resolve,Deferred.ofValue,invoke,callFunc,Try.func48,Try.f48]
 . intro s' ch w' h;exact⟨rfl,h⟩
 intro s w hA;refine zq18 Y.jc ?_;show wpJ Y.J _ _ _ _ _;refine zqv Y.jc ?_;apply YSys.callR 0 3 0 hA (hst.store hc (j:=0) (by decide) 2) (λ_=>hK _) rfl rfl rfl (by rfl) rfl rfl rfl
 . intro wc hB X hX;have HX:=Lib.hid hX;clear hX;go_wp2;exact HX.out _ (Ext1.refl _)
 . intro w;simp[go_sem,execOp,Act.eval,resolve,Deferred.ofValue,invoke,callFunc,Try.func58,Try.f58]
 . intro w;simp[go_sem,execOp,Act.eval,resolve,Deferred.ofValue,invoke,callFunc,Try.func58,Try.f58]
 . intro s' ch w' h;exact⟨rfl,h⟩
 intro s x w hA;refine zq18 Y.jc ?_;exact⟨rfl,.inl ⟨_,resultsC_none rfl _,(),rfl,hA⟩⟩
theorem set_spec(Y:YSys Try.prog aM (zqf (zqt T) D) ro i β){sv:Value}(hst:OnceAtoms Y sv){c:Nat}(hc:c<T.N)(v:Int):
 SpecB Y 26 #[.pointer (some ⟨T.ob c,0,none⟩),sv,.int .i64 v] (setP c v) pairV:=by
 refine SpecB.of Try.func26 rfl ?_;intro K s B w hK hA;simp only[zql,Try.ntmps26,List.size_toArray,List.length_cons,List.length_nil,Nat.reduceAdd,Nat.reduceSub,Array.replicate_succ,Array.replicate_zero,List.push_toArray,List.append_toArray,List.nil_append,List.cons_append];apply YSys.seq0 hA (by kernel_rfl)
 . intro wc hB;go_wp2;exact⟨rfl,Ext1.refl _,rfl⟩
 intro w hA;refine zqh Y.jc ?_;apply YSys.seq0 hA (by kernel_rfl)
 . intro wc hB;go_wp2;exact⟨rfl,Ext1.refl _,rfl⟩
 intro w hA;refine zqz Y.jc rfl (zq1o Y.jc ?_);show wpJ Y.J _ _ _ _ _;refine zqh Y.jc (zqv Y.jc ?_);rw[setP,Proc.bind_bind,Proc.bind_bind]at hA;apply YSys.callS 0 1 0 hA hst.step rfl rfl rfl (by rfl) rfl rfl rfl
 . intro wc hB X hX;have HX:=Lib.hid hX;clear hX;go_wp2;exact HX.out _ (Ext1.refl _)
 . intro w;simp[go_sem,execOp,Act.eval,resolve,Deferred.ofValue,invoke,callFunc,Try.func48,Try.f48]
 . intro w;simp[go_sem,execOp,Act.eval,resolve,Deferred.ofValue,invoke,callFunc,Try.func48,Try.f48]
 . intro s' ch w' h;exact⟨rfl,h⟩
 intro s w hA;refine zq18 Y.jc ?_;show wpJ Y.J _ _ _ _ _;refine zqh Y.jc ?_;refine zqh Y.jc (zqv Y.jc ?_);apply YSys.callR 0 3 0 hA (hst.cas hc (j:=0) (by decide) 0 1) (λb=>by split<;>(rw[Proc.bind_bind];first|exact zq50 Y _ _ _|exact zq70 Y _ _)) rfl rfl rfl (by rfl) rfl rfl rfl
 . intro wc hB X hX;have HX:=Lib.hid hX;clear hX;go_wp2;exact HX.out _ (Ext1.refl _)
 . intro w;simp[go_sem,execOp,Act.eval,resolve,Deferred.ofValue,invoke,callFunc,Try.func55,Try.f55]
 . intro w;simp[go_sem,execOp,Act.eval,resolve,Deferred.ofValue,invoke,callFunc,Try.func55,Try.f55]
 . intro s' ch w' h;exact⟨rfl,h⟩
 intro s x w hA;refine zq18 Y.jc ?_;show wpJ Y.J _ _ _ _ _;cases x with
 |true=>
  rw[if_pos rfl,Proc.bind_bind]at hA;refine zqz Y.jc rfl ?_;rw[if_pos rfl];refine zqh Y.jc (zqv Y.jc ?_);apply YSys.callR 0 3 0 hA (zq6v Y hst hc v).spec (λ_=>hK _) rfl rfl rfl (by rfl) rfl rfl rfl
  . intro wc hB X hX;have HX:=Lib.hid hX;clear hX;go_wp2;exact HX.out _ (Ext1.refl _)
  . intro w;simp[go_sem,execOp,Act.eval,resolve,Deferred.ofValue,invoke,callFunc,Try.func56,Try.f56]
  . intro w;simp[go_sem,execOp,Act.eval,resolve,Deferred.ofValue,invoke,callFunc,Try.func56,Try.f56]
  . intro s' ch w' h;exact⟨rfl,h⟩
  intro s x w hA;refine zq18 Y.jc ?_;show wpJ Y.J _ _ _ _ _;apply YSys.seq0 hA (by kernel_rfl)
  . intro wc hB;go_wp2;exact⟨rfl,Ext1.refl _,rfl⟩
  intro w hA;refine zq17 Y.jc ?_;exact⟨rfl,.inl ⟨_,resultsC_tmp2 rfl _,_,rfl,hA⟩⟩
 |false=>
  rw[if_neg (by decide),Proc.bind_bind]at hA;refine zqz Y.jc rfl (zq1o Y.jc ?_);show wpJ Y.J _ _ _ _ _;refine zqh Y.jc (zqv Y.jc ?_);apply YSys.callR 0 2 4 hA (zq53 Y hst hc).spec (λ_=>hK _) rfl rfl rfl (by rfl) rfl rfl rfl
  . intro wc hB X hX;have HX:=Lib.hid hX;clear hX;go_wp2;exact HX.out _ (Ext1.refl _)
  . intro w;simp[go_sem,execOp,Act.eval,resolve,Deferred.ofValue,invoke,callFunc,Try.func25,Try.f25]
  . intro w;simp[go_sem,execOp,Act.eval,resolve,Deferred.ofValue,invoke,callFunc,Try.func25,Try.f25]
  . intro s' ch w' h;exact⟨rfl,h⟩
  intro s x w hA;apply YSys.ops0 3 4 hA rfl rfl (by kernel_rfl)
  . intro wc hB;go_wp2;exact⟨rfl,Ext1.refl _,rfl⟩
  intro w hA;show wpJ Y.J _ _ _ _ _;apply YSys.seq0 hA (by kernel_rfl)
  . intro wc hB;go_wp2;exact⟨rfl,Ext1.refl _,rfl⟩
  intro w hA;refine zq17 Y.jc ?_;exact⟨rfl,.inl ⟨_,resultsC_tmp2 rfl _,_,rfl,hA⟩⟩
end
end Go.Proofs
namespace Go.Car
open Go Go.Conc Go.RowKit
section
variable {P:Program} {A:FuncId->Bool} {Ml S β α:Type} {C:Core Ml S} {ro:Nat->Option Obj} {i:Nat} {Y:YSys P A C ro i β} {B:Nat->Option Obj}
variable {Q:Y.γ->Exit->Act->World->Prop} {s:Y.γ} {w:World} {p:Proc S β} {t:Array Value} {ds:List Deferred}
def SpecAt(Y:YSys P A C ro i β)(B:Nat->Option Obj)(f:FuncId)(args:Array Value)(p:Proc S α)(val:α->Value):Prop:=
 ∀(K:α->Proc S β)(s:Y.γ)(w:World),(∀a,Y.sil (K a))->Y.AtB B s w (p.bind K)->zq1a P Y.J f args (RetY Y K val B) s w
theorem SpecAt.of {f:FuncId}{fn:Func}{c:Code}{args:Array Value}{pp:Proc S α}{val:α->Value}(hf:P.funcs[f]?=some fn)(hb:fn.body=some c)
 (h:∀(K:α->Proc S β)(s:Y.γ)(w:World),(∀a,Y.sil (K a))->Y.AtB B s w (pp.bind K)->wpJ Y.J c (bodyC (Y.Bd fn (RetY Y K val B)) (RetY Y K val B)) s (zql fn args) w):SpecAt Y B f args pp val:=
 λK s w hK hA=>BodyY.calls ⟨fn,c,hf,hb,h K s w hK hA⟩
theorem YSys.callB {ops:Array Oper}{todo rest:List Nat}(k n q:Nat){t₁:Array Value}{o:Oper}{f:FuncId}{args:Array Value}{pp:Proc S α}{val:α->Value}{K:α->Proc S β}{d₀:Tmp}(hA:Y.AtB B s w (pp.bind K))(hspec:SpecAt Y B f args pp val)(hK:∀a,Y.sil (K a))
 (hsz:k+n+(q+1)=ops.size) (ht:todo=List.range' k (n+(q+1))) (hr:rest=List.range' (k+n+1) q) (hc:chk P (λ_=>false) true ops k n=true) (ho:ops[k+n]?=some o) (hg:o.guard=none) (hd₀:o.dst=some d₀)
 (hpre:∀wc,Y.KnB B wc->∀X:Exit->Act->World->Prop,(∀w',Ext1 wc w'->X .normal ⟨t₁,ds⟩ w')->wpList P ops X ((ops.toList.drop k).take n) ⟨t,ds⟩ wc)
 (hrun:∀w,(execOp (Act.mk t₁ ds).eval o).run P w=.ok (.enter f args) w) (hev:∀w,(execOp (Act.mk t₁ ds).eval o).events P w #[]=#[])
 (hd:∀s' ch w',Y.Dead s' ch w'->Q s' (.panic ch) ⟨t₁,ds⟩ w')
 (hk:∀s' a w',Y.AtB B s' w' (K a)->opsJ Y.J ops rest Q s' ⟨t₁.setIfInBounds d₀ (val a),ds⟩ w'):opsJ Y.J ops todo Q s ⟨t,ds⟩ w:=by
 refine Y.pre0 k n (q+1) (rest:=(k+n)::rest) hA hsz ht (by rw[hr,List.range'_succ]) hc hpre λw' hA'=>?_;refine Y.callO (hspec K s w' hK hA') ho hg hd₀ hrun hev ?_;intro s' e w'' hp;cases e with
 |returned v=>
  obtain⟨a,rfl,hA''⟩:=hp;exact hk s' a w'' hA''
 |panicked ch=>exact hd s' ch w'' hp
 |outgrown=>exact hp
end
end Go.Car
namespace Go.Proofs
open Go Go.Conc Go.RowKit Go.Car
@[go_sem] theorem eql_maker (f : Fn) (a b : Array Value) (w : World) : (binOp .eql 83 (.func f a b) .nilFunc).run Try.prog w = .ok (.bool false) w := by rfl
def makeL{S2:Type}(c:Nat)(mk:Proc (Nums×S2) (Int×Bool)):Nat->Proc (Nums×S2) (Int×Int)
 |0=>Proc.ret (0,4)
 |n+1=>(getP c).bind λx=>if x.2=true then Proc.ret (x.1,0)else
  (Proc.tick.bind λ_=>onN (casN c 0 0 1)).bind λb=>if b=true then
   (Proc.tick.bind λ_=>onN (addN c 2 1)).bind λ_=>mk.bind λv=>if v.2=true then(finP c v.1).bind λ_=>Proc.ret (v.1,0)else(Proc.tick.bind λ_=>onN (putN c 0 0)).bind λ_=>Proc.ret (0,6)
  else makeL c mk n
def triesN(t:Int):Nat:=(min (max t 1) 1024).toNat
theorem zqjc(t:Int):0<triesN t/\triesN t<=1024:=by unfold triesN;omega
abbrev errV(x:Int×Int):Value:=.tuple #[.int .i64 x.1,.int .i64 x.2]
section
variable {M2 S2 β:Type} {D:Core M2 S2} {ro:Nat->Option Obj} {i:Nat} {T:NumT}
theorem zqco(Y:YSys Try.prog aM (zqf (zqt T) D) ro i β)(c:Nat)(mk:Proc (Nums×S2) (Int×Bool)){K:Int×Int->Proc (Nums×S2) β}(hK:∀a,Y.sil (K a))(n:Nat):Y.sil ((makeL c mk n).bind K):=by
 cases n with
 |zero=>exact hK _
 |succ n=>rw[makeL,Proc.bind_bind];exact zq70 Y _ _
theorem zq7h(Y:YSys Try.prog aM (zqf (zqt T) D) ro i β){sv:Value}(hst:OnceAtoms Y sv){c:Nat}(hc:c<T.N){mf:FuncId}{first caps:Array Value}{mk:Proc (Nums×S2) (Int×Bool)}{fn:Func}{cc:Code}(hf:Try.prog.funcs[mf]?=some fn)(hb':fn.body=some cc)(hnm:(fn.name== "runtime.NumGoroutine")=false){B:Nat->Option Obj}(hmk:SpecAt Y B mf (first++#[sv]++caps) mk pairV)(hms:∀K,(∀a,Y.sil (K a))->Y.sil (mk.bind K))(tries:Int):
 SpecAt Y B 27 #[.pointer (some ⟨T.ob c,0,none⟩),sv,.int .i64 tries,.func (.func mf) first caps] (makeL c mk (triesN tries)) errV:=by
 refine SpecAt.of Try.func27 rfl ?_;intro K s w hK hA;simp only[zql,Try.ntmps27,List.size_toArray,List.length_cons,List.length_nil,Nat.reduceAdd,Nat.reduceSub,Array.replicate_succ,Array.replicate_zero,List.push_toArray,List.append_toArray,List.nil_append,List.cons_append];have HKK:=Lib.hid hK;have HM:=Lib.hid (And.intro hmk hms);have HT:=Lib.hid (zqjc tries);have HF:=Lib.hid (And.intro hf (And.intro hb' hnm));clear hK hmk hms hf hb' hnm;apply YSys.seq0 hA (by kernel_rfl)
 . intro wc hB;go_wp2;exact⟨rfl,Ext1.refl _,rfl⟩
 intro w hA;refine zqh Y.jc (zq3b Y.jc ?_);apply YSys.seq0 hA (by kernel_rfl)
 . intro wc hB;go_wp2;exact⟨rfl,Ext1.refl _,rfl⟩
 intro w hA;refine zqz Y.jc rfl ?_;rw[if_neg (by decide)];apply YSys.seq0 hA (by kernel_rfl)
 . intro wc hB;go_wp2;exact⟨rfl,Ext1.refl _,rfl⟩
 intro w hA;refine zqz Y.jc rfl ?_;rw[if_neg (by decide)];refine zq1o Y.jc ?_;show wpJ Y.J _ _ _ _ _;refine zqh Y.jc ?_;apply YSys.seq0 (t':=#[.pointer (some ⟨T.ob c,0,none⟩),sv,.int .i64 tries,.func (.func mf) first caps,undef,undef,undef,undef,.int .i64 0,.int .i64 0,undef,undef,undef,undef,.bool false,.pointer (some ⟨T.ob c,0,none⟩),.bool false,.bool false,.func (.func mf) first caps,.bool false,.int .i64 tries,.int .i64 (max tries 1),.int .i64 (triesN tries:Nat),.int .i64 0,undef,undef,undef,undef,undef,undef,undef,undef,undef,undef,undef,undef,undef,undef,undef,undef,undef,undef,undef,undef,undef,undef,undef,undef,undef,undef,undef,undef,undef,undef,undef,undef,undef,undef,undef,undef,undef,undef,undef,undef,undef]) hA (by kernel_rfl)
 . intro wc hB;rcases(by omega:tries<1\/(1<=tries/\tries<=1024)\/1024<tries)with h|⟨h,h'⟩|h
   . have e:((triesN tries:Nat):Int)=1:=by unfold triesN;omega
     have e2:max tries 1=1:=by omega
     have h1:tries<=1:=by omega
     rw[e,e2];clear HT e e2;go_wp2;exact⟨rfl,Ext1.refl _,rfl⟩
   . have e:((triesN tries:Nat):Int)=tries:=by unfold triesN;omega
     have e2:max tries 1=tries:=by omega
     rw[e,e2];clear HT e e2;go_wp2;exact⟨rfl,Ext1.refl _,rfl⟩
   . have e:((triesN tries:Nat):Int)=1024:=by unfold triesN;omega
     have e2:max tries 1=tries:=by omega
     have h1:1<=tries:=by omega
     have h2:¬tries<=1024:=by omega
     rw[e,e2];clear HT e e2;go_wp2;exact⟨rfl,Ext1.refl _,rfl⟩
 intro w hA;refine zq3b Y.jc (zqai Y.jc (λs a w n=>∃(k:Nat)(x4 x5 x6 x7 x10 x11 x12 x13 x14 x15 x16 x17 x18 x19 x20 x21 x24 x25 x26 x27 x28 x29 x30 x31 x32 x33 x34 x35 x36 x37 x38 x39 x40 x41 x42 x43 x44 x45 x46 x47 x48 x49 x50 x51 x52 x53 x54 x55 x56 x57 x58 x59 x60 x61 x62 x63 x64:Value),k+n=triesN tries/\a=⟨#[.pointer (some ⟨T.ob c,0,none⟩),sv,.int .i64 tries,.func (.func mf) first caps,x4,x5,x6,x7,.int .i64 0,.int .i64 0,x10,x11,x12,x13,x14,x15,x16,x17,x18,x19,x20,x21,.int .i64 (triesN tries:Nat),.int .i64 k,x24,x25,x26,x27,x28,x29,x30,x31,x32,x33,x34,x35,x36,x37,x38,x39,x40,x41,x42,x43,x44,x45,x46,x47,x48,x49,x50,x51,x52,x53,x54,x55,x56,x57,x58,x59,x60,x61,x62,x63,x64],[]⟩/\Y.AtB B s w ((makeL c mk n).bind K)) (triesN tries) ?_ ?_)
 . exact⟨0,_,_,_,_,_,_,_,_,_,_,_,_,_,_,_,_,_,_,_,_,_,_,_,_,_,_,_,_,_,_,_,_,_,_,_,_,_,_,_,_,_,_,_,_,_,_,_,_,_,_,_,_,_,_,_,_,_,by omega,rfl,hA⟩
 clear hA;rintro s a w n ⟨k,x4,x5,x6,x7,x10,x11,x12,x13,x14,x15,x16,x17,x18,x19,x20,x21,x24,x25,x26,x27,x28,x29,x30,x31,x32,x33,x34,x35,x36,x37,x38,x39,x40,x41,x42,x43,x44,x45,x46,x47,x48,x49,x50,x51,x52,x53,x54,x55,x56,x57,x58,x59,x60,x61,x62,x63,x64,hkn,rfl,hA⟩;have HN:=Lib.hid (And.intro hkn HT.out);clear hkn;cases n with
 |zero=>
  apply YSys.seq0 hA (by kernel_rfl)
  . intro wc hB;go_wp2;exact⟨rfl,Ext1.refl _,rfl⟩
  intro w hA;refine zqh Y.jc (zqz Y.jc rfl ?_);rw[if_neg (by have:=HN.out;simp only[decide_eq_true_eq];omega)];refine zq63 Y.jc ?_;show wpJ Y.J _ _ _ _ _;apply YSys.seq0 hA (by kernel_rfl)
  . intro wc hB;go_wp2;exact⟨rfl,Ext1.refl _,rfl⟩
  intro w hA;refine zq17 Y.jc ?_;exact⟨rfl,.inl ⟨_,resultsC_tmp2 rfl _,(0,4),rfl,hA⟩⟩
 |succ n=>
  have hk:(k:Int)<(triesN tries:Nat):=by have:=HN.out;omega
  apply YSys.seq0 hA (by kernel_rfl)
  . intro wc hB;go_wp2;exact⟨rfl,Ext1.refl _,rfl⟩
  intro w hA;refine zqh Y.jc (zqz Y.jc rfl ?_);rw[if_pos (by simpa using hk)];refine zq1o Y.jc ?_;show wpJ Y.J _ _ _ _ _;refine zqh Y.jc (zq3b Y.jc ?_);refine zqh Y.jc ?_;refine zqh Y.jc (zqv Y.jc ?_);rw[makeL,Proc.bind_bind]at hA;apply YSys.callR 0 2 5 hA (zq53 Y hst hc).spec (λx=>by split<;>first|exact HKK.out _|(rw[Proc.bind_bind,Proc.bind_bind];exact Y.sil_tick _)) rfl rfl rfl (by rfl) rfl rfl rfl
  . intro wc hB X hX;have HX:=Lib.hid hX;clear hX;go_wp2;exact HX.out _ (Ext1.refl _)
  . intro w;simp[go_sem,execOp,Act.eval,resolve,Deferred.ofValue,invoke,callFunc,Try.func25,Try.f25]
  . intro w;simp[go_sem,execOp,Act.eval,resolve,Deferred.ofValue,invoke,callFunc,Try.func25,Try.f25]
  . intro s' ch w' h;exact⟨rfl,h⟩
  intro s x w hA;apply YSys.ops0 3 5 hA rfl rfl (by kernel_rfl)
  . intro wc hB;go_wp2;exact⟨rfl,Ext1.refl _,rfl⟩
  intro w hA;show wpJ Y.J _ _ _ _ _;apply YSys.seq0 hA (by kernel_rfl)
  . intro wc hB;go_wp2;exact⟨rfl,Ext1.refl _,rfl⟩
  intro w hA
  by_cases hx:x.2=true
  . rw[if_pos hx]at hA;refine zqz Y.jc rfl ?_;rw[if_pos hx];apply YSys.seq0 hA (by kernel_rfl)
    . intro wc hB;go_wp2;exact⟨rfl,Ext1.refl _,rfl⟩
    intro w hA;refine zq17 Y.jc ?_;exact⟨rfl,.inl ⟨_,resultsC_tmp2 rfl _,(x.1,0),rfl,hA⟩⟩
  . rw[if_neg hx,Proc.bind_bind,Proc.bind_bind]at hA;refine zqz Y.jc rfl ?_;rw[if_neg hx];refine zq1o Y.jc ?_;clear hx;show wpJ Y.J _ _ _ _ _;refine zqh Y.jc (zqv Y.jc ?_);apply YSys.callS 0 1 0 hA hst.step rfl rfl rfl (by rfl) rfl rfl rfl
    . intro wc hB X hX;have HX:=Lib.hid hX;clear hX;go_wp2;exact HX.out _ (Ext1.refl _)
    . intro w;simp[go_sem,execOp,Act.eval,resolve,Deferred.ofValue,invoke,callFunc,Try.func48,Try.f48]
    . intro w;simp[go_sem,execOp,Act.eval,resolve,Deferred.ofValue,invoke,callFunc,Try.func48,Try.f48]
    . intro s' ch w' h;exact⟨rfl,h⟩
    intro s w hA;refine zq18 Y.jc ?_;show wpJ Y.J _ _ _ _ _;refine zqh Y.jc ?_;refine zqh Y.jc (zqv Y.jc ?_);apply YSys.callR 0 3 1 hA (hst.cas hc (j:=0) (by decide) 0 1) (λb=>by split<;>first|exact zqco Y c mk HKK.out n|(rw[Proc.bind_bind,Proc.bind_bind];exact Y.sil_tick _)) rfl rfl rfl (by rfl) rfl rfl rfl
    . intro wc hB X hX;have HX:=Lib.hid hX;clear hX;go_wp2;exact HX.out _ (Ext1.refl _)
    . intro w;simp[go_sem,execOp,Act.eval,resolve,Deferred.ofValue,invoke,callFunc,Try.func55,Try.f55]
    . intro w;simp[go_sem,execOp,Act.eval,resolve,Deferred.ofValue,invoke,callFunc,Try.func55,Try.f55]
    . intro s' ch w' h;exact⟨rfl,h⟩
    intro s b w hA;apply YSys.ops0 4 1 hA rfl rfl (by kernel_rfl)
    . intro wc hB;go_wp2;exact⟨rfl,Ext1.refl _,rfl⟩
    intro w hA;show wpJ Y.J _ _ _ _ _
    by_cases hb:¬b=true
    . rw[if_neg hb]at hA;refine zqz Y.jc rfl ?_;rw[if_pos (by simpa using hb)];clear hb;refine zq63 Y.jc ?_;show wpJ Y.J _ _ _ _ _;have e1:IntKind.i64.wrap ((k:Int)+1)=((k+1:Nat):Int):=by have:=HN.out;rw[IntWalk.i64_in _ (by omega)];omega
      apply YSys.code0 hA (by kernel_rfl)
      . intro wc hB;go_wp2;exact⟨rfl,Ext1.refl _,rfl⟩
      intro w hA;exact⟨n,by omega,k+1,_,_,_,_,_,_,_,_,_,_,_,_,_,_,_,_,_,_,_,_,_,_,_,_,_,_,_,_,_,_,_,_,_,_,_,_,_,_,_,_,_,_,_,_,_,_,_,_,_,_,_,_,_,_,_,_,_,by have:=HN.out;omega,rfl,hA⟩
    . replace hb:=Classical.not_not.1 hb;rw[if_pos hb,Proc.bind_bind,Proc.bind_bind]at hA;refine zqz Y.jc rfl ?_;rw[if_neg (by simp[hb])];clear hb;refine zq1o Y.jc ?_;show wpJ Y.J _ _ _ _ _;refine zqh Y.jc (zqv Y.jc ?_);apply YSys.callS 0 1 0 hA hst.step rfl rfl rfl (by rfl) rfl rfl rfl
      . intro wc hB X hX;have HX:=Lib.hid hX;clear hX;go_wp2;exact HX.out _ (Ext1.refl _)
      . intro w;simp[go_sem,execOp,Act.eval,resolve,Deferred.ofValue,invoke,callFunc,Try.func48,Try.f48]
      . intro w;simp[go_sem,execOp,Act.eval,resolve,Deferred.ofValue,invoke,callFunc,Try.func48,Try.f48]
      . intro s' ch w' h;exact⟨rfl,h⟩
      intro s w hA;refine zq18 Y.jc ?_;show wpJ Y.J _ _ _ _ _;refine zqh Y.jc (zqv Y.jc ?_);apply YSys.callR 0 3 0 hA (hst.add hc (j:=2) (by decide) 1) (λ_=>by rw[Proc.bind_bind];exact HM.out.2 _ (λv=>by split<;>(rw[Proc.bind_bind];first|exact zq50 Y _ _ _|(rw[Proc.bind_bind];exact Y.sil_tick _)))) rfl rfl rfl (by rfl) rfl rfl rfl
      . intro wc hB X hX;have HX:=Lib.hid hX;clear hX;go_wp2;exact HX.out _ (Ext1.refl _)
      . intro w;simp[go_sem,execOp,Act.eval,resolve,Deferred.ofValue,invoke,callFunc,Try.func57,Try.f57]
      . intro w;simp[go_sem,execOp,Act.eval,resolve,Deferred.ofValue,invoke,callFunc,Try.func57,Try.f57]
      . intro s' ch w' h;exact⟨rfl,h⟩
      intro s _ w hA;refine zq18 Y.jc ?_;show wpJ Y.J _ _ _ _ _;rw[Proc.bind_bind]at hA;refine zqh Y.jc (zqv Y.jc ?_);apply YSys.callB 0 2 5 hA HM.out.1 (λv=>by split<;>(rw[Proc.bind_bind];first|exact zq50 Y _ _ _|(rw[Proc.bind_bind];exact Y.sil_tick _))) rfl rfl rfl (by rfl) rfl rfl rfl
      . intro wc hB X hX;have HX:=Lib.hid hX;clear hX;go_wp2;exact HX.out _ (Ext1.refl _)
      . intro w;have hf:=HF.out.1;have hb':=HF.out.2.1;have hnm':¬fn.name= "runtime.NumGoroutine" :=by simpa using HF.out.2.2
        simp[go_sem,execOp,Act.eval,resolve,Deferred.ofValue,invoke,callFunc,hf,hb',hnm']
      . intro w;have hf:=HF.out.1;have hb':=HF.out.2.1;have hnm':¬fn.name= "runtime.NumGoroutine" :=by simpa using HF.out.2.2
        simp[go_sem,execOp,Act.eval,resolve,Deferred.ofValue,invoke,callFunc,hf,hb',hnm']
      . intro s' ch w' h;exact⟨rfl,h⟩
      intro s v w hA;apply YSys.ops0 3 5 hA rfl rfl (by kernel_rfl)
      . intro wc hB;go_wp2;exact⟨rfl,Ext1.refl _,rfl⟩
      intro w hA;show wpJ Y.J _ _ _ _ _;refine zqh Y.jc ?_;apply YSys.seq0 hA (by kernel_rfl)
      . intro wc hB;go_wp2;exact⟨rfl,Ext1.refl _,rfl⟩
      intro w hA
      by_cases hv:v.2=true
      . rw[if_pos hv,Proc.bind_bind]at hA;refine zqz Y.jc rfl ?_;rw[if_pos hv];clear hv;refine zqh Y.jc (zqv Y.jc ?_);apply YSys.callR 0 3 0 hA (zq6v Y hst hc v.1).spec (λ_=>HKK.out _) rfl rfl rfl (by rfl) rfl rfl rfl
        . intro wc hB X hX;have HX:=Lib.hid hX;clear hX;go_wp2;exact HX.out _ (Ext1.refl _)
        . intro w;simp[go_sem,execOp,Act.eval,resolve,Deferred.ofValue,invoke,callFunc,Try.func56,Try.f56]
        . intro w;simp[go_sem,execOp,Act.eval,resolve,Deferred.ofValue,invoke,callFunc,Try.func56,Try.f56]
        . intro s' ch w' h;exact⟨rfl,h⟩
        intro s _ w hA;refine zq18 Y.jc ?_;show wpJ Y.J _ _ _ _ _;apply YSys.seq0 hA (by kernel_rfl)
        . intro wc hB;go_wp2;exact⟨rfl,Ext1.refl _,rfl⟩
        intro w hA;refine zq17 Y.jc ?_;exact⟨rfl,.inl ⟨_,resultsC_tmp2 rfl _,(v.1,0),rfl,hA⟩⟩
      . rw[if_neg hv,Proc.bind_bind,Proc.bind_bind]at hA;refine zqz Y.jc rfl ?_;rw[if_neg hv];clear hv;refine zq1o Y.jc ?_;show wpJ Y.J _ _ _ _ _;refine zqh Y.jc (zqv Y.jc ?_);apply YSys.callS 0 1 0 hA hst.step rfl rfl rfl (by rfl) rfl rfl rfl
        . intro wc hB X hX;have HX:=Lib.hid hX;clear hX;go_wp2;exact HX.out _ (Ext1.refl _)
        . intro w;simp[go_sem,execOp,Act.eval,resolve,Deferred.ofValue,invoke,callFunc,Try.func48,Try.f48]
        . intro w;simp[go_sem,execOp,Act.eval,resolve,Deferred.ofValue,invoke,callFunc,Try.func48,Try.f48]
        . intro s' ch w' h;exact⟨rfl,h⟩
        intro s w hA;refine zq18 Y.jc ?_;show wpJ Y.J _ _ _ _ _;refine zqh Y.jc (zqv Y.jc ?_);apply YSys.callR 0 3 0 hA (hst.store hc (j:=0) (by decide) 0) (λ_=>HKK.out _) rfl rfl rfl (by rfl) rfl rfl rfl
        . intro wc hB X hX;have HX:=Lib.hid hX;clear hX;go_wp2;exact HX.out _ (Ext1.refl _)
        . intro w;simp[go_sem,execOp,Act.eval,resolve,Deferred.ofValue,invoke,callFunc,Try.func58,Try.f58]
        . intro w;simp[go_sem,execOp,Act.eval,resolve,Deferred.ofValue,invoke,callFunc,Try.func58,Try.f58]
        . intro s' ch w' h;exact⟨rfl,h⟩
        intro s _ w hA;refine zq18 Y.jc ?_;show wpJ Y.J _ _ _ _ _;apply YSys.seq0 hA (by kernel_rfl)
        . intro wc hB;go_wp2;exact⟨rfl,Ext1.refl _,rfl⟩
        intro w hA;refine zq17 Y.jc ?_;exact⟨rfl,.inl ⟨_,resultsC_tmp2 rfl _,(0,6),rfl,hA⟩⟩
end
end Go.Proofs
