/- YtmgmbciplfkddaaEPlays2: part 9 of the proof (the texts behind it, in order). -/
import Derived.Test.YtmgmbciplfkddaaE08
set_option maxHeartbeats 4000000
set_option maxRecDepth 100000
set_option linter.all false
namespace Go.Proofs
open Go Go.Conc Go.RowKit Go.Car
noncomputable def opsT(n:Nat):Code:=tailN n (Try.f32.body.getD .skip)
theorem ops0:Try.f32.body.getD .skip=.seq (headC (opsT 0)) (.seq (headC (opsT 1)) (.seq (headC (opsT 2)) (opsT 3))):=by kernel_rfl
def ans0:AnsM:=⟨λ_=>.slice none 0 0,λ_ _=>none,λ_=>[]⟩
structure OpsAt(w:World)(RP:Nat->Option Obj)(pp:Option Addr)(n N:Nat)(sp:Nat->Option Addr)(L Cp:Nat->Nat)(ops:Nat->List OpX):Prop where
 eq:N=min n 64
 le:n<=4611686018427387904
 at':0<n->∃tb to',pp=some ⟨tb,to',none⟩/\∀i,i<N->w.cell? ⟨tb,to'+i,none⟩=some (.slice (sp i) (L i) (Cp i))
 row:∀i,i<N->L i<=Cp i/\L i<=4611686018427387904/\(sp i=none->L i=0/\Cp i=0)
 len:∀i,i<N->(ops i).length=min (L i) 65536
 op:∀i,i<N->∀k op,(ops i)[k]?=some op->∃g off cur e fr,sp i=some ⟨g,off,none⟩/\RP g=some (.cells cur e fr)/\∀j,j<4->cur[off+k*4+j]?=op.cells[j]?
open Classical in
noncomputable def roOf(RP:Nat->Option Obj)(H N:Nat)(ob ib:Nat->Nat)(w1:World):Nat->Option Obj:=λb=>if RP b≠none then RP b else if b=H\/b=H+2\/∃i,i<N/\(b=ob i\/b=ib i)then w1.heap[b]? else none
theorem zq68{RP:Nat->Option Obj}{H N:Nat}{ob ib:Nat->Nat}{w1:World}{b:Nat}{o:Obj}(h:RP b=some o):roOf RP H N ob ib w1 b=some o:=by
 unfold roOf;rw[if_pos (by rw[h];simp),h]
theorem zq59{RP:Nat->Option Obj}{H N:Nat}{ob ib:Nat->Nat}{w1:World}{b:Nat}(h:RP b=none)(hb:b=H\/b=H+2\/∃i,i<N/\(b=ob i\/b=ib i)):roOf RP H N ob ib w1 b=w1.heap[b]?:=by
 unfold roOf;rw[if_neg (by rw[h];simp),if_pos hb]
theorem zq47{RP:Nat->Option Obj}{H N:Nat}{ob ib:Nat->Nat}{w1:World}{b:Nat}{o:Obj}(h:roOf RP H N ob ib w1 b=some o):RP b=some o\/((b=H\/b=H+2\/∃i,i<N/\(b=ob i\/b=ib i))/\w1.heap[b]?=some o):=by
 unfold roOf at h;split at h
 . exact .inl h
 . split at h
   . rename_i h2;exact .inr ⟨h2,h⟩
   . cases h
structure OpsRes{M1 S1:Type}(C:Core M1 S1)(N:Nat)(l₀:M1)(w:World)(r:TSt (S1×(Nat->List Ans)))(ab:Nat)(v:Value)(l':M1)(am:AnsM)(w':World):Prop where
 rep:C.Rep l' w'
 st:C.st l'=r.s.1
 ans:zq2v tT ab N am w'
 ast:am.st=r.s.2
 size:w.heap.size<=w'.heap.size
 old:∀b,b<w.heap.size->¬C.foot l₀ b->w'.heap[b]?=w.heap[b]?
 foot:∀b,C.foot l' b->C.foot l₀ b\/w.heap.size<=b
 abl:w.heap.size<=ab
 ansn:∀i b,i<N->am.X i b≠none->C.foot l₀ b\/w.heap.size<=b
 anf:∀b,C.foot l' b->b≠ab/\∀i,i<N->am.X i b=none
 row:w'.ownsRow w.heap.size 3 1 v r.ord.length (r.ord.map λ(i:Nat)=>.int .i64 i)
 rowf:∀x,v.ownBlock=some x->¬C.foot l' x/\x≠ab/\∀i,i<N->am.X i x=none
theorem OpsRes.re {M1 S1:Type}{C:Core M1 S1}{N:Nat}{l₀:M1}{w w':World}{r:TSt (S1×(Nat->List Ans))}{ab:Nat}{v:Value}{l':M1}{am:AnsM}(h:OpsRes C N l₀ w r ab v l' am w')(τ:Nat->Question->Nat)(d:Nat):OpsRes C N l₀ w r ab v l' am (Go.Car.re w' τ d):=
 ⟨C.frame _ _ _ h.rep λ_ _=>rfl,h.st,⟨h.ans.hd,h.ans.row,h.ans.blk,h.ans.nab,h.ans.sep⟩,h.ast,h.size,h.old,h.foot,h.abl,h.ansn,h.anf,h.row,h.rowf⟩
section
variable {M1 S1:Type} {C:Core M1 S1} {RP:Nat->Option Obj} {l₀:M1} {wa w1:World} {N n:Nat} {pp:Option Addr} {sp:Nat->Option Addr} {L Cp:Nat->Nat} {ops:Nat->List OpX} {ob ib:Nat->Nat} {dv fv:Value}
theorem ops_rep(hR:DRes wa N dv sp L Cp N ob ib fv w1)(hb:BRep C RP ⟨l₀,λ_ _=>none⟩ wa):BRep (zqi C (zqy tT (wa.heap.size+1) N)) (roOf RP wa.heap.size N ob ib w1) ⟨(l₀,ans0),λ_ _=>none⟩ w1:=by
 have hcl:∀b,C.foot l₀ b->b<wa.heap.size:=λb h=>C.lt _ _ _ hb.core h;have hrl:∀b o,RP b=some o->b<wa.heap.size:=λb o h=>zqc (hb.rod b o h);have hnw:∀b o,roOf RP wa.heap.size N ob ib w1 b=some o->RP b=some o\/(wa.heap.size<=b/\b≠wa.heap.size+1/\w1.heap[b]?=some o):=λb o h=>by
  rcases zq47 h with h|⟨h,h2⟩
  . exact .inl h
  . right
    rcases h with h|h|⟨i,hi,h⟩
    . exact⟨by omega,by omega,h2⟩
    . exact⟨by omega,by omega,h2⟩
    . have:=hR.lo i hi;rcases h with h|h<;>exact⟨by omega,by omega,h2⟩
 refine⟨⟨C.frame _ _ _ hb.core λb h=>hR.old b (hcl b h),⟨?_,λi hi=>AnsR.nil _ _,λi b o _ h=>(by cases h),λi _=>rfl,λi j b _ _ _ _=>rfl⟩,λb h=>?_⟩,λi b o h=>(by cases h),λb o h=>?_,λi b h=>absurd rfl h,λi j b _ h=>absurd rfl h,λb h=>?_,λi b _=>rfl⟩
 . show w1.heap[wa.heap.size+1]?=_;rw[hR.ab];congr 2;apply Array.ext_getElem?;intro i
   by_cases hi:i<N
   . simp[ans0,hi]
   . simp[ans0,hi]
 . rintro(h2|⟨i,hi,h2⟩)
   . have:=hcl b h;omega
   . exact h2 rfl
 . rcases hnw b o h with h|h
   . rw[hR.old b (hrl b o h)];exact hb.rod b o h
   . exact h.2.2
 . cases ho:roOf RP wa.heap.size N ob ib w1 b with
   |none=>exact absurd ho h
   |some o=>
    rintro(h2|h2|⟨i,hi,h2⟩)
    . rcases hnw b o ho with h3|h3
      . exact hb.rol b (by rw[h3];simp) h2
      . have:=hcl b h2;omega
    . rcases hnw b o ho with h3|h3
      . have:=hrl b o h3;omega
      . exact h3.2.1 h2
    . exact h2 rfl
theorem ops_ro{f:FuncId}{first caps:Array Value}(hR:DRes wa N (.func (.func f) first caps) sp L Cp N ob ib fv w1)(hb:BRep C RP ⟨l₀,λ_ _=>none⟩ wa)(hN:N<=64)(hlen:∀i,i<N->(ops i).length=min (L i) 65536)(hop:∀i,i<N->∀k op,(ops i)[k]?=some op->∃g off cur e fr,sp i=some ⟨g,off,none⟩/\RP g=some (.cells cur e fr)/\∀j,j<4->cur[off+k*4+j]?=op.cells[j]?){i:Nat}(hi:i<N):
 DoRo (roOf RP wa.heap.size N ob ib w1) i N (wa.heap.size+1) (ob i) wa.heap.size (ib i) (wa.heap.size+2) (sp i) (min (L i) 65536) (Cp i) (ops i) f first caps:=by
 have hno:∀b,wa.heap.size<=b->RP b=none:=λb hle=>by
  cases h:RP b with
  |none=>rfl
  |some o=>have:=zqc (hb.rod b o h);omega
 have hlo:=hR.lo i hi;refine⟨?_,?_,?_,?_,hlen i hi,Nat.min_le_right _ _,hi,hN,λk op hk=>?_⟩
 . rw[zq59 (hno _ (by omega)) (.inr (.inr ⟨i,hi,.inl rfl⟩))];exact hR.obx i hi
 . rw[zq59 (hno _ (Nat.le_refl _)) (.inl rfl)];exact hR.db
 . rw[zq59 (hno _ (by omega)) (.inr (.inr ⟨i,hi,.inr rfl⟩))];exact hR.ibx i hi
 . rw[zq59 (hno _ (by omega)) (.inr (.inl rfl))];exact hR.hb
 . obtain⟨g,off,cur,e,fr,h1,h2,h3⟩:=hop i hi k op hk;exact⟨g,off,cur,e,fr,h1,zq68 h2,h3⟩
end
def Beyond(w w':World):Prop:=w.heap.size<=w'.heap.size/\∀b,b<w.heap.size->w'.heap[b]?=w.heap[b]?
theorem Beyond.refl (w:World):Beyond w w:=⟨Nat.le_refl _,λ_ _=>rfl⟩
theorem Beyond.trans {w w' w'':World}(h:Beyond w w')(k:Beyond w' w''):Beyond w w'':=⟨Nat.le_trans h.1 k.1,λb hb=>(k.2 b (Nat.lt_of_lt_of_le hb h.1)).trans (h.2 b hb)⟩
theorem Beyond.alloc (w:World)(o:Obj):Beyond w (w.alloc o):=⟨by rw[zq3];omega,λb hb=>by rw[zq5,if_neg (by omega)]⟩
theorem Beyond.heap {w w':World}(h:Beyond w w'){b:Nat}{o:Obj}(hb:w.heap[b]?=some o):w'.heap[b]?=some o:=(h.2 b (zqc hb)).trans hb
theorem Beyond.cell {w w':World}(h:Beyond w w'){a:Addr}{v:Value}(hb:w.cell? a=some v):w'.cell? a=some v:=(zqu (h.2 a.block (cell_lt hb))).trans hb
theorem Beyond.re (w:World)(τ:Nat->Question->Nat)(d:Nat):Beyond w (Go.Car.re w τ d):=⟨Nat.le_refl _,λ_ _=>rfl⟩
def IntsAt(w:World)(v:Value)(l:List Int):Prop:=∃p C,v=.slice p l.length C/\(l≠[]->∃b o,p=some ⟨b,o,none⟩/\∀i,i<l.length->w.cell? ⟨b,o+i,none⟩=some (.int .i64 (l.getD i 0)))
theorem IntsAt.beyond {w w':World}{v:Value}{l:List Int}(h:IntsAt w v l)(hb:Beyond w w'):IntsAt w' v l:=by
 obtain⟨p,C,e,h⟩:=h;refine⟨p,C,e,λhl=>?_⟩;obtain⟨b,o,e2,h2⟩:=h hl;exact⟨b,o,e2,λi hi=>hb.cell (h2 i hi)⟩
def AnsAt(w:World)(v:Value)(l:List Ans):Prop:=∃p C,v=.slice p l.length C/\(l≠[]->∃b o,p=some ⟨b,o,none⟩/\∀i a,l[i]?=some a->w.cell? ⟨b,o+i*3,none⟩=some (.bool a.ok)/\w.cell? ⟨b,o+i*3+1,none⟩=some (.int .i64 a.n)/\∃lv,w.cell? ⟨b,o+i*3+2,none⟩=some lv/\IntsAt w lv a.l)
theorem AnsAt.beyond {w w':World}{v:Value}{l:List Ans}(h:AnsAt w v l)(hb:Beyond w w'):AnsAt w' v l:=by
 obtain⟨p,C,e,h⟩:=h;refine⟨p,C,e,λhl=>?_⟩;obtain⟨b,o,e2,h2⟩:=h hl;refine⟨b,o,e2,λi a hi=>?_⟩;obtain⟨h3,h4,lv,h5,h6⟩:=h2 i a hi;exact⟨hb.cell h3,hb.cell h4,lv,hb.cell h5,h6.beyond hb⟩
def TraceAt(w:World)(v:Value)(N:Nat)(tolds:Nat->List Ans)(ord st:List Int)(stuck:Bool):Prop:=∃p C ov sv,v=.agg #[.slice p N C,ov,sv,.bool stuck]/\IntsAt w ov ord/\IntsAt w sv st/\
 (0<N->∃b o,p=some ⟨b,o,none⟩/\∀i,i<N->∃vi,w.cell? ⟨b,o+i,none⟩=some vi/\AnsAt w vi (tolds i))
theorem TraceAt.beyond {w w':World}{v:Value}{N:Nat}{tolds:Nat->List Ans}{ord st:List Int}{stuck:Bool}(h:TraceAt w v N tolds ord st stuck)(hb:Beyond w w'):TraceAt w' v N tolds ord st stuck:=by
 obtain⟨p,C,ov,sv,e,h1,h2,h3⟩:=h;refine⟨p,C,ov,sv,e,h1.beyond hb,h2.beyond hb,λh0=>?_⟩;obtain⟨b,o,e2,h4⟩:=h3 h0;refine⟨b,o,e2,λi hi=>?_⟩;obtain⟨vi,h5,h6⟩:=h4 i hi;exact⟨vi,hb.cell h5,h6.beyond hb⟩
theorem Beyond.drew (w:World)(n:Nat):Beyond w (w.drewN n):=⟨Nat.le_refl _,λ_ _=>rfl⟩
end Go.Proofs
namespace Go.Car
open Go Go.Conc Go.RowKit
section
variable {P:Program}
def FinOf(P:Program)(Post:Value->World->Prop)(m:Machine)(T:Trace):Prop:=
 ∃N last o w' t',runNT P (N+1) m T=(.ended o w',t')/\runN P N m=.next last/\step P last=.ended o w'/\Conc.Good P (λv w=>Post v w/\w.os=m.world.os/\w.output=m.world.output) last o w' t'
theorem zq7d(Post:Value->World->Prop):Back P (FinOf P Post):=by
 intro N m T m' T' hrun e1 e2 ⟨M,last,o,w',t',h1,h2,h3,h4⟩;rw[e1,e2]at h4;have hn:runN P N m=.next m':=by rw[<-runNT_fst P _ _ T,hrun]
 refine⟨N+M,last,o,w',t',?_,?_,h3,h4⟩
 . rw[Nat.add_assoc,runNT_add,hrun];exact h1
 . rw[runN_add,hn];exact h2
theorem j0_end{Post:Value->World->Prop}(hPost:∀v w τ d,Post v w->Post v (re w τ d)){n:Nat}{b:Frame}(hb:b.kind=.normal)(hini:P.inits.idxOf? b.fn=none){fn:Func}(hf:P.funcs[b.fn]?=some fn){t:Array Value}{todo:List Item}{w:World}{v:Value}
 (hr:(results fn t).run P w=.ok v w) (hp:Post v w):J0 P (FinOf P Post) n (G {b.at ⟨t,[]⟩ todo with mode:=.returning} []) w:=by
 intro τ d Mem B gs sl T q hM hsz hg hR;obtain⟨hL,hP⟩:=ring_end hR hM (λ_ _=>rfl);obtain⟨es,hes⟩:∃es,((results fn t).runT P w #[]).2=es:=⟨_,rfl⟩;have hT:∀τ d,(results fn t).runT P (re w τ d) #[]=(.ok v (re w τ d),es):=λτ d=>by
  obtain⟨_,_,h3⟩:=zq36 _ (zq2f _ (zq1m (P:=P) fn t)) w #[];have h4:((results fn t).runT P w #[]).1=.ok v w:=by rw[Sem.runT_eq];exact hr
  have:=h3 τ d (λj hj=>by rw[h4]at hj;simp only[resW]at hj;omega);rw[h4,hes]at this;simp only[resRe,resW,Nat.sub_self,Nat.add_zero]at this;exact this
 have hcalm:∀e∈es,calmEv true e:=λe he=>by
  rw[<-hes]at he;have:=(zq25 _ (zq1m (P:=P) fn t) w #[] e he).resolve_left (by simp);exact⟨this.1,λh=>by cases h⟩
 obtain⟨B2,hB2⟩:=zq54 es;have hP2:Past (λ_=>False) (max B B2) T:=hP.mono (Nat.le_max_left _ _);refine beside_ends (Shun:=λ_=>False) (B:=max B B2) (D:=λ_ _ _=>False) (n:=0) (λ_ _ _ h=>h.elim) hg hL hP2 ?_;rintro w₁ ⟨d₁,rfl⟩;have hw:∃τ' d',(((re w τ 0).at d).at d₁)=re w τ' d':=⟨τ,d₁,rfl⟩;obtain⟨τ',d',hw⟩:=hw;rw[hw];refine⟨rfl,v,seen P b.fn es,?_,λe he=>?_,hPost _ _ _ _ hp,rfl,rfl⟩
 . simp only[G,stepG,unwind,Frame.at,hf,hT τ' d',GStep.after,doReturn];simp[GStep.after,hb,hini]
 . have he':=mem_seen he;obtain⟨k1,k2⟩:=zq4o (hcalm e he');exact⟨λx _ h=>h.elim,k1,k2,MemAct.low_mono (Nat.le_max_right _ _) (hB2 e he')⟩
theorem j0_run{Post:Value->World->Prop}{f:FuncId}{fn:Func}{c:Code}{args:Array Value}{W:World}(hf:P.funcs[f]?=some fn)(hb:fn.body=some c)
 (h:J0 P (FinOf P Post) 1 (G (Frame.enter P f args .normal) []) W):FinOf P Post (solo (G (Frame.enter P f args .normal) []) W) #[]:=by
 have hL:Leavers P (#[]:Trace) #[G (Frame.enter P f args .normal) []] (λ_=>0):=⟨λi g hi hg=>by
  rcases i with _|i
  . omega
  . simp at hg,λj _=>rfl⟩
 have hP:Past (λ_=>False) 0 (#[]:Trace):=past_nil;have hR:=ring_begin (P:=P) (K:=KK (λ_=>none)) (Still:=zq2a (λ_=>none)) (w:=W.at W.drawn) (B:=0) (λl⟨a,v,_,hv⟩=>by cases hv) hL hP (zq71 _);have:=h W.tape W.drawn (λg=>g=0) 0 #[G (Frame.enter P f args .normal) []] none #[] (λ_=>0) rfl rfl rfl hR;rw[solo_eq_crowd];exact this
end
end Go.Car
namespace Go.Car
open Go Go.Conc Go.RowKit
section
variable {P:Program} {A:FuncId->Bool}
theorem zqc6{Post:Value->World->Prop}(hPost:∀v w τ d,Post v w->Post v (re w τ d))(hP:Plain P A){c:Code}(hc:zqp P A c=true){n:Nat}{b:Frame}(hb:b.kind=.normal)(hini:P.inits.idxOf? b.fn=none){fn:Func}(hf:P.funcs[b.fn]?=some fn){t:Array Value}{w:World}
 (h:∀τ d,Code.wp P c (bodyPost P fn λe w'=>∃v,e=.returned v/\Post v w') ⟨t,[]⟩ (re w τ d)):J0 P (FinOf P Post) n (G (b.at ⟨t,[]⟩ [.code c]) []) w:=by
 have hFin:=zq7d (P:=P) Post;have hJ:=j0_JS hFin;have hC:=zq3x hFin
 let Φ:Act->World->Prop:=λa w=>∃v,(results fn a.tmps).run P w=.ok v w/\Post v w
 have hΦ:∀a w τ d,Φ a w->Φ a (re w τ d):=λa w τ d⟨v,h1,h2⟩=>⟨v,zq34 h1 τ d,hPost _ _ _ _ h2⟩;have hleave:∀(t:Array Value)(w:World)(todo:List Item),Φ ⟨t,[]⟩ w->J0 P (FinOf P Post) n (G {b.at ⟨t,[]⟩ todo with mode:=.returning} []) w:=λt w todo⟨v,h1,h2⟩=>j0_end hPost hb hini hf h1 h2;refine zq6x (Q:=λs' e a' w'=>s'=n/\(e=.normal\/e=.ret)/\a'.defers=[]/\Φ a' w') hJ hC hP hc Φ Φ hΦ hΦ (λτ d=>?_) (λt w h=>⟨rfl,.inl rfl,rfl,h⟩) (λt w h=>⟨rfl,.inr rfl,rfl,h⟩) b [] [] (by rw[hb];decide) ?_
 . refine Code.wp_mono ?_ (h τ d);intro e a w hh;cases e with
   |normal=>obtain⟨h1,v,h2,v',h3,h4⟩:=hh;cases h3;exact⟨h1,v,h2,h4⟩
   |ret=>obtain⟨h1,v,h2,v',h3,h4⟩:=hh;cases h3;exact⟨h1,v,h2,h4⟩
   |panic ch=>obtain⟨h1,v,h2,_⟩:=hh;cases h2
   |outgrown=>obtain⟨v,h2,_⟩:=hh;cases h2
   |_=>exact hh
 . rintro s' e ⟨t',ds⟩ w' ⟨rfl,he,hd,h⟩;simp only at hd;subst hd;rcases he with rfl |rfl
   . exact hJ.ctl (λw=>stepG_end) (hleave t' w' [] h)
   . exact λtodo=>hleave t' w' todo h
end
end Go.Car
namespace Go.Proofs
open Go Go.Conc Go.RowKit Go.Car Go.ChangeShapes Go.WideShapes Go.Deep
theorem add_at{a:Addr}(h:a.spot=none)(i:Nat):a.add i=⟨a.block,a.off+i,none⟩:=by
 obtain⟨b,o,s⟩:=a;simp only at h;subst h;unfold Addr.add;split
 . rename_i e;rw[e];rfl
 . rfl
theorem zqgo{w:World}{a:Addr}{v:Value}(h:w.cell? a=some v):a.spot=none:=by
 unfold World.cell? at h;split at h
 . split at h
   . cases h
   . rename_i hh;simpa using hh
 . cases h
theorem zq6h{w:World}{a:Addr}{v:Value}(h:w.cell? (a.add 0)=some v):a.spot=none:=zqgo (a:=a) (by simpa[Addr.add]using h)
def lenD{H:Type}:DataW H->Nat
 |.slice e _=>e.length
 |_=>0
def ThrIn(w:World)(pp:Option Addr)(n:Nat)(tops:Nat->List OpX):Prop:=
 0<n->∃pb po,pp=some ⟨pb,po,none⟩/\∀i,i<n->∃q C,w.cell? ⟨pb,po+i,none⟩=some (.slice q (tops i).length C)/\((tops i).length<=C/\(q=none->C=0))/\
  ((tops i)≠[]->∃gb go,q=some ⟨gb,go,none⟩/\∀(k:Nat)(c:OpX),(tops i)[k]?=some c->∀j,j<4->w.cell? ⟨gb,go+k*4+j,none⟩=c.cells[j]?)
section
variable {H:Type} {enc:TypeId×Value->H} {P:Program} {w:World} {held:Bool} {sp:Nat->Bool}
theorem zqdy{t e:TypeId}(ht:P.underlying t=some (.slice e))(he:P.underlying e=some (.int .i64))(hc:P.cellsOf e=1){a0:Option Addr}{len cap:Nat}{d:DataW H}{ps:List MemPlace}{fuel:Nat}
 (h:DataW.trod enc P w 0 sp held fuel t [.slice a0 len cap]=some (d,ps)):∃l:List Int,l.length=len/\IntsAt w (.slice a0 len cap) l/\lenD d=len:=by
 rcases open_ints ht he hc h with⟨hcs,hx⟩|⟨a,len',cap',zs,hcs,_,hl,hm,hz,hx,hcell,_⟩
 . simp only[List.cons.injEq,Value.slice.injEq,and_true]at hcs;obtain⟨rfl,rfl,rfl⟩:=hcs;cases hx;exact⟨[],rfl,⟨none,0,rfl,λh=>absurd rfl h⟩,rfl⟩
 . simp only[List.cons.injEq,Value.slice.injEq,and_true]at hcs;obtain⟨rfl,rfl,rfl⟩:=hcs;cases hx;have hlz:len<=zs.length:=by rw[hz];split<;>omega
   have hlt:(zs.take len).length=len:=by rw[List.length_take];omega
   refine⟨zs.take len,hlt,⟨some a,cap,by rw[hlt],λhne=>?_⟩,by simp[lenD,lits,hlt];omega⟩;have h0:0<len:=by rw[<-hlt];exact List.length_pos_iff.2 hne
   have hs:=zq6h (hcell 0 (by omega));refine⟨a.block,a.off,by obtain⟨b,o,s⟩:=a;simp only at hs;rw[hs],λi hi=>?_⟩;rw[hlt]at hi;have:=hcell i (by omega);rw[add_at hs]at this;rw[this];simp[List.getD_eq_getElem?_getD,List.getElem?_take,hi]
theorem op_open{t:TypeId}{fs:Array Field}(ht:P.underlying t=some (.struct fs))(hfs:∀j,j<4->∃f,fs[j]?=some f/\f.offset=j/\P.cellsOf f.type=1/\P.underlying f.type=some (.int .i64))(hsz:fs.size=4)
 {cs:List Value} {x:DataW H×List MemPlace} {fuel:Nat} (h:DataW.trod enc P w 0 sp held fuel t cs=some x):∃c:OpX,∀j,j<4->cs[j]?=c.cells[j]?:=by
 obtain⟨xs,n,_,_,_,hxl,hx⟩:=DataW.trod_struct ht h;have each:∀j,j<4->∃z:Int,cs[j]?=some (.int .i64 z):=λj hj=>by
  obtain⟨f,h1,h2,h3,h4⟩:=hfs j hj;have h5:=hx j f h1;rw[h2,h3]at h5;obtain⟨y,hy⟩:∃y,xs[j]?=some y:=⟨_,List.getElem?_eq_getElem (by omega)⟩;rw[hy]at h5;obtain⟨z,h6,_⟩:=DataW.trod_int h4 h5;refine⟨z,?_⟩;have:((cs.drop j).take 1)[0]?=some (.int .i64 z):=by rw[h6];rfl
  rw[List.getElem?_take,if_pos (by omega),List.getElem?_drop,Nat.add_zero]at this;exact this
 obtain⟨z0,h0⟩:=each 0 (by omega);obtain⟨z1,h1⟩:=each 1 (by omega);obtain⟨z2,h2⟩:=each 2 (by omega);obtain⟨z3,h3⟩:=each 3 (by omega);refine⟨⟨z0,z1,z2,z3⟩,λj hj=>?_⟩;obtain rfl |rfl |rfl |rfl:j=0\/j=1\/j=2\/j=3:=by omega
 . exact h0
 . exact h1
 . exact h2
 . exact h3
theorem opl_open{t e:TypeId}{fs:Array Field}(ht:P.underlying t=some (.slice e))(he:P.underlying e=some (.struct fs))(hc:P.cellsOf e=4)(hfs:∀j,j<4->∃f,fs[j]?=some f/\f.offset=j/\P.cellsOf f.type=1/\P.underlying f.type=some (.int .i64))(hsz:fs.size=4)
 {cs:List Value} {d:DataW H} {ps:List MemPlace} {fuel:Nat} (h:DataW.trod enc P w 0 sp held fuel t cs=some (d,ps)):
 ∃(q:Option Addr)(l:List OpX)(C:Nat),cs=[.slice q l.length C]/\lenD d=l.length/\(l.length<=C/\(q=none->C=0))/\(l≠[]->∃gb go,q=some ⟨gb,go,none⟩/\∀(k:Nat)(c:OpX),l[k]?=some c->∀j,j<4->w.cell? ⟨gb,go+k*4+j,none⟩=c.cells[j]?):=by
 rcases open_slice ht h with⟨hcs,hx⟩|⟨a,len,cap,m,n,D,Pl,hcs,_,hl,_,hm,hx,hcell⟩
 . cases hx;exact⟨none,[],0,hcs,rfl,⟨Nat.le_refl _,λ_=>rfl⟩,λh=>absurd rfl h⟩
 . have hlm:len<=m:=by rw[hm];split<;>omega
   have each:∀i,i<len->∃c:OpX,∀j,j<4->w.cell? ((a.add (i*4)).add j)=c.cells[j]?:=λi hi=>by
    obtain⟨cs',h1,h2⟩:=hcell i (by omega);rw[hc]at h1;obtain⟨c,h3⟩:=op_open he hfs hsz h2;exact⟨c,λj hj=>((World.cells?_some h1).2.2 j hj).trans (h3 j hj)⟩
   obtain⟨c,hcc⟩:∃c:Nat->OpX,∀i,i<len->∀j,j<4->w.cell? ((a.add (i*4)).add j)=(c i).cells[j]?:=by
    classical
    refine⟨λi=>if h:i<len then(each i h).choose else⟨0,0,0,0⟩,λi hi=>?_⟩;simp only[hi,dif_pos];exact(each i hi).choose_spec
   cases hx;refine⟨some a,(List.range len).map c,cap,by simpa using hcs,by simp[lenD],⟨by simpa using hl,λe=>by cases e⟩,λhne=>?_⟩;have h0:0<len:=by have:=List.length_pos_iff.2 hne;simpa using this
   have hs:a.spot=none:=by
    have:=hcc 0 h0 0 (by omega);rw[Nat.zero_mul]at this;exact zq6h (a:=a) (v:=.int .i64 (c 0).k) (by simpa[Addr.add,OpX.cells]using this)
   refine⟨a.block,a.off,by obtain⟨b,o,s⟩:=a;simp only at hs;rw[hs],λk cc hk j hj=>?_⟩;have hkl:k<len:=by have:=(List.getElem?_eq_some_iff.1 hk).1;simpa using this
   have:=hcc k hkl j hj;rw[add_at hs,add_at rfl]at this;rw[this];rw[List.getElem?_map,List.getElem?_range hkl]at hk;cases hk;rfl
theorem thr_open{t e e2:TypeId}{fs:Array Field}(ht:P.underlying t=some (.slice e))(hc1:P.cellsOf e=1)(he:P.underlying e=some (.slice e2))(he2:P.underlying e2=some (.struct fs))(hc:P.cellsOf e2=4)(hfs:∀j,j<4->∃f,fs[j]?=some f/\f.offset=j/\P.cellsOf f.type=1/\P.underlying f.type=some (.int .i64))(hsz:fs.size=4)
 {a0:Option Addr} {len cap:Nat} {d:DataW H} {ps:List MemPlace} {fuel:Nat} (h:DataW.trod enc P w 0 sp held fuel t [.slice a0 len cap]=some (d,ps)):
 ∃tops:Nat->List OpX,ThrIn w a0 len tops/\lenD d=len/\(∀i,i<len->∃x es sp',d=.slice es sp'/\es[i]?=some x/\lenD x=(tops i).length):=by
 rcases open_slice1 ht hc1 h with⟨hcs,hx⟩|⟨a,len',cap',m,n,V,D,Pl,hcs,_,hl,_,hm,hx,hcell⟩
 . simp only[List.cons.injEq,Value.slice.injEq,and_true]at hcs;obtain⟨rfl,rfl,rfl⟩:=hcs;cases hx;exact⟨λ_=>[],λh=>absurd h (Nat.lt_irrefl _),rfl,λi hi=>absurd hi (Nat.not_lt_zero _)⟩
 . simp only[List.cons.injEq,Value.slice.injEq,and_true]at hcs;obtain⟨rfl,rfl,rfl⟩:=hcs;have hlm:len<=m:=by rw[hm];split<;>omega
   have each:∀i,i<len->∃l:List OpX,∃q C,V i=.slice q l.length C/\lenD (D i)=l.length/\(l.length<=C/\(q=none->C=0))/\(l≠[]->∃gb go,q=some ⟨gb,go,none⟩/\∀(k:Nat)(c:OpX),l[k]?=some c->∀j,j<4->w.cell? ⟨gb,go+k*4+j,none⟩=c.cells[j]?):=λi hi=>by
    obtain⟨q,l,C,h1,h2,h2',h3⟩:=opl_open he he2 hc hfs hsz (hcell i (by omega)).2;simp only[List.cons.injEq,and_true]at h1;exact⟨l,q,C,h1,h2,h2',h3⟩
   obtain⟨tops,hpr⟩:∃tops:Nat->List OpX,∀i,i<len->∃q C,V i=.slice q (tops i).length C/\lenD (D i)=(tops i).length/\((tops i).length<=C/\(q=none->C=0))/\(tops i≠[]->∃gb go,q=some ⟨gb,go,none⟩/\∀(k:Nat)(c:OpX),(tops i)[k]?=some c->∀j,j<4->w.cell? ⟨gb,go+k*4+j,none⟩=c.cells[j]?):=by
    classical
    refine⟨λi=>if h:i<len then(each i h).choose else [],λi hi=>?_⟩;simp only[hi,dif_pos];exact(each i hi).choose_spec
   cases hx;refine⟨tops,λh0=>?_,by simp[lenD],λi hi=>⟨D i,_,_,rfl,by simp[hi],(hpr i hi).choose_spec.choose_spec.2.1⟩⟩;have hs:=zq6h (hcell 0 (by omega)).1;refine⟨a.block,a.off,by obtain⟨b,o,s⟩:=a;simp only at hs;rw[hs],λi hi=>?_⟩;obtain⟨q,C,h1,_,h2,h3⟩:=hpr i hi;have:=(hcell i (by omega)).1;rw[add_at hs,h1]at this;exact⟨q,C,this,h2,h3⟩
end
end Go.Proofs
namespace Go.Car
open Go Go.Conc
theorem zqeb{H:Type}{enc:TypeId×Value->H}{a:Assume}{C:Checked}{os:Os}{f:FuncId}{fn:Func}{s:OpenSpec}{k:(H:Type)->List (DataW H)->Bool}(hk:s.cond=some k){F:Stop.Interp}{conds:List PathCond}{apart fresh handsOn again:Bool}
 (own:ownKnob C.prog.godebug=none) (started:os.Started) (hfn:C.prog.funcs[f]?=some fn)
 (witness:∃(w:World)(tape:Tape)(i:Input),w.os=os/\(w.forCall tape i).Shaped C.prog/\i.vars=[]/\Input.okWide C.prog (w.forCall tape i) .any w.heap.size f i/\
  s.pre6 enc C.prog fn conds apart (w.forCall tape i).memory i.args/\a.holds C.prog (lone (Frame.enter C.prog f i.args .normal) [] (w.forCall tape i)))
 (runs:∀(W:World)(base:Nat)(args:Array Value)(ds gs:List (DataW H))(before:List MemPlace),
  (∀(j:Nat)t v,fn.params[j]?=some t->args[j]?=some v->Value.okWide C.prog W .any base t v)->
  DataW.Whole enc C.prog fn.params.toList s.vars apart W args.toList ds gs before->k H (ds++gs)=true->
  ∃M last o w' t',runNT C.prog (M+1) (solo (G (Frame.enter C.prog f args .normal) []) W) #[]=(.ended o w',t')/\runN C.prog M (solo (G (Frame.enter C.prog f args .normal) []) W)=.next last/\
   step C.prog last=.ended o w'/\Conc.Good C.prog (λv W'=>(s.at F).post enc C.prog fn apart fresh handsOn again W args v W') last o w' t'):
 ReturnsInLeavingWide a C os f .any (s.pre6 enc C.prog fn conds apart) ((s.at F).post enc C.prog fn apart fresh handsOn again):=by
 refine returnsInLeavingWide_of_good own started witness ?_;intro w tape i _ _ _ hok hpre _;obtain⟨_,_,_,fn',hfn',_,_,_,_,hval⟩:=hok;obtain rfl:fn'=fn:=Option.some.inj (hfn'.symm.trans hfn);obtain⟨ds,gs,before,hw,_,hkk⟩:=(OpenSpec.pre_some hk conds apart _ _).1 hpre.1;obtain⟨M,last,o,w',t',h1,h2,h3,h4⟩:=runs (w.forCall tape i) w.heap.size i.args ds gs before hval (DataW.Whole.of_heap (w':=w.forCall tape i) (by rfl) hw) hkk;exact⟨M,last,o,w',t',h1,h2,h3,h4.mono λv hp=>ChangeSpec.post_blind hp⟩
theorem zqds{p:Pinned}{s:OpenSpec}{c:OpenClaim}(f:FuncId)(fn:Func)
 (hn:c.program=p.name) (hs:c.sum=p.sum) (hsp:c.spec=s.name)
 (hstart:c.start=.entering) (hout:c.outside=[]) (hin:c.inits=[]) (hun:c.under=none) (hi4:c.initsInPlace=[]/\c.initsUnfollowed=false/\c.initsRecurse=false/\c.initsNamed=[]/\c.initsPassed=[]) (hnb:c.noBlocks=false) (hlv:c.leaving=true) (hfo:c.followed=none) (hnar:c.narrowed=s.cond.isSome) (hstill:c.still=false)
 (hfn:p.checked.prog.funcNamed c.func=some f) (hf:p.checked.prog.funcs[f]?=some fn)
 (closed:joinedFacts p.checked.prog f fn s.bare c=true)
 (hinst:fn.isInstance p.checked.prog c.origin c.targs) (hwrap:fn.isWrapper p.checked.prog c.wrapper c.mainSum)
 (h:∀os:Os,os.Started->∀(H:Type)(enc:TypeId×Value->H),(∀a b,enc a=enc b->a=b)->∀F:Stop.Interp,
  ReturnsInLeavingWide c.assume p.checked os f .any (c.pre enc p.checked.prog fn s) ((s.at F).post enc p.checked.prog fn c.apart c.fresh c.handsOn c.again)):c.holds p s:=by
 simp only[joinedFacts,Bool.and_eq_true,beq_iff_eq,Array.all_eq_true_iff_forall_mem,List.all_eq_true,decide_eq_true_eq]at closed;obtain⟨⟨⟨⟨⟨⟨⟨⟨⟨⟨⟨⟨⟨⟨⟨⟨⟨⟨⟨⟨⟨⟨⟨⟨⟨⟨⟨⟨⟨⟨⟨a1,a2⟩,a3⟩,a4⟩,a5⟩,a6⟩,a7⟩,a8⟩,a9⟩,a10⟩,a11⟩,a12⟩,a13⟩,a14⟩,a15⟩,a16⟩,a17⟩,b17⟩,a18⟩,a19⟩,a20⟩,a21⟩,a22⟩,a23⟩,b23⟩,a24⟩,b24⟩,c24⟩,a25⟩,a26⟩,a27⟩,a28⟩:=closed;have quiet:∀os:Os,Stop.quiet p.checked.prog os:=λos k hk=>by rw[a9]at hk;cases hk
 have fits:c.startFits p.checked.prog:=by unfold OpenClaim.startFits;rw[hstart];exact a24
 have told:c.startTold p.checked.prog:=by unfold OpenClaim.startTold;rw[hstart];exact⟨hin,hun,hi4⟩
 have named:namedTie p.checked.prog c.namedList s.vars=true:=by unfold OpenClaim.namedList;rw[hfo];exact a5
 have worded:p.checked.prog.envWorded=true:=by unfold Program.envWorded;rw[a9];rfl
 have world0:∃os:Os,c.world os/\Stop.quiet p.checked.prog os:=⟨_,by unfold OpenClaim.world;rw[hout,hstart];exact WideRow.started_initial,quiet _⟩;have lists0:c.lists p.checked.prog []:=by unfold OpenClaim.lists;rw[hfo]
 refine⟨a1,hn,hs,hsp,a2,a3,fits,told,f,fn,hfn,hf,⟨a4,a19⟩,(λhb=>by rw[hnb]at hb;cases hb),named,hinst,hwrap,
  a6.trans a7.symm,⟨a8.trans a9.symm,worded,b23⟩,a10,a11,a12,a13,a14,⟨a15,a27,a28⟩,⟨a16,a20⟩,⟨a17,a21,a25,a26⟩,⟨a22,b24,c24,b17⟩,(by rw[hout,hnar];cases hsh:c.shortTexts with|none=>simp |some _=>rw[hsh]at a23;cases a23),λn hn'=>varReadable_some (a18 n hn'),
  world0,[],lists0,λos st _ H enc inj=>?_⟩
 have st':os.Started:=by unfold OpenClaim.world at st;rw[hout,hstart]at st;exact st
 rw[OpenClaim.post_not_still hstill];unfold OpenClaim.form;rw[hstart,a6];intro F;have e1:c.okInput=Input.okWide:=by unfold OpenClaim.okInput;rw[hnb]
 have e2:c.atReturn p.checked.prog=leavingAtReturn p.checked.prog:=by unfold OpenClaim.atReturn;rw[hlv]
 have e3:c.always p.checked.prog []=nothingAlways:=by unfold OpenClaim.always;rw[hfo]
 have e4:s.post enc p.checked.prog fn F c.outside c.apart c.fresh c.handsOn c.again=(s.at F).post enc p.checked.prog fn c.apart c.fresh c.handsOn c.again:=by rw[hout];rfl
 rw[e1,e2,e3];show ReturnsInOpen _ _ _ _ _ _ _ _ (s.post enc p.checked.prog fn F c.outside c.apart c.fresh c.handsOn c.again) _ _;rw[e4];exact h os st' H enc inj F a24
end Go.Car
namespace Go.Proofs.Ytmgmbciplfkddaa
open Go Go.Conc Go.RowKit Go.Car Go.ChangeShapes Go.WideShapes Go.ChangeAt
theorem bulk_one{H:Type}(d:DataW H):1<=Rows.uptoBulk d:=by
 cases d with
 |lit l=>cases l<;>simp[Rows.uptoBulk]
 |nil=>simp[Rows.uptoBulk]
 |ptr d=>simp[Rows.uptoBulk]
 |slice elems spare=>simp[Rows.uptoBulk]
 |agg parts=>simp[Rows.uptoBulk]
 |iface t d=>simp[Rows.uptoBulk]
 |map entries=>simp[Rows.uptoBulk]
 |held h=>simp[Rows.uptoBulk]
theorem zq7g{H:Type}{d:DataW H}{l:List (DataW H)}(h:d∈l):Rows.uptoBulk d<=Rows.uptoBulkAll l:=by
 induction l with
 |nil=>cases h
 |cons x r ih=>
  simp only[Rows.uptoBulkAll];rcases List.mem_cons.1 h with e|e
  . subst e;omega
  . have:=ih e;omega
theorem zqca{H:Type}(l:List (DataW H)):l.length<=Rows.uptoBulkAll l:=by
 induction l with
 |nil=>simp[Rows.uptoBulkAll]
 |cons x r ih=>have:=bulk_one x;simp only[Rows.uptoBulkAll,List.length_cons];omega
theorem zq5t{H:Type}(d:DataW H):lenD d<=Rows.uptoBulk d:=by
 cases d with
 |slice e s=>have:=zqca e;simp only[lenD,Rows.uptoBulk];omega
 |_=>exact Nat.zero_le _
theorem zqcb{H:Type}{x:DataW H}{es sp:List (DataW H)}{i:Nat}(h:es[i]?=some x):Rows.uptoBulk x<=Rows.uptoBulk (.slice es sp):=by
 have:=zq7g (List.mem_of_getElem? h);simp only[Rows.uptoBulk];omega
theorem zq5u{H:Type}{l:List (DataW H)}(hk:Rows.uptoSmall H l=true){d:DataW H}(h:d∈l):Rows.uptoBulk d<=1048576:=by
 have h1:=of_decide_eq_true hk;have h2:=zq7g h;omega
theorem own_knob:ownKnob Try.prog.godebug=none:=by kernel_rfl
theorem laid_out:laidOutB Try.prog=true:=by kernel_rfl
theorem zqfv{H:Type}{enc:TypeId×Value->H}{t:TypeId}(hr:Try.prog.readableRec t=true)(hrow:t<Try.prog.types.size){W w':World}{v:Value}{d:DataW H}{ps:List MemPlace}
 (h:DataW.Trod enc Try.prog W 0 (λ_=>true) true t v d ps) (hb:Beyond W w') (hlt:∀x∈ps,x.block<W.heap.size):DataW.Trod enc Try.prog w' 0 (λb=>decide (b<W.heap.size)) true t v d ps:=
 DataW.Trod.of_heap (w:={w' with os:=W.os,tape:=W.tape,output:=W.output}) (by rfl) (Below.trod laid_out hr hrow h ⟨rfl,rfl,rfl,hb.1,hb.2⟩ hlt)
theorem zqe3{W w':World}(hb:Beyond W w')(ho:w'.os=W.os)(hu:w'.output=W.output)(may:MemPlace->Prop):W.keptBut w' may:=by
 have h:=Below.frame (W:=W) (w':={w' with os:=W.os,tape:=W.tape,output:=W.output}) ⟨rfl,rfl,rfl,hb.1,hb.2⟩ may;exact⟨ho,hu,h.2.2⟩
theorem zqeu:∃fs,Try.prog.underlying 44=some (.struct fs)/\fs.size=4/\∀j,j<4->∃f,fs[j]?=some f/\f.offset=j/\Try.prog.cellsOf f.type=1/\Try.prog.underlying f.type=some (.int .i64):=by
 refine⟨_,Try.underlying44,rfl,λj hj=>?_⟩;obtain rfl |rfl |rfl |rfl:j=0\/j=1\/j=2\/j=3:=by omega
 all_goals exact⟨_,rfl,rfl,by kernel_rfl,by kernel_rfl⟩
theorem zq89{H:Type}{enc:TypeId×Value->H}{W:World}{t e:TypeId}(ht:Try.prog.underlying t=some (.slice e))(he:Try.prog.underlying e=some (.int .i64))(hc:Try.prog.cellsOf e=1){base:Nat}{v:Value}{d:DataW H}{p:List MemPlace}(hok:Value.okWide Try.prog W .any base t v)
 (h:DataW.Trod enc Try.prog W 0 (λ_=>true) true t v d p) (hb:Rows.uptoBulk d<=1048576):∃a C,∃l:List Int,v=.slice a l.length C/\IntsAt W (.slice a l.length C) l/\l.length<=1048576:=by
 obtain⟨a,len,cap,rfl⟩:=okWide_slice ht hok;obtain⟨fuel,hf⟩:=h;obtain⟨l,h1,h2,h3⟩:=zqdy ht he hc (by simpa[Value.cells]using hf);have:=zq5t d;exact⟨a,cap,l,by rw[h1],by rw[h1];exact h2,by omega⟩
end Go.Proofs.Ytmgmbciplfkddaa
namespace Go.Proofs
open Go Go.Conc Go.RowKit Go.Car
theorem zq3i{w:World}{B:Nat}{T:TypeId}{v:Value}{l:List Int}(h:w.ownsRow B T 1 v l.length (l.map (Value.int .i64))):IntsAt w v l:=by
 rcases h.2 with⟨hv,h0⟩|⟨g,cap,cur,hv,hb,hh,h1,h2,h3,h4⟩
 . exact⟨none,0,by rw[hv,h0],λhne=>absurd (List.length_eq_zero_iff.1 h0) hne⟩
 . refine⟨_,cap,hv,λ_=>⟨g,0,rfl,λi hi=>?_⟩⟩;rw[zq0 hh,Nat.zero_add];have e:(l.map (Value.int .i64))[i]?=some (.int .i64 (l.getD i 0)):=by simp[hi]
   rw[<-h4,List.getElem?_take,if_pos (by omega)]at e;simpa using e
theorem zq8a{w:World}{B:Nat}{T:TypeId}{v:Value}{l:List Nat}(h:w.ownsRow B T 1 v l.length (l.map λ(i:Nat)=>.int .i64 i)):IntsAt w v (l.map λ(i:Nat)=>(i:Int)):=by
 refine zq3i (B:=B) (T:=T) ?_;rw[List.length_map,List.map_map];exact h
theorem zq94{X:Nat->Option Obj}{T:TypeId}{v:Value}{l:List Int}{w:World}(h:RowB X T 1 v l.length (l.map (Value.int .i64)))(hX:∀b o,X b=some o->w.heap[b]?=some o):IntsAt w v l:=zq3i (h.own hX)
theorem ansL_get{tI:TypeId}{X:Nat->Option Obj}{l:List Ans}{cs:List Value}(h:AnsL tI X l cs):∀{i:Nat}{a:Ans},l[i]?=some a->∃Y sl,cs[i*3]?=some (.bool a.ok)/\cs[i*3+1]?=some (.int .i64 a.n)/\cs[i*3+2]?=some sl/\RowB Y tI 1 sl a.l.length (a.l.map (Value.int .i64))/\∀b o,Y b=some o->X b=some o:=by
 induction h with
 |nil=>intro i a hi;simp at hi
 |snoc h ha hd ih=>
  rename_i X Y l cs cs' a';intro i a hi;have hlen:=h.len;rcases Nat.lt_or_ge i l.length with hlt|hge
  . rw[List.getElem?_append_left hlt]at hi;obtain⟨Z,sl,h1,h2,h3,h4,h5⟩:=ih hi;refine⟨Z,sl,?_,?_,?_,h4,λb o hb=>?_⟩
    . rw[List.getElem?_append_left (by omega)];exact h1
    . rw[List.getElem?_append_left (by omega)];exact h2
    . rw[List.getElem?_append_left (by omega)];exact h3
    . have h6:=h5 b o hb;unfold orB;cases hY:Y b with
      |none=>simp[h6]
      |some y=>have:=hd b (by rw[hY];simp);rw[this]at h6;cases h6
  . have e:i=l.length:=by
     have:=(List.getElem?_eq_some_iff.1 hi).1;simp at this;omega
    subst e;simp at hi;subst hi;obtain⟨sl,rfl,hr⟩:=ha;refine⟨Y,sl,?_,?_,?_,hr,λb o hb=>by simp[orB,hb]⟩
    . rw[List.getElem?_append_right (by omega),hlen];simp
    . rw[List.getElem?_append_right (by omega),hlen];simp
    . rw[List.getElem?_append_right (by omega),hlen];simp
theorem ansR_at{tA tI:TypeId}{X:Nat->Option Obj}{hv:Value}{l:List Ans}{w:World}(h:AnsR tA tI X hv l)(hX:∀b o,X b=some o->w.heap[b]?=some o):AnsAt w hv l:=by
 obtain⟨Xr,XL,cs,hr,hL,rfl,hd⟩:=h;rcases hr.2 with⟨hv,h0,_⟩|⟨g,cap,cur,rfl,rfl,h1,h2,h3,h4⟩
 . exact⟨none,0,by rw[hv,h0],λhne=>absurd (List.length_eq_zero_iff.1 h0) hne⟩
 . refine⟨_,cap,rfl,λ_=>⟨g,0,rfl,λi a hi=>?_⟩⟩;have hg:w.heap[g]?=some (.cells cur tA (0,0)):=hX g _ (by simp[orB]);obtain⟨Y,sl,e1,e2,e3,e4,e5⟩:=ansL_get hL hi;have hil:=(List.getElem?_eq_some_iff.1 hi).1;have get:∀{j:Nat}{v:Value},j<l.length*3->cs[j]?=some v->w.cell? ⟨g,0+j,none⟩=some v:=λ{j v}hj e=>by
    rw[zq0 hg,Nat.zero_add];rw[<-h4,List.getElem?_take,if_pos hj]at e;simpa using e
   refine⟨get (by omega) e1,?_,sl,?_,zq94 e4 λb o hb=>hX b o ?_⟩
   . exact get (by omega) e2
   . exact get (by omega) e3
   . have h6:=e5 b o hb
     by_cases hbg:b=g
     . subst hbg;have:=hd b (by simp);rw[this]at h6;cases h6
     . simp[orB,hbg,h6]
theorem zq4l{ab N:Nat}{m:AnsM}{w:World}(h:zq2v tT ab N m w){i:Nat}(hi:i<N):w.cell? ⟨ab,i,none⟩=some (m.hv i)/\AnsAt w (m.hv i) (m.st i):=by
 refine⟨(zq0 h.hd).trans ?_,ansR_at (h.row i hi) λb o hb=>h.blk i b o hi hb⟩;simp[hi]
theorem trace_of{w:World}{N ab:Nat}{am:AnsM}{ov sv:Value}{ord:List Nat}{st:List Int}{stk:Bool}{B B':Nat}(h:zq2v tT ab N am w)(ho:w.ownsRow B 3 1 ov ord.length (ord.map λ(i:Nat)=>.int .i64 i))(hs:w.ownsRow B' 2 1 sv st.length (st.map (Value.int .i64))):
 TraceAt w (.agg #[.slice (some ⟨ab,0,none⟩) N N,ov,sv,.bool stk]) N am.st (ord.map λ(i:Nat)=>(i:Int)) st stk:=
 ⟨_,_,_,_,rfl,zq8a ho,zq3i hs,λ_=>⟨ab,0,rfl,λi hi=>⟨am.hv i,by rw[Nat.zero_add];exact(zq4l h hi).1,(zq4l h hi).2⟩⟩⟩
end Go.Proofs
namespace Go.Proofs
open Go Go.Conc Go.RowKit Go.Car Go.ChangeShapes Go.WideShapes Go.Deep
theorem cell_in{w:World}{b o:Nat}{v:Value}(h:w.cell? ⟨b,o,none⟩=some v):∃cur e fr,w.heap[b]?=some (.cells cur e fr)/\cur[o]?=some v:=by
 unfold World.cell? at h;split at h
 . rename_i c e fr hh;exact⟨c,e,fr,hh,by simpa using h⟩
 . cases h
theorem opsat_in{W:World}{pp:Option Addr}{np:Nat}{tops:Nat->List OpX}(h:ThrIn W pp np tops)(hn:np<=4611686018427387904)(hl:∀i,i<np->(tops i).length<=1048576):
 ∃(sp:Nat->Option Addr)(Cp:Nat->Nat),OpsAt W (λb=>W.heap[b]?) pp np (min np 64) sp (λi=>(tops i).length) Cp (λi=>(tops i).take 65536):=by
 by_cases h0:0<np
 . obtain⟨pb,po,rfl,hc⟩:=h h0;obtain⟨f,hf⟩:∃f:Nat->Option Addr×Nat,∀i,i<np->W.cell? ⟨pb,po+i,none⟩=some (.slice (f i).1 (tops i).length (f i).2)/\((tops i).length<=(f i).2/\((f i).1=none->(f i).2=0))/\((tops i)≠[]->∃gb go,(f i).1=some ⟨gb,go,none⟩/\∀(k:Nat)(c:OpX),(tops i)[k]?=some c->∀j,j<4->W.cell? ⟨gb,go+k*4+j,none⟩=c.cells[j]?):=by
    classical
    refine⟨λi=>if h:i<np then((hc i h).choose,(hc i h).choose_spec.choose)else(none,0),λi hi=>?_⟩;simp only[hi,dif_pos];exact(hc i hi).choose_spec.choose_spec
   have hne:∀{i k:Nat}{op:OpX},((tops i).take 65536)[k]?=some op->tops i≠[]/\(tops i)[k]?=some op:=λ{i k op}hop=>by
    rw[List.getElem?_take]at hop;split at hop
    . exact⟨λe=>by rw[e]at hop;simp at hop,hop⟩
    . cases hop
   refine⟨λi=>(f i).1,λi=>(f i).2,⟨rfl,hn,λ_=>⟨pb,po,rfl,λi hi=>(hf i (by omega)).1⟩,λi hi=>?_,λi hi=>by rw[List.length_take,Nat.min_comm],λi hi k op hop=>?_⟩⟩
   . obtain⟨_,h1,_⟩:=hf i (by omega);exact⟨h1.1,by have:=hl i (by omega);omega,λe=>⟨by have:=h1.2 e;omega,h1.2 e⟩⟩
   . obtain⟨_,h1,h2⟩:=hf i (by omega);obtain⟨hn1,hop'⟩:=hne hop;obtain⟨gb,go,e,h3⟩:=h2 hn1;obtain⟨cur,e2,fr,hh,-⟩:=cell_in (h3 k op hop' 0 (by decide));refine⟨gb,go,cur,e2,fr,e,hh,λj hj=>?_⟩;rw[<-zq0 hh];exact h3 k op hop' j hj
 . obtain rfl:np=0:=by omega
   exact⟨λ_=>none,λ_=>0,⟨rfl,hn,λh=>absurd h h0,λi hi=>absurd hi (Nat.not_lt_zero _),λi hi=>absurd hi (Nat.not_lt_zero _),λi hi=>absurd hi (Nat.not_lt_zero _)⟩⟩
theorem OpsAt.on {w w':World}{RP:Nat->Option Obj}{pp:Option Addr}{n N:Nat}{sp:Nat->Option Addr}{L Cp:Nat->Nat}{ops:Nat->List OpX}(h:OpsAt w RP pp n N sp L Cp ops)(hb:Beyond w w'):OpsAt w' RP pp n N sp L Cp ops:=
 ⟨h.eq,h.le,λh0=>by
  obtain⟨tb,to',e,h1⟩:=h.at' h0;exact⟨tb,to',e,λi hi=>hb.cell (h1 i hi)⟩,h.row,h.len,h.op⟩
theorem ThrIn.on {w w':World}{pp:Option Addr}{np:Nat}{tops:Nat->List OpX}(h:ThrIn w pp np tops)(hb:Beyond w w'):ThrIn w' pp np tops:=λh0=>by
 obtain⟨pb,po,e,h1⟩:=h h0;refine⟨pb,po,e,λi hi=>?_⟩;obtain⟨q,C,h2,h3,h4⟩:=h1 i hi;refine⟨q,C,hb.cell h2,h3,λh5=>?_⟩;obtain⟨gb,go,e2,h6⟩:=h4 h5;refine⟨gb,go,e2,λk c hk j hj=>?_⟩;have h7:=h6 k c hk j hj;obtain⟨v,hv⟩:∃v,c.cells[j]?=some v:=⟨_,List.getElem?_eq_getElem (by simpa[OpX.cells]using hj)⟩;rw[hv]at h7 |-;exact hb.cell h7
end Go.Proofs
namespace Go.Proofs
open Go Go.Conc Go.RowKit Go.Car
theorem zq8u{w:World}{va vb:Value}{l:List Int}(hl:l.length<=1099511627776)(ha:IntsAt w va l)(hb:IntsAt w vb l):
 Calls Try.prog 19 #[va,vb] w λe w'=>e=.returned (.bool true)/\∃n,w'=w.drewN n:=by
 obtain⟨pa,ca,rfl,ha⟩:=ha;obtain⟨pb,cb,rfl,hb⟩:=hb;have HA:=Lib.hid (And.intro ha hb);clear ha hb;obtain⟨L,hL⟩:∃L,l.length=L:=⟨_,rfl⟩;rw[hL]at hl |-;have HL:=Lib.hid hL;clear hL
 go_enter Try.func19,Try.ntmps19
 go_wp2
 go_loopg [5] L (λk i wr=>∃(j n:Nat),k=L - j/\j<=L/\i=.int .i64 j/\wr=w.drewN n)
 case atStart=>exact⟨0,0,rfl,Nat.zero_le _,rfl,rfl⟩
 case round=>
  obtain⟨j,n,hk,hj,rfl,rfl⟩:=hrel
  by_cases hlt:j<L
  . have hlt':(j:Int)<(L:Int):=by omega
    have hj0:(0:Int)<=j:=by omega
    have hne:l≠[]:=λe=>by have:=HL.out;rw[e]at this;simp at this;omega
    obtain⟨b1,o1,rfl,h1⟩:=HA.out.1 hne;obtain⟨b2,o2,rfl,h2⟩:=HA.out.2 hne;have k1:=h1 j (by rw[HL.out];exact hlt);have k2:=h2 j (by rw[HL.out];exact hlt);generalize l.getD j 0=x at k1 k2;clear h1 h2 hne HA
    go_wp2_with (fail)
    go_quiet (fail)
    go_wp2;go_roundg (L - (j+1))
    case measure=>omega
    case rel=>exact⟨j+1,_,rfl,by omega,rfl,rfl⟩
  . obtain rfl:L=j:=by omega
    go_wp2;go_ret;exact⟨rfl,n,rfl⟩
theorem zqdz{w:World}{va vb:Value}{l:List Int}(hl:l.length<=1099511627776)(ha:IntsAt w va l)(hb:IntsAt w vb l):
 Calls Try.prog 30 #[va,vb] w λe w'=>e=.returned (.bool true)/\∃n,w'=w.drewN n:=by
 obtain⟨pa,ca,rfl,ha⟩:=ha;obtain⟨pb,cb,rfl,hb⟩:=hb;have HA:=Lib.hid (And.intro ha hb);clear ha hb;obtain⟨L,hL⟩:∃L,l.length=L:=⟨_,rfl⟩;rw[hL]at hl |-;have HL:=Lib.hid hL;clear hL
 go_enter Try.func30,Try.ntmps30
 go_wp2
 go_loopg [5] L (λk i wr=>∃(j n:Nat),k=L - j/\j<=L/\i=.int .i64 j/\wr=w.drewN n)
 case atStart=>exact⟨0,0,rfl,Nat.zero_le _,rfl,rfl⟩
 case round=>
  obtain⟨j,n,hk,hj,rfl,rfl⟩:=hrel
  by_cases hlt:j<L
  . have hlt':(j:Int)<(L:Int):=by omega
    have hj0:(0:Int)<=j:=by omega
    have hne:l≠[]:=λe=>by have:=HL.out;rw[e]at this;simp at this;omega
    obtain⟨b1,o1,rfl,h1⟩:=HA.out.1 hne;obtain⟨b2,o2,rfl,h2⟩:=HA.out.2 hne;have k1:=h1 j (by rw[HL.out];exact hlt);have k2:=h2 j (by rw[HL.out];exact hlt);generalize l.getD j 0=x at k1 k2;clear h1 h2 hne HA
    go_wp2_with (fail)
    go_quiet (fail)
    go_wp2;go_roundg (L - (j+1))
    case measure=>omega
    case rel=>exact⟨j+1,_,rfl,by omega,rfl,rfl⟩
  . obtain rfl:L=j:=by omega
    go_wp2;go_ret;exact⟨rfl,n,rfl⟩
theorem zqbz{w:World}{va vb:Value}{l:List Ans}(hl:l.length<=1099511627776)(hll:∀a∈l,a.l.length<=1099511627776)(ha:AnsAt w va l)(hb:AnsAt w vb l):
 Calls Try.prog 17 #[va,vb] w λe w'=>e=.returned (.bool true)/\∃n,w'=w.drewN n:=by
 obtain⟨pa,ca,rfl,ha⟩:=ha;obtain⟨pb,cb,rfl,hb⟩:=hb;have HA:=Lib.hid (And.intro ha (And.intro hb hll));clear ha hb hll;obtain⟨L,hL⟩:∃L,l.length=L:=⟨_,rfl⟩;rw[hL]at hl |-;have HL:=Lib.hid hL;clear hL
 go_enter Try.func17,Try.ntmps17
 go_wp2
 go_loopg [5] L (λk i wr=>∃(j n:Nat),k=L - j/\j<=L/\i=.int .i64 j/\wr=w.drewN n)
 case atStart=>exact⟨0,0,rfl,Nat.zero_le _,rfl,rfl⟩
 case round=>
  obtain⟨j,n,hk,hj,rfl,hwr⟩:=hrel;have HW:=Lib.hid hwr;have hcell:∀a,wr.cell? a=w.cell? a:=λa=>by rw[hwr];rfl
  clear hwr
  by_cases hlt:j<L
  . have hlt':(j:Int)<(L:Int):=by omega
    have hj0:(0:Int)<=j:=by omega
    have hne:l≠[]:=λe=>by have:=HL.out;rw[e]at this;simp at this;omega
    obtain⟨b1,o1,rfl,h1⟩:=HA.out.1 hne;obtain⟨b2,o2,rfl,h2⟩:=HA.out.2.1 hne;obtain⟨aj,haj⟩:∃aj,l[j]?=some aj:=⟨_,List.getElem?_eq_getElem (by rw[HL.out];exact hlt)⟩;obtain⟨k1,k2,lv1,k3,I1⟩:=h1 j aj haj;obtain⟨m1,m2,lv2,m3,I2⟩:=h2 j aj haj;have hlj:=HA.out.2.2 aj (List.mem_of_getElem? haj);rw[<-hcell]at k1 k2 k3 m1 m2 m3;have HI:RowKit.Hid (∀W:World,(∀a,W.cell? a=w.cell? a)->Calls Try.prog 19 #[lv1,lv2] W λe w'=>e=.returned (.bool true)/\∃n,w'=W.drewN n):=Lib.hid λW hW=>zq8u hlj (by
     obtain⟨p,C,e,h⟩:=I1;refine⟨p,C,e,λhl=>?_⟩;obtain⟨b,o,e2,h2⟩:=h hl;exact⟨b,o,e2,λi hi=>(hW _).trans (h2 i hi)⟩) (by
     obtain⟨p,C,e,h⟩:=I2;refine⟨p,C,e,λhl=>?_⟩;obtain⟨b,o,e2,h2⟩:=h hl;exact⟨b,o,e2,λi hi=>(hW _).trans (h2 i hi)⟩)
    obtain⟨p1,c1,rfl,_⟩:=id I1;obtain⟨p2,c2,rfl,_⟩:=id I2;generalize aj.l.length=lj at HI k3 m3;generalize aj.n=x at k2 m2;generalize aj.ok=ok at k1 m1;have HC:=Lib.hid hcell;clear h1 h2 hne HA I1 I2 hlj haj hcell
    go_wp2_with (fail)
    cases ok<;>
    . go_quiet (first|(go_at_call 19;exact Calls.quiet_of (HI.out _ (λa=>HC.out a))))
      go_wp2;go_roundg (L - (j+1))
      case measure=>omega
      case rel=>exact⟨j+1,n+nq,rfl,by omega,rfl,by rw[HW.out,World.drewN_drewN]⟩
  . obtain rfl:L=j:=by omega
    go_wp2;go_ret;exact⟨rfl,n,HW.out⟩
theorem zqlx{w:World}{va vb:Value}{N:Nat}{tolds:Nat->List Ans}{ord st:List Int}{stuck:Bool}(hN:N<=1099511627776)(ho:ord.length<=1099511627776)(hs:st.length<=1099511627776)(ht:∀i,i<N->(tolds i).length<=1099511627776/\∀a∈tolds i,a.l.length<=1099511627776)
 (ha:TraceAt w va N tolds ord st stuck) (hb:TraceAt w vb N tolds ord st stuck):
 Calls Try.prog 8 #[va,vb] w λe w'=>e=.returned (.bool true)/\Beyond w w':=by
 obtain⟨pa,ca,oa,sa,rfl,ha⟩:=ha;obtain⟨pb,cb,ob,sb,rfl,hb⟩:=hb;have HA:=Lib.hid (And.intro ha (And.intro hb (And.intro ho (And.intro hs ht))));clear ha hb ho hs ht;obtain⟨poa,coa,hoa,hoa2⟩:=HA.out.1.1;obtain⟨pob,cob,hob,hob2⟩:=HA.out.2.1.1;obtain⟨psa,csa,hsa,hsa2⟩:=HA.out.1.2.1;obtain⟨psb,csb,hsb,hsb2⟩:=HA.out.2.1.2.1;subst hoa hob hsa hsb;clear hoa2 hob2 hsa2 hsb2;obtain⟨lo,hlo⟩:∃x,ord.length=x:=⟨_,rfl⟩;obtain⟨ls,hls⟩:∃x,st.length=x:=⟨_,rfl⟩;rw[hlo,hls]at HA |-;have Ho:=Lib.hid hlo;have Hs:=Lib.hid hls;clear hlo hls;have hcc:∀w':World,∃W1,((w'.alloc (.cells #[.slice pa N ca,.slice poa lo coa,.slice psa ls csa,.bool stuck] 29)).alloc (.cells #[.slice pb N cb,.slice pob lo cob,.slice psb ls csb,.bool stuck] 29))=W1/\Beyond w' W1/\W1.heap[w'.heap.size]?=some (.cells #[.slice pa N ca,.slice poa lo coa,.slice psa ls csa,.bool stuck] 29)/\W1.heap[w'.heap.size+1]?=some (.cells #[.slice pb N cb,.slice pob lo cob,.slice psb ls csb,.bool stuck] 29):=λw'=>by
  refine⟨_,rfl,(Beyond.alloc _ _).trans (Beyond.alloc _ _),zqk (zqo _ _),?_⟩;rw[zq5,if_pos (by rw[zq3])]
 obtain⟨W1,hW1,hbe,hA1,hB1⟩:=hcc w;clear hcc;have HB:=Lib.hid hbe;have a0:=(zq0 (off:=0) hA1).trans rfl;have a1:=(zq0 (off:=1) hA1).trans rfl;have a2:=(zq0 (off:=2) hA1).trans rfl;have a3:=(zq0 (off:=3) hA1).trans rfl;have b0:=(zq0 (off:=0) hB1).trans rfl;have b1:=(zq0 (off:=1) hB1).trans rfl;have b2:=(zq0 (off:=2) hB1).trans rfl;have b3:=(zq0 (off:=3) hB1).trans rfl;clear hA1 hB1 hbe
 go_enter Try.func8,Try.ntmps8
 go_wp2_with (fail)
 refine Calls.mono (by have:=zqdz (w:=W1) (by rw[Ho.out];exact HA.out.2.2.1) (HA.out.1.1.beyond HB.out) (HA.out.2.1.1.beyond HB.out);exact this) ?_;rintro e w' ⟨rfl,n1,rfl⟩
 go_wp2_with (fail)
 refine Calls.mono (by have:=zq8u (w:=W1.drewN n1) (by rw[Hs.out];exact HA.out.2.2.2.1) (HA.out.1.2.1.beyond HB.out) (HA.out.2.1.2.1.beyond HB.out);exact this) ?_;rintro e w' ⟨rfl,n2,rfl⟩
 go_wp2_with (fail)
 clear hW1
 go_loopg [5] N (λk i wr=>∃(j n:Nat),k=N - j/\j<=N/\i=.int .i64 j/\wr=W1.drewN n)
 case atStart=>exact⟨0,n1+n2,rfl,Nat.zero_le _,rfl,by first|rfl |(rw[World.drewN_drewN])⟩
 case round=>
  obtain⟨j,n,hk,hj,rfl,hwr⟩:=hrel;have HW:=Lib.hid hwr;have hcell:∀a,wr.cell? a=W1.cell? a:=λa=>by rw[hwr];rfl
  have hsz:Beyond w wr:=by rw[hwr];exact HB.out.trans (Beyond.drew _ _)
  clear hwr;rw[<-hcell]at a0 a1 a2 a3 b0 b1 b2 b3;clear hcell
  by_cases hlt:j<N
  . have hlt':(j:Int)<(N:Int):=by omega
    have hj0:(0:Int)<=j:=by omega
    obtain⟨q1,o1,rfl,h1⟩:=HA.out.1.2.2 (by omega);obtain⟨q2,o2,rfl,h2⟩:=HA.out.2.1.2.2 (by omega);obtain⟨v1,k1,A1⟩:=h1 j hlt;obtain⟨v2,k2,A2⟩:=h2 j hlt;have l1:=HA.out.2.2.2.2 j hlt;replace k1:=hsz.cell k1;replace k2:=hsz.cell k2;replace A1:=A1.beyond hsz;replace A2:=A2.beyond hsz;obtain⟨r1,c1,rfl,_⟩:=id A1;obtain⟨r2,c2,rfl,_⟩:=id A2;generalize tolds j=tj at A1 A2 l1 k1 k2;obtain⟨lj,hlj⟩:∃x,tj.length=x:=⟨_,rfl⟩;rw[hlj]at A1 A2 k1 k2;have HD:=Lib.hid (And.intro A1 (And.intro A2 l1));clear h1 h2 A1 A2 l1 hlj hsz
    go_wp2_with (fail)
    go_quiet (first|(go_at_call 17;exact Calls.quiet_of (zqbz HD.out.2.2.1 HD.out.2.2.2 HD.out.1 HD.out.2.1)))
    go_wp2;go_roundg (N - (j+1))
    case measure=>omega
    case rel=>exact⟨j+1,n+nq,rfl,by omega,rfl,by rw[HW.out,World.drewN_drewN]⟩
  . obtain rfl:N=j:=by omega
    go_wp2;go_ret;exact⟨rfl,hsz⟩
section
variable {M1 S1:Type} {C:Core M1 S1} {RP:Nat->Option Obj} {l₀:M1} {w wa w1 w2:World} {N n most:Nat} {sp:Nat->Option Addr} {L Cp:Nat->Nat} {ob ib:Nat->Nat} {dv fv v:Value} {pr:Nat->Proc (S1×(Nat->List Ans)) Unit} {sched:List Int} {b:OSt (TM (M1×AnsM) (S1×(Nat->List Ans)))} {m':TM (M1×AnsM) (S1×(Nat->List Ans))} {g:Nat}
def mOps(l₀:M1)(room:Nat):TM (M1×AnsM) (S1×(Nat->List Ans)):=⟨⟨(l₀,ans0),λ_ _=>none⟩,λ_=>.ret (),room⟩
theorem OpsRes.ext {r:TSt (S1×(Nat->List Ans))}{ab:Nat}{l':M1}{am:AnsM}{w':World}(h:OpsRes C N l₀ wa r ab v l' am w2){H:Nat}(hw:w.heap.size=H)(hwa:wa.heap.size=H+1)(hoa:∀b,b<H->wa.heap[b]?=w.heap[b]?)(hl:∀b,C.foot l₀ b->b<H)(hsz:w2.heap.size<=w'.heap.size)(hold:∀x,x<w2.heap.size->x≠H->w'.heap[x]?=w2.heap[x]?):OpsRes C N l₀ w r ab v l' am w':=by
 have hs:=h.size;have hab:=h.abl;have hcn:∀b,C.foot l' b->b≠H:=λb hb e=>by
  rcases h.foot b hb with h2|h2
  . have:=hl b h2;omega
  . omega
 have han:∀i b,i<N->am.X i b≠none->b≠H:=λi b hi hb e=>by
  rcases h.ansn i b hi hb with h2|h2
  . have:=hl b h2;omega
  . omega
 refine⟨C.frame _ _ _ h.rep λb hb=>hold b (C.lt _ _ _ h.rep hb) (hcn b hb),h.st,⟨(hold ab (zqc h.ans.hd) (by omega)).trans h.ans.hd,h.ans.row,λi b o hi hb=>(hold b (zqc (h.ans.blk i b o hi hb)) (han i b hi (by rw[hb];simp))).trans (h.ans.blk i b o hi hb),h.ans.nab,h.ans.sep⟩,h.ast,by omega,λb hb hf=>(hold b (by omega) (by omega)).trans ((h.old b (by omega) hf).trans (hoa b (by omega))),λb hb=>(h.foot b hb).imp id (λx=>by omega),by omega,λi b hi hb=>(h.ansn i b hi hb).imp id (λx=>by omega),h.anf,?_,h.rowf⟩;refine zq33 (zqj h.row λg hg=>hold g (own_lt h.row hg).2.2 ?_) (by omega);have:=(own_lt h.row hg).2.1;omega
end
theorem DRes.re {w w':World}{N n:Nat}{dv:Value}{sp:Nat->Option Addr}{L Cp:Nat->Nat}{ob ib:Nat->Nat}{fv:Value}(h:DRes w N dv sp L Cp n ob ib fv w')(τ:Nat->Question->Nat)(d:Nat):DRes w N dv sp L Cp n ob ib fv (Go.Car.re w' τ d):=h.of_heap rfl
theorem DRes.of_re {w w':World}{τ:Nat->Question->Nat}{d:Nat}{N n:Nat}{dv:Value}{sp:Nat->Option Addr}{L Cp:Nat->Nat}{ob ib:Nat->Nat}{fv:Value}(h:DRes (Go.Car.re w τ d) N dv sp L Cp n ob ib fv w'):DRes w N dv sp L Cp n ob ib fv w':=
 ⟨h.size,h.old,h.db,h.ab,h.hb,h.frow,h.obx,h.ibx,h.lo,h.inc⟩
theorem zqey{w:World}{B N:Nat}{T:TypeId}{v:Value}{xs:List Value}(h:w.ownsRow B T 1 v N xs):∃p C,v=.slice p N C/\(v.ownBlock=p.map (·.block))/\(0<N->∃g,p=some ⟨g,0,none⟩/\v.ownBlock=some g/\∀i x,xs[i]?=some x->w.cell? ⟨g,i,none⟩=some x):=by
 rcases h.2 with⟨hv,h0⟩|⟨g,cap,cur,hv,hb,hh,h1,h2,h3,h4⟩
 . subst h0;exact⟨none,0,hv,by rw[hv];rfl,λh=>absurd h (Nat.lt_irrefl _)⟩
 . refine⟨_,cap,hv,by rw[hv];rfl,λ_=>⟨g,rfl,by rw[hv];rfl,λi x hx=>?_⟩⟩;rw[zq0 (off:=i) hh];have hi:i<xs.length:=(List.getElem?_eq_some_iff.1 hx).1;have hl:=h.1;rw[<-h4,List.getElem?_take]at hx;split at hx
   . simpa using hx
   . cases hx
structure PlayedR{S1:Type}(N:Nat)(w:World)(r:TSt (S1×(Nat->List Ans)))(st:List Int)(ab:Nat)(ov sv:Value)(am:AnsM)(w':World):Prop where
 size:w.heap.size<=w'.heap.size
 old:∀b,b<w.heap.size->w'.heap[b]?=w.heap[b]?
 ans:zq2v tT ab N am w'
 ast:am.st=r.s.2
 abl:w.heap.size<=ab
 ansn:∀i b,i<N->am.X i b≠none->w.heap.size<=b
 orow:w'.ownsRow w.heap.size 3 1 ov r.ord.length (r.ord.map λ(i:Nat)=>.int .i64 i)
 srow:w'.ownsRow w.heap.size 2 1 sv st.length (st.map (Value.int .i64))
 rowf:∀x,ov.ownBlock=some x->x≠ab/\∀i,i<N->am.X i x=none
 srowf:∀x,sv.ownBlock=some x->x≠ab/\(∀i,i<N->am.X i x=none)/\ov.ownBlock≠some x
theorem PlayedR.re {S1:Type}{N:Nat}{w w':World}{r:TSt (S1×(Nat->List Ans))}{st:List Int}{ab:Nat}{ov sv:Value}{am:AnsM}(h:PlayedR N w r st ab ov sv am w')(τ:Nat->Question->Nat)(d:Nat):PlayedR N w r st ab ov sv am (Go.Car.re w' τ d):=
 ⟨h.size,h.old,⟨h.ans.hd,h.ans.row,h.ans.blk,h.ans.nab,h.ans.sep⟩,h.ast,h.abl,h.ansn,h.orow,h.srow,h.rowf,h.srowf⟩
theorem zqfd{M1 S1:Type}{C:Core M1 S1}{N H:Nat}{l₀ l':M1}{w wb w2 w':World}{r:TSt (S1×(Nat->List Ans))}{ab:Nat}{v sv:Value}{am:AnsM}{st:List Int}(h:OpsRes C N l₀ wb r ab v l' am w2)(hw:w.heap.size=H)(hwb:H+1<=wb.heap.size)(hob:∀b,b<H->wb.heap[b]?=w.heap[b]?)
 (hl:∀b,C.foot l₀ b->H+1<=b) (hsz:w2.heap.size<=w'.heap.size) (hold:∀x,x<w2.heap.size->x≠H->w'.heap[x]?=w2.heap[x]?) (hs:w'.ownsRow w2.heap.size 2 1 sv st.length (st.map (Value.int .i64))):PlayedR N w r st ab v sv am w':=by
 have h1:=h.size;have h2:=h.abl;have han:∀i b,i<N->am.X i b≠none->H+1<=b:=λi b hi hb=>(h.ansn i b hi hb).elim (hl b) (λx=>by omega);refine⟨by omega,λb hb=>(hold b (by omega) (by omega)).trans ((h.old b (by omega) λx=>by have:=hl b x;omega).trans (hob b (by omega))),⟨(hold ab (zqc h.ans.hd) (by omega)).trans h.ans.hd,h.ans.row,λi b o hi hb=>(hold b (zqc (h.ans.blk i b o hi hb)) (by have:=han i b hi (by rw[hb];simp);omega)).trans (h.ans.blk i b o hi hb),h.ans.nab,h.ans.sep⟩,h.ast,by omega,λi b hi hb=>by have:=han i b hi hb;omega,?_,zq33 hs (by omega),λx hx=>(h.rowf x hx).2,λx hx=>?_⟩
 . refine zq33 (zqj h.row λg hg=>hold g (own_lt h.row hg).2.2 ?_) (by omega);have:=(own_lt h.row hg).2.1;omega
 . have h3:=(own_lt hs hx).2.1;refine⟨?_,λi hi=>?_,λe=>?_⟩
   . have:=zqc h.ans.hd;omega
   . cases ho:am.X i x with
     |none=>rfl
     |some o=>have:=zqc (h.ans.blk i x o hi ho);omega
   . have:=(own_lt h.row e).2.2;omega
def aL:List FuncId:=[11,12,47,18,20,21,31,34,53,59,46,50,51,8,17,19,30,35,36,38,39,40,13,10,14,15,37,42,43,44,41,45,22]
def aR:List FuncId:=[55,56,57]
def aM(f:FuncId):Bool:=aL.contains f || aR.contains f
theorem plain_rows:Plain Try.prog aM/\RowsS Try.prog aM:=by
 refine zq8z (by kernel_rfl) (λf hf=>?_) (by kernel_rfl) (by kernel_rfl);simp only[aR,List.mem_cons,List.not_mem_nil,or_false]at hf;rcases hf with rfl |rfl |rfl
 . exact⟨_,Extern.Atomic.loadT (.int .i64),Try.func55,rfl,by kernel_rfl,by kernel_rfl,by kernel_rfl,λ_=>zqkt _ _,λ_=>zqi8 _ _⟩
 . exact⟨_,Extern.Atomic.storeT,Try.func56,rfl,by kernel_rfl,by kernel_rfl,by kernel_rfl,λ_=>zqlj _,λ_=>zqj4 _⟩
 . exact⟨_,Extern.Atomic.casT (.int .i64),Try.func57,rfl,by kernel_rfl,by kernel_rfl,by kernel_rfl,λ_=>zqk3 _ _,λ_=>zqha _ _⟩
theorem zq1s:Plain Try.prog aM:=plain_rows.1
theorem rowsM:RowsS Try.prog aM:=plain_rows.2
end Go.Proofs
namespace Go.Car
open Go Go.Conc Go.RowKit
structure NumT where
 N:Nat
 ob:Nat->Nat
 len:Nat->Nat
 ty:Nat->TypeId
abbrev Nums:=Nat->Nat->Int
section
variable {T:NumT} {g:Nums} {w:World} {c j:Nat}
end
section
variable {M2 S2:Type} {D:Core M2 S2} {ro:Nat->Option Obj} {i:Nat} {T:NumT} {m:BM (Nums×M2)} {wc:World}
end
structure EpS where
 e:Int
 mark:Nat->Int
 ins:Nat->Bool
 th:Nat->List (Int×Int)
structure EpT where
 db:Nat
 mb:Nat
 N:Nat
 tD:TypeId
 tM:TypeId
 tT:TypeId
structure EpM where
 s:EpS
 hv:Nat->Value
 X:Nat->Nat->Option Obj
def mostT:Nat:=1099511627776
def thC(l:List (Int×Int)):List Value:=l.flatMap λx=>[.int .i64 x.1,.int .i64 x.2]
theorem zq5i(l k:List (Int×Int)):thC (l++k)=thC l++thC k:=by simp[thC]
def memC(m:EpM)(j:Nat):Value:=if j % 3=0 then .int .i64 (m.s.mark (j / 3))else if j % 3=1 then .bool (m.s.ins (j / 3))else m.hv (j / 3)
def memA(N:Nat)(m:EpM):Array Value:=((List.range (N*3)).map (memC m)).toArray
theorem zq32{N j:Nat}{m:EpM}(h:j<N*3):(memA N m)[j]?=some (memC m j):=by
 unfold memA;rw[al_gl,List.getElem?_map,List.getElem?_range h];rfl
theorem zq62{N j:Nat}{m:EpM}(h:¬j<N*3):(memA N m)[j]?=none:=by unfold memA;simp[h]
theorem zq63{N i c:Nat}{m m':EpM}{v:Value}(h:i<N)(hc:c<3)(hv:memC m' (i*3+c)=v)(ho:∀j,j≠i*3+c->memC m' j=memC m j):(memA N m).setIfInBounds (i*3+c) v=memA N m':=by
 apply Array.ext_getElem?;intro k;rw[al_gs]
 by_cases hk:k<N*3
 . rw[zq32 hk,zq32 hk]
   by_cases e:i*3+c=k
   . subst e;rw[if_pos rfl,if_pos (by unfold memA;simpa using hk),hv]
   . rw[if_neg e,ho k (λx=>e x.symm)]
 . rw[zq62 hk,zq62 hk]
   by_cases e:i*3+c=k
   . subst e;rw[if_pos rfl,if_neg (by unfold memA;simpa using hk)]
   . rw[if_neg e]
structure EpRep(T:EpT)(m:EpM)(w:World):Prop where
 dom:w.heap[T.db]?=some (.cells #[.int .i64 m.s.e,.slice (some ⟨T.mb,0,none⟩) T.N T.N] T.tD)
 mem:w.heap[T.mb]?=some (.cells (memA T.N m) T.tM)
 ne:T.db≠T.mb
 row:∀i,i<T.N->RowB (m.X i) T.tT 2 (m.hv i) (m.s.th i).length (thC (m.s.th i))
 blk:∀i b o,i<T.N->m.X i b=some o->w.heap[b]?=some o
 nd:∀i,i<T.N->m.X i T.db=none
 nm:∀i,i<T.N->m.X i T.mb=none
 sep:∀i j b,i<T.N->j<T.N->i≠j->m.X i b≠none->m.X j b=none
 cap:∀i,i<T.N->(m.s.th i).length<=mostT
def zqm(T:EpT):Core EpM EpS where
 foot m b:=b=T.db\/b=T.mb\/∃i,i<T.N/\m.X i b≠none
 Rep:=EpRep T
 st m:=m.s
 frame m w w' h hs:=⟨(hs _ (.inl rfl)).trans h.dom,(hs _ (.inr (.inl rfl))).trans h.mem,h.ne,h.row,λi b o hi hb=>(hs b (.inr (.inr ⟨i,hi,by rw[hb];simp⟩))).trans (h.blk i b o hi hb),h.nd,h.nm,h.sep,h.cap⟩
 lt m w b h hb:=by
  rcases hb with rfl |rfl |⟨i,hi,hb⟩
  . exact zqc h.dom
  . exact zqc h.mem
  . cases ho:m.X i b with
    |none=>exact absurd ho hb
    |some o=>exact zqc (h.blk i b o hi ho)
 pin _:=0
def onE{S2 α:Type}(f:EpS->EpS×α):Proc (EpS×S2) α:=Proc.act λs=>(((f s.1).1,s.2),(f s.1).2)
def EpS.putE (s:EpS)(x:Int):EpS:={s with e:=x}
def EpS.putM (s:EpS)(i:Nat)(x:Int):EpS:={s with mark:=upd' s.mark i x}
def EpS.putI (s:EpS)(i:Nat)(b:Bool):EpS:={s with ins:=upd' s.ins i b}
def EpS.putT (s:EpS)(i:Nat)(l:List (Int×Int)):EpS:={s with th:=upd' s.th i l}
section
variable {T:EpT} {m:EpM} {w:World} {i:Nat}
theorem EpRep.re (h:EpRep T m w)(τ:Nat->Question->Nat)(d:Nat):EpRep T m (Car.re w τ d):=⟨h.dom,h.mem,h.ne,h.row,h.blk,h.nd,h.nm,h.sep,h.cap⟩
theorem EpRep.cellE (h:EpRep T m w):w.cell? ⟨T.db,0,none⟩=some (.int .i64 m.s.e):=(zq0 (off:=0) h.dom).trans rfl
theorem EpRep.hdr (h:EpRep T m w):w.cell? ⟨T.db,1,none⟩=some (.slice (some ⟨T.mb,0,none⟩) T.N T.N):=(zq0 (off:=1) h.dom).trans rfl
theorem EpRep.frzE (h:EpRep T m w)(c:Nat):w.frozen? ⟨T.db,c,none⟩=false:=zq6 h.dom
theorem EpRep.frzM (h:EpRep T m w)(c:Nat):w.frozen? ⟨T.mb,c,none⟩=false:=zq6 h.mem
theorem memC_0(m:EpM)(i:Nat):memC m (i*3+0)=.int .i64 (m.s.mark i):=by
 unfold memC;rw[if_pos (by omega),show(i*3+0) / 3=i from by omega]
theorem memC_1(m:EpM)(i:Nat):memC m (i*3+1)=.bool (m.s.ins i):=by
 unfold memC;rw[if_neg (by omega),if_pos (by omega),show(i*3+1) / 3=i from by omega]
theorem memC_2(m:EpM)(i:Nat):memC m (i*3+2)=m.hv i:=by
 unfold memC;rw[if_neg (by omega),if_neg (by omega),show(i*3+2) / 3=i from by omega]
theorem EpRep.cellM (h:EpRep T m w)(hi:i<T.N):w.cell? ⟨T.mb,i*3+0,none⟩=some (.int .i64 (m.s.mark i)):=(zq0 h.mem).trans ((zq32 (by omega)).trans (by rw[memC_0]))
theorem EpRep.cellI (h:EpRep T m w)(hi:i<T.N):w.cell? ⟨T.mb,i*3+1,none⟩=some (.bool (m.s.ins i)):=(zq0 h.mem).trans ((zq32 (by omega)).trans (by rw[memC_1]))
theorem EpRep.cellT (h:EpRep T m w)(hi:i<T.N):w.cell? ⟨T.mb,i*3+2,none⟩=some (m.hv i):=(zq0 h.mem).trans ((zq32 (by omega)).trans (by rw[memC_2]))
theorem zqem{N:Nat}(hi:i<N)(x:Int):(memA N m).setIfInBounds (i*3+0) (.int .i64 x)=memA N ⟨m.s.putM i x,m.hv,m.X⟩:=zq63 hi (by decide) (by rw[memC_0];simp[EpS.putM]) λj hj=>by
 unfold memC EpS.putM
 by_cases e:j % 3=0
 . rw[if_pos e,if_pos e];simp only[zqd m.s.mark x (show j / 3≠i by omega)]
 . rw[if_neg e,if_neg e]
theorem zqel{N:Nat}(hi:i<N)(x:Bool):(memA N m).setIfInBounds (i*3+1) (.bool x)=memA N ⟨m.s.putI i x,m.hv,m.X⟩:=zq63 hi (by decide) (by rw[memC_1];simp[EpS.putI]) λj hj=>by
 unfold memC EpS.putI
 by_cases e:j % 3=0
 . rw[if_pos e,if_pos e]
 . rw[if_neg e,if_neg e]
   by_cases e1:j % 3=1
   . rw[if_pos e1,if_pos e1];simp only[zqd m.s.ins x (show j / 3≠i by omega)]
   . rw[if_neg e1,if_neg e1]
theorem zqen{N:Nat}(hi:i<N)(l:List (Int×Int))(v:Value)(X':Nat->Nat->Option Obj):(memA N m).setIfInBounds (i*3+2) v=memA N ⟨m.s.putT i l,upd' m.hv i v,X'⟩:=zq63 hi (by decide) (by rw[memC_2];simp) λj hj=>by
 unfold memC EpS.putT
 by_cases e:j % 3=0
 . rw[if_pos e,if_pos e]
 . rw[if_neg e,if_neg e]
   by_cases e1:j % 3=1
   . rw[if_pos e1,if_pos e1]
   . rw[if_neg e1,if_neg e1];simp only[zqd m.hv v (show j / 3≠i by omega)]
end
theorem zqbm{l:List (Int×Int)}:∀{j:Nat}{x:Int×Int},l[j]?=some x->(thC l)[j*2]?=some (.int .i64 x.1)/\(thC l)[j*2+1]?=some (.int .i64 x.2):=by
 induction l with
 |nil=>intro j x h;simp at h
 |cons y l ih=>
  intro j x h;have e:thC (y::l)=.int .i64 y.1::.int .i64 y.2::thC l:=rfl;cases j with
  |zero=>
   simp only[al_g0,al_oi]at h;subst h;exact⟨rfl,rfl⟩
  |succ j=>
   simp only[al_g1]at h;have:=ih h;rw[e,show(j+1)*2=j*2+1+1 from by omega];simpa using this
theorem zqls{X:Nat->Option Obj}{tT:TypeId}{v:Value}{l:List (Int×Int)}{w:World}(h:RowB X tT 2 v l.length (thC l))(hX:∀b o,X b=some o->w.heap[b]?=some o):∃p C,v=.slice p l.length C/\∀j x,l[j]?=some x->∃g,p=some ⟨g,0,none⟩/\X g≠none/\w.cell? ⟨g,j*2,none⟩=some (.int .i64 x.1)/\w.cell? ⟨g,j*2+1,none⟩=some (.int .i64 x.2):=by
 obtain⟨hl,h2⟩:=h;rcases h2 with⟨a,b,c⟩|⟨g,cap,cur,a,b,c1,c2,c3,c4⟩
 . refine⟨none,0,by rw[a,b],λj x hj=>?_⟩;have:=(List.getElem?_eq_some_iff.1 hj).1;omega
 . refine⟨_,cap,a,λj x hj=>⟨g,rfl,by rw[b];simp,?_⟩⟩;have hg:=hX g (.cells cur tT (0,0)) (by rw[b];simp);have hlt:=(List.getElem?_eq_some_iff.1 hj).1;obtain⟨h5,h6⟩:=zqbm hj;have key:∀k,k<l.length*2->cur[k]?=(thC l)[k]?:=λk hk=>by
    rw[<-c4,List.getElem?_take,if_pos hk,Array.getElem?_toList]
   exact⟨(zq0 hg).trans ((key _ (by omega)).trans h5),(zq0 hg).trans ((key _ (by omega)).trans h6)⟩
section
variable {M2 S2:Type} {D:Core M2 S2} {ro:Nat->Option Obj} {i:Nat} {T:EpT} {m:BM (EpM×M2)} {wc w':World}
theorem ep_at(hB:BRep (zqi (zqm T) D) ro m wc):EpRep T m.l.1 wc:=hB.core.1
theorem zq5v(hB:BRep (zqi (zqm T) D) ro m wc){s':EpS}(hth:s'.th=m.l.1.s.th)(hs:wc.heap.size=w'.heap.size)(ho:∀b,b≠T.db->b≠T.mb->w'.heap[b]?=wc.heap[b]?)
 (hd:w'.heap[T.db]?=some (.cells #[.int .i64 s'.e,.slice (some ⟨T.mb,0,none⟩) T.N T.N] T.tD)) (hm:w'.heap[T.mb]?=some (.cells (memA T.N ⟨s',m.l.1.hv,m.l.1.X⟩) T.tM)):
 Moved (zqi (zqm T) D) m.l (m.box i) wc (⟨s',m.l.1.hv,m.l.1.X⟩,m.l.2) (m.box i) w':=by
 have h:=ep_at hB;have hbn:∀b,(zqm T).foot m.l.1 b->m.box i b=none:=λb hb=>Classical.byContradiction λx=>hB.apart i b x (.inl hb);refine Moved.left hB ⟨Nat.le_of_eq hs,λb hb h1 h2=>ho b (λe=>h1 (.inl e)) (λe=>h1 (.inr (.inl e))),⟨hd,hm,h.ne,λj hj=>by rw[hth];exact h.row j hj,λj b o hj hb=>?_,h.nd,h.nm,h.sep,λj hj=>by rw[hth];exact h.cap j hj⟩,λb o hb=>?_,λb hb=>.inl hb,λb hb=>.inl hb,λb hb=>hbn b hb,rfl⟩
 . rw[ho b (λe=>by subst e;rw[h.nd j hj]at hb;cases hb) (λe=>by subst e;rw[h.nm j hj]at hb;cases hb)];exact h.blk j b o hj hb
 . have hn:m.box i b≠none:=by rw[hb];simp
   rw[ho b (λe=>hn (hbn b (.inl e))) (λe=>hn (hbn b (.inr (.inl e))))];exact hB.box i b o hb
theorem ep_setE(hB:BRep (zqi (zqm T) D) ro m wc)(x:Int)(τ:Nat->Question->Nat)(d:Nat)(τ':Nat->Question->Nat)(d':Nat):Moved (zqi (zqm T) D) m.l (m.box i) wc (⟨m.l.1.s.putE x,m.l.1.hv,m.l.1.X⟩,m.l.2) (m.box i) (re ((re wc τ d).setCell ⟨T.db,0,none⟩ (.int .i64 x)) τ' d'):=by
 have h:=ep_at hB;refine zq5v hB rfl (zqv (re wc τ d) _ _).symm (λb h1 h2=>zq8 (re wc τ d) _ _ _ h1) ?_ ?_
 . refine(zqn (re wc τ d) _ _ _ h.dom).trans rfl
 . exact(zq8 (re wc τ d) _ _ _ (Ne.symm h.ne)).trans h.mem
theorem ep_setM(hB:BRep (zqi (zqm T) D) ro m wc){j:Nat}(hj:j<T.N)(x:Int)(τ:Nat->Question->Nat)(d:Nat)(τ':Nat->Question->Nat)(d':Nat):Moved (zqi (zqm T) D) m.l (m.box i) wc (⟨m.l.1.s.putM j x,m.l.1.hv,m.l.1.X⟩,m.l.2) (m.box i) (re ((re wc τ d).setCell ⟨T.mb,j*3+0,none⟩ (.int .i64 x)) τ' d'):=by
 have h:=ep_at hB;refine zq5v hB rfl (zqv (re wc τ d) _ _).symm (λb h1 h2=>zq8 (re wc τ d) _ _ _ h2) ?_ ?_
 . exact(zq8 (re wc τ d) _ _ _ h.ne).trans h.dom
 . refine(zqn (re wc τ d) _ _ _ h.mem).trans ?_;rw[zqem hj]
theorem ep_setI(hB:BRep (zqi (zqm T) D) ro m wc){j:Nat}(hj:j<T.N)(x:Bool)(τ:Nat->Question->Nat)(d:Nat)(τ':Nat->Question->Nat)(d':Nat):Moved (zqi (zqm T) D) m.l (m.box i) wc (⟨m.l.1.s.putI j x,m.l.1.hv,m.l.1.X⟩,m.l.2) (m.box i) (re ((re wc τ d).setCell ⟨T.mb,j*3+1,none⟩ (.bool x)) τ' d'):=by
 have h:=ep_at hB;refine zq5v hB rfl (zqv (re wc τ d) _ _).symm (λb h1 h2=>zq8 (re wc τ d) _ _ _ h2) ?_ ?_
 . exact(zq8 (re wc τ d) _ _ _ h.ne).trans h.dom
 . refine(zqn (re wc τ d) _ _ _ h.mem).trans ?_;rw[zqel hj]
theorem zq7u(hB:BRep (zqi (zqm T) D) ro m wc)(k:Nat)(hi:k<T.N){l':List (Int×Int)}{v':Value}{X' B':Nat->Option Obj}(hs:wc.heap.size<=w'.heap.size)
 (ho:∀b,b<wc.heap.size->b≠T.mb->m.l.1.X k b=none->w'.heap[b]?=wc.heap[b]?) (hm:w'.heap[T.mb]?=some (.cells ((memA T.N m.l.1).setIfInBounds (k*3+2) v') T.tM))
 (hl:l'.length<=mostT) (hr:RowB X' T.tT 2 v' l'.length (thC l')) (hx:∀b o,X' b=some o->w'.heap[b]?=some o) (hg:∀b,X' b≠none->m.l.1.X k b≠none\/wc.heap.size<=b)
 (hb:∀b o,B' b=some o->w'.heap[b]?=some o) (hbg:∀b,B' b≠none->m.box i b≠none\/wc.heap.size<=b) (hd:∀b,X' b≠none->B' b=none):
 Moved (zqi (zqm T) D) m.l (m.box i) wc (⟨m.l.1.s.putT k l',upd' m.l.1.hv k v',upd' m.l.1.X k X'⟩,m.l.2) B' w':=by
 have h:=ep_at hB;have hlt:∀b,(zqm T).foot m.l.1 b->b<wc.heap.size:=λb hb=>(zqm T).lt _ _ _ h hb;have hXk:∀j b,j<T.N->j≠k->m.l.1.X j b≠none->m.l.1.X k b=none:=λj b hj hne hb=>h.sep j k b hj hi hne hb;have hbn:∀b,(zqm T).foot m.l.1 b->m.box i b=none:=λb hb=>Classical.byContradiction λx=>hB.apart i b x (.inl hb);have hfg:∀b,(zqm T).foot ⟨m.l.1.s.putT k l',upd' m.l.1.hv k v',upd' m.l.1.X k X'⟩ b->((zqm T).foot m.l.1 b\/wc.heap.size<=b):=by
  rintro b (e|e|⟨j,hj,hb⟩)
  . exact .inl (.inl e)
  . exact .inl (.inr (.inl e))
  . by_cases e:j=k
    . subst e;have hb2:X' b≠none:=by simpa using hb
      exact(hg b hb2).imp (λx=>.inr (.inr ⟨j,hj,x⟩)) id
    . have hb2:m.l.1.X j b≠none:=by simpa[zqd _ _ e]using hb
      exact .inl (.inr (.inr ⟨j,hj,hb2⟩))
 refine Moved.left hB ⟨hs,λb hb h1 h2=>ho b hb (λe=>h1 (.inr (.inl e))) (Classical.byContradiction λx=>h1 (.inr (.inr ⟨k,hi,x⟩))),⟨?_,?_,h.ne,λj hj=>?_,λj b o hj hb=>?_,λj hj=>?_,λj hj=>?_,λj1 j2 b h1 h2 hne hb=>?_,λj hj=>?_⟩,hb,λb hb=>(hfg b hb).imp id .inr,hbg,λb hf=>?_,rfl⟩
 . rw[ho T.db (hlt _ (.inl rfl)) h.ne (h.nd k hi)];exact h.dom
 . rw[hm,zqen hi]
 . by_cases e:j=k
   . subst e;simp only[upd'_same,EpS.putT];exact hr
   . simp only[zqd _ _ e,EpS.putT];exact h.row j hj
 . by_cases e:j=k
   . subst e;simp only[upd'_same]at hb;exact hx b o hb
   . simp only[zqd _ _ e]at hb;have hn:m.l.1.X j b≠none:=by rw[hb];simp
     rw[ho b (zqc (h.blk j b o hj hb)) (λx=>hn (by rw[x];exact h.nm j hj)) (hXk j b hj e hn)];exact h.blk j b o hj hb
 . by_cases e:j=k
   . subst e;simp only[upd'_same];exact Classical.byContradiction λx=>(hg _ x).elim (λy=>y (h.nd j hj)) (λy=>absurd (hlt _ (.inl rfl)) (Nat.not_lt_of_le y))
   . simp only[zqd _ _ e];exact h.nd j hj
 . by_cases e:j=k
   . subst e;simp only[upd'_same];exact Classical.byContradiction λx=>(hg _ x).elim (λy=>y (h.nm j hj)) (λy=>absurd (hlt _ (.inr (.inl rfl))) (Nat.not_lt_of_le y))
   . simp only[zqd _ _ e];exact h.nm j hj
 . by_cases e1:j1=k
   . subst e1;simp only[upd'_same]at hb;simp only[zqd _ _ (Ne.symm hne)];refine Classical.byContradiction λx=>(hg b hb).elim (λy=>x (h.sep _ _ b h1 h2 hne y)) (λy=>?_);exact absurd (hlt b (.inr (.inr ⟨j2,h2,x⟩))) (Nat.not_lt_of_le y)
   . simp only[zqd _ _ e1]at hb
     by_cases e2:j2=k
     . subst e2;simp only[upd'_same];refine Classical.byContradiction λx=>(hg b x).elim (λy=>y (h.sep _ _ b h1 h2 hne hb)) (λy=>?_);exact absurd (hlt b (.inr (.inr ⟨j1,h1,hb⟩))) (Nat.not_lt_of_le y)
     . simp only[zqd _ _ e2];exact h.sep j1 j2 b h1 h2 hne hb
 . by_cases e:j=k
   . subst e;simp only[upd'_same,EpS.putT];exact hl
   . simp only[zqd _ _ e,EpS.putT];exact h.cap j hj
 . refine Classical.byContradiction λx=>?_;rcases hf with e|e|⟨j,hj,hf⟩
   . subst e;exact(hbg _ x).elim (λy=>y (hbn _ (.inl rfl))) (λy=>absurd (hlt _ (.inl rfl)) (Nat.not_lt_of_le y))
   . subst e;exact(hbg _ x).elim (λy=>y (hbn _ (.inr (.inl rfl)))) (λy=>absurd (hlt _ (.inr (.inl rfl))) (Nat.not_lt_of_le y))
   . by_cases e:j=k
     . subst e;have hf2:X' b≠none:=by simpa using hf
       exact x (hd b hf2)
     . have hf2:m.l.1.X j b≠none:=by simpa[zqd _ _ e]using hf
       exact(hbg _ x).elim (λy=>y (hbn _ (.inr (.inr ⟨j,hj,hf2⟩)))) (λy=>absurd (hlt _ (.inr (.inr ⟨j,hj,hf2⟩))) (Nat.not_lt_of_le y))
theorem ep_push(hB:BRep (zqi (zqm T) D) ro m wc)(k:Nat)(hk:k<T.N)(x:Int×Int)(hl:(m.l.1.s.th k).length<mostT){w1 w2:World}(h1s:w1.heap.size=wc.heap.size+1)(h1o:∀b,b<wc.heap.size->w1.heap[b]?=wc.heap[b]?){g cap:Nat}
 (hown:w2.ownsRow 0 T.tT 2 (.slice (some ⟨g,0,none⟩) ((m.l.1.s.th k).length+1) cap) ((m.l.1.s.th k).length+1) (thC (m.l.1.s.th k)++[.int .i64 x.1,.int .i64 x.2])) (hg:w1.grownBy w2 (m.l.1.hv k).ownBlock) (hat:(m.l.1.hv k).ownBlock=some g\/g=w1.heap.size) (τ:Nat->Question->Nat) (d:Nat):
 ∃m',m'.s=m.l.1.s.putT k (m.l.1.s.th k++[x])/\Moved (zqi (zqm T) D) m.l (m.box i) wc (m',m.l.2) (m.box i) (re (w2.setCell ⟨T.mb,k*3+2,none⟩ (.slice (some ⟨g,0,none⟩) ((m.l.1.s.th k).length+1) cap)) τ d):=by
 have h:=ep_at hB;have hlt:∀b,(zqm T).foot m.l.1 b->b<wc.heap.size:=λb hb=>(zqm T).lt _ _ _ h hb;have hbn:∀b,(zqm T).foot m.l.1 b->m.box i b=none:=λb hb=>Classical.byContradiction λx=>hB.apart i b x (.inl hb);have hrow:=h.row k hk;have hold2:∀b,b<wc.heap.size->m.l.1.X k b=none->w2.heap[b]?=wc.heap[b]?:=λb hb hx=>by
  rw[hg.block b (by omega) (λe=>(hrow.block b).2 e.symm hx)];exact h1o b hb
 have hs2:wc.heap.size<=w2.heap.size:=by have:=hg.size;omega
 obtain⟨hl2,h2⟩:=hown;rcases h2 with⟨e,_⟩|⟨g',cap',cur,e,_,hh,c1,c2,c3,c4⟩
 . cases e
 cases e;have hgx:m.l.1.X k g≠none\/wc.heap.size<=g:=hat.imp (λe=>(hrow.block g).2 e) (λe=>by omega);have hgm:g≠T.mb:=λe=>by
  subst e;rcases hgx with x|x
  . exact x (h.nm k hk)
  . have:=hlt T.mb (.inr (.inl rfl));omega
 have hmm:w2.heap[T.mb]?=some (.cells (memA T.N m.l.1) T.tM):=(hold2 T.mb (hlt _ (.inr (.inl rfl))) (h.nm k hk)).trans h.mem;have hw3:∀b,b≠T.mb->(w2.setCell ⟨T.mb,k*3+2,none⟩ (.slice (some ⟨g,0,none⟩) ((m.l.1.s.th k).length+1) cap)).heap[b]?=w2.heap[b]?:=λb hb=>zq8 _ _ _ _ hb;refine⟨_,rfl,zq7u (X':=λb=>if b=g then some (.cells cur T.tT (0,0))else none) hB k hk (l':=m.l.1.s.th k++[x]) (v':=.slice (some ⟨g,0,none⟩) ((m.l.1.s.th k).length+1) cap) ?_ (λb hb h1 hx=>?_) ?_ ?_ ?_ (λb o hb=>?_) (λb hb=>?_) (λb o hb=>?_) (λb hb=>.inl hb) (λb hb=>?_)⟩
 . show wc.heap.size<=(w2.setCell _ _).heap.size;rw[zqv];exact hs2
 . exact(hw3 b h1).trans (hold2 b hb hx)
 . exact zqn _ _ _ _ hmm
 . simp only[List.length_append,List.length_cons,List.length_nil];omega
 . have e1:(m.l.1.s.th k++[x]).length=(m.l.1.s.th k).length+1:=by simp
   have e2:thC (m.l.1.s.th k++[x])=thC (m.l.1.s.th k)++[.int .i64 x.1,.int .i64 x.2]:=by rw[zq5i];rfl
   rw[e1,e2];exact⟨hl2,.inr ⟨g,cap,cur,rfl,rfl,c1,c2,c3,c4⟩⟩
 . by_cases e:b=g
   . subst e;simp only[if_true]at hb;refine(hw3 b hgm).trans ?_;rw[<-hb];exact hh
   . simp[e]at hb
 . by_cases e:b=g
   . subst e;exact hgx
   . simp[e]at hb
 . have hn:m.box i b≠none:=by rw[hb];simp
   have hx:m.l.1.X k b=none:=Classical.byContradiction λy=>hn (hbn b (.inr (.inr ⟨k,hk,y⟩)));have hm1:b≠T.mb:=λe=>hn (hbn b (.inr (.inl e)));refine(hw3 b hm1).trans ((hold2 b (hB.lt (.inr (.inl ⟨i,hn⟩))) hx).trans ?_);exact hB.box i b o hb
 . by_cases e:b=g
   . subst e;rcases hgx with y|y
     . exact hbn b (.inr (.inr ⟨k,hk,y⟩))
     . exact Classical.byContradiction λz=>by have:=hB.lt (.inr (.inl ⟨i,z⟩));omega
   . simp[e]at hb
end
section
variable {P:Program}
end
section
variable {P:Program} {A:FuncId->Bool} {Ml S α:Type} {C:Core Ml S} {ro:Nat->Option Obj} {i:Nat}
end
end Go.Car
namespace Go.Proofs
open Go Go.Conc Go.RowKit Go.Car
theorem zq52(ad:Addr)(x:Int)(w:World)(h0:w.cell? ad=some (.int .i64 x)):
 Calls Try.prog 46 #[.pointer (some ad)] w λe w'=>e=.returned (.int .i64 x)/\w'=w:=by
 have hl:=run_call_load (P:=Try.prog) Try.func55 (by kernel_rfl) (by kernel_rfl) (by kernel_rfl) .i64 (by kernel_rfl) h0
 go_enter Try.func46,Try.ntmps46
 go_wp2;go_ret;exact⟨rfl,rfl⟩
theorem zq6m(ad:Addr)(x y:Int)(w:World)(h0:w.cell? ad=some (.int .i64 x))(f0:w.frozen? ad=false):
 Calls Try.prog 50 #[.pointer (some ad),.int .i64 y] w λe w'=>e=.returned (.tuple #[])/\w'=w.setCell ad (.int .i64 y):=by
 have hl:=run_call_store (P:=Try.prog) Try.func56 (by kernel_rfl) (by kernel_rfl) (by kernel_rfl) (by kernel_rfl) (k:=.i64) (y:=y) h0 f0
 go_enter Try.func50,Try.ntmps50
 go_wp2
 go_end0
 exact⟨rfl,rfl⟩
theorem zqcg(ad:Addr)(x y:Int)(w:World)(h0:w.cell? ad=some (.int .i64 x))(f0:w.frozen? ad=false):
 Calls Try.prog 51 #[.pointer (some ad),.int .i64 x,.int .i64 y] w λe w'=>e=.returned (.bool true)/\w'=w.setCell ad (.int .i64 y):=by
 have hl:=run_call_cas_hit (P:=Try.prog) Try.func57 (by kernel_rfl) (by kernel_rfl) (by kernel_rfl) .i64 (by kernel_rfl) (y:=y) h0 f0
 go_enter Try.func51,Try.ntmps51
 go_wp2;go_ret;exact⟨rfl,rfl⟩
theorem zqch(ad:Addr)(x o y:Int)(w:World)(h0:w.cell? ad=some (.int .i64 x))(f0:w.frozen? ad=false)(hne:¬x=o):
 Calls Try.prog 51 #[.pointer (some ad),.int .i64 o,.int .i64 y] w λe w'=>e=.returned (.bool false)/\w'=w:=by
 have hl:=run_call_cas_miss (P:=Try.prog) Try.func57 (by kernel_rfl) (by kernel_rfl) (by kernel_rfl) .i64 (by kernel_rfl) (y:=y) h0 f0 hne
 go_enter Try.func51,Try.ntmps51
 go_wp2;go_ret;exact⟨rfl,rfl⟩
def loadE(s:EpS):EpS×Int:=(s,s.e)
def loadM(j:Nat)(s:EpS):EpS×Int:=(s,s.mark j)
def zq4b(j:Nat)(x:Int)(s:EpS):EpS×Unit:=(s.putM j x,())
def casE(o x:Int)(s:EpS):EpS×Bool:=if s.e=o then(s.putE x,true)else(s,false)
def getI(k:Nat)(s:EpS):EpS×Bool:=(s,s.ins k)
def setI(k:Nat)(b:Bool)(s:EpS):EpS×Unit:=(s.putI k b,())
def pushT(k:Nat)(x:Int×Int)(s:EpS):EpS×Bool:=if(s.th k).length<mostT then(s.putT k (s.th k++[x]),true)else(s,false)
def oldT(e:Int)(t:Int×Int):Bool:=decide (t.2<=wrap64 (e - 2))
def takeT(k:Nat)(e:Int)(s:EpS):EpS×List Int:=(s.putT k ((s.th k).filter λt=>!oldT e t),((s.th k).filter (oldT e)).map Prod.fst)
theorem zq8o{w:World}{db N C:Nat}{p:Option Addr}(h:w.cell? ⟨db,1,none⟩=some (.slice p N C))(hN:N<=1099511627776):
 Calls Try.prog 12 #[.pointer (some ⟨db,0,none⟩)] w λe w'=>e=.returned (.int .i64 N)/\w'=w:=by
 go_enter Try.func12,Try.ntmps12
 go_wp2;go_ret;exact⟨rfl,rfl⟩
theorem zqdh{w:World}{db mb N k:Nat}(h:w.cell? ⟨db,1,none⟩=some (.slice (some ⟨mb,0,none⟩) N N))(hk:k<N)(hN:N<=1099511627776):
 Calls Try.prog 47 #[.pointer (some ⟨db,0,none⟩),.int .i64 k] w λe w'=>e=.returned (.pointer (some ⟨mb,k*3,none⟩))/\w'=w:=by
 have h1:¬(k:Int)<0:=by omega
 have h2:(k:Int)<(N:Int):=by omega
 have h3:¬(N:Int)<=(k:Int):=by omega
 have h4:(0:Int)<=(k:Int):=by omega
 have hm:=zq8o h hN
 go_enter Try.func47,Try.ntmps47
 go_wp2_with (fail)
 refine Calls.mono hm ?_;rintro e w' ⟨rfl,rfl⟩;go_wp2;go_ret;exact⟨rfl,rfl⟩
end Go.Proofs
namespace Go.Car
open Go Go.Conc Go.RowKit
section
variable {P:Program} {A:FuncId->Bool} {Ml S β α:Type} {C:Core Ml S} {ro:Nat->Option Obj} {i:Nat}
theorem Alone.restS (Z:Alone P A C ro i β){I:S->Prop}{c:Code}{fn:Func}{Post:Z.γ->Ending->World->Prop}{g:S->S×α}{K:α->Proc S β}{s:Z.γ}{m:BM Ml}{w:World}{t:Array Value}(Φ:Array Value->(Nat->Option Obj)->Prop)(h:(Z.sys I).At s m w ((Proc.act g).bind K))(hok:zqp P A c=true)
 (hI:∀s,I s->I (g s).1) (hO:∀s,Z.Oth s (g s).1)
 (hx:∀wc,BRep C ro m wc->I (C.st m.l)->∀X:Act->World->Prop,(∀t l' B' w',Moved C m.l (m.box i) wc l' B' w'->C.st l'=(g (C.st m.l)).1->Φ t B'->X ⟨t,[]⟩ w')->Code.wp P c (ends X X) ⟨t,[]⟩ wc)
 (hp:∀t' m' w',Φ t' (m'.box i)->(Z.sys I).At s m' w' (K (g (C.st m.l)).2)->(Z.sys I).Bd fn Post s ⟨t',[]⟩ w'):wpJ Z.J c (bodyC ((Z.sys I).Bd fn Post) Post) s ⟨t,[]⟩ w:=by
 intro b k cs hb hk;refine Z.item (it:=.code c) (ds:=[]) (λt l' B'=>C.st l'=(g (C.st m.l)).1/\Φ t B') (λt l' B'=>C.st l'=(g (C.st m.l)).1/\Φ t B') h.1 hok (λwc hB _=>zq2t (zq5o (hx wc hB h.2 (λa w'=>∃l' B',(Moved C m.l (m.box i) wc l' B' w'/\Z.Oth (C.st m.l) (C.st l'))/\C.st l'=(g (C.st m.l)).1/\Φ a.tmps B') λt l' B' w' k1 k2 k3=>⟨l',B',⟨k1,by rw[k2];exact hO _⟩,k2,k3⟩)) λe a w' q=>?_) b k cs hb ?_
 . cases e with
   |normal=>exact q
   |ret=>exact q
   |_=>exact q
 . rintro s' e a w' ⟨rfl,hd,l',B',hh,hA⟩;obtain⟨tt,dd⟩:=a;simp only at hd hh;subst hd;have key:∀h1:C.st l'=(g (C.st m.l)).1,(Z.sys I).At s' (m.put i l' B') w' (K (g (C.st m.l)).2):=λh1=>by
    refine⟨?_,?_⟩
    . rw[BM.put_l,h1];exact hA
    . rw[BM.put_l,h1];exact hI _ h.2
   rcases hh with⟨rfl,h1,h2⟩|⟨rfl,h1,h2⟩
   . exact hk _ .normal _ _ (hp tt (m.put i l' B') w' (by rw[BM.put_box];exact h2) (key h1))
   . exact hk _ .ret _ _ (hp tt (m.put i l' B') w' (by rw[BM.put_box];exact h2) (key h1))
theorem YSys.callQ {Y:YSys P A C ro i β}{B:Nat->Option Obj}{Q:Y.γ->Exit->Act->World->Prop}{s:Y.γ}{w:World}{t:Array Value}{ds:List Deferred}{ops:Array Oper}{todo rest:List Nat}(k n q:Nat){t₁:Array Value}{o:Oper}{f:FuncId}{args:Array Value}{pp:Proc S α}{rel:α->Value->(Nat->Option Obj)->Prop}{K:α->Proc S β}{d₀:Tmp}(hA:Y.AtB B s w (pp.bind K))(hspec:SpecR Y f args pp rel)(hK:∀a,Y.sil (K a))
 (hsz:k+n+(q+1)=ops.size) (ht:todo=List.range' k (n+(q+1))) (hr:rest=List.range' (k+n+1) q) (hc:chk P (λ_=>false) true ops k n=true) (ho:ops[k+n]?=some o) (hg:o.guard=none) (hd₀:o.dst=some d₀)
 (hpre:∀wc,Y.KnB B wc->∀X:Exit->Act->World->Prop,(∀w',Ext1 wc w'->X .normal ⟨t₁,ds⟩ w')->wpList P ops X ((ops.toList.drop k).take n) ⟨t,ds⟩ wc)
 (hrun:∀w,(execOp (Act.mk t₁ ds).eval o).run P w=.ok (.enter f args) w) (hev:∀w,(execOp (Act.mk t₁ ds).eval o).events P w #[]=#[])
 (hd:∀s' ch w',Y.Dead s' ch w'->Q s' (.panic ch) ⟨t₁,ds⟩ w')
 (hk:∀s' a v X w',rel a v X->(∀b,X b≠none->B b=none)->Y.AtB (orB X B) s' w' (K a)->opsJ Y.J ops rest Q s' ⟨t₁.setIfInBounds d₀ v,ds⟩ w'):opsJ Y.J ops todo Q s ⟨t,ds⟩ w:=by
 refine Y.pre0 k n (q+1) (rest:=(k+n)::rest) hA hsz ht (by rw[hr,List.range'_succ]) hc hpre λw' hA'=>?_;refine Y.callO (hspec K s B w' hK hA') ho hg hd₀ hrun hev ?_;intro s' e w'' hp;cases e with
 |returned v=>
  obtain⟨a,X,k1,k2,k3⟩:=hp;exact hk s' a v X w'' k1 k2 k3
 |panicked ch=>exact hd s' ch w'' hp
 |outgrown=>exact hp
theorem YSys.endX {Y:YSys P A C ro i β}{B:Nat->Option Obj}{Q:Y.γ->Exit->Act->World->Prop}{s:Y.γ}{w:World}{p:Proc S β}{t:Array Value}{c:Code}(Φ:Array Value->(Nat->Option Obj)->Prop)(h:Y.AtB B s w p)(hok:zqp P A c=true)
 (hx:∀wc,Y.KnB B wc->∀X:Act->World->Prop,(∀t B' w',OMoved B wc B' w'->Φ t B'->X ⟨t,[]⟩ w')->Code.wp P c (ends (λ_ _=>False) X) ⟨t,[]⟩ wc)
 (hp:∀t' B' w',Φ t' B'->Y.AtB B' s w' p->Q s .ret ⟨t',[]⟩ w'):wpJ Y.J c Q s ⟨t,[]⟩ w:=by
 intro b k cs hb hk;refine Y.itemX (it:=.code c) (ds:=[]) (λ_ _=>False) Φ h hok (λwc hB X R _ hR=>zq2t (zq5o (hx wc hB R hR)) λe a w' q=>?_) b k cs hb ?_
 . cases e with
   |normal=>exact q.2.elim
   |ret=>exact q
   |_=>exact q
 . rintro s' e a w' ⟨rfl,hd,B',(⟨_,h1⟩|⟨rfl,h1⟩),hA⟩
   . exact h1.elim
   . obtain⟨tt,dd⟩:=a;simp only at hd h1;subst hd;exact hk _ .ret _ _ (hp _ B' w' h1 hA)
theorem OMoved.behind {B B':Nat->Option Obj}{w w1 w':World}(e:Ext1 w w1)(h:OMoved B w1 B' w')(hB:∀b,B b≠none->b<w.heap.size)(hs:w'.heap.size=w1.heap.size):OMoved B w B' w':=
 ⟨Nat.le_trans e.size h.size,by have:=e.one;omega,λb hb hn=>(h.old b (Nat.lt_of_lt_of_le hb e.size) hn).trans (e.old b hb),h.box,λb hb=>(h.grow b hb).imp id λx=>Nat.le_trans e.size x⟩
theorem OwnRep.ext {ro B:Nat->Option Obj}{w w1:World}(h:OwnRep ro B w)(e:Ext w w1):OwnRep ro B w1:=⟨λb o hb=>e.heap (h.box b o hb),λb o hb=>e.heap (h.rod b o hb),h.rob⟩
end
end Go.Car
namespace Go.Proofs
open Go Go.Conc Go.RowKit Go.Car
noncomputable def rtT(n:Nat):Code:=tailN n (Try.f24.body.getD .skip)
noncomputable def clT(n:Nat):Code:=tailN n (Try.f26.body.getD .skip)
theorem cl0:Try.f26.body.getD .skip=.seq (headC (clT 0)) (.seq (headC (clT 1)) (.seq (headC (clT 2)) (.seq (headC (clT 3)) (clT 4)))):=by kernel_rfl
section
variable {M2 S2 β:Type} {D:Core M2 S2} {ro:Nat->Option Obj} {i:Nat} {T:EpT}
structure EpTy(T:EpT):Prop where
 tD:T.tD=81
 tM:T.tM=121
 tT:T.tT=125
 N:T.N<=64
def rtF(db mb k:Nat)(sv:Value)(n e:Int)(v:Nat->Value):Array Value:=#[.pointer (some ⟨db,0,none⟩),sv,.int .i64 k,.int .i64 n,v 4,v 5,v 6,v 7,.int .i64 0,.int .i64 0,.pointer (some ⟨mb,k*3,none⟩),.int .i64 e,v 12,v 13,v 14,v 15,v 16,v 17,v 18,v 19,v 20,v 21,v 22,v 23,v 24,v 25,v 26,v 27,v 28,v 29,v 30,v 31,v 32]
structure EpoY(T:EpT)(k:Nat)(Y:YSys Try.prog aM (zqi (zqm T) D) ro i β)(sv:Value):Prop where
 step:StepY Y 49 #[sv]
 hdr:∀{B wc},Y.KnB B wc->wc.cell? ⟨T.db,1,none⟩=some (.slice (some ⟨T.mb,0,none⟩) T.N T.N)
 nout:∀{s B w},¬Y.AtB B s w Proc.out
 silI:∀{K:Bool->Proc (EpS×S2) β},(∀b,Y.sil (K b))->Y.sil ((onE (getI k)).bind K)
 silS:∀{b:Bool}{K:Unit->Proc (EpS×S2) β},(∀u,Y.sil (K u))->Y.sil ((onE (setI k b)).bind K)
 silP:∀{x}{K:Bool->Proc (EpS×S2) β},(∀u,Y.sil (K u))->Y.sil ((onE (pushT k x)).bind K)
 silT:∀{e}{K:List Int->Proc (EpS×S2) β},(∀u,Y.sil (K u))->Y.sil ((onE (takeT k e)).bind K)
 silO:Y.sil Proc.out
 load:SpecY Y 46 #[.pointer (some ⟨T.db,0,none⟩)] (onE loadE) (λx=>.int .i64 x)
 loadm:∀j,j<T.N->SpecY Y 46 #[.pointer (some ⟨T.mb,j*3,none⟩)] (onE (loadM j)) (λx=>.int .i64 x)
 storem:∀x,SpecY Y 50 #[.pointer (some ⟨T.mb,k*3,none⟩),.int .i64 x] (onE (zq4b k x)) (λ_=>.tuple #[])
 cas:∀o x,SpecY Y 51 #[.pointer (some ⟨T.db,0,none⟩),.int .i64 o,.int .i64 x] (onE (casE o x)) (λb=>.bool b)
 readI:∀{x y:Code}{Q:Y.γ->Exit->Act->World->Prop}{s w t ds B}{K:Bool->Proc (EpS×S2) β}{t':Bool->Array Value},Y.AtB B s w ((onE (getI k)).bind K)->zqp Try.prog aM x=true->
  (∀wc b,Y.KnB B wc->wc.cell? ⟨T.mb,k*3+1,none⟩=some (.bool b)->Code.wp Try.prog x (ends (λa w'=>Ext1 wc w'/\a.tmps=t' b) (λ_ _=>False)) ⟨t,[]⟩ wc)->
  (∀b w',Y.AtB B s w' (K b)->wpJ Y.J y Q s ⟨t' b,ds⟩ w')->wpJ Y.J (.seq x y) Q s ⟨t,ds⟩ w
 writeI:∀{x y:Code}{Q:Y.γ->Exit->Act->World->Prop}{s w t t' ds B}{K:Unit->Proc (EpS×S2) β}(b:Bool),Y.AtB B s w ((onE (setI k b)).bind K)->zqp Try.prog aM x=true->
  (∀wc b0,Y.KnB B wc->wc.cell? ⟨T.mb,k*3+1,none⟩=some (.bool b0)->wc.frozen? ⟨T.mb,k*3+1,none⟩=false->Code.wp Try.prog x (ends (λa w'=>w'=wc.setCell ⟨T.mb,k*3+1,none⟩ (.bool b)/\a.tmps=t') (λ_ _=>False)) ⟨t,[]⟩ wc)->
  (∀w',Y.AtB B s w' (K ())->wpJ Y.J y Q s ⟨t',ds⟩ w')->wpJ Y.J (.seq x y) Q s ⟨t,ds⟩ w
 push:∀{y:Code}{Q:Y.γ->Exit->Act->World->Prop}{s w t ds B}{K:Bool->Proc (EpS×S2) β}{n e:Int},t=rtF T.db T.mb k sv n e (λj=>t.getD j undef)->Y.AtB B s w ((onE (pushT k (n,e))).bind K)->
  (∀s w,Y.AtB B s w (K false)->False)->(∀v' w',Y.AtB B s w' (K true)->wpJ Y.J y Q s ⟨rtF T.db T.mb k sv n e v',ds⟩ w')->wpJ Y.J (.seq (headC (rtT 4)) y) Q s ⟨t,ds⟩ w
theorem zqd2(Z:Alone Try.prog aM (zqi (zqm T) D) ro i β){I:EpS×S2->Prop}(hty:EpTy T){k:Nat}(hk:k<T.N)(hI:∀g g' s,I (g,s)->I (g',s))(hO:∀g g' s,(∀j,j≠k->g'.th j=g.th j)->Z.Oth (g,s) (g',s))(hn:∀{s m w r},Z.AtE s m w r->r.2≠.out){sv:Value}(hs:StepY (Z.sys I) 49 #[sv]):EpoY T k (Z.sys I) sv where
 step:=hs
 hdr h:=by
  obtain⟨m,_,hB⟩:=h;exact(ep_at hB).hdr
 silI _:=trivial
 silS _:=trivial
 silP _:=trivial
 silT _:=trivial
 silO:=trivial
 nout h:=by
  obtain⟨m,_,h,_⟩:=h;exact hn h rfl
 load:=by
  refine Z.act Try.func46 rfl (by kernel_rfl) (λs h=>h) (λs=>Z.oth s) λm wc hB=>Calls.mono (zq52 _ _ wc (ep_at hB).cellE) ?_;rintro e w' ⟨rfl,rfl⟩;exact⟨m.l,Moved.ext hB (Ext.refl _),rfl,rfl⟩
 loadm j hj:=by
  refine Z.act Try.func46 rfl (by kernel_rfl) (λs h=>h) (λs=>Z.oth s) λm wc hB=>Calls.mono (zq52 _ _ wc ((ep_at hB).cellM hj)) ?_;rintro e w' ⟨rfl,rfl⟩;exact⟨m.l,Moved.ext hB (Ext.refl _),rfl,rfl⟩
 storem x:=by
  refine Z.act Try.func50 rfl (by kernel_rfl) (λs h=>hI _ _ _ h) (λs=>hO _ _ _ λj _=>rfl) λm wc hB=>Calls.mono (zq6m _ _ x wc ((ep_at hB).cellM hk) ((ep_at hB).frzM _)) ?_;rintro e w' ⟨rfl,rfl⟩;exact⟨_,ep_setM hB hk x wc.tape wc.drawn _ _,rfl,rfl⟩
 cas o x:=by
  refine Z.act Try.func51 rfl (by kernel_rfl) (λs h=>?_) (λs=>?_) λm wc hB=>?_
  . unfold casE;split
    . exact hI _ _ _ h
    . exact h
  . unfold casE;split
    . exact hO _ _ _ λj _=>rfl
    . exact Z.oth s
  . by_cases e:m.l.1.s.e=o
    . have c0:=(ep_at hB).cellE;rw[e]at c0;refine Calls.mono (zqcg _ o x wc c0 ((ep_at hB).frzE _)) ?_;rintro e' w' ⟨rfl,rfl⟩;have e2:casE o x m.l.1.s=(m.l.1.s.putE x,true):=by unfold casE;rw[if_pos e]
      refine⟨_,ep_setE hB x wc.tape wc.drawn _ _,?_,?_⟩
      . show(m.l.1.s.putE x,D.st m.l.2)=((casE o x m.l.1.s).1,D.st m.l.2);rw[e2]
      . show Value.bool true=.bool (casE o x m.l.1.s).2;rw[e2]
    . refine Calls.mono (zqch _ _ o x wc (ep_at hB).cellE ((ep_at hB).frzE _) e) ?_;rintro e' w' ⟨rfl,rfl⟩;have e2:casE o x m.l.1.s=(m.l.1.s,false):=by unfold casE;rw[if_neg e]
      refine⟨m.l,Moved.ext hB (Ext.refl _),?_,?_⟩
      . show(m.l.1.s,D.st m.l.2)=((casE o x m.l.1.s).1,D.st m.l.2);rw[e2]
      . show Value.bool false=.bool (casE o x m.l.1.s).2;rw[e2]
 readI h hok hx hy:=by
  refine zqs (Z.sys I).jc ?_;obtain⟨m,hmB,h⟩:=h;rename_i t';refine Alone.actS Z (I:=I) (I':=I) (g:=λs=>(((getI k s.1).1,s.2),(getI k s.1).2)) (λt B'=>t=t' (m.l.1.s.ins k)/\B'=m.box i) h hok (λs h=>h) (λs=>Z.oth s) ?_ ?_
  . intro wc hB _ X hX;refine Code.wp_mono ?_ (hx wc (m.l.1.s.ins k) ⟨m,hmB,hB⟩ ((ep_at hB).cellI hk));intro e a w' q;cases e with
    |normal=>
     obtain⟨q0,q1,q2⟩:=q;obtain⟨tt,dd⟩:=a;simp only at q0 q2;subst q0 q2;exact⟨rfl,hX _ m.l (m.box i) _ (Moved.ext hB q1.toExt) rfl ⟨rfl,rfl⟩⟩
    |ret=>exact q.2.elim
    |_=>exact q
  . rintro _ m' w' ⟨rfl,e⟩ hA;exact hy _ w' ⟨m',e.trans hmB,hA⟩
 writeI b h hok hx hy:=by
  refine zqs (Z.sys I).jc ?_;obtain⟨m,hmB,h⟩:=h;rename_i x y Q s w t t' ds B K;refine Alone.actS Z (I:=I) (I':=I) (g:=λs=>(((setI k b s.1).1,s.2),(setI k b s.1).2)) (λt B'=>t=t'/\B'=m.box i) h hok (λs h=>hI _ _ _ h) (λs=>hO _ _ _ λj _=>rfl) ?_ ?_
  . intro wc hB _ X hX;refine Code.wp_mono ?_ (hx wc (m.l.1.s.ins k) ⟨m,hmB,hB⟩ ((ep_at hB).cellI hk) ((ep_at hB).frzM _));intro e a w' q;cases e with
    |normal=>
     obtain⟨q0,q1,q2⟩:=q;obtain⟨tt,dd⟩:=a;simp only at q0 q2;subst q0 q1 q2;exact⟨rfl,hX _ _ (m.box i) _ (ep_setI hB hk b wc.tape wc.drawn _ _) rfl ⟨rfl,rfl⟩⟩
    |ret=>exact q.2.elim
    |_=>exact q
  . rintro _ m' w' ⟨rfl,e⟩ hA;exact hy w' ⟨m',e.trans hmB,hA⟩
 push ht h hno hy:=by
  refine zqs (Z.sys I).jc ?_;rename_i y Q s w t ds B K n e;obtain⟨v,hv⟩:∃v:Nat->Value,(λj=>t.getD j undef)=v:=⟨_,rfl⟩;rw[hv]at ht;clear hv;subst ht;obtain⟨m,hmB,h⟩:=h
  by_cases hl:(m.l.1.s.th k).length<mostT
  . have eg:pushT k (n,e) m.l.1.s=(m.l.1.s.putT k (m.l.1.s.th k++[(n,e)]),true):=by unfold pushT;rw[if_pos hl]
    refine Alone.actS Z (I:=I) (I':=I) (g:=λs=>(((pushT k (n,e) s.1).1,s.2),(pushT k (n,e) s.1).2)) (λt B'=>(∃v',t=rtF T.db T.mb k sv n e v')/\B'=m.box i) h (by kernel_rfl) (λs h=>hI _ _ _ h) (λs=>hO _ _ _ λj hj=>?_) ?_ ?_
    . show((pushT k (n,e) s.1).1).th j=_;unfold pushT;split
      . exact zqd _ _ hj
      . rfl
    . intro wc hB _ X hX;have c2:=(ep_at hB).cellT hk;have HX:=Lib.hid hX;have HB:=Lib.hid hB;have HL:=Lib.hid hl;have HE:=Lib.hid eg;have f2:=(ep_at hB).frzM (k*3+2);obtain⟨hv,hhv⟩:∃hv,m.l.1.hv k=hv:=⟨_,rfl⟩;have hrow:=(ep_at hB).row k hk;have hblk:=λb o=>(ep_at hB).blk k b o hk;rw[hhv]at c2 hrow;have HW:=Lib.hid (And.intro hrow (And.intro hblk hhv));have HT:=Lib.hid hty;clear hX hB hl eg hhv hrow hblk hty;unfold rtF;obtain⟨u_,hu_⟩:∃c,headC (rtT 4)=c:=⟨_,rfl⟩;have eu_:=hu_;rw[hu_];simp only[rtT,headC,tailN,Try.f24,al_od]at eu_;subst eu_;clear hu_;obtain⟨tj,htj,hy0,hy1,hy2⟩:∃ti,Try.prog.info? 125=some ti/\ti.zero=some (.agg #[.int .i64 0,.int .i64 0])/\ti.size=2/\ti.bytes=16:=⟨_,rfl,rfl,rfl,rfl⟩;have TJ:=Lib.hid (And.intro htj (And.intro hy0 (And.intro hy1 hy2)));clear htj hy0 hy1 hy2;have HRW:RowKit.Hid (wc.ownsRow 0 125 2 hv (m.l.1.s.th k).length (thC (m.l.1.s.th k))):=Lib.hid (HT.out.tT▸HW.out.1.own HW.out.2.1)
      go_wp2_with (at_builtin;go_loud (refine wpList_append_lies _ rfl (.tmp 24) (.tmp 28) 119 rfl 0 125 tj (.agg #[.int .i64 0,.int .i64 0]) 2 16 (by kernel_rfl) TJ.out.1 TJ.out.2.1 TJ.out.2.2.1 TJ.out.2.2.2 rfl (by decide) _ (m.l.1.s.th k).length (thC (m.l.1.s.th k)) rfl (zq1d HRW.out _) _ 1 1 [.int .i64 n,.int .i64 e] rfl rfl (World.news_of_block (zqo _ _)) (λu hu=>by simp only[List.mem_cons,List.not_mem_nil,or_false]at hu;rcases hu with rfl |rfl<;>rfl) (by decide) (by simp only[maxLen];have:=HL.out;simp only[mostT]at this;omega) (by have:=HL.out;simp only[mostT]at this;omega) (Nat.zero_le _) _ rfl ?next))
      case next=>
       intro g7 cap7 w7 hown7 hgrow7 hat7 hlt7;have L7:=Lib.hid (And.intro hown7 (And.intro hgrow7 hat7));have hmb7:w7.heap[T.mb]?=some (.cells (memA T.N m.l.1) T.tM):=by
        have hl:=zqc (ep_at HB.out).mem;rw[hgrow7.block T.mb (by rw[zq3];omega) (λe=>((HW.out.1.block T.mb).2 e.symm) ((ep_at HB.out).nm k hk)),zqk (ep_at HB.out).mem]
       have c7:w7.cell? ⟨T.mb,k*3+2,none⟩=some hv:=(zq0 hmb7).trans ((zq32 (by omega)).trans (by rw[memC_2,HW.out.2.2]));have f7:w7.frozen? ⟨T.mb,k*3+2,none⟩=false:=zq6 hmb7;clear hown7 hgrow7 hat7 hlt7 hmb7;go_wp2;obtain⟨o7,q7,a7⟩:=L7.out;rw[<-HT.out.tT]at o7;rw[<-HW.out.2.2]at q7 a7;obtain⟨m',e1,e2⟩:=ep_push HB.out k hk (n,e) HL.out (w1:=wc.alloc (.cells #[.int .i64 n,.int .i64 e] 125)) (zq3 _ _) (λb hb=>by rw[zq5,if_neg (by omega)]) o7 q7 (by rw[zq3];exact a7) (w7.setCell ⟨T.mb,k*3+2,none⟩ (.slice (some ⟨g7,0,none⟩) ((m.l.1.s.th k).length+1) cap7)).tape (w7.setCell ⟨T.mb,k*3+2,none⟩ (.slice (some ⟨g7,0,none⟩) ((m.l.1.s.th k).length+1) cap7)).drawn;refine⟨rfl,HX.out _ _ _ _ e2 ?_ ⟨⟨λj=>if j=20\/j=21\/j=22\/j=30 then .pointer (some ⟨T.mb,k*3,none⟩)else if j=23\/j=31 then .pointer (some ⟨T.mb,k*3+2,none⟩)else if j=24 then hv else if j=25 then .int .i64 n else if j=26 then .int .i64 e else if j=27 then .agg #[.int .i64 n,.int .i64 e]else if j=28 then .slice (some ⟨wc.heap.size,0,none⟩) 1 1 else if j=29 then .slice (some ⟨g7,0,none⟩) ((m.l.1.s.th k).length+1) cap7 else v j,rfl⟩,rfl⟩⟩;show(m'.s,D.st m.l.2)=((pushT k (n,e) m.l.1.s).1,D.st m.l.2);rw[HE.out,e1]
    . rintro _ m' w' ⟨⟨v',rfl⟩,e3⟩ hA;refine hy v' w' ⟨m',e3.trans hmB,?_⟩;have e4:(pushT k (n,e) ((zqi (zqm T) D).st m.l).1).2=true:=congrArg Prod.snd eg;have hA':=hA;simp only at hA';rw[e4]at hA';exact hA'
  . exfalso;have eg:pushT k (n,e) m.l.1.s=(m.l.1.s,false):=by unfold pushT;rw[if_neg hl]
    refine hno s w ⟨m,hmB,?_⟩;have e3:((onE (pushT k (n,e))).bind K) ((zqi (zqm T) D).st m.l)=K (pushT k (n,e) m.l.1.s).2 ((pushT k (n,e) m.l.1.s).1,D.st m.l.2):=rfl;rw[eg]at e3;refine⟨?_,h.2⟩;have h1:=h.1;rw[e3]at h1;exact h1
end
end Go.Proofs
