/- YtkdlklpffdlglaaOAlone10: part 9 of the proof (the texts behind it, in order). -/
import Derived.Test.YtkdlklpffdlglaaR08
set_option maxHeartbeats 4000000
set_option maxRecDepth 100000
set_option linter.all false
namespace Go
theorem zx2 {p : Prop} (h : p := by intro wc hB X hX;have HX:=Lib.hid hX;clear hX;go_wp2;exact HX.out _ (Ext1.refl _)) : p := h
theorem zx4 {p : Prop} (h : p := by intro w;simp[go_sem,execOp,Act.eval,resolve,Deferred.ofValue,invoke,callFunc,Try.func48,Try.f48]) : p := h
theorem zxe {p : Prop} (h : p := by intro s' ch w' h;exact⟨rfl,h⟩) : p := h
theorem zxq {p : Prop} (h : p := by intro w;simp[go_sem,execOp,Act.eval,resolve,Deferred.ofValue,invoke,callFunc,Try.func58,Try.f58]) : p := h
theorem zxr {p : Prop} (h : p := by intro w;simp[go_sem,execOp,Act.eval,resolve,Deferred.ofValue,invoke,callFunc,Try.func25,Try.f25]) : p := h
theorem zx13 {p : Prop} (h : p := by intro w;simp[go_sem,execOp,Act.eval,resolve,Deferred.ofValue,invoke,callFunc,Try.func47,Try.f47]) : p := h
theorem zx14 {p : Prop} (h : p := by intro w;simp[go_sem,execOp,Act.eval,resolve,Deferred.ofValue,invoke,callFunc,Try.func55,Try.f55]) : p := h
theorem zx15 {p : Prop} (h : p := by intro w;simp[go_sem,execOp,Act.eval,resolve,Deferred.ofValue,invoke,callFunc,Try.func56,Try.f56]) : p := h
theorem zx1h {p : Prop} (h : p := by
  intro w;have hf:=HF.out.1;have hb':=HF.out.2.1;have hnm':¬fn.name= "runtime.NumGoroutine" :=by simpa using HF.out.2.2
  simp[go_sem,execOp,Act.eval,resolve,Deferred.ofValue,invoke,callFunc,hf,hb',hnm']) : p := h
theorem zx2k {p : Prop} (h : p := by intro w;simp[go_sem,execOp,Act.eval,resolve,Deferred.ofValue,invoke,callFunc,Try.func57,Try.f57]) : p := h
theorem zx46 {p : Prop} (h : p := by rw[hst.len c hc];exact hj) : p := h
end Go
namespace Go.Proofs
open Go Go.Conc Go.RowKit Go.Car
noncomputable def opsT(n:Nat):Code:=tailN n (Try.f35.body.getD .skip)
theorem ops0:Try.f35.body.getD .skip=.seq (headC (opsT 0)) (.seq (headC (opsT 1)) (.seq (headC (opsT 2)) (opsT 3))):=by kernel_rfl
def ans0:AnsM:=⟨λ_=>.slice none 0 0,λ_ _=>none,λ_=>[]⟩
structure OpsAt(w:World)(RP:Nat->Option Obj)(pp:Option Addr)(n N:Nat)(sp:Nat->Option Addr)(L Cp:Nat->Nat)(ops:Nat->List OpX):Prop where
 eq:N=min n 64
 le:n<=4611686018427387904
 at':0<n->∃tb to',pp=some ⟨tb,to',none⟩/\∀i,i<N->w.cell? ⟨tb,to'+i,none⟩=some (.slice (sp i) (L i) (Cp i))
 row:∀i,i<N->L i<=Cp i/\L i<=4611686018427387904/\(sp i=none->L i=0/\Cp i=0)
 len:∀i,i<N->(ops i).length=min (L i) 65536
 op:∀i,i<N->∀k op,(ops i)[k]?=some op->∃g off cur e fr,sp i=some ⟨g,off,none⟩/\RP g=some (.cells cur e fr)/\∀j,j<4->cur[off+k*4+j]?=op.cells[j]?
open Classical in
noncomputable def roOf(RP:Nat->Option Obj)(H N:Nat)(ob ib:Nat->Nat)(w1:World):Nat->Option Obj:=λb=>if RP b≠none then RP b else if b=H\/b=H+2\/∃i,i<N/\(b=ob i\/b=ib i)then w1.heap[b]? else none
theorem zq6y{RP:Nat->Option Obj}{H N:Nat}{ob ib:Nat->Nat}{w1:World}{b:Nat}{o:Obj}(h:RP b=some o):roOf RP H N ob ib w1 b=some o:=by
 unfold roOf;rw[if_pos (by rw[h];simp),h]
theorem zq5t{RP:Nat->Option Obj}{H N:Nat}{ob ib:Nat->Nat}{w1:World}{b:Nat}(h:RP b=none)(hb:b=H\/b=H+2\/∃i,i<N/\(b=ob i\/b=ib i)):roOf RP H N ob ib w1 b=w1.heap[b]?:=by
 unfold roOf;rw[if_neg (by rw[h];simp),if_pos hb]
theorem zq4s{RP:Nat->Option Obj}{H N:Nat}{ob ib:Nat->Nat}{w1:World}{b:Nat}{o:Obj}(h:roOf RP H N ob ib w1 b=some o):RP b=some o\/((b=H\/b=H+2\/∃i,i<N/\(b=ob i\/b=ib i))/\w1.heap[b]?=some o):=by
 unfold roOf at h;split at h
 . exact .inl h
 . split at h
   . rename_i h2;exact .inr ⟨h2,h⟩
   . cases h
structure OpsRes{M1 S1:Type}(C:Core M1 S1)(N:Nat)(l₀:M1)(w:World)(r:TSt (S1×(Nat->List Ans)))(ab:Nat)(v:Value)(l':M1)(am:AnsM)(w':World):Prop where
 rep:C.Rep l' w'
 st:C.st l'=r.s.1
 ans:zq3s tT ab N am w'
 ast:am.st=r.s.2
 size:w.heap.size<=w'.heap.size
 old:∀b,b<w.heap.size->¬C.foot l₀ b->w'.heap[b]?=w.heap[b]?
 foot:∀b,C.foot l' b->C.foot l₀ b\/w.heap.size<=b
 abl:w.heap.size<=ab
 ansn:∀i b,i<N->am.X i b≠none->C.foot l₀ b\/w.heap.size<=b
 anf:∀b,C.foot l' b->b≠ab/\∀i,i<N->am.X i b=none
 row:w'.ownsRow w.heap.size 3 1 v r.ord.length (r.ord.map λ(i:Nat)=>.int .i64 i)
 rowf:∀x,v.ownBlock=some x->¬C.foot l' x/\x≠ab/\∀i,i<N->am.X i x=none
theorem OpsRes.re {M1 S1:Type}{C:Core M1 S1}{N:Nat}{l₀:M1}{w w':World}{r:TSt (S1×(Nat->List Ans))}{ab:Nat}{v:Value}{l':M1}{am:AnsM}(h:OpsRes C N l₀ w r ab v l' am w')(τ:Nat->Question->Nat)(d:Nat):OpsRes C N l₀ w r ab v l' am (Go.Car.re w' τ d):=
 ⟨C.frame _ _ _ h.rep λ_ _=>rfl,h.st,⟨h.ans.hd,h.ans.row,h.ans.blk,h.ans.nab,h.ans.sep⟩,h.ast,h.size,h.old,h.foot,h.abl,h.ansn,h.anf,h.row,h.rowf⟩
section
variable {M1 S1:Type} {C:Core M1 S1} {RP:Nat->Option Obj} {l₀:M1} {wa w1:World} {N n:Nat} {pp:Option Addr} {sp:Nat->Option Addr} {L Cp:Nat->Nat} {ops:Nat->List OpX} {ob ib:Nat->Nat} {dv fv:Value}
theorem ops_rep(hR:DRes wa N dv sp L Cp N ob ib fv w1)(hb:BRep C RP ⟨l₀,λ_ _=>none⟩ wa):BRep (zqc C (zqr tT (wa.heap.size+1) N)) (roOf RP wa.heap.size N ob ib w1) ⟨(l₀,ans0),λ_ _=>none⟩ w1:=by
 have hcl:∀b,C.foot l₀ b->b<wa.heap.size:=λb h=>C.lt _ _ _ hb.core h;have hrl:∀b o,RP b=some o->b<wa.heap.size:=λb o h=>zq7 (hb.rod b o h);have hnw:∀b o,roOf RP wa.heap.size N ob ib w1 b=some o->RP b=some o\/(wa.heap.size<=b/\b≠wa.heap.size+1/\w1.heap[b]?=some o):=λb o h=>by
  rcases zq4s h with h|⟨h,h2⟩
  . exact .inl h
  . right
    rcases h with h|h|⟨i,hi,h⟩
    . exact⟨by omega,by omega,h2⟩
    . exact⟨by omega,by omega,h2⟩
    . have:=hR.lo i hi;rcases h with h|h<;>exact⟨by omega,by omega,h2⟩
 refine⟨⟨C.frame _ _ _ hb.core λb h=>hR.old b (hcl b h),⟨?_,λi hi=>AnsR.nil _ _,λi b o _ h=>zx3j,λi _=>rfl,λi j b _ _ _ _=>rfl⟩,λb h=>?_⟩,λi b o h=>zx3j,λb o h=>?_,λi b h=>absurd rfl h,λi j b _ h=>absurd rfl h,λb h=>?_,λi b _=>rfl⟩
 . show w1.heap[wa.heap.size+1]?=_;rw[hR.ab];congr 2;apply Array.ext_getElem?;intro i
   by_cases hi:i<N
   . simp[ans0,hi]
   . simp[ans0,hi]
 . rintro(h2|⟨i,hi,h2⟩)
   . have:=hcl b h;omega
   . exact h2 rfl
 . rcases hnw b o h with h|h
   . rw[hR.old b (hrl b o h)];exact hb.rod b o h
   . exact h.2.2
 . cases ho:roOf RP wa.heap.size N ob ib w1 b with
   |none=>exact absurd ho h
   |some o=>
    rintro(h2|h2|⟨i,hi,h2⟩)
    . rcases hnw b o ho with h3|h3
      . exact hb.rol b (by rw[h3];simp) h2
      . have:=hcl b h2;omega
    . rcases hnw b o ho with h3|h3
      . have:=hrl b o h3;omega
      . exact h3.2.1 h2
    . exact h2 rfl
theorem ops_ro{f:FuncId}{first caps:Array Value}(hR:DRes wa N (.func (.func f) first caps) sp L Cp N ob ib fv w1)(hb:BRep C RP ⟨l₀,λ_ _=>none⟩ wa)(hN:N<=64)(hlen:∀i,i<N->(ops i).length=min (L i) 65536)(hop:∀i,i<N->∀k op,(ops i)[k]?=some op->∃g off cur e fr,sp i=some ⟨g,off,none⟩/\RP g=some (.cells cur e fr)/\∀j,j<4->cur[off+k*4+j]?=op.cells[j]?){i:Nat}(hi:i<N):
 DoRo (roOf RP wa.heap.size N ob ib w1) i N (wa.heap.size+1) (ob i) wa.heap.size (ib i) (wa.heap.size+2) (sp i) (min (L i) 65536) (Cp i) (ops i) f first caps:=by
 have hno:∀b,wa.heap.size<=b->RP b=none:=λb hle=>by
  cases h:RP b with
  |none=>rfl
  |some o=>have:=zq7 (hb.rod b o h);omega
 have hlo:=hR.lo i hi;refine⟨?_,?_,?_,?_,hlen i hi,Nat.min_le_right _ _,hi,hN,λk op hk=>?_⟩
 . rw[zq5t (hno _ zyo) (.inr (.inr ⟨i,hi,.inl rfl⟩))];exact hR.obx i hi
 . rw[zq5t (hno _ (Nat.le_refl _)) (.inl rfl)];exact hR.db
 . rw[zq5t (hno _ zyo) (.inr (.inr ⟨i,hi,.inr rfl⟩))];exact hR.ibx i hi
 . rw[zq5t (hno _ zyo) (.inr (.inl rfl))];exact hR.hb
 . obtain⟨g,off,cur,e,fr,h1,h2,h3⟩:=hop i hi k op hk;exact⟨g,off,cur,e,fr,h1,zq6y h2,h3⟩
end
def Beyond(w w':World):Prop:=w.heap.size<=w'.heap.size/\∀b,b<w.heap.size->w'.heap[b]?=w.heap[b]?
theorem Beyond.refl (w:World):Beyond w w:=⟨Nat.le_refl _,λ_ _=>rfl⟩
theorem Beyond.trans {w w' w'':World}(h:Beyond w w')(k:Beyond w' w''):Beyond w w'':=⟨Nat.le_trans h.1 k.1,λb hb=>(k.2 b (Nat.lt_of_lt_of_le hb h.1)).trans (h.2 b hb)⟩
theorem Beyond.alloc (w:World)(o:Obj):Beyond w (w.alloc o):=⟨by rw[zq4];omega,λb hb=>by rw[zq6,if_neg zyo]⟩
theorem Beyond.heap {w w':World}(h:Beyond w w'){b:Nat}{o:Obj}(hb:w.heap[b]?=some o):w'.heap[b]?=some o:=(h.2 b (zq7 hb)).trans hb
theorem Beyond.cell {w w':World}(h:Beyond w w'){a:Addr}{v:Value}(hb:w.cell? a=some v):w'.cell? a=some v:=(zqy (h.2 a.block (cell_lt hb))).trans hb
theorem Beyond.re (w:World)(τ:Nat->Question->Nat)(d:Nat):Beyond w (Go.Car.re w τ d):=⟨Nat.le_refl _,λ_ _=>rfl⟩
def IntsAt(w:World)(v:Value)(l:List Int):Prop:=∃p C,v=.slice p l.length C/\(l≠[]->∃b o,p=some ⟨b,o,none⟩/\∀i,i<l.length->w.cell? ⟨b,o+i,none⟩=some (.int .i64 (l.getD i 0)))
theorem IntsAt.beyond {w w':World}{v:Value}{l:List Int}(h:IntsAt w v l)(hb:Beyond w w'):IntsAt w' v l:=by
 obtain⟨p,C,e,h⟩:=h;refine⟨p,C,e,λhl=>?_⟩;obtain⟨b,o,e2,h2⟩:=h hl;exact⟨b,o,e2,λi hi=>hb.cell (h2 i hi)⟩
def AnsAt(w:World)(v:Value)(l:List Ans):Prop:=∃p C,v=.slice p l.length C/\(l≠[]->∃b o,p=some ⟨b,o,none⟩/\∀i a,l[i]?=some a->w.cell? ⟨b,o+i*3,none⟩=some (.bool a.ok)/\w.cell? ⟨b,o+i*3+1,none⟩=some (.int .i64 a.n)/\∃lv,w.cell? ⟨b,o+i*3+2,none⟩=some lv/\IntsAt w lv a.l)
theorem AnsAt.beyond {w w':World}{v:Value}{l:List Ans}(h:AnsAt w v l)(hb:Beyond w w'):AnsAt w' v l:=by
 obtain⟨p,C,e,h⟩:=h;refine⟨p,C,e,λhl=>?_⟩;obtain⟨b,o,e2,h2⟩:=h hl;refine⟨b,o,e2,λi a hi=>?_⟩;obtain⟨h3,h4,lv,h5,h6⟩:=h2 i a hi;exact⟨hb.cell h3,hb.cell h4,lv,hb.cell h5,h6.beyond hb⟩
def zq66(w:World)(v:Value)(N:Nat)(tolds:Nat->List Ans)(ord st:List Int)(stuck:Bool):Prop:=∃p C ov sv,v=.agg #[.slice p N C,ov,sv,.bool stuck]/\IntsAt w ov ord/\IntsAt w sv st/\
 (0<N->∃b o,p=some ⟨b,o,none⟩/\∀i,i<N->∃vi,w.cell? ⟨b,o+i,none⟩=some vi/\AnsAt w vi (tolds i))
end Go.Proofs
namespace Go.Car
open Go Go.Conc Go.RowKit
section
variable {P:Program}
def FinOf(P:Program)(Post:Value->World->Prop)(m:Machine)(T:Trace):Prop:=
 ∃N last o w' t',runNT P (N+1) m T=(.ended o w',t')/\runN P N m=.next last/\step P last=.ended o w'/\Conc.Good P (λv w=>Post v w/\w.os=m.world.os/\w.output=m.world.output) last o w' t'
theorem zq6b(Post:Value->World->Prop):Back P (FinOf P Post):=by
 intro N m T m' T' hrun e1 e2 ⟨M,last,o,w',t',h1,h2,h3,h4⟩;rw[e1,e2]at h4;have hn:runN P N m=.next m':=by rw[<-runNT_fst P _ _ T,hrun]
 refine⟨N+M,last,o,w',t',?_,?_,h3,h4⟩
 . rw[Nat.add_assoc,runNT_add,hrun];exact h1
 . rw[runN_add,hn];exact h2
theorem j0_end{Post:Value->World->Prop}(hPost:∀v w τ d,Post v w->Post v (re w τ d)){n:Nat}{b:Frame}(hb:b.kind=.normal)(hini:P.inits.idxOf? b.fn=none){fn:Func}(hf:P.funcs[b.fn]?=some fn){t:Array Value}{todo:List Item}{w:World}{v:Value}
 (hr:(results fn t).run P w=.ok v w) (hp:Post v w):J0 P (FinOf P Post) n (G {b.at ⟨t,[]⟩ todo with mode:=.returning} []) w:=by
 intro τ d Mem B gs sl T q hM hsz hg hR;obtain⟨hL,hP⟩:=ring_end hR hM (λ_ _=>rfl);obtain⟨es,hes⟩:∃es,((results fn t).runT P w #[]).2=es:=⟨_,rfl⟩;have hT:∀τ d,(results fn t).runT P (re w τ d) #[]=(.ok v (re w τ d),es):=λτ d=>by
  obtain⟨_,_,h3⟩:=zq35 _ (zq2v _ (zq1q (P:=P) fn t)) w #[];have h4:((results fn t).runT P w #[]).1=.ok v w:=by rw[Sem.runT_eq];exact hr
  have:=h3 τ d (λj hj=>by rw[h4]at hj;simp only[resW]at hj;omega);rw[h4,hes]at this;simp only[resRe,resW,Nat.sub_self,Nat.add_zero]at this;exact this
 have hcalm:∀e∈es,calmEv true e:=λe he=>by
  rw[<-hes]at he;have:=(zq2h _ (zq1q (P:=P) fn t) w #[] e he).resolve_left zx2n;exact⟨this.1,λh=>by cases h⟩
 obtain⟨B2,hB2⟩:=zq5f es;have hP2:Past (λ_=>False) (max B B2) T:=hP.mono (Nat.le_max_left _ _);refine beside_ends (Shun:=λ_=>False) (B:=max B B2) (D:=λ_ _ _=>False) (n:=0) (λ_ _ _ h=>h.elim) hg hL hP2 ?_;rintro w₁ ⟨d₁,rfl⟩;have hw:∃τ' d',(((re w τ 0).at d).at d₁)=re w τ' d':=⟨τ,d₁,rfl⟩;obtain⟨τ',d',hw⟩:=hw;rw[hw];refine⟨rfl,v,seen P b.fn es,?_,λe he=>?_,hPost _ _ _ _ hp,rfl,rfl⟩
 . simp only[G,stepG,unwind,Frame.at,hf,hT τ' d',GStep.after,doReturn];simp[GStep.after,hb,hini]
 . have he':=mem_seen he;obtain⟨k1,k2⟩:=zq54 (hcalm e he');exact⟨λx _ h=>h.elim,k1,k2,MemAct.low_mono (Nat.le_max_right _ _) (hB2 e he')⟩
theorem j0_run{Post:Value->World->Prop}{f:FuncId}{fn:Func}{c:Code}{args:Array Value}{W:World}(hf:P.funcs[f]?=some fn)(hb:fn.body=some c)
 (h:J0 P (FinOf P Post) 1 (G (Frame.enter P f args .normal) []) W):FinOf P Post (solo (G (Frame.enter P f args .normal) []) W) #[]:=by
 have hL:Leavers P (#[]:Trace) #[G (Frame.enter P f args .normal) []] (λ_=>0):=⟨λi g hi hg=>by
  rcases i with _|i
  . omega
  . simp at hg,λj _=>rfl⟩
 have hP:Past (λ_=>False) 0 (#[]:Trace):=past_nil;have hR:=ring_begin (P:=P) (K:=KK (λ_=>none)) (Still:=zq2o (λ_=>none)) (w:=W.at W.drawn) (B:=0) (λl⟨a,v,_,hv⟩=>by cases hv) hL hP (zq7o _);have:=h W.tape W.drawn (λg=>g=0) 0 #[G (Frame.enter P f args .normal) []] none #[] (λ_=>0) rfl rfl rfl hR;rw[solo_eq_crowd];exact this
end
end Go.Car
namespace Go.Car
open Go Go.Conc Go.RowKit
section
variable {P:Program} {A:FuncId->Bool}
end
end Go.Car
namespace Go.Proofs
open Go Go.Conc Go.RowKit Go.Car Go.ChangeShapes Go.WideShapes Go.Deep
theorem add_at{a:Addr}(h:a.spot=none)(i:Nat):a.add i=⟨a.block,a.off+i,none⟩:=by
 obtain⟨b,o,s⟩:=a;simp only at h;subst h;unfold Addr.add;split
 . rename_i e;rw[e];rfl
 . rfl
theorem zqh3{w:World}{a:Addr}{v:Value}(h:w.cell? a=some v):a.spot=none:=by
 unfold World.cell? at h;split at h
 . split at h
   . cases h
   . rename_i hh;simpa using hh
 . cases h
theorem spot_add{w:World}{a:Addr}{v:Value}(h:w.cell? (a.add 0)=some v):a.spot=none:=zqh3 (a:=a) (by simpa[Addr.add]using h)
def lenD{H:Type}:DataW H->Nat
 |.slice e _=>e.length
 |_=>0
def ThrIn(w:World)(pp:Option Addr)(n:Nat)(tops:Nat->List OpX):Prop:=
 0<n->∃pb po,pp=some ⟨pb,po,none⟩/\∀i,i<n->∃q C,w.cell? ⟨pb,po+i,none⟩=some (.slice q (tops i).length C)/\((tops i).length<=C/\(q=none->C=0))/\
  ((tops i)≠[]->∃gb go,q=some ⟨gb,go,none⟩/\∀(k:Nat)(c:OpX),(tops i)[k]?=some c->∀j,j<4->w.cell? ⟨gb,go+k*4+j,none⟩=c.cells[j]?)
section
variable {H:Type} {enc:TypeId×Value->H} {P:Program} {w:World} {held:Bool} {sp:Nat->Bool}
theorem op_open{t:TypeId}{fs:Array Field}(ht:P.underlying t=some (.struct fs))(hfs:∀j,j<4->∃f,fs[j]?=some f/\f.offset=j/\P.cellsOf f.type=1/\P.underlying f.type=some (.int .i64))(hsz:fs.size=4)
 {cs:List Value} {x:DataW H×List MemPlace} {fuel:Nat} (h:DataW.trod enc P w 0 sp held fuel t cs=some x):∃c:OpX,∀j,j<4->cs[j]?=c.cells[j]?:=by
 obtain⟨xs,n,_,_,_,hxl,hx⟩:=DataW.trod_struct ht h;have each:∀j,j<4->∃z:Int,cs[j]?=some (.int .i64 z):=λj hj=>by
  obtain⟨f,h1,h2,h3,h4⟩:=hfs j hj;have h5:=hx j f h1;rw[h2,h3]at h5;obtain⟨y,hy⟩:∃y,xs[j]?=some y:=⟨_,List.getElem?_eq_getElem zyo⟩;rw[hy]at h5;obtain⟨z,h6,_⟩:=DataW.trod_int h4 h5;refine⟨z,?_⟩;have:((cs.drop j).take 1)[0]?=some (.int .i64 z):=by rw[h6];rfl
  rw[List.getElem?_take,if_pos zyo,List.getElem?_drop,Nat.add_zero]at this;exact this
 obtain⟨z0,h0⟩:=each 0 zyo;obtain⟨z1,h1⟩:=each 1 zyo;obtain⟨z2,h2⟩:=each 2 zyo;obtain⟨z3,h3⟩:=each 3 zyo;refine⟨⟨z0,z1,z2,z3⟩,λj hj=>?_⟩;obtain rfl |rfl |rfl |rfl:j=0\/j=1\/j=2\/j=3:=by omega
 . exact h0
 . exact h1
 . exact h2
 . exact h3
theorem opl_open{t e:TypeId}{fs:Array Field}(ht:P.underlying t=some (.slice e))(he:P.underlying e=some (.struct fs))(hc:P.cellsOf e=4)(hfs:∀j,j<4->∃f,fs[j]?=some f/\f.offset=j/\P.cellsOf f.type=1/\P.underlying f.type=some (.int .i64))(hsz:fs.size=4)
 {cs:List Value} {d:DataW H} {ps:List MemPlace} {fuel:Nat} (h:DataW.trod enc P w 0 sp held fuel t cs=some (d,ps)):
 ∃(q:Option Addr)(l:List OpX)(C:Nat),cs=[.slice q l.length C]/\lenD d=l.length/\(l.length<=C/\(q=none->C=0))/\(l≠[]->∃gb go,q=some ⟨gb,go,none⟩/\∀(k:Nat)(c:OpX),l[k]?=some c->∀j,j<4->w.cell? ⟨gb,go+k*4+j,none⟩=c.cells[j]?):=by
 rcases open_slice ht h with⟨hcs,hx⟩|⟨a,len,cap,m,n,D,Pl,hcs,_,hl,_,hm,hx,hcell⟩
 . cases hx;exact⟨none,[],0,hcs,rfl,⟨Nat.le_refl _,λ_=>rfl⟩,λh=>absurd rfl h⟩
 . have hlm:len<=m:=by rw[hm];split<;>omega
   have each:∀i,i<len->∃c:OpX,∀j,j<4->w.cell? ((a.add (i*4)).add j)=c.cells[j]?:=λi hi=>by
    obtain⟨cs',h1,h2⟩:=hcell i zyo;rw[hc]at h1;obtain⟨c,h3⟩:=op_open he hfs hsz h2;exact⟨c,λj hj=>((World.cells?_some h1).2.2 j hj).trans (h3 j hj)⟩
   obtain⟨c,hcc⟩:∃c:Nat->OpX,∀i,i<len->∀j,j<4->w.cell? ((a.add (i*4)).add j)=(c i).cells[j]?:=by
    classical
    refine⟨λi=>if h:i<len then(each i h).choose else⟨0,0,0,0⟩,λi hi=>?_⟩;simp only[hi,dif_pos];exact(each i hi).choose_spec
   cases hx;refine⟨some a,(List.range len).map c,cap,by simpa using hcs,by simp[lenD],⟨by simpa using hl,λe=>by cases e⟩,λhne=>?_⟩;have h0:0<len:=by have:=List.length_pos_iff.2 hne;simpa using this
   have hs:a.spot=none:=by
    have:=hcc 0 h0 0 zyo;rw[Nat.zero_mul]at this;exact spot_add (a:=a) (v:=.int .i64 (c 0).k) (by simpa[Addr.add,OpX.cells]using this)
   refine⟨a.block,a.off,by obtain⟨b,o,s⟩:=a;simp only at hs;rw[hs],λk cc hk j hj=>?_⟩;have hkl:k<len:=by have:=(List.getElem?_eq_some_iff.1 hk).1;simpa using this
   have:=hcc k hkl j hj;rw[add_at hs,add_at rfl]at this;rw[this];rw[List.getElem?_map,List.getElem?_range hkl]at hk;cases hk;rfl
end
end Go.Proofs
namespace Go.Car
open Go Go.Conc
theorem zqeu{H:Type}{enc:TypeId×Value->H}{a:Assume}{C:Checked}{os:Os}{f:FuncId}{fn:Func}{s:OpenSpec}{k:(H:Type)->List (DataW H)->Bool}(hk:s.cond=some k){F:Stop.Interp}{conds:List PathCond}{apart fresh handsOn again:Bool}
 (own:ownKnob C.prog.godebug=none) (started:os.Started) (hfn:C.prog.funcs[f]?=some fn)
 (witness:∃(w:World)(tape:Tape)(i:Input),w.os=os/\(w.forCall tape i).Shaped C.prog/\i.vars=[]/\Input.okWide C.prog (w.forCall tape i) .any w.heap.size f i/\
  s.pre6 enc C.prog fn conds apart (w.forCall tape i).memory i.args/\a.holds C.prog (lone (Frame.enter C.prog f i.args .normal) [] (w.forCall tape i)))
 (runs:∀(W:World)(base:Nat)(args:Array Value)(ds gs:List (DataW H))(before:List MemPlace),
  (∀(j:Nat)t v,fn.params[j]?=some t->args[j]?=some v->Value.okWide C.prog W .any base t v)->
  DataW.Whole enc C.prog fn.params.toList s.vars apart W args.toList ds gs before->k H (ds++gs)=true->
  ∃M last o w' t',runNT C.prog (M+1) (solo (G (Frame.enter C.prog f args .normal) []) W) #[]=(.ended o w',t')/\runN C.prog M (solo (G (Frame.enter C.prog f args .normal) []) W)=.next last/\
   step C.prog last=.ended o w'/\Conc.Good C.prog (λv W'=>(s.at F).post enc C.prog fn apart fresh handsOn again W args v W') last o w' t'):
 ReturnsInLeavingWide a C os f .any (s.pre6 enc C.prog fn conds apart) ((s.at F).post enc C.prog fn apart fresh handsOn again):=by
 refine returnsInLeavingWide_of_good own started witness ?_;intro w tape i _ _ _ hok hpre _;obtain⟨_,_,_,fn',hfn',_,_,_,_,hval⟩:=hok;obtain rfl:fn'=fn:=Option.some.inj (hfn'.symm.trans hfn);obtain⟨ds,gs,before,hw,_,hkk⟩:=(OpenSpec.pre_some hk conds apart _ _).1 hpre.1;obtain⟨M,last,o,w',t',h1,h2,h3,h4⟩:=runs (w.forCall tape i) w.heap.size i.args ds gs before hval (DataW.Whole.of_heap (w':=w.forCall tape i) zx2p hw) hkk;exact⟨M,last,o,w',t',h1,h2,h3,h4.mono λv hp=>ChangeSpec.post_blind hp⟩
theorem zqef{p:Pinned}{s:OpenSpec}{c:OpenClaim}(f:FuncId)(fn:Func)
 (hn:c.program=p.name) (hs:c.sum=p.sum) (hsp:c.spec=s.name)
 (hstart:c.start=.entering) (hout:c.outside=[]) (hin:c.inits=[]) (hun:c.under=none) (hi4:c.initsInPlace=[]/\c.initsUnfollowed=false/\c.initsRecurse=false/\c.initsNamed=[]/\c.initsPassed=[]) (hnb:c.noBlocks=false) (hlv:c.leaving=true) (hfo:c.followed=none) (hnar:c.narrowed=s.cond.isSome) (hstill:c.still=false)
 (hfn:p.checked.prog.funcNamed c.func=some f) (hf:p.checked.prog.funcs[f]?=some fn)
 (closed:joinedFacts p.checked.prog f fn s.bare c=true)
 (hinst:fn.isInstance p.checked.prog c.origin c.targs) (hwrap:fn.isWrapper p.checked.prog c.wrapper c.mainSum)
 (h:∀os:Os,os.Started->∀(H:Type)(enc:TypeId×Value->H),(∀a b,enc a=enc b->a=b)->∀F:Stop.Interp,
  ReturnsInLeavingWide c.assume p.checked os f .any (c.pre enc p.checked.prog fn s) ((s.at F).post enc p.checked.prog fn c.apart c.fresh c.handsOn c.again)):c.holds p s:=by
 simp only[joinedFacts,Bool.and_eq_true,beq_iff_eq,Array.all_eq_true_iff_forall_mem,List.all_eq_true,decide_eq_true_eq]at closed;obtain⟨⟨⟨⟨⟨⟨⟨⟨⟨⟨⟨⟨⟨⟨⟨⟨⟨⟨⟨⟨⟨⟨⟨⟨⟨⟨⟨⟨⟨⟨⟨a1,a2⟩,a3⟩,a4⟩,a5⟩,a6⟩,a7⟩,a8⟩,a9⟩,a10⟩,a11⟩,a12⟩,a13⟩,a14⟩,a15⟩,a16⟩,a17⟩,b17⟩,a18⟩,a19⟩,a20⟩,a21⟩,a22⟩,a23⟩,b23⟩,a24⟩,b24⟩,c24⟩,a25⟩,a26⟩,a27⟩,a28⟩:=closed;have quiet:∀os:Os,Stop.quiet p.checked.prog os:=λos k hk=>by rw[a9]at hk;cases hk
 have fits:c.startFits p.checked.prog:=by unfold OpenClaim.startFits;rw[hstart];exact a24
 have told:c.startTold p.checked.prog:=by unfold OpenClaim.startTold;rw[hstart];exact⟨hin,hun,hi4⟩
 have named:namedTie p.checked.prog c.namedList s.vars=true:=by unfold OpenClaim.namedList;rw[hfo];exact a5
 have worded:p.checked.prog.envWorded=true:=by unfold Program.envWorded;rw[a9];rfl
 have world0:∃os:Os,c.world os/\Stop.quiet p.checked.prog os:=⟨_,by unfold OpenClaim.world;rw[hout,hstart];exact WideRow.started_initial,quiet _⟩;have lists0:c.lists p.checked.prog []:=by unfold OpenClaim.lists;rw[hfo]
 refine⟨a1,hn,hs,hsp,a2,a3,fits,told,f,fn,hfn,hf,⟨a4,a19⟩,(λhb=>by rw[hnb]at hb;cases hb),named,hinst,hwrap,
  a6.trans a7.symm,⟨a8.trans a9.symm,worded,b23⟩,a10,a11,a12,a13,a14,⟨a15,a27,a28⟩,⟨a16,a20⟩,⟨a17,a21,a25,a26⟩,⟨a22,b24,c24,b17⟩,(by rw[hout,hnar];cases hsh:c.shortTexts with|none=>simp |some _=>rw[hsh]at a23;cases a23),λn hn'=>varReadable_some (a18 n hn'),
  world0,[],lists0,λos st _ H enc inj=>?_⟩
 have st':os.Started:=by unfold OpenClaim.world at st;rw[hout,hstart]at st;exact st
 rw[OpenClaim.post_not_still hstill];unfold OpenClaim.form;rw[hstart,a6];intro F;have e1:c.okInput=Input.okWide:=by unfold OpenClaim.okInput;rw[hnb]
 have e2:c.atReturn p.checked.prog=leavingAtReturn p.checked.prog:=by unfold OpenClaim.atReturn;rw[hlv]
 have e3:c.always p.checked.prog []=nothingAlways:=by unfold OpenClaim.always;rw[hfo]
 have e4:s.post enc p.checked.prog fn F c.outside c.apart c.fresh c.handsOn c.again=(s.at F).post enc p.checked.prog fn c.apart c.fresh c.handsOn c.again:=by rw[hout];rfl
 rw[e1,e2,e3];show ReturnsInOpen _ _ _ _ _ _ _ _ (s.post enc p.checked.prog fn F c.outside c.apart c.fresh c.handsOn c.again) _ _;rw[e4];exact h os st' H enc inj F a24
end Go.Car
namespace Go.Proofs.Ytkdlklpffdlglaa
open Go Go.Conc Go.RowKit Go.Car Go.ChangeShapes Go.WideShapes Go.ChangeAt
theorem bulk_one{H:Type}(d:DataW H):1<=Rows.uptoBulk d:=by
 cases d with
 |lit l=>cases l<;>simp[Rows.uptoBulk]
 |nil=>simp[Rows.uptoBulk]
 |ptr d=>simp[Rows.uptoBulk]
 |slice elems spare=>simp[Rows.uptoBulk]
 |agg parts=>simp[Rows.uptoBulk]
 |iface t d=>simp[Rows.uptoBulk]
 |map entries=>simp[Rows.uptoBulk]
 |held h=>simp[Rows.uptoBulk]
theorem bulk_mem{H:Type}{d:DataW H}{l:List (DataW H)}(h:d∈l):Rows.uptoBulk d<=Rows.uptoBulkAll l:=by
 induction l with
 |nil=>cases h
 |cons x r ih=>
  simp only[Rows.uptoBulkAll];rcases List.mem_cons.1 h with e|e
  . subst e;omega
  . have:=ih e;omega
theorem zqd6{H:Type}(l:List (DataW H)):l.length<=Rows.uptoBulkAll l:=by
 induction l with
 |nil=>simp[Rows.uptoBulkAll]
 |cons x r ih=>have:=bulk_one x;simp only[Rows.uptoBulkAll,List.length_cons];omega
theorem zqd5{H:Type}(d:DataW H):lenD d<=Rows.uptoBulk d:=by
 cases d with
 |slice e s=>have:=zqd6 e;simp only[lenD,Rows.uptoBulk];omega
 |_=>exact Nat.zero_le _
theorem zqd7{H:Type}{l:List (DataW H)}(hk:Rows.uptoSmall H l=true){d:DataW H}(h:d∈l):Rows.uptoBulk d<=1048576:=by
 have h1:=of_decide_eq_true hk;have h2:=bulk_mem h;omega
theorem own_knob:ownKnob Try.prog.godebug=none:=by kernel_rfl
theorem laid_out:laidOutB Try.prog=true:=by kernel_rfl
theorem zqge{H:Type}{enc:TypeId×Value->H}{t:TypeId}(hr:Try.prog.readableRec t=true)(hrow:t<Try.prog.types.size){W w':World}{v:Value}{d:DataW H}{ps:List MemPlace}
 (h:DataW.Trod enc Try.prog W 0 (λ_=>true) true t v d ps) (hb:Beyond W w') (hlt:∀x∈ps,x.block<W.heap.size):DataW.Trod enc Try.prog w' 0 (λb=>decide (b<W.heap.size)) true t v d ps:=
 DataW.Trod.of_heap (w:={w' with os:=W.os,tape:=W.tape,output:=W.output}) zx2p (Below.trod laid_out hr hrow h ⟨rfl,rfl,rfl,hb.1,hb.2⟩ hlt)
theorem zqeo{W w':World}(hb:Beyond W w')(ho:w'.os=W.os)(hu:w'.output=W.output)(may:MemPlace->Prop):W.keptBut w' may:=by
 have h:=Below.frame (W:=W) (w':={w' with os:=W.os,tape:=W.tape,output:=W.output}) ⟨rfl,rfl,rfl,hb.1,hb.2⟩ may;exact⟨ho,hu,h.2.2⟩
theorem zqfj:∃fs,Try.prog.underlying 34=some (.struct fs)/\fs.size=4/\∀j,j<4->∃f,fs[j]?=some f/\f.offset=j/\Try.prog.cellsOf f.type=1/\Try.prog.underlying f.type=some (.int .i64):=by
 refine⟨_,Try.underlying34,rfl,λj hj=>?_⟩;obtain rfl |rfl |rfl |rfl:j=0\/j=1\/j=2\/j=3:=by omega
 all_goals exact⟨_,rfl,rfl,by kernel_rfl,by kernel_rfl⟩
theorem opl_arg{H:Type}{enc:TypeId×Value->H}{W:World}{base:Nat}{v:Value}{d:DataW H}{p:List MemPlace}(hok:Value.okWide Try.prog W .any base 32 v)
 (h:DataW.Trod enc Try.prog W 0 (λ_=>true) true 32 v d p) (hb:Rows.uptoBulk d<=1048576):∃a C,∃l:List OpX,v=.slice a l.length C/\(l≠[]->∃gb go,a=some ⟨gb,go,none⟩/\∀(k:Nat)(c:OpX),l[k]?=some c->∀j,j<4->W.cell? ⟨gb,go+k*4+j,none⟩=c.cells[j]?)/\l.length<=1048576:=by
 obtain⟨a,len,cap,rfl⟩:=okWide_slice (e:=34) zyk hok;obtain⟨fuel,hf⟩:=h;obtain⟨fs,k1,k2,k3⟩:=zqfj;obtain⟨q,l,C,h1,h2,_,h3⟩:=opl_open (e:=34) zyk k1 zyk k3 k2 hf;have:=zqd5 d;simp only[Value.cells,List.cons.injEq,Value.slice.injEq,and_true]at h1;have h1':(Value.slice a len cap).cells.toList=[Value.slice q l.length C]:=by simpa[Value.cells]using h1
 obtain⟨rfl,rfl,rfl⟩:a=q/\len=l.length/\cap=C:=by simpa[Value.cells]using h1'
 exact⟨a,cap,l,rfl,h3,by omega⟩
end Go.Proofs.Ytkdlklpffdlglaa
namespace Go.Proofs
open Go Go.Conc Go.RowKit Go.Car
def aL:List FuncId:=[13,15,36,34,81,83,65,51,47,55,57,58,10,16,33,37,38,68,40,41,42,39,43,44,69,70,66,67,85,12,17,18,19,31,32]
def aR:List FuncId:=[71,77,76,75]
def aM(f:FuncId):Bool:=aL.contains f || aR.contains f
theorem plain_rows:Plain Try.prog aM/\RowsS Try.prog aM:=by
 refine zq9o zyk (λf hf=>?_) zyk zyk;simp only[aR,List.mem_cons,List.not_mem_nil,or_false]at hf;rcases hf with rfl |rfl |rfl |rfl
 . exact⟨_,Extern.Atomic.loadT (.int .i64),Try.func71,rfl,by kernel_rfl,by kernel_rfl,by kernel_rfl,λ_=>zqlb _ _,λ_=>zqio _ _⟩
 . exact⟨_,Extern.Atomic.storeT,Try.func77,rfl,by kernel_rfl,by kernel_rfl,by kernel_rfl,λ_=>zqm1 _,λ_=>zqjk _⟩
 . exact⟨_,Extern.Atomic.update (Op.intArith .add) .i64 true,Try.func76,rfl,by kernel_rfl,by kernel_rfl,by kernel_rfl,λ_=>zqm9 _ _ _,λ_=>zqju _ _ _⟩
 . exact⟨_,Extern.Atomic.casT (.int .i64),Try.func75,rfl,by kernel_rfl,by kernel_rfl,by kernel_rfl,λ_=>zqkl _ _,λ_=>zqhq _ _⟩
theorem zqp:Plain Try.prog aM:=plain_rows.1
theorem rowsM:RowsS Try.prog aM:=plain_rows.2
end Go.Proofs
namespace Go.Car
open Go Go.Conc Go.RowKit
structure NumT where
 N:Nat
 ob:Nat->Nat
 len:Nat->Nat
 ty:Nat->TypeId
abbrev Nums:=Nat->Nat->Int
def upd2(g:Nums)(c j:Nat)(x:Int):Nums:=upd' g c (upd' (g c) j x)
theorem upd2_at(g:Nums)(c j:Nat)(x:Int)(d k:Nat):upd2 g c j x d k=if d=c/\k=j then x else g d k:=by
 unfold upd2
 by_cases h:d=c
 . subst h;rw[upd'_same]
   by_cases h2:k=j
   . subst h2;rw[upd'_same,if_pos ⟨rfl,rfl⟩]
   . rw[zqd _ _ h2,if_neg (λe=>h2 e.2)]
 . rw[zqd _ _ h,if_neg (λe=>h e.1)]
def rowA(n:Nat)(f:Nat->Int):Array Value:=((List.range n).map λj=>Value.int .i64 (f j)).toArray
theorem zq6z{n j:Nat}{f:Nat->Int}(h:j<n):(rowA n f)[j]?=some (.int .i64 (f j)):=by
 unfold rowA;rw[al_gl,List.getElem?_map,List.getElem?_range h];rfl
theorem rowA_set{n j:Nat}{f:Nat->Int}(x:Int):(rowA n f).setIfInBounds j (.int .i64 x)=rowA n (upd' f j x):=by
 apply Array.ext_getElem?;intro k;rw[al_gs]
 by_cases hk:k<n
 . rw[zq6z hk,zq6z hk]
   by_cases e:j=k
   . subst e;rw[if_pos rfl,if_pos (by unfold rowA;simpa using hk),upd'_same]
   . rw[if_neg e,zqd _ _ (λx=>e x.symm)]
 . have e1:∀f:Nat->Int,(rowA n f)[k]?=none:=λf=>by unfold rowA;simp[hk]
   rw[e1,e1]
   by_cases e:j=k
   . subst e;rw[if_pos rfl,if_neg (by unfold rowA;simpa using hk)]
   . rw[if_neg e]
structure NumRep(T:NumT)(g:Nums)(w:World):Prop where
 blk:∀c,c<T.N->w.heap[T.ob c]?=some (.cells (rowA (T.len c) (g c)) (T.ty c))
 inj:∀c d,c<T.N->d<T.N->T.ob c=T.ob d->c=d
def zqg(T:NumT):Core Nums Nums where
 foot _ b:=∃c,c<T.N/\b=T.ob c
 Rep:=NumRep T
 st g:=g
 frame g w w' h hs:=⟨λc hc=>(hs _ ⟨c,hc,rfl⟩).trans (h.blk c hc),h.inj⟩
 lt g w b h hb:=by
  obtain⟨c,hc,rfl⟩:=hb;exact zq7 (h.blk c hc)
 pin _:=0
def onN{S2 α:Type}(f:Nums->Nums×α):Proc (Nums×S2) α:=Proc.act λs=>(((f s.1).1,s.2),(f s.1).2)
section
variable {T:NumT} {g:Nums} {w:World} {c j:Nat}
theorem NumRep.re (h:NumRep T g w)(τ:Nat->Question->Nat)(d:Nat):NumRep T g (Car.re w τ d):=⟨h.blk,h.inj⟩
theorem NumRep.cell (h:NumRep T g w)(hc:c<T.N)(hj:j<T.len c):w.cell? ⟨T.ob c,j,none⟩=some (.int .i64 (g c j)):=
 (zq0 (h.blk c hc)).trans (zq6z hj)
theorem NumRep.frozen (h:NumRep T g w)(hc:c<T.N):w.frozen? ⟨T.ob c,j,none⟩=false:=zq3 (h.blk c hc)
theorem NumRep.set (h:NumRep T g w)(hc:c<T.N)(x:Int):NumRep T (upd2 g c j x) (w.setCell ⟨T.ob c,j,none⟩ (.int .i64 x)):=by
 refine⟨λd hd=>?_,h.inj⟩
 by_cases e:d=c
 . subst e;refine(zqa _ _ _ _ (h.blk d hd)).trans ?_;rw[rowA_set];unfold upd2;rw[upd'_same]
 . rw[zq8 _ _ _ _ (λx=>e (h.inj d c hd hc x))];unfold upd2;rw[zqd _ _ e];exact h.blk d hd
end
section
variable {M2 S2:Type} {D:Core M2 S2} {ro:Nat->Option Obj} {i:Nat} {T:NumT} {m:BM (Nums×M2)} {wc:World}
theorem zq1n(hB:BRep (zqc (zqg T) D) ro m wc)(τ:Nat->Question->Nat)(d:Nat):NumRep T m.l.1 (re wc τ d):=NumRep.re hB.core.1 τ d
theorem zq6s(hB:BRep (zqc (zqg T) D) ro m wc){c j:Nat}(hc:c<T.N)(x:Int)(τ:Nat->Question->Nat)(d:Nat)(τ':Nat->Question->Nat)(d':Nat):Moved (zqc (zqg T) D) m.l (m.box i) wc (upd2 m.l.1 c j x,m.l.2) (m.box i) (re ((re wc τ d).setCell ⟨T.ob c,j,none⟩ (.int .i64 x)) τ' d'):=by
 have hS:=zq1n hB τ d;have hf:(zqg T).foot m.l.1 (T.ob c):=⟨c,hc,rfl⟩;refine Moved.left hB ⟨?_,λb hb h1 h2=>?_,(hS.set hc x).re τ' d',λb o hb=>?_,λb hb=>.inl hb,λb hb=>.inl hb,λb hb=>?_,rfl⟩
 . show wc.heap.size<=((re wc τ d).setCell _ _).heap.size;rw[zqf];exact Nat.le_refl _
 . show((re wc τ d).setCell _ _).heap[b]?=_;rw[zq8 _ _ _ _ (λe=>h1 (by subst e;exact hf))];rfl
 . show((re wc τ d).setCell _ _).heap[b]?=_;have hn:m.box i b≠none:=by rw[hb];simp
   rw[zq8 _ _ _ _ (λe=>hB.apart i b hn (.inl (by subst e;exact hf)))];exact hB.box i b o hb
 . exact Classical.byContradiction λx=>hB.apart i b x (.inl hb)
end
def mach(g:Goroutine)(w:World):Machine:={world:=w,gs:=#[g],rest:={timers:=#[],alone:=none,slice:=none}}
section
variable {P:Program}
end
section
variable {P:Program} {A:FuncId->Bool} {Ml S α:Type} {C:Core Ml S} {ro:Nat->Option Obj} {i:Nat}
structure LoneAt(C:Core Ml S)(ro:Nat->Option Obj)(i cf:Nat)(m₀:BM Ml)(w₀:World)(T:S×Option α×Nat)(m:BM Ml)(w:World)(r:S×Tree S α):Prop where
 rep:BRep C ro m w
 size:w₀.heap.size<=w.heap.size
 old:∀b,b<w₀.heap.size->¬BM.foot C ro m₀ b->w.heap[b]?=w₀.heap[b]?
 grow:∀b,BM.foot C ro m b->BM.foot C ro m₀ b\/w₀.heap.size<=b
 run:∃n,r.2.run r.1=(T.1,T.2.1,n)/\(∃a,T.2.1=some a)/\C.pin m.l+cf*n=C.pin m₀.l+cf*T.2.2
 others:∀j,j≠i->m.box j=m₀.box j
theorem LoneAt.done {cf:Nat}{m₀:BM Ml}{w₀:World}{T:S×Option α×Nat}{m:BM Ml}{w w':World}{r:S×Tree S α}{l':Ml}{B':Nat->Option Obj}(h:LoneAt C ro i cf m₀ w₀ T m w r)(k:Moved C m.l (m.box i) w l' B' w'):LoneAt C ro i cf m₀ w₀ T (m.put i l' B') w' r:=by
 refine⟨k.done h.rep,Nat.le_trans h.size k.size,λb hb hf=>?_,λb hb=>?_,?_,λj hj=>(BM.put_other _ _ _ hj).trans (h.others j hj)⟩
 . rw[Moved.foot_old h.rep k b (Nat.lt_of_lt_of_le hb h.size) λhf'=>(h.grow b hf').elim hf (λx=>absurd hb (Nat.not_lt_of_le x))];exact h.old b hb hf
 . exact(k.foot_grow b hb).elim (h.grow b) (λx=>.inr (Nat.le_trans h.size x))
 . obtain⟨n,h1,h2,h3⟩:=h.run;exact⟨n,h1,h2,by rw[BM.put_l,k.pin];exact h3⟩
def seqAlone(hP:Plain P A){main:Bool}{Kc:Addr->Option Value}{J:Goroutine->World->Prop}(hJ:JS P main Kc (λ(_:Unit)=>J))(hC:CalmJ P main (λ(_:Unit)=>J))(C:Core Ml S)(ro:Nat->Option Obj)(i cf:Nat)(m₀:BM Ml)(w₀:World)(T:S×Option α×Nat):Alone P A C ro i α where
 main:=main
 γ:=Unit
 J _:=J
 js _:=⟨Kc,hJ⟩
 AtE _ m w r:=LoneAt C ro i cf m₀ w₀ T m w r
 Dead _ _ _:=False
 Oth _ _:=True
 oth _:=trivial
 rep h:=h.rep
 move h k _:=h.done k
 item {s m w r it t ds} Φ Ψ h hok hw:=by
  intro b k cs hb hk;refine wpI_lone (J:=λ(_:Unit)=>J) (s:=()) (A:=A) (a:=⟨t,ds⟩) (w:=w)
   (Q:=λ_ e a w'=>a.defers=ds/\∃l' B',((e=.normal/\Φ a.tmps l' B')\/(e=.ret/\Ψ a.tmps l' B'))/\LoneAt C ro i cf m₀ w₀ T (m.put i l' B') w' r) hJ hC hP hok
   (λa w'=>∃l' B',Moved C m.l (m.box i) w l' B' w'/\Φ a.tmps l' B') (λa w'=>∃l' B',Moved C m.l (m.box i) w l' B' w'/\Ψ a.tmps l' B')
   (λa w' τ d⟨l',B',h2,h3⟩=>⟨l',B',h2.re τ d,h3⟩) (λa w' τ d⟨l',B',h2,h3⟩=>⟨l',B',h2.re τ d,h3⟩) ?_ ?_ ?_ b k cs hb ?_
  . intro τ d;refine zq3q (hw (Car.re w τ d) (h.rep.re τ d) rfl) ?_;intro e a w' q;cases e with
    |normal=>obtain⟨q1,l',B',⟨q2,_⟩,q3⟩:=q;exact⟨q1,l',B',⟨q2.size,q2.old,q2.rep,q2.box,q2.growl,q2.growb,q2.apart,q2.pin⟩,q3⟩
    |ret=>obtain⟨q1,l',B',⟨q2,_⟩,q3⟩:=q;exact⟨q1,l',B',⟨q2.size,q2.old,q2.rep,q2.box,q2.growl,q2.growb,q2.apart,q2.pin⟩,q3⟩
    |_=>exact q
  . rintro t' w' ⟨l',B',h2,h3⟩;exact⟨rfl,l',B',.inl ⟨rfl,h3⟩,h.done h2⟩
  . rintro t' w' ⟨l',B',h2,h3⟩;exact⟨rfl,l',B',.inr ⟨rfl,h3⟩,h.done h2⟩
  . exact zx2g
 call {s m w r g fn c args} R' h hf hb hok hw:=by
  intro cl cs h1 h2;refine zq7z (J:=λ(_:Unit)=>J) (s:=()) (A:=A) (w:=w) hJ hC hP hf hb hok (R:=λv w'=>∃l' B',Moved C m.l (m.box i) w l' B' w'/\R' v l' B')
   (λv w' τ d⟨l',B',h2,h3⟩=>⟨l',B',h2.re τ d,h3⟩) ?_ cl cs ?_ ?_
  . intro τ d;refine Calls.mono (hw (Car.re w τ d) (h.rep.re τ d) rfl) ?_;intro e w' q;cases e with
    |returned v=>obtain⟨l',B',⟨q2,_⟩,q3⟩:=q;exact⟨l',B',⟨q2.size,q2.old,q2.rep,q2.box,q2.growl,q2.growb,q2.apart,q2.pin⟩,q3⟩
    |_=>exact q
  . rintro s' v w' ⟨_,l',B',k1,k2⟩;exact h1 () v w' ⟨rfl,v,l',B',rfl,k2,h.done k1⟩
  . rintro s' ch w' hf';exact hf'.elim
abbrev zq37(hP:Plain P A){main:Bool}{Kc:Addr->Option Value}{J:Goroutine->World->Prop}(hJ:JS P main Kc (λ(_:Unit)=>J))(hC:CalmJ P main (λ(_:Unit)=>J))(C:Core Ml S)(ro:Nat->Option Obj)(i cf:Nat)(m₀:BM Ml)(w₀:World)(T:S×Option α×Nat):YSys P A C ro i α:=(seqAlone hP hJ hC C ro i cf m₀ w₀ T).sys (λ_=>True)
theorem LoneAt.skip {m₀:BM Ml}{w₀:World}{T:S×Option α×Nat}{m:BM Ml}{w:World}{K:Unit->Proc S α}(h:LoneAt C ro i 0 m₀ w₀ T m w (Proc.tick.bind K (C.st m.l))):LoneAt C ro i 0 m₀ w₀ T m w (K () (C.st m.l)):=by
 refine⟨h.rep,h.size,h.old,h.grow,?_,h.others⟩;obtain⟨n,h1,h2,h3⟩:=h.run;have e:(Proc.tick.bind K (C.st m.l)).2.run (Proc.tick.bind K (C.st m.l)).1=(((K ()).run (C.st m.l)).1,((K ()).run (C.st m.l)).2.1,((K ()).run (C.st m.l)).2.2+1):=rfl;rw[e]at h1;refine⟨((K ()).run (C.st m.l)).2.2,?_,h2,by omega⟩;show(K ()).run (C.st m.l)=_;have a1:=congrArg (λx=>x.1) h1;have a2:=congrArg (λx=>x.2.1) h1;exact Prod.ext a1 (Prod.ext a2 rfl)
theorem LoneAt.count {m₀:BM Ml}{w₀:World}{T:S×Option α×Nat}{m:BM Ml}{w w':World}{l':Ml}{K:Unit->Proc S α}(h:LoneAt C ro i 1 m₀ w₀ T m w (Proc.tick.bind K (C.st m.l)))(hst:C.st l'=C.st m.l)(hpin:C.pin l'=C.pin m.l+1)(hl:∀b,C.foot l' b↔C.foot m.l b)(hrep:BRep C ro ⟨l',m.box⟩ w')(hs:w.heap.size<=w'.heap.size)(ho:∀b,b<w.heap.size->¬C.foot m.l b->w'.heap[b]?=w.heap[b]?):LoneAt C ro i 1 m₀ w₀ T ⟨l',m.box⟩ w' (K () (C.st l')):=by
 have hf:∀b,BM.foot C ro ⟨l',m.box⟩ b↔BM.foot C ro m b:=λb=>⟨λx=>x.elim (λy=>.inl ((hl b).1 y)) .inr,λx=>x.elim (λy=>.inl ((hl b).2 y)) .inr⟩;refine⟨hrep,Nat.le_trans h.size hs,λb hb hn=>?_,λb hb=>h.grow b ((hf b).1 hb),?_,h.others⟩
 . rw[ho b (Nat.lt_of_lt_of_le hb h.size) λx=>(h.grow b (.inl x)).elim hn (λy=>absurd hb (Nat.not_lt_of_le y))];exact h.old b hb hn
 obtain⟨n,h1,h2,h3⟩:=h.run;have e:(Proc.tick.bind K (C.st m.l)).2.run (Proc.tick.bind K (C.st m.l)).1=(((K ()).run (C.st m.l)).1,((K ()).run (C.st m.l)).2.1,((K ()).run (C.st m.l)).2.2+1):=rfl;rw[e]at h1;have a1:=congrArg (λx=>x.1) h1;have a2:=congrArg (λx=>x.2.1) h1;have a3:=congrArg (λx=>x.2.2) h1;simp only at a1 a2 a3;refine⟨((K ()).run (C.st m.l)).2.2,?_,h2,by show C.pin l'+_=_;omega⟩;rw[hst];show(K ()).run (C.st m.l)=_;exact Prod.ext a1 (Prod.ext a2 rfl)
end
end Go.Car
namespace Go.Proofs
open Go Go.Conc Go.RowKit Go.Car
theorem zq6p(ad:Addr)(x:Int)(w:World)(h0:w.cell? ad=some (.int .i64 x)):
 Calls Try.prog 47 #[.pointer (some ad)] w λe w'=>e=.returned (.int .i64 x)/\w'=w:=by
 have hl:=run_call_load (P:=Try.prog) Try.func71 zyk zyk zyk .i64 zyk h0
 go_enter Try.func47,Try.ntmps47
 go_wp2;go_ret;exact⟨rfl,rfl⟩
theorem zqk4(ad:Addr)(x y:Int)(w:World)(h0:w.cell? ad=some (.int .i64 x))(f0:w.frozen? ad=false):
 Calls Try.prog 58 #[.pointer (some ad),.int .i64 y] w λe w'=>e=.returned (.tuple #[])/\w'=w.setCell ad (.int .i64 y):=by
 have hl:=run_call_store (P:=Try.prog) Try.func77 zyk zyk zyk zyk (k:=.i64) (y:=y) h0 f0
 go_enter Try.func58,Try.ntmps58
 go_wp2
 go_end0
 exact⟨rfl,rfl⟩
theorem add_lone(ad:Addr)(x y:Int)(w:World)(h0:w.cell? ad=some (.int .i64 x))(f0:w.frozen? ad=false):
 Calls Try.prog 57 #[.pointer (some ad),.int .i64 y] w λe w'=>e=.returned (.int .i64 (IntKind.i64.wrap (x+y)))/\w'=w.setCell ad (.int .i64 (IntKind.i64.wrap (x+y))):=by
 have hl:=run_call_add (P:=Try.prog) Try.func76 zyk zyk zyk .i64 zyk (y:=y) (s:=IntKind.i64.wrap (x+y)) h0 f0 zx2p
 go_enter Try.func57,Try.ntmps57
 go_wp2;go_ret;have hw:wrap64 (x+y)=IntKind.i64.wrap (x+y):=by rw[IntKind.wrap_i64];simp only[wrap64]
 rw[hw];exact⟨rfl,rfl⟩
theorem zqdc(ad:Addr)(x y:Int)(w:World)(h0:w.cell? ad=some (.int .i64 x))(f0:w.frozen? ad=false):
 Calls Try.prog 55 #[.pointer (some ad),.int .i64 x,.int .i64 y] w λe w'=>e=.returned (.bool true)/\w'=w.setCell ad (.int .i64 y):=by
 have hl:=run_call_cas_hit (P:=Try.prog) Try.func75 zyk zyk zyk .i64 zyk (y:=y) h0 f0
 go_enter Try.func55,Try.ntmps55
 go_wp2;go_ret;exact⟨rfl,rfl⟩
theorem zqdd(ad:Addr)(x o y:Int)(w:World)(h0:w.cell? ad=some (.int .i64 x))(f0:w.frozen? ad=false)(hne:¬x=o):
 Calls Try.prog 55 #[.pointer (some ad),.int .i64 o,.int .i64 y] w λe w'=>e=.returned (.bool false)/\w'=w:=by
 have hl:=run_call_cas_miss (P:=Try.prog) Try.func75 zyk zyk zyk .i64 zyk (y:=y) h0 f0 hne
 go_enter Try.func55,Try.ntmps55
 go_wp2;go_ret;exact⟨rfl,rfl⟩
def getN(c j:Nat)(g:Nums):Nums×Int:=(g,g c j)
def putN(c j:Nat)(x:Int)(g:Nums):Nums×Unit:=(upd2 g c j x,())
def addN(c j:Nat)(x:Int)(g:Nums):Nums×Int:=(upd2 g c j (IntKind.i64.wrap (g c j+x)),IntKind.i64.wrap (g c j+x))
def casN(c j:Nat)(o x:Int)(g:Nums):Nums×Bool:=if g c j=o then(upd2 g c j x,true)else(g,false)
section
variable {M2 S2 β:Type} {D:Core M2 S2} {ro:Nat->Option Obj} {i:Nat} {T:NumT}
structure zq7q(Y:YSys Try.prog aM (zqc (zqg T) D) ro i β):Prop where
 load:∀c j,c<T.N->j<T.len c->SpecY Y 47 #[.pointer (some ⟨T.ob c,j,none⟩)] (onN (getN c j)) (λx=>.int .i64 x)
 store:∀c j x,c<T.N->j<T.len c->SpecY Y 58 #[.pointer (some ⟨T.ob c,j,none⟩),.int .i64 x] (onN (putN c j x)) (λ_=>.tuple #[])
 add:∀c j x,c<T.N->j<T.len c->SpecY Y 57 #[.pointer (some ⟨T.ob c,j,none⟩),.int .i64 x] (onN (addN c j x)) (λx=>.int .i64 x)
 cas:∀c j o x,c<T.N->j<T.len c->SpecY Y 55 #[.pointer (some ⟨T.ob c,j,none⟩),.int .i64 o,.int .i64 x] (onN (casN c j o x)) (λb=>.bool b)
theorem zq95(Z:Alone Try.prog aM (zqc (zqg T) D) ro i β){I:Nums×S2->Prop}(hI:∀g g' s,I (g,s)->I (g',s))(hO:∀g g' s,Z.Oth (g,s) (g',s)):zq7q (Z.sys I) where
 load c j hc hj:=by
  refine Z.act Try.func47 rfl zyk (λs h=>h) (λs=>Z.oth s) λm wc hB=>Calls.mono (zq6p _ _ wc ((zq1n hB wc.tape wc.drawn).cell hc hj)) ?_;rintro e w' ⟨rfl,rfl⟩;exact⟨m.l,Moved.ext hB (Ext.refl _),rfl,rfl⟩
 store c j x hc hj:=by
  refine Z.act Try.func58 rfl zyk (λs h=>hI _ _ _ h) (λs=>hO _ _ _) λm wc hB=>Calls.mono (zqk4 _ _ x wc ((zq1n hB wc.tape wc.drawn).cell hc hj) ((zq1n hB wc.tape wc.drawn).frozen hc)) ?_;rintro e w' ⟨rfl,rfl⟩;exact⟨_,zq6s hB hc x wc.tape wc.drawn _ _,rfl,rfl⟩
 add c j x hc hj:=by
  refine Z.act Try.func57 rfl zyk (λs h=>hI _ _ _ h) (λs=>hO _ _ _) λm wc hB=>Calls.mono (add_lone _ _ x wc ((zq1n hB wc.tape wc.drawn).cell hc hj) ((zq1n hB wc.tape wc.drawn).frozen hc)) ?_;rintro e w' ⟨rfl,rfl⟩;exact⟨_,zq6s hB hc _ wc.tape wc.drawn _ _,rfl,rfl⟩
 cas c j o x hc hj:=by
  refine Z.act (g:=λs=>(((casN c j o x s.1).1,s.2),(casN c j o x s.1).2)) Try.func55 rfl zyk (λs h=>hI _ _ _ h) (λs=>hO _ _ _) λm wc hB=>?_;have hst:(zqc (zqg T) D).st m.l=(m.l.1,D.st m.l.2):=rfl
  by_cases h:m.l.1 c j=o
  . have hcell:=(zq1n hB wc.tape wc.drawn).cell hc hj;rw[h]at hcell;refine Calls.mono (zqdc _ _ x wc hcell ((zq1n hB wc.tape wc.drawn).frozen hc)) ?_;rintro e w' ⟨rfl,rfl⟩;refine⟨_,zq6s hB hc x wc.tape wc.drawn _ _,?_,?_⟩
    . rw[hst];unfold casN;rw[if_pos h];rfl
    . rw[hst];unfold casN;rw[if_pos h]
  . refine Calls.mono (zqdd _ _ o x wc ((zq1n hB wc.tape wc.drawn).cell hc hj) ((zq1n hB wc.tape wc.drawn).frozen hc) h) ?_;rintro e w' ⟨rfl,rfl⟩;refine⟨m.l,Moved.ext hB (Ext.refl _),?_,?_⟩
    . rw[hst];unfold casN;rw[if_neg h]
    . rw[hst];unfold casN;rw[if_neg h]
end
def getP{S2:Type}(c:Nat):Proc (Nums×S2) (Int×Bool):=(Proc.tick.bind λ_=>onN (getN c 0)).bind λx=>if x=2 then(Proc.tick.bind λ_=>onN (getN c 1)).bind λv=>Proc.ret (v,true)else Proc.ret (0,false)
def finP{S2:Type}(c:Nat)(v:Int):Proc (Nums×S2) Unit:=(Proc.tick.bind λ_=>onN (putN c 1 v)).bind λ_=>Proc.tick.bind λ_=>onN (putN c 0 2)
def setP{S2:Type}(c:Nat)(v:Int):Proc (Nums×S2) (Int×Bool):=(Proc.tick.bind λ_=>onN (casN c 0 0 1)).bind λb=>if b=true then(finP c v).bind λ_=>Proc.ret (v,true)else(getP c).bind λx=>Proc.ret (x.1,false)
abbrev pairV(x:Int×Bool):Value:=.tuple #[.int .i64 x.1,.bool x.2]
section
variable {M2 S2 β:Type} {D:Core M2 S2} {ro:Nat->Option Obj} {i:Nat} {T:NumT}
structure OnceAtoms(Y:YSys Try.prog aM (zqc (zqg T) D) ro i β)(sv:Value):Prop where
 len:∀c,c<T.N->T.len c=3
 num:zq7q Y
 step:StepY Y 48 #[sv]
section
variable {Y:YSys Try.prog aM (zqc (zqg T) D) ro i β} {sv:Value} (hst:OnceAtoms Y sv) {c:Nat} (hc:c<T.N)
include hst hc
theorem OnceAtoms.load {j:Nat}(hj:j<3):SpecY Y 47 #[.pointer (some ⟨T.ob c,j,none⟩)] (onN (getN c j)) (λx=>.int .i64 x):=hst.num.load c j hc zx46
theorem OnceAtoms.store {j:Nat}(hj:j<3)(x:Int):SpecY Y 58 #[.pointer (some ⟨T.ob c,j,none⟩),.int .i64 x] (onN (putN c j x)) (λ_=>.tuple #[]):=hst.num.store c j x hc zx46
theorem OnceAtoms.add {j:Nat}(hj:j<3)(x:Int):SpecY Y 57 #[.pointer (some ⟨T.ob c,j,none⟩),.int .i64 x] (onN (addN c j x)) (λx=>.int .i64 x):=hst.num.add c j x hc zx46
theorem OnceAtoms.cas {j:Nat}(hj:j<3)(o x:Int):SpecY Y 55 #[.pointer (some ⟨T.ob c,j,none⟩),.int .i64 o,.int .i64 x] (onN (casN c j o x)) (λb=>.bool b):=hst.num.cas c j o x hc zx46
end
theorem zq8m(Y:YSys Try.prog aM (zqc (zqg T) D) ro i β)(c:Nat)(K:Int×Bool->Proc (Nums×S2) β):Y.sil ((getP c).bind K):=by
 rw[getP,Proc.bind_bind,Proc.bind_bind];exact Y.sil_tick _
theorem zq6f(Y:YSys Try.prog aM (zqc (zqg T) D) ro i β)(c:Nat)(v:Int)(K:Unit->Proc (Nums×S2) β):Y.sil ((finP c v).bind K):=by
 rw[finP,Proc.bind_bind,Proc.bind_bind];exact Y.sil_tick _
theorem zq5d(Y:YSys Try.prog aM (zqc (zqg T) D) ro i β){sv:Value}(hst:OnceAtoms Y sv){c:Nat}(hc:c<T.N):
 SpecB Y 25 #[.pointer (some ⟨T.ob c,0,none⟩),sv] (getP c) pairV:=by
 refine SpecB.of Try.func25 rfl ?_;intro K s B w hK hA;simp only[zqe,Try.ntmps25,List.size_toArray,List.length_cons,List.length_nil,Nat.reduceAdd,Nat.reduceSub,Array.replicate_succ,Array.replicate_zero,List.push_toArray,List.append_toArray,List.nil_append,List.cons_append];apply YSys.seq0 hA zyk
 . exact zx3
 intro w hA;refine zqh Y.jc ?_;apply YSys.seq0 hA zyk
 . exact zx3
 intro w hA;refine zqz Y.jc rfl (zq1s Y.jc ?_);show wpJ Y.J _ _ _ _ _;refine zqh Y.jc (zqx Y.jc ?_);rw[getP,Proc.bind_bind,Proc.bind_bind]at hA;apply YSys.callS 0 1 0 hA hst.step rfl rfl rfl zx2p rfl rfl rfl
 . exact zx2
 . exact zx4
 . exact zx4
 . exact zxe
 intro s w hA;refine zq1e Y.jc ?_;show wpJ Y.J _ _ _ _ _;refine zqh Y.jc ?_;refine zqh Y.jc (zqx Y.jc ?_);apply YSys.callR 0 3 1 hA (hst.load hc (j:=0) zyd) (λx=>by split<;>first|exact hK _|(rw[Proc.bind_bind,Proc.bind_bind];exact Y.sil_tick _)) rfl rfl rfl zx2p rfl rfl rfl
 . exact zx2
 . exact zx13
 . exact zx13
 . exact zxe
 intro s x w hA;apply YSys.ops0 4 1 hA rfl rfl zyk
 . exact zx3
 intro w hA;show wpJ Y.J _ _ _ _ _
 by_cases hx:x=2
 . rw[if_pos hx]at hA;refine zqz Y.jc rfl ?_;rw[if_neg (by simp[hx])];refine zq1s Y.jc ?_;show wpJ Y.J _ _ _ _ _;refine zqh Y.jc (zqx Y.jc ?_);rw[Proc.bind_bind,Proc.bind_bind]at hA;apply YSys.callS 0 1 0 hA hst.step rfl rfl rfl zx2p rfl rfl rfl
   . exact zx2
   . exact zx4
   . exact zx4
   . exact zxe
   intro s w hA;refine zq1e Y.jc ?_;show wpJ Y.J _ _ _ _ _;refine zqh Y.jc (zqx Y.jc ?_);apply YSys.callR 0 3 2 hA (hst.load hc (j:=1) zyd) (λ_=>hK _) rfl rfl rfl zx2p rfl rfl rfl
   . exact zx2
   . exact zx13
   . exact zx13
   . exact zxe
   intro s x w hA;apply YSys.ops0 4 2 hA rfl rfl zyk
   . exact zx3
   intro w hA;show wpJ Y.J _ _ _ _ _;refine zq1c Y.jc ?_;exact⟨rfl,.inl ⟨_,resultsC_tmp2 rfl _,_,rfl,hA⟩⟩
 . rw[if_neg hx]at hA;refine zqz Y.jc rfl ?_;rw[if_pos (by simpa using hx)];apply YSys.seq0 hA zyk
   . exact zx3
   intro w hA;refine zq1c Y.jc ?_;exact⟨rfl,.inl ⟨_,resultsC_tmp2 rfl _,_,rfl,hA⟩⟩
end
section
variable {M2 S2 β:Type} {D:Core M2 S2} {ro:Nat->Option Obj} {i:Nat} {T:NumT}
theorem zq8g(Y:YSys Try.prog aM (zqc (zqg T) D) ro i β){sv:Value}(hst:OnceAtoms Y sv){c:Nat}(hc:c<T.N)(v:Int):
 SpecB Y 56 #[.pointer (some ⟨T.ob c,0,none⟩),sv,.int .i64 v] (finP c v) (λ_=>.tuple #[]):=by
 refine SpecB.of Try.func56 rfl ?_;intro K s B w hK hA;simp only[zqe,Try.ntmps56,List.size_toArray,List.length_cons,List.length_nil,Nat.reduceAdd,Nat.reduceSub,Array.replicate_succ,Array.replicate_zero,List.push_toArray,List.append_toArray,List.nil_append,List.cons_append];refine zqh Y.jc (zqx Y.jc ?_);rw[finP,Proc.bind_bind,Proc.bind_bind]at hA;apply YSys.callS 0 1 0 hA hst.step rfl rfl rfl zx2p rfl rfl rfl
 . exact zx2
 . exact zx4
 . exact zx4
 . exact zxe
 intro s w hA;refine zq1e Y.jc ?_;show wpJ Y.J _ _ _ _ _;refine zqh Y.jc (zqx Y.jc ?_);apply YSys.callR 0 4 0 hA (hst.store hc (j:=1) zyd v) (λ_=>by rw[Proc.bind_bind];exact Y.sil_tick _) rfl rfl rfl zx2p rfl rfl rfl
 . exact zx2
 . exact zxq
 . exact zxq
 . exact zxe
 intro s x w hA;refine zq1e Y.jc ?_;show wpJ Y.J _ _ _ _ _;refine zqh Y.jc (zqx Y.jc ?_);rw[Proc.bind_bind]at hA;apply YSys.callS 0 1 0 hA hst.step rfl rfl rfl zx2p rfl rfl rfl
 . exact zx2
 . exact zx4
 . exact zx4
 . exact zxe
 intro s w hA;refine zq1e Y.jc ?_;show wpJ Y.J _ _ _ _ _;refine zqx Y.jc ?_;apply YSys.callR 0 3 0 hA (hst.store hc (j:=0) zyd 2) (λ_=>hK _) rfl rfl rfl zx2p rfl rfl rfl
 . exact zx2
 . exact zxq
 . exact zxq
 . exact zxe
 intro s x w hA;refine zq1e Y.jc ?_;exact⟨rfl,.inl ⟨_,resultsC_none rfl _,(),rfl,hA⟩⟩
theorem zqa8(Y:YSys Try.prog aM (zqc (zqg T) D) ro i β){sv:Value}(hst:OnceAtoms Y sv){c:Nat}(hc:c<T.N)(v:Int):
 SpecB Y 26 #[.pointer (some ⟨T.ob c,0,none⟩),sv,.int .i64 v] (setP c v) pairV:=by
 refine SpecB.of Try.func26 rfl ?_;intro K s B w hK hA;simp only[zqe,Try.ntmps26,List.size_toArray,List.length_cons,List.length_nil,Nat.reduceAdd,Nat.reduceSub,Array.replicate_succ,Array.replicate_zero,List.push_toArray,List.append_toArray,List.nil_append,List.cons_append];apply YSys.seq0 hA zyk
 . exact zx3
 intro w hA;refine zqh Y.jc ?_;apply YSys.seq0 hA zyk
 . exact zx3
 intro w hA;refine zqz Y.jc rfl (zq1s Y.jc ?_);show wpJ Y.J _ _ _ _ _;refine zqh Y.jc (zqx Y.jc ?_);rw[setP,Proc.bind_bind,Proc.bind_bind]at hA;apply YSys.callS 0 1 0 hA hst.step rfl rfl rfl zx2p rfl rfl rfl
 . exact zx2
 . exact zx4
 . exact zx4
 . exact zxe
 intro s w hA;refine zq1e Y.jc ?_;show wpJ Y.J _ _ _ _ _;refine zqh Y.jc ?_;refine zqh Y.jc (zqx Y.jc ?_);apply YSys.callR 0 3 0 hA (hst.cas hc (j:=0) zyd 0 1) (λb=>by split<;>(rw[Proc.bind_bind];first|exact zq6f Y _ _ _|exact zq8m Y _ _)) rfl rfl rfl zx2p rfl rfl rfl
 . exact zx2
 . exact zx14
 . exact zx14
 . exact zxe
 intro s x w hA;refine zq1e Y.jc ?_;show wpJ Y.J _ _ _ _ _;cases x with
 |true=>
  rw[if_pos rfl,Proc.bind_bind]at hA;refine zqz Y.jc rfl ?_;rw[if_pos rfl];refine zqh Y.jc (zqx Y.jc ?_);apply YSys.callR 0 3 0 hA (zq8g Y hst hc v).spec (λ_=>hK _) rfl rfl rfl zx2p rfl rfl rfl
  . exact zx2
  . exact zx15
  . exact zx15
  . exact zxe
  intro s x w hA;refine zq1e Y.jc ?_;show wpJ Y.J _ _ _ _ _;apply YSys.seq0 hA zyk
  . exact zx3
  intro w hA;refine zq1c Y.jc ?_;exact⟨rfl,.inl ⟨_,resultsC_tmp2 rfl _,_,rfl,hA⟩⟩
 |false=>
  rw[if_neg zyd,Proc.bind_bind]at hA;refine zqz Y.jc rfl (zq1s Y.jc ?_);show wpJ Y.J _ _ _ _ _;refine zqh Y.jc (zqx Y.jc ?_);apply YSys.callR 0 2 4 hA (zq5d Y hst hc).spec (λ_=>hK _) rfl rfl rfl zx2p rfl rfl rfl
  . exact zx2
  . exact zxr
  . exact zxr
  . exact zxe
  intro s x w hA;apply YSys.ops0 3 4 hA rfl rfl zyk
  . exact zx3
  intro w hA;show wpJ Y.J _ _ _ _ _;apply YSys.seq0 hA zyk
  . exact zx3
  intro w hA;refine zq1c Y.jc ?_;exact⟨rfl,.inl ⟨_,resultsC_tmp2 rfl _,_,rfl,hA⟩⟩
end
end Go.Proofs
namespace Go.Car
open Go Go.Conc Go.RowKit
section
variable {P:Program} {A:FuncId->Bool} {Ml S β α:Type} {C:Core Ml S} {ro:Nat->Option Obj} {i:Nat} {Y:YSys P A C ro i β} {B:Nat->Option Obj}
variable {Q:Y.γ->Exit->Act->World->Prop} {s:Y.γ} {w:World} {p:Proc S β} {t:Array Value} {ds:List Deferred}
def SpecAt(Y:YSys P A C ro i β)(B:Nat->Option Obj)(f:FuncId)(args:Array Value)(p:Proc S α)(val:α->Value):Prop:=
 ∀(K:α->Proc S β)(s:Y.γ)(w:World),(∀a,Y.sil (K a))->Y.AtB B s w (p.bind K)->CallsJ P Y.J f args (RetY Y K val B) s w
theorem SpecY.at' {f:FuncId}{args:Array Value}{pp:Proc S α}{val:α->Value}(h:SpecY Y f args pp val)(B:Nat->Option Obj):SpecAt Y B f args pp val:=by
 rintro K s w hK ⟨m,rfl,hA⟩ cl cs h1 h2;refine h K s m w hK hA cl cs ?_ h2;rintro s' v w' ⟨a,m',rfl,k1,k2⟩;exact h1 s' _ w' ⟨a,rfl,m',k1,k2⟩
theorem SpecAt.of {f:FuncId}{fn:Func}{c:Code}{args:Array Value}{pp:Proc S α}{val:α->Value}(hf:P.funcs[f]?=some fn)(hb:fn.body=some c)
 (h:∀(K:α->Proc S β)(s:Y.γ)(w:World),(∀a,Y.sil (K a))->Y.AtB B s w (pp.bind K)->wpJ Y.J c (bodyC (Y.Bd fn (RetY Y K val B)) (RetY Y K val B)) s (zqe fn args) w):SpecAt Y B f args pp val:=
 λK s w hK hA=>BodyY.calls ⟨fn,c,hf,hb,h K s w hK hA⟩
theorem YSys.callB {ops:Array Oper}{todo rest:List Nat}(k n q:Nat){t₁:Array Value}{o:Oper}{f:FuncId}{args:Array Value}{pp:Proc S α}{val:α->Value}{K:α->Proc S β}{d₀:Tmp}(hA:Y.AtB B s w (pp.bind K))(hspec:SpecAt Y B f args pp val)(hK:∀a,Y.sil (K a))
 (hsz:k+n+(q+1)=ops.size) (ht:todo=List.range' k (n+(q+1))) (hr:rest=List.range' (k+n+1) q) (hc:chk P (λ_=>false) true ops k n=true) (ho:ops[k+n]?=some o) (hg:o.guard=none) (hd₀:o.dst=some d₀)
 (hpre:∀wc,Y.KnB B wc->∀X:Exit->Act->World->Prop,(∀w',Ext1 wc w'->X .normal ⟨t₁,ds⟩ w')->wpList P ops X ((ops.toList.drop k).take n) ⟨t,ds⟩ wc)
 (hrun:∀w,(execOp (Act.mk t₁ ds).eval o).run P w=.ok (.enter f args) w) (hev:∀w,(execOp (Act.mk t₁ ds).eval o).events P w #[]=#[])
 (hd:∀s' ch w',Y.Dead s' ch w'->Q s' (.panic ch) ⟨t₁,ds⟩ w')
 (hk:∀s' a w',Y.AtB B s' w' (K a)->opsJ Y.J ops rest Q s' ⟨t₁.setIfInBounds d₀ (val a),ds⟩ w'):opsJ Y.J ops todo Q s ⟨t,ds⟩ w:=by
 refine Y.pre0 k n (q+1) (rest:=(k+n)::rest) hA hsz ht (by rw[hr,List.range'_succ]) hc hpre λw' hA'=>?_;refine Y.callO (hspec K s w' hK hA') ho hg hd₀ hrun hev ?_;intro s' e w'' hp;cases e with
 |returned v=>
  obtain⟨a,rfl,hA''⟩:=hp;exact hk s' a w'' hA''
 |panicked ch=>exact hd s' ch w'' hp
 |outgrown=>exact hp
end
end Go.Car
namespace Go.Proofs
open Go Go.Conc Go.RowKit Go.Car
@[go_sem] theorem eql_maker (f : Fn) (a b : Array Value) (w : World) : (binOp .eql 83 (.func f a b) .nilFunc).run Try.prog w = .ok (.bool false) w := by rfl
def makeL{S2:Type}(c:Nat)(mk:Proc (Nums×S2) (Int×Bool)):Nat->Proc (Nums×S2) (Int×Int)
 |0=>Proc.ret (0,4)
 |n+1=>(getP c).bind λx=>if x.2=true then Proc.ret (x.1,0)else
  (Proc.tick.bind λ_=>onN (casN c 0 0 1)).bind λb=>if b=true then
   (Proc.tick.bind λ_=>onN (addN c 2 1)).bind λ_=>mk.bind λv=>if v.2=true then(finP c v.1).bind λ_=>Proc.ret (v.1,0)else(Proc.tick.bind λ_=>onN (putN c 0 0)).bind λ_=>Proc.ret (0,6)
  else makeL c mk n
def triesN(t:Int):Nat:=(min (max t 1) 1024).toNat
theorem zqmc(t:Int):0<triesN t/\triesN t<=1024:=by unfold triesN;omega
abbrev errV(x:Int×Int):Value:=.tuple #[.int .i64 x.1,.int .i64 x.2]
section
variable {M2 S2 β:Type} {D:Core M2 S2} {ro:Nat->Option Obj} {i:Nat} {T:NumT}
theorem zqez(Y:YSys Try.prog aM (zqc (zqg T) D) ro i β)(c:Nat)(mk:Proc (Nums×S2) (Int×Bool)){K:Int×Int->Proc (Nums×S2) β}(hK:∀a,Y.sil (K a))(n:Nat):Y.sil ((makeL c mk n).bind K):=by
 cases n with
 |zero=>exact hK _
 |succ n=>rw[makeL,Proc.bind_bind];exact zq8m Y _ _
theorem zq5i(Y:YSys Try.prog aM (zqc (zqg T) D) ro i β){sv:Value}(hst:OnceAtoms Y sv){c:Nat}(hc:c<T.N){mf:FuncId}{first caps:Array Value}{mk:Proc (Nums×S2) (Int×Bool)}{fn:Func}{cc:Code}(hf:Try.prog.funcs[mf]?=some fn)(hb':fn.body=some cc)(hnm:(fn.name== "runtime.NumGoroutine")=false){B:Nat->Option Obj}(hmk:SpecAt Y B mf (first++#[sv]++caps) mk pairV)(hms:∀K,(∀a,Y.sil (K a))->Y.sil (mk.bind K))(tries:Int):
 SpecAt Y B 27 #[.pointer (some ⟨T.ob c,0,none⟩),sv,.int .i64 tries,.func (.func mf) first caps] (makeL c mk (triesN tries)) errV:=by
 refine SpecAt.of Try.func27 rfl ?_;intro K s w hK hA;simp only[zqe,Try.ntmps27,List.size_toArray,List.length_cons,List.length_nil,Nat.reduceAdd,Nat.reduceSub,Array.replicate_succ,Array.replicate_zero,List.push_toArray,List.append_toArray,List.nil_append,List.cons_append];have HKK:=Lib.hid hK;have HM:=Lib.hid (And.intro hmk hms);have HT:=Lib.hid (zqmc tries);have HF:=Lib.hid (And.intro hf (And.intro hb' hnm));clear hK hmk hms hf hb' hnm;apply YSys.seq0 hA zyk
 . exact zx3
 intro w hA;refine zqh Y.jc (zq46 Y.jc ?_);apply YSys.seq0 hA zyk
 . exact zx3
 intro w hA;refine zqz Y.jc rfl ?_;rw[if_neg zyd];apply YSys.seq0 hA zyk
 . exact zx3
 intro w hA;refine zqz Y.jc rfl ?_;rw[if_neg zyd];refine zq1s Y.jc ?_;show wpJ Y.J _ _ _ _ _;refine zqh Y.jc ?_;apply YSys.seq0 (t':=#[.pointer (some ⟨T.ob c,0,none⟩),sv,.int .i64 tries,.func (.func mf) first caps,undef,undef,undef,undef,.int .i64 0,.int .i64 0,undef,undef,undef,undef,.bool false,.pointer (some ⟨T.ob c,0,none⟩),.bool false,.bool false,.func (.func mf) first caps,.bool false,.int .i64 tries,.int .i64 (max tries 1),.int .i64 (triesN tries:Nat),.int .i64 0,undef,undef,undef,undef,undef,undef,undef,undef,undef,undef,undef,undef,undef,undef,undef,undef,undef,undef,undef,undef,undef,undef,undef,undef,undef,undef,undef,undef,undef,undef,undef,undef,undef,undef,undef,undef,undef,undef,undef,undef,undef]) hA zyk
 . intro wc hB;rcases(by omega:tries<1\/(1<=tries/\tries<=1024)\/1024<tries)with h|⟨h,h'⟩|h
   . have e:((triesN tries:Nat):Int)=1:=by unfold triesN;omega
     have e2:max tries 1=1:=by omega
     have h1:tries<=1:=by omega
     rw[e,e2];clear HT e e2;go_wp2;exact⟨rfl,Ext1.refl _,rfl⟩
   . have e:((triesN tries:Nat):Int)=tries:=by unfold triesN;omega
     have e2:max tries 1=tries:=by omega
     rw[e,e2];clear HT e e2;go_wp2;exact⟨rfl,Ext1.refl _,rfl⟩
   . have e:((triesN tries:Nat):Int)=1024:=by unfold triesN;omega
     have e2:max tries 1=tries:=by omega
     have h1:1<=tries:=by omega
     have h2:¬tries<=1024:=by omega
     rw[e,e2];clear HT e e2;go_wp2;exact⟨rfl,Ext1.refl _,rfl⟩
 intro w hA;refine zq46 Y.jc (zq7m Y.jc (λs a w n=>∃(k:Nat)(x4 x5 x6 x7 x10 x11 x12 x13 x14 x15 x16 x17 x18 x19 x20 x21 x24 x25 x26 x27 x28 x29 x30 x31 x32 x33 x34 x35 x36 x37 x38 x39 x40 x41 x42 x43 x44 x45 x46 x47 x48 x49 x50 x51 x52 x53 x54 x55 x56 x57 x58 x59 x60 x61 x62 x63 x64:Value),k+n=triesN tries/\a=⟨#[.pointer (some ⟨T.ob c,0,none⟩),sv,.int .i64 tries,.func (.func mf) first caps,x4,x5,x6,x7,.int .i64 0,.int .i64 0,x10,x11,x12,x13,x14,x15,x16,x17,x18,x19,x20,x21,.int .i64 (triesN tries:Nat),.int .i64 k,x24,x25,x26,x27,x28,x29,x30,x31,x32,x33,x34,x35,x36,x37,x38,x39,x40,x41,x42,x43,x44,x45,x46,x47,x48,x49,x50,x51,x52,x53,x54,x55,x56,x57,x58,x59,x60,x61,x62,x63,x64],[]⟩/\Y.AtB B s w ((makeL c mk n).bind K)) (triesN tries) ?_ ?_)
 . exact⟨0,_,_,_,_,_,_,_,_,_,_,_,_,_,_,_,_,_,_,_,_,_,_,_,_,_,_,_,_,_,_,_,_,_,_,_,_,_,_,_,_,_,_,_,_,_,_,_,_,_,_,_,_,_,_,_,_,_,by omega,rfl,hA⟩
 clear hA;rintro s a w n ⟨k,x4,x5,x6,x7,x10,x11,x12,x13,x14,x15,x16,x17,x18,x19,x20,x21,x24,x25,x26,x27,x28,x29,x30,x31,x32,x33,x34,x35,x36,x37,x38,x39,x40,x41,x42,x43,x44,x45,x46,x47,x48,x49,x50,x51,x52,x53,x54,x55,x56,x57,x58,x59,x60,x61,x62,x63,x64,hkn,rfl,hA⟩;have HN:=Lib.hid (And.intro hkn HT.out);clear hkn;cases n with
 |zero=>
  apply YSys.seq0 hA zyk
  . exact zx3
  intro w hA;refine zqh Y.jc (zqz Y.jc rfl ?_);rw[if_neg (by have:=HN.out;simp only[decide_eq_true_eq];omega)];refine zq7l Y.jc ?_;show wpJ Y.J _ _ _ _ _;apply YSys.seq0 hA zyk
  . exact zx3
  intro w hA;refine zq1c Y.jc ?_;exact⟨rfl,.inl ⟨_,resultsC_tmp2 rfl _,(0,4),rfl,hA⟩⟩
 |succ n=>
  have hk:(k:Int)<(triesN tries:Nat):=by have:=HN.out;omega
  apply YSys.seq0 hA zyk
  . exact zx3
  intro w hA;refine zqh Y.jc (zqz Y.jc rfl ?_);rw[if_pos (by simpa using hk)];refine zq1s Y.jc ?_;show wpJ Y.J _ _ _ _ _;refine zqh Y.jc (zq46 Y.jc ?_);refine zqh Y.jc ?_;refine zqh Y.jc (zqx Y.jc ?_);rw[makeL,Proc.bind_bind]at hA;apply YSys.callR 0 2 5 hA (zq5d Y hst hc).spec (λx=>by split<;>first|exact HKK.out _|(rw[Proc.bind_bind,Proc.bind_bind];exact Y.sil_tick _)) rfl rfl rfl zx2p rfl rfl rfl
  . exact zx2
  . exact zxr
  . exact zxr
  . exact zxe
  intro s x w hA;apply YSys.ops0 3 5 hA rfl rfl zyk
  . exact zx3
  intro w hA;show wpJ Y.J _ _ _ _ _;apply YSys.seq0 hA zyk
  . exact zx3
  intro w hA
  by_cases hx:x.2=true
  . rw[if_pos hx]at hA;refine zqz Y.jc rfl ?_;rw[if_pos hx];apply YSys.seq0 hA zyk
    . exact zx3
    intro w hA;refine zq1c Y.jc ?_;exact⟨rfl,.inl ⟨_,resultsC_tmp2 rfl _,(x.1,0),rfl,hA⟩⟩
  . rw[if_neg hx,Proc.bind_bind,Proc.bind_bind]at hA;refine zqz Y.jc rfl ?_;rw[if_neg hx];refine zq1s Y.jc ?_;clear hx;show wpJ Y.J _ _ _ _ _;refine zqh Y.jc (zqx Y.jc ?_);apply YSys.callS 0 1 0 hA hst.step rfl rfl rfl zx2p rfl rfl rfl
    . exact zx2
    . exact zx4
    . exact zx4
    . exact zxe
    intro s w hA;refine zq1e Y.jc ?_;show wpJ Y.J _ _ _ _ _;refine zqh Y.jc ?_;refine zqh Y.jc (zqx Y.jc ?_);apply YSys.callR 0 3 1 hA (hst.cas hc (j:=0) zyd 0 1) (λb=>by split<;>first|exact zqez Y c mk HKK.out n|(rw[Proc.bind_bind,Proc.bind_bind];exact Y.sil_tick _)) rfl rfl rfl zx2p rfl rfl rfl
    . exact zx2
    . exact zx14
    . exact zx14
    . exact zxe
    intro s b w hA;apply YSys.ops0 4 1 hA rfl rfl zyk
    . exact zx3
    intro w hA;show wpJ Y.J _ _ _ _ _
    by_cases hb:¬b=true
    . rw[if_neg hb]at hA;refine zqz Y.jc rfl ?_;rw[if_pos (by simpa using hb)];clear hb;refine zq7l Y.jc ?_;show wpJ Y.J _ _ _ _ _;have e1:IntKind.i64.wrap ((k:Int)+1)=((k+1:Nat):Int):=by have:=HN.out;rw[IntWalk.i64_in _ zyo];omega
      apply YSys.code0 hA zyk
      . exact zx3
      intro w hA;exact⟨n,by omega,k+1,_,_,_,_,_,_,_,_,_,_,_,_,_,_,_,_,_,_,_,_,_,_,_,_,_,_,_,_,_,_,_,_,_,_,_,_,_,_,_,_,_,_,_,_,_,_,_,_,_,_,_,_,_,_,_,_,_,by have:=HN.out;omega,rfl,hA⟩
    . replace hb:=Classical.not_not.1 hb;rw[if_pos hb,Proc.bind_bind,Proc.bind_bind]at hA;refine zqz Y.jc rfl ?_;rw[if_neg (by simp[hb])];clear hb;refine zq1s Y.jc ?_;show wpJ Y.J _ _ _ _ _;refine zqh Y.jc (zqx Y.jc ?_);apply YSys.callS 0 1 0 hA hst.step rfl rfl rfl zx2p rfl rfl rfl
      . exact zx2
      . exact zx4
      . exact zx4
      . exact zxe
      intro s w hA;refine zq1e Y.jc ?_;show wpJ Y.J _ _ _ _ _;refine zqh Y.jc (zqx Y.jc ?_);apply YSys.callR 0 3 0 hA (hst.add hc (j:=2) zyd 1) (λ_=>by rw[Proc.bind_bind];exact HM.out.2 _ (λv=>by split<;>(rw[Proc.bind_bind];first|exact zq6f Y _ _ _|(rw[Proc.bind_bind];exact Y.sil_tick _)))) rfl rfl rfl zx2p rfl rfl rfl
      . exact zx2
      . exact zx2k
      . exact zx2k
      . exact zxe
      intro s _ w hA;refine zq1e Y.jc ?_;show wpJ Y.J _ _ _ _ _;rw[Proc.bind_bind]at hA;refine zqh Y.jc (zqx Y.jc ?_);apply YSys.callB 0 2 5 hA HM.out.1 (λv=>by split<;>(rw[Proc.bind_bind];first|exact zq6f Y _ _ _|(rw[Proc.bind_bind];exact Y.sil_tick _))) rfl rfl rfl zx2p rfl rfl rfl
      . exact zx2
      . exact zx1h
      . exact zx1h
      . exact zxe
      intro s v w hA;apply YSys.ops0 3 5 hA rfl rfl zyk
      . exact zx3
      intro w hA;show wpJ Y.J _ _ _ _ _;refine zqh Y.jc ?_;apply YSys.seq0 hA zyk
      . exact zx3
      intro w hA
      by_cases hv:v.2=true
      . rw[if_pos hv,Proc.bind_bind]at hA;refine zqz Y.jc rfl ?_;rw[if_pos hv];clear hv;refine zqh Y.jc (zqx Y.jc ?_);apply YSys.callR 0 3 0 hA (zq8g Y hst hc v.1).spec (λ_=>HKK.out _) rfl rfl rfl zx2p rfl rfl rfl
        . exact zx2
        . exact zx15
        . exact zx15
        . exact zxe
        intro s _ w hA;refine zq1e Y.jc ?_;show wpJ Y.J _ _ _ _ _;apply YSys.seq0 hA zyk
        . exact zx3
        intro w hA;refine zq1c Y.jc ?_;exact⟨rfl,.inl ⟨_,resultsC_tmp2 rfl _,(v.1,0),rfl,hA⟩⟩
      . rw[if_neg hv,Proc.bind_bind,Proc.bind_bind]at hA;refine zqz Y.jc rfl ?_;rw[if_neg hv];clear hv;refine zq1s Y.jc ?_;show wpJ Y.J _ _ _ _ _;refine zqh Y.jc (zqx Y.jc ?_);apply YSys.callS 0 1 0 hA hst.step rfl rfl rfl zx2p rfl rfl rfl
        . exact zx2
        . exact zx4
        . exact zx4
        . exact zxe
        intro s w hA;refine zq1e Y.jc ?_;show wpJ Y.J _ _ _ _ _;refine zqh Y.jc (zqx Y.jc ?_);apply YSys.callR 0 3 0 hA (hst.store hc (j:=0) zyd 0) (λ_=>HKK.out _) rfl rfl rfl zx2p rfl rfl rfl
        . exact zx2
        . exact zxq
        . exact zxq
        . exact zxe
        intro s _ w hA;refine zq1e Y.jc ?_;show wpJ Y.J _ _ _ _ _;apply YSys.seq0 hA zyk
        . exact zx3
        intro w hA;refine zq1c Y.jc ?_;exact⟨rfl,.inl ⟨_,resultsC_tmp2 rfl _,(0,6),rfl,hA⟩⟩
end
def madeA(v e:Int):Ans:=if e=0 then⟨true,v,[]⟩else⟨false,wrap64 (-e),[]⟩
abbrev ansV(a:Ans):Value:=.agg #[.bool a.ok,.int .i64 a.n,.slice none 0 0]
theorem zqex(v e:Int)(w:World):Calls Try.prog 81 #[.int .i64 v,.int .i64 e] w (zq3i λx w'=>Ext1 w w'/\x=ansV (madeA v e)):=by
 by_cases h:e=0
 . subst h;have hm:madeA v 0=⟨true,v,[]⟩:=rfl;rw[hm];clear hm
   go_enter Try.func81,Try.ntmps81
   go_wp2;have hn:(w.alloc (.cells #[.bool true,.int .i64 (v),.slice none 0 0] 49)).heap[w.heap.size]?=some (.cells #[.bool true,.int .i64 (v),.slice none 0 0] 49):=by rw[zq6,if_pos rfl]
   have k0:=(zq0 (off:=0) hn).trans rfl;have k1:=(zq0 (off:=1) hn).trans rfl;have k2:=(zq0 (off:=2) hn).trans rfl;refine bodyPost_ret (v:=ansV ⟨true,v,[]⟩) ?_ rfl ⟨Ext1.alloc w _,rfl⟩;simp only[results,Try.f81];simp[go_sem,k0,k1,k2]
 . have hm:madeA v e=⟨false,wrap64 (-e),[]⟩:=by unfold madeA;rw[if_neg h]
   rw[hm];clear hm
   go_enter Try.func81,Try.ntmps81
   go_wp2;have hn:(w.alloc (.cells #[.bool false,.int .i64 (wrap64 (-e)),.slice none 0 0] 49)).heap[w.heap.size]?=some (.cells #[.bool false,.int .i64 (wrap64 (-e)),.slice none 0 0] 49):=by rw[zq6,if_pos rfl]
   have k0:=(zq0 (off:=0) hn).trans rfl;have k1:=(zq0 (off:=1) hn).trans rfl;have k2:=(zq0 (off:=2) hn).trans rfl;refine bodyPost_ret (v:=ansV ⟨false,wrap64 (-e),[]⟩) ?_ rfl ⟨Ext1.alloc w _,rfl⟩;simp only[results,Try.f81];simp[go_sem,k0,k1,k2]
section
variable {M2 S2 β:Type} {D:Core M2 S2} {ro:Nat->Option Obj} {i:Nat} {T:NumT}
theorem zqgb(Y:YSys Try.prog aM (zqc (zqg T) D) ro i β)(B:Nat->Option Obj)(sv:Value):SpecAt Y B 83 #[sv] (Proc.ret (0,false)) pairV:=by
 refine SpecAt.of Try.func83 rfl ?_;intro K s w hK hA;simp only[zqe,Try.ntmps83,List.size_toArray,List.length_cons,List.length_nil,Nat.reduceAdd,Nat.reduceSub,Array.replicate_succ,Array.replicate_zero,List.push_toArray,List.append_toArray,List.nil_append,List.cons_append];apply YSys.seq0 hA zyk
 . exact zx3
 intro w hA;apply YSys.seq0 hA zyk
 . exact zx3
 intro w hA;refine zq1c Y.jc ?_;exact⟨rfl,.inl ⟨_,resultsC_tmp2 rfl _,(0,false),rfl,hA⟩⟩
def mkP{S2:Type}(c:Nat)(op:OpX):Proc (Nums×S2) (Int×Bool):=Proc.tick.bind λ_=>onN λg=>(g,(IntKind.i64.wrap (op.b+g c 2),true))
theorem zqf1(Z:Alone Try.prog aM (zqc (zqg T) D) ro i β){I:Nums×S2->Prop}{sv:Value}(hst:OnceAtoms (Z.sys I) sv){c:Nat}(hc:c<T.N){B:Nat->Option Obj}{b3 b5:Nat}{op:OpX}(h3:B b3=some (.cells #[.pointer (some ⟨T.ob c,0,none⟩)] 35))(h5:B b5=some (.cells op.cells.toArray 34)):
 SpecAt (Z.sys I) B 82 #[sv,.pointer (some ⟨b5,0,none⟩),.pointer (some ⟨b3,0,none⟩)] (mkP c op) pairV:=by
 have HI:=Lib.hid (And.intro h3 h5);have HS:=Lib.hid hst;have hlen:=hst.len c hc;clear h3 h5;refine SpecAt.of Try.func82 rfl ?_;intro K s w hK hA;simp only[zqe,Try.ntmps82,List.size_toArray,List.length_cons,List.length_nil,Nat.reduceAdd,Nat.reduceSub,Array.replicate_succ,Array.replicate_zero,List.push_toArray,List.append_toArray,List.nil_append,List.cons_append];apply YSys.seq0 hA zyk
 . exact zx3
 intro w hA;refine zqh (Z.sys I).jc (zqx (Z.sys I).jc ?_);rw[mkP,Proc.bind_bind]at hA;apply YSys.callS 0 1 0 hA HS.out.step rfl rfl rfl zx2p rfl rfl rfl
 . exact zx2
 . exact zx4
 . exact zx4
 . exact zxe
 intro s w hA;refine zq1e (Z.sys I).jc ?_;show wpJ (Z.sys I).J _ _ _ _ _;refine zqh (Z.sys I).jc ?_;obtain⟨m,hm,hA⟩:=hA;refine Z.actS (I':=I) (g:=λs=>(s,(IntKind.i64.wrap (op.b+s.1 c 2),true))) (λt B'=>t=#[sv,.pointer (some ⟨b5,0,none⟩),.pointer (some ⟨b3,0,none⟩),undef,.int .i64 (IntKind.i64.wrap (op.b+m.l.1 c 2)),.bool true,sv,.tuple #[],.pointer (some ⟨b5,2,none⟩),.int .i64 op.b,.pointer (some ⟨T.ob c,0,none⟩),.pointer (some ⟨T.ob c,0,none⟩),.pointer (some ⟨T.ob c,2,none⟩),.int .i64 (m.l.1 c 2),.int .i64 (IntKind.i64.wrap (op.b+m.l.1 c 2))]/\B'=B) hA zyk (λs h=>h) (λs=>Z.oth s) ?_ ?_
 . intro wc hB hIs X hX;have HX:=Lib.hid hX;clear hX;have k3:=hB.box i b3 _ (by rw[hm];exact HI.out.1);have k5:=hB.box i b5 _ (by rw[hm];exact HI.out.2);have cb:wc.cell? ⟨b5,2,none⟩=some (.int .i64 op.b):=(zq0 k5).trans rfl;have cp:wc.cell? ⟨b3,0,none⟩=some (.pointer (some ⟨T.ob c,0,none⟩)):=(zq0 k3).trans rfl;have cn:=(zq1n hB wc.tape wc.drawn).cell hc (j:=2) (by rw[hlen];decide);obtain⟨x,hx⟩:∃x,m.l.1 c 2=x:=⟨_,rfl⟩;rw[hx]at cn;have HL:RowKit.Hid (∀W:World,(∀a,W.cell? a=wc.cell? a)->Calls Try.prog 47 #[.pointer (some ⟨T.ob c,2,none⟩)] W λe w'=>e=.returned (.int .i64 x)/\∃n,w'=W.drewN n):=Lib.hid λW hW=>Calls.mono (zq6p _ x W ((hW _).trans cn)) (by rintro e w' ⟨rfl,rfl⟩;exact⟨rfl,0,rfl⟩);have HB:=Lib.hid (And.intro hB (And.intro hm hx));obtain⟨pb,hpb⟩:∃p,T.ob c=p:=⟨_,rfl⟩;rw[hpb]at cp HL HX;clear hB hm hx cn k3 k5 hA hK hIs hlen
   go_quiet (first|(go_at_call 47;exact Calls.quiet_of (HL.out _ (λa=>rfl))))
   obtain⟨hB,hm,hx⟩:=HB.out;exact⟨rfl,HX.out _ m.l _ _ (Moved.ext hB ⟨Nat.le_refl _,λ_ _=>rfl⟩) rfl ⟨by rw[hx],hm⟩⟩
 . rintro t' m' w' ⟨rfl,hb⟩ hA';show wpJ (Z.sys I).J _ _ _ _ _;refine zq1c (Z.sys I).jc ?_;exact⟨rfl,.inl ⟨_,resultsC_tmp2 rfl _,(IntKind.i64.wrap (op.b+m.l.1 c 2),true),rfl,m',hb,hA'⟩⟩
end
end Go.Proofs
