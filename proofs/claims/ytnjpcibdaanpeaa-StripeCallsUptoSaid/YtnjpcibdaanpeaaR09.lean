/- YtnjpcibdaanpeaaSCalls11: part 9 of the proof (the texts behind it, in order). -/
import Derived.Test.YtnjpcibdaanpeaaR08
set_option linter.unusedSimpArgs false
set_option linter.unusedVariables false
set_option linter.unusedSectionVars false
set_option linter.unnecessarySimpa false
set_option maxHeartbeats 4000000
set_option maxRecDepth 100000
namespace Go.Proofs
open Go Go.Conc Go.RowKit Go.Car
noncomputable def opsT(n:Nat):Code:=tailN n (Try.f26.body.getD .skip)
theorem ops0:Try.f26.body.getD .skip=.seq (headC (opsT 0)) (.seq (headC (opsT 1)) (.seq (headC (opsT 2)) (opsT 3))):=by kernel_rfl
def ans0:AnsM:=⟨λ_=>.slice none 0 0,λ_ _=>none,λ_=>[]⟩
structure OpsAt(w:World)(RP:Nat->Option Obj)(pp:Option Addr)(n N:Nat)(sp:Nat->Option Addr)(L Cp:Nat->Nat)(ops:Nat->List OpX):Prop where
 eq:N=min n 64
 le:n<=4611686018427387904
 at':0<n->∃tb to',pp=some ⟨tb,to',none⟩/\∀i,i<N->w.cell? ⟨tb,to'+i,none⟩=some (.slice (sp i) (L i) (Cp i))
 row:∀i,i<N->L i<=Cp i/\L i<=4611686018427387904/\(sp i=none->L i=0/\Cp i=0)
 len:∀i,i<N->(ops i).length=min (L i) 65536
 op:∀i,i<N->∀k op,(ops i)[k]?=some op->∃g off cur e fr,sp i=some ⟨g,off,none⟩/\RP g=some (.cells cur e fr)/\∀j,j<4->cur[off+k*4+j]?=op.cells[j]?
open Classical in
noncomputable def roOf(RP:Nat->Option Obj)(H N:Nat)(ob ib:Nat->Nat)(w1:World):Nat->Option Obj:=λb=>if RP b≠none then RP b else if b=H\/b=H+2\/∃i,i<N/\(b=ob i\/b=ib i)then w1.heap[b]? else none
theorem roOf_rp{RP:Nat->Option Obj}{H N:Nat}{ob ib:Nat->Nat}{w1:World}{b:Nat}{o:Obj}(h:RP b=some o):roOf RP H N ob ib w1 b=some o:=by
 unfold roOf;rw[if_pos (by rw[h];simp),h]
theorem roOf_new{RP:Nat->Option Obj}{H N:Nat}{ob ib:Nat->Nat}{w1:World}{b:Nat}(h:RP b=none)(hb:b=H\/b=H+2\/∃i,i<N/\(b=ob i\/b=ib i)):roOf RP H N ob ib w1 b=w1.heap[b]?:=by
 unfold roOf;rw[if_neg (by rw[h];simp),if_pos hb]
theorem roOf_some{RP:Nat->Option Obj}{H N:Nat}{ob ib:Nat->Nat}{w1:World}{b:Nat}{o:Obj}(h:roOf RP H N ob ib w1 b=some o):RP b=some o\/((b=H\/b=H+2\/∃i,i<N/\(b=ob i\/b=ib i))/\w1.heap[b]?=some o):=by
 unfold roOf at h;split at h
 · exact .inl h
 · split at h
   · rename_i h2;exact .inr ⟨h2,h⟩
   · cases h
structure OpsRes{M1 S1:Type}(C:Core M1 S1)(N:Nat)(l₀:M1)(w:World)(r:TSt (S1×(Nat->List Ans)))(ab:Nat)(v:Value)(l':M1)(am:AnsM)(w':World):Prop where
 rep:C.Rep l' w'
 st:C.st l'=r.s.1
 ans:AnsRep tT ab N am w'
 ast:am.st=r.s.2
 size:w.heap.size<=w'.heap.size
 old:∀b,b<w.heap.size->¬C.foot l₀ b->w'.heap[b]?=w.heap[b]?
 foot:∀b,C.foot l' b->C.foot l₀ b\/w.heap.size<=b
 abl:w.heap.size<=ab
 ansn:∀i b,i<N->am.X i b≠none->C.foot l₀ b\/w.heap.size<=b
 anf:∀b,C.foot l' b->b≠ab/\∀i,i<N->am.X i b=none
 row:w'.ownsRow w.heap.size 3 1 v r.ord.length (r.ord.map λ(i:Nat)=>.int .i64 i)
 rowf:∀x,v.ownBlock=some x->¬C.foot l' x/\x≠ab/\∀i,i<N->am.X i x=none
theorem OpsRes.re {M1 S1:Type}{C:Core M1 S1}{N:Nat}{l₀:M1}{w w':World}{r:TSt (S1×(Nat->List Ans))}{ab:Nat}{v:Value}{l':M1}{am:AnsM}(h:OpsRes C N l₀ w r ab v l' am w')(τ:Nat->Question->Nat)(d:Nat):OpsRes C N l₀ w r ab v l' am (Go.Car.re w' τ d):=
 ⟨C.frame _ _ _ h.rep λ_ _=>rfl,h.st,⟨h.ans.hd,h.ans.row,h.ans.blk,h.ans.nab,h.ans.sep⟩,h.ast,h.size,h.old,h.foot,h.abl,h.ansn,h.anf,h.row,h.rowf⟩
section
variable {M1 S1:Type} {C:Core M1 S1} {RP:Nat->Option Obj} {l₀:M1} {wa w1:World} {N n:Nat} {pp:Option Addr} {sp:Nat->Option Addr} {L Cp:Nat->Nat} {ops:Nat->List OpX} {ob ib:Nat->Nat} {dv fv:Value}
theorem ops_rep(hR:DRes wa N dv sp L Cp N ob ib fv w1)(hb:BRep C RP ⟨l₀,λ_ _=>none⟩ wa):BRep (zqa C (zqo tT (wa.heap.size+1) N)) (roOf RP wa.heap.size N ob ib w1) ⟨(l₀,ans0),λ_ _=>none⟩ w1:=by
 have hcl:∀b,C.foot l₀ b->b<wa.heap.size:=λb h=>C.lt _ _ _ hb.core h;have hrl:∀b o,RP b=some o->b<wa.heap.size:=λb o h=>zq7 (hb.rod b o h);have hnw:∀b o,roOf RP wa.heap.size N ob ib w1 b=some o->RP b=some o\/(wa.heap.size<=b/\b≠wa.heap.size+1/\w1.heap[b]?=some o):=λb o h=>by
  rcases roOf_some h with h|⟨h,h2⟩
  · exact .inl h
  · right
    rcases h with h|h|⟨i,hi,h⟩
    · exact⟨by omega,by omega,h2⟩
    · exact⟨by omega,by omega,h2⟩
    · have:=hR.lo i hi;rcases h with h|h<;>exact⟨by omega,by omega,h2⟩
 refine⟨⟨C.frame _ _ _ hb.core λb h=>hR.old b (hcl b h),⟨?_,λi hi=>AnsR.nil _ _,λi b o _ h=>(by cases h),λi _=>rfl,λi j b _ _ _ _=>rfl⟩,λb h=>?_⟩,λi b o h=>(by cases h),λb o h=>?_,λi b h=>absurd rfl h,λi j b _ h=>absurd rfl h,λb h=>?_,λi b _=>rfl⟩
 · show w1.heap[wa.heap.size+1]?=_;rw[hR.ab];congr 2;apply Array.ext_getElem?;intro i
   by_cases hi:i<N
   · simp[ans0,hi]
   · simp[ans0,hi]
 · rintro(h2|⟨i,hi,h2⟩)
   · have:=hcl b h;omega
   · exact h2 rfl
 · rcases hnw b o h with h|h
   · rw[hR.old b (hrl b o h)];exact hb.rod b o h
   · exact h.2.2
 · cases ho:roOf RP wa.heap.size N ob ib w1 b with
   |none=>exact absurd ho h
   |some o=>
    rintro(h2|h2|⟨i,hi,h2⟩)
    · rcases hnw b o ho with h3|h3
      · exact hb.rol b (by rw[h3];simp) h2
      · have:=hcl b h2;omega
    · rcases hnw b o ho with h3|h3
      · have:=hrl b o h3;omega
      · exact h3.2.1 h2
    · exact h2 rfl
theorem ops_ro{f:FuncId}{first caps:Array Value}(hR:DRes wa N (.func (.func f) first caps) sp L Cp N ob ib fv w1)(hb:BRep C RP ⟨l₀,λ_ _=>none⟩ wa)(hN:N<=64)(hlen:∀i,i<N->(ops i).length=min (L i) 65536)(hop:∀i,i<N->∀k op,(ops i)[k]?=some op->∃g off cur e fr,sp i=some ⟨g,off,none⟩/\RP g=some (.cells cur e fr)/\∀j,j<4->cur[off+k*4+j]?=op.cells[j]?){i:Nat}(hi:i<N):
 DoRo (roOf RP wa.heap.size N ob ib w1) i N (wa.heap.size+1) (ob i) wa.heap.size (ib i) (wa.heap.size+2) (sp i) (min (L i) 65536) (Cp i) (ops i) f first caps:=by
 have hno:∀b,wa.heap.size<=b->RP b=none:=λb hle=>by
  cases h:RP b with
  |none=>rfl
  |some o=>have:=zq7 (hb.rod b o h);omega
 have hlo:=hR.lo i hi;refine⟨?_,?_,?_,?_,hlen i hi,Nat.min_le_right _ _,hi,hN,λk op hk=>?_⟩
 · rw[roOf_new (hno _ (by omega)) (.inr (.inr ⟨i,hi,.inl rfl⟩))];exact hR.obx i hi
 · rw[roOf_new (hno _ (Nat.le_refl _)) (.inl rfl)];exact hR.db
 · rw[roOf_new (hno _ (by omega)) (.inr (.inr ⟨i,hi,.inr rfl⟩))];exact hR.ibx i hi
 · rw[roOf_new (hno _ (by omega)) (.inr (.inl rfl))];exact hR.hb
 · obtain⟨g,off,cur,e,fr,h1,h2,h3⟩:=hop i hi k op hk;exact⟨g,off,cur,e,fr,h1,roOf_rp h2,h3⟩
end
def Beyond(w w':World):Prop:=w.heap.size<=w'.heap.size/\∀b,b<w.heap.size->w'.heap[b]?=w.heap[b]?
theorem Beyond.refl (w:World):Beyond w w:=⟨Nat.le_refl _,λ_ _=>rfl⟩
theorem Beyond.trans {w w' w'':World}(h:Beyond w w')(k:Beyond w' w''):Beyond w w'':=⟨Nat.le_trans h.1 k.1,λb hb=>(k.2 b (Nat.lt_of_lt_of_le hb h.1)).trans (h.2 b hb)⟩
theorem Beyond.alloc (w:World)(o:Obj):Beyond w (w.alloc o):=⟨by rw[zq5];omega,λb hb=>by rw[zq2,if_neg (by omega)]⟩
theorem Beyond.heap {w w':World}(h:Beyond w w'){b:Nat}{o:Obj}(hb:w.heap[b]?=some o):w'.heap[b]?=some o:=(h.2 b (zq7 hb)).trans hb
theorem Beyond.cell {w w':World}(h:Beyond w w'){a:Addr}{v:Value}(hb:w.cell? a=some v):w'.cell? a=some v:=(zqd (h.2 a.block (cell_lt hb))).trans hb
theorem Beyond.re (w:World)(τ:Nat->Question->Nat)(d:Nat):Beyond w (Go.Car.re w τ d):=⟨Nat.le_refl _,λ_ _=>rfl⟩
def IntsAt(w:World)(v:Value)(l:List Int):Prop:=∃p C,v=.slice p l.length C/\(l≠[]->∃b o,p=some ⟨b,o,none⟩/\∀i,i<l.length->w.cell? ⟨b,o+i,none⟩=some (.int .i64 (l.getD i 0)))
theorem IntsAt.beyond {w w':World}{v:Value}{l:List Int}(h:IntsAt w v l)(hb:Beyond w w'):IntsAt w' v l:=by
 obtain⟨p,C,e,h⟩:=h;refine⟨p,C,e,λhl=>?_⟩;obtain⟨b,o,e2,h2⟩:=h hl;exact⟨b,o,e2,λi hi=>hb.cell (h2 i hi)⟩
theorem zq3l{w:World}{va vb:Value}{l:List Int}(hl:l.length<=1099511627776)(ha:IntsAt w va l)(hb:IntsAt w vb l):
 Calls Try.prog 16 #[va,vb] w λe w'=>e=.returned (.bool true)/\∃n,w'=w.drewN n:=by
 obtain⟨pa,ca,rfl,ha⟩:=ha;obtain⟨pb,cb,rfl,hb⟩:=hb;have HA:=Lib.hid (And.intro ha hb);clear ha hb;obtain⟨L,hL⟩:∃L,l.length=L:=⟨_,rfl⟩;rw[hL]at hl ⊢;have HL:=Lib.hid hL;clear hL
 go_enter Try.func16,Try.ntmps16
 go_wp2
 go_loopg [5] L (λk i wr=>∃(j n:Nat),k=L - j/\j<=L/\i=.int .i64 j/\wr=w.drewN n)
 case atStart=>exact⟨0,0,rfl,Nat.zero_le _,rfl,rfl⟩
 case round=>
  obtain⟨j,n,hk,hj,rfl,rfl⟩:=hrel
  by_cases hlt:j<L
  · have hlt':(j:Int)<(L:Int):=by omega
    have hj0:(0:Int)<=j:=by omega
    have hne:l≠[]:=λe=>by have:=HL.out;rw[e]at this;simp at this;omega
    obtain⟨b1,o1,rfl,h1⟩:=HA.out.1 hne;obtain⟨b2,o2,rfl,h2⟩:=HA.out.2 hne;have k1:=h1 j (by rw[HL.out];exact hlt);have k2:=h2 j (by rw[HL.out];exact hlt);generalize l.getD j 0=x at k1 k2;clear h1 h2 hne HA
    go_wp2_with (fail)
    go_quiet (fail)
    go_wp2;go_roundg (L - (j+1))
    case measure=>omega
    case rel=>exact⟨j+1,_,rfl,by omega,rfl,rfl⟩
  · obtain rfl:L=j:=by omega
    go_wp2;go_ret;exact⟨rfl,n,rfl⟩
def AnsAt(w:World)(v:Value)(l:List Ans):Prop:=∃p C,v=.slice p l.length C/\(l≠[]->∃b o,p=some ⟨b,o,none⟩/\∀i a,l[i]?=some a->w.cell? ⟨b,o+i*3,none⟩=some (.bool a.ok)/\w.cell? ⟨b,o+i*3+1,none⟩=some (.int .i64 a.n)/\∃lv,w.cell? ⟨b,o+i*3+2,none⟩=some lv/\IntsAt w lv a.l)
theorem AnsAt.beyond {w w':World}{v:Value}{l:List Ans}(h:AnsAt w v l)(hb:Beyond w w'):AnsAt w' v l:=by
 obtain⟨p,C,e,h⟩:=h;refine⟨p,C,e,λhl=>?_⟩;obtain⟨b,o,e2,h2⟩:=h hl;refine⟨b,o,e2,λi a hi=>?_⟩;obtain⟨h3,h4,lv,h5,h6⟩:=h2 i a hi;exact⟨hb.cell h3,hb.cell h4,lv,hb.cell h5,h6.beyond hb⟩
theorem answers_same{w:World}{va vb:Value}{l:List Ans}(hl:l.length<=1099511627776)(hll:∀a∈l,a.l.length<=1099511627776)(ha:AnsAt w va l)(hb:AnsAt w vb l):
 Calls Try.prog 15 #[va,vb] w λe w'=>e=.returned (.bool true)/\∃n,w'=w.drewN n:=by
 obtain⟨pa,ca,rfl,ha⟩:=ha;obtain⟨pb,cb,rfl,hb⟩:=hb;have HA:=Lib.hid (And.intro ha (And.intro hb hll));clear ha hb hll;obtain⟨L,hL⟩:∃L,l.length=L:=⟨_,rfl⟩;rw[hL]at hl ⊢;have HL:=Lib.hid hL;clear hL
 go_enter Try.func15,Try.ntmps15
 go_wp2
 go_loopg [5] L (λk i wr=>∃(j n:Nat),k=L - j/\j<=L/\i=.int .i64 j/\wr=w.drewN n)
 case atStart=>exact⟨0,0,rfl,Nat.zero_le _,rfl,rfl⟩
 case round=>
  obtain⟨j,n,hk,hj,rfl,hwr⟩:=hrel;have HW:=Lib.hid hwr;have hcell:∀a,wr.cell? a=w.cell? a:=λa=>by rw[hwr];rfl
  clear hwr
  by_cases hlt:j<L
  · have hlt':(j:Int)<(L:Int):=by omega
    have hj0:(0:Int)<=j:=by omega
    have hne:l≠[]:=λe=>by have:=HL.out;rw[e]at this;simp at this;omega
    obtain⟨b1,o1,rfl,h1⟩:=HA.out.1 hne;obtain⟨b2,o2,rfl,h2⟩:=HA.out.2.1 hne;obtain⟨aj,haj⟩:∃aj,l[j]?=some aj:=⟨_,List.getElem?_eq_getElem (by rw[HL.out];exact hlt)⟩;obtain⟨k1,k2,lv1,k3,I1⟩:=h1 j aj haj;obtain⟨m1,m2,lv2,m3,I2⟩:=h2 j aj haj;have hlj:=HA.out.2.2 aj (List.mem_of_getElem? haj);rw[←hcell]at k1 k2 k3 m1 m2 m3;have HI:RowKit.Hid (∀W:World,(∀a,W.cell? a=w.cell? a)->Calls Try.prog 16 #[lv1,lv2] W λe w'=>e=.returned (.bool true)/\∃n,w'=W.drewN n):=Lib.hid λW hW=>zq3l hlj (by
     obtain⟨p,C,e,h⟩:=I1;refine⟨p,C,e,λhl=>?_⟩;obtain⟨b,o,e2,h2⟩:=h hl;exact⟨b,o,e2,λi hi=>(hW _).trans (h2 i hi)⟩) (by
     obtain⟨p,C,e,h⟩:=I2;refine⟨p,C,e,λhl=>?_⟩;obtain⟨b,o,e2,h2⟩:=h hl;exact⟨b,o,e2,λi hi=>(hW _).trans (h2 i hi)⟩)
    obtain⟨p1,c1,rfl,_⟩:=id I1;obtain⟨p2,c2,rfl,_⟩:=id I2;generalize aj.l.length=lj at HI k3 m3;generalize aj.n=x at k2 m2;generalize aj.ok=ok at k1 m1;have HC:=Lib.hid hcell;clear h1 h2 hne HA I1 I2 hlj haj hcell
    go_wp2_with (fail)
    cases ok<;>
    · go_quiet (first|(go_at_call 16;exact Calls.quiet_of (HI.out _ (λa=>HC.out a))))
      go_wp2;go_roundg (L - (j+1))
      case measure=>omega
      case rel=>exact⟨j+1,n+nq,rfl,by omega,rfl,by rw[HW.out,World.drewN_drewN]⟩
  · obtain rfl:L=j:=by omega
    go_wp2;go_ret;exact⟨rfl,n,HW.out⟩
def TraceAt(w:World)(v:Value)(N:Nat)(tolds:Nat->List Ans)(ord st:List Int)(stuck:Bool):Prop:=∃p C ov sv,v=.agg #[.slice p N C,ov,sv,.bool stuck]/\IntsAt w ov ord/\IntsAt w sv st/\
 (0<N->∃b o,p=some ⟨b,o,none⟩/\∀i,i<N->∃vi,w.cell? ⟨b,o+i,none⟩=some vi/\AnsAt w vi (tolds i))
theorem Beyond.drew (w:World)(n:Nat):Beyond w (w.drewN n):=⟨Nat.le_refl _,λ_ _=>rfl⟩
end Go.Proofs
set_option maxHeartbeats 1000000
namespace Go.Car
open Go Go.Conc Go.RowKit
section
variable {P:Program}
def FinOf(P:Program)(Post:Value->World->Prop)(m:Machine)(T:Trace):Prop:=
 ∃N last o w' t',runNT P (N+1) m T=(.ended o w',t')/\runN P N m=.next last/\step P last=.ended o w'/\Conc.Good P (λv w=>Post v w/\w.os=m.world.os/\w.output=m.world.output) last o w' t'
theorem back_fin(Post:Value->World->Prop):Back P (FinOf P Post):=by
 intro N m T m' T' hrun e1 e2 ⟨M,last,o,w',t',h1,h2,h3,h4⟩;rw[e1,e2]at h4;have hn:runN P N m=.next m':=by rw[←runNT_fst P _ _ T,hrun]
 refine⟨N+M,last,o,w',t',?_,?_,h3,h4⟩
 · rw[Nat.add_assoc,runNT_add,hrun];exact h1
 · rw[runN_add,hn];exact h2
theorem j0_end{Post:Value->World->Prop}(hPost:∀v w τ d,Post v w->Post v (re w τ d)){n:Nat}{b:Frame}(hb:b.kind=.normal)(hini:P.inits.idxOf? b.fn=none){fn:Func}(hf:P.funcs[b.fn]?=some fn){t:Array Value}{todo:List Item}{w:World}{v:Value}
 (hr:(results fn t).run P w=.ok v w) (hp:Post v w):J0 P (FinOf P Post) n (G {b.at ⟨t,[]⟩ todo with mode:=.returning} []) w:=by
 intro τ d Mem B gs sl T q hM hsz hg hR;obtain⟨hL,hP⟩:=ring_end hR hM (λ_ _=>rfl);obtain⟨es,hes⟩:∃es,((results fn t).runT P w #[]).2=es:=⟨_,rfl⟩;have hT:∀τ d,(results fn t).runT P (re w τ d) #[]=(.ok v (re w τ d),es):=λτ d=>by
  obtain⟨_,_,h3⟩:=runT_re _ (zq2i _ (zq1w (P:=P) fn t)) w #[];have h4:((results fn t).runT P w #[]).1=.ok v w:=by rw[Sem.runT_eq];exact hr
  have:=h3 τ d (λj hj=>by rw[h4]at hj;simp only[resW]at hj;omega);rw[h4,hes]at this;simp only[resRe,resW,Nat.sub_self,Nat.add_zero]at this;exact this
 have hcalm:∀e∈es,calmEv true e:=λe he=>by
  rw[←hes]at he;have:=(zq2e _ (zq1w (P:=P) fn t) w #[] e he).resolve_left (by simp);exact⟨this.1,λh=>by cases h⟩
 obtain⟨B2,hB2⟩:=low_exists es;have hP2:Past (λ_=>False) (max B B2) T:=hP.mono (Nat.le_max_left _ _);refine beside_ends (Shun:=λ_=>False) (B:=max B B2) (D:=λ_ _ _=>False) (n:=0) (λ_ _ _ h=>h.elim) hg hL hP2 ?_;rintro w₁ ⟨d₁,rfl⟩;have hw:∃τ' d',(((re w τ 0).at d).at d₁)=re w τ' d':=⟨τ,d₁,rfl⟩;obtain⟨τ',d',hw⟩:=hw;rw[hw];refine⟨rfl,v,seen P b.fn es,?_,λe he=>?_,hPost _ _ _ _ hp,rfl,rfl⟩
 · simp only[G,stepG,unwind,Frame.at,hf,hT τ' d',GStep.after,doReturn];simp[GStep.after,hb,hini]
 · have he':=mem_seen he;obtain⟨k1,k2⟩:=calm_marks (hcalm e he');exact⟨λx _ h=>h.elim,k1,k2,MemAct.low_mono (Nat.le_max_right _ _) (hB2 e he')⟩
theorem j0_run{Post:Value->World->Prop}{f:FuncId}{fn:Func}{c:Code}{args:Array Value}{W:World}(hf:P.funcs[f]?=some fn)(hb:fn.body=some c)
 (h:J0 P (FinOf P Post) 1 (G (Frame.enter P f args .normal) []) W):FinOf P Post (solo (G (Frame.enter P f args .normal) []) W) #[]:=by
 have hL:Leavers P (#[]:Trace) #[G (Frame.enter P f args .normal) []] (λ_=>0):=⟨λi g hi hg=>by
  rcases i with _|i
  · omega
  · simp at hg,λj _=>rfl⟩
 have hP:Past (λ_=>False) 0 (#[]:Trace):=past_nil;have hR:=ring_begin (P:=P) (K:=KK (λ_=>none)) (Still:=StillK (λ_=>none)) (w:=W.at W.drawn) (B:=0) (λl⟨a,v,_,hv⟩=>by cases hv) hL hP (KK_none _);have:=h W.tape W.drawn (λg=>g=0) 0 #[G (Frame.enter P f args .normal) []] none #[] (λ_=>0) rfl rfl rfl hR;rw[solo_eq_crowd];exact this
end
end Go.Car
namespace Go.Car
open Go Go.Conc Go.RowKit
section
variable {P:Program} {A:FuncId->Bool}
theorem at_rest_end{Post:Value->World->Prop}(hPost:∀v w τ d,Post v w->Post v (re w τ d))(hP:Plain P A){c:Code}(hc:zqk P A c=true){n:Nat}{b:Frame}(hb:b.kind=.normal)(hini:P.inits.idxOf? b.fn=none){fn:Func}(hf:P.funcs[b.fn]?=some fn){t:Array Value}{w:World}
 (h:∀τ d,Code.wp P c (bodyPost P fn λe w'=>∃v,e=.returned v/\Post v w') ⟨t,[]⟩ (re w τ d)):J0 P (FinOf P Post) n (G (b.at ⟨t,[]⟩ [.code c]) []) w:=by
 have hFin:=back_fin (P:=P) Post;have hJ:=j0_JS hFin;have hC:=zq1n hFin
 let Φ:Act->World->Prop:=λa w=>∃v,(results fn a.tmps).run P w=.ok v w/\Post v w
 have hΦ:∀a w τ d,Φ a w->Φ a (re w τ d):=λa w τ d⟨v,h1,h2⟩=>⟨v,zq2l h1 τ d,hPost _ _ _ _ h2⟩;have hleave:∀(t:Array Value)(w:World)(todo:List Item),Φ ⟨t,[]⟩ w->J0 P (FinOf P Post) n (G {b.at ⟨t,[]⟩ todo with mode:=.returning} []) w:=λt w todo⟨v,h1,h2⟩=>j0_end hPost hb hini hf h1 h2;refine wpJ_lone (Q:=λs' e a' w'=>s'=n/\(e=.normal\/e=.ret)/\a'.defers=[]/\Φ a' w') hJ hC hP hc Φ Φ hΦ hΦ (λτ d=>?_) (λt w h=>⟨rfl,.inl rfl,rfl,h⟩) (λt w h=>⟨rfl,.inr rfl,rfl,h⟩) b [] [] (by rw[hb];decide) ?_
 · refine Code.wp_mono ?_ (h τ d);intro e a w hh;cases e with
   |normal=>obtain⟨h1,v,h2,v',h3,h4⟩:=hh;cases h3;exact⟨h1,v,h2,h4⟩
   |ret=>obtain⟨h1,v,h2,v',h3,h4⟩:=hh;cases h3;exact⟨h1,v,h2,h4⟩
   |panic ch=>obtain⟨h1,v,h2,_⟩:=hh;cases h2
   |outgrown=>obtain⟨v,h2,_⟩:=hh;cases h2
   |_=>exact hh
 · rintro s' e ⟨t',ds⟩ w' ⟨rfl,he,hd,h⟩;simp only at hd;subst hd;rcases he with rfl |rfl
   · exact hJ.ctl (λw=>stepG_end) (hleave t' w' [] h)
   · exact λtodo=>hleave t' w' todo h
end
end Go.Car
set_option maxHeartbeats 4000000
set_option maxRecDepth 100000
namespace Go.Proofs
open Go Go.Conc Go.RowKit Go.Car Go.ChangeShapes Go.WideShapes Go.Deep
theorem add_at{a:Addr}(h:a.spot=none)(i:Nat):a.add i=⟨a.block,a.off+i,none⟩:=by
 obtain⟨b,o,s⟩:=a;simp only at h;subst h;unfold Addr.add;split
 · rename_i e;rw[e];rfl
 · rfl
theorem spot_none{w:World}{a:Addr}{v:Value}(h:w.cell? a=some v):a.spot=none:=by
 unfold World.cell? at h;split at h
 · split at h
   · cases h
   · rename_i hh;simpa using hh
 · cases h
theorem spot_add{w:World}{a:Addr}{v:Value}(h:w.cell? (a.add 0)=some v):a.spot=none:=spot_none (a:=a) (by simpa[Addr.add]using h)
def lenD{H:Type}:DataW H->Nat
 |.slice e _=>e.length
 |_=>0
section
variable {H:Type} {enc:TypeId×Value->H} {P:Program} {w:World} {held:Bool} {sp:Nat->Bool}
theorem op_open{t:TypeId}{fs:Array Field}(ht:P.underlying t=some (.struct fs))(hfs:∀j,j<4->∃f,fs[j]?=some f/\f.offset=j/\P.cellsOf f.type=1/\P.underlying f.type=some (.int .i64))(hsz:fs.size=4)
 {cs:List Value} {x:DataW H×List MemPlace} {fuel:Nat} (h:DataW.trod enc P w 0 sp held fuel t cs=some x):∃c:OpX,∀j,j<4->cs[j]?=c.cells[j]?:=by
 obtain⟨xs,n,_,_,_,hxl,hx⟩:=DataW.trod_struct ht h;have each:∀j,j<4->∃z:Int,cs[j]?=some (.int .i64 z):=λj hj=>by
  obtain⟨f,h1,h2,h3,h4⟩:=hfs j hj;have h5:=hx j f h1;rw[h2,h3]at h5;obtain⟨y,hy⟩:∃y,xs[j]?=some y:=⟨_,List.getElem?_eq_getElem (by omega)⟩;rw[hy]at h5;obtain⟨z,h6,_⟩:=DataW.trod_int h4 h5;refine⟨z,?_⟩;have:((cs.drop j).take 1)[0]?=some (.int .i64 z):=by rw[h6];rfl
  rw[List.getElem?_take,if_pos (by omega),List.getElem?_drop,Nat.add_zero]at this;exact this
 obtain⟨z0,h0⟩:=each 0 (by omega);obtain⟨z1,h1⟩:=each 1 (by omega);obtain⟨z2,h2⟩:=each 2 (by omega);obtain⟨z3,h3⟩:=each 3 (by omega);refine⟨⟨z0,z1,z2,z3⟩,λj hj=>?_⟩;obtain rfl |rfl |rfl |rfl:j=0\/j=1\/j=2\/j=3:=by omega
 · exact h0
 · exact h1
 · exact h2
 · exact h3
theorem opl_open{t e:TypeId}{fs:Array Field}(ht:P.underlying t=some (.slice e))(he:P.underlying e=some (.struct fs))(hc:P.cellsOf e=4)(hfs:∀j,j<4->∃f,fs[j]?=some f/\f.offset=j/\P.cellsOf f.type=1/\P.underlying f.type=some (.int .i64))(hsz:fs.size=4)
 {cs:List Value} {d:DataW H} {ps:List MemPlace} {fuel:Nat} (h:DataW.trod enc P w 0 sp held fuel t cs=some (d,ps)):
 ∃(q:Option Addr)(l:List OpX)(C:Nat),cs=[.slice q l.length C]/\lenD d=l.length/\(l.length<=C/\(q=none->C=0))/\(l≠[]->∃gb go,q=some ⟨gb,go,none⟩/\∀(k:Nat)(c:OpX),l[k]?=some c->∀j,j<4->w.cell? ⟨gb,go+k*4+j,none⟩=c.cells[j]?):=by
 rcases open_slice ht h with⟨hcs,hx⟩|⟨a,len,cap,m,n,D,Pl,hcs,_,hl,_,hm,hx,hcell⟩
 · cases hx;exact⟨none,[],0,hcs,rfl,⟨Nat.le_refl _,λ_=>rfl⟩,λh=>absurd rfl h⟩
 · have hlm:len<=m:=by rw[hm];split<;>omega
   have each:∀i,i<len->∃c:OpX,∀j,j<4->w.cell? ((a.add (i*4)).add j)=c.cells[j]?:=λi hi=>by
    obtain⟨cs',h1,h2⟩:=hcell i (by omega);rw[hc]at h1;obtain⟨c,h3⟩:=op_open he hfs hsz h2;exact⟨c,λj hj=>((World.cells?_some h1).2.2 j hj).trans (h3 j hj)⟩
   obtain⟨c,hcc⟩:∃c:Nat->OpX,∀i,i<len->∀j,j<4->w.cell? ((a.add (i*4)).add j)=(c i).cells[j]?:=by
    classical
    refine⟨λi=>if h:i<len then(each i h).choose else⟨0,0,0,0⟩,λi hi=>?_⟩;simp only[hi,dif_pos];exact(each i hi).choose_spec
   cases hx;refine⟨some a,(List.range len).map c,cap,by simpa using hcs,by simp[lenD],⟨by simpa using hl,λe=>by cases e⟩,λhne=>?_⟩;have h0:0<len:=by have:=List.length_pos_iff.2 hne;simpa using this
   have hs:a.spot=none:=by
    have:=hcc 0 h0 0 (by omega);rw[Nat.zero_mul]at this;exact spot_add (a:=a) (v:=.int .i64 (c 0).k) (by simpa[Addr.add,OpX.cells]using this)
   refine⟨a.block,a.off,by obtain⟨b,o,s⟩:=a;simp only at hs;rw[hs],λk cc hk j hj=>?_⟩;have hkl:k<len:=by have:=(List.getElem?_eq_some_iff.1 hk).1;simpa using this
   have:=hcc k hkl j hj;rw[add_at hs,add_at rfl]at this;rw[this];rw[List.getElem?_map,List.getElem?_range hkl]at hk;cases hk;rfl
end
end Go.Proofs
namespace Go.Car
open Go Go.Conc
theorem leaving_of_cond{H:Type}{enc:TypeId×Value->H}{a:Assume}{C:Checked}{os:Os}{f:FuncId}{fn:Func}{s:OpenSpec}{k:(H:Type)->List (DataW H)->Bool}(hk:s.cond=some k){F:Stop.Interp}{conds:List PathCond}{apart fresh handsOn again:Bool}
 (own:ownKnob C.prog.godebug=none) (started:os.Started) (hfn:C.prog.funcs[f]?=some fn)
 (witness:∃(w:World)(tape:Tape)(i:Input),w.os=os/\(w.forCall tape i).Shaped C.prog/\i.vars=[]/\Input.okWide C.prog (w.forCall tape i) .any w.heap.size f i/\
  s.pre6 enc C.prog fn conds apart (w.forCall tape i).memory i.args/\a.holds C.prog (lone (Frame.enter C.prog f i.args .normal) [] (w.forCall tape i)))
 (runs:∀(W:World)(base:Nat)(args:Array Value)(ds gs:List (DataW H))(before:List MemPlace),
  (∀(j:Nat)t v,fn.params[j]?=some t->args[j]?=some v->Value.okWide C.prog W .any base t v)->
  DataW.Whole enc C.prog fn.params.toList s.vars apart W args.toList ds gs before->k H (ds++gs)=true->
  ∃M last o w' t',runNT C.prog (M+1) (solo (G (Frame.enter C.prog f args .normal) []) W) #[]=(.ended o w',t')/\runN C.prog M (solo (G (Frame.enter C.prog f args .normal) []) W)=.next last/\
   step C.prog last=.ended o w'/\Conc.Good C.prog (λv W'=>(s.at F).post enc C.prog fn apart fresh handsOn again W args v W') last o w' t'):
 ReturnsInLeavingWide a C os f .any (s.pre6 enc C.prog fn conds apart) ((s.at F).post enc C.prog fn apart fresh handsOn again):=by
 refine returnsInLeavingWide_of_good own started witness ?_;intro w tape i _ _ _ hok hpre _;obtain⟨_,_,_,fn',hfn',_,_,_,_,hval⟩:=hok;obtain rfl:fn'=fn:=Option.some.inj (hfn'.symm.trans hfn);obtain⟨ds,gs,before,hw,_,hkk⟩:=(OpenSpec.pre_some hk conds apart _ _).1 hpre.1;obtain⟨M,last,o,w',t',h1,h2,h3,h4⟩:=runs (w.forCall tape i) w.heap.size i.args ds gs before hval (DataW.Whole.of_heap (w':=w.forCall tape i) (by rfl) hw) hkk;exact⟨M,last,o,w',t',h1,h2,h3,h4.mono λv hp=>ChangeSpec.post_blind hp⟩
theorem holds_leaving_cond{p:Pinned}{s:OpenSpec}{c:OpenClaim}(f:FuncId)(fn:Func)
 (hn:c.program=p.name) (hs:c.sum=p.sum) (hsp:c.spec=s.name)
 (hstart:c.start=.entering) (hout:c.outside=[]) (hin:c.inits=[]) (hun:c.under=none) (hi4:c.initsInPlace=[]/\c.initsUnfollowed=false/\c.initsRecurse=false/\c.initsNamed=[]/\c.initsPassed=[]) (hnb:c.noBlocks=false) (hlv:c.leaving=true) (hfo:c.followed=none) (hnar:c.narrowed=s.cond.isSome) (hstill:c.still=false)
 (hfn:p.checked.prog.funcNamed c.func=some f) (hf:p.checked.prog.funcs[f]?=some fn)
 (closed:joinedFacts p.checked.prog f fn s.bare c=true)
 (hinst:fn.isInstance p.checked.prog c.origin c.targs) (hwrap:fn.isWrapper p.checked.prog c.wrapper c.mainSum)
 (h:∀os:Os,os.Started->∀(H:Type)(enc:TypeId×Value->H),(∀a b,enc a=enc b->a=b)->∀F:Stop.Interp,
  ReturnsInLeavingWide c.assume p.checked os f .any (c.pre enc p.checked.prog fn s) ((s.at F).post enc p.checked.prog fn c.apart c.fresh c.handsOn c.again)):c.holds p s:=by
 simp only[joinedFacts,Bool.and_eq_true,beq_iff_eq,Array.all_eq_true_iff_forall_mem,List.all_eq_true,decide_eq_true_eq]at closed;obtain⟨⟨⟨⟨⟨⟨⟨⟨⟨⟨⟨⟨⟨⟨⟨⟨⟨⟨⟨⟨⟨⟨⟨⟨⟨⟨⟨⟨⟨⟨⟨a1,a2⟩,a3⟩,a4⟩,a5⟩,a6⟩,a7⟩,a8⟩,a9⟩,a10⟩,a11⟩,a12⟩,a13⟩,a14⟩,a15⟩,a16⟩,a17⟩,b17⟩,a18⟩,a19⟩,a20⟩,a21⟩,a22⟩,a23⟩,b23⟩,a24⟩,b24⟩,c24⟩,a25⟩,a26⟩,a27⟩,a28⟩:=closed;have quiet:∀os:Os,Stop.quiet p.checked.prog os:=λos k hk=>by rw[a9]at hk;cases hk
 have fits:c.startFits p.checked.prog:=by unfold OpenClaim.startFits;rw[hstart];exact a24
 have told:c.startTold p.checked.prog:=by unfold OpenClaim.startTold;rw[hstart];exact⟨hin,hun,hi4⟩
 have named:namedTie p.checked.prog c.namedList s.vars=true:=by unfold OpenClaim.namedList;rw[hfo];exact a5
 have worded:p.checked.prog.envWorded=true:=by unfold Program.envWorded;rw[a9];rfl
 have world0:∃os:Os,c.world os/\Stop.quiet p.checked.prog os:=⟨_,by unfold OpenClaim.world;rw[hout,hstart];exact WideRow.started_initial,quiet _⟩;have lists0:c.lists p.checked.prog []:=by unfold OpenClaim.lists;rw[hfo]
 refine⟨a1,hn,hs,hsp,a2,a3,fits,told,f,fn,hfn,hf,⟨a4,a19⟩,(λhb=>by rw[hnb]at hb;cases hb),named,hinst,hwrap,
  a6.trans a7.symm,⟨a8.trans a9.symm,worded,b23⟩,a10,a11,a12,a13,a14,⟨a15,a27,a28⟩,⟨a16,a20⟩,⟨a17,a21,a25,a26⟩,⟨a22,b24,c24,b17⟩,(by rw[hout,hnar];cases hsh:c.shortTexts with|none=>simp |some _=>rw[hsh]at a23;cases a23),λn hn'=>varReadable_some (a18 n hn'),
  world0,[],lists0,λos st _ H enc inj=>?_⟩
 have st':os.Started:=by unfold OpenClaim.world at st;rw[hout,hstart]at st;exact st
 rw[OpenClaim.post_not_still hstill];unfold OpenClaim.form;rw[hstart,a6];intro F;have e1:c.okInput=Input.okWide:=by unfold OpenClaim.okInput;rw[hnb]
 have e2:c.atReturn p.checked.prog=leavingAtReturn p.checked.prog:=by unfold OpenClaim.atReturn;rw[hlv]
 have e3:c.always p.checked.prog []=nothingAlways:=by unfold OpenClaim.always;rw[hfo]
 have e4:s.post enc p.checked.prog fn F c.outside c.apart c.fresh c.handsOn c.again=(s.at F).post enc p.checked.prog fn c.apart c.fresh c.handsOn c.again:=by rw[hout];rfl
 rw[e1,e2,e3];show ReturnsInOpen _ _ _ _ _ _ _ _ (s.post enc p.checked.prog fn F c.outside c.apart c.fresh c.handsOn c.again) _ _;rw[e4];exact h os st' H enc inj F a24
end Go.Car
set_option maxHeartbeats 4000000
set_option maxRecDepth 100000
namespace Go.Proofs.Ytnjpcibdaanpeaa
open Go Go.Conc Go.RowKit Go.Car Go.ChangeShapes Go.WideShapes Go.ChangeAt
theorem bulk_one{H:Type}(d:DataW H):1<=Rows.uptoBulk d:=by
 cases d with
 |lit l=>cases l<;>simp[Rows.uptoBulk]
 |nil=>simp[Rows.uptoBulk]
 |ptr d=>simp[Rows.uptoBulk]
 |slice elems spare=>simp[Rows.uptoBulk]
 |agg parts=>simp[Rows.uptoBulk]
 |iface t d=>simp[Rows.uptoBulk]
 |map entries=>simp[Rows.uptoBulk]
 |held h=>simp[Rows.uptoBulk]
theorem bulk_mem{H:Type}{d:DataW H}{l:List (DataW H)}(h:d∈l):Rows.uptoBulk d<=Rows.uptoBulkAll l:=by
 induction l with
 |nil=>cases h
 |cons x r ih=>
  simp only[Rows.uptoBulkAll];rcases List.mem_cons.1 h with e|e
  · subst e;omega
  · have:=ih e;omega
theorem bulk_length{H:Type}(l:List (DataW H)):l.length<=Rows.uptoBulkAll l:=by
 induction l with
 |nil=>simp[Rows.uptoBulkAll]
 |cons x r ih=>have:=bulk_one x;simp only[Rows.uptoBulkAll,List.length_cons];omega
theorem bulk_lenD{H:Type}(d:DataW H):lenD d<=Rows.uptoBulk d:=by
 cases d with
 |slice e s=>have:=bulk_length e;simp only[lenD,Rows.uptoBulk];omega
 |_=>exact Nat.zero_le _
theorem bulk_small{H:Type}{l:List (DataW H)}(hk:Rows.uptoSmall H l=true){d:DataW H}(h:d∈l):Rows.uptoBulk d<=1048576:=by
 have h1:=of_decide_eq_true hk;have h2:=bulk_mem h;omega
theorem own_knob:ownKnob Try.prog.godebug=none:=by kernel_rfl
theorem laid_out:laidOutB Try.prog=true:=by kernel_rfl
theorem reads_same{H:Type}{enc:TypeId×Value->H}{t:TypeId}(hr:Try.prog.readableRec t=true)(hrow:t<Try.prog.types.size){W w':World}{v:Value}{d:DataW H}{ps:List MemPlace}
 (h:DataW.Trod enc Try.prog W 0 (λ_=>true) true t v d ps) (hb:Beyond W w') (hlt:∀x∈ps,x.block<W.heap.size):DataW.Trod enc Try.prog w' 0 (λb=>decide (b<W.heap.size)) true t v d ps:=
 DataW.Trod.of_heap (w:={w' with os:=W.os,tape:=W.tape,output:=W.output}) (by rfl) (Below.trod laid_out hr hrow h ⟨rfl,rfl,rfl,hb.1,hb.2⟩ hlt)
theorem kept_same{W w':World}(hb:Beyond W w')(ho:w'.os=W.os)(hu:w'.output=W.output)(may:MemPlace->Prop):W.keptBut w' may:=by
 have h:=Below.frame (W:=W) (w':={w' with os:=W.os,tape:=W.tape,output:=W.output}) ⟨rfl,rfl,rfl,hb.1,hb.2⟩ may;exact⟨ho,hu,h.2.2⟩
theorem op_fields:∃fs,Try.prog.underlying 46=some (.struct fs)/\fs.size=4/\∀j,j<4->∃f,fs[j]?=some f/\f.offset=j/\Try.prog.cellsOf f.type=1/\Try.prog.underlying f.type=some (.int .i64):=by
 refine⟨_,Try.underlying46,rfl,λj hj=>?_⟩;obtain rfl |rfl |rfl |rfl:j=0\/j=1\/j=2\/j=3:=by omega
 all_goals exact⟨_,rfl,rfl,by kernel_rfl,by kernel_rfl⟩
end Go.Proofs.Ytnjpcibdaanpeaa
set_option maxHeartbeats 1000000
set_option maxRecDepth 100000
namespace Go.Proofs
open Go Go.Conc Go.RowKit Go.Car
def aL:List FuncId:=[9,15,16,24,12,13,31,17,18,25,37,48,32,34,35,36,28,29,39,40,41,42,52,54,53,11,19,71].append [43,46,44,45]
def aM(f:FuncId):Bool:=aL.contains f
theorem okf0:okFn Try.prog aM 9:=.text _ _ Try.func9 rfl (by kernel_rfl) (by kernel_rfl)
theorem okf1:okFn Try.prog aM 15:=.text _ _ Try.func15 rfl (by kernel_rfl) (by kernel_rfl)
theorem okf2:okFn Try.prog aM 16:=.text _ _ Try.func16 rfl (by kernel_rfl) (by kernel_rfl)
theorem okf3:okFn Try.prog aM 24:=.text _ _ Try.func24 rfl (by kernel_rfl) (by kernel_rfl)
theorem okf4:okFn Try.prog aM 12:=.text _ _ Try.func12 rfl (by kernel_rfl) (by kernel_rfl)
theorem okf5:okFn Try.prog aM 13:=.text _ _ Try.func13 rfl (by kernel_rfl) (by kernel_rfl)
theorem okf6:okFn Try.prog aM 31:=.text _ _ Try.func31 rfl (by kernel_rfl) (by kernel_rfl)
theorem okf7:okFn Try.prog aM 17:=.text _ _ Try.func17 rfl (by kernel_rfl) (by kernel_rfl)
theorem okf8:okFn Try.prog aM 18:=.text _ _ Try.func18 rfl (by kernel_rfl) (by kernel_rfl)
theorem okf9:okFn Try.prog aM 25:=.text _ _ Try.func25 rfl (by kernel_rfl) (by kernel_rfl)
theorem okf10:okFn Try.prog aM 37:=.text _ _ Try.func37 rfl (by kernel_rfl) (by kernel_rfl)
theorem okf11:okFn Try.prog aM 48:=.text _ _ Try.func48 rfl (by kernel_rfl) (by kernel_rfl)
theorem okf12:okFn Try.prog aM 32:=.text _ _ Try.func32 rfl (by kernel_rfl) (by kernel_rfl)
theorem okf13:okFn Try.prog aM 34:=.text _ _ Try.func34 rfl (by kernel_rfl) (by kernel_rfl)
theorem okf14:okFn Try.prog aM 35:=.text _ _ Try.func35 rfl (by kernel_rfl) (by kernel_rfl)
theorem okf15:okFn Try.prog aM 36:=.text _ _ Try.func36 rfl (by kernel_rfl) (by kernel_rfl)
theorem okf16:okFn Try.prog aM 28:=.text _ _ Try.func28 rfl (by kernel_rfl) (by kernel_rfl)
theorem okf17:okFn Try.prog aM 29:=.text _ _ Try.func29 rfl (by kernel_rfl) (by kernel_rfl)
theorem okf18:okFn Try.prog aM 39:=.text _ _ Try.func39 rfl (by kernel_rfl) (by kernel_rfl)
theorem okf19:okFn Try.prog aM 40:=.text _ _ Try.func40 rfl (by kernel_rfl) (by kernel_rfl)
theorem okf20:okFn Try.prog aM 41:=.text _ _ Try.func41 rfl (by kernel_rfl) (by kernel_rfl)
theorem okf21:okFn Try.prog aM 42:=.text _ _ Try.func42 rfl (by kernel_rfl) (by kernel_rfl)
theorem okf22:okFn Try.prog aM 52:=.text _ _ Try.func52 rfl (by kernel_rfl) (by kernel_rfl)
theorem okf23:okFn Try.prog aM 54:=.text _ _ Try.func54 rfl (by kernel_rfl) (by kernel_rfl)
theorem okf24:okFn Try.prog aM 53:=.text _ _ Try.func53 rfl (by kernel_rfl) (by kernel_rfl)
theorem okf25:okFn Try.prog aM 11:=.text _ _ Try.func11 rfl (by kernel_rfl) (by kernel_rfl)
theorem okf26:okFn Try.prog aM 19:=.text _ _ Try.func19 rfl (by kernel_rfl) (by kernel_rfl)
theorem okf27:okFn Try.prog aM 71:=.text _ _ Try.func71 rfl (by kernel_rfl) (by kernel_rfl)
theorem okr0:okFn Try.prog aM 43:=.row _ (Extern.Atomic.loadT (.int .i64)) Try.func43 rfl (by kernel_rfl) (by kernel_rfl) (by kernel_rfl) (λ_=>tame_loadT _ _)
theorem okr1:okFn Try.prog aM 46:=.row _ (Extern.Atomic.storeT) Try.func46 rfl (by kernel_rfl) (by kernel_rfl) (by kernel_rfl) (λ_=>tame_storeT _)
theorem okr2:okFn Try.prog aM 44:=.row _ (Extern.Atomic.update (Op.intArith .add) .i64 true) Try.func44 rfl (by kernel_rfl) (by kernel_rfl) (by kernel_rfl) (λ_=>tame_update _ _ _)
theorem okr3:okFn Try.prog aM 45:=.row _ (Extern.Atomic.swapT (.int .i64)) Try.func45 rfl (by kernel_rfl) (by kernel_rfl) (by kernel_rfl) (λ_=>tame_swapT _ _)
theorem noReady:(Try.prog.funcs.toList.all λf=>match f.body with|some c=>(readies c).isEmpty|none=>true)=true:=by kernel_rfl
theorem stepOf_none(g:Nat):Try.prog.stepOf g=none:=by
 unfold Program.stepOf;rw[Array.findIdx?_eq_none_iff];intro f hf;have h:=noReady;rw[List.all_eq_true]at h;have:=h f (by simpa using hf);cases hb:f.body with
 |none=>rfl
 |some c=>rw[hb]at this;simp only[List.isEmpty_iff]at this;simp[this]
theorem zql:Plain Try.prog aM:=by
 refine⟨λf hf=>?_,by kernel_rfl,stepOf_none⟩;have hf':f∈aL:=by simpa[aM]using hf
 simp only[aL,List.append_eq,List.cons_append,List.nil_append,List.mem_cons,List.not_mem_nil,or_false]at hf';rcases hf' with rfl |rfl |rfl |rfl |rfl |rfl |rfl |rfl |rfl |rfl |rfl |rfl |rfl |rfl |rfl |rfl |rfl |rfl |rfl |rfl |rfl |rfl |rfl |rfl |rfl |rfl |rfl |rfl |rfl |rfl |rfl |rfl
 · exact okf0
 · exact okf1
 · exact okf2
 · exact okf3
 · exact okf4
 · exact okf5
 · exact okf6
 · exact okf7
 · exact okf8
 · exact okf9
 · exact okf10
 · exact okf11
 · exact okf12
 · exact okf13
 · exact okf14
 · exact okf15
 · exact okf16
 · exact okf17
 · exact okf18
 · exact okf19
 · exact okf20
 · exact okf21
 · exact okf22
 · exact okf23
 · exact okf24
 · exact okf25
 · exact okf26
 · exact okf27
 · exact okr0
 · exact okr1
 · exact okr2
 · exact okr3
theorem rowsM:RowsS Try.prog aM:=by
 intro f hf fn e h1 h2 h3 args;have hf':f∈aL:=by simpa[aM]using hf
 simp only[aL,List.append_eq,List.cons_append,List.nil_append,List.mem_cons,List.not_mem_nil,or_false]at hf';rcases hf' with rfl |rfl |rfl |rfl |rfl |rfl |rfl |rfl |rfl |rfl |rfl |rfl |rfl |rfl |rfl |rfl |rfl |rfl |rfl |rfl |rfl |rfl |rfl |rfl |rfl |rfl |rfl |rfl |rfl |rfl |rfl |rfl
 · rw[Try.func9]at h1;cases h1;cases h2
 · rw[Try.func15]at h1;cases h1;cases h2
 · rw[Try.func16]at h1;cases h1;cases h2
 · rw[Try.func24]at h1;cases h1;cases h2
 · rw[Try.func12]at h1;cases h1;cases h2
 · rw[Try.func13]at h1;cases h1;cases h2
 · rw[Try.func31]at h1;cases h1;cases h2
 · rw[Try.func17]at h1;cases h1;cases h2
 · rw[Try.func18]at h1;cases h1;cases h2
 · rw[Try.func25]at h1;cases h1;cases h2
 · rw[Try.func37]at h1;cases h1;cases h2
 · rw[Try.func48]at h1;cases h1;cases h2
 · rw[Try.func32]at h1;cases h1;cases h2
 · rw[Try.func34]at h1;cases h1;cases h2
 · rw[Try.func35]at h1;cases h1;cases h2
 · rw[Try.func36]at h1;cases h1;cases h2
 · rw[Try.func28]at h1;cases h1;cases h2
 · rw[Try.func29]at h1;cases h1;cases h2
 · rw[Try.func39]at h1;cases h1;cases h2
 · rw[Try.func40]at h1;cases h1;cases h2
 · rw[Try.func41]at h1;cases h1;cases h2
 · rw[Try.func42]at h1;cases h1;cases h2
 · rw[Try.func52]at h1;cases h1;cases h2
 · rw[Try.func54]at h1;cases h1;cases h2
 · rw[Try.func53]at h1;cases h1;cases h2
 · rw[Try.func11]at h1;cases h1;cases h2
 · rw[Try.func19]at h1;cases h1;cases h2
 · rw[Try.func71]at h1;cases h1;cases h2
 · rw[Try.func43]at h1;cases h1;have h4:Extern.find Try.f43=some (Extern.Atomic.loadT (.int .i64)):=by kernel_rfl
   rw[h4]at h3;cases h3;exact steady_loadT _ _
 · rw[Try.func46]at h1;cases h1;have h4:Extern.find Try.f46=some (Extern.Atomic.storeT):=by kernel_rfl
   rw[h4]at h3;cases h3;exact steady_storeT _
 · rw[Try.func44]at h1;cases h1;have h4:Extern.find Try.f44=some (Extern.Atomic.update (Op.intArith .add) .i64 true):=by kernel_rfl
   rw[h4]at h3;cases h3;exact steady_update _ _ _
 · rw[Try.func45]at h1;cases h1;have h4:Extern.find Try.f45=some (Extern.Atomic.swapT (.int .i64)):=by kernel_rfl
   rw[h4]at h3;cases h3;exact steady_swapT _ _
end Go.Proofs
set_option maxHeartbeats 1000000
namespace Go.Car
open Go Go.Conc Go.RowKit
def mach(g:Goroutine)(w:World):Machine:={world:=w,gs:=#[g],rest:={timers:=#[],alone:=none,slice:=none}}
section
variable {P:Program}
end
section
variable {P:Program} {A:FuncId->Bool} {Ml S α:Type} {C:Core Ml S} {ro:Nat->Option Obj} {i:Nat}
structure LoneAt(C:Core Ml S)(ro:Nat->Option Obj)(i cf:Nat)(m₀:BM Ml)(w₀:World)(T:S×Option α×Nat)(m:BM Ml)(w:World)(r:S×Tree S α):Prop where
 rep:BRep C ro m w
 size:w₀.heap.size<=w.heap.size
 old:∀b,b<w₀.heap.size->¬BM.foot C ro m₀ b->w.heap[b]?=w₀.heap[b]?
 grow:∀b,BM.foot C ro m b->BM.foot C ro m₀ b\/w₀.heap.size<=b
 run:∃n,r.2.run r.1=(T.1,T.2.1,n)/\(∃a,T.2.1=some a)/\C.pin m.l+cf*n=C.pin m₀.l+cf*T.2.2
 others:∀j,j≠i->m.box j=m₀.box j
theorem LoneAt.done {cf:Nat}{m₀:BM Ml}{w₀:World}{T:S×Option α×Nat}{m:BM Ml}{w w':World}{r:S×Tree S α}{l':Ml}{B':Nat->Option Obj}(h:LoneAt C ro i cf m₀ w₀ T m w r)(k:Moved C m.l (m.box i) w l' B' w'):LoneAt C ro i cf m₀ w₀ T (m.put i l' B') w' r:=by
 refine⟨k.done h.rep,Nat.le_trans h.size k.size,λb hb hf=>?_,λb hb=>?_,?_,λj hj=>(BM.put_other _ _ _ hj).trans (h.others j hj)⟩
 · rw[Moved.foot_old h.rep k b (Nat.lt_of_lt_of_le hb h.size) λhf'=>(h.grow b hf').elim hf (λx=>absurd hb (Nat.not_lt_of_le x))];exact h.old b hb hf
 · exact(k.foot_grow b hb).elim (h.grow b) (λx=>.inr (Nat.le_trans h.size x))
 · obtain⟨n,h1,h2,h3⟩:=h.run;exact⟨n,h1,h2,by rw[BM.put_l,k.pin];exact h3⟩
def seqAlone(hP:Plain P A){main:Bool}{Kc:Addr->Option Value}{J:Goroutine->World->Prop}(hJ:JS P main Kc (λ(_:Unit)=>J))(hC:CalmJ P main (λ(_:Unit)=>J))(C:Core Ml S)(ro:Nat->Option Obj)(i cf:Nat)(m₀:BM Ml)(w₀:World)(T:S×Option α×Nat):Alone P A C ro i α where
 main:=main
 γ:=Unit
 J _:=J
 js _:=⟨Kc,hJ⟩
 AtE _ m w r:=LoneAt C ro i cf m₀ w₀ T m w r
 Dead _ _ _:=False
 Oth _ _:=True
 oth _:=trivial
 rep h:=h.rep
 move h k _:=h.done k
 item {s m w r it t ds} Φ Ψ h hok hw:=by
  intro b k cs hb hk;refine wpI_lone (J:=λ(_:Unit)=>J) (s:=()) (A:=A) (a:=⟨t,ds⟩) (w:=w)
   (Q:=λ_ e a w'=>a.defers=ds/\∃l' B',((e=.normal/\Φ a.tmps l' B')\/(e=.ret/\Ψ a.tmps l' B'))/\LoneAt C ro i cf m₀ w₀ T (m.put i l' B') w' r) hJ hC hP hok
   (λa w'=>∃l' B',Moved C m.l (m.box i) w l' B' w'/\Φ a.tmps l' B') (λa w'=>∃l' B',Moved C m.l (m.box i) w l' B' w'/\Ψ a.tmps l' B')
   (λa w' τ d⟨l',B',h2,h3⟩=>⟨l',B',h2.re τ d,h3⟩) (λa w' τ d⟨l',B',h2,h3⟩=>⟨l',B',h2.re τ d,h3⟩) ?_ ?_ ?_ b k cs hb ?_
  · intro τ d;refine zq2y (hw (Car.re w τ d) (h.rep.re τ d) rfl) ?_;intro e a w' q;cases e with
    |normal=>obtain⟨q1,l',B',⟨q2,_⟩,q3⟩:=q;exact⟨q1,l',B',⟨q2.size,q2.old,q2.rep,q2.box,q2.growl,q2.growb,q2.apart,q2.pin⟩,q3⟩
    |ret=>obtain⟨q1,l',B',⟨q2,_⟩,q3⟩:=q;exact⟨q1,l',B',⟨q2.size,q2.old,q2.rep,q2.box,q2.growl,q2.growb,q2.apart,q2.pin⟩,q3⟩
    |_=>exact q
  · rintro t' w' ⟨l',B',h2,h3⟩;exact⟨rfl,l',B',.inl ⟨rfl,h3⟩,h.done h2⟩
  · rintro t' w' ⟨l',B',h2,h3⟩;exact⟨rfl,l',B',.inr ⟨rfl,h3⟩,h.done h2⟩
  · rintro _ e a w' ⟨h1,l',B',h2,h3⟩;have:=hk s e a w' ⟨rfl,h1,l',B',h2,h3⟩;cases e<;>exact this
 call {s m w r g fn c args} R' h hf hb hok hw:=by
  intro cl cs h1 h2;refine callsJ_lone (J:=λ(_:Unit)=>J) (s:=()) (A:=A) (w:=w) hJ hC hP hf hb hok (R:=λv w'=>∃l' B',Moved C m.l (m.box i) w l' B' w'/\R' v l' B')
   (λv w' τ d⟨l',B',h2,h3⟩=>⟨l',B',h2.re τ d,h3⟩) ?_ cl cs ?_ ?_
  · intro τ d;refine Calls.mono (hw (Car.re w τ d) (h.rep.re τ d) rfl) ?_;intro e w' q;cases e with
    |returned v=>obtain⟨l',B',⟨q2,_⟩,q3⟩:=q;exact⟨l',B',⟨q2.size,q2.old,q2.rep,q2.box,q2.growl,q2.growb,q2.apart,q2.pin⟩,q3⟩
    |_=>exact q
  · rintro s' v w' ⟨_,l',B',k1,k2⟩;exact h1 () v w' ⟨rfl,v,l',B',rfl,k2,h.done k1⟩
  · rintro s' ch w' hf';exact hf'.elim
abbrev seqSys(hP:Plain P A){main:Bool}{Kc:Addr->Option Value}{J:Goroutine->World->Prop}(hJ:JS P main Kc (λ(_:Unit)=>J))(hC:CalmJ P main (λ(_:Unit)=>J))(C:Core Ml S)(ro:Nat->Option Obj)(i cf:Nat)(m₀:BM Ml)(w₀:World)(T:S×Option α×Nat):YSys P A C ro i α:=(seqAlone hP hJ hC C ro i cf m₀ w₀ T).sys (λ_=>True)
theorem seq_calls(hP:Plain P A){main:Bool}{Kc:Addr->Option Value}{J:Goroutine->World->Prop}(hJ:JS P main Kc (λ(_:Unit)=>J))(hC:CalmJ P main (λ(_:Unit)=>J)){f:FuncId}{args:Array Value}{p:Proc S α}{val:α->Value}{m₀:BM Ml}{w₀:World}(hrep:BRep C ro m₀ w₀)(hT:∃a,(p.run (C.st m₀.l)).2.1=some a)(cf:Nat)
 (hspec:SpecY (seqSys hP hJ hC C ro i cf m₀ w₀ (p.run (C.st m₀.l))) f args p val) {cl:Frame} {cs:List Frame}
 (hq:∀a m' w',m'.box i=m₀.box i->LoneAt C ro i cf m₀ w₀ (p.run (C.st m₀.l)) m' w' (C.st m'.l,.ret a)->J (G (cl.finish (val a)) cs) w'):J (G (Frame.enter P f args .normal) (cl::cs)) w₀:=by
 have h0:LoneAt C ro i cf m₀ w₀ (p.run (C.st m₀.l)) m₀ w₀ (p.bind Proc.ret (C.st m₀.l)):=by
  rw[Proc.bind_pure];exact⟨hrep,Nat.le_refl _,λ_ _ _=>rfl,λ_ h=>.inl h,⟨_,rfl,hT,rfl⟩,λ_ _=>rfl⟩
 refine hspec Proc.ret () m₀ w₀ (λ_=>trivial) ⟨h0,trivial⟩ cl cs ?_ ?_
 · rintro s' v w' ⟨a,m',rfl,k2,k3,_⟩;exact hq a m' w' k2 k3
 · intro s' ch w' hf;exact hf.elim
theorem LoneAt.skip {m₀:BM Ml}{w₀:World}{T:S×Option α×Nat}{m:BM Ml}{w:World}{K:Unit->Proc S α}(h:LoneAt C ro i 0 m₀ w₀ T m w (Proc.tick.bind K (C.st m.l))):LoneAt C ro i 0 m₀ w₀ T m w (K () (C.st m.l)):=by
 refine⟨h.rep,h.size,h.old,h.grow,?_,h.others⟩;obtain⟨n,h1,h2,h3⟩:=h.run;have e:(Proc.tick.bind K (C.st m.l)).2.run (Proc.tick.bind K (C.st m.l)).1=(((K ()).run (C.st m.l)).1,((K ()).run (C.st m.l)).2.1,((K ()).run (C.st m.l)).2.2+1):=rfl;rw[e]at h1;refine⟨((K ()).run (C.st m.l)).2.2,?_,h2,by omega⟩;show(K ()).run (C.st m.l)=_;have a1:=congrArg (λx=>x.1) h1;have a2:=congrArg (λx=>x.2.1) h1;exact Prod.ext a1 (Prod.ext a2 rfl)
theorem LoneAt.count {m₀:BM Ml}{w₀:World}{T:S×Option α×Nat}{m:BM Ml}{w w':World}{l':Ml}{K:Unit->Proc S α}(h:LoneAt C ro i 1 m₀ w₀ T m w (Proc.tick.bind K (C.st m.l)))(hst:C.st l'=C.st m.l)(hpin:C.pin l'=C.pin m.l+1)(hl:∀b,C.foot l' b↔C.foot m.l b)(hrep:BRep C ro ⟨l',m.box⟩ w')(hs:w.heap.size<=w'.heap.size)(ho:∀b,b<w.heap.size->¬C.foot m.l b->w'.heap[b]?=w.heap[b]?):LoneAt C ro i 1 m₀ w₀ T ⟨l',m.box⟩ w' (K () (C.st l')):=by
 have hf:∀b,BM.foot C ro ⟨l',m.box⟩ b↔BM.foot C ro m b:=λb=>⟨λx=>x.elim (λy=>.inl ((hl b).1 y)) .inr,λx=>x.elim (λy=>.inl ((hl b).2 y)) .inr⟩;refine⟨hrep,Nat.le_trans h.size hs,λb hb hn=>?_,λb hb=>h.grow b ((hf b).1 hb),?_,h.others⟩
 · rw[ho b (Nat.lt_of_lt_of_le hb h.size) λx=>(h.grow b (.inl x)).elim hn (λy=>absurd hb (Nat.not_lt_of_le y))];exact h.old b hb hn
 obtain⟨n,h1,h2,h3⟩:=h.run;have e:(Proc.tick.bind K (C.st m.l)).2.run (Proc.tick.bind K (C.st m.l)).1=(((K ()).run (C.st m.l)).1,((K ()).run (C.st m.l)).2.1,((K ()).run (C.st m.l)).2.2+1):=rfl;rw[e]at h1;have a1:=congrArg (λx=>x.1) h1;have a2:=congrArg (λx=>x.2.1) h1;have a3:=congrArg (λx=>x.2.2) h1;simp only at a1 a2 a3;refine⟨((K ()).run (C.st m.l)).2.2,?_,h2,by show C.pin l'+_=_;omega⟩;rw[hst];show(K ()).run (C.st m.l)=_;exact Prod.ext a1 (Prod.ext a2 rfl)
end
end Go.Car
set_option maxHeartbeats 2000000
set_option maxRecDepth 100000
namespace Go.Proofs
open Go Go.Conc Go.RowKit Go.Car
def idx(a:Int)(n:Nat):Nat:=(a % (n:Int)).toNat
theorem idx_lt(a:Int){n:Nat}(hn:0<n):idx a n<n:=by
 have h1:=Int.emod_nonneg a (b:=(n:Int)) (by omega);have h2:=Int.emod_lt_of_pos a (b:=(n:Int)) (by omega);unfold idx;omega
theorem idx_val(a:Int){n:Nat}(hn:0<n):(a.tmod n+n).tmod n=(idx a n:Int):=by
 have h1:=Int.emod_nonneg a (b:=(n:Int)) (by omega);have h3: -(n:Int)<a.tmod n:=Int.lt_tmod_of_pos a (by omega);have h4:(0:Int)<=a.tmod n+n:=by omega
 rw[Int.tmod_eq_emod_of_nonneg h4,Int.add_emod_right];have:(a.tmod n) % (n:Int)=a % n:=by
  rw[Int.tmod_def,Int.sub_emod,Int.mul_emod_right];simp
 rw[this];unfold idx;omega
def moreV(z:Option Nat)(N:Nat):Value:=
 match z with
 |none=>.slice none 0 0
 |some mb=>.slice (some ⟨mb,0,none⟩) N N
def oneV(z:Option Nat)(l:List Int):Value:=
 match z with
 |none=>.int .i64 (l.getD 0 0)
 |some _=>.int .i64 0
structure StrRep(cb:Nat)(z:Option Nat)(N:Nat)(l:List Int)(w:World):Prop where
 len:l.length=N
 pos:0<N
 le:N<=64
 ctr:w.heap[cb]?=some (.cells #[oneV z l,moreV z N] 63)
 nums:∀mb,z=some mb->w.heap[mb]?=some (.cells (l.map (Value.int .i64)).toArray 60)
 zero:z=none->N=1
def loc(cb:Nat)(z:Option Nat)(N:Nat)(a:Int):Addr:=
 match z with
 |none=>⟨cb,0,none⟩
 |some mb=>⟨mb,idx a N,none⟩
def zq6(cb:Nat)(z:Option Nat)(N:Nat):Core (List Int) (List Int) where
 foot _ b:=b=cb\/z=some b
 Rep:=StrRep cb z N
 st l:=l
 frame l w w' h hs:=⟨h.len,h.pos,h.le,(hs cb (.inl rfl)).trans h.ctr,λmb hz=>(hs mb (.inr hz)).trans (h.nums mb hz),h.zero⟩
 lt l w b h hb:=hb.elim (λe=>by subst e;exact zq7 h.ctr) (λe=>zq7 (h.nums b e))
 pin _:=0
section
variable {cb:Nat} {z:Option Nat} {N:Nat} {l:List Int} {w:World}
theorem StrRep.cell (h:StrRep cb z N l w)(a:Int):w.cell? (loc cb z N a)=some (.int .i64 (l.getD (idx a N) 0)):=by
 cases hz:z with
 |none=>
  subst hz;have hN:=h.zero rfl;subst hN;have e:idx a 1=0:=by have:=idx_lt a (n:=1) (by omega);omega
  rw[e];exact(zq0 h.ctr).trans rfl
 |some mb=>
  subst hz;refine(zq0 (h.nums mb rfl)).trans ?_;have:=idx_lt a h.pos;have hl:=h.len;simp[loc,show idx a N<l.length by omega]
theorem StrRep.frozen (h:StrRep cb z N l w)(a:Int):w.frozen? (loc cb z N a)=false:=by
 cases hz:z with
 |none=>subst hz;exact zq3 h.ctr
 |some mb=>subst hz;exact zq3 (h.nums mb rfl)
theorem StrRep.set (h:StrRep cb z N l w)(a:Int)(x:Int):StrRep cb z N (l.set (idx a N) x) (w.setCell (loc cb z N a) (.int .i64 x)):=by
 have hl:=h.len;cases hz:z with
 |none=>
  subst hz;have hN:=h.zero rfl;subst hN;have e:idx a 1=0:=by have:=idx_lt a (n:=1) (by omega);omega
  refine⟨by simpa using hl,by omega,by omega,?_,λmb hm=>(by cases hm),λ_=>rfl⟩;rw[e];refine(zqb _ _ _ _ h.ctr).trans ?_
  match l,hl with
  |[y],_=>rfl
 |some mb=>
  subst hz;have hne:mb≠cb:=by
   intro e;have h1:=h.nums mb rfl;rw[e,h.ctr]at h1;injection h1 with h1
   injection h1 with _ h2 _
   exact absurd h2 (by decide)
  refine⟨by simpa using hl,h.pos,h.le,?_,λm2 hm=>?_,λhm=>(by cases hm)⟩
  · exact(zq4 _ _ _ _ (by exact λe=>hne e.symm)).trans h.ctr
  · cases hm;refine(zqb _ _ _ _ (h.nums mb rfl)).trans ?_;congr 2;apply Array.ext_getElem?;intro j;simp only[al_gs,al_gl,List.getElem?_map,List.getElem?_set,List.size_toArray,List.length_map]
    by_cases e:idx a N=j
    · rw[if_pos e,if_pos e]
      by_cases h2:idx a N<l.length<;>simp[h2]
    · rw[if_neg e,if_neg e]
theorem loc_foot(cb:Nat)(z:Option Nat)(N:Nat)(a:Int):(loc cb z N a).block=cb\/z=some (loc cb z N a).block:=by
 cases z with
 |none=>exact .inl rfl
 |some mb=>exact .inr rfl
structure HeadAt(cb:Nat)(z:Option Nat)(N:Nat)(w:World):Prop where
 pos:0<N
 le:N<=64
 cell:w.cell? ⟨cb,1,none⟩=some (moreV z N)
 zero:z=none->N=1
theorem StrRep.head (h:StrRep cb z N l w):HeadAt cb z N w:=⟨h.pos,h.le,(zq0 h.ctr).trans rfl,h.zero⟩
theorem zq34(h:HeadAt cb z N w):Calls Try.prog 13 #[.pointer (some ⟨cb,0,none⟩)] w λe w'=>e=.returned (.int .i64 N)/\w'=w:=by
 have c1:w.cell? ⟨cb,1,none⟩=some (moreV z N):=h.cell;have hN:=h.pos
 go_enter Try.func13,Try.ntmps13
 cases hz:z with
 |none=>
  subst hz;have hN:=h.zero rfl;subst hN;simp only[moreV]at c1;go_wp2;go_ret;exact⟨rfl,rfl⟩
 |some mb=>
  subst hz;simp only[moreV]at c1;go_wp2;go_ret;refine⟨?_,rfl⟩;congr 2
theorem stripe_lone(h:HeadAt cb z N w)(a:Int):Calls Try.prog 31 #[.pointer (some ⟨cb,0,none⟩),.int .i64 a] w λe w'=>e=.returned (.pointer (some (loc cb z N a)))/\∃τ d,w'=Car.re w τ d:=by
 have c1:w.cell? ⟨cb,1,none⟩=some (moreV z N):=h.cell;have hp:=h.pos;have hle:=h.le
 go_enter Try.func31,Try.ntmps31
 cases hz:z with
 |none=>
  subst hz;simp only[moreV]at c1;go_wp2;go_ret;exact⟨rfl,w.tape,w.drawn,rfl⟩
 |some mb=>
  subst hz;simp only[moreV]at c1;have hne:¬(N:Int)=0:=by omega
  have h1: -(N:Int)<a.tmod N:=Int.lt_tmod_of_pos a (by omega);have h2:a.tmod N<N:=Int.tmod_lt_of_pos a (by omega);have e0:IntKind.i64.wrap (a.tmod N)=a.tmod N:=IntWalk.i64_in _ (by omega);have e1:IntKind.i64.wrap (a.tmod N+N)=a.tmod N+N:=IntWalk.i64_in _ (by omega);have e2:=idx_val a hp;have h3:=idx_lt a hp;have h4:(0:Int)<=(idx a N:Nat):=by omega
  have h5:((idx a N:Nat):Int)<N:=by omega
  have e3:IntKind.i64.wrap ((idx a N:Nat):Int)=((idx a N:Nat):Int):=IntWalk.i64_in _ (by omega);go_wp2
  go_quiet (fail)
  go_wp2;go_ret;exact⟨rfl,w.tape,w.drawn+_,rfl⟩
end
set_option maxHeartbeats 1000000
set_option maxRecDepth 100000
theorem load_lone(ad:Addr)(x:Int)(w:World)(h0:w.cell? ad=some (.int .i64 x)):
 Calls Try.prog 32 #[.pointer (some ad)] w λe w'=>e=.returned (.int .i64 x)/\w'=w:=by
 have hl:=run_call_load (P:=Try.prog) Try.func43 (by kernel_rfl) (by kernel_rfl) (by kernel_rfl) .i64 (by kernel_rfl) h0
 go_enter Try.func32,Try.ntmps32
 go_wp2;go_ret;exact⟨rfl,rfl⟩
theorem store_lone(ad:Addr)(x y:Int)(w:World)(h0:w.cell? ad=some (.int .i64 x))(f0:w.frozen? ad=false):
 Calls Try.prog 36 #[.pointer (some ad),.int .i64 y] w λe w'=>e=.returned (.tuple #[])/\w'=w.setCell ad (.int .i64 y):=by
 have hl:=run_call_store (P:=Try.prog) Try.func46 (by kernel_rfl) (by kernel_rfl) (by kernel_rfl) (by kernel_rfl) (k:=.i64) (y:=y) h0 f0
 go_enter Try.func36,Try.ntmps36
 go_wp2
 go_end0
 exact⟨rfl,rfl⟩
theorem add_lone(ad:Addr)(x y:Int)(w:World)(h0:w.cell? ad=some (.int .i64 x))(f0:w.frozen? ad=false):
 Calls Try.prog 34 #[.pointer (some ad),.int .i64 y] w λe w'=>e=.returned (.int .i64 (IntKind.i64.wrap (x+y)))/\w'=w.setCell ad (.int .i64 (IntKind.i64.wrap (x+y))):=by
 have hl:=run_call_add (P:=Try.prog) Try.func44 (by kernel_rfl) (by kernel_rfl) (by kernel_rfl) .i64 (by kernel_rfl) (y:=y) (s:=IntKind.i64.wrap (x+y)) h0 f0 (by rfl)
 go_enter Try.func34,Try.ntmps34
 go_wp2;go_ret;have hw:wrap64 (x+y)=IntKind.i64.wrap (x+y):=by rw[IntKind.wrap_i64];simp only[wrap64]
 rw[hw];exact⟨rfl,rfl⟩
theorem run_call_swap{P:Program}{f:FuncId}{fn:Func}(hf:P.funcs[f]?=some fn)(hname:(fn.name== "runtime.NumGoroutine")=false)(hb:fn.body.isNone=true)(hn:Extern.findNext fn=none)(k:IntKind)
 (he:Extern.find fn=some (Extern.Atomic.swapT (.int k))) {a:Addr} {x y:Int} {w:World} (hc:w.cell? a=some (.int k x)) (hz:w.frozen? a=false):
 (callFunc f #[.pointer (some a),.int k y]).run P w=.ok (.value (.int k x)) (w.setCell a (.int k y)):=by
 rw[run_callFunc_extern hf hname hb hn he];change (Sem.run P (do
  let a'←asAddr (.pointer (some a))
  let old←Extern.Atomic.read (.int k) a'
  store a' (.int k y) .atomic
  pure old) w).andThen _=_
 simp[Extern.Atomic.read,asAddr,asInt,asIntOf,hc,hz,run_store P w a (.int k y) .atomic rfl,Result.andThen]
theorem swap_lone(ad:Addr)(x y:Int)(w:World)(h0:w.cell? ad=some (.int .i64 x))(f0:w.frozen? ad=false):
 Calls Try.prog 35 #[.pointer (some ad),.int .i64 y] w λe w'=>e=.returned (.int .i64 x)/\w'=w.setCell ad (.int .i64 y):=by
 have hl:=run_call_swap (P:=Try.prog) Try.func45 (by kernel_rfl) (by kernel_rfl) (by kernel_rfl) .i64 (by kernel_rfl) (y:=y) h0 f0
 go_enter Try.func35,Try.ntmps35
 go_wp2;go_ret;exact⟨rfl,rfl⟩
section
variable {M2 S2:Type} {D:Core M2 S2} {ro:Nat->Option Obj} {i:Nat} {cb:Nat} {z:Option Nat} {N:Nat} {m:BM (List Int×M2)} {wc:World}
theorem str_moved(hB:BRep (zqa (zq6 cb z N) D) ro m wc)(a x:Int)(τ:Nat->Question->Nat)(d:Nat)(τ':Nat->Question->Nat)(d':Nat):Moved (zqa (zq6 cb z N) D) m.l (m.box i) wc (m.l.1.set (idx a N) x,m.l.2) (m.box i) (re ((re wc τ d).setCell (loc cb z N a) (.int .i64 x)) τ' d'):=by
 have hf:=loc_foot cb z N a;have hS:StrRep cb z N m.l.1 (re wc τ d):=(zq6 cb z N).frame _ _ _ hB.core.1 λ_ _=>rfl;have hset:StrRep cb z N (m.l.1.set (idx a N) x) ((re wc τ d).setCell (loc cb z N a) (.int .i64 x)):=hS.set a x;refine Moved.left hB ⟨?_,λb hb h1 h2=>?_,(zq6 cb z N).frame _ _ _ hset λ_ _=>rfl,λb o hb=>?_,λb hb=>.inl hb,λb hb=>.inl hb,λb hb=>?_,rfl⟩
 · show wc.heap.size<=((re wc τ d).setCell _ _).heap.size;rw[zqq];exact Nat.le_refl _
 · show((re wc τ d).setCell _ _).heap[b]?=_;rw[zq4 _ _ _ _ (λe=>h1 (by subst e;exact hf))];rfl
 · show((re wc τ d).setCell _ _).heap[b]?=_;have hn:m.box i b≠none:=by rw[hb];simp
   rw[zq4 _ _ _ _ (λe=>hB.apart i b hn (.inl (by subst e;exact hf)))];exact hB.box i b o hb
 · exact Classical.byContradiction λx=>hB.apart i b x (.inl hb)
theorem str_at(hB:BRep (zqa (zq6 cb z N) D) ro m wc)(τ:Nat->Question->Nat)(d:Nat):StrRep cb z N m.l.1 (re wc τ d):=(zq6 cb z N).frame _ _ _ hB.core.1 λ_ _=>rfl
end
def getA(N:Nat)(a:Int)(l:List Int):List Int×Int:=(l,l.getD (idx a N) 0)
def addA(N:Nat)(a v:Int)(l:List Int):List Int×Int:=(l.set (idx a N) (IntKind.i64.wrap (l.getD (idx a N) 0+v)),IntKind.i64.wrap (l.getD (idx a N) 0+v))
def takeA(N:Nat)(a:Int)(l:List Int):List Int×Int:=(l.set (idx a N) 0,l.getD (idx a N) 0)
def onL{S1 S2 α:Type}(f:S1->S1×α):Proc (S1×S2) α:=Proc.act λs=>(((f s.1).1,s.2),(f s.1).2)
section
variable {M2 S2 β:Type} {D:Core M2 S2} {ro:Nat->Option Obj} {i:Nat} {cb:Nat} {z:Option Nat} {N:Nat}
structure StrAtoms(Y:YSys Try.prog aM (zqa (zq6 cb z N) D) ro i β)(sv:Value):Prop where
 pos:0<N
 le:N<=64
 head:∀B wc,Y.KnB B wc->HeadAt cb z N wc
 step:StepY Y 33 #[sv]
 load:∀a,SpecY Y 32 #[.pointer (some (loc cb z N a))] (onL (getA N a)) (λx=>.int .i64 x)
 add:∀a v,SpecY Y 34 #[.pointer (some (loc cb z N a)),.int .i64 v] (onL (addA N a v)) (λx=>.int .i64 x)
 swap:∀a,SpecY Y 35 #[.pointer (some (loc cb z N a)),.int .i64 0] (onL (takeA N a)) (λx=>.int .i64 x)
theorem zq3b(Z:Alone Try.prog aM (zqa (zq6 cb z N) D) ro i β){I:List Int×S2->Prop}(hI:∀l l' s,I (l,s)->I (l',s))(hO:∀l l' s,Z.Oth (l,s) (l',s)){sv:Value}(hp:0<N)(hl:N<=64)(hs:StepY (Z.sys I) 33 #[sv]):StrAtoms (Z.sys I) sv where
 pos:=hp
 le:=hl
 head B wc:=by
  rintro⟨m,_,h⟩;have h':BRep (zqa (zq6 cb z N) D) ro m wc:=h;exact h'.core.1.head
 step:=hs
 load a:=by
  refine Z.act Try.func32 rfl (by kernel_rfl) (λs h=>h) (λs=>Z.oth s) λm wc hB=>Calls.mono (load_lone _ _ wc ((str_at hB wc.tape wc.drawn).cell a)) ?_;rintro e w' ⟨rfl,rfl⟩;exact⟨m.l,Moved.ext hB (Ext.refl _),rfl,rfl⟩
 add a v:=by
  refine Z.act Try.func34 rfl (by kernel_rfl) (λs h=>hI _ _ _ h) (λs=>hO _ _ _) λm wc hB=>Calls.mono (add_lone _ _ v wc ((str_at hB wc.tape wc.drawn).cell a) ((str_at hB wc.tape wc.drawn).frozen a)) ?_;rintro e w' ⟨rfl,rfl⟩;exact⟨_,str_moved hB a _ wc.tape wc.drawn _ _,rfl,rfl⟩
 swap a:=by
  refine Z.act Try.func35 rfl (by kernel_rfl) (λs h=>hI _ _ _ h) (λs=>hO _ _ _) λm wc hB=>Calls.mono (swap_lone _ _ 0 wc ((str_at hB wc.tape wc.drawn).cell a) ((str_at hB wc.tape wc.drawn).frozen a)) ?_;rintro e w' ⟨rfl,rfl⟩;exact⟨_,str_moved hB a _ wc.tape wc.drawn _ _,rfl,rfl⟩
theorem StrAtoms.stripe {Y:YSys Try.prog aM (zqa (zq6 cb z N) D) ro i β}{sv:Value}(h:StrAtoms Y sv)(a:Int):PureY Y 31 #[.pointer (some ⟨cb,0,none⟩),.int .i64 a] (.pointer (some (loc cb z N a))):=by
 refine PureY.of Try.func31 rfl (by kernel_rfl) λB wc hB=>Calls.mono (stripe_lone (h.head B wc hB) a) ?_;rintro e w' ⟨rfl,τ,d,rfl⟩;exact⟨Ext1.re _ _ _,rfl⟩
end
set_option maxHeartbeats 400000
set_option maxRecDepth 100000
def addP{S2:Type}(N:Nat)(a v:Int):Proc (List Int×S2) Int:=Proc.tick.bind λ_=>onL (addA N a v)
section
variable {M2 S2 β:Type} {D:Core M2 S2} {ro:Nat->Option Obj} {i:Nat} {cb:Nat} {z:Option Nat} {N:Nat}
theorem zq2r(Y:YSys Try.prog aM (zqa (zq6 cb z N) D) ro i β){sv:Value}(hst:StrAtoms Y sv)(a v:Int):
 SpecB Y 21 #[.pointer (some ⟨cb,0,none⟩),sv,.int .i64 a,.int .i64 v] (addP N a v) (λx=>.int .i64 x):=by
 refine SpecB.of Try.func21 rfl ?_;intro K s B w hK hA;simp only[zqi,Try.ntmps21,List.size_toArray,List.length_cons,List.length_nil,Nat.reduceAdd,Nat.reduceSub,Array.replicate_succ,Array.replicate_zero,List.push_toArray,List.append_toArray,List.nil_append,List.cons_append];apply YSys.seq0 hA (by kernel_rfl)
 · intro wc hB;go_wp2;exact⟨rfl,Ext1.refl _,rfl⟩
 intro w hA;apply YSys.seq0 hA (by kernel_rfl)
 · intro wc hB;go_wp2;exact⟨rfl,Ext1.refl _,rfl⟩
 intro w hA;refine zqn Y.jc (zqy Y.jc ?_);rw[addP,Proc.bind_bind]at hA;apply YSys.callS 0 1 0 hA hst.step rfl rfl rfl (by rfl) rfl rfl rfl
 · intro wc hB X hX;have HX:=Lib.hid hX;clear hX;go_wp2;exact HX.out _ (Ext1.refl _)
 · intro w;simp[go_sem,execOp,Act.eval,resolve,Deferred.ofValue,invoke,callFunc,Try.func33,Try.f33]
 · intro w;simp[go_sem,execOp,Act.eval,resolve,Deferred.ofValue,invoke,callFunc,Try.func33,Try.f33]
 · intro s' ch w' h;exact⟨rfl,h⟩
 intro s w hA;refine zq26 Y.jc ?_;show wpJ Y.J _ _ _ _ _;refine zqn Y.jc (zqy Y.jc ?_);apply YSys.callP 0 2 3 hA (hst.stripe a) rfl rfl rfl (by rfl) rfl rfl rfl
 · intro wc hB X hX;have HX:=Lib.hid hX;clear hX;go_wp2;exact HX.out _ (Ext1.refl _)
 · intro w;simp[go_sem,execOp,Act.eval,resolve,Deferred.ofValue,invoke,callFunc,Try.func31,Try.f31]
 · intro w;simp[go_sem,execOp,Act.eval,resolve,Deferred.ofValue,invoke,callFunc,Try.func31,Try.f31]
 intro w hA;apply YSys.callR 3 1 1 hA (hst.add a v) (λ_=>hK _) rfl rfl rfl (by rfl) rfl rfl rfl
 · intro wc hB X hX;have HX:=Lib.hid hX;clear hX;go_wp2;exact HX.out _ (Ext1.refl _)
 · intro w;simp[go_sem,execOp,Act.eval,resolve,Deferred.ofValue,invoke,callFunc,Try.func34,Try.f34]
 · intro w;simp[go_sem,execOp,Act.eval,resolve,Deferred.ofValue,invoke,callFunc,Try.func34,Try.f34]
 · intro s' ch w' h;exact⟨rfl,h⟩
 intro s x w hA;apply YSys.ops0 5 1 hA rfl rfl (by kernel_rfl)
 · intro wc hB;go_wp2;exact⟨rfl,Ext1.refl _,rfl⟩
 intro w hA;show wpJ Y.J _ _ _ _ _;refine wpY_ret Y.jc ?_;exact⟨rfl,.inl ⟨_,resultsC_tmp rfl _,_,rfl,hA⟩⟩
end
def foldP{S2:Type}(g:Nat->Int->List Int->List Int×Int)(N:Nat):Nat->Nat->Int->Proc (List Int×S2) Int
 |0,_,acc=>Proc.ret acc
 |n+1,k,acc=>(Proc.tick.bind λ_=>onL (g N k)).bind λx=>foldP g N n (k+1) (wrap64 (acc+x))
def sumP{S2:Type}(N:Nat):Proc (List Int×S2) Int:=foldP getA N N 0 0
def takeP{S2:Type}(N:Nat):Proc (List Int×S2) Int:=foldP takeA N N 0 0
section
variable {M2 S2 β:Type} {D:Core M2 S2} {ro:Nat->Option Obj} {i:Nat} {cb:Nat} {z:Option Nat} {N:Nat}
theorem foldP_sil(Y:YSys Try.prog aM (zqa (zq6 cb z N) D) ro i β){g:Nat->Int->List Int->List Int×Int}{K:Int->Proc (List Int×S2) β}(hK:∀a,Y.sil (K a))(n k:Nat)(acc:Int):Y.sil ((foldP g N n k acc).bind K):=by
 cases n with
 |zero=>exact hK acc
 |succ n=>rw[foldP,Proc.bind_bind,Proc.bind_bind];exact Y.sil_tick _
theorem sum_spec(Y:YSys Try.prog aM (zqa (zq6 cb z N) D) ro i β){sv:Value}(hst:StrAtoms Y sv):
 SpecB Y 22 #[.pointer (some ⟨cb,0,none⟩),sv] (sumP N) (λx=>.int .i64 x):=by
 have hp:=hst.pos;have hle:=hst.le;refine SpecB.of Try.func22 rfl ?_;intro K s B w hK hA;simp only[zqi,Try.ntmps22,List.size_toArray,List.length_cons,List.length_nil,Nat.reduceAdd,Nat.reduceSub,Array.replicate_succ,Array.replicate_zero,List.push_toArray,List.append_toArray,List.nil_append,List.cons_append];apply YSys.seq0 hA (by kernel_rfl)
 · intro wc hB;go_wp2;exact⟨rfl,Ext1.refl _,rfl⟩
 intro w hA;apply YSys.seq0 hA (by kernel_rfl)
 · intro wc hB;go_wp2;exact⟨rfl,Ext1.refl _,rfl⟩
 intro w hA;refine zqn Y.jc ?_;apply YSys.seq0 hA (by kernel_rfl)
 · intro wc hB
   go_wp2_with (fail)
   refine Calls.mono (zq34 (hst.head _ _ hB)) ?_;rintro e w' ⟨rfl,rfl⟩;go_wp2;exact⟨rfl,Ext1.refl _,rfl⟩
 intro w hA;refine zq1y Y.jc (wpY_loop Y.jc (λs a w n=>∃(k:Nat)(acc:Int)(x2 x3 x6 x10 x11 x12 x13 x14 x15 x16 x17 x18 x19 x20 x21:Value),k+n=N/\a=⟨#[.pointer (some ⟨cb,0,none⟩),sv,x2,x3,.int .i64 0,.int .i64 acc,x6,.pointer (some ⟨cb,0,none⟩),.int .i64 N,.int .i64 k,x10,x11,x12,x13,x14,x15,x16,x17,x18,x19,x20,x21],[]⟩/\Y.AtB B s w ((foldP getA N n k acc).bind K)) N ?_ ?_)
 · exact⟨0,0,_,_,_,_,_,_,_,_,_,_,_,_,_,_,_,by omega,rfl,hA⟩
 rintro s a w n ⟨k,acc,x2,x3,x6,x10,x11,x12,x13,x14,x15,x16,x17,x18,x19,x20,x21,hkn,rfl,hA⟩;have HK:=Lib.hid hkn;clear hkn;cases n with
 |zero=>
  apply YSys.seq0 hA (by kernel_rfl)
  · intro wc hB;go_wp2;exact⟨rfl,Ext1.refl _,rfl⟩
  intro w hA;refine zqn Y.jc (zq10 Y.jc rfl ?_);rw[if_neg (by have:=HK.out;simp only[decide_eq_true_eq];omega)];refine wpY_exit Y.jc ?_;show wpJ Y.J _ _ _ _ _;apply YSys.seq0 hA (by kernel_rfl)
  · intro wc hB;go_wp2;exact⟨rfl,Ext1.refl _,rfl⟩
  intro w hA;refine wpY_ret Y.jc ?_;exact⟨rfl,.inl ⟨_,resultsC_tmp rfl _,_,rfl,hA⟩⟩
 |succ n=>
  have hk:(k:Int)<(N:Int):=by have:=HK.out;omega
  have e1:IntKind.i64.wrap ((k:Int)+1)=((k+1:Nat):Int):=by rw[IntWalk.i64_in _ (by omega)];omega
  apply YSys.seq0 hA (by kernel_rfl)
  · intro wc hB;go_wp2;exact⟨rfl,Ext1.refl _,rfl⟩
  intro w hA;refine zqn Y.jc (zq10 Y.jc rfl (zq2q Y.jc ?_));show wpJ Y.J _ _ _ _ _;refine zqn Y.jc (zq1y Y.jc ?_);apply YSys.seq0 hA (by kernel_rfl)
  · intro wc hB;go_wp2;exact⟨rfl,Ext1.refl _,rfl⟩
  intro w hA;refine zqn Y.jc (zqy Y.jc ?_);rw[foldP,Proc.bind_bind,Proc.bind_bind]at hA;apply YSys.callS 0 1 0 hA hst.step rfl rfl rfl (by rfl) rfl rfl rfl
  · intro wc hB X hX;have HX:=Lib.hid hX;clear hX;go_wp2;exact HX.out _ (Ext1.refl _)
  · intro w;simp[go_sem,execOp,Act.eval,resolve,Deferred.ofValue,invoke,callFunc,Try.func33,Try.f33]
  · intro w;simp[go_sem,execOp,Act.eval,resolve,Deferred.ofValue,invoke,callFunc,Try.func33,Try.f33]
  · intro s' ch w' h;exact⟨rfl,h⟩
  intro s w hA;refine zq26 Y.jc ?_;show wpJ Y.J _ _ _ _ _;refine zqy Y.jc ?_;apply YSys.callP 0 3 3 hA (hst.stripe (k:Int)) rfl rfl rfl (by rfl) rfl rfl rfl
  · intro wc hB X hX;have HX:=Lib.hid hX;clear hX;go_wp2;exact HX.out _ (Ext1.refl _)
  · intro w;simp[go_sem,execOp,Act.eval,resolve,Deferred.ofValue,invoke,callFunc,Try.func31,Try.f31]
  · intro w;simp[go_sem,execOp,Act.eval,resolve,Deferred.ofValue,invoke,callFunc,Try.func31,Try.f31]
  intro w hA;apply YSys.callR 4 0 2 hA (hst.load (k:Int)) (λx=>foldP_sil Y hK n _ _) rfl rfl rfl (by rfl) rfl rfl rfl
  · intro wc hB X hX;have HX:=Lib.hid hX;clear hX;go_wp2;exact HX.out _ (Ext1.refl _)
  · intro w;simp[go_sem,execOp,Act.eval,resolve,Deferred.ofValue,invoke,callFunc,Try.func32,Try.f32]
  · intro w;simp[go_sem,execOp,Act.eval,resolve,Deferred.ofValue,invoke,callFunc,Try.func32,Try.f32]
  · intro s' ch w' h;exact⟨rfl,h⟩
  intro s x w hA;apply YSys.ops0 5 2 hA rfl rfl (by kernel_rfl)
  · intro wc hB;go_wp2;exact⟨rfl,Ext1.refl _,rfl⟩
  intro w hA;show wpJ Y.J _ _ _ _ _;apply YSys.code0 hA (by kernel_rfl)
  · intro wc hB;go_wp2;exact⟨rfl,Ext1.refl _,rfl⟩
  intro w hA;exact⟨n,by omega,k+1,_,_,_,_,_,_,_,_,_,_,_,_,_,_,_,_,by have:=HK.out;omega,rfl,hA⟩
theorem take_spec(Y:YSys Try.prog aM (zqa (zq6 cb z N) D) ro i β){sv:Value}(hst:StrAtoms Y sv):
 SpecB Y 23 #[.pointer (some ⟨cb,0,none⟩),sv] (takeP N) (λx=>.int .i64 x):=by
 have hp:=hst.pos;have hle:=hst.le;refine SpecB.of Try.func23 rfl ?_;intro K s B w hK hA;simp only[zqi,Try.ntmps23,List.size_toArray,List.length_cons,List.length_nil,Nat.reduceAdd,Nat.reduceSub,Array.replicate_succ,Array.replicate_zero,List.push_toArray,List.append_toArray,List.nil_append,List.cons_append];apply YSys.seq0 hA (by kernel_rfl)
 · intro wc hB;go_wp2;exact⟨rfl,Ext1.refl _,rfl⟩
 intro w hA;apply YSys.seq0 hA (by kernel_rfl)
 · intro wc hB;go_wp2;exact⟨rfl,Ext1.refl _,rfl⟩
 intro w hA;refine zqn Y.jc ?_;apply YSys.seq0 hA (by kernel_rfl)
 · intro wc hB
   go_wp2_with (fail)
   refine Calls.mono (zq34 (hst.head _ _ hB)) ?_;rintro e w' ⟨rfl,rfl⟩;go_wp2;exact⟨rfl,Ext1.refl _,rfl⟩
 intro w hA;refine zq1y Y.jc (wpY_loop Y.jc (λs a w n=>∃(k:Nat)(acc:Int)(x2 x3 x6 x10 x11 x12 x13 x14 x15 x16 x17 x18 x19 x20 x21:Value),k+n=N/\a=⟨#[.pointer (some ⟨cb,0,none⟩),sv,x2,x3,.int .i64 0,.int .i64 acc,x6,.pointer (some ⟨cb,0,none⟩),.int .i64 N,.int .i64 k,x10,x11,x12,x13,x14,x15,x16,x17,x18,x19,x20,x21],[]⟩/\Y.AtB B s w ((foldP takeA N n k acc).bind K)) N ?_ ?_)
 · exact⟨0,0,_,_,_,_,_,_,_,_,_,_,_,_,_,_,_,by omega,rfl,hA⟩
 rintro s a w n ⟨k,acc,x2,x3,x6,x10,x11,x12,x13,x14,x15,x16,x17,x18,x19,x20,x21,hkn,rfl,hA⟩;have HK:=Lib.hid hkn;clear hkn;cases n with
 |zero=>
  apply YSys.seq0 hA (by kernel_rfl)
  · intro wc hB;go_wp2;exact⟨rfl,Ext1.refl _,rfl⟩
  intro w hA;refine zqn Y.jc (zq10 Y.jc rfl ?_);rw[if_neg (by have:=HK.out;simp only[decide_eq_true_eq];omega)];refine wpY_exit Y.jc ?_;show wpJ Y.J _ _ _ _ _;apply YSys.seq0 hA (by kernel_rfl)
  · intro wc hB;go_wp2;exact⟨rfl,Ext1.refl _,rfl⟩
  intro w hA;refine wpY_ret Y.jc ?_;exact⟨rfl,.inl ⟨_,resultsC_tmp rfl _,_,rfl,hA⟩⟩
 |succ n=>
  have hk:(k:Int)<(N:Int):=by have:=HK.out;omega
  have e1:IntKind.i64.wrap ((k:Int)+1)=((k+1:Nat):Int):=by rw[IntWalk.i64_in _ (by omega)];omega
  apply YSys.seq0 hA (by kernel_rfl)
  · intro wc hB;go_wp2;exact⟨rfl,Ext1.refl _,rfl⟩
  intro w hA;refine zqn Y.jc (zq10 Y.jc rfl (zq2q Y.jc ?_));show wpJ Y.J _ _ _ _ _;refine zqn Y.jc (zq1y Y.jc ?_);apply YSys.seq0 hA (by kernel_rfl)
  · intro wc hB;go_wp2;exact⟨rfl,Ext1.refl _,rfl⟩
  intro w hA;refine zqn Y.jc (zqy Y.jc ?_);rw[foldP,Proc.bind_bind,Proc.bind_bind]at hA;apply YSys.callS 0 1 0 hA hst.step rfl rfl rfl (by rfl) rfl rfl rfl
  · intro wc hB X hX;have HX:=Lib.hid hX;clear hX;go_wp2;exact HX.out _ (Ext1.refl _)
  · intro w;simp[go_sem,execOp,Act.eval,resolve,Deferred.ofValue,invoke,callFunc,Try.func33,Try.f33]
  · intro w;simp[go_sem,execOp,Act.eval,resolve,Deferred.ofValue,invoke,callFunc,Try.func33,Try.f33]
  · intro s' ch w' h;exact⟨rfl,h⟩
  intro s w hA;refine zq26 Y.jc ?_;show wpJ Y.J _ _ _ _ _;refine zqy Y.jc ?_;apply YSys.callP 0 3 3 hA (hst.stripe (k:Int)) rfl rfl rfl (by rfl) rfl rfl rfl
  · intro wc hB X hX;have HX:=Lib.hid hX;clear hX;go_wp2;exact HX.out _ (Ext1.refl _)
  · intro w;simp[go_sem,execOp,Act.eval,resolve,Deferred.ofValue,invoke,callFunc,Try.func31,Try.f31]
  · intro w;simp[go_sem,execOp,Act.eval,resolve,Deferred.ofValue,invoke,callFunc,Try.func31,Try.f31]
  intro w hA;apply YSys.callR 4 0 2 hA (hst.swap (k:Int)) (λx=>foldP_sil Y hK n _ _) rfl rfl rfl (by rfl) rfl rfl rfl
  · intro wc hB X hX;have HX:=Lib.hid hX;clear hX;go_wp2;exact HX.out _ (Ext1.refl _)
  · intro w;simp[go_sem,execOp,Act.eval,resolve,Deferred.ofValue,invoke,callFunc,Try.func35,Try.f35]
  · intro w;simp[go_sem,execOp,Act.eval,resolve,Deferred.ofValue,invoke,callFunc,Try.func35,Try.f35]
  · intro s' ch w' h;exact⟨rfl,h⟩
  intro s x w hA;apply YSys.ops0 5 2 hA rfl rfl (by kernel_rfl)
  · intro wc hB;go_wp2;exact⟨rfl,Ext1.refl _,rfl⟩
  intro w hA;show wpJ Y.J _ _ _ _ _;apply YSys.code0 hA (by kernel_rfl)
  · intro wc hB;go_wp2;exact⟨rfl,Ext1.refl _,rfl⟩
  intro w hA;exact⟨n,by omega,k+1,_,_,_,_,_,_,_,_,_,_,_,_,_,_,_,_,by have:=HK.out;omega,rfl,hA⟩
end
set_option maxHeartbeats 4000000
set_option maxRecDepth 100000
def evenB{S2:Type}(N:Nat)(seen:List Int):Nat->Nat->Int->Proc (List Int×S2) (Int×Bool)
 |0,_,acc=>Proc.ret (acc,true)
 |n+1,k,acc=>(Proc.tick.bind λ_=>onL (getA N k)).bind λx=>if x=seen.getD k 0 then evenB N seen n (k+1) acc else Proc.ret (0,false)
def evenA{S2:Type}(N:Nat):Nat->Nat->List Int->Int->Proc (List Int×S2) (Int×Bool)
 |0,k,seen,acc=>evenB N seen k 0 acc
 |n+1,k,seen,acc=>(Proc.tick.bind λ_=>onL (getA N k)).bind λx=>evenA N n (k+1) (seen++[x]) (wrap64 (acc+x))
def evenP{S2:Type}(N:Nat):Proc (List Int×S2) (Int×Bool):=evenA N N 0 [] 0
def evenV(x:Int×Bool):Value:=.tuple #[.int .i64 x.1,.bool x.2]
section
variable {M2 S2 β:Type} {D:Core M2 S2} {ro:Nat->Option Obj} {i:Nat} {cb:Nat} {z:Option Nat} {N:Nat}
theorem evenB_sil(Y:YSys Try.prog aM (zqa (zq6 cb z N) D) ro i β){K:Int×Bool->Proc (List Int×S2) β}(hK:∀a,Y.sil (K a))(seen:List Int)(n k:Nat)(acc:Int):Y.sil ((evenB N seen n k acc).bind K):=by
 cases n with
 |zero=>exact hK _
 |succ n=>rw[evenB,Proc.bind_bind,Proc.bind_bind];exact Y.sil_tick _
theorem evenA_sil(Y:YSys Try.prog aM (zqa (zq6 cb z N) D) ro i β){K:Int×Bool->Proc (List Int×S2) β}(hK:∀a,Y.sil (K a))(n k:Nat)(seen:List Int)(acc:Int):Y.sil ((evenA N n k seen acc).bind K):=by
 cases n with
 |zero=>exact evenB_sil Y hK _ _ _ _
 |succ n=>rw[evenA,Proc.bind_bind,Proc.bind_bind];exact Y.sil_tick _
theorem even_spec(Y:YSys Try.prog aM (zqa (zq6 cb z N) D) ro i β){sv:Value}(hst:StrAtoms Y sv):
 SpecB Y 20 #[.pointer (some ⟨cb,0,none⟩),sv] (evenP N) evenV:=by
 have hp:=Lib.hid hst.pos;have hle:=Lib.hid hst.le;refine SpecB.of Try.func20 rfl ?_;intro K s B w hK hA;simp only[zqi,Try.ntmps20,List.size_toArray,List.length_cons,List.length_nil,Nat.reduceAdd,Nat.reduceSub,Array.replicate_succ,Array.replicate_zero,List.push_toArray,List.append_toArray,List.nil_append,List.cons_append];have HKK:=Lib.hid hK;clear hK;apply YSys.seq0 hA (by kernel_rfl)
 · intro wc hB;go_wp2;exact⟨rfl,Ext1.refl _,rfl⟩
 intro w hA;apply YSys.seq0 hA (by kernel_rfl)
 · intro wc hB;go_wp2;exact⟨rfl,Ext1.refl _,rfl⟩
 intro w hA;apply YSys.seq0 hA (by kernel_rfl)
 · intro wc hB;go_wp2;exact⟨rfl,Ext1.refl _,rfl⟩
 intro w hA;apply YSys.seq0 hA (by kernel_rfl)
 · intro wc hB;go_wp2;exact⟨rfl,Ext1.refl _,rfl⟩
 intro w hA;refine zqn Y.jc ?_;apply YSys.seq0 hA (by kernel_rfl)
 · intro wc hB
   go_wp2_with (fail)
   refine Calls.mono (zq34 (hst.head _ _ hB)) ?_;rintro e w' ⟨rfl,rfl⟩;go_wp2;exact⟨rfl,Ext1.refl _,rfl⟩
 intro w hA;refine zq1y Y.jc (wpY_loop Y.jc (λs a w n=>∃(k:Nat)(acc:Int)(seen:List Int)(vs:Value)(X:Nat->Option Obj)(x2 x3 x8 x9 x10 x11 x12 x13 x14 x17 x18 x19 x20 x21 x22 x23 x24 x25 x26 x27 x28 x29 x30 x31 x32 x33 x34 x35 x36 x37 x38 x39 x40 x41 x42 x43 x44 x45 x46 x47 x48 x49:Value),k+n=N/\seen.length=k/\RowB X 2 1 vs k (seen.map (Value.int .i64))/\(∀b,X b≠none->B b=none)/\a=⟨#[.pointer (some ⟨cb,0,none⟩),sv,x2,x3,.int .i64 0,.bool false,vs,.int .i64 acc,x8,x9,x10,x11,x12,x13,x14,.int .i64 N,.int .i64 k,x17,x18,x19,x20,x21,x22,x23,x24,x25,x26,x27,x28,x29,x30,x31,x32,x33,x34,x35,x36,x37,x38,x39,x40,x41,x42,x43,x44,x45,x46,x47,x48,x49],[]⟩/\Y.AtB (orB X B) s w ((evenA N n k seen acc).bind K)) N ?_ ?_)
 · exact⟨0,0,[],_,_,_,_,_,_,_,_,_,_,_,_,_,_,_,_,_,_,_,_,_,_,_,_,_,_,_,_,_,_,_,_,_,_,_,_,_,_,_,_,_,_,_,_,by omega,rfl,RowB.nil 2 1,λb hb=>absurd rfl hb,rfl,hA⟩
 clear hA;rintro s a w n ⟨k,acc,seen,vs,X,x2,x3,x8,x9,x10,x11,x12,x13,x14,x17,x18,x19,x20,x21,x22,x23,x24,x25,x26,x27,x28,x29,x30,x31,x32,x33,x34,x35,x36,x37,x38,x39,x40,x41,x42,x43,x44,x45,x46,x47,x48,x49,hkn,hsl,hrow,hap,rfl,hA⟩;have HK:=Lib.hid hkn;have HL:=Lib.hid hsl;have HR:=Lib.hid hrow;have HP:=Lib.hid hap;clear hkn hsl hrow hap;cases n with
 |succ n=>
  have hk:(k:Int)<(N:Int):=by have:=HK.out;omega
  have e1:IntKind.i64.wrap ((k:Int)+1)=((k+1:Nat):Int):=by have:=hle.out;rw[IntWalk.i64_in _ (by omega)];omega
  apply YSys.seq0 hA (by kernel_rfl)
  · intro wc hB;go_wp2;exact⟨rfl,Ext1.refl _,rfl⟩
  intro w hA;refine zqn Y.jc (zq10 Y.jc rfl (zq2q Y.jc ?_));show wpJ Y.J _ _ _ _ _;refine zqn Y.jc (zq1y Y.jc ?_);apply YSys.seq0 hA (by kernel_rfl)
  · intro wc hB;go_wp2;exact⟨rfl,Ext1.refl _,rfl⟩
  intro w hA;refine zqn Y.jc (zqy Y.jc ?_);rw[evenA,Proc.bind_bind,Proc.bind_bind]at hA;apply YSys.callS 0 1 0 hA hst.step rfl rfl rfl (by rfl) rfl rfl rfl
  · intro wc hB X hX;have HX:=Lib.hid hX;clear hX;go_wp2;exact HX.out _ (Ext1.refl _)
  · intro w;simp[go_sem,execOp,Act.eval,resolve,Deferred.ofValue,invoke,callFunc,Try.func33,Try.f33]
  · intro w;simp[go_sem,execOp,Act.eval,resolve,Deferred.ofValue,invoke,callFunc,Try.func33,Try.f33]
  · intro s' ch w' h;exact⟨rfl,h⟩
  intro s w hA;refine zq26 Y.jc ?_;show wpJ Y.J _ _ _ _ _;refine zqn Y.jc (zqy Y.jc ?_);apply YSys.callP 0 2 2 hA (hst.stripe (k:Int)) rfl rfl rfl (by rfl) rfl rfl rfl
  · intro wc hB X hX;have HX:=Lib.hid hX;clear hX;go_wp2;exact HX.out _ (Ext1.refl _)
  · intro w;simp[go_sem,execOp,Act.eval,resolve,Deferred.ofValue,invoke,callFunc,Try.func31,Try.f31]
  · intro w;simp[go_sem,execOp,Act.eval,resolve,Deferred.ofValue,invoke,callFunc,Try.func31,Try.f31]
  intro w hA;apply YSys.callR 3 0 1 hA (hst.load (k:Int)) (λx=>evenA_sil Y HKK.out n _ _ _) rfl rfl rfl (by rfl) rfl rfl rfl
  · intro wc hB X hX;have HX:=Lib.hid hX;clear hX;go_wp2;exact HX.out _ (Ext1.refl _)
  · intro w;simp[go_sem,execOp,Act.eval,resolve,Deferred.ofValue,invoke,callFunc,Try.func32,Try.f32]
  · intro w;simp[go_sem,execOp,Act.eval,resolve,Deferred.ofValue,invoke,callFunc,Try.func32,Try.f32]
  · intro s' ch w' h;exact⟨rfl,h⟩
  intro s x w hA;apply YSys.ops0 4 1 hA rfl rfl (by kernel_rfl)
  · intro wc hB;go_wp2;exact⟨rfl,Ext1.refl _,rfl⟩
  intro w hA;show wpJ Y.J _ _ _ _ _;refine zqn Y.jc (zqy Y.jc ?_);refine YSys.preX 0 3 2 (λt B'=>∃(g:Nat)(y2 y3 y8 y10 y11 y12 y13 y14 y17 y18 y19 y20 y21 y22 y23 y24 y26 y28 y29 y30 y31 y32 y33 y34 y35 y36 y37 y38 y39 y40 y41 y42 y43 y44 y45 y46 y47 y48 y49:Value),t=#[.pointer (some ⟨cb,0,none⟩),sv,y2,y3,.int .i64 0,.bool false,vs,.int .i64 acc,y8,.int .i64 x,y10,y11,y12,y13,y14,.int .i64 N,.int .i64 k,y17,y18,y19,y20,y21,y22,y23,y24,vs,y26,.slice (some ⟨g,0,none⟩) 1 1,y28,y29,y30,y31,y32,y33,y34,y35,y36,y37,y38,y39,y40,y41,y42,y43,y44,y45,y46,y47,y48,y49]/\orB X B g=none/\B'=upB (orB X B) g (.cells [Value.int .i64 x].toArray 2)) hA rfl rfl rfl rfl ?_ ?_
  · intro wc hB X0 hX0;have HX0:=Lib.hid hX0;clear hX0;have hm:=OMoved.push (o:=.cells [Value.int .i64 x].toArray 2) hB.own (Ext1.alloc wc (.cells [Value.int .i64 x].toArray 2)) (Nat.le_refl _) (by rw[zq2];simp);have hf:=hB.own.fresh (Nat.le_refl _);have HM:=Lib.hid (And.intro hm hf);clear hm hf;go_wp2;exact HX0.out _ _ _ HM.out.1 ⟨_,_,_,_,_,_,_,_,_,_,_,_,_,_,_,_,_,_,_,_,_,_,_,_,_,_,_,_,_,_,_,_,_,_,_,_,_,_,_,_,rfl,HM.out.2,rfl⟩
  rintro _ _ w ⟨g,y2,y3,y8,y10,y11,y12,y13,y14,y17,y18,y19,y20,y21,y22,y23,y24,y26,y28,y29,y30,y31,y32,y33,y34,y35,y36,y37,y38,y39,y40,y41,y42,y43,y44,y45,y46,y47,y48,y49,rfl,hg,rfl⟩ hA;have HG:=Lib.hid hg;clear hg;refine YSys.opsX 3 2 (λt B'=>∃(g cap:Nat)(X':Nat->Option Obj)(z2 z3 z8 z10 z11 z12 z13 z14 z17 z18 z19 z20 z21 z22 z23 z24 z25 z26 z27 z28 z29 z30 z31 z32 z33 z34 z35 z36 z37 z38 z39 z40 z41 z42 z43 z44 z45 z46 z47 z48 z49:Value),t=#[.pointer (some ⟨cb,0,none⟩),sv,z2,z3,.int .i64 0,.bool false,.slice (some ⟨g,0,none⟩) (k+1) cap,.int .i64 acc,z8,.int .i64 x,z10,z11,z12,z13,z14,.int .i64 N,.int .i64 k,z17,z18,z19,z20,z21,z22,z23,z24,z25,z26,z27,z28,z29,z30,z31,z32,z33,z34,z35,z36,z37,z38,z39,z40,z41,z42,z43,z44,z45,z46,z47,z48,z49]/\RowB X' 2 1 (.slice (some ⟨g,0,none⟩) (k+1) cap) (k+1) ((seen++[x]).map (Value.int .i64))/\(∀b,X' b≠none->B b=none)/\B'=orB X' B) hA rfl rfl (by kernel_rfl) ?_ ?_
  · intro wc hB X0 hX0;have HX0:=Lib.hid hX0;clear hX0;obtain⟨ti,hti,hz0,hz1,hz2⟩:∃ti,Try.prog.info? 2=some ti/\ti.zero=some (.int .i64 0)/\ti.size=1/\ti.bytes=8:=⟨_,rfl,rfl,rfl,rfl⟩;obtain⟨g',cap,w5,hrun,X',k1,k2,k3⟩:=row_append (P:=Try.prog) 22 22 ti (.int .i64 0) 1 8 (by kernel_rfl) hti hz0 hz1 hz2 (by rfl) (by decide) rfl (by simp[Value.oneCell']) hB.own HG.out HP.out HR.out (by have:=hle.out;simp only[maxLen];omega) (by have:=hle.out;omega);have HX:=Lib.hid (And.intro k1 (And.intro k2 k3));clear k1 k2 k3;refine wpList_appends rfl (.tmp 25) (.tmp 27) 22 rfl hrun ?_;go_wp2;exact⟨rfl,HX0.out _ _ _ HX.out.2.2 ⟨g',cap,X',_,_,_,_,_,_,_,_,_,_,_,_,_,_,_,_,_,_,_,_,_,_,_,_,_,_,_,_,_,_,_,_,_,_,_,_,_,_,_,_,_,rfl,by simpa using HX.out.1,HX.out.2.1,rfl⟩⟩
  rintro _ _ w ⟨g1,cap,X',z2,z3,z8,z10,z11,z12,z13,z14,z17,z18,z19,z20,z21,z22,z23,z24,z25,z26,z27,z28,z29,z30,z31,z32,z33,z34,z35,z36,z37,z38,z39,z40,z41,z42,z43,z44,z45,z46,z47,z48,z49,rfl,hrow',hap',rfl⟩ hA;have HR':=Lib.hid hrow';have HP':=Lib.hid hap';clear hrow' hap';show wpJ Y.J _ _ _ _ _;apply YSys.code0 hA (by kernel_rfl)
  · intro wc hB;go_wp2;exact⟨rfl,Ext1.refl _,rfl⟩
  intro w hA;show wpJ Y.J _ _ _ _ _;apply YSys.code0 hA (by kernel_rfl)
  · intro wc hB;go_wp2;exact⟨rfl,Ext1.refl _,rfl⟩
  intro w hA;exact⟨n,by omega,k+1,_,seen++[x],_,X',_,_,_,_,_,_,_,_,_,_,_,_,_,_,_,_,_,_,_,_,_,_,_,_,_,_,_,_,_,_,_,_,_,_,_,_,_,_,_,_,_,_,by have:=HK.out;omega,by have:=HL.out;simp;omega,HR'.out,HP'.out,rfl,hA⟩
 |zero=>
  apply YSys.seq0 hA (by kernel_rfl)
  · intro wc hB;go_wp2;exact⟨rfl,Ext1.refl _,rfl⟩
  intro w hA;refine zqn Y.jc (zq10 Y.jc rfl ?_);rw[if_neg (by have:=HK.out;simp only[decide_eq_true_eq];omega)];refine wpY_exit Y.jc ?_;show wpJ Y.J _ _ _ _ _;obtain rfl:N=k:=by have:=HK.out;omega
  obtain⟨hr1,hr2⟩:=HR.out;rcases hr2 with⟨_,h0,_⟩|⟨g,cap,cur,rfl,hX,hc1,hc2,hc3,hc4⟩
  · exact absurd h0 (by have:=hp.out;omega)
  have HX:=Lib.hid (And.intro hX hc4);clear hX hc4 hr1 hc1 hc2 hc3;refine zqn Y.jc ?_;apply YSys.seq0 hA (by kernel_rfl)
  · intro wc hB;go_wp2;exact⟨rfl,Ext1.refl _,rfl⟩
  intro w hA;refine zq1y Y.jc (wpY_loop Y.jc (λs a w n=>∃(k:Nat)(x2 x3 x6 x8 x9 x10 x11 x12 x13 x14 x15 x16 x17 x18 x19 x20 x21 x22 x23 x24 x25 x26 x27 x28 x29 x30 x31 x32 x36 x37 x38 x39 x40 x41 x42 x43 x44 x45 x46 x47 x48 x49:Value),k+n=N/\a=⟨#[.pointer (some ⟨cb,0,none⟩),sv,x2,x3,.int .i64 0,.bool false,x6,.int .i64 acc,x8,x9,x10,x11,x12,x13,x14,x15,x16,x17,x18,x19,x20,x21,x22,x23,x24,x25,x26,x27,x28,x29,x30,x31,x32,.slice (some ⟨g,0,none⟩) N cap,.int .i64 N,.int .i64 k,x36,x37,x38,x39,x40,x41,x42,x43,x44,x45,x46,x47,x48,x49],[]⟩/\Y.AtB (orB X B) s w ((evenB N seen n k acc).bind K)) N ?_ ?_)
  · exact⟨0,_,_,_,_,_,_,_,_,_,_,_,_,_,_,_,_,_,_,_,_,_,_,_,_,_,_,_,_,_,_,_,_,_,_,_,_,_,_,_,_,_,_,by omega,rfl,hA⟩
  clear hA;rintro s a w n ⟨k,x2,x3,x6,x8,x9,x10,x11,x12,x13,x14,x15,x16,x17,x18,x19,x20,x21,x22,x23,x24,x25,x26,x27,x28,x29,x30,x31,x32,x36,x37,x38,x39,x40,x41,x42,x43,x44,x45,x46,x47,x48,x49,hkn,rfl,hA⟩;have HK:=Lib.hid hkn;clear hkn;have hdrop:∀b o,B b=some o->orB X B b=some o:=λb o hb=>by
   have hx:X b=none:=Classical.byContradiction λx=>by rw[HP.out b x]at hb;cases hb
   simp[orB,hx,hb]
  have HD:=Lib.hid hdrop;clear hdrop;cases n with
  |zero=>
   apply YSys.seq0 hA (by kernel_rfl)
   · intro wc hB;go_wp2;exact⟨rfl,Ext1.refl _,rfl⟩
   intro w hA;refine zqn Y.jc (zq10 Y.jc rfl ?_);rw[if_neg (by have:=HK.out;simp only[decide_eq_true_eq];omega)];refine wpY_exit Y.jc ?_;show wpJ Y.J _ _ _ _ _;apply YSys.seq0 hA (by kernel_rfl)
   · intro wc hB;go_wp2;exact⟨rfl,Ext1.refl _,rfl⟩
   intro w hA;refine wpY_ret Y.jc ?_;exact⟨rfl,.inl ⟨_,resultsC_tmp2 rfl _,(acc,true),rfl,hA.drop HD.out⟩⟩
  |succ n=>
   have hk:(k:Int)<(N:Int):=by have:=HK.out;omega
   have hk0:(0:Int)<=(k:Int):=by omega
   have e1:IntKind.i64.wrap ((k:Int)+1)=((k+1:Nat):Int):=by have:=hle.out;rw[IntWalk.i64_in _ (by omega)];omega
   apply YSys.seq0 hA (by kernel_rfl)
   · intro wc hB;go_wp2;exact⟨rfl,Ext1.refl _,rfl⟩
   intro w hA;refine zqn Y.jc (zq10 Y.jc rfl (zq2q Y.jc ?_));show wpJ Y.J _ _ _ _ _;refine zqn Y.jc (zq1y Y.jc ?_);obtain⟨y,hy⟩:∃y,seen.getD k 0=y:=⟨_,rfl⟩;have hcur:cur[k]?=some (.int .i64 y):=by
    have h1:=congrArg (λl=>l[k]?) HX.out.2;have h2:k<N:=by have:=HK.out;omega
    have h3:k<seen.length:=by have:=HL.out;omega
    simp only[Nat.mul_one,List.getElem?_take,h2,if_true,List.getElem?_map]at h1;rw[←Array.getElem?_toList,h1];simp[←hy,h3]
   have HC:=Lib.hid hcur;have HY:=Lib.hid hy;clear hcur hy;apply YSys.seq0 hA (by kernel_rfl)
   · intro wc hB;have cg:wc.cell? ⟨g,k,none⟩=some (.int .i64 y):=(zq0 (c:=cur) (e:=2) (f:=(0,0)) (hB.own.box g (.cells cur 2) (by simp[orB,HX.out.1]))).trans HC.out;go_wp2;exact⟨rfl,Ext1.refl _,rfl⟩
   intro w hA;refine zqn Y.jc (zqy Y.jc ?_);rw[evenB,Proc.bind_bind,Proc.bind_bind]at hA;apply YSys.callS 0 1 0 hA hst.step rfl rfl rfl (by rfl) rfl rfl rfl
   · intro wc hB X hX;have HX:=Lib.hid hX;clear hX;go_wp2;exact HX.out _ (Ext1.refl _)
   · intro w;simp[go_sem,execOp,Act.eval,resolve,Deferred.ofValue,invoke,callFunc,Try.func33,Try.f33]
   · intro w;simp[go_sem,execOp,Act.eval,resolve,Deferred.ofValue,invoke,callFunc,Try.func33,Try.f33]
   · intro s' ch w' h;exact⟨rfl,h⟩
   intro s w hA;refine zq26 Y.jc ?_;show wpJ Y.J _ _ _ _ _;refine zqn Y.jc (zqy Y.jc ?_);apply YSys.callP 0 2 3 hA (hst.stripe (k:Int)) rfl rfl rfl (by rfl) rfl rfl rfl
   · intro wc hB X hX;have HX:=Lib.hid hX;clear hX;go_wp2;exact HX.out _ (Ext1.refl _)
   · intro w;simp[go_sem,execOp,Act.eval,resolve,Deferred.ofValue,invoke,callFunc,Try.func31,Try.f31]
   · intro w;simp[go_sem,execOp,Act.eval,resolve,Deferred.ofValue,invoke,callFunc,Try.func31,Try.f31]
   intro w hA;apply YSys.callR 3 0 2 hA (hst.load (k:Int)) (λx=>if h:x=seen.getD k 0 then(by rw[if_pos h];exact evenB_sil Y HKK.out _ _ _ _)else(by rw[if_neg h];exact HKK.out _)) rfl rfl rfl (by rfl) rfl rfl rfl
   · intro wc hB X hX;have HX:=Lib.hid hX;clear hX;go_wp2;exact HX.out _ (Ext1.refl _)
   · intro w;simp[go_sem,execOp,Act.eval,resolve,Deferred.ofValue,invoke,callFunc,Try.func32,Try.f32]
   · intro w;simp[go_sem,execOp,Act.eval,resolve,Deferred.ofValue,invoke,callFunc,Try.func32,Try.f32]
   · intro s' ch w' h;exact⟨rfl,h⟩
   intro s x w hA;rw[HY.out]at hA
   by_cases hxy:x=y
   · rw[if_pos hxy]at hA;subst hxy;apply YSys.ops0 4 2 hA rfl rfl (by kernel_rfl)
     · intro wc hB;go_wp2;exact⟨rfl,Ext1.refl _,rfl⟩
     intro w hA;show wpJ Y.J _ _ _ _ _;refine zq10 Y.jc rfl (zq2q Y.jc ?_);show wpJ Y.J _ _ _ _ _;apply YSys.code0 hA (by kernel_rfl)
     · intro wc hB;go_wp2;exact⟨rfl,Ext1.refl _,rfl⟩
     intro w hA;exact⟨n,by omega,k+1,_,_,_,_,_,_,_,_,_,_,_,_,_,_,_,_,_,_,_,_,_,_,_,_,_,_,_,_,_,_,_,_,_,_,_,_,_,_,_,_,_,_,by have:=HK.out;omega,rfl,hA⟩
   · rw[if_neg hxy]at hA;have HXY:=Lib.hid hxy;clear hxy;apply YSys.ops0 4 2 hA rfl rfl (by kernel_rfl)
     · intro wc hB;go_wp2;exact⟨rfl,Ext1.refl _,rfl⟩
     intro w hA;show wpJ Y.J _ _ _ _ _;refine zq10 Y.jc rfl ?_;rw[if_pos (by simp[HXY.out])];apply YSys.seq0 hA (by kernel_rfl)
     · intro wc hB;go_wp2;exact⟨rfl,Ext1.refl _,rfl⟩
     intro w hA;refine wpY_ret Y.jc ?_;exact⟨rfl,.inl ⟨_,resultsC_tmp2 rfl _,(0,false),rfl,hA.drop HD.out⟩⟩
end
set_option maxHeartbeats 400000
set_option maxRecDepth 100000
def moveP{S2:Type}(N:Nat)(a b v:Int):Proc (List Int×S2) Unit:=(addP N a (wrap64 (-v))).bind λ_=>(addP N b v).bind λ_=>Proc.ret ()
section
variable {M2 S2 β:Type} {D:Core M2 S2} {ro:Nat->Option Obj} {i:Nat} {cb:Nat} {z:Option Nat} {N:Nat}
theorem addP_sil(Y:YSys Try.prog aM (zqa (zq6 cb z N) D) ro i β){K:Int->Proc (List Int×S2) β}(a v:Int):Y.sil ((addP N a v).bind K):=by
 rw[addP,Proc.bind_bind];exact Y.sil_tick _
theorem move_spec(Y:YSys Try.prog aM (zqa (zq6 cb z N) D) ro i β){sv:Value}(hst:StrAtoms Y sv)(a b v:Int):
 SpecB Y 30 #[.pointer (some ⟨cb,0,none⟩),sv,.int .i64 a,.int .i64 b,.int .i64 v] (moveP N a b v) (λ_=>.tuple #[]):=by
 refine SpecB.of Try.func30 rfl ?_;intro K s B w hK hA;simp only[zqi,Try.ntmps30,List.size_toArray,List.length_cons,List.length_nil,Nat.reduceAdd,Nat.reduceSub,Array.replicate_succ,Array.replicate_zero,List.push_toArray,List.append_toArray,List.nil_append,List.cons_append];refine zqn Y.jc (zqy Y.jc ?_);rw[moveP,Proc.bind_bind]at hA;apply YSys.callR 0 5 0 hA (zq2r Y hst a (wrap64 (-v))).spec (λ_=>by rw[Proc.bind_bind];exact addP_sil Y b v) rfl rfl rfl (by rfl) rfl rfl rfl
 · intro wc hB X hX;have HX:=Lib.hid hX;clear hX;go_wp2;exact HX.out _ (Ext1.refl _)
 · intro w;simp[go_sem,execOp,Act.eval,resolve,Deferred.ofValue,invoke,callFunc,Try.func21,Try.f21]
 · intro w;simp[go_sem,execOp,Act.eval,resolve,Deferred.ofValue,invoke,callFunc,Try.func21,Try.f21]
 · intro s' ch w' h;exact⟨rfl,h⟩
 intro s x w hA;refine zq26 Y.jc ?_;show wpJ Y.J _ _ _ _ _;refine zqy Y.jc ?_;rw[Proc.bind_bind]at hA;apply YSys.callR 0 4 0 hA (zq2r Y hst b v).spec (λ_=>hK _) rfl rfl rfl (by rfl) rfl rfl rfl
 · intro wc hB X hX;have HX:=Lib.hid hX;clear hX;go_wp2;exact HX.out _ (Ext1.refl _)
 · intro w;simp[go_sem,execOp,Act.eval,resolve,Deferred.ofValue,invoke,callFunc,Try.func21,Try.f21]
 · intro w;simp[go_sem,execOp,Act.eval,resolve,Deferred.ofValue,invoke,callFunc,Try.func21,Try.f21]
 · intro s' ch w' h;exact⟨rfl,h⟩
 intro s x w hA;refine zq26 Y.jc ?_;exact⟨rfl,.inl ⟨_,resultsC_none rfl _,(),rfl,hA⟩⟩
end
end Go.Proofs
