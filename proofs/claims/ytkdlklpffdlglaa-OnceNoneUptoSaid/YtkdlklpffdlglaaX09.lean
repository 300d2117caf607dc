/- YtkdlklpffdlglaaNone13: part 9 of the proof (the texts behind it, in order). -/
import Derived.Test.YtkdlklpffdlglaaX08
set_option maxHeartbeats 4000000
set_option maxRecDepth 100000
set_option linter.all false
namespace Go.Proofs
open Go Go.Conc Go.RowKit Go.Car
noncomputable def opsT(n:Nat):Code:=tailN n (Try.f35.body.getD .skip)
theorem ops0:Try.f35.body.getD .skip=.seq (headC (opsT 0)) (.seq (headC (opsT 1)) (.seq (headC (opsT 2)) (opsT 3))):=by kernel_rfl
def ans0:AnsM:=⟨λ_=>.slice none 0 0,λ_ _=>none,λ_=>[]⟩
structure OpsAt(w:World)(RP:Nat->Option Obj)(pp:Option Addr)(n N:Nat)(sp:Nat->Option Addr)(L Cp:Nat->Nat)(ops:Nat->List OpX):Prop where
 eq:N=min n 64
 le:n<=4611686018427387904
 at':0<n->∃tb to',pp=some ⟨tb,to',none⟩/\∀i,i<N->w.cell? ⟨tb,to'+i,none⟩=some (.slice (sp i) (L i) (Cp i))
 row:∀i,i<N->L i<=Cp i/\L i<=4611686018427387904/\(sp i=none->L i=0/\Cp i=0)
 len:∀i,i<N->(ops i).length=min (L i) 65536
 op:∀i,i<N->∀k op,(ops i)[k]?=some op->∃g off cur e fr,sp i=some ⟨g,off,none⟩/\RP g=some (.cells cur e fr)/\∀j,j<4->cur[off+k*4+j]?=op.cells[j]?
open Classical in
noncomputable def roOf(RP:Nat->Option Obj)(H N:Nat)(ob ib:Nat->Nat)(w1:World):Nat->Option Obj:=λb=>if RP b≠none then RP b else if b=H\/b=H+2\/∃i,i<N/\(b=ob i\/b=ib i)then w1.heap[b]? else none
theorem zq5l{RP:Nat->Option Obj}{H N:Nat}{ob ib:Nat->Nat}{w1:World}{b:Nat}{o:Obj}(h:RP b=some o):roOf RP H N ob ib w1 b=some o:=by
 unfold roOf;rw[if_pos (by rw[h];simp),h]
theorem zq4o{RP:Nat->Option Obj}{H N:Nat}{ob ib:Nat->Nat}{w1:World}{b:Nat}(h:RP b=none)(hb:b=H\/b=H+2\/∃i,i<N/\(b=ob i\/b=ib i)):roOf RP H N ob ib w1 b=w1.heap[b]?:=by
 unfold roOf;rw[if_neg (by rw[h];simp),if_pos hb]
theorem zq3o{RP:Nat->Option Obj}{H N:Nat}{ob ib:Nat->Nat}{w1:World}{b:Nat}{o:Obj}(h:roOf RP H N ob ib w1 b=some o):RP b=some o\/((b=H\/b=H+2\/∃i,i<N/\(b=ob i\/b=ib i))/\w1.heap[b]?=some o):=by
 unfold roOf at h;split at h
 . exact .inl h
 . split at h
   . rename_i h2;exact .inr ⟨h2,h⟩
   . cases h
structure OpsRes{M1 S1:Type}(C:Core M1 S1)(N:Nat)(l₀:M1)(w:World)(r:TSt (S1×(Nat->List Ans)))(ab:Nat)(v:Value)(l':M1)(am:AnsM)(w':World):Prop where
 rep:C.Rep l' w'
 st:C.st l'=r.s.1
 ans:zq2z tT ab N am w'
 ast:am.st=r.s.2
 size:w.heap.size<=w'.heap.size
 old:∀b,b<w.heap.size->¬C.foot l₀ b->w'.heap[b]?=w.heap[b]?
 foot:∀b,C.foot l' b->C.foot l₀ b\/w.heap.size<=b
 abl:w.heap.size<=ab
 ansn:∀i b,i<N->am.X i b≠none->C.foot l₀ b\/w.heap.size<=b
 anf:∀b,C.foot l' b->b≠ab/\∀i,i<N->am.X i b=none
 row:w'.ownsRow w.heap.size 3 1 v r.ord.length (r.ord.map λ(i:Nat)=>.int .i64 i)
 rowf:∀x,v.ownBlock=some x->¬C.foot l' x/\x≠ab/\∀i,i<N->am.X i x=none
theorem OpsRes.re {M1 S1:Type}{C:Core M1 S1}{N:Nat}{l₀:M1}{w w':World}{r:TSt (S1×(Nat->List Ans))}{ab:Nat}{v:Value}{l':M1}{am:AnsM}(h:OpsRes C N l₀ w r ab v l' am w')(τ:Nat->Question->Nat)(d:Nat):OpsRes C N l₀ w r ab v l' am (Go.Car.re w' τ d):=
 ⟨C.frame _ _ _ h.rep λ_ _=>rfl,h.st,⟨h.ans.hd,h.ans.row,h.ans.blk,h.ans.nab,h.ans.sep⟩,h.ast,h.size,h.old,h.foot,h.abl,h.ansn,h.anf,h.row,h.rowf⟩
section
variable {M1 S1:Type} {C:Core M1 S1} {RP:Nat->Option Obj} {l₀:M1} {wa w1:World} {N n:Nat} {pp:Option Addr} {sp:Nat->Option Addr} {L Cp:Nat->Nat} {ops:Nat->List OpX} {ob ib:Nat->Nat} {dv fv:Value}
theorem ops_rep(hR:DRes wa N dv sp L Cp N ob ib fv w1)(hb:BRep C RP ⟨l₀,λ_ _=>none⟩ wa):BRep (zqi C (zqs tT (wa.heap.size+1) N)) (roOf RP wa.heap.size N ob ib w1) ⟨(l₀,ans0),λ_ _=>none⟩ w1:=by
 have hcl:∀b,C.foot l₀ b->b<wa.heap.size:=λb h=>C.lt _ _ _ hb.core h;have hrl:∀b o,RP b=some o->b<wa.heap.size:=λb o h=>zqt (hb.rod b o h);have hnw:∀b o,roOf RP wa.heap.size N ob ib w1 b=some o->RP b=some o\/(wa.heap.size<=b/\b≠wa.heap.size+1/\w1.heap[b]?=some o):=λb o h=>by
  rcases zq3o h with h|⟨h,h2⟩
  . exact .inl h
  . right
    rcases h with h|h|⟨i,hi,h⟩
    . exact⟨by omega,by omega,h2⟩
    . exact⟨by omega,by omega,h2⟩
    . have:=hR.lo i hi;rcases h with h|h<;>exact⟨by omega,by omega,h2⟩
 refine⟨⟨C.frame _ _ _ hb.core λb h=>hR.old b (hcl b h),⟨?_,λi hi=>AnsR.nil _ _,λi b o _ h=>(by cases h),λi _=>rfl,λi j b _ _ _ _=>rfl⟩,λb h=>?_⟩,λi b o h=>(by cases h),λb o h=>?_,λi b h=>absurd rfl h,λi j b _ h=>absurd rfl h,λb h=>?_,λi b _=>rfl⟩
 . show w1.heap[wa.heap.size+1]?=_;rw[hR.ab];congr 2;apply Array.ext_getElem?;intro i
   by_cases hi:i<N
   . simp[ans0,hi]
   . simp[ans0,hi]
 . rintro(h2|⟨i,hi,h2⟩)
   . have:=hcl b h;omega
   . exact h2 rfl
 . rcases hnw b o h with h|h
   . rw[hR.old b (hrl b o h)];exact hb.rod b o h
   . exact h.2.2
 . cases ho:roOf RP wa.heap.size N ob ib w1 b with
   |none=>exact absurd ho h
   |some o=>
    rintro(h2|h2|⟨i,hi,h2⟩)
    . rcases hnw b o ho with h3|h3
      . exact hb.rol b (by rw[h3];simp) h2
      . have:=hcl b h2;omega
    . rcases hnw b o ho with h3|h3
      . have:=hrl b o h3;omega
      . exact h3.2.1 h2
    . exact h2 rfl
theorem ops_ro{f:FuncId}{first caps:Array Value}(hR:DRes wa N (.func (.func f) first caps) sp L Cp N ob ib fv w1)(hb:BRep C RP ⟨l₀,λ_ _=>none⟩ wa)(hN:N<=64)(hlen:∀i,i<N->(ops i).length=min (L i) 65536)(hop:∀i,i<N->∀k op,(ops i)[k]?=some op->∃g off cur e fr,sp i=some ⟨g,off,none⟩/\RP g=some (.cells cur e fr)/\∀j,j<4->cur[off+k*4+j]?=op.cells[j]?){i:Nat}(hi:i<N):
 DoRo (roOf RP wa.heap.size N ob ib w1) i N (wa.heap.size+1) (ob i) wa.heap.size (ib i) (wa.heap.size+2) (sp i) (min (L i) 65536) (Cp i) (ops i) f first caps:=by
 have hno:∀b,wa.heap.size<=b->RP b=none:=λb hle=>by
  cases h:RP b with
  |none=>rfl
  |some o=>have:=zqt (hb.rod b o h);omega
 have hlo:=hR.lo i hi;refine⟨?_,?_,?_,?_,hlen i hi,Nat.min_le_right _ _,hi,hN,λk op hk=>?_⟩
 . rw[zq4o (hno _ (by omega)) (.inr (.inr ⟨i,hi,.inl rfl⟩))];exact hR.obx i hi
 . rw[zq4o (hno _ (Nat.le_refl _)) (.inl rfl)];exact hR.db
 . rw[zq4o (hno _ (by omega)) (.inr (.inr ⟨i,hi,.inr rfl⟩))];exact hR.ibx i hi
 . rw[zq4o (hno _ (by omega)) (.inr (.inl rfl))];exact hR.hb
 . obtain⟨g,off,cur,e,fr,h1,h2,h3⟩:=hop i hi k op hk;exact⟨g,off,cur,e,fr,h1,zq5l h2,h3⟩
end
def Beyond(w w':World):Prop:=w.heap.size<=w'.heap.size/\∀b,b<w.heap.size->w'.heap[b]?=w.heap[b]?
theorem Beyond.refl (w:World):Beyond w w:=⟨Nat.le_refl _,λ_ _=>rfl⟩
theorem Beyond.trans {w w' w'':World}(h:Beyond w w')(k:Beyond w' w''):Beyond w w'':=⟨Nat.le_trans h.1 k.1,λb hb=>(k.2 b (Nat.lt_of_lt_of_le hb h.1)).trans (h.2 b hb)⟩
theorem Beyond.alloc (w:World)(o:Obj):Beyond w (w.alloc o):=⟨by rw[zqh];omega,λb hb=>by rw[zqd,if_neg (by omega)]⟩
theorem Beyond.heap {w w':World}(h:Beyond w w'){b:Nat}{o:Obj}(hb:w.heap[b]?=some o):w'.heap[b]?=some o:=(h.2 b (zqt hb)).trans hb
theorem Beyond.cell {w w':World}(h:Beyond w w'){a:Addr}{v:Value}(hb:w.cell? a=some v):w'.cell? a=some v:=(zq14 (h.2 a.block (cell_lt hb))).trans hb
theorem Beyond.re (w:World)(τ:Nat->Question->Nat)(d:Nat):Beyond w (Go.Car.re w τ d):=⟨Nat.le_refl _,λ_ _=>rfl⟩
def zq3w(w:World)(v:Value)(l:List Int):Prop:=∃p C,v=.slice p l.length C/\(l≠[]->∃b o,p=some ⟨b,o,none⟩/\∀i,i<l.length->w.cell? ⟨b,o+i,none⟩=some (.int .i64 (l.getD i 0)))
def AnsAt(w:World)(v:Value)(l:List Ans):Prop:=∃p C,v=.slice p l.length C/\(l≠[]->∃b o,p=some ⟨b,o,none⟩/\∀i a,l[i]?=some a->w.cell? ⟨b,o+i*3,none⟩=some (.bool a.ok)/\w.cell? ⟨b,o+i*3+1,none⟩=some (.int .i64 a.n)/\∃lv,w.cell? ⟨b,o+i*3+2,none⟩=some lv/\zq3w w lv a.l)
end Go.Proofs
namespace Go.Car
open Go Go.Conc Go.RowKit
section
variable {P:Program}
def FinOf(P:Program)(Post:Value->World->Prop)(m:Machine)(T:Trace):Prop:=
 ∃N last o w' t',runNT P (N+1) m T=(.ended o w',t')/\runN P N m=.next last/\step P last=.ended o w'/\Conc.Good P (λv w=>Post v w/\w.os=m.world.os/\w.output=m.world.output) last o w' t'
theorem zq50(Post:Value->World->Prop):Back P (FinOf P Post):=by
 intro N m T m' T' hrun e1 e2 ⟨M,last,o,w',t',h1,h2,h3,h4⟩;rw[e1,e2]at h4;have hn:runN P N m=.next m':=by rw[<-runNT_fst P _ _ T,hrun]
 refine⟨N+M,last,o,w',t',?_,?_,h3,h4⟩
 . rw[Nat.add_assoc,runNT_add,hrun];exact h1
 . rw[runN_add,hn];exact h2
theorem j0_run{Post:Value->World->Prop}{f:FuncId}{fn:Func}{c:Code}{args:Array Value}{W:World}(hf:P.funcs[f]?=some fn)(hb:fn.body=some c)
 (h:J0 P (FinOf P Post) 1 (G (Frame.enter P f args .normal) []) W):FinOf P Post (solo (G (Frame.enter P f args .normal) []) W) #[]:=by
 have hL:Leavers P (#[]:Trace) #[G (Frame.enter P f args .normal) []] (λ_=>0):=⟨λi g hi hg=>by
  rcases i with _|i
  . omega
  . simp at hg,λj _=>rfl⟩
 have hP:Past (λ_=>False) 0 (#[]:Trace):=past_nil;have hR:=ring_begin (P:=P) (K:=KK (λ_=>none)) (Still:=zq1y (λ_=>none)) (w:=W.at W.drawn) (B:=0) (λl⟨a,v,_,hv⟩=>by cases hv) hL hP (zq6a _);have:=h W.tape W.drawn (λg=>g=0) 0 #[G (Frame.enter P f args .normal) []] none #[] (λ_=>0) rfl rfl rfl hR;rw[solo_eq_crowd];exact this
end
end Go.Car
namespace Go.Car
open Go Go.Conc Go.RowKit
section
variable {P:Program} {A:FuncId->Bool}
end
end Go.Car
namespace Go.Proofs
open Go Go.Conc Go.RowKit Go.Car Go.ChangeShapes Go.WideShapes Go.Deep
section
variable {H:Type} {enc:TypeId×Value->H} {P:Program} {w:World} {held:Bool} {sp:Nat->Bool}
end
end Go.Proofs
namespace Go.Car
open Go Go.Conc
end Go.Car
namespace Go.Proofs.Ytkdlklpffdlglaa
open Go Go.Conc Go.RowKit Go.Car Go.ChangeShapes Go.WideShapes Go.ChangeAt
theorem own_knob:ownKnob Try.prog.godebug=none:=by kernel_rfl
theorem laid_out:laidOutB Try.prog=true:=by kernel_rfl
theorem zqe4{H:Type}{enc:TypeId×Value->H}{t:TypeId}(hr:Try.prog.readableRec t=true)(hrow:t<Try.prog.types.size){W w':World}{v:Value}{d:DataW H}{ps:List MemPlace}
 (h:DataW.Trod enc Try.prog W 0 (λ_=>true) true t v d ps) (hb:Beyond W w') (hlt:∀x∈ps,x.block<W.heap.size):DataW.Trod enc Try.prog w' 0 (λb=>decide (b<W.heap.size)) true t v d ps:=
 DataW.Trod.of_heap (w:={w' with os:=W.os,tape:=W.tape,output:=W.output}) (by rfl) (Below.trod laid_out hr hrow h ⟨rfl,rfl,rfl,hb.1,hb.2⟩ hlt)
theorem zqcd{W w':World}(hb:Beyond W w')(ho:w'.os=W.os)(hu:w'.output=W.output)(may:MemPlace->Prop):W.keptBut w' may:=by
 have h:=Below.frame (W:=W) (w':={w' with os:=W.os,tape:=W.tape,output:=W.output}) ⟨rfl,rfl,rfl,hb.1,hb.2⟩ may;exact⟨ho,hu,h.2.2⟩
end Go.Proofs.Ytkdlklpffdlglaa
namespace Go.Proofs
open Go Go.Conc Go.RowKit Go.Car
def aLC:List FuncId:=[78,93,89]
def aRC:List FuncId:=[86,95,100,92]
def aMC(f:FuncId):Bool:=aLC.contains f || aRC.contains f
theorem plain_rowsC:Plain Try.prog aMC/\RowsS Try.prog aMC:=by
 refine zq4l (by kernel_rfl) (λf hf=>?_) (by kernel_rfl) (by kernel_rfl);simp only[aRC,List.mem_cons,List.not_mem_nil,or_false]at hf;rcases hf with rfl |rfl |rfl |rfl
 . exact⟨_,Extern.Atomic.loadT (.int .u32),Try.func86,rfl,by kernel_rfl,by kernel_rfl,by kernel_rfl,λ_=>zq5y _ _,λ_=>zq5t _ _⟩
 . exact⟨_,Extern.Atomic.casT (.int .i32),Try.func95,rfl,by kernel_rfl,by kernel_rfl,by kernel_rfl,λ_=>zq5w _ _,λ_=>zq5r _ _⟩
 . exact⟨_,Extern.Atomic.update (Op.intArith .add) .i32 true,Try.func100,rfl,by kernel_rfl,by kernel_rfl,by kernel_rfl,λ_=>zqae _ _ _,λ_=>zq90 _ _ _⟩
 . exact⟨_,Extern.Atomic.storeT,Try.func92,rfl,by kernel_rfl,by kernel_rfl,by kernel_rfl,λ_=>zqa7 _,λ_=>zq8x _⟩
theorem zq38:Plain Try.prog aMC:=plain_rowsC.1
def aLB:List FuncId:=[19]
def aRB:List FuncId:=[73,72]
def aMB(f:FuncId):Bool:=aLB.contains f || aRB.contains f
theorem plain_rowsB:Plain Try.prog aMB/\RowsS Try.prog aMB:=by
 refine zq4l (by kernel_rfl) (λf hf=>?_) (by kernel_rfl) (by kernel_rfl);simp only[aRB,List.mem_cons,List.not_mem_nil,or_false]at hf;rcases hf with rfl |rfl
 . exact⟨_,Extern.Atomic.loadT .ptr,Try.func73,rfl,by kernel_rfl,by kernel_rfl,by kernel_rfl,λ_=>zq5y _ _,λ_=>zq5t _ _⟩
 . exact⟨_,Extern.Atomic.casT .ptr,Try.func72,rfl,by kernel_rfl,by kernel_rfl,by kernel_rfl,λ_=>zq5w _ _,λ_=>zq5r _ _⟩
theorem plainMB:Plain Try.prog aMB:=plain_rowsB.1
end Go.Proofs
namespace Go.Car
open Go Go.Conc Go.RowKit
section
variable {P:Program} {st:Bool}
theorem zqj5(a:Addr):tame P st (Conv.seenAt a):=by
 unfold Conv.seenAt
 repeat' (first|with_reducible (first|exact Tm.out|refine zq4 ?_|refine zq1 ?_ (λ_=>?_))|split|simp only[])
theorem zqhx(b:Nat):tame P st (cellsIn b):=by
 unfold cellsIn
 repeat' (first|with_reducible (first|exact Tm.out|refine zq4 ?_|refine zq1 ?_ (λ_=>?_))|split|simp only[])
theorem zqjk(a:Addr)(u:TypeId)(n:Nat):tame P st (variablesAt a u n):=by
 unfold variablesAt
 repeat' (first|with_reducible (first|exact Tm.out|refine zq4 ?_|refine zq1 ?_ (λ_=>?_))|split|simp only[])
theorem zqji{s d:TypeId}(x:Value):tame P st (Conv.unsafePointer s d x):=by
 unfold Conv.unsafePointer
 repeat' (first|with_reducible exact Tm.out|exact zqj5 _|exact zqhx _|exact zqjk _ _ _|with_reducible (first|refine zq4 ?_|refine zq1 ?_ (λ_=>?_))|split|simp only[])
theorem zqi0{s d:TypeId}(h:(∃e,P.underlying s=some (.pointer e)/\P.underlying d=some .unsafePointer)\/(∃e,P.underlying s=some .unsafePointer/\P.underlying d=some (.pointer e)))(x:Value):tame P st (convert s d x):=by
 refine zq3t λa ha=>?_;refine zq3t λb hb=>?_;rcases h with⟨e,h1,h2⟩|⟨e,h1,h2⟩
 all_goals(
  rw[h1]at ha;rw[h2]at hb;cases ha;cases hb;split<;>first|exact zqji _|exact True.intro|contradiction)
end
section
variable {P:Program} {main:Bool} {Kc:Addr->Option Value} {γ:Type} {J:γ->Goroutine->World->Prop}
theorem zq6i(hJ:JS P main Kc J){b:Frame}{k:List Item}{cs:List Frame}(hb:b.kind≠.early){ops:Array Oper}{i:Nat}{rest:List Nat}{o:Oper}{s:γ}{T:Array Value}{ds:List Deferred}{w:World}{d:Tmp}{src dst:TypeId}{x:Operand}{v:Value}
 (ho:ops[i]?=some o) (hop:o.op=.convert src dst x) (ht:(∃e,P.underlying src=some (.pointer e)/\P.underlying dst=some .unsafePointer)\/(∃e,P.underlying src=some .unsafePointer/\P.underlying dst=some (.pointer e))) (hg:o.guard=none) (hd:o.dst=some d)
 (hr:∀τ dd,(convert src dst ((Act.mk T ds).eval x)).run P (re w τ dd)=.ok v (re w τ dd))
 (hn:J s (G (b.at ⟨T.setIfInBounds d v,ds⟩ (.inRegion ops rest::k)) cs) w):J s (G (b.at ⟨T,ds⟩ (.inRegion ops (i::rest)::k)) cs) w:=by
 refine zq1j hb hJ ho (by simp[Region.wanted,hg]) λτ dd=>?_;have e:execOp (Act.mk T ds).eval o=(do pure (.value (<-convert src dst ((Act.mk T ds).eval x))):Sem Next):=by
  obtain⟨od,op,oty,opos,oaf,og⟩:=o;simp only at hop;subst hop;rfl
 have htame:tame P false (execOp (Act.mk T ds).eval o):=by rw[e];exact zql (zqi0 ht _)
 obtain⟨h1,h2⟩:=zq2p (Kc:=Kc) htame (re w τ dd);refine⟨h1,h2,?_⟩;have hrun:(execOp (Act.mk T ds).eval o).run P (re w τ dd)=.ok (.value v) (re w τ dd):=by
  rw[e,Sem.run_bind,hr τ dd];rfl
 rw[hrun];show J s (G (b.at ((Act.mk T ds).put o.dst v) _) _) _;rw[hd];exact hJ.re' s _ w τ dd hn
end
section
variable {P:Program}
end
section
variable {P:Program} {A:FuncId->Bool} {Ml S α:Type} {C:Core Ml S} {ro:Nat->Option Obj} {i:Nat}
structure LoneAt(C:Core Ml S)(ro:Nat->Option Obj)(i cf:Nat)(m₀:BM Ml)(w₀:World)(T:S×Option α×Nat)(m:BM Ml)(w:World)(r:S×Tree S α):Prop where
 rep:BRep C ro m w
 size:w₀.heap.size<=w.heap.size
 old:∀b,b<w₀.heap.size->¬BM.foot C ro m₀ b->w.heap[b]?=w₀.heap[b]?
 grow:∀b,BM.foot C ro m b->BM.foot C ro m₀ b\/w₀.heap.size<=b
 run:∃n,r.2.run r.1=(T.1,T.2.1,n)/\(∃a,T.2.1=some a)/\C.pin m.l+cf*n=C.pin m₀.l+cf*T.2.2
 others:∀j,j≠i->m.box j=m₀.box j
theorem LoneAt.done {cf:Nat}{m₀:BM Ml}{w₀:World}{T:S×Option α×Nat}{m:BM Ml}{w w':World}{r:S×Tree S α}{l':Ml}{B':Nat->Option Obj}(h:LoneAt C ro i cf m₀ w₀ T m w r)(k:Moved C m.l (m.box i) w l' B' w'):LoneAt C ro i cf m₀ w₀ T (m.put i l' B') w' r:=by
 refine⟨k.done h.rep,Nat.le_trans h.size k.size,λb hb hf=>?_,λb hb=>?_,?_,λj hj=>(BM.put_other _ _ _ hj).trans (h.others j hj)⟩
 . rw[Moved.foot_old h.rep k b (Nat.lt_of_lt_of_le hb h.size) λhf'=>(h.grow b hf').elim hf (λx=>absurd hb (Nat.not_lt_of_le x))];exact h.old b hb hf
 . exact(k.foot_grow b hb).elim (h.grow b) (λx=>.inr (Nat.le_trans h.size x))
 . obtain⟨n,h1,h2,h3⟩:=h.run;exact⟨n,h1,h2,by rw[BM.put_l,k.pin];exact h3⟩
def seqAlone(hP:Plain P A){main:Bool}{Kc:Addr->Option Value}{J:Goroutine->World->Prop}(hJ:JS P main Kc (λ(_:Unit)=>J))(hC:CalmJ P main (λ(_:Unit)=>J))(C:Core Ml S)(ro:Nat->Option Obj)(i cf:Nat)(m₀:BM Ml)(w₀:World)(T:S×Option α×Nat):Alone P A C ro i α where
 main:=main
 γ:=Unit
 J _:=J
 js _:=⟨Kc,hJ⟩
 AtE _ m w r:=LoneAt C ro i cf m₀ w₀ T m w r
 Dead _ _ _:=False
 Oth _ _:=True
 oth _:=trivial
 rep h:=h.rep
 move h k _:=h.done k
 item {s m w r it t ds} Φ Ψ h hok hw:=by
  intro b k cs hb hk;refine wpI_lone (J:=λ(_:Unit)=>J) (s:=()) (A:=A) (a:=⟨t,ds⟩) (w:=w)
   (Q:=λ_ e a w'=>a.defers=ds/\∃l' B',((e=.normal/\Φ a.tmps l' B')\/(e=.ret/\Ψ a.tmps l' B'))/\LoneAt C ro i cf m₀ w₀ T (m.put i l' B') w' r) hJ hC hP hok
   (λa w'=>∃l' B',Moved C m.l (m.box i) w l' B' w'/\Φ a.tmps l' B') (λa w'=>∃l' B',Moved C m.l (m.box i) w l' B' w'/\Ψ a.tmps l' B')
   (λa w' τ d⟨l',B',h2,h3⟩=>⟨l',B',h2.re τ d,h3⟩) (λa w' τ d⟨l',B',h2,h3⟩=>⟨l',B',h2.re τ d,h3⟩) ?_ ?_ ?_ b k cs hb ?_
  . intro τ d;refine zq2x (hw (Car.re w τ d) (h.rep.re τ d) rfl) ?_;intro e a w' q;cases e with
    |normal=>obtain⟨q1,l',B',⟨q2,_⟩,q3⟩:=q;exact⟨q1,l',B',⟨q2.size,q2.old,q2.rep,q2.box,q2.growl,q2.growb,q2.apart,q2.pin⟩,q3⟩
    |ret=>obtain⟨q1,l',B',⟨q2,_⟩,q3⟩:=q;exact⟨q1,l',B',⟨q2.size,q2.old,q2.rep,q2.box,q2.growl,q2.growb,q2.apart,q2.pin⟩,q3⟩
    |_=>exact q
  . rintro t' w' ⟨l',B',h2,h3⟩;exact⟨rfl,l',B',.inl ⟨rfl,h3⟩,h.done h2⟩
  . rintro t' w' ⟨l',B',h2,h3⟩;exact⟨rfl,l',B',.inr ⟨rfl,h3⟩,h.done h2⟩
  . rintro _ e a w' ⟨h1,l',B',h2,h3⟩;have:=hk s e a w' ⟨rfl,h1,l',B',h2,h3⟩;cases e<;>exact this
 call {s m w r g fn c args} R' h hf hb hok hw:=by
  intro cl cs h1 h2;refine zq6m (J:=λ(_:Unit)=>J) (s:=()) (A:=A) (w:=w) hJ hC hP hf hb hok (R:=λv w'=>∃l' B',Moved C m.l (m.box i) w l' B' w'/\R' v l' B')
   (λv w' τ d⟨l',B',h2,h3⟩=>⟨l',B',h2.re τ d,h3⟩) ?_ cl cs ?_ ?_
  . intro τ d;refine Calls.mono (hw (Car.re w τ d) (h.rep.re τ d) rfl) ?_;intro e w' q;cases e with
    |returned v=>obtain⟨l',B',⟨q2,_⟩,q3⟩:=q;exact⟨l',B',⟨q2.size,q2.old,q2.rep,q2.box,q2.growl,q2.growb,q2.apart,q2.pin⟩,q3⟩
    |_=>exact q
  . rintro s' v w' ⟨_,l',B',k1,k2⟩;exact h1 () v w' ⟨rfl,v,l',B',rfl,k2,h.done k1⟩
  . rintro s' ch w' hf';exact hf'.elim
abbrev zq25(hP:Plain P A){main:Bool}{Kc:Addr->Option Value}{J:Goroutine->World->Prop}(hJ:JS P main Kc (λ(_:Unit)=>J))(hC:CalmJ P main (λ(_:Unit)=>J))(C:Core Ml S)(ro:Nat->Option Obj)(i cf:Nat)(m₀:BM Ml)(w₀:World)(T:S×Option α×Nat):YSys P A C ro i α:=(seqAlone hP hJ hC C ro i cf m₀ w₀ T).sys (λ_=>True)
theorem LoneAt.skip {m₀:BM Ml}{w₀:World}{T:S×Option α×Nat}{m:BM Ml}{w:World}{K:Unit->Proc S α}(h:LoneAt C ro i 0 m₀ w₀ T m w (Proc.tick.bind K (C.st m.l))):LoneAt C ro i 0 m₀ w₀ T m w (K () (C.st m.l)):=by
 refine⟨h.rep,h.size,h.old,h.grow,?_,h.others⟩;obtain⟨n,h1,h2,h3⟩:=h.run;have e:(Proc.tick.bind K (C.st m.l)).2.run (Proc.tick.bind K (C.st m.l)).1=(((K ()).run (C.st m.l)).1,((K ()).run (C.st m.l)).2.1,((K ()).run (C.st m.l)).2.2+1):=rfl;rw[e]at h1;refine⟨((K ()).run (C.st m.l)).2.2,?_,h2,by omega⟩;show(K ()).run (C.st m.l)=_;have a1:=congrArg (λx=>x.1) h1;have a2:=congrArg (λx=>x.2.1) h1;exact Prod.ext a1 (Prod.ext a2 rfl)
theorem LoneAt.count {m₀:BM Ml}{w₀:World}{T:S×Option α×Nat}{m:BM Ml}{w w':World}{l':Ml}{K:Unit->Proc S α}(h:LoneAt C ro i 1 m₀ w₀ T m w (Proc.tick.bind K (C.st m.l)))(hst:C.st l'=C.st m.l)(hpin:C.pin l'=C.pin m.l+1)(hl:∀b,C.foot l' b↔C.foot m.l b)(hrep:BRep C ro ⟨l',m.box⟩ w')(hs:w.heap.size<=w'.heap.size)(ho:∀b,b<w.heap.size->¬C.foot m.l b->w'.heap[b]?=w.heap[b]?):LoneAt C ro i 1 m₀ w₀ T ⟨l',m.box⟩ w' (K () (C.st l')):=by
 have hf:∀b,BM.foot C ro ⟨l',m.box⟩ b↔BM.foot C ro m b:=λb=>⟨λx=>x.elim (λy=>.inl ((hl b).1 y)) .inr,λx=>x.elim (λy=>.inl ((hl b).2 y)) .inr⟩;refine⟨hrep,Nat.le_trans h.size hs,λb hb hn=>?_,λb hb=>h.grow b ((hf b).1 hb),?_,h.others⟩
 . rw[ho b (Nat.lt_of_lt_of_le hb h.size) λx=>(h.grow b (.inl x)).elim hn (λy=>absurd hb (Nat.not_lt_of_le y))];exact h.old b hb hn
 obtain⟨n,h1,h2,h3⟩:=h.run;have e:(Proc.tick.bind K (C.st m.l)).2.run (Proc.tick.bind K (C.st m.l)).1=(((K ()).run (C.st m.l)).1,((K ()).run (C.st m.l)).2.1,((K ()).run (C.st m.l)).2.2+1):=rfl;rw[e]at h1;have a1:=congrArg (λx=>x.1) h1;have a2:=congrArg (λx=>x.2.1) h1;have a3:=congrArg (λx=>x.2.2) h1;simp only at a1 a2 a3;refine⟨((K ()).run (C.st m.l)).2.2,?_,h2,by show C.pin l'+_=_;omega⟩;rw[hst];show(K ()).run (C.st m.l)=_;exact Prod.ext a1 (Prod.ext a2 rfl)
end
structure NumT where
 N:Nat
 ob:Nat->Nat
 len:Nat->Nat
 ty:Nat->TypeId
abbrev Nums:=Nat->Nat->Int
def upd2(g:Nums)(c j:Nat)(x:Int):Nums:=upd' g c (upd' (g c) j x)
def rowA(n:Nat)(f:Nat->Int):Array Value:=((List.range n).map λj=>Value.int .i64 (f j)).toArray
theorem zq5m{n j:Nat}{f:Nat->Int}(h:j<n):(rowA n f)[j]?=some (.int .i64 (f j)):=by
 unfold rowA;rw[al_gl,List.getElem?_map,List.getElem?_range h];rfl
theorem rowA_set{n j:Nat}{f:Nat->Int}(x:Int):(rowA n f).setIfInBounds j (.int .i64 x)=rowA n (upd' f j x):=by
 apply Array.ext_getElem?;intro k;rw[al_gs]
 by_cases hk:k<n
 . rw[zq5m hk,zq5m hk]
   by_cases e:j=k
   . subst e;rw[if_pos rfl,if_pos (by unfold rowA;simpa using hk),upd'_same]
   . rw[if_neg e,zq17 _ _ (λx=>e x.symm)]
 . have e1:∀f:Nat->Int,(rowA n f)[k]?=none:=λf=>by unfold rowA;simp[hk]
   rw[e1,e1]
   by_cases e:j=k
   . subst e;rw[if_pos rfl,if_neg (by unfold rowA;simpa using hk)]
   . rw[if_neg e]
structure NumRep(T:NumT)(g:Nums)(w:World):Prop where
 blk:∀c,c<T.N->w.heap[T.ob c]?=some (.cells (rowA (T.len c) (g c)) (T.ty c))
 inj:∀c d,c<T.N->d<T.N->T.ob c=T.ob d->c=d
def zqq(T:NumT):Core Nums Nums where
 foot _ b:=∃c,c<T.N/\b=T.ob c
 Rep:=NumRep T
 st g:=g
 frame g w w' h hs:=⟨λc hc=>(hs _ ⟨c,hc,rfl⟩).trans (h.blk c hc),h.inj⟩
 lt g w b h hb:=by
  obtain⟨c,hc,rfl⟩:=hb;exact zqt (h.blk c hc)
 pin _:=0
def onN{S2 α:Type}(f:Nums->Nums×α):Proc (Nums×S2) α:=Proc.act λs=>(((f s.1).1,s.2),(f s.1).2)
section
variable {T:NumT} {g:Nums} {w:World} {c j:Nat}
theorem NumRep.re (h:NumRep T g w)(τ:Nat->Question->Nat)(d:Nat):NumRep T g (Car.re w τ d):=⟨h.blk,h.inj⟩
theorem NumRep.cell (h:NumRep T g w)(hc:c<T.N)(hj:j<T.len c):w.cell? ⟨T.ob c,j,none⟩=some (.int .i64 (g c j)):=
 (zq0 (h.blk c hc)).trans (zq5m hj)
theorem NumRep.frozen (h:NumRep T g w)(hc:c<T.N):w.frozen? ⟨T.ob c,j,none⟩=false:=zqf (h.blk c hc)
theorem NumRep.set (h:NumRep T g w)(hc:c<T.N)(x:Int):NumRep T (upd2 g c j x) (w.setCell ⟨T.ob c,j,none⟩ (.int .i64 x)):=by
 refine⟨λd hd=>?_,h.inj⟩
 by_cases e:d=c
 . subst e;refine(zqu _ _ _ _ (h.blk d hd)).trans ?_;rw[rowA_set];unfold upd2;rw[upd'_same]
 . rw[zqn _ _ _ _ (λx=>e (h.inj d c hd hc x))];unfold upd2;rw[zq17 _ _ e];exact h.blk d hd
end
section
variable {M2 S2:Type} {D:Core M2 S2} {ro:Nat->Option Obj} {i:Nat} {T:NumT} {m:BM (Nums×M2)} {wc:World}
theorem zq1s(hB:BRep (zqi (zqq T) D) ro m wc)(τ:Nat->Question->Nat)(d:Nat):NumRep T m.l.1 (re wc τ d):=NumRep.re hB.core.1 τ d
theorem zq5h(hB:BRep (zqi (zqq T) D) ro m wc){c j:Nat}(hc:c<T.N)(x:Int)(τ:Nat->Question->Nat)(d:Nat)(τ':Nat->Question->Nat)(d':Nat):Moved (zqi (zqq T) D) m.l (m.box i) wc (upd2 m.l.1 c j x,m.l.2) (m.box i) (re ((re wc τ d).setCell ⟨T.ob c,j,none⟩ (.int .i64 x)) τ' d'):=by
 have hS:=zq1s hB τ d;have hf:(zqq T).foot m.l.1 (T.ob c):=⟨c,hc,rfl⟩;refine Moved.left hB ⟨?_,λb hb h1 h2=>?_,(hS.set hc x).re τ' d',λb o hb=>?_,λb hb=>.inl hb,λb hb=>.inl hb,λb hb=>?_,rfl⟩
 . show wc.heap.size<=((re wc τ d).setCell _ _).heap.size;rw[zq11];exact Nat.le_refl _
 . show((re wc τ d).setCell _ _).heap[b]?=_;rw[zqn _ _ _ _ (λe=>h1 (by subst e;exact hf))];rfl
 . show((re wc τ d).setCell _ _).heap[b]?=_;have hn:m.box i b≠none:=by rw[hb];simp
   rw[zqn _ _ _ _ (λe=>hB.apart i b hn (.inl (by subst e;exact hf)))];exact hB.box i b o hb
 . exact Classical.byContradiction λx=>hB.apart i b x (.inl hb)
end
end Go.Car
namespace Go.Proofs
open Go Go.Conc Go.RowKit Go.Car
section
variable {P:Program} {f:FuncId} {fn:Func}
end
section
variable {main:Bool} {Kc:Addr->Option Value} {J:Goroutine->World->Prop}
end
abbrev BoxM:=Option (Nat×ByteArray)×(Nat->Bool)
abbrev BoxS:=Option ByteArray×(Nat->Bool)
section
variable {M2 S2 β:Type} {D:Core M2 S2} {ro:Nat->Option Obj} {i:Nat} {bb:Nat}
end
section
variable {P:Program} {A:FuncId->Bool} {Ml S β:Type} {C:Core Ml S} {ro:Nat->Option Obj} {i:Nat} (Z:Alone P A C ro i β) {s:Z.γ} {m:BM Ml} {w:World} {r:S×Tree S β} {t t':Array Value} {ds:List Deferred} {Q:Z.γ->Exit->Act->World->Prop}
end
section
variable {M2 S2 β:Type} {D:Core M2 S2} {ro:Nat->Option Obj} {i:Nat} {bb:Nat}
end
end Go.Proofs
namespace Go.Car
open Go Go.Conc Go.RowKit
section
variable {P:Program} {A:FuncId->Bool} {Ml S β α:Type} {C:Core Ml S} {ro:Nat->Option Obj} {i:Nat} {Y:YSys P A C ro i β} {B:Nat->Option Obj}
variable {Q:Y.γ->Exit->Act->World->Prop} {s:Y.γ} {w:World} {p:Proc S β} {t:Array Value} {ds:List Deferred}
def SpecAt(Y:YSys P A C ro i β)(B:Nat->Option Obj)(f:FuncId)(args:Array Value)(p:Proc S α)(val:α->Value):Prop:=
 ∀(K:α->Proc S β)(s:Y.γ)(w:World),(∀a,Y.sil (K a))->Y.AtB B s w (p.bind K)->zq1b P Y.J f args (RetY Y K val B) s w
theorem SpecY.at' {f:FuncId}{args:Array Value}{pp:Proc S α}{val:α->Value}(h:SpecY Y f args pp val)(B:Nat->Option Obj):SpecAt Y B f args pp val:=by
 rintro K s w hK ⟨m,rfl,hA⟩ cl cs h1 h2;refine h K s m w hK hA cl cs ?_ h2;rintro s' v w' ⟨a,m',rfl,k1,k2⟩;exact h1 s' _ w' ⟨a,rfl,m',k1,k2⟩
theorem SpecAt.of {f:FuncId}{fn:Func}{c:Code}{args:Array Value}{pp:Proc S α}{val:α->Value}(hf:P.funcs[f]?=some fn)(hb:fn.body=some c)
 (h:∀(K:α->Proc S β)(s:Y.γ)(w:World),(∀a,Y.sil (K a))->Y.AtB B s w (pp.bind K)->wpJ Y.J c (bodyC (Y.Bd fn (RetY Y K val B)) (RetY Y K val B)) s (zqg fn args) w):SpecAt Y B f args pp val:=
 λK s w hK hA=>BodyY.calls ⟨fn,c,hf,hb,h K s w hK hA⟩
theorem YSys.callB {ops:Array Oper}{todo rest:List Nat}(k n q:Nat){t₁:Array Value}{o:Oper}{f:FuncId}{args:Array Value}{pp:Proc S α}{val:α->Value}{K:α->Proc S β}{d₀:Tmp}(hA:Y.AtB B s w (pp.bind K))(hspec:SpecAt Y B f args pp val)(hK:∀a,Y.sil (K a))
 (hsz:k+n+(q+1)=ops.size) (ht:todo=List.range' k (n+(q+1))) (hr:rest=List.range' (k+n+1) q) (hc:chk P (λ_=>false) true ops k n=true) (ho:ops[k+n]?=some o) (hg:o.guard=none) (hd₀:o.dst=some d₀)
 (hpre:∀wc,Y.KnB B wc->∀X:Exit->Act->World->Prop,(∀w',Ext1 wc w'->X .normal ⟨t₁,ds⟩ w')->wpList P ops X ((ops.toList.drop k).take n) ⟨t,ds⟩ wc)
 (hrun:∀w,(execOp (Act.mk t₁ ds).eval o).run P w=.ok (.enter f args) w) (hev:∀w,(execOp (Act.mk t₁ ds).eval o).events P w #[]=#[])
 (hd:∀s' ch w',Y.Dead s' ch w'->Q s' (.panic ch) ⟨t₁,ds⟩ w')
 (hk:∀s' a w',Y.AtB B s' w' (K a)->opsJ Y.J ops rest Q s' ⟨t₁.setIfInBounds d₀ (val a),ds⟩ w'):opsJ Y.J ops todo Q s ⟨t,ds⟩ w:=by
 refine Y.pre0 k n (q+1) (rest:=(k+n)::rest) hA hsz ht (by rw[hr,List.range'_succ]) hc hpre λw' hA'=>?_;refine Y.callO (hspec K s w' hK hA') ho hg hd₀ hrun hev ?_;intro s' e w'' hp;cases e with
 |returned v=>
  obtain⟨a,rfl,hA''⟩:=hp;exact hk s' a w'' hA''
 |panicked ch=>exact hd s' ch w'' hp
 |outgrown=>exact hp
end
section
variable {P:Program} {A:FuncId->Bool} {Ml S α:Type} {C:Core Ml S} {ro:Nat->Option Obj} {i:Nat}
theorem zqeg(hP:Plain P A){main:Bool}{Kc:Addr->Option Value}{J:Goroutine->World->Prop}(hJ:JS P main Kc (λ(_:Unit)=>J))(hC:CalmJ P main (λ(_:Unit)=>J)){f:FuncId}{args:Array Value}{p:Proc S α}{val:α->Value}{m₀:BM Ml}{w₀:World}(hrep:BRep C ro m₀ w₀)(hT:∃a,(p.run (C.st m₀.l)).2.1=some a)(cf:Nat)
 (hspec:SpecAt (zq25 hP hJ hC C ro i cf m₀ w₀ (p.run (C.st m₀.l))) (m₀.box i) f args p val) {cl:Frame} {cs:List Frame}
 (hq:∀a m' w',m'.box i=m₀.box i->LoneAt C ro i cf m₀ w₀ (p.run (C.st m₀.l)) m' w' (C.st m'.l,.ret a)->J (G (cl.finish (val a)) cs) w'):J (G (Frame.enter P f args .normal) (cl::cs)) w₀:=by
 have h0:LoneAt C ro i cf m₀ w₀ (p.run (C.st m₀.l)) m₀ w₀ (p.bind Proc.ret (C.st m₀.l)):=by
  rw[Proc.bind_pure];exact⟨hrep,Nat.le_refl _,λ_ _ _=>rfl,λ_ h=>.inl h,⟨_,rfl,hT,rfl⟩,λ_ _=>rfl⟩
 refine hspec Proc.ret () w₀ (λ_=>trivial) ⟨m₀,rfl,h0,trivial⟩ cl cs ?_ ?_
 . rintro s' v w' ⟨a,rfl,m',k2,k3,_⟩;exact hq a m' w' k2 k3
 . intro s' ch w' hf;exact hf.elim
end
end Go.Car
namespace Go.Proofs
open Go Go.Conc Go.RowKit Go.Car
section
variable {Ml S β:Type} {C:Core Ml S} {ro:Nat->Option Obj} {i:Nat} {A:FuncId->Bool}
end
section
variable {Fin:Machine->Trace->Prop} (hFin:Back Try.prog Fin) {n bb kb c:Nat} {W w:World} {o:Option ByteArray} {cl:Frame} {cs:List Frame}
include hFin
end
end Go.Proofs
namespace Go.Car
open Go Go.Conc Go.RowKit
open Go.ConcN (upd upd_ne upd_same)
section
variable {P:Program} {main:Bool} {γ:Type} {J:γ->Goroutine->World->Prop}
def zq42(ops:Array Oper):Bool:=(List.range ops.size).all λi=>match ops[i]? with
 |some o=>o.after.all (λe=>!Region.binds .any e || decide (e.on<i))
 |none=>false
end
section
variable {P:Program} {main:Bool} {γ:Type} {J:γ->Goroutine->World->Prop}
end
section
variable {P:Program} {main:Bool} {γ:Type} {J:γ->Goroutine->World->Prop}
end
def lstK(n k:Nat):Array Bool:=((List.range n).map λi=>decide (i<k)).toArray
theorem zq4f(n k:Nat):(lstK n k).size=n:=by simp[lstK]
theorem zq4e(n k i:Nat)(h:i<n):(lstK n k)[i]?=some (decide (i<k)):=by
 unfold lstK;rw[al_gl,List.getElem?_map,List.getElem?_range h];rfl
theorem lstK_of{listed:Array Bool}{n k:Nat}(hs:listed.size=n)(h1:∀i,i<k->listed.getD i false=true)(h2:∀i,k<=i->listed.getD i false=false):listed=lstK n k:=by
 apply Array.ext_getElem?;intro i
 by_cases hi:i<n
 . rw[zq4e n k i hi];have hi':i<listed.size:=by omega
   have e:listed.getD i false=listed[i]:=by simp[hi']
   rw[Array.getElem?_eq_getElem hi',<-e]
   by_cases hk:i<k
   . rw[h1 i hk];simp[hk]
   . rw[h2 i (by omega)];simp[hk]
 . rw[Array.getElem?_eq_none (by omega),Array.getElem?_eq_none (by rw[zq4f];omega)]
theorem zq7h(n k:Nat)(h:k<n):(lstK n k).setIfInBounds k true=lstK n (k+1):=by
 apply Array.ext_getElem?;intro i;rw[al_gs]
 by_cases hi:i<n
 . rw[zq4e n k i hi,zq4e n (k+1) i hi]
   by_cases e:k=i
   . subst e;rw[if_pos rfl,if_pos (by rw[zq4f];exact h)];simp
   . rw[if_neg e];congr 1;simp;omega
 . rw[Array.getElem?_eq_none (by rw[zq4f];omega),Array.getElem?_eq_none (by rw[zq4f];omega)]
   by_cases e:k=i
   . subst e;omega
   . rw[if_neg e]
def zq43(ops:Array Oper)(k:Nat):Bool:=(List.range ops.size).all λj=>decide (j<k) || (Region.ready .any ops (lstK ops.size j)==[j])
theorem chain_go{ops:Array Oper}{k:Nat}(h:zq43 ops k=true):∀(q j t:Nat),k<=j->j+q=ops.size->Region.linearise.go .any ops q t (lstK ops.size j) []=List.range' j q:=by
 intro q
 induction q with
 |zero=>intro j t _ _;rfl
 |succ q ih=>
  intro j t hk hj;have hr:Region.ready .any ops (lstK ops.size j)=[j]:=by
   unfold zq43 at h;rw[List.all_eq_true]at h;have:=h j (List.mem_range.2 (by omega));simp only[Bool.or_eq_true,decide_eq_true_eq,beq_iff_eq]at this;exact this.resolve_left (by omega)
  simp only[Region.linearise.go];change (match (Region.ready .any ops (lstK ops.size j))[t % (Region.ready .any ops (lstK ops.size j)).length]? with
   |some i=>Region.linearise.go .any ops q (t / (Region.ready .any ops (lstK ops.size j)).length) ((lstK ops.size j).setIfInBounds i true) [i]
   |none=>[].reverse)=_
  rw[hr];simp only[List.length_singleton,Nat.mod_one,al_g0];rw[linearise_go_acc,List.reverse_singleton,List.singleton_append,zq7h _ _ (by omega),ih (j+1) _ (by omega) (by omega),List.range'_succ]
theorem zqck(n:Nat):∀(q k:Nat),k+q=n->left (lstK n k)=q:=by
 intro q
 induction q with
 |zero=>
  intro k hk;unfold left;rw[List.length_eq_zero_iff,List.filter_eq_nil_iff];intro x hx;simp only[lstK,List.mem_map,List.mem_range]at hx;obtain⟨i,hi,rfl⟩:=hx;simp;omega
 |succ q ih=>
  intro k hk;have h1:(lstK n k).getD k true=false:=by
   rw[al_gd,zq4e n k k (by omega)];simp
  have:=zq35 h1;rw[zq7h n k (by omega),ih (k+1) (by omega)]at this;omega
section
variable {P:Program} {main:Bool} {γ:Type} {J:γ->Goroutine->World->Prop}
theorem zqas(hjs:∀s,∃Kc,JS P main Kc (λ(_:Unit)=>J s)){b:Frame}{kk:List Item}{cs:List Frame}(hm:P.follows .mixedOrders=true){id:Nat}{ops:Array Oper}{T₀:Array Value}{ds:List Deferred}{s:γ}{w:World}(k:Nat)(I:(Nat->Bool)->Array Value->World->Prop)
 (hback:zq42 ops=true) (hbackB:backB .any ops k=true) (hwait:zq29 .any ops k=true) (hchain:zq43 ops k=true) (hk:k<=ops.size) (hre:∀L T w τ d,I L T w->I L T (re w τ d)) (hI:I (λ_=>false) T₀ w)
 (hstep:∀(L:Nat->Bool)(T:Array Value)(w:World)(i:Nat)(o:Oper),i<k->I L T w->L i=false->ops[i]?=some o->(∀e∈o.after,Region.binds .any e=true->L e.on=true)->
  ∀rest:List Nat,(∀T' w',I (upd L i true) T' w'->J s (G (b.at ⟨T',ds⟩ (.inRegion ops rest::kk)) cs) w')->J s (G (b.at ⟨T,ds⟩ (.inRegion ops (i::rest)::kk)) cs) w)
 (hgo:∀L T w,(∀i,i<k->L i=true)->I L T w->J s (G (b.at ⟨T,ds⟩ (.inRegion ops (List.range' k (ops.size - k))::kk)) cs) w):J s (G (b.at ⟨T₀,ds⟩ (.code (.region id ops true)::kk)) cs) w:=by
 have hb':∀i o,ops[i]?=some o->∀e∈o.after,Region.binds .any e=true->e.on<i:=by
  intro i o ho;have hlt:=(Array.getElem?_eq_some_iff.1 ho).1;unfold zq42 at hback;rw[List.all_eq_true]at hback;have:=hback i (List.mem_range.2 hlt);rw[ho]at this;simp only[Array.all_eq_true_iff_forall_mem]at this;exact λe he hbe=>by have:=this e he;simpa[hbe]using this
 have hAW:=zq6e hwait;have key:∀(fuel t:Nat)(listed:Array Bool)(L:Nat->Bool)(T:Array Value)(w:World),listed.size=ops.size->left listed=fuel->(∀i,i<ops.size->listed.getD i false=L i)->Closed .any ops listed->(∀i,k<=i->listed.getD i false=false)->I L T w->
  J s (G (b.at ⟨T,ds⟩ (.inRegion ops (Region.linearise.go .any ops fuel t listed [])::kk)) cs) w:=by
  intro fuel
  induction fuel with
  |zero=>
   intro t listed L T w hsz hl hL hcl hhi hi;have all:∀i,i<ops.size->listed.getD i false=true:=λi hlt=>by
    have hlt':i<listed.size:=by omega
    cases hv:listed[i]with
    |true=>simp[hlt',hv]
    |false=>have:=zq4d (listed:=listed) (i:=i) (by simp[hlt',hv]);omega
   have hke:k=ops.size:=by
    refine Classical.byContradiction λhne=>?_;have h1:=all k (by omega);rw[hhi k (Nat.le_refl _)]at h1;cases h1
   have:=hgo L T w (λi hlt=>by rw[<-hL i (by omega)];exact all i (by omega)) hi;rw[hke,Nat.sub_self]at this;exact this
  |succ fuel ih=>
   intro t listed L T w hsz hl hL hcl hhi hi
   by_cases hall:∀i,i<k->listed.getD i false=true
   . have e:listed=lstK ops.size k:=lstK_of hsz hall hhi;have hq:fuel+1=ops.size - k:=by
      rw[<-hl,e];exact zqck _ _ _ (by omega)
     rw[e,hq,chain_go hchain _ _ _ (Nat.le_refl _) (by omega)];exact hgo L T w (λi hlt=>by rw[<-hL i (by omega)];exact hall i hlt) hi
   . obtain⟨i0,hi0⟩:=Classical.not_forall.1 hall;obtain⟨hik0,hi0⟩:=Classical.not_imp.1 hi0;have hi0s:i0<listed.size:=by omega
     have hready:∃i,i∈Region.ready .any ops listed:=zq6k hbackB listed ⟨i0,hik0,by simp[hi0s]at hi0 |-;exact hi0⟩;simp only[Region.linearise.go];change J s (G (b.at ⟨T,ds⟩ (.inRegion ops (match (Region.ready .any ops listed)[t % (Region.ready .any ops listed).length]? with
      |some i=>Region.linearise.go .any ops fuel (t / (Region.ready .any ops listed).length) (listed.setIfInBounds i true) [i]
      |none=>[].reverse)::kk)) cs) w
     cases hi':(Region.ready .any ops listed)[t % (Region.ready .any ops listed).length]? with
     |none=>
      exfalso;obtain⟨i,hi''⟩:=hready;have hpos:0<(Region.ready .any ops listed).length:=List.length_pos_of_mem hi'';have hlt:=Nat.mod_lt t hpos;rw[List.getElem?_eq_none_iff]at hi';omega
     |some i=>
      have hmem:=List.mem_of_getElem? hi';obtain⟨hun,o,ho,hall2⟩:=mem_ready.1 hmem;have hik:i<k:=Classical.byContradiction λhge=>hi0 (hAW listed hcl i hmem (by omega) i0 hik0);have hilt:i<ops.size:=by have:=zq1k hun;omega
      simp only[];rw[linearise_go_acc,List.reverse_singleton,List.singleton_append];have hbk:=hb' i o ho;have hLi:L i=false:=by
       rw[<-hL i hilt];have hlt':i<listed.size:=by omega
       simp[hlt']at hun |-;exact hun
      have hld:left (listed.setIfInBounds i true)+1=left listed:=zq35 hun;have hL':∀j,j<ops.size->(listed.setIfInBounds i true).getD j false=upd L i true j:=λj hj=>by
       by_cases e:i=j
       . subst e;have:i<listed.size:=by omega
         rw[upd_same];simp[this]
       . rw[getD_set_ne false e,upd_ne _ _ (λx=>e x.symm)];exact hL j hj
      have hall':∀e∈o.after,Region.binds .any e=true->L e.on=true:=λe he hbe=>by
       rw[<-hL e.on (by have:=hbk e he hbe;omega)];exact hall2 e he hbe
      exact hstep L T w i o hik hi hLi ho hall' _ λT' w' hI'=>ih _ _ (upd L i true) _ _ (by simpa using hsz) (by omega) hL' (hcl.set hmem) (λj hj=>by rw[getD_set_ne false (by omega)];exact hhi j hj) hI'
 obtain⟨Kc,hJ⟩:=hjs s;refine hJ.step () _ _ rfl λτ d=>⟨_,_,#[],stepG_region_draw (a:=⟨T₀,ds⟩),?_,by simp,?_⟩
 . exact OkD.refl _ _ _
 . refine hJ.re' () _ w τ (d+1) ?_;simp only[Region.schedule,hm,Bool.true_or,if_true,Region.linearise];refine key _ _ _ (λ_=>false) _ _ (by simp) ?_ (λi hi=>by simp[hi]) (λi o e _ hl=>?_) (λi _=>?_) hI
   . unfold left;simp
   . exfalso;rw[al_gd,Array.getElem?_replicate]at hl;split at hl<;>simp at hl
   . rw[al_gd,Array.getElem?_replicate];split<;>rfl
end
def chkP(P:Program)(ops:Array Oper)(k n:Nat):Bool:=
 (List.range k).all (λi=>match ops[i]? with
  |some o=>o.guard.isNone&&zq1f P o.op&&(match o.dst with|some d=>decide (d<n)|none=>false)
  |none=>false)&&
 (List.range k).all (λi=>(List.range i).all λj=>dstOf ops i !=dstOf ops j)
section
variable {P:Program} {A:FuncId->Bool} {Ml S β α:Type} {C:Core Ml S} {ro:Nat->Option Obj} {i:Nat}
theorem Alone.re (Z:Alone P A C ro i β){I:S->Prop}{B:Nat->Option Obj}{s:Z.γ}{w:World}{p:Proc S β}(h:(Z.sys I).AtB B s w p)(τ:Nat->Question->Nat)(d:Nat):(Z.sys I).AtB B s (Car.re w τ d) p:=by
 obtain⟨m,rfl,h1,h2⟩:=h;have h3:=Z.move h1 (Moved.ext (Z.rep h1) (Ext.re w τ d)) (Z.oth _);rw[BM.put_same]at h3;exact⟨m,rfl,h3,h2⟩
theorem Alone.region (Z:Alone P A C ro i β)(hm:P.follows .mixedOrders=true){I:S->Prop}{B:Nat->Option Obj}{s:Z.γ}{w:World}{p:Proc S β}{id:Nat}{ops:Array Oper}{t₀:Array Value}{ds:List Deferred}{Q:Z.γ->Exit->Act->World->Prop}(k:Nat)(vals:List Value)(hA:(Z.sys I).AtB B s w p)(hv:vals.length=k)
 (hback:zq42 ops=true) (hbackB:backB .any ops k=true) (hwait:zq29 .any ops k=true) (hchain:zq43 ops k=true) (hk:k<=ops.size) (hchk:chkP P ops k t₀.size=true)
 (hread:∀wc,(Z.sys I).KnB B wc->∀(j:Nat)(o:Oper)(v:Value)(T:Array Value),ops[j]?=some o->vals[j]?=some v->(∀e∈o.after,Region.binds .any e=true->∀d x,dstOf ops e.on=some d->vals[e.on]?=some x->T[d]?=some x)->(∀t,(∀j,j<k->dstOf ops j≠some t)->T[t]?=t₀[t]?)->(execOp (Act.mk T []).eval o).run P wc=.ok (.value v) wc)
 (hgo:∀w',(Z.sys I).AtB B s w' p->opsJ Z.J ops (List.range' k (ops.size - k)) Q s ⟨putv ops vals 0 t₀,ds⟩ w'):wpJ Z.J (.region id ops true) Q s ⟨t₀,ds⟩ w:=by
 intro b kk cs hb hQ;unfold chkP at hchk;simp only[Bool.and_eq_true,List.all_eq_true,List.mem_range]at hchk;obtain⟨h1,h2⟩:=hchk;have plain:∀(j:Nat)(o:Oper),j<k->ops[j]?=some o->o.guard=none/\zq1f P o.op=true/\∃d,o.dst=some d/\d<t₀.size:=λj o hj ho=>by
  have:=h1 j hj;rw[ho]at this;simp only[Bool.and_eq_true]at this;obtain⟨⟨a1,a2⟩,a3⟩:=this;refine⟨Option.isNone_iff_eq_none.1 a1,a2,?_⟩;cases hd:o.dst with
  |none=>rw[hd]at a3;cases a3
  |some d=>rw[hd]at a3;exact⟨d,rfl,by simpa using a3⟩
 have apart:∀(a c:Nat)(d:Tmp),a<k->c<k->dstOf ops a=some d->dstOf ops c=some d->a=c:=λa c d ha hc hd hd'=>by
  rcases Nat.lt_trichotomy a c with h|h|h
  . have:=h2 c hc a h;rw[hd,hd']at this;simp at this
  . exact h
  . have:=h2 a ha c h;rw[hd,hd']at this;simp at this
 obtain⟨T,hT⟩:∃T,putv ops vals 0 t₀=T:=⟨_,rfl⟩;have Tat:∀j d x,j<k->dstOf ops j=some d->vals[j]?=some x->T[d]?=some x:=λj d x hj hd hx=>by
  have hd':=hd;unfold dstOf at hd';obtain⟨o,ho⟩:∃o,ops[j]?=some o:=⟨_,Array.getElem?_eq_getElem (by omega)⟩;obtain⟨_,_,d2,hd2,hlt⟩:=plain j o hj ho;rw[ho]at hd';simp only[al_ob]at hd';rw[hd2]at hd';cases hd';rw[<-hT];refine zq4m vals 0 _ j x d hx (by rw[Nat.zero_add];exact hd) hlt λq a b e=>?_;have:=apart q j d (by omega) hj (by simpa using e) hd;omega
 have Tout:∀t,(∀j,j<k->dstOf ops j≠some t)->T[t]?=t₀[t]?:=λt ht=>by
  rw[<-hT];exact zq2r vals 0 _ t λj a b=>ht j (by omega)
 refine zqas (γ:=Z.γ) (J:=Z.J) Z.js hm k (λL T' w=>(Z.sys I).AtB B s w p/\T'.size=t₀.size/\(∀t,(∀j,j<k->dstOf ops j≠some t)->T'[t]?=t₀[t]?)/\∀j d x,j<k->L j=true->dstOf ops j=some d->vals[j]?=some x->T'[d]?=some x) hback hbackB hwait hchain hk (λL T' w τ d h=>⟨Z.re h.1 τ d,h.2⟩) ⟨hA,rfl,λ_ _=>rfl,λj d x _ hl=>(by cases hl)⟩ ?_ ?_
 . rintro L T' w j o hj ⟨hA,hsz,hout,hin⟩ hL ho hdep rest hnext;obtain⟨hg,hrd,d,hd,hlt⟩:=plain j o hj ho;obtain⟨v,hvj⟩:∃v,vals[j]?=some v:=⟨_,List.getElem?_eq_getElem (by omega)⟩;obtain⟨Kc,hJ⟩:=Z.js s;have hdj:dstOf ops j=some d:=by unfold dstOf;rw[ho];exact hd
   have hback':∀e∈o.after,Region.binds .any e=true->e.on<j:=by
    unfold zq42 at hback;rw[List.all_eq_true]at hback;have:=hback j (List.mem_range.2 (by omega));rw[ho]at this;simp only[Array.all_eq_true_iff_forall_mem]at this;exact λe he hbe=>by have:=this e he;simpa[hbe]using this
   refine at_opK (J:=λ(_:Unit)=>Z.J s) (s:=()) hJ hb ho hrd (by simp[Region.wanted,hg]) hd λτ dd=>?_;have hA':=Z.re hA τ dd;have hkn:(Z.sys I).KnB B (Car.re w τ dd):=by
    obtain⟨m,rfl,q1,q2⟩:=hA';exact⟨m,rfl,Z.rep q1⟩
   refine⟨v,Car.re w τ dd,hread _ hkn j o v T' ho hvj (λe he hbe d' x hd' hx=>hin e.on d' x (by have:=hback' e he hbe;omega) (hdep e he hbe) hd' hx) hout,hnext _ _ ⟨hA',by simpa using hsz,λt ht=>?_,λj' d' x hj' hl hd' hx=>?_⟩⟩
   . have:d≠t:=λe=>ht j hj (e▸hdj);rw[al_gn this];exact hout t ht
   . have hltT:d<T'.size:=by rw[hsz];exact hlt
     by_cases e:j'=j
     . subst e;rw[hdj]at hd';cases hd';rw[hvj]at hx;cases hx;rw[al_gs,if_pos rfl,if_pos hltT]
     . have hne:d≠d':=λe2=>by subst e2;exact e (apart j' j d hj' hj hd' hdj)
       rw[upd_ne _ _ e]at hl;rw[al_gn hne];exact hin j' d' x hj' hl hd' hx
 . rintro L T' w hall ⟨hA,hsz,hout,hin⟩;have e:T'=T:=by
    apply Array.ext_getElem?;intro x
    by_cases hx:∃j,j<k/\dstOf ops j=some x
    . obtain⟨j,hj,hdj⟩:=hx;obtain⟨v,hvj⟩:∃v,vals[j]?=some v:=⟨_,List.getElem?_eq_getElem (by omega)⟩;rw[hin j x v hj (hall j hj) hdj hvj,Tat j x v hj hdj hvj]
    . have hno:∀j,j<k->dstOf ops j≠some x:=λj hj hd=>hx ⟨j,hj,hd⟩;rw[hout x hno,Tout x hno]
   rw[e];have:=hgo w hA;rw[hT]at this;exact this b kk cs hb hQ
end
end Go.Car
namespace Go.Proofs
open Go Go.Conc Go.RowKit Go.Car
open Go.ConcN (upd upd_ne upd_same)
abbrev ResS:=(Nat->ByteArray)×(Nat->Bool)
section
variable {M1 S1:Type} {C:Core M1 S1} {ro:Nat->Option Obj} {i gb wb n:Nat} {m:BM (M1×ResS)} {wc:World}
end
section
variable {Ml S β:Type} {C:Core Ml S} {ro:Nat->Option Obj} {i:Nat} {A:FuncId->Bool}
end
section
variable {sv:Value} {bb gb wb N i vl vC g off tb vb kb g1 w1:Nat} {v:ByteArray} {a:ByteArray×Bool} {L:Nat->Bool} {T:Array Value}
end
section
variable {ro:Nat->Option Obj} {pr:Nat->Proc (BoxS×ResS) Unit} {st:Nat} {cr:Frame} {rest:List Frame} {NE EN:List PanicEntry->Prop} {i bb gb wb N:Nat}
variable {o:ByteArray×Bool} {sv:Value} {vl vC g off tb vb kb g1 w1:Nat} {v:ByteArray} {s:Turn Try.prog (BoxM×ResS) (BoxS×ResS)} {L:Nat->Bool} {T:Array Value} {w:World}
end
section
variable {ro:Nat->Option Obj} {pr:Nat->Proc (BoxS×ResS) Unit} {st:Nat} {cr:Frame} {rest:List Frame} {NE EN:List PanicEntry->Prop} {i bb gb wb N:Nat} {vl vC tb vb kb g1 w1:Nat} {vp:Option Addr} {v:ByteArray}
end
def noCore:Core Unit Unit where
 foot _ _:=False
 Rep _ _:=True
 st _:=()
 frame _ _ _ _ _:=trivial
 lt _ _ _ _ h:=h.elim
 pin _:=0
section
variable {Fin:Machine->Trace->Prop} (hFin:Back Try.prog Fin) {n bb:Nat} {w:World} {p:Option (Nat×ByteArray)} {seen:Nat->Bool} {cl:Frame} {cs:List Frame}
include hFin
end
end Go.Proofs
namespace Go.Proofs
open Go Go.Conc Go.RowKit Go.Car
@[go_sem] theorem eq_mknil (w : World) : (binOp .eql 83 .nilFunc .nilFunc).run Try.prog w = .ok (.bool true) w := by rfl
section
variable {main:Bool} {Kc:Addr->Option Value} {J:Goroutine->World->Prop}
noncomputable abbrev noY(hJ:JS Try.prog main Kc (λ(_:Unit)=>J))(hC:CalmJ Try.prog main (λ(_:Unit)=>J))(w:World):YSys Try.prog aMB noCore (λ_=>none) 0 Unit:=zq25 plainMB hJ hC noCore (λ_=>none) 0 0 ⟨(),λ_ _=>none⟩ w ((),some (),0)
theorem zq2c(hJ:JS Try.prog main Kc (λ(_:Unit)=>J))(hC:CalmJ Try.prog main (λ(_:Unit)=>J))(w:World):(noY hJ hC w).AtB (λ_=>none) () w (Proc.ret ()):=by
 refine⟨⟨(),λ_ _=>none⟩,rfl,⟨⟨trivial,λi b o h=>(by cases h),λb o h=>(by cases h),λi b h=>absurd rfl h,λi j b _ h=>absurd rfl h,λb h=>absurd rfl h,λi b h=>absurd rfl h⟩,Nat.le_refl _,λ_ _ _=>rfl,λ_ h=>.inl h,⟨0,rfl,⟨_,rfl⟩,rfl⟩,λ_ _=>rfl⟩,trivial⟩
theorem zq2d(hJ:JS Try.prog main Kc (λ(_:Unit)=>J))(hC:CalmJ Try.prog main (λ(_:Unit)=>J)){w w':World}{B:Nat->Option Obj}{s:Unit}{p:Proc Unit Unit}(h:(noY hJ hC w).AtB B s w' p):Beyond w w':=by
 obtain⟨m,_,h1,_⟩:=h;have h1:LoneAt noCore (λ_=>none) 0 0 ⟨(),λ_ _=>none⟩ w ((),some (),0) m w' (p (noCore.st m.l)):=h1;refine⟨h1.size,λb hb=>h1.old b hb λhf=>?_⟩;rcases hf with hf|⟨_,hf⟩|hf
 . exact hf
 . exact absurd rfl hf
 . exact absurd rfl hf
theorem zqd0(hJ:JS Try.prog main Kc (λ(_:Unit)=>J))(hC:CalmJ Try.prog main (λ(_:Unit)=>J)){sv:Value}{w:World}{cl:Frame}{cs:List Frame}(hq:∀w',Beyond w w'->J (G (cl.finish (.tuple #[.int .i64 0,.bool false])) cs) w'):
 J (G (Frame.enter Try.prog 25 #[.pointer none,sv] .normal) (cl::cs)) w:=by
 have hA:=zq2c hJ hC w;have hb:∀{w':World}{B:Nat->Option Obj}{s:Unit}{p:Proc Unit Unit},(noY hJ hC w).AtB B s w' p->Beyond w w':=λh=>zq2d hJ hC h;obtain⟨Y,hY⟩:∃Y,noY hJ hC w=Y:=⟨_,rfl⟩;have hgo:BodyY Y 25 #[.pointer none,sv] (λs e w'=>e=.returned (.tuple #[.int .i64 0,.bool false])/\∃B,Y.AtB B s w' (Proc.ret ())) (hY▸()) w->J (G (Frame.enter Try.prog 25 #[.pointer none,sv] .normal) (cl::cs)) w:=by
  subst hY;intro h;refine BodyY.calls h cl cs ?_ ?_
  . rintro s' v w' ⟨e,B,h⟩;cases e;exact hq w' (hb h)
  . rintro s' ch w' ⟨e,_⟩;cases e
 refine hgo ⟨_,_,Try.func25,rfl,?_⟩;clear hgo hq hb;obtain⟨s0,hs0⟩:∃s0:Y.γ,hY▸()=s0:=⟨_,rfl⟩;have hA:Y.AtB (λ_=>none) s0 w (Proc.ret ()):=by subst hY;subst hs0;exact hA
 rw[hs0];clear hs0;clear hY;generalize w=w at hA |-;simp only[zqg,Try.ntmps25,List.size_toArray,List.length_cons,List.length_nil,Nat.reduceAdd,Nat.reduceSub,Array.replicate_succ,Array.replicate_zero,List.push_toArray,List.append_toArray,List.nil_append,List.cons_append];apply YSys.seq0 hA (by kernel_rfl)
 . intro wc hB;go_wp2;exact⟨rfl,Ext1.refl _,rfl⟩
 intro w hA;refine zqj Y.jc ?_;apply YSys.seq0 hA (by kernel_rfl)
 . intro wc hB;go_wp2;exact⟨rfl,Ext1.refl _,rfl⟩
 intro w hA;refine zqr Y.jc rfl ?_;rw[if_pos rfl];apply YSys.seq0 hA (by kernel_rfl)
 . intro wc hB;go_wp2;exact⟨rfl,Ext1.refl _,rfl⟩
 intro w hA;refine zqz Y.jc ?_;simp only[thenJ,zq1r,bodyC];refine YSys.left hA (λwc _=>?_) (λw' h=>⟨rfl,_,h⟩);simp[results,Try.f25,go_sem]
theorem zqd3(hJ:JS Try.prog main Kc (λ(_:Unit)=>J))(hC:CalmJ Try.prog main (λ(_:Unit)=>J)){sv:Value}{v:Int}{w:World}{cl:Frame}{cs:List Frame}(hq:∀w',Beyond w w'->J (G (cl.finish (.tuple #[.int .i64 0,.bool false])) cs) w'):
 J (G (Frame.enter Try.prog 26 #[.pointer none,sv,.int .i64 v] .normal) (cl::cs)) w:=by
 have hA:=zq2c hJ hC w;have hb:∀{w':World}{B:Nat->Option Obj}{s:Unit}{p:Proc Unit Unit},(noY hJ hC w).AtB B s w' p->Beyond w w':=λh=>zq2d hJ hC h;obtain⟨Y,hY⟩:∃Y,noY hJ hC w=Y:=⟨_,rfl⟩;have hgo:BodyY Y 26 #[.pointer none,sv,.int .i64 v] (λs e w'=>e=.returned (.tuple #[.int .i64 0,.bool false])/\∃B,Y.AtB B s w' (Proc.ret ())) (hY▸()) w->J (G (Frame.enter Try.prog 26 #[.pointer none,sv,.int .i64 v] .normal) (cl::cs)) w:=by
  subst hY;intro h;refine BodyY.calls h cl cs ?_ ?_
  . rintro s' v w' ⟨e,B,h⟩;cases e;exact hq w' (hb h)
  . rintro s' ch w' ⟨e,_⟩;cases e
 refine hgo ⟨_,_,Try.func26,rfl,?_⟩;clear hgo hq hb;obtain⟨s0,hs0⟩:∃s0:Y.γ,hY▸()=s0:=⟨_,rfl⟩;have hA:Y.AtB (λ_=>none) s0 w (Proc.ret ()):=by subst hY;subst hs0;exact hA
 rw[hs0];clear hs0;clear hY;generalize w=w at hA |-;simp only[zqg,Try.ntmps26,List.size_toArray,List.length_cons,List.length_nil,Nat.reduceAdd,Nat.reduceSub,Array.replicate_succ,Array.replicate_zero,List.push_toArray,List.append_toArray,List.nil_append,List.cons_append];apply YSys.seq0 hA (by kernel_rfl)
 . intro wc hB;go_wp2;exact⟨rfl,Ext1.refl _,rfl⟩
 intro w hA;refine zqj Y.jc ?_;apply YSys.seq0 hA (by kernel_rfl)
 . intro wc hB;go_wp2;exact⟨rfl,Ext1.refl _,rfl⟩
 intro w hA;refine zqr Y.jc rfl ?_;rw[if_pos rfl];apply YSys.seq0 hA (by kernel_rfl)
 . intro wc hB;go_wp2;exact⟨rfl,Ext1.refl _,rfl⟩
 intro w hA;refine zqz Y.jc ?_;simp only[thenJ,zq1r,bodyC];refine YSys.left hA (λwc _=>?_) (λw' h=>⟨rfl,_,h⟩);simp[results,Try.f26,go_sem]
theorem zqd1(hJ:JS Try.prog main Kc (λ(_:Unit)=>J))(hC:CalmJ Try.prog main (λ(_:Unit)=>J)){sv mv:Value}{k:Int}{w:World}{cl:Frame}{cs:List Frame}(hq:∀w',Beyond w w'->J (G (cl.finish (.tuple #[.int .i64 0,.int .i64 6])) cs) w'):
 J (G (Frame.enter Try.prog 27 #[.pointer none,sv,.int .i64 k,mv] .normal) (cl::cs)) w:=by
 have hA:=zq2c hJ hC w;have hb:∀{w':World}{B:Nat->Option Obj}{s:Unit}{p:Proc Unit Unit},(noY hJ hC w).AtB B s w' p->Beyond w w':=λh=>zq2d hJ hC h;obtain⟨Y,hY⟩:∃Y,noY hJ hC w=Y:=⟨_,rfl⟩;have hgo:BodyY Y 27 #[.pointer none,sv,.int .i64 k,mv] (λs e w'=>e=.returned (.tuple #[.int .i64 0,.int .i64 6])/\∃B,Y.AtB B s w' (Proc.ret ())) (hY▸()) w->J (G (Frame.enter Try.prog 27 #[.pointer none,sv,.int .i64 k,mv] .normal) (cl::cs)) w:=by
  subst hY;intro h;refine BodyY.calls h cl cs ?_ ?_
  . rintro s' v w' ⟨e,B,h⟩;cases e;exact hq w' (hb h)
  . rintro s' ch w' ⟨e,_⟩;cases e
 refine hgo ⟨_,_,Try.func27,rfl,?_⟩;clear hgo hq hb;obtain⟨s0,hs0⟩:∃s0:Y.γ,hY▸()=s0:=⟨_,rfl⟩;have hA:Y.AtB (λ_=>none) s0 w (Proc.ret ()):=by subst hY;subst hs0;exact hA
 rw[hs0];clear hs0;clear hY;generalize w=w at hA |-;simp only[zqg,Try.ntmps27,List.size_toArray,List.length_cons,List.length_nil,Nat.reduceAdd,Nat.reduceSub,Array.replicate_succ,Array.replicate_zero,List.push_toArray,List.append_toArray,List.nil_append,List.cons_append];apply YSys.seq0 hA (by kernel_rfl)
 . intro wc hB;go_wp2;exact⟨rfl,Ext1.refl _,rfl⟩
 intro w hA;refine zqj Y.jc ?_;refine zq2l Y.jc ?_;apply YSys.seq0 hA (by kernel_rfl)
 . intro wc hB;go_wp2;exact⟨rfl,Ext1.refl _,rfl⟩
 intro w hA;refine zqr Y.jc rfl ?_;rw[if_pos rfl];apply YSys.seq0 hA (by kernel_rfl)
 . intro wc hB;go_wp2;exact⟨rfl,Ext1.refl _,rfl⟩
 intro w hA;refine zqz Y.jc ?_;simp only[thenJ,zq1r,bodyC];refine YSys.left hA (λwc _=>?_) (λw' h=>⟨rfl,_,h⟩);simp[results,Try.f27,go_sem]
theorem zqd2(hJ:JS Try.prog main Kc (λ(_:Unit)=>J))(hC:CalmJ Try.prog main (λ(_:Unit)=>J)){sv:Value}{k:Int}{ob:Nat}{w:World}{cl:Frame}{cs:List Frame}(hq:∀w',Beyond w w'->J (G (cl.finish (.tuple #[.int .i64 0,.int .i64 1])) cs) w'):
 J (G (Frame.enter Try.prog 27 #[.pointer (some ⟨ob,0,none⟩),sv,.int .i64 k,.nilFunc] .normal) (cl::cs)) w:=by
 have hA:=zq2c hJ hC w;have hb:∀{w':World}{B:Nat->Option Obj}{s:Unit}{p:Proc Unit Unit},(noY hJ hC w).AtB B s w' p->Beyond w w':=λh=>zq2d hJ hC h;obtain⟨Y,hY⟩:∃Y,noY hJ hC w=Y:=⟨_,rfl⟩;have hgo:BodyY Y 27 #[.pointer (some ⟨ob,0,none⟩),sv,.int .i64 k,.nilFunc] (λs e w'=>e=.returned (.tuple #[.int .i64 0,.int .i64 1])/\∃B,Y.AtB B s w' (Proc.ret ())) (hY▸()) w->J (G (Frame.enter Try.prog 27 #[.pointer (some ⟨ob,0,none⟩),sv,.int .i64 k,.nilFunc] .normal) (cl::cs)) w:=by
  subst hY;intro h;refine BodyY.calls h cl cs ?_ ?_
  . rintro s' v w' ⟨e,B,h⟩;cases e;exact hq w' (hb h)
  . rintro s' ch w' ⟨e,_⟩;cases e
 refine hgo ⟨_,_,Try.func27,rfl,?_⟩;clear hgo hq hb;obtain⟨s0,hs0⟩:∃s0:Y.γ,hY▸()=s0:=⟨_,rfl⟩;have hA:Y.AtB (λ_=>none) s0 w (Proc.ret ()):=by subst hY;subst hs0;exact hA
 rw[hs0];clear hs0;clear hY;generalize w=w at hA |-;simp only[zqg,Try.ntmps27,List.size_toArray,List.length_cons,List.length_nil,Nat.reduceAdd,Nat.reduceSub,Array.replicate_succ,Array.replicate_zero,List.push_toArray,List.append_toArray,List.nil_append,List.cons_append];apply YSys.seq0 hA (by kernel_rfl)
 . intro wc hB;go_wp2;exact⟨rfl,Ext1.refl _,rfl⟩
 intro w hA;refine zqj Y.jc ?_;refine zq2l Y.jc ?_;apply YSys.seq0 hA (by kernel_rfl)
 . intro wc hB;go_wp2;exact⟨rfl,Ext1.refl _,rfl⟩
 intro w hA;refine zqr Y.jc rfl ?_;rw[if_neg (by decide)];apply YSys.seq0 hA (by kernel_rfl)
 . intro wc hB;go_wp2;exact⟨rfl,Ext1.refl _,rfl⟩
 intro w hA;refine zqr Y.jc rfl ?_;rw[if_pos rfl];apply YSys.seq0 hA (by kernel_rfl)
 . intro wc hB;go_wp2;exact⟨rfl,Ext1.refl _,rfl⟩
 intro w hA;refine zqz Y.jc ?_;simp only[thenJ,zq1r,bodyC];refine YSys.left hA (λwc _=>?_) (λw' h=>⟨rfl,_,h⟩);simp[results,Try.f27,go_sem]
theorem zqd4(hJ:JS Try.prog main Kc (λ(_:Unit)=>J))(hC:CalmJ Try.prog main (λ(_:Unit)=>J)){w:World}{cl:Frame}{cs:List Frame}(hq:∀w',Beyond w w'->J (G (cl.finish (.tuple #[.int .i64 0,.int .i64 0,.int .i64 0])) cs) w'):
 J (G (Frame.enter Try.prog 15 #[.pointer none] .normal) (cl::cs)) w:=by
 have hA:=zq2c hJ hC w;have hb:∀{w':World}{B:Nat->Option Obj}{s:Unit}{p:Proc Unit Unit},(noY hJ hC w).AtB B s w' p->Beyond w w':=λh=>zq2d hJ hC h;obtain⟨Y,hY⟩:∃Y,noY hJ hC w=Y:=⟨_,rfl⟩;have hgo:BodyY Y 15 #[.pointer none] (λs e w'=>e=.returned (.tuple #[.int .i64 0,.int .i64 0,.int .i64 0])/\∃B,Y.AtB B s w' (Proc.ret ())) (hY▸()) w->J (G (Frame.enter Try.prog 15 #[.pointer none] .normal) (cl::cs)) w:=by
  subst hY;intro h;refine BodyY.calls h cl cs ?_ ?_
  . rintro s' v w' ⟨e,B,h⟩;cases e;exact hq w' (hb h)
  . rintro s' ch w' ⟨e,_⟩;cases e
 refine hgo ⟨_,_,Try.func15,rfl,?_⟩;clear hgo hq hb;obtain⟨s0,hs0⟩:∃s0:Y.γ,hY▸()=s0:=⟨_,rfl⟩;have hA:Y.AtB (λ_=>none) s0 w (Proc.ret ()):=by subst hY;subst hs0;exact hA
 rw[hs0];clear hs0;clear hY;generalize w=w at hA |-;simp only[zqg,Try.ntmps15,List.size_toArray,List.length_cons,List.length_nil,Nat.reduceAdd,Nat.reduceSub,Array.replicate_succ,Array.replicate_zero,List.push_toArray,List.append_toArray,List.nil_append,List.cons_append];apply YSys.seq0 hA (by kernel_rfl)
 . intro wc hB;go_wp2;exact⟨rfl,Ext1.refl _,rfl⟩
 intro w hA;refine zqj Y.jc ?_;apply YSys.seq0 hA (by kernel_rfl)
 . intro wc hB;go_wp2;exact⟨rfl,Ext1.refl _,rfl⟩
 intro w hA;refine zqr Y.jc rfl ?_;rw[if_pos rfl];apply YSys.seq0 hA (by kernel_rfl)
 . intro wc hB;go_wp2;exact⟨rfl,Ext1.refl _,rfl⟩
 intro w hA;refine zqz Y.jc ?_;simp only[thenJ,zq1r,bodyC];refine YSys.left hA (λwc _=>?_) (λw' h=>⟨rfl,_,h⟩);simp[results,Try.f15,go_sem]
theorem zqcx(hJ:JS Try.prog main Kc (λ(_:Unit)=>J))(hC:CalmJ Try.prog main (λ(_:Unit)=>J)){sv:Value}{w:World}{cl:Frame}{cs:List Frame}(hq:∀w',Beyond w w'->J (G (cl.finish (.tuple #[.int .i64 0,.bool false])) cs) w'):
 J (G (Frame.enter Try.prog 28 #[.pointer none,sv] .normal) (cl::cs)) w:=by
 have hA:=zq2c hJ hC w;have hb:∀{w':World}{B:Nat->Option Obj}{s:Unit}{p:Proc Unit Unit},(noY hJ hC w).AtB B s w' p->Beyond w w':=λh=>zq2d hJ hC h;obtain⟨Y,hY⟩:∃Y,noY hJ hC w=Y:=⟨_,rfl⟩;have hgo:BodyY Y 28 #[.pointer none,sv] (λs e w'=>e=.returned (.tuple #[.int .i64 0,.bool false])/\∃B,Y.AtB B s w' (Proc.ret ())) (hY▸()) w->J (G (Frame.enter Try.prog 28 #[.pointer none,sv] .normal) (cl::cs)) w:=by
  subst hY;intro h;refine BodyY.calls h cl cs ?_ ?_
  . rintro s' v w' ⟨e,B,h⟩;cases e;exact hq w' (hb h)
  . rintro s' ch w' ⟨e,_⟩;cases e
 refine hgo ⟨_,_,Try.func28,rfl,?_⟩;clear hgo hq hb;obtain⟨s0,hs0⟩:∃s0:Y.γ,hY▸()=s0:=⟨_,rfl⟩;have hA:Y.AtB (λ_=>none) s0 w (Proc.ret ()):=by subst hY;subst hs0;exact hA
 rw[hs0];clear hs0;clear hY;generalize w=w at hA |-;simp only[zqg,Try.ntmps28,List.size_toArray,List.length_cons,List.length_nil,Nat.reduceAdd,Nat.reduceSub,Array.replicate_succ,Array.replicate_zero,List.push_toArray,List.append_toArray,List.nil_append,List.cons_append];apply YSys.seq0 hA (by kernel_rfl)
 . intro wc hB;go_wp2;exact⟨rfl,Ext1.refl _,rfl⟩
 intro w hA;apply YSys.seq0 hA (by kernel_rfl)
 . intro wc hB;go_wp2;exact⟨rfl,Ext1.refl _,rfl⟩
 intro w hA;refine zqj Y.jc ?_;apply YSys.seq0 hA (by kernel_rfl)
 . intro wc hB;go_wp2;exact⟨rfl,Ext1.refl _,rfl⟩
 intro w hA;refine zqr Y.jc rfl ?_;rw[if_pos rfl];apply YSys.seq0 hA (by kernel_rfl)
 . intro wc hB;go_wp2;exact⟨rfl,Ext1.refl _,rfl⟩
 intro w hA;refine zqz Y.jc ?_;simp only[thenJ,zq1r,bodyC];refine YSys.left hA (λwc _=>?_) (λw' h=>⟨rfl,_,h⟩);simp[results,Try.f28,go_sem]
theorem zqcz(hJ:JS Try.prog main Kc (λ(_:Unit)=>J))(hC:CalmJ Try.prog main (λ(_:Unit)=>J)){w:World}{cl:Frame}{cs:List Frame}(hq:∀w',Beyond w w'->J (G (cl.finish (.tuple #[.int .i64 0,.bool false])) cs) w'):
 J (G (Frame.enter Try.prog 30 #[.pointer none] .normal) (cl::cs)) w:=by
 have hA:=zq2c hJ hC w;have hb:∀{w':World}{B:Nat->Option Obj}{s:Unit}{p:Proc Unit Unit},(noY hJ hC w).AtB B s w' p->Beyond w w':=λh=>zq2d hJ hC h;obtain⟨Y,hY⟩:∃Y,noY hJ hC w=Y:=⟨_,rfl⟩;have hgo:BodyY Y 30 #[.pointer none] (λs e w'=>e=.returned (.tuple #[.int .i64 0,.bool false])/\∃B,Y.AtB B s w' (Proc.ret ())) (hY▸()) w->J (G (Frame.enter Try.prog 30 #[.pointer none] .normal) (cl::cs)) w:=by
  subst hY;intro h;refine BodyY.calls h cl cs ?_ ?_
  . rintro s' v w' ⟨e,B,h⟩;cases e;exact hq w' (hb h)
  . rintro s' ch w' ⟨e,_⟩;cases e
 refine hgo ⟨_,_,Try.func30,rfl,?_⟩;clear hgo hq hb;obtain⟨s0,hs0⟩:∃s0:Y.γ,hY▸()=s0:=⟨_,rfl⟩;have hA:Y.AtB (λ_=>none) s0 w (Proc.ret ()):=by subst hY;subst hs0;exact hA
 rw[hs0];clear hs0;clear hY;generalize w=w at hA |-;simp only[zqg,Try.ntmps30,List.size_toArray,List.length_cons,List.length_nil,Nat.reduceAdd,Nat.reduceSub,Array.replicate_succ,Array.replicate_zero,List.push_toArray,List.append_toArray,List.nil_append,List.cons_append];apply YSys.seq0 hA (by kernel_rfl)
 . intro wc hB;go_wp2;exact⟨rfl,Ext1.refl _,rfl⟩
 intro w hA;refine zqj Y.jc ?_;apply YSys.seq0 hA (by kernel_rfl)
 . intro wc hB;go_wp2;exact⟨rfl,Ext1.refl _,rfl⟩
 intro w hA;refine zqr Y.jc rfl ?_;rw[if_pos rfl];apply YSys.seq0 hA (by kernel_rfl)
 . intro wc hB;go_wp2;exact⟨rfl,Ext1.refl _,rfl⟩
 intro w hA;apply YSys.seq0 hA (by kernel_rfl)
 . intro wc hB;go_wp2;exact⟨rfl,Ext1.refl _,rfl⟩
 intro w hA;refine zqz Y.jc ?_;simp only[thenJ,zq1r,bodyC];refine YSys.left hA (λwc _=>?_) (λw' h=>⟨rfl,_,h⟩);simp[results,Try.f30,go_sem]
theorem zqcy(hJ:JS Try.prog main Kc (λ(_:Unit)=>J))(hC:CalmJ Try.prog main (λ(_:Unit)=>J)){sv:Value}{v:Int}{w:World}{cl:Frame}{cs:List Frame}(hq:∀w',Beyond w w'->J (G (cl.finish (.tuple #[.int .i64 0,.bool false])) cs) w'):
 J (G (Frame.enter Try.prog 29 #[.pointer none,sv,.int .i64 v] .normal) (cl::cs)) w:=by
 have hA:=zq2c hJ hC w;have hb:∀{w':World}{B:Nat->Option Obj}{s:Unit}{p:Proc Unit Unit},(noY hJ hC w).AtB B s w' p->Beyond w w':=λh=>zq2d hJ hC h;obtain⟨Y,hY⟩:∃Y,noY hJ hC w=Y:=⟨_,rfl⟩;have hgo:BodyY Y 29 #[.pointer none,sv,.int .i64 v] (λs e w'=>e=.returned (.tuple #[.int .i64 0,.bool false])/\∃B,Y.AtB B s w' (Proc.ret ())) (hY▸()) w->J (G (Frame.enter Try.prog 29 #[.pointer none,sv,.int .i64 v] .normal) (cl::cs)) w:=by
  subst hY;intro h;refine BodyY.calls h cl cs ?_ ?_
  . rintro s' v w' ⟨e,B,h⟩;cases e;exact hq w' (hb h)
  . rintro s' ch w' ⟨e,_⟩;cases e
 refine hgo ⟨_,_,Try.func29,rfl,?_⟩;clear hgo hq hb;obtain⟨s0,hs0⟩:∃s0:Y.γ,hY▸()=s0:=⟨_,rfl⟩;have hA:Y.AtB (λ_=>none) s0 w (Proc.ret ()):=by subst hY;subst hs0;exact hA
 rw[hs0];clear hs0;clear hY;generalize w=w at hA |-;simp only[zqg,Try.ntmps29,List.size_toArray,List.length_cons,List.length_nil,Nat.reduceAdd,Nat.reduceSub,Array.replicate_succ,Array.replicate_zero,List.push_toArray,List.append_toArray,List.nil_append,List.cons_append];refine YSys.seqX (λt B'=>∃bv,t=#[.pointer none,sv,.int .i64 v,undef,undef,.pointer (some ⟨bv,0,none⟩),.int .i64 0,.bool false,undef,undef,undef,undef,undef,undef,undef,undef,undef,undef,undef,undef,undef,undef,undef,undef,undef,undef,undef]/\(λ_=>none:Nat->Option Obj) bv=none/\B'=upB (λ_=>none) bv (.cells #[.int .i64 v] 2)) hA (by kernel_rfl) ?_ ?_
 . intro wc hB X0 hX0;have HX0:=Lib.hid hX0;clear hX0;have hm:=OMoved.push (o:=.cells #[.int .i64 v] 2) hB.own (Ext1.alloc wc (.cells #[.int .i64 v] 2)) (Nat.le_refl _) (by rw[zqd];simp);have hf:=hB.own.fresh (Nat.le_refl _);have HM:=Lib.hid (And.intro hm hf);clear hm hf;go_wp2;exact⟨rfl,HX0.out _ _ _ HM.out.1 ⟨_,rfl,HM.out.2,rfl⟩⟩
 clear hA;rintro _ _ w ⟨bv,rfl,-,rfl⟩ hA;show wpJ Y.J _ _ _ _ _;refine zqj Y.jc ?_;apply YSys.seq0 hA (by kernel_rfl)
 . intro wc hB;go_wp2;exact⟨rfl,Ext1.refl _,rfl⟩
 intro w hA;refine zqr Y.jc rfl ?_;rw[if_pos rfl];apply YSys.seq0 hA (by kernel_rfl)
 . intro wc hB;go_wp2;exact⟨rfl,Ext1.refl _,rfl⟩
 intro w hA;apply YSys.seq0 hA (by kernel_rfl)
 . intro wc hB;go_wp2;exact⟨rfl,Ext1.refl _,rfl⟩
 intro w hA;refine zqz Y.jc ?_;simp only[thenJ,zq1r,bodyC];refine YSys.left hA (λwc _=>?_) (λw' h=>⟨rfl,_,h⟩);simp[results,Try.f29,go_sem]
end
end Go.Proofs
namespace Go.Car
open Go Go.Conc Go.RowKit
open Go.ConcN (sumTo upd sumTo_upd upd_ne upd_same)
structure Tail(T:Trace):Prop where
 clean:∀said,¬Race said T
 known:∀i a,touchAt T i=some a->a.loc.isMemory=true->Knows T 0 i
 over:T.HandedOver
theorem Tail.of_past {B:Nat}{T:Trace}(h:Past (λ_=>False) B T):Tail T:=⟨h.clean,λi a ha hm=>(h.known i a ha hm).resolve_right λx=>x.1,h.over⟩
theorem Tail.app0 {t u:Trace}(h:Tail t)(hu:∀op∈u,op.g=0):Tail (t++u):=by
 refine⟨λsaid=>noRace_append (h.clean said) hu λi a ha op hop b hb hc=>h.known i a ha hc.2.1,λi a ha hm=>?_,handedOver_app h.over λop hop=>.inl (hu op hop)⟩;obtain⟨x,hx,hxa⟩:=touch_of ha;rcases getElem?_append_cases hx with⟨_,hx'⟩|⟨_,hxu⟩
 . exact(h.known i a (by rw[touchAt_of hx'];exact hxa) hm).app u
 . have:=knows_own hx;rw[hu x hxu]at this;exact this
theorem Tail.appMute {t u:Trace}(h:Tail t){g:Nat}(hu:∀op∈u,op.g=g)(hn:∀op∈u,op.act.touch?=none):Tail (t++u):=by
 refine⟨λsaid=>noRace_append (h.clean said) hu λi a _ op hop b hb _=>(by rw[hn op hop]at hb;cases hb),λi a ha hm=>?_,handedOver_app h.over λop hop=>.inr (hn op hop)⟩;obtain⟨x,hx,hxa⟩:=touch_of ha;rcases getElem?_append_cases hx with⟨_,hx'⟩|⟨_,hxu⟩
 . exact(h.known i a (by rw[touchAt_of hx'];exact hxa) hm).app u
 . rw[hn x hxu]at hxa;cases hxa
theorem Tail.own {t:Trace}(h:Tail t){fn:FuncId}{pos:String}{es:Array Event}:Tail (t++MemOp.ofEvents 0 fn pos es):=
 h.app0 λop hop=>by obtain⟨e,_,rfl⟩:=Go.Conc.mem_ofEvents hop;rfl
theorem Tail.mute {t:Trace}(h:Tail t){g:Nat}{fn:FuncId}{pos:String}{es:Array Event}(hm:∀e∈es,e.mute=true):Tail (t++MemOp.ofEvents g fn pos es):=
 h.appMute (g:=g) (λop hop=>by obtain⟨e,_,rfl⟩:=Go.Conc.mem_ofEvents hop;rfl) (λop hop=>by obtain⟨e,he,rfl⟩:=Go.Conc.mem_ofEvents hop;exact touch_mute (hm e he))
section
variable {P:Program}
theorem _root_.Go.Conc.Leavers.tail {T:Trace}{gs:Array Goroutine}{q:Nat->Nat}(hL:Leavers P T gs q)(hlt:0<gs.size){g a':Goroutine}{w':World}{fn:FuncId}{pos:String}{es:Array Event}:Leavers P (T++MemOp.ofEvents 0 fn pos es) ((gs.map (woken P g a' w')).setIfInBounds 0 a') q:=
 ⟨λj x hj hx=>by
  have hne:0≠j:=by omega
  rw[al_gn hne,Array.getElem?_map]at hx;obtain⟨y,hy,rfl⟩:=Option.map_eq_some_iff.1 hx;have hq:=hL.old j y hj hy;rw[woken_quitsD hq,Deaf_other T (by omega) _ (λop hop=>by obtain⟨e,_,rfl⟩:=Go.Conc.mem_ofEvents hop;rfl)];exact hq,λj hj=>by
  rw[Deaf_other T (g':=0) (by simp at hj;omega) _ (λop hop=>by obtain⟨e,_,rfl⟩:=Go.Conc.mem_ofEvents hop;rfl)];exact hL.above j (by simpa using hj)⟩
theorem _root_.Go.Conc.Leavers.awake0 {T:Trace}{gs:Array Goroutine}{q:Nat->Nat}(hL:Leavers P T gs q){a:Goroutine}(h0:gs[0]?=some a)(hrun:a.status=.running):∀g∈gs,awake g:=by
 intro g hg;obtain⟨i,hi,rfl⟩:=Array.mem_iff_getElem.1 hg;rcases Nat.eq_zero_or_pos i with rfl |hpos
 . have:gs[0]=a:=by simpa[Array.getElem?_eq_getElem hi]using h0
   rw[this];exact awake_of (.inl hrun)
 . exact awake_of ((hL.old i _ hpos (Array.getElem?_eq_getElem hi)).status.elim .inl λx=>.inr (.inr x))
theorem zq95:∀(M:Nat){gs:Array Goroutine}{g:Goroutine}{w:World}{d:Nat}{sl:Option (Nat×Nat)}{T:Trace}{q:Nat->Nat},sumTo gs.size q<=M->gs[0]?=some g->g.status=.running->Leavers P T gs q->Tail T->
 ∃(N:Nat)(gs':Array Goroutine)(d₁ d₂:Nat)(sl₁ sl₂:Option (Nat×Nat))(T':Trace)(q':Nat->Nat),runNT P N (crowd gs (w.at d) sl) T=(.next (crowd gs' (w.at d₁) sl₁),T')/\stepT P (crowd gs' (w.at d₁) sl₁)=runT P (crowd gs' (w.at d₂) sl₂) 0/\
  gs'.size=gs.size/\gs'[0]?=some g/\Leavers P T' gs' q'/\Tail T':=by
 intro M
 induction M with
 |zero=>
  intro gs g w d sl T q hM h0 hrun hL hT;obtain⟨i,g',d',sl',hi,hg,hst⟩:=crowd_pick (P:=P) (w:=w.at d) (sl:=sl) (hL.awake0 h0 hrun) ⟨0,g,h0,hrun⟩;rcases Nat.eq_zero_or_pos i with rfl |hpos
  . exact⟨0,gs,d,d',sl,sl',T,q,rfl,hst,rfl,h0,hL,hT⟩
  . exfalso;have hq:=hL.old i g' hpos hi;have hlt:i<gs.size:=(Array.getElem?_eq_some_iff.1 hi).1;cases hqi:q i with
    |zero=>rw[hqi]at hq;rw[hq.1]at hg;cases hg
    |succ k=>
     have hsum:sumTo gs.size (upd q i k)+(k+1)=sumTo gs.size q+k:=by
      have:=sumTo_upd q k id hlt;simpa[hqi]using this
     omega
 |succ M ih=>
  intro gs g w d sl T q hM h0 hrun hL hT;obtain⟨i,g',d',sl',hi,hg,hst⟩:=crowd_pick (P:=P) (w:=w.at d) (sl:=sl) (hL.awake0 h0 hrun) ⟨0,g,h0,hrun⟩;rcases Nat.eq_zero_or_pos i with rfl |hpos
  . exact⟨0,gs,d,d',sl,sl',T,q,rfl,hst,rfl,h0,hL,hT⟩
  . have hq:=hL.old i g' hpos hi;have hi0:(i==0)=false:=by simp;omega
    have hlt:i<gs.size:=(Array.getElem?_eq_some_iff.1 hi).1;cases hqi:q i with
    |zero=>rw[hqi]at hq;rw[hq.1]at hg;cases hg
    |succ k=>
     rw[hqi]at hq;rcases hq with⟨hf,_⟩|⟨_,g2,es,hm,hstp,hq'⟩
     . rw[hf]at hg;cases hg
     have hrunT:=runT_crowd_go (P:=P) (sl:=sl') (i:=i) hi (by rw[hi0];exact hstp ((w.at d).at d'));have hsz:((gs.map (woken P g' g2 ((w.at d).at d'))).setIfInBounds i g2).size=gs.size:=by simp
     have hsum:sumTo gs.size (upd q i k)+(k+1)=sumTo gs.size q+k:=by
      have:=sumTo_upd q k id hlt;simpa[hqi]using this
     obtain⟨N,gs',d₁,d₂,sl₁,sl₂,T',q',hr,h1,h2,h3,h4,h5⟩:=ih (gs:=(gs.map (woken P g' g2 ((w.at d).at d'))).setIfInBounds i g2) (g:=g) (w:=w) (d:=d') (sl:=sl') (T:=T++MemOp.ofEvents i g'.frame.fn g'.frame.place es) (q:=upd q i k) (by rw[hsz];omega)
      (by
       have hne:i≠0:=by omega
       rw[al_gn hne,Array.getElem?_map,h0];simp[woken_run hrun]) hrun
      ⟨λj x hj hx=>by
       by_cases hji:i=j
       . subst hji;rw[Array.getElem?_setIfInBounds_self_of_lt (by simpa using hlt)]at hx;obtain rfl:=Option.some.inj hx;rw[upd_same,Deaf_own];exact hq'
       . rw[al_gn hji,Array.getElem?_map]at hx;obtain⟨y,hy,rfl⟩:=Option.map_eq_some_iff.1 hx;have hqj:=hL.old j y hj hy;rw[woken_quitsD hqj,upd_ne q k (Ne.symm hji),Deaf_other T hji _ (λop hop=>by obtain⟨e,_,rfl⟩:=Go.Conc.mem_ofEvents hop;rfl)];exact hqj,λj hj=>by
       rw[Deaf_other T (g':=i) (by simp at hj;omega) _ (λop hop=>by obtain⟨e,_,rfl⟩:=Go.Conc.mem_ofEvents hop;rfl)];exact hL.above j (by simpa using hj)⟩
      (hT.mute hm)
     exact⟨N+1,gs',d₁,d₂,sl₁,sl₂,T',q',by simp only[runNT,hst,hrunT];exact hr,h1,h2.trans hsz,h3,h4,h5⟩
def HoldT(P:Program)(Fin:Machine->Trace->Prop)(n:Nat)(g:Goroutine)(w:World):Prop:=
 ∀(d:Nat)(gs:Array Goroutine)(sl:Option (Nat×Nat))(T:Trace)(q:Nat->Nat),gs.size=n->gs[0]?=some g->Leavers P T gs q->Tail T->Fin (crowd gs (w.at d) sl) T
theorem zqc0{Fin:Machine->Trace->Prop}(hFin:Back P Fin){n:Nat}{g:Goroutine}{w:World}(hrun:g.status=.running)
 (hs:∀d,∃g' w' es,stepG P true g (w.at d)=.go g' w' es/\w'.os=w.os/\w'.output=w.output/\HoldT P Fin n g' w'):HoldT P Fin n g w:=by
 intro d gs sl T q hn hg hL hT;obtain⟨N,gs₁,d₁,d₂,sl₁,sl₂,T₁,q₁,hr,hst,hsz,hg₁,hL₁,hT₁⟩:=zq95 (d:=d) (w:=w) (sl:=sl) _ (Nat.le_refl _) hg hrun hL hT;obtain⟨g',w',es,hgo,h1,h2,hH⟩:=hs d₂;have hrt:=runT_crowd_go (P:=P) (sl:=sl₂) (i:=0) hg₁ (show stepG P (0==0) g (w.at d₂)=_ from hgo);have hlt:0<gs₁.size:=(Array.getElem?_eq_some_iff.1 hg₁).1;refine hFin (N+1) _ _ _ _ (runNT_succ_of hr (hst.trans hrt)) h1 h2 ?_;have e:w'=w'.at w'.drawn:=rfl;rw[e];exact hH w'.drawn _ sl₂ _ _ (by simp;omega) (by simp[hlt]) (hL₁.tail hlt) hT₁.own
def JT(P:Program)(Fin:Machine->Trace->Prop)(n:Nat)(g:Goroutine)(w:World):Prop:=∀τ,HoldT P Fin n g (re w τ 0)
theorem holdT_at{Fin:Machine->Trace->Prop}{n:Nat}{g:Goroutine}{w:World}(H:HoldT P Fin n g w)(d:Nat):HoldT P Fin n g (w.at d):=λe=>H e
theorem jt_re{Fin:Machine->Trace->Prop}{n:Nat}{g:Goroutine}{w:World}(H:JT P Fin n g w)(τ:Nat->Question->Nat)(d:Nat):HoldT P Fin n g (re w τ d):=holdT_at (H τ) d
theorem zq5b{Fin:Machine->Trace->Prop}(hFin:Back P Fin){n:Nat}{g:Goroutine}{w:World}(hrun:g.status=.running)
 (hs:∀τ d,∃g' w' es,stepG P true g (re w τ d)=.go g' w' es/\w'.os=w.os/\w'.output=w.output/\JT P Fin n g' w'):JT P Fin n g w:=
 λτ=>zqc0 hFin hrun λd=>by
  obtain⟨g',w',es,h1,h2,h3,h4⟩:=hs τ d;exact⟨g',w',es,h1,h2,h3,jt_re h4 w'.tape w'.drawn⟩
theorem jt_JS{Fin:Machine->Trace->Prop}(hFin:Back P Fin):JS P true (λ_=>none) (JT P Fin):=
 ⟨λn g w τ d H τ'=>jt_re H τ' 0,λn g w hr hs=>zq5b hFin hr λτ d=>by
  obtain⟨g',w',es,h1,h2,h3,h4⟩:=hs τ d;exact⟨g',w',es,h1,h2.1.2.1,h2.1.2.2,h4⟩⟩
theorem zq20{Fin:Machine->Trace->Prop}(hFin:Back P Fin):CalmJ P true (JT P Fin):=
 λn fr cs w hs=>zq5b hFin rfl λτ d=>by
  obtain⟨fr',cs',w',es,h1,h2,hch,h3⟩:=hs τ d;exact⟨_,w',es,h1,hch.2.1,hch.2.2,h3⟩
theorem j0_of_jt{Fin:Machine->Trace->Prop}{n:Nat}{g:Goroutine}{w:World}(h:JT P Fin n g w):J0 P Fin n g w:=by
 intro τ d Mem B gs sl T q hM hsz hg hR;obtain⟨hL,hP⟩:=ring_end hR hM (λ_ _=>rfl);exact h τ d gs sl T q hsz hg hL (.of_past hP)
theorem jt_end{Post:Value->World->Prop}(hPost:∀v w τ d,Post v w->Post v (re w τ d)){n:Nat}{b:Frame}(hb:b.kind=.normal)(hini:P.inits.idxOf? b.fn=none){fn:Func}(hf:P.funcs[b.fn]?=some fn){t:Array Value}{todo:List Item}{w:World}{v:Value}
 (hr:(results fn t).run P w=.ok v w) (hp:Post v w):JT P (FinOf P Post) n (G {b.at ⟨t,[]⟩ todo with mode:=.returning} []) w:=by
 intro τ d gs sl T q hsz hg hL hT0;obtain⟨es,hes⟩:∃es,((results fn t).runT P w #[]).2=es:=⟨_,rfl⟩;have hT:∀τ d,(results fn t).runT P (re w τ d) #[]=(.ok v (re w τ d),es):=λτ d=>by
  obtain⟨_,_,h3⟩:=zq2u _ (zq26 _ (zq1g (P:=P) fn t)) w #[];have h4:((results fn t).runT P w #[]).1=.ok v w:=by rw[Sem.runT_eq];exact hr
  have:=h3 τ d (λj hj=>by rw[h4]at hj;simp only[resW]at hj;omega);rw[h4,hes]at this;simp only[resRe,resW,Nat.sub_self,Nat.add_zero]at this;exact this
 obtain⟨N,gs₁,d₁,d₂,sl₁,sl₂,T₁,q₁,hrn,hst,hs1,hg₁,hL₁,hT₁⟩:=zq95 (d:=d) (w:=re w τ 0) (sl:=sl) _ (Nat.le_refl _) hg rfl hL hT0;have hw:((re w τ 0).at d₂)=re w τ d₂:=rfl;have hend:stepG P (0==0) (G {b.at ⟨t,[]⟩ todo with mode:=.returning} []) ((re w τ 0).at d₂)=.ended (.done v) ((re w τ 0).at d₂) (seen P b.fn es):=by
  rw[hw];simp only[G,stepG,unwind,Frame.at,hf,hT τ d₂,GStep.after,doReturn];simp[GStep.after,hb,hini]
 have hrunT:=runT_many_ended (sl:=sl₂) (i:=0) hg₁ hend;have hT₂:=hT₁.own (fn:=(G {b.at ⟨t,[]⟩ todo with mode:=.returning} []).frame.fn) (pos:=(G {b.at ⟨t,[]⟩ todo with mode:=.returning} []).frame.place) (es:=seen P b.fn es);refine zq50 Post N _ _ _ _ hrn rfl rfl ⟨0,_,.done v,(re w τ 0).at d₂,_,by simp[runNT,hst.trans hrunT],rfl,by simp[step,hst.trans hrunT],v,rfl,⟨hPost v w τ d₂ hp,rfl,rfl⟩,hT₂.clean,hT₂.over,⟨λx hx=>?_,rfl⟩,λj x hx hj=>?_⟩
 . obtain⟨j,hj⟩:=List.mem_iff_getElem?.1 hx;rw[List.getElem?_drop]at hj;exact⟨_,(hL₁.old (1+j) x (by omega) (by simpa[crowd]using hj)).leaves⟩
 . have hq:=hL₁.old j x (by omega) hx;refine⟨q₁ j,?_⟩;have e:(T₁++MemOp.ofEvents 0 (G {b.at ⟨t,[]⟩ todo with mode:=.returning} []).frame.fn (G {b.at ⟨t,[]⟩ todo with mode:=.returning} []).frame.place (seen P b.fn es)).deaf j (T₁++MemOp.ofEvents 0 (G {b.at ⟨t,[]⟩ todo with mode:=.returning} []).frame.fn (G {b.at ⟨t,[]⟩ todo with mode:=.returning} []).frame.place (seen P b.fn es)).size=Deaf T₁ j:=
    Deaf_other T₁ (g:=j) (g':=0) (by omega) _ (λop hop=>by obtain⟨e,_,rfl⟩:=Go.Conc.mem_ofEvents hop;rfl)
   rw[e];exact hq.hears _
section
variable {A:FuncId->Bool}
theorem zqcb{Post:Value->World->Prop}(hPost:∀v w τ d,Post v w->Post v (re w τ d))(hP:Plain P A){c:Code}(hc:zqp P A c=true){n:Nat}{b:Frame}(hb:b.kind=.normal)(hini:P.inits.idxOf? b.fn=none){fn:Func}(hf:P.funcs[b.fn]?=some fn){t:Array Value}{w:World}
 (h:∀τ d,Code.wp P c (bodyPost P fn λe w'=>∃v,e=.returned v/\Post v w') ⟨t,[]⟩ (re w τ d)):JT P (FinOf P Post) n (G (b.at ⟨t,[]⟩ [.code c]) []) w:=by
 have hFin:=zq50 (P:=P) Post;have hJ:=jt_JS hFin;have hC:=zq20 hFin
 let Φ:Act->World->Prop:=λa w=>∃v,(results fn a.tmps).run P w=.ok v w/\Post v w
 have hΦ:∀a w τ d,Φ a w->Φ a (re w τ d):=λa w τ d⟨v,h1,h2⟩=>⟨v,zq2s h1 τ d,hPost _ _ _ _ h2⟩;have hleave:∀(t:Array Value)(w:World)(todo:List Item),Φ ⟨t,[]⟩ w->JT P (FinOf P Post) n (G {b.at ⟨t,[]⟩ todo with mode:=.returning} []) w:=λt w todo⟨v,h1,h2⟩=>jt_end hPost hb hini hf h1 h2;refine zq67 (Q:=λs' e a' w'=>s'=n/\(e=.normal\/e=.ret)/\a'.defers=[]/\Φ a' w') hJ hC hP hc Φ Φ hΦ hΦ (λτ d=>?_) (λt w h=>⟨rfl,.inl rfl,rfl,h⟩) (λt w h=>⟨rfl,.inr rfl,rfl,h⟩) b [] [] (by rw[hb];decide) ?_
 . refine Code.wp_mono ?_ (h τ d);intro e a w hh;cases e with
   |normal=>obtain⟨h1,v,h2,v',h3,h4⟩:=hh;cases h3;exact⟨h1,v,h2,h4⟩
   |ret=>obtain⟨h1,v,h2,v',h3,h4⟩:=hh;cases h3;exact⟨h1,v,h2,h4⟩
   |panic ch=>obtain⟨h1,v,h2,_⟩:=hh;cases h2
   |outgrown=>obtain⟨v,h2,_⟩:=hh;cases h2
   |_=>exact hh
 . rintro s' e ⟨t',ds⟩ w' ⟨rfl,he,hd,h⟩;simp only at hd;subst hd;rcases he with rfl |rfl
   . exact hJ.ctl (λw=>stepG_end) (hleave t' w' [] h)
   . exact λtodo=>hleave t' w' todo h
end
end
end Go.Car
namespace Go.Car
open Go Go.Conc Go.RowKit
section
variable {P:Program} {Fin:Machine->Trace->Prop}
theorem zq33(hFin:Back P Fin){b:Frame}{k:List Item}{cs:List Frame}(hb:b.kind≠.early){ops:Array Oper}{i:Nat}{rest:List Nat}{o:Oper}{n:Nat}{a:Act}{w w':World}{v:Value}
 (ho:ops[i]?=some o) (hw:Region.wanted o (yielded ops a.tmps)=true) (hr:∀τ d,(execOp a.eval o).run P (re w τ d)=.ok (.value v) (re w' τ d)) (h1:w'.os=w.os) (h2:w'.output=w.output)
 (hn:JT P Fin n (G (b.at (a.put o.dst v) (.inRegion ops rest::k)) cs) w'):JT P Fin n (G (b.at a (.inRegion ops (i::rest)::k)) cs) w:=by
 refine zq5b hFin rfl λτ d=>?_;have hfin:∀v,(b.at a (.inRegion ops (i::rest)::k)).finish v=b.at (a.put o.dst v) (.inRegion ops rest::k):=λv=>by rw[Frame.finish_at,ho];rfl
 have hke:((b.at a (.inRegion ops (i::rest)::k)).kind==CallKind.early)=false:=by
  show(b.kind==CallKind.early)=false;simpa using hb
 have hrun:((execOp a.eval o).runT P (re w τ d) #[]).1=.ok (.value v) (re w' τ d):=by rw[Sem.runT_eq];exact hr τ d
 rw[stepG_oper ho hw,stepG.apply];simp only[if_true];generalize hq:(execOp a.eval o).runT P (re w τ d) #[]=r at hrun;obtain⟨res,es⟩:=r;simp only at hrun;subst hrun;refine⟨G ((b.at a (.inRegion ops (i::rest)::k)).finish v) cs,re w' τ d,seen P b.fn es,by simp only[hke,Bool.false_eq_true,if_false,GStep.after,Array.append_empty];rfl,h1,h2,?_⟩;rw[hfin];exact(jt_JS hFin).re' n _ w' τ d hn
end
end Go.Car
namespace Go.Proofs
open Go Go.Conc Go.RowKit Go.Car
theorem zq7x(w:World):(callFunc 94 #[]).run Try.prog w=.ok (.value (.tuple #[])) w:=run_call_mark0 Try.func94 (by kernel_rfl) (by kernel_rfl) (by kernel_rfl) .disable (by kernel_rfl) w
theorem zq7y(w:World):(callFunc 96 #[]).run Try.prog w=.ok (.value (.tuple #[])) w:=run_call_mark0 Try.func96 (by kernel_rfl) (by kernel_rfl) (by kernel_rfl) .enable (by kernel_rfl) w
theorem zqe3(a:Addr)(w:World):(callFunc 97 #[.pointer (some a)]).run Try.prog w=.ok (.value (.tuple #[])) w:=run_call_marked Try.func97 (by kernel_rfl) (by kernel_rfl) (by kernel_rfl) .acquire (by kernel_rfl) a w
theorem r_merge(a:Addr)(w:World):(callFunc 99 #[.pointer (some a)]).run Try.prog w=.ok (.value (.tuple #[])) w:=run_call_marked Try.func99 (by kernel_rfl) (by kernel_rfl) (by kernel_rfl) .releaseMerge (by kernel_rfl) a w
theorem lock_jt{Fin:Machine->Trace->Prop}(hFin:Back Try.prog Fin){n:Nat}{a:Addr}{w:World}{cl:Frame}{cs:List Frame}(hc:w.cell? a=some (.int .i32 0))(hz:w.frozen? a=false)(hv:∀τ d,(convert 204 75 (.pointer (some a))).run Try.prog (re (w.setCell a (.int .i32 1)) τ d)=.ok (.pointer (some a)) (re (w.setCell a (.int .i32 1)) τ d))
 (hq:JT Try.prog Fin n (G (cl.finish (.tuple #[])) cs) (w.setCell a (.int .i32 1))):JT Try.prog Fin n (G (Frame.enter Try.prog 90 #[.pointer (some a)] .normal) (cl::cs)) w:=by
 have hJ:=jt_JS hFin;have hC:=zq20 hFin;have e:Frame.enter Try.prog 90 #[.pointer (some a)] .normal=(bN 90).at (zqg Try.f90 #[.pointer (some a)]) [.code ((Try.f90.body).getD .skip)]:=by kernel_rfl
 have ea:zqg Try.f90 #[.pointer (some a)]=⟨#[.pointer (some a),undef,undef,undef,undef,undef,undef,undef,undef,undef,undef,undef,undef],[]⟩:=by kernel_rfl
 rw[e,ea];clear e ea;obtain⟨u_,hu_⟩:∃c,(Try.f90.body).getD .skip=c:=⟨_,rfl⟩;have eu_:=hu_;rw[hu_];simp only[Try.f90,al_od]at eu_;subst eu_;clear hu_;refine hJ.ctl (s:=n) (λw=>stepG_seq) ?_;refine hJ.ctl (s:=n) (λw=>stepG_region) ?_;refine zq33 hFin (by decide) (w':=w) (v:=.tuple #[]) rfl rfl (λτ d=>?_) rfl rfl ?_
 . simp[go_sem,execOp,Act.eval,resolve,Deferred.ofValue,invoke,zq7x]
 refine hJ.ctl (s:=n) (λw=>stepG_region_end) ?_;refine hJ.ctl (s:=n) (λw=>stepG_seq) ?_;refine hJ.ctl (s:=n) (λw=>stepG_seq) ?_;refine zq1p (s:=n) hJ hC zq38 (by kernel_rfl) (λt w'=>t=#[.pointer (some a),undef,.tuple #[],.pointer (some a),.pointer (some a),.pointer (some a),.bool true,undef,undef,undef,undef,undef,undef]/\∃τ d,w'=re (w.setCell a (.int .i32 1)) τ d) (λt w' τ d h=>⟨h.1,by obtain⟨τ',d',rfl⟩:=h.2;exact⟨τ,d,by rw[re_re]⟩⟩) (by decide) (λτ d=>?_) ?_
 . have h0:(re w τ d).cell? a=some (.int .i32 0):=hc;have f0:(re w τ d).frozen? a=false:=hz;have hl:=run_call_cas_hit (P:=Try.prog) Try.func95 (by kernel_rfl) (by kernel_rfl) (by kernel_rfl) .i32 (by kernel_rfl) (y:=1) h0 f0;simp only[Act.put];go_wp2;exact⟨rfl,rfl,τ,d,by rw[zq1l]⟩
 rintro t w' ⟨rfl,τ,d,rfl⟩;refine hJ.re' n _ _ τ d ?_;refine hJ.ctl (s:=n) (λw=>stepG_cond (t:=true) rfl) ?_;rw[if_pos rfl];generalize w.setCell a (.int .i32 1)=w at hv hq |-;refine hJ.ctl (s:=n) (λw=>stepG_seq) ?_;refine hJ.ctl (s:=n) (λw=>stepG_cond (t:=true) rfl) ?_;rw[if_pos rfl];refine hJ.ctl (s:=n) (λw=>stepG_seq) ?_;refine hJ.ctl (s:=n) (λw=>stepG_region) ?_;refine zq33 hFin (by decide) (w':=w) (v:=.tuple #[]) rfl rfl (λτ d=>?_) rfl rfl ?_
 . simp[go_sem,execOp,Act.eval,resolve,Deferred.ofValue,invoke,zq7y]
 refine hJ.ctl (s:=n) (λw=>stepG_region_end) ?_;refine hJ.ctl (s:=n) (λw=>stepG_region) ?_;simp only[Act.put];refine zqb (s:=n) (by decide) hJ (zq9 _) true (.inl rfl) 0 1 2 rfl rfl rfl (by rfl) ?_;intro τ d;simp only[List.drop_succ_cons,List.drop_zero,List.take_succ_cons,List.take_zero];go_wp2;simp only[zq5];refine hJ.re' n _ _ τ d ?_;rw[show List.range' (0+1) 2=[1,2]from rfl];refine zq6i (s:=n) hJ (by decide) rfl rfl (.inl ⟨95,by kernel_rfl,by kernel_rfl⟩) rfl rfl (v:=.pointer (some a)) (λτ d=>hv τ d) ?_;refine zq33 hFin (by decide) (w':=w) (v:=.tuple #[]) rfl rfl (λτ d=>?_) rfl rfl ?_
 . simp[go_sem,execOp,Act.eval,resolve,Deferred.ofValue,invoke,zqe3]
 refine hJ.ctl (s:=n) (λw=>stepG_region_end) ?_;refine hJ.ctl (s:=n) (λw=>stepG_ret') ?_;exact hJ.ctl (s:=n) (λw=>stepG_leave rfl rfl Try.func90 (resultsC_none rfl _ w).1 (resultsC_none rfl _ w).2) hq
theorem zqjm{Fin:Machine->Trace->Prop}(hFin:Back Try.prog Fin){n:Nat}{a:Addr}{w:World}{cl:Frame}{cs:List Frame}(hc:w.cell? a=some (.int .i32 1))(hz:w.frozen? a=false)(hv:∀τ d,(convert 204 75 (.pointer (some a))).run Try.prog (re w τ d)=.ok (.pointer (some a)) (re w τ d))
 (hq:JT Try.prog Fin n (G (cl.finish (.tuple #[])) cs) (w.setCell a (.int .i32 0))):JT Try.prog Fin n (G (Frame.enter Try.prog 91 #[.pointer (some a)] .normal) (cl::cs)) w:=by
 have hJ:=jt_JS hFin;have hC:=zq20 hFin;have e:Frame.enter Try.prog 91 #[.pointer (some a)] .normal=(bN 91).at (zqg Try.f91 #[.pointer (some a)]) [.code ((Try.f91.body).getD .skip)]:=by kernel_rfl
 have ea:zqg Try.f91 #[.pointer (some a)]=⟨#[.pointer (some a),undef,undef,undef,undef,undef,undef,undef,undef,undef,undef,undef,undef,undef,undef,undef,undef,undef,undef,undef,undef],[]⟩:=by kernel_rfl
 rw[e,ea];clear e ea;obtain⟨u_,hu_⟩:∃c,(Try.f91.body).getD .skip=c:=⟨_,rfl⟩;have eu_:=hu_;rw[hu_];simp only[Try.f91,al_od]at eu_;subst eu_;clear hu_;refine hJ.ctl (s:=n) (λw=>stepG_seq) ?_;refine hJ.ctl (s:=n) (λw=>stepG_cond (t:=true) rfl) ?_;rw[if_pos rfl];refine hJ.ctl (s:=n) (λw=>stepG_seq) ?_;refine hJ.ctl (s:=n) (λw=>stepG_region) ?_;refine zqb (s:=n) (by decide) hJ (zq9 _) true (.inl rfl) 0 4 0 rfl rfl rfl (by rfl) ?_;intro τ d;simp only[List.drop_succ_cons,List.drop_zero,List.take_succ_cons,List.take_zero];have c0:(re w τ d).cell? a=some (.int .i32 1):=hc;go_wp2;simp only[zq5];clear c0;refine hJ.re' n _ _ τ d ?_;refine hJ.ctl (s:=n) (λw=>stepG_region_end) ?_;refine hJ.ctl (s:=n) (λw=>stepG_seq) ?_;refine hJ.ctl (s:=n) (λw=>stepG_region) ?_;refine zqb (s:=n) (by decide) hJ (zq9 _) true (.inl rfl) 0 1 2 rfl rfl rfl (by rfl) ?_;intro τ d;simp only[List.drop_succ_cons,List.drop_zero,List.take_succ_cons,List.take_zero];go_wp2;simp only[zq5];refine hJ.re' n _ _ τ d ?_;rw[show List.range' (0+1) 2=[1,2]from rfl];refine zq6i (s:=n) hJ (by decide) rfl rfl (.inl ⟨95,by kernel_rfl,by kernel_rfl⟩) rfl rfl (v:=.pointer (some a)) (λτ d=>hv τ d) ?_;refine zq33 hFin (by decide) (w':=w) (v:=.tuple #[]) rfl rfl (λτ d=>?_) rfl rfl ?_
 . simp[go_sem,execOp,Act.eval,resolve,Deferred.ofValue,invoke,r_merge]
 refine hJ.ctl (s:=n) (λw=>stepG_region_end) ?_;refine hJ.ctl (s:=n) (λw=>stepG_region) ?_;refine zq33 hFin (by decide) (w':=w) (v:=.tuple #[]) rfl rfl (λτ d=>?_) rfl rfl ?_
 . simp[go_sem,execOp,Act.eval,resolve,Deferred.ofValue,invoke,zq7x]
 refine hJ.ctl (s:=n) (λw=>stepG_region_end) ?_;refine hJ.ctl (s:=n) (λw=>stepG_seq) ?_;refine zq1p (s:=n) hJ hC zq38 (by kernel_rfl) (λt w'=>t=#[.pointer (some a),undef,.int .i32 0,.pointer (some a),.pointer (some a),.pointer (some a),.int .i32 1,.pointer (some a),.pointer (some a),.tuple #[],.tuple #[],.pointer (some a),.pointer (some a),.pointer (some a),.int .i32 0,undef,undef,undef,undef,undef,undef]/\∃τ d,w'=re (w.setCell a (.int .i32 0)) τ d) (λt w' τ d h=>⟨h.1,by obtain⟨τ',d',rfl⟩:=h.2;exact⟨τ,d,by rw[re_re]⟩⟩) (by decide) (λτ d=>?_) ?_
 . have h0:(re w τ d).cell? a=some (.int .i32 1):=hc;have f0:(re w τ d).frozen? a=false:=hz;have hl:=run_call_add (P:=Try.prog) Try.func100 (by kernel_rfl) (by kernel_rfl) (by kernel_rfl) .i32 (by kernel_rfl) (y:= -1) (s:=0) h0 f0 (by rfl);simp only[Act.put];go_wp2;exact⟨rfl,rfl,τ,d,by rw[zq1l]⟩
 rintro t w' ⟨rfl,τ,d,rfl⟩;refine hJ.re' n _ _ τ d ?_;generalize w.setCell a (.int .i32 0)=w at hq |-;refine hJ.ctl (s:=n) (λw=>stepG_seq) ?_;refine hJ.ctl (s:=n) (λw=>stepG_seq) ?_;refine hJ.ctl (s:=n) (λw=>stepG_region) ?_;simp only[Act.put];refine zqb (s:=n) (by decide) hJ (zq9 _) true (.inl rfl) 0 2 0 rfl rfl rfl (by rfl) ?_;intro τ d;simp only[List.drop_succ_cons,List.drop_zero,List.take_succ_cons,List.take_zero];go_wp2;simp only[zq5];refine hJ.re' n _ _ τ d ?_;refine hJ.ctl (s:=n) (λw=>stepG_region_end) ?_;refine hJ.ctl (s:=n) (λw=>stepG_cond (t:=false) rfl) ?_;rw[if_neg (by decide)];refine hJ.ctl (s:=n) (λw=>stepG_skip) ?_;refine hJ.ctl (s:=n) (λw=>stepG_region) ?_;refine zq33 hFin (by decide) (w':=w) (v:=.tuple #[]) rfl rfl (λτ d=>?_) rfl rfl ?_
 . simp[go_sem,execOp,Act.eval,resolve,Deferred.ofValue,invoke,zq7y]
 refine hJ.ctl (s:=n) (λw=>stepG_region_end) ?_;refine hJ.ctl (s:=n) (λw=>stepG_end) ?_;exact hJ.ctl (s:=n) (λw=>stepG_leave rfl rfl Try.func91 (resultsC_none rfl _ w).1 (resultsC_none rfl _ w).2) hq
end Go.Proofs
namespace Go.Car
open Go Go.Conc Go.RowKit
section
variable {P:Program} {main:Bool} {Kc:Addr->Option Value} {γ:Type} {J:γ->Goroutine->World->Prop}
def zq4i(c:Frame):Frame:=match c.mode with
 |.panicking ({recovered:=true,..}::older)=>match older.dropWhile (!·.goexit)with
  |[]=>{c with mode:=.returning}
  |rest=>{c with mode:=.panicking rest}
 |_=>c
theorem leaveD(hJ:JS P main Kc J){b:Frame}{a:Act}{todo:List Item}{c:Frame}{cs:List Frame}{s:γ}{w:World}{fn:Func}{v:Value}(hn:b.kind=.deferred)(hd:a.defers=[])(hf:P.funcs[b.fn]?=some fn)
 (hr:∀τ d,(results fn a.tmps).run P (re w τ d)=.ok v (re w τ d)) (h:J s (G (zq4i c) cs) w):J s (G {b.at a todo with mode:=.returning} (c::cs)) w:=by
 refine hJ.step _ _ _ rfl λτ d=>?_;have hev:∀e∈((results fn a.tmps).runT P (re w τ d) #[]).2,EvOk Kc e:=λe he=>zq2b ((zq1v _ (zq1g fn a.tmps) _ #[] e he).resolve_left (by simp));refine⟨G (zq4i c) cs,re w τ d,seen P b.fn ((results fn a.tmps).runT P (re w τ d) #[]).2,?_,OkD.refl _ _ _,λe he=>hev e (mem_seen he),hJ.re' _ _ _ _ _ h⟩;have h1:((results fn a.tmps).runT P (re w τ d) #[]).1=.ok v (re w τ d):=by rw[Sem.runT_eq];exact hr τ d
 simp only[G,stepG,unwind,Frame.at,hd,hf];generalize (results fn a.tmps).runT P (re w τ d) #[]=r at h1;obtain⟨r,es⟩:=r;simp only at h1;subst h1;simp only[doReturn,hn,GStep.after,Array.append_empty];rfl
end
end Go.Car
namespace Go.Proofs
open Go Go.Conc Go.RowKit Go.Car
def lzC(d s:Int):Array Value:=#[.int .u32 d,.int .i32 s,.int .u32 0,.nilFunc,.int .i64 0,.bool false]
theorem zq6q{w:World}{b:Nat}{d s:Int}(h:w.heap[b]?=some (.cells (lzC d s) 101)):(convert 204 75 (.pointer (some ⟨b,1,none⟩))).run Try.prog w=.ok (.pointer (some ⟨b,1,none⟩)) w:=by
 have h1:Try.prog.underlying 204=some (.pointer 95):=by kernel_rfl
 have h2:Try.prog.underlying 75=some .unsafePointer:=by kernel_rfl
 have h3:w.shape? b=some (101,6):=by simp[World.shape?,h,lzC]
 obtain⟨ti,h6,h7⟩:∃ti,Try.prog.info? 95=some ti/\ti.size=2:=⟨_,rfl,rfl⟩;simp[convert,underlying,Conv.unsafePointer,Conv.seenAt,viewAt,cellsIn,sizeOf,typeInfo,h1,h2,h3,h,h6,h7,lzC]
theorem mlock_jt{Fin:Machine->Trace->Prop}(hFin:Back Try.prog Fin){n b:Nat}{d_:Int}{w:World}{cl:Frame}{cs:List Frame}(h:w.heap[b]?=some (.cells (lzC d_ 0) 101))
 (hq:JT Try.prog Fin n (G (cl.finish (.tuple #[])) cs) (w.setCell ⟨b,1,none⟩ (.int .i32 1))):JT Try.prog Fin n (G (Frame.enter Try.prog 87 #[.pointer (some ⟨b,1,none⟩)] .normal) (cl::cs)) w:=by
 have hJ:=jt_JS hFin;have e:Frame.enter Try.prog 87 #[.pointer (some ⟨b,1,none⟩)] .normal=(bN 87).at ⟨#[.pointer (some ⟨b,1,none⟩),undef,undef,undef,undef,undef],[]⟩ [.code ((Try.f87.body).getD .skip)]:=by kernel_rfl
 rw[e];clear e;have HQ:=Lib.hid hq;have HH:=Lib.hid h;clear hq h;obtain⟨u_,hu_⟩:∃c,(Try.f87.body).getD .skip=c:=⟨_,rfl⟩;have eu_:=hu_;rw[hu_];simp only[Try.f87,al_od]at eu_;subst eu_;clear hu_;refine hJ.ctl (s:=n) (λw=>stepG_region) ?_;refine zqb (s:=n) (by first|decide |omega) hJ (zq9 _) false (.inr rfl) 0 3 1 rfl rfl rfl (by rfl) ?_;intro τ d;simp only[List.drop_succ_cons,List.drop_zero,List.take_succ_cons,List.take_zero];go_wp2;simp only[zq5];refine hJ.re' n _ _ τ d ?_;refine zqy (by decide) hJ (s:=n) rfl rfl (f:=90) (args:=#[.pointer (some ⟨b,1,none⟩)]) (λτ d=>?_) (λτ d=>?_) ?_
 . simp[go_sem,execOp,Act.eval,resolve,Deferred.ofValue,invoke,callFunc,Try.func90,Try.f90]
 . intro e he;simp[go_sem,execOp,Act.eval,resolve,Deferred.ofValue,invoke,callFunc,Try.func90,Try.f90,Sem.runT_eq]at he
 have h:=HH.out;refine lock_jt hFin ((zq0 h).trans rfl) (zqf h) (λτ d=>zq6q (d:=d_) (s:=1) ?_) ?_
 . show(w.setCell _ _).heap[b]?=_;rw[zqu _ _ _ _ h];rfl
 rw[Frame.finish_at]
 walk_nrm
 refine hJ.ctl (s:=n) (λw=>stepG_region_end) ?_;refine hJ.ctl (s:=n) (λw=>stepG_end) ?_;exact hJ.ctl (s:=n) (λw=>stepG_leave rfl rfl Try.func87 (resultsC_none rfl _ w).1 (resultsC_none rfl _ w).2) HQ.out
theorem zqcq{Fin:Machine->Trace->Prop}(hFin:Back Try.prog Fin){n b:Nat}{d_:Int}{w:World}{c:Frame}{cs:List Frame}(h:w.heap[b]?=some (.cells (lzC d_ 1) 101))
 (hq:JT Try.prog Fin n (G (zq4i c) cs) (w.setCell ⟨b,1,none⟩ (.int .i32 0))):JT Try.prog Fin n (G ((baseD 88).at (zqg Try.f88 #[.pointer (some ⟨b,1,none⟩)]) [.code ((Try.f88.body).getD .skip)]) (c::cs)) w:=by
 have hJ:=jt_JS hFin;have e:zqg Try.f88 #[.pointer (some ⟨b,1,none⟩)]=⟨#[.pointer (some ⟨b,1,none⟩),undef,undef,undef,undef,undef],[]⟩:=by kernel_rfl
 rw[e];clear e;have HQ:=Lib.hid hq;have HH:=Lib.hid h;clear hq h;obtain⟨u_,hu_⟩:∃c,(Try.f88.body).getD .skip=c:=⟨_,rfl⟩;have eu_:=hu_;rw[hu_];simp only[Try.f88,al_od]at eu_;subst eu_;clear hu_;refine hJ.ctl (s:=n) (λw=>stepG_region) ?_;refine zqb (s:=n) (by first|decide |omega) hJ (zq9 _) false (.inr rfl) 0 3 1 rfl rfl rfl (by rfl) ?_;intro τ d;simp only[List.drop_succ_cons,List.drop_zero,List.take_succ_cons,List.take_zero];go_wp2;simp only[zq5];refine hJ.re' n _ _ τ d ?_;refine zqy (by decide) hJ (s:=n) rfl rfl (f:=91) (args:=#[.pointer (some ⟨b,1,none⟩)]) (λτ d=>?_) (λτ d=>?_) ?_
 . simp[go_sem,execOp,Act.eval,resolve,Deferred.ofValue,invoke,callFunc,Try.func91,Try.f91]
 . intro e he;simp[go_sem,execOp,Act.eval,resolve,Deferred.ofValue,invoke,callFunc,Try.func91,Try.f91,Sem.runT_eq]at he
 have h:=HH.out;refine zqjm hFin ((zq0 h).trans rfl) (zqf h) (λτ d=>zq6q (d:=d_) (s:=1) h) ?_;rw[Frame.finish_at]
 walk_nrm
 refine hJ.ctl (s:=n) (λw=>stepG_region_end) ?_;refine hJ.ctl (s:=n) (λw=>stepG_end) ?_;refine leaveD (s:=n) hJ (b:=baseD 88) (fn:=Try.f88) (v:=.tuple #[]) rfl rfl Try.func88 (λτ d=>(resultsC_none rfl _ _).1) HQ.out
theorem zqaw{Fin:Machine->Trace->Prop}(hFin:Back Try.prog Fin){n:Nat}{a:Addr}{x:Value}{w:World}{c:Frame}{cs:List Frame}(hc:w.cell? a=some x)(hz:w.frozen? a=false)
 (hq:JT Try.prog Fin n (G (zq4i c) cs) (w.setCell a (.int .u32 1))):JT Try.prog Fin n (G ((baseD 89).at (zqg Try.f89 #[.pointer (some a),.bool true]) [.code ((Try.f89.body).getD .skip)]) (c::cs)) w:=by
 have hJ:=jt_JS hFin;have hC:=zq20 hFin;have e:zqg Try.f89 #[.pointer (some a),.bool true]=⟨#[.pointer (some a),.bool true,undef,undef,undef,undef,undef,undef,undef,undef],[]⟩:=by kernel_rfl
 rw[e];clear e;refine zq1p (s:=n) hJ hC zq38 (by kernel_rfl) (λt w'=>∃τ d,w'=re (w.setCell a (.int .u32 1)) τ d) (λt w' τ d h=>by obtain⟨τ',d',rfl⟩:=h;exact⟨τ,d,by rw[re_re]⟩) (by decide) (λτ d=>?_) ?_
 . obtain⟨u_,hu_⟩:∃c,(Try.f89.body).getD .skip=c:=⟨_,rfl⟩;have eu_:=hu_;rw[hu_];simp only[Try.f89,al_od]at eu_;subst eu_;clear hu_;have hc':(re w τ d).drew.cell? a=some x:=hc;have hz':(re w τ d).drew.frozen? a=false:=hz;have hst:=run_call_store (P:=Try.prog) Try.func92 (by kernel_rfl) (by kernel_rfl) (by kernel_rfl) (by kernel_rfl) (k:=.u32) (y:=1) hc' hz';go_wp2
   go_region_calls
   all_goals exact⟨rfl,_,_,rfl⟩
 rintro t w' ⟨τ,d,rfl⟩;refine hJ.re' n _ _ τ d ?_;refine hJ.ctl (s:=n) (λw=>stepG_end) ?_;exact leaveD (s:=n) hJ (b:=baseD 89) (fn:=Try.f89) (v:=.tuple #[]) rfl rfl Try.func89 (λτ d=>(resultsC_none rfl _ _).1) hq
@[go_sem] theorem eq_lznil (w : World) : (binOp .eql 89 .nilFunc .nilFunc).run Try.prog w = .ok (.bool true) w := by rfl
theorem mk_jt{Fin:Machine->Trace->Prop}(hFin:Back Try.prog Fin){n b:Nat}{d_ s_:Int}{w:World}{cl:Frame}{cs:List Frame}(h:w.heap[b]?=some (.cells (lzC d_ s_) 101))
 (hq:∀w',Beyond w w'->JT Try.prog Fin n (G (cl.finish (.tuple #[])) cs) w'):JT Try.prog Fin n (G (Frame.enter Try.prog 62 #[.pointer (some ⟨b,0,none⟩)] .normal) (cl::cs)) w:=by
 have hJ:=jt_JS hFin;have hC:=zq20 hFin;have e:Frame.enter Try.prog 62 #[.pointer (some ⟨b,0,none⟩)] .normal=(bN 62).at ⟨#[.pointer (some ⟨b,0,none⟩),undef,undef,undef,undef,undef,undef,undef,undef,undef,undef,undef,undef,undef,undef,undef,undef,undef,undef,undef,undef,undef],[]⟩ [.code ((Try.f62.body).getD .skip)]:=by kernel_rfl
 rw[e];clear e;have HQ:=Lib.hid hq;clear hq;obtain⟨u_,hu_⟩:∃c,(Try.f62.body).getD .skip=c:=⟨_,rfl⟩;have eu_:=hu_;rw[hu_];simp only[Try.f62,al_od]at eu_;subst eu_;clear hu_;refine hJ.ctl (s:=n) (λw=>stepG_seq) ?_;refine hJ.ctl (s:=n) (λw=>stepG_region) ?_;refine zqb (s:=n) (by first|decide |omega) hJ (zq9 _) false (.inr rfl) 0 1 0 rfl rfl rfl (by rfl) ?_;intro τ d;simp only[List.drop_succ_cons,List.drop_zero,List.take_succ_cons,List.take_zero];have hb:=(zqe h);have h':(re w τ d).heap[b]?=some (.cells (lzC d_ s_) 101):=h;have hbe:=Beyond.re w τ d;clear h hb;generalize re w τ d=w1 at h' hbe |-;obtain⟨q,hqq⟩:∃q,w1.heap.size=q:=⟨_,rfl⟩;go_wp2;simp only[zq5];have h2:(w1.alloc (.cells #[.pointer (some ⟨b,0,none⟩)] 82)).heap[b]?=some (.cells (lzC d_ s_) 101):=zqk h';have h3:(w1.alloc (.cells #[.pointer (some ⟨b,0,none⟩)] 82)).heap[q]?=some (.cells #[.pointer (some ⟨b,0,none⟩)] 82):=by rw[<-hqq];exact zq10 _ _
 have hbe2:=hbe.trans (Beyond.alloc w1 (.cells #[.pointer (some ⟨b,0,none⟩)] 82))
 try rw[hqq]
 generalize w1.alloc (.cells #[.pointer (some ⟨b,0,none⟩)] 82)=w2 at h2 h3 hbe2 |-;refine hJ.ctl (s:=n) (λw=>stepG_region_end) ?_;refine hJ.ctl (s:=n) (λw=>stepG_seq) ?_;refine hJ.ctl (s:=n) (λw=>stepG_seq) ?_;refine hJ.ctl (s:=n) (λw=>stepG_region) ?_;refine zqb (s:=n) (by first|decide |omega) hJ (zq9 _) false (.inr rfl) 0 5 0 rfl rfl rfl (by rfl) ?_;intro τ d;simp only[List.drop_succ_cons,List.drop_zero,List.take_succ_cons,List.take_zero];have c0:(re w2 τ d).cell? ⟨q,0,none⟩=some (.pointer (some ⟨b,0,none⟩)):=(zq0 (off:=0) h3).trans rfl;have c1:(re w2 τ d).cell? ⟨b,3,none⟩=some .nilFunc:=(zq0 (off:=3) h2).trans rfl;go_wp2;simp only[zq5];refine hJ.re' n _ _ τ d ?_;refine hJ.ctl (s:=n) (λw=>stepG_region_end) ?_;refine hJ.ctl (s:=n) (λw=>stepG_cond (t:=true) rfl) ?_;rw[if_pos rfl];refine hJ.ctl (s:=n) (λw=>stepG_ret') ?_;exact hJ.ctl (s:=n) (λw=>stepG_leave rfl rfl Try.func62 (resultsC_none rfl _ w).1 (resultsC_none rfl _ w).2) (HQ.out _ hbe2)
end Go.Proofs
