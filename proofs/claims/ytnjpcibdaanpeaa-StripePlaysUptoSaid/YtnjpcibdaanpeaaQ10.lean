/- YtnjpcibdaanpeaaSPlays4: part 10 of the proof (the texts behind it, in order). -/
import Derived.Test.YtnjpcibdaanpeaaQ09
set_option linter.unusedSimpArgs false
set_option linter.unusedVariables false
set_option linter.unusedSectionVars false
set_option linter.unnecessarySimpa false
set_option maxHeartbeats 2000000
set_option maxRecDepth 100000
namespace Go.Proofs
open Go Go.Conc Go.RowKit Go.Car
def idx(a:Int)(n:Nat):Nat:=(a % (n:Int)).toNat
theorem idx_lt(a:Int){n:Nat}(hn:0<n):idx a n<n:=by
 have h1:=Int.emod_nonneg a (b:=(n:Int)) (by omega)
 have h2:=Int.emod_lt_of_pos a (b:=(n:Int)) (by omega)
 unfold idx
 omega
theorem idx_val(a:Int){n:Nat}(hn:0<n):(a.tmod n+n).tmod n=(idx a n:Int):=by
 have h1:=Int.emod_nonneg a (b:=(n:Int)) (by omega)
 have h3: -(n:Int)<a.tmod n:=Int.lt_tmod_of_pos a (by omega)
 have h4:(0:Int)<=a.tmod n+n:=by omega
 rw[Int.tmod_eq_emod_of_nonneg h4,Int.add_emod_right]
 have:(a.tmod n) % (n:Int)=a % n:=by
  rw[Int.tmod_def,Int.sub_emod,Int.mul_emod_right]
  simp
 rw[this]
 unfold idx
 omega
def moreV(z:Option Nat)(N:Nat):Value:=
 match z with
 |none=>.slice none 0 0
 |some mb=>.slice (some ⟨mb,0,none⟩) N N
def oneV(z:Option Nat)(l:List Int):Value:=
 match z with
 |none=>.int .i64 (l.getD 0 0)
 |some _=>.int .i64 0
structure StrRep(cb:Nat)(z:Option Nat)(N:Nat)(l:List Int)(w:World):Prop where
 len:l.length=N
 pos:0<N
 le:N<=64
 ctr:w.heap[cb]?=some (.cells #[oneV z l,moreV z N] 63)
 nums:∀mb,z=some mb->w.heap[mb]?=some (.cells (l.map (Value.int .i64)).toArray 60)
 zero:z=none->N=1
def loc(cb:Nat)(z:Option Nat)(N:Nat)(a:Int):Addr:=
 match z with
 |none=>⟨cb,0,none⟩
 |some mb=>⟨mb,idx a N,none⟩
def zqt(cb:Nat)(z:Option Nat)(N:Nat):Core (List Int) (List Int) where
 foot _ b:=b=cb\/z=some b
 Rep:=StrRep cb z N
 st l:=l
 frame l w w' h hs:=⟨h.len,h.pos,h.le,(hs cb (.inl rfl)).trans h.ctr,λmb hz=>(hs mb (.inr hz)).trans (h.nums mb hz),h.zero⟩
 lt l w b h hb:=hb.elim (λe=>by subst e;exact zqa h.ctr) (λe=>zqa (h.nums b e))
 pin _:=0
section
variable {cb:Nat} {z:Option Nat} {N:Nat} {l:List Int} {w:World}
theorem StrRep.cell (h:StrRep cb z N l w)(a:Int):w.cell? (loc cb z N a)=some (.int .i64 (l.getD (idx a N) 0)):=by
 cases hz:z with
 |none=>
  subst hz
  have hN:=h.zero rfl
  subst hN
  have e:idx a 1=0:=by have:=idx_lt a (n:=1) (by omega);omega
  rw[e]
  exact(zq0 h.ctr).trans rfl
 |some mb=>
  subst hz
  refine(zq0 (h.nums mb rfl)).trans ?_
  have:=idx_lt a h.pos
  have hl:=h.len
  simp[loc,show idx a N<l.length by omega]
theorem StrRep.frozen (h:StrRep cb z N l w)(a:Int):w.frozen? (loc cb z N a)=false:=by
 cases hz:z with
 |none=>subst hz;exact zqe h.ctr
 |some mb=>subst hz;exact zqe (h.nums mb rfl)
theorem StrRep.set (h:StrRep cb z N l w)(a:Int)(x:Int):StrRep cb z N (l.set (idx a N) x) (w.setCell (loc cb z N a) (.int .i64 x)):=by
 have hl:=h.len
 cases hz:z with
 |none=>
  subst hz
  have hN:=h.zero rfl
  subst hN
  have e:idx a 1=0:=by have:=idx_lt a (n:=1) (by omega);omega
  refine⟨by simpa using hl,by omega,by omega,?_,λmb hm=>(by cases hm),λ_=>rfl⟩
  rw[e]
  refine(zqb _ _ _ _ h.ctr).trans ?_
  match l,hl with
  |[y],_=>rfl
 |some mb=>
  subst hz
  have hne:mb≠cb:=by
   intro e
   have h1:=h.nums mb rfl
   rw[e,h.ctr]at h1
   injection h1 with h1
   injection h1 with _ h2 _
   exact absurd h2 (by decide)
  refine⟨by simpa using hl,h.pos,h.le,?_,λm2 hm=>?_,λhm=>(by cases hm)⟩
  · exact(zq3 _ _ _ _ (by exact λe=>hne e.symm)).trans h.ctr
  · cases hm
    refine(zqb _ _ _ _ (h.nums mb rfl)).trans ?_
    congr 2
    apply Array.ext_getElem?
    intro j
    simp only[al_gs,al_gl,List.getElem?_map,List.getElem?_set,List.size_toArray,List.length_map]
    by_cases e:idx a N=j
    · rw[if_pos e,if_pos e]
      by_cases h2:idx a N<l.length<;>simp[h2]
    · rw[if_neg e,if_neg e]
theorem loc_foot(cb:Nat)(z:Option Nat)(N:Nat)(a:Int):(loc cb z N a).block=cb\/z=some (loc cb z N a).block:=by
 cases z with
 |none=>exact .inl rfl
 |some mb=>exact .inr rfl
structure HeadAt(cb:Nat)(z:Option Nat)(N:Nat)(w:World):Prop where
 pos:0<N
 le:N<=64
 cell:w.cell? ⟨cb,1,none⟩=some (moreV z N)
 zero:z=none->N=1
theorem StrRep.head (h:StrRep cb z N l w):HeadAt cb z N w:=⟨h.pos,h.le,(zq0 h.ctr).trans rfl,h.zero⟩
theorem stripes_lone(h:HeadAt cb z N w):Calls Try.prog 13 #[.pointer (some ⟨cb,0,none⟩)] w λe w'=>e=.returned (.int .i64 N)/\w'=w:=by
 have c1:w.cell? ⟨cb,1,none⟩=some (moreV z N):=h.cell
 have hN:=h.pos
 go_enter Try.func13,Try.ntmps13
 cases hz:z with
 |none=>
  subst hz
  have hN:=h.zero rfl
  subst hN
  simp only[moreV]at c1
  go_wp2
  go_ret
  exact⟨rfl,rfl⟩
 |some mb=>
  subst hz
  simp only[moreV]at c1
  go_wp2
  go_ret
  refine⟨?_,rfl⟩
  congr 2
theorem stripe_lone(h:HeadAt cb z N w)(a:Int):Calls Try.prog 31 #[.pointer (some ⟨cb,0,none⟩),.int .i64 a] w λe w'=>e=.returned (.pointer (some (loc cb z N a)))/\∃τ d,w'=Car.re w τ d:=by
 have c1:w.cell? ⟨cb,1,none⟩=some (moreV z N):=h.cell
 have hp:=h.pos
 have hle:=h.le
 go_enter Try.func31,Try.ntmps31
 cases hz:z with
 |none=>
  subst hz
  simp only[moreV]at c1
  go_wp2
  go_ret
  exact⟨rfl,w.tape,w.drawn,rfl⟩
 |some mb=>
  subst hz
  simp only[moreV]at c1
  have hne:¬(N:Int)=0:=by omega
  have h1: -(N:Int)<a.tmod N:=Int.lt_tmod_of_pos a (by omega)
  have h2:a.tmod N<N:=Int.tmod_lt_of_pos a (by omega)
  have e0:IntKind.i64.wrap (a.tmod N)=a.tmod N:=IntWalk.i64_in _ (by omega)
  have e1:IntKind.i64.wrap (a.tmod N+N)=a.tmod N+N:=IntWalk.i64_in _ (by omega)
  have e2:=idx_val a hp
  have h3:=idx_lt a hp
  have h4:(0:Int)<=(idx a N:Nat):=by omega
  have h5:((idx a N:Nat):Int)<N:=by omega
  have e3:IntKind.i64.wrap ((idx a N:Nat):Int)=((idx a N:Nat):Int):=IntWalk.i64_in _ (by omega)
  go_wp2
  go_quiet (fail)
  go_wp2
  go_ret
  exact⟨rfl,w.tape,w.drawn+_,rfl⟩
end
set_option maxHeartbeats 1000000
set_option maxRecDepth 100000
theorem load_lone(ad:Addr)(x:Int)(w:World)(h0:w.cell? ad=some (.int .i64 x)):
 Calls Try.prog 32 #[.pointer (some ad)] w λe w'=>e=.returned (.int .i64 x)/\w'=w:=by
 have hl:=run_call_load (P:=Try.prog) Try.func43 (by kernel_rfl) (by kernel_rfl) (by kernel_rfl) .i64 (by kernel_rfl) h0
 go_enter Try.func32,Try.ntmps32
 go_wp2
 go_ret
 exact⟨rfl,rfl⟩
theorem store_lone(ad:Addr)(x y:Int)(w:World)(h0:w.cell? ad=some (.int .i64 x))(f0:w.frozen? ad=false):
 Calls Try.prog 36 #[.pointer (some ad),.int .i64 y] w λe w'=>e=.returned (.tuple #[])/\w'=w.setCell ad (.int .i64 y):=by
 have hl:=run_call_store (P:=Try.prog) Try.func46 (by kernel_rfl) (by kernel_rfl) (by kernel_rfl) (by kernel_rfl) (k:=.i64) (y:=y) h0 f0
 go_enter Try.func36,Try.ntmps36
 go_wp2
 go_end0
 exact⟨rfl,rfl⟩
theorem add_lone(ad:Addr)(x y:Int)(w:World)(h0:w.cell? ad=some (.int .i64 x))(f0:w.frozen? ad=false):
 Calls Try.prog 34 #[.pointer (some ad),.int .i64 y] w λe w'=>e=.returned (.int .i64 (IntKind.i64.wrap (x+y)))/\w'=w.setCell ad (.int .i64 (IntKind.i64.wrap (x+y))):=by
 have hl:=run_call_add (P:=Try.prog) Try.func44 (by kernel_rfl) (by kernel_rfl) (by kernel_rfl) .i64 (by kernel_rfl) (y:=y) (s:=IntKind.i64.wrap (x+y)) h0 f0 (by rfl)
 go_enter Try.func34,Try.ntmps34
 go_wp2
 go_ret
 have hw:wrap64 (x+y)=IntKind.i64.wrap (x+y):=by rw[IntKind.wrap_i64];simp only[wrap64]
 rw[hw]
 exact⟨rfl,rfl⟩
theorem run_call_swap{P:Program}{f:FuncId}{fn:Func}(hf:P.funcs[f]?=some fn)(hname:(fn.name== "runtime.NumGoroutine")=false)(hb:fn.body.isNone=true)(hn:Extern.findNext fn=none)(k:IntKind)
 (he:Extern.find fn=some (Extern.Atomic.swapT (.int k))) {a:Addr} {x y:Int} {w:World} (hc:w.cell? a=some (.int k x)) (hz:w.frozen? a=false):
 (callFunc f #[.pointer (some a),.int k y]).run P w=.ok (.value (.int k x)) (w.setCell a (.int k y)):=by
 rw[run_callFunc_extern hf hname hb hn he]
 change (Sem.run P (do
  let a'←asAddr (.pointer (some a))
  let old←Extern.Atomic.read (.int k) a'
  store a' (.int k y) .atomic
  pure old) w).andThen _=_
 simp[Extern.Atomic.read,asAddr,asInt,asIntOf,hc,hz,run_store P w a (.int k y) .atomic rfl,Result.andThen]
theorem swap_lone(ad:Addr)(x y:Int)(w:World)(h0:w.cell? ad=some (.int .i64 x))(f0:w.frozen? ad=false):
 Calls Try.prog 35 #[.pointer (some ad),.int .i64 y] w λe w'=>e=.returned (.int .i64 x)/\w'=w.setCell ad (.int .i64 y):=by
 have hl:=run_call_swap (P:=Try.prog) Try.func45 (by kernel_rfl) (by kernel_rfl) (by kernel_rfl) .i64 (by kernel_rfl) (y:=y) h0 f0
 go_enter Try.func35,Try.ntmps35
 go_wp2
 go_ret
 exact⟨rfl,rfl⟩
section
variable {M2 S2:Type} {D:Core M2 S2} {ro:Nat->Option Obj} {i:Nat} {cb:Nat} {z:Option Nat} {N:Nat} {m:BM (List Int×M2)} {wc:World}
theorem str_moved(hB:BRep (zqm (zqt cb z N) D) ro m wc)(a x:Int)(τ:Nat->Question->Nat)(d:Nat)(τ':Nat->Question->Nat)(d':Nat):Moved (zqm (zqt cb z N) D) m.l (m.box i) wc (m.l.1.set (idx a N) x,m.l.2) (m.box i) (re ((re wc τ d).setCell (loc cb z N a) (.int .i64 x)) τ' d'):=by
 have hf:=loc_foot cb z N a
 have hS:StrRep cb z N m.l.1 (re wc τ d):=(zqt cb z N).frame _ _ _ hB.core.1 λ_ _=>rfl
 have hset:StrRep cb z N (m.l.1.set (idx a N) x) ((re wc τ d).setCell (loc cb z N a) (.int .i64 x)):=hS.set a x
 refine Moved.left hB ⟨?_,λb hb h1 h2=>?_,(zqt cb z N).frame _ _ _ hset λ_ _=>rfl,λb o hb=>?_,λb hb=>.inl hb,λb hb=>.inl hb,λb hb=>?_,rfl⟩
 · show wc.heap.size<=((re wc τ d).setCell _ _).heap.size
   rw[zqh]
   exact Nat.le_refl _
 · show((re wc τ d).setCell _ _).heap[b]?=_
   rw[zq3 _ _ _ _ (λe=>h1 (by subst e;exact hf))]
   rfl
 · show((re wc τ d).setCell _ _).heap[b]?=_
   have hn:m.box i b≠none:=by rw[hb];simp
   rw[zq3 _ _ _ _ (λe=>hB.apart i b hn (.inl (by subst e;exact hf)))]
   exact hB.box i b o hb
 · exact Classical.byContradiction λx=>hB.apart i b x (.inl hb)
theorem str_at(hB:BRep (zqm (zqt cb z N) D) ro m wc)(τ:Nat->Question->Nat)(d:Nat):StrRep cb z N m.l.1 (re wc τ d):=(zqt cb z N).frame _ _ _ hB.core.1 λ_ _=>rfl
end
def getA(N:Nat)(a:Int)(l:List Int):List Int×Int:=(l,l.getD (idx a N) 0)
def addA(N:Nat)(a v:Int)(l:List Int):List Int×Int:=(l.set (idx a N) (IntKind.i64.wrap (l.getD (idx a N) 0+v)),IntKind.i64.wrap (l.getD (idx a N) 0+v))
def takeA(N:Nat)(a:Int)(l:List Int):List Int×Int:=(l.set (idx a N) 0,l.getD (idx a N) 0)
def onL{S1 S2 α:Type}(f:S1->S1×α):Proc (S1×S2) α:=Proc.act λs=>(((f s.1).1,s.2),(f s.1).2)
section
variable {M2 S2 β:Type} {D:Core M2 S2} {ro:Nat->Option Obj} {i:Nat} {cb:Nat} {z:Option Nat} {N:Nat}
structure StrAtoms(Y:YSys Try.prog aM (zqm (zqt cb z N) D) ro i β)(sv:Value):Prop where
 pos:0<N
 le:N<=64
 head:∀B wc,Y.KnB B wc->HeadAt cb z N wc
 step:StepY Y 33 #[sv]
 load:∀a,SpecY Y 32 #[.pointer (some (loc cb z N a))] (onL (getA N a)) (λx=>.int .i64 x)
 add:∀a v,SpecY Y 34 #[.pointer (some (loc cb z N a)),.int .i64 v] (onL (addA N a v)) (λx=>.int .i64 x)
 swap:∀a,SpecY Y 35 #[.pointer (some (loc cb z N a)),.int .i64 0] (onL (takeA N a)) (λx=>.int .i64 x)
theorem atoms_of_alone(Z:Alone Try.prog aM (zqm (zqt cb z N) D) ro i β){I:List Int×S2->Prop}(hI:∀l l' s,I (l,s)->I (l',s))(hO:∀l l' s,Z.Oth (l,s) (l',s)){sv:Value}(hp:0<N)(hl:N<=64)(hs:StepY (Z.sys I) 33 #[sv]):StrAtoms (Z.sys I) sv where
 pos:=hp
 le:=hl
 head B wc:=by
  rintro⟨m,_,h⟩
  have h':BRep (zqm (zqt cb z N) D) ro m wc:=h
  exact h'.core.1.head
 step:=hs
 load a:=by
  refine Z.act Try.func32 rfl (by kernel_rfl) (λs h=>h) (λs=>Z.oth s) λm wc hB=>Calls.mono (load_lone _ _ wc ((str_at hB wc.tape wc.drawn).cell a)) ?_
  rintro e w' ⟨rfl,rfl⟩
  exact⟨m.l,Moved.ext hB (Ext.refl _),rfl,rfl⟩
 add a v:=by
  refine Z.act Try.func34 rfl (by kernel_rfl) (λs h=>hI _ _ _ h) (λs=>hO _ _ _) λm wc hB=>Calls.mono (add_lone _ _ v wc ((str_at hB wc.tape wc.drawn).cell a) ((str_at hB wc.tape wc.drawn).frozen a)) ?_
  rintro e w' ⟨rfl,rfl⟩
  exact⟨_,str_moved hB a _ wc.tape wc.drawn _ _,rfl,rfl⟩
 swap a:=by
  refine Z.act Try.func35 rfl (by kernel_rfl) (λs h=>hI _ _ _ h) (λs=>hO _ _ _) λm wc hB=>Calls.mono (swap_lone _ _ 0 wc ((str_at hB wc.tape wc.drawn).cell a) ((str_at hB wc.tape wc.drawn).frozen a)) ?_
  rintro e w' ⟨rfl,rfl⟩
  exact⟨_,str_moved hB a _ wc.tape wc.drawn _ _,rfl,rfl⟩
theorem StrAtoms.stripe {Y:YSys Try.prog aM (zqm (zqt cb z N) D) ro i β}{sv:Value}(h:StrAtoms Y sv)(a:Int):PureY Y 31 #[.pointer (some ⟨cb,0,none⟩),.int .i64 a] (.pointer (some (loc cb z N a))):=by
 refine PureY.of Try.func31 rfl (by kernel_rfl) λB wc hB=>Calls.mono (stripe_lone (h.head B wc hB) a) ?_
 rintro e w' ⟨rfl,τ,d,rfl⟩
 exact⟨Ext1.re _ _ _,rfl⟩
end
set_option maxHeartbeats 400000
set_option maxRecDepth 100000
def addP{S2:Type}(N:Nat)(a v:Int):Proc (List Int×S2) Int:=Proc.tick.bind λ_=>onL (addA N a v)
section
variable {M2 S2 β:Type} {D:Core M2 S2} {ro:Nat->Option Obj} {i:Nat} {cb:Nat} {z:Option Nat} {N:Nat}
theorem add_spec(Y:YSys Try.prog aM (zqm (zqt cb z N) D) ro i β){sv:Value}(hst:StrAtoms Y sv)(a v:Int):
 SpecB Y 21 #[.pointer (some ⟨cb,0,none⟩),sv,.int .i64 a,.int .i64 v] (addP N a v) (λx=>.int .i64 x):=by
 refine SpecB.of Try.func21 rfl ?_
 intro K s B w hK hA
 simp only[zqr,Try.ntmps21,List.size_toArray,List.length_cons,List.length_nil,Nat.reduceAdd,Nat.reduceSub,Array.replicate_succ,Array.replicate_zero,List.push_toArray,List.append_toArray,List.nil_append,List.cons_append]
 apply YSys.seq0 hA (by kernel_rfl)
 · intro wc hB
   go_wp2
   exact⟨rfl,Ext1.refl _,rfl⟩
 intro w hA
 apply YSys.seq0 hA (by kernel_rfl)
 · intro wc hB
   go_wp2
   exact⟨rfl,Ext1.refl _,rfl⟩
 intro w hA
 refine zqx Y.jc (zq19 Y.jc ?_)
 rw[addP,Proc.bind_bind]at hA
 apply YSys.callS 0 1 0 hA hst.step rfl rfl rfl (by rfl) rfl rfl rfl
 · intro wc hB X hX
   have HX:=Lib.hid hX
   clear hX
   go_wp2
   exact HX.out _ (Ext1.refl _)
 · intro w
   simp[go_sem,execOp,Act.eval,resolve,Deferred.ofValue,invoke,callFunc,Try.func33,Try.f33]
 · intro w
   simp[go_sem,execOp,Act.eval,resolve,Deferred.ofValue,invoke,callFunc,Try.func33,Try.f33]
 · intro s' ch w' h
   exact⟨rfl,h⟩
 intro s w hA
 refine opsC_nil Y.jc ?_
 show wpJ Y.J _ _ _ _ _
 refine zqx Y.jc (zq19 Y.jc ?_)
 apply YSys.callP 0 2 3 hA (hst.stripe a) rfl rfl rfl (by rfl) rfl rfl rfl
 · intro wc hB X hX
   have HX:=Lib.hid hX
   clear hX
   go_wp2
   exact HX.out _ (Ext1.refl _)
 · intro w
   simp[go_sem,execOp,Act.eval,resolve,Deferred.ofValue,invoke,callFunc,Try.func31,Try.f31]
 · intro w
   simp[go_sem,execOp,Act.eval,resolve,Deferred.ofValue,invoke,callFunc,Try.func31,Try.f31]
 intro w hA
 apply YSys.callR 3 1 1 hA (hst.add a v) (λ_=>hK _) rfl rfl rfl (by rfl) rfl rfl rfl
 · intro wc hB X hX
   have HX:=Lib.hid hX
   clear hX
   go_wp2
   exact HX.out _ (Ext1.refl _)
 · intro w
   simp[go_sem,execOp,Act.eval,resolve,Deferred.ofValue,invoke,callFunc,Try.func34,Try.f34]
 · intro w
   simp[go_sem,execOp,Act.eval,resolve,Deferred.ofValue,invoke,callFunc,Try.func34,Try.f34]
 · intro s' ch w' h
   exact⟨rfl,h⟩
 intro s x w hA
 apply YSys.ops0 5 1 hA rfl rfl (by kernel_rfl)
 · intro wc hB
   go_wp2
   exact⟨rfl,Ext1.refl _,rfl⟩
 intro w hA
 show wpJ Y.J _ _ _ _ _
 refine wpY_ret Y.jc ?_
 exact⟨rfl,.inl ⟨_,resultsC_tmp rfl _,_,rfl,hA⟩⟩
end
def foldP{S2:Type}(g:Nat->Int->List Int->List Int×Int)(N:Nat):Nat->Nat->Int->Proc (List Int×S2) Int
 |0,_,acc=>Proc.ret acc
 |n+1,k,acc=>(Proc.tick.bind λ_=>onL (g N k)).bind λx=>foldP g N n (k+1) (wrap64 (acc+x))
def sumP{S2:Type}(N:Nat):Proc (List Int×S2) Int:=foldP getA N N 0 0
def takeP{S2:Type}(N:Nat):Proc (List Int×S2) Int:=foldP takeA N N 0 0
section
variable {M2 S2 β:Type} {D:Core M2 S2} {ro:Nat->Option Obj} {i:Nat} {cb:Nat} {z:Option Nat} {N:Nat}
theorem foldP_sil(Y:YSys Try.prog aM (zqm (zqt cb z N) D) ro i β){g:Nat->Int->List Int->List Int×Int}{K:Int->Proc (List Int×S2) β}(hK:∀a,Y.sil (K a))(n k:Nat)(acc:Int):Y.sil ((foldP g N n k acc).bind K):=by
 cases n with
 |zero=>exact hK acc
 |succ n=>rw[foldP,Proc.bind_bind,Proc.bind_bind];exact Y.sil_tick _
theorem sum_spec(Y:YSys Try.prog aM (zqm (zqt cb z N) D) ro i β){sv:Value}(hst:StrAtoms Y sv):
 SpecB Y 22 #[.pointer (some ⟨cb,0,none⟩),sv] (sumP N) (λx=>.int .i64 x):=by
 have hp:=hst.pos
 have hle:=hst.le
 refine SpecB.of Try.func22 rfl ?_
 intro K s B w hK hA
 simp only[zqr,Try.ntmps22,List.size_toArray,List.length_cons,List.length_nil,Nat.reduceAdd,Nat.reduceSub,Array.replicate_succ,Array.replicate_zero,List.push_toArray,List.append_toArray,List.nil_append,List.cons_append]
 apply YSys.seq0 hA (by kernel_rfl)
 · intro wc hB
   go_wp2
   exact⟨rfl,Ext1.refl _,rfl⟩
 intro w hA
 apply YSys.seq0 hA (by kernel_rfl)
 · intro wc hB
   go_wp2
   exact⟨rfl,Ext1.refl _,rfl⟩
 intro w hA
 refine zqx Y.jc ?_
 apply YSys.seq0 hA (by kernel_rfl)
 · intro wc hB
   go_wp2_with (fail)
   refine Calls.mono (stripes_lone (hst.head _ _ hB)) ?_
   rintro e w' ⟨rfl,rfl⟩
   go_wp2
   exact⟨rfl,Ext1.refl _,rfl⟩
 intro w hA
 refine wpY_block Y.jc (wpY_loop Y.jc (λs a w n=>∃(k:Nat)(acc:Int)(x2 x3 x6 x10 x11 x12 x13 x14 x15 x16 x17 x18 x19 x20 x21:Value),k+n=N/\a=⟨#[.pointer (some ⟨cb,0,none⟩),sv,x2,x3,.int .i64 0,.int .i64 acc,x6,.pointer (some ⟨cb,0,none⟩),.int .i64 N,.int .i64 k,x10,x11,x12,x13,x14,x15,x16,x17,x18,x19,x20,x21],[]⟩/\Y.AtB B s w ((foldP getA N n k acc).bind K)) N ?_ ?_)
 · exact⟨0,0,_,_,_,_,_,_,_,_,_,_,_,_,_,_,_,by omega,rfl,hA⟩
 rintro s a w n ⟨k,acc,x2,x3,x6,x10,x11,x12,x13,x14,x15,x16,x17,x18,x19,x20,x21,hkn,rfl,hA⟩
 have HK:=Lib.hid hkn
 clear hkn
 cases n with
 |zero=>
  apply YSys.seq0 hA (by kernel_rfl)
  · intro wc hB
    go_wp2
    exact⟨rfl,Ext1.refl _,rfl⟩
  intro w hA
  refine zqx Y.jc (zq1a Y.jc rfl ?_)
  rw[if_neg (by have:=HK.out;simp only[decide_eq_true_eq];omega)]
  refine wpY_exit Y.jc ?_
  show wpJ Y.J _ _ _ _ _
  apply YSys.seq0 hA (by kernel_rfl)
  · intro wc hB
    go_wp2
    exact⟨rfl,Ext1.refl _,rfl⟩
  intro w hA
  refine wpY_ret Y.jc ?_
  exact⟨rfl,.inl ⟨_,resultsC_tmp rfl _,_,rfl,hA⟩⟩
 |succ n=>
  have hk:(k:Int)<(N:Int):=by have:=HK.out;omega
  have e1:IntKind.i64.wrap ((k:Int)+1)=((k+1:Nat):Int):=by rw[IntWalk.i64_in _ (by omega)];omega
  apply YSys.seq0 hA (by kernel_rfl)
  · intro wc hB
    go_wp2
    exact⟨rfl,Ext1.refl _,rfl⟩
  intro w hA
  refine zqx Y.jc (zq1a Y.jc rfl (wpY_skip Y.jc ?_))
  show wpJ Y.J _ _ _ _ _
  refine zqx Y.jc (wpY_block Y.jc ?_)
  apply YSys.seq0 hA (by kernel_rfl)
  · intro wc hB
    go_wp2
    exact⟨rfl,Ext1.refl _,rfl⟩
  intro w hA
  refine zqx Y.jc (zq19 Y.jc ?_)
  rw[foldP,Proc.bind_bind,Proc.bind_bind]at hA
  apply YSys.callS 0 1 0 hA hst.step rfl rfl rfl (by rfl) rfl rfl rfl
  · intro wc hB X hX
    have HX:=Lib.hid hX
    clear hX
    go_wp2
    exact HX.out _ (Ext1.refl _)
  · intro w
    simp[go_sem,execOp,Act.eval,resolve,Deferred.ofValue,invoke,callFunc,Try.func33,Try.f33]
  · intro w
    simp[go_sem,execOp,Act.eval,resolve,Deferred.ofValue,invoke,callFunc,Try.func33,Try.f33]
  · intro s' ch w' h
    exact⟨rfl,h⟩
  intro s w hA
  refine opsC_nil Y.jc ?_
  show wpJ Y.J _ _ _ _ _
  refine zq19 Y.jc ?_
  apply YSys.callP 0 3 3 hA (hst.stripe (k:Int)) rfl rfl rfl (by rfl) rfl rfl rfl
  · intro wc hB X hX
    have HX:=Lib.hid hX
    clear hX
    go_wp2
    exact HX.out _ (Ext1.refl _)
  · intro w
    simp[go_sem,execOp,Act.eval,resolve,Deferred.ofValue,invoke,callFunc,Try.func31,Try.f31]
  · intro w
    simp[go_sem,execOp,Act.eval,resolve,Deferred.ofValue,invoke,callFunc,Try.func31,Try.f31]
  intro w hA
  apply YSys.callR 4 0 2 hA (hst.load (k:Int)) (λx=>foldP_sil Y hK n _ _) rfl rfl rfl (by rfl) rfl rfl rfl
  · intro wc hB X hX
    have HX:=Lib.hid hX
    clear hX
    go_wp2
    exact HX.out _ (Ext1.refl _)
  · intro w
    simp[go_sem,execOp,Act.eval,resolve,Deferred.ofValue,invoke,callFunc,Try.func32,Try.f32]
  · intro w
    simp[go_sem,execOp,Act.eval,resolve,Deferred.ofValue,invoke,callFunc,Try.func32,Try.f32]
  · intro s' ch w' h
    exact⟨rfl,h⟩
  intro s x w hA
  apply YSys.ops0 5 2 hA rfl rfl (by kernel_rfl)
  · intro wc hB
    go_wp2
    exact⟨rfl,Ext1.refl _,rfl⟩
  intro w hA
  show wpJ Y.J _ _ _ _ _
  apply YSys.code0 hA (by kernel_rfl)
  · intro wc hB
    go_wp2
    exact⟨rfl,Ext1.refl _,rfl⟩
  intro w hA
  exact⟨n,by omega,k+1,_,_,_,_,_,_,_,_,_,_,_,_,_,_,_,_,by have:=HK.out;omega,rfl,hA⟩
theorem take_spec(Y:YSys Try.prog aM (zqm (zqt cb z N) D) ro i β){sv:Value}(hst:StrAtoms Y sv):
 SpecB Y 23 #[.pointer (some ⟨cb,0,none⟩),sv] (takeP N) (λx=>.int .i64 x):=by
 have hp:=hst.pos
 have hle:=hst.le
 refine SpecB.of Try.func23 rfl ?_
 intro K s B w hK hA
 simp only[zqr,Try.ntmps23,List.size_toArray,List.length_cons,List.length_nil,Nat.reduceAdd,Nat.reduceSub,Array.replicate_succ,Array.replicate_zero,List.push_toArray,List.append_toArray,List.nil_append,List.cons_append]
 apply YSys.seq0 hA (by kernel_rfl)
 · intro wc hB
   go_wp2
   exact⟨rfl,Ext1.refl _,rfl⟩
 intro w hA
 apply YSys.seq0 hA (by kernel_rfl)
 · intro wc hB
   go_wp2
   exact⟨rfl,Ext1.refl _,rfl⟩
 intro w hA
 refine zqx Y.jc ?_
 apply YSys.seq0 hA (by kernel_rfl)
 · intro wc hB
   go_wp2_with (fail)
   refine Calls.mono (stripes_lone (hst.head _ _ hB)) ?_
   rintro e w' ⟨rfl,rfl⟩
   go_wp2
   exact⟨rfl,Ext1.refl _,rfl⟩
 intro w hA
 refine wpY_block Y.jc (wpY_loop Y.jc (λs a w n=>∃(k:Nat)(acc:Int)(x2 x3 x6 x10 x11 x12 x13 x14 x15 x16 x17 x18 x19 x20 x21:Value),k+n=N/\a=⟨#[.pointer (some ⟨cb,0,none⟩),sv,x2,x3,.int .i64 0,.int .i64 acc,x6,.pointer (some ⟨cb,0,none⟩),.int .i64 N,.int .i64 k,x10,x11,x12,x13,x14,x15,x16,x17,x18,x19,x20,x21],[]⟩/\Y.AtB B s w ((foldP takeA N n k acc).bind K)) N ?_ ?_)
 · exact⟨0,0,_,_,_,_,_,_,_,_,_,_,_,_,_,_,_,by omega,rfl,hA⟩
 rintro s a w n ⟨k,acc,x2,x3,x6,x10,x11,x12,x13,x14,x15,x16,x17,x18,x19,x20,x21,hkn,rfl,hA⟩
 have HK:=Lib.hid hkn
 clear hkn
 cases n with
 |zero=>
  apply YSys.seq0 hA (by kernel_rfl)
  · intro wc hB
    go_wp2
    exact⟨rfl,Ext1.refl _,rfl⟩
  intro w hA
  refine zqx Y.jc (zq1a Y.jc rfl ?_)
  rw[if_neg (by have:=HK.out;simp only[decide_eq_true_eq];omega)]
  refine wpY_exit Y.jc ?_
  show wpJ Y.J _ _ _ _ _
  apply YSys.seq0 hA (by kernel_rfl)
  · intro wc hB
    go_wp2
    exact⟨rfl,Ext1.refl _,rfl⟩
  intro w hA
  refine wpY_ret Y.jc ?_
  exact⟨rfl,.inl ⟨_,resultsC_tmp rfl _,_,rfl,hA⟩⟩
 |succ n=>
  have hk:(k:Int)<(N:Int):=by have:=HK.out;omega
  have e1:IntKind.i64.wrap ((k:Int)+1)=((k+1:Nat):Int):=by rw[IntWalk.i64_in _ (by omega)];omega
  apply YSys.seq0 hA (by kernel_rfl)
  · intro wc hB
    go_wp2
    exact⟨rfl,Ext1.refl _,rfl⟩
  intro w hA
  refine zqx Y.jc (zq1a Y.jc rfl (wpY_skip Y.jc ?_))
  show wpJ Y.J _ _ _ _ _
  refine zqx Y.jc (wpY_block Y.jc ?_)
  apply YSys.seq0 hA (by kernel_rfl)
  · intro wc hB
    go_wp2
    exact⟨rfl,Ext1.refl _,rfl⟩
  intro w hA
  refine zqx Y.jc (zq19 Y.jc ?_)
  rw[foldP,Proc.bind_bind,Proc.bind_bind]at hA
  apply YSys.callS 0 1 0 hA hst.step rfl rfl rfl (by rfl) rfl rfl rfl
  · intro wc hB X hX
    have HX:=Lib.hid hX
    clear hX
    go_wp2
    exact HX.out _ (Ext1.refl _)
  · intro w
    simp[go_sem,execOp,Act.eval,resolve,Deferred.ofValue,invoke,callFunc,Try.func33,Try.f33]
  · intro w
    simp[go_sem,execOp,Act.eval,resolve,Deferred.ofValue,invoke,callFunc,Try.func33,Try.f33]
  · intro s' ch w' h
    exact⟨rfl,h⟩
  intro s w hA
  refine opsC_nil Y.jc ?_
  show wpJ Y.J _ _ _ _ _
  refine zq19 Y.jc ?_
  apply YSys.callP 0 3 3 hA (hst.stripe (k:Int)) rfl rfl rfl (by rfl) rfl rfl rfl
  · intro wc hB X hX
    have HX:=Lib.hid hX
    clear hX
    go_wp2
    exact HX.out _ (Ext1.refl _)
  · intro w
    simp[go_sem,execOp,Act.eval,resolve,Deferred.ofValue,invoke,callFunc,Try.func31,Try.f31]
  · intro w
    simp[go_sem,execOp,Act.eval,resolve,Deferred.ofValue,invoke,callFunc,Try.func31,Try.f31]
  intro w hA
  apply YSys.callR 4 0 2 hA (hst.swap (k:Int)) (λx=>foldP_sil Y hK n _ _) rfl rfl rfl (by rfl) rfl rfl rfl
  · intro wc hB X hX
    have HX:=Lib.hid hX
    clear hX
    go_wp2
    exact HX.out _ (Ext1.refl _)
  · intro w
    simp[go_sem,execOp,Act.eval,resolve,Deferred.ofValue,invoke,callFunc,Try.func35,Try.f35]
  · intro w
    simp[go_sem,execOp,Act.eval,resolve,Deferred.ofValue,invoke,callFunc,Try.func35,Try.f35]
  · intro s' ch w' h
    exact⟨rfl,h⟩
  intro s x w hA
  apply YSys.ops0 5 2 hA rfl rfl (by kernel_rfl)
  · intro wc hB
    go_wp2
    exact⟨rfl,Ext1.refl _,rfl⟩
  intro w hA
  show wpJ Y.J _ _ _ _ _
  apply YSys.code0 hA (by kernel_rfl)
  · intro wc hB
    go_wp2
    exact⟨rfl,Ext1.refl _,rfl⟩
  intro w hA
  exact⟨n,by omega,k+1,_,_,_,_,_,_,_,_,_,_,_,_,_,_,_,_,by have:=HK.out;omega,rfl,hA⟩
end
set_option maxHeartbeats 4000000
set_option maxRecDepth 100000
def evenB{S2:Type}(N:Nat)(seen:List Int):Nat->Nat->Int->Proc (List Int×S2) (Int×Bool)
 |0,_,acc=>Proc.ret (acc,true)
 |n+1,k,acc=>(Proc.tick.bind λ_=>onL (getA N k)).bind λx=>if x=seen.getD k 0 then evenB N seen n (k+1) acc else Proc.ret (0,false)
def evenA{S2:Type}(N:Nat):Nat->Nat->List Int->Int->Proc (List Int×S2) (Int×Bool)
 |0,k,seen,acc=>evenB N seen k 0 acc
 |n+1,k,seen,acc=>(Proc.tick.bind λ_=>onL (getA N k)).bind λx=>evenA N n (k+1) (seen++[x]) (wrap64 (acc+x))
def evenP{S2:Type}(N:Nat):Proc (List Int×S2) (Int×Bool):=evenA N N 0 [] 0
def evenV(x:Int×Bool):Value:=.tuple #[.int .i64 x.1,.bool x.2]
section
variable {M2 S2 β:Type} {D:Core M2 S2} {ro:Nat->Option Obj} {i:Nat} {cb:Nat} {z:Option Nat} {N:Nat}
theorem evenB_sil(Y:YSys Try.prog aM (zqm (zqt cb z N) D) ro i β){K:Int×Bool->Proc (List Int×S2) β}(hK:∀a,Y.sil (K a))(seen:List Int)(n k:Nat)(acc:Int):Y.sil ((evenB N seen n k acc).bind K):=by
 cases n with
 |zero=>exact hK _
 |succ n=>rw[evenB,Proc.bind_bind,Proc.bind_bind];exact Y.sil_tick _
theorem evenA_sil(Y:YSys Try.prog aM (zqm (zqt cb z N) D) ro i β){K:Int×Bool->Proc (List Int×S2) β}(hK:∀a,Y.sil (K a))(n k:Nat)(seen:List Int)(acc:Int):Y.sil ((evenA N n k seen acc).bind K):=by
 cases n with
 |zero=>exact evenB_sil Y hK _ _ _ _
 |succ n=>rw[evenA,Proc.bind_bind,Proc.bind_bind];exact Y.sil_tick _
theorem even_spec(Y:YSys Try.prog aM (zqm (zqt cb z N) D) ro i β){sv:Value}(hst:StrAtoms Y sv):
 SpecB Y 20 #[.pointer (some ⟨cb,0,none⟩),sv] (evenP N) evenV:=by
 have hp:=Lib.hid hst.pos
 have hle:=Lib.hid hst.le
 refine SpecB.of Try.func20 rfl ?_
 intro K s B w hK hA
 simp only[zqr,Try.ntmps20,List.size_toArray,List.length_cons,List.length_nil,Nat.reduceAdd,Nat.reduceSub,Array.replicate_succ,Array.replicate_zero,List.push_toArray,List.append_toArray,List.nil_append,List.cons_append]
 have HKK:=Lib.hid hK
 clear hK
 apply YSys.seq0 hA (by kernel_rfl)
 · intro wc hB
   go_wp2
   exact⟨rfl,Ext1.refl _,rfl⟩
 intro w hA
 apply YSys.seq0 hA (by kernel_rfl)
 · intro wc hB
   go_wp2
   exact⟨rfl,Ext1.refl _,rfl⟩
 intro w hA
 apply YSys.seq0 hA (by kernel_rfl)
 · intro wc hB
   go_wp2
   exact⟨rfl,Ext1.refl _,rfl⟩
 intro w hA
 apply YSys.seq0 hA (by kernel_rfl)
 · intro wc hB
   go_wp2
   exact⟨rfl,Ext1.refl _,rfl⟩
 intro w hA
 refine zqx Y.jc ?_
 apply YSys.seq0 hA (by kernel_rfl)
 · intro wc hB
   go_wp2_with (fail)
   refine Calls.mono (stripes_lone (hst.head _ _ hB)) ?_
   rintro e w' ⟨rfl,rfl⟩
   go_wp2
   exact⟨rfl,Ext1.refl _,rfl⟩
 intro w hA
 refine wpY_block Y.jc (wpY_loop Y.jc (λs a w n=>∃(k:Nat)(acc:Int)(seen:List Int)(vs:Value)(X:Nat->Option Obj)(x2 x3 x8 x9 x10 x11 x12 x13 x14 x17 x18 x19 x20 x21 x22 x23 x24 x25 x26 x27 x28 x29 x30 x31 x32 x33 x34 x35 x36 x37 x38 x39 x40 x41 x42 x43 x44 x45 x46 x47 x48 x49:Value),k+n=N/\seen.length=k/\RowB X 2 1 vs k (seen.map (Value.int .i64))/\(∀b,X b≠none->B b=none)/\a=⟨#[.pointer (some ⟨cb,0,none⟩),sv,x2,x3,.int .i64 0,.bool false,vs,.int .i64 acc,x8,x9,x10,x11,x12,x13,x14,.int .i64 N,.int .i64 k,x17,x18,x19,x20,x21,x22,x23,x24,x25,x26,x27,x28,x29,x30,x31,x32,x33,x34,x35,x36,x37,x38,x39,x40,x41,x42,x43,x44,x45,x46,x47,x48,x49],[]⟩/\Y.AtB (orB X B) s w ((evenA N n k seen acc).bind K)) N ?_ ?_)
 · exact⟨0,0,[],_,_,_,_,_,_,_,_,_,_,_,_,_,_,_,_,_,_,_,_,_,_,_,_,_,_,_,_,_,_,_,_,_,_,_,_,_,_,_,_,_,_,_,_,by omega,rfl,RowB.nil 2 1,λb hb=>absurd rfl hb,rfl,hA⟩
 clear hA
 rintro s a w n ⟨k,acc,seen,vs,X,x2,x3,x8,x9,x10,x11,x12,x13,x14,x17,x18,x19,x20,x21,x22,x23,x24,x25,x26,x27,x28,x29,x30,x31,x32,x33,x34,x35,x36,x37,x38,x39,x40,x41,x42,x43,x44,x45,x46,x47,x48,x49,hkn,hsl,hrow,hap,rfl,hA⟩
 have HK:=Lib.hid hkn
 have HL:=Lib.hid hsl
 have HR:=Lib.hid hrow
 have HP:=Lib.hid hap
 clear hkn hsl hrow hap
 cases n with
 |succ n=>
  have hk:(k:Int)<(N:Int):=by have:=HK.out;omega
  have e1:IntKind.i64.wrap ((k:Int)+1)=((k+1:Nat):Int):=by have:=hle.out;rw[IntWalk.i64_in _ (by omega)];omega
  apply YSys.seq0 hA (by kernel_rfl)
  · intro wc hB
    go_wp2
    exact⟨rfl,Ext1.refl _,rfl⟩
  intro w hA
  refine zqx Y.jc (zq1a Y.jc rfl (wpY_skip Y.jc ?_))
  show wpJ Y.J _ _ _ _ _
  refine zqx Y.jc (wpY_block Y.jc ?_)
  apply YSys.seq0 hA (by kernel_rfl)
  · intro wc hB
    go_wp2
    exact⟨rfl,Ext1.refl _,rfl⟩
  intro w hA
  refine zqx Y.jc (zq19 Y.jc ?_)
  rw[evenA,Proc.bind_bind,Proc.bind_bind]at hA
  apply YSys.callS 0 1 0 hA hst.step rfl rfl rfl (by rfl) rfl rfl rfl
  · intro wc hB X hX
    have HX:=Lib.hid hX
    clear hX
    go_wp2
    exact HX.out _ (Ext1.refl _)
  · intro w
    simp[go_sem,execOp,Act.eval,resolve,Deferred.ofValue,invoke,callFunc,Try.func33,Try.f33]
  · intro w
    simp[go_sem,execOp,Act.eval,resolve,Deferred.ofValue,invoke,callFunc,Try.func33,Try.f33]
  · intro s' ch w' h
    exact⟨rfl,h⟩
  intro s w hA
  refine opsC_nil Y.jc ?_
  show wpJ Y.J _ _ _ _ _
  refine zqx Y.jc (zq19 Y.jc ?_)
  apply YSys.callP 0 2 2 hA (hst.stripe (k:Int)) rfl rfl rfl (by rfl) rfl rfl rfl
  · intro wc hB X hX
    have HX:=Lib.hid hX
    clear hX
    go_wp2
    exact HX.out _ (Ext1.refl _)
  · intro w
    simp[go_sem,execOp,Act.eval,resolve,Deferred.ofValue,invoke,callFunc,Try.func31,Try.f31]
  · intro w
    simp[go_sem,execOp,Act.eval,resolve,Deferred.ofValue,invoke,callFunc,Try.func31,Try.f31]
  intro w hA
  apply YSys.callR 3 0 1 hA (hst.load (k:Int)) (λx=>evenA_sil Y HKK.out n _ _ _) rfl rfl rfl (by rfl) rfl rfl rfl
  · intro wc hB X hX
    have HX:=Lib.hid hX
    clear hX
    go_wp2
    exact HX.out _ (Ext1.refl _)
  · intro w
    simp[go_sem,execOp,Act.eval,resolve,Deferred.ofValue,invoke,callFunc,Try.func32,Try.f32]
  · intro w
    simp[go_sem,execOp,Act.eval,resolve,Deferred.ofValue,invoke,callFunc,Try.func32,Try.f32]
  · intro s' ch w' h
    exact⟨rfl,h⟩
  intro s x w hA
  apply YSys.ops0 4 1 hA rfl rfl (by kernel_rfl)
  · intro wc hB
    go_wp2
    exact⟨rfl,Ext1.refl _,rfl⟩
  intro w hA
  show wpJ Y.J _ _ _ _ _
  refine zqx Y.jc (zq19 Y.jc ?_)
  refine YSys.preX 0 3 2 (λt B'=>∃(g:Nat)(y2 y3 y8 y10 y11 y12 y13 y14 y17 y18 y19 y20 y21 y22 y23 y24 y26 y28 y29 y30 y31 y32 y33 y34 y35 y36 y37 y38 y39 y40 y41 y42 y43 y44 y45 y46 y47 y48 y49:Value),t=#[.pointer (some ⟨cb,0,none⟩),sv,y2,y3,.int .i64 0,.bool false,vs,.int .i64 acc,y8,.int .i64 x,y10,y11,y12,y13,y14,.int .i64 N,.int .i64 k,y17,y18,y19,y20,y21,y22,y23,y24,vs,y26,.slice (some ⟨g,0,none⟩) 1 1,y28,y29,y30,y31,y32,y33,y34,y35,y36,y37,y38,y39,y40,y41,y42,y43,y44,y45,y46,y47,y48,y49]/\orB X B g=none/\B'=upB (orB X B) g (.cells [Value.int .i64 x].toArray 2)) hA rfl rfl rfl rfl ?_ ?_
  · intro wc hB X0 hX0
    have HX0:=Lib.hid hX0
    clear hX0
    have hm:=OMoved.push (o:=.cells [Value.int .i64 x].toArray 2) hB.own (Ext1.alloc wc (.cells [Value.int .i64 x].toArray 2)) (Nat.le_refl _) (by rw[zq8];simp)
    have hf:=hB.own.fresh (Nat.le_refl _)
    have HM:=Lib.hid (And.intro hm hf)
    clear hm hf
    go_wp2
    exact HX0.out _ _ _ HM.out.1 ⟨_,_,_,_,_,_,_,_,_,_,_,_,_,_,_,_,_,_,_,_,_,_,_,_,_,_,_,_,_,_,_,_,_,_,_,_,_,_,_,_,rfl,HM.out.2,rfl⟩
  rintro _ _ w ⟨g,y2,y3,y8,y10,y11,y12,y13,y14,y17,y18,y19,y20,y21,y22,y23,y24,y26,y28,y29,y30,y31,y32,y33,y34,y35,y36,y37,y38,y39,y40,y41,y42,y43,y44,y45,y46,y47,y48,y49,rfl,hg,rfl⟩ hA
  have HG:=Lib.hid hg
  clear hg
  refine YSys.opsX 3 2 (λt B'=>∃(g cap:Nat)(X':Nat->Option Obj)(z2 z3 z8 z10 z11 z12 z13 z14 z17 z18 z19 z20 z21 z22 z23 z24 z25 z26 z27 z28 z29 z30 z31 z32 z33 z34 z35 z36 z37 z38 z39 z40 z41 z42 z43 z44 z45 z46 z47 z48 z49:Value),t=#[.pointer (some ⟨cb,0,none⟩),sv,z2,z3,.int .i64 0,.bool false,.slice (some ⟨g,0,none⟩) (k+1) cap,.int .i64 acc,z8,.int .i64 x,z10,z11,z12,z13,z14,.int .i64 N,.int .i64 k,z17,z18,z19,z20,z21,z22,z23,z24,z25,z26,z27,z28,z29,z30,z31,z32,z33,z34,z35,z36,z37,z38,z39,z40,z41,z42,z43,z44,z45,z46,z47,z48,z49]/\RowB X' 2 1 (.slice (some ⟨g,0,none⟩) (k+1) cap) (k+1) ((seen++[x]).map (Value.int .i64))/\(∀b,X' b≠none->B b=none)/\B'=orB X' B) hA rfl rfl (by kernel_rfl) ?_ ?_
  · intro wc hB X0 hX0
    have HX0:=Lib.hid hX0
    clear hX0
    obtain⟨ti,hti,hz0,hz1,hz2⟩:∃ti,Try.prog.info? 2=some ti/\ti.zero=some (.int .i64 0)/\ti.size=1/\ti.bytes=8:=⟨_,rfl,rfl,rfl,rfl⟩
    obtain⟨g',cap,w5,hrun,X',k1,k2,k3⟩:=row_append (P:=Try.prog) 22 22 ti (.int .i64 0) 1 8 (by kernel_rfl) hti hz0 hz1 hz2 (by rfl) (by decide) rfl (by simp[Value.oneCell']) hB.own HG.out HP.out HR.out (by have:=hle.out;simp only[maxLen];omega) (by have:=hle.out;omega)
    have HX:=Lib.hid (And.intro k1 (And.intro k2 k3))
    clear k1 k2 k3
    refine wpList_appends rfl (.tmp 25) (.tmp 27) 22 rfl hrun ?_
    go_wp2
    exact⟨rfl,HX0.out _ _ _ HX.out.2.2 ⟨g',cap,X',_,_,_,_,_,_,_,_,_,_,_,_,_,_,_,_,_,_,_,_,_,_,_,_,_,_,_,_,_,_,_,_,_,_,_,_,_,_,_,_,_,rfl,by simpa using HX.out.1,HX.out.2.1,rfl⟩⟩
  rintro _ _ w ⟨g1,cap,X',z2,z3,z8,z10,z11,z12,z13,z14,z17,z18,z19,z20,z21,z22,z23,z24,z25,z26,z27,z28,z29,z30,z31,z32,z33,z34,z35,z36,z37,z38,z39,z40,z41,z42,z43,z44,z45,z46,z47,z48,z49,rfl,hrow',hap',rfl⟩ hA
  have HR':=Lib.hid hrow'
  have HP':=Lib.hid hap'
  clear hrow' hap'
  show wpJ Y.J _ _ _ _ _
  apply YSys.code0 hA (by kernel_rfl)
  · intro wc hB
    go_wp2
    exact⟨rfl,Ext1.refl _,rfl⟩
  intro w hA
  show wpJ Y.J _ _ _ _ _
  apply YSys.code0 hA (by kernel_rfl)
  · intro wc hB
    go_wp2
    exact⟨rfl,Ext1.refl _,rfl⟩
  intro w hA
  exact⟨n,by omega,k+1,_,seen++[x],_,X',_,_,_,_,_,_,_,_,_,_,_,_,_,_,_,_,_,_,_,_,_,_,_,_,_,_,_,_,_,_,_,_,_,_,_,_,_,_,_,_,_,_,by have:=HK.out;omega,by have:=HL.out;simp;omega,HR'.out,HP'.out,rfl,hA⟩
 |zero=>
  apply YSys.seq0 hA (by kernel_rfl)
  · intro wc hB
    go_wp2
    exact⟨rfl,Ext1.refl _,rfl⟩
  intro w hA
  refine zqx Y.jc (zq1a Y.jc rfl ?_)
  rw[if_neg (by have:=HK.out;simp only[decide_eq_true_eq];omega)]
  refine wpY_exit Y.jc ?_
  show wpJ Y.J _ _ _ _ _
  obtain rfl:N=k:=by have:=HK.out;omega
  obtain⟨hr1,hr2⟩:=HR.out
  rcases hr2 with⟨_,h0,_⟩|⟨g,cap,cur,rfl,hX,hc1,hc2,hc3,hc4⟩
  · exact absurd h0 (by have:=hp.out;omega)
  have HX:=Lib.hid (And.intro hX hc4)
  clear hX hc4 hr1 hc1 hc2 hc3
  refine zqx Y.jc ?_
  apply YSys.seq0 hA (by kernel_rfl)
  · intro wc hB
    go_wp2
    exact⟨rfl,Ext1.refl _,rfl⟩
  intro w hA
  refine wpY_block Y.jc (wpY_loop Y.jc (λs a w n=>∃(k:Nat)(x2 x3 x6 x8 x9 x10 x11 x12 x13 x14 x15 x16 x17 x18 x19 x20 x21 x22 x23 x24 x25 x26 x27 x28 x29 x30 x31 x32 x36 x37 x38 x39 x40 x41 x42 x43 x44 x45 x46 x47 x48 x49:Value),k+n=N/\a=⟨#[.pointer (some ⟨cb,0,none⟩),sv,x2,x3,.int .i64 0,.bool false,x6,.int .i64 acc,x8,x9,x10,x11,x12,x13,x14,x15,x16,x17,x18,x19,x20,x21,x22,x23,x24,x25,x26,x27,x28,x29,x30,x31,x32,.slice (some ⟨g,0,none⟩) N cap,.int .i64 N,.int .i64 k,x36,x37,x38,x39,x40,x41,x42,x43,x44,x45,x46,x47,x48,x49],[]⟩/\Y.AtB (orB X B) s w ((evenB N seen n k acc).bind K)) N ?_ ?_)
  · exact⟨0,_,_,_,_,_,_,_,_,_,_,_,_,_,_,_,_,_,_,_,_,_,_,_,_,_,_,_,_,_,_,_,_,_,_,_,_,_,_,_,_,_,_,by omega,rfl,hA⟩
  clear hA
  rintro s a w n ⟨k,x2,x3,x6,x8,x9,x10,x11,x12,x13,x14,x15,x16,x17,x18,x19,x20,x21,x22,x23,x24,x25,x26,x27,x28,x29,x30,x31,x32,x36,x37,x38,x39,x40,x41,x42,x43,x44,x45,x46,x47,x48,x49,hkn,rfl,hA⟩
  have HK:=Lib.hid hkn
  clear hkn
  have hdrop:∀b o,B b=some o->orB X B b=some o:=λb o hb=>by
   have hx:X b=none:=Classical.byContradiction λx=>by rw[HP.out b x]at hb;cases hb
   simp[orB,hx,hb]
  have HD:=Lib.hid hdrop
  clear hdrop
  cases n with
  |zero=>
   apply YSys.seq0 hA (by kernel_rfl)
   · intro wc hB
     go_wp2
     exact⟨rfl,Ext1.refl _,rfl⟩
   intro w hA
   refine zqx Y.jc (zq1a Y.jc rfl ?_)
   rw[if_neg (by have:=HK.out;simp only[decide_eq_true_eq];omega)]
   refine wpY_exit Y.jc ?_
   show wpJ Y.J _ _ _ _ _
   apply YSys.seq0 hA (by kernel_rfl)
   · intro wc hB
     go_wp2
     exact⟨rfl,Ext1.refl _,rfl⟩
   intro w hA
   refine wpY_ret Y.jc ?_
   exact⟨rfl,.inl ⟨_,resultsC_tmp2 rfl _,(acc,true),rfl,hA.drop HD.out⟩⟩
  |succ n=>
   have hk:(k:Int)<(N:Int):=by have:=HK.out;omega
   have hk0:(0:Int)<=(k:Int):=by omega
   have e1:IntKind.i64.wrap ((k:Int)+1)=((k+1:Nat):Int):=by have:=hle.out;rw[IntWalk.i64_in _ (by omega)];omega
   apply YSys.seq0 hA (by kernel_rfl)
   · intro wc hB
     go_wp2
     exact⟨rfl,Ext1.refl _,rfl⟩
   intro w hA
   refine zqx Y.jc (zq1a Y.jc rfl (wpY_skip Y.jc ?_))
   show wpJ Y.J _ _ _ _ _
   refine zqx Y.jc (wpY_block Y.jc ?_)
   obtain⟨y,hy⟩:∃y,seen.getD k 0=y:=⟨_,rfl⟩
   have hcur:cur[k]?=some (.int .i64 y):=by
    have h1:=congrArg (λl=>l[k]?) HX.out.2
    have h2:k<N:=by have:=HK.out;omega
    have h3:k<seen.length:=by have:=HL.out;omega
    simp only[Nat.mul_one,List.getElem?_take,h2,if_true,List.getElem?_map]at h1
    rw[←Array.getElem?_toList,h1]
    simp[←hy,h3]
   have HC:=Lib.hid hcur
   have HY:=Lib.hid hy
   clear hcur hy
   apply YSys.seq0 hA (by kernel_rfl)
   · intro wc hB
     have cg:wc.cell? ⟨g,k,none⟩=some (.int .i64 y):=(zq0 (c:=cur) (e:=2) (f:=(0,0)) (hB.own.box g (.cells cur 2) (by simp[orB,HX.out.1]))).trans HC.out
     go_wp2
     exact⟨rfl,Ext1.refl _,rfl⟩
   intro w hA
   refine zqx Y.jc (zq19 Y.jc ?_)
   rw[evenB,Proc.bind_bind,Proc.bind_bind]at hA
   apply YSys.callS 0 1 0 hA hst.step rfl rfl rfl (by rfl) rfl rfl rfl
   · intro wc hB X hX
     have HX:=Lib.hid hX
     clear hX
     go_wp2
     exact HX.out _ (Ext1.refl _)
   · intro w
     simp[go_sem,execOp,Act.eval,resolve,Deferred.ofValue,invoke,callFunc,Try.func33,Try.f33]
   · intro w
     simp[go_sem,execOp,Act.eval,resolve,Deferred.ofValue,invoke,callFunc,Try.func33,Try.f33]
   · intro s' ch w' h
     exact⟨rfl,h⟩
   intro s w hA
   refine opsC_nil Y.jc ?_
   show wpJ Y.J _ _ _ _ _
   refine zqx Y.jc (zq19 Y.jc ?_)
   apply YSys.callP 0 2 3 hA (hst.stripe (k:Int)) rfl rfl rfl (by rfl) rfl rfl rfl
   · intro wc hB X hX
     have HX:=Lib.hid hX
     clear hX
     go_wp2
     exact HX.out _ (Ext1.refl _)
   · intro w
     simp[go_sem,execOp,Act.eval,resolve,Deferred.ofValue,invoke,callFunc,Try.func31,Try.f31]
   · intro w
     simp[go_sem,execOp,Act.eval,resolve,Deferred.ofValue,invoke,callFunc,Try.func31,Try.f31]
   intro w hA
   apply YSys.callR 3 0 2 hA (hst.load (k:Int)) (λx=>if h:x=seen.getD k 0 then(by rw[if_pos h];exact evenB_sil Y HKK.out _ _ _ _)else(by rw[if_neg h];exact HKK.out _)) rfl rfl rfl (by rfl) rfl rfl rfl
   · intro wc hB X hX
     have HX:=Lib.hid hX
     clear hX
     go_wp2
     exact HX.out _ (Ext1.refl _)
   · intro w
     simp[go_sem,execOp,Act.eval,resolve,Deferred.ofValue,invoke,callFunc,Try.func32,Try.f32]
   · intro w
     simp[go_sem,execOp,Act.eval,resolve,Deferred.ofValue,invoke,callFunc,Try.func32,Try.f32]
   · intro s' ch w' h
     exact⟨rfl,h⟩
   intro s x w hA
   rw[HY.out]at hA
   by_cases hxy:x=y
   · rw[if_pos hxy]at hA
     subst hxy
     apply YSys.ops0 4 2 hA rfl rfl (by kernel_rfl)
     · intro wc hB
       go_wp2
       exact⟨rfl,Ext1.refl _,rfl⟩
     intro w hA
     show wpJ Y.J _ _ _ _ _
     refine zq1a Y.jc rfl (wpY_skip Y.jc ?_)
     show wpJ Y.J _ _ _ _ _
     apply YSys.code0 hA (by kernel_rfl)
     · intro wc hB
       go_wp2
       exact⟨rfl,Ext1.refl _,rfl⟩
     intro w hA
     exact⟨n,by omega,k+1,_,_,_,_,_,_,_,_,_,_,_,_,_,_,_,_,_,_,_,_,_,_,_,_,_,_,_,_,_,_,_,_,_,_,_,_,_,_,_,_,_,_,by have:=HK.out;omega,rfl,hA⟩
   · rw[if_neg hxy]at hA
     have HXY:=Lib.hid hxy
     clear hxy
     apply YSys.ops0 4 2 hA rfl rfl (by kernel_rfl)
     · intro wc hB
       go_wp2
       exact⟨rfl,Ext1.refl _,rfl⟩
     intro w hA
     show wpJ Y.J _ _ _ _ _
     refine zq1a Y.jc rfl ?_
     rw[if_pos (by simp[HXY.out])]
     apply YSys.seq0 hA (by kernel_rfl)
     · intro wc hB
       go_wp2
       exact⟨rfl,Ext1.refl _,rfl⟩
     intro w hA
     refine wpY_ret Y.jc ?_
     exact⟨rfl,.inl ⟨_,resultsC_tmp2 rfl _,(0,false),rfl,hA.drop HD.out⟩⟩
end
set_option maxHeartbeats 400000
set_option maxRecDepth 100000
def moveP{S2:Type}(N:Nat)(a b v:Int):Proc (List Int×S2) Unit:=(addP N a (wrap64 (-v))).bind λ_=>(addP N b v).bind λ_=>Proc.ret ()
section
variable {M2 S2 β:Type} {D:Core M2 S2} {ro:Nat->Option Obj} {i:Nat} {cb:Nat} {z:Option Nat} {N:Nat}
theorem addP_sil(Y:YSys Try.prog aM (zqm (zqt cb z N) D) ro i β){K:Int->Proc (List Int×S2) β}(a v:Int):Y.sil ((addP N a v).bind K):=by
 rw[addP,Proc.bind_bind];exact Y.sil_tick _
theorem move_spec(Y:YSys Try.prog aM (zqm (zqt cb z N) D) ro i β){sv:Value}(hst:StrAtoms Y sv)(a b v:Int):
 SpecB Y 30 #[.pointer (some ⟨cb,0,none⟩),sv,.int .i64 a,.int .i64 b,.int .i64 v] (moveP N a b v) (λ_=>.tuple #[]):=by
 refine SpecB.of Try.func30 rfl ?_
 intro K s B w hK hA
 simp only[zqr,Try.ntmps30,List.size_toArray,List.length_cons,List.length_nil,Nat.reduceAdd,Nat.reduceSub,Array.replicate_succ,Array.replicate_zero,List.push_toArray,List.append_toArray,List.nil_append,List.cons_append]
 refine zqx Y.jc (zq19 Y.jc ?_)
 rw[moveP,Proc.bind_bind]at hA
 apply YSys.callR 0 5 0 hA (add_spec Y hst a (wrap64 (-v))).spec (λ_=>by rw[Proc.bind_bind];exact addP_sil Y b v) rfl rfl rfl (by rfl) rfl rfl rfl
 · intro wc hB X hX
   have HX:=Lib.hid hX
   clear hX
   go_wp2
   exact HX.out _ (Ext1.refl _)
 · intro w
   simp[go_sem,execOp,Act.eval,resolve,Deferred.ofValue,invoke,callFunc,Try.func21,Try.f21]
 · intro w
   simp[go_sem,execOp,Act.eval,resolve,Deferred.ofValue,invoke,callFunc,Try.func21,Try.f21]
 · intro s' ch w' h
   exact⟨rfl,h⟩
 intro s x w hA
 refine opsC_nil Y.jc ?_
 show wpJ Y.J _ _ _ _ _
 refine zq19 Y.jc ?_
 rw[Proc.bind_bind]at hA
 apply YSys.callR 0 4 0 hA (add_spec Y hst b v).spec (λ_=>hK _) rfl rfl rfl (by rfl) rfl rfl rfl
 · intro wc hB X hX
   have HX:=Lib.hid hX
   clear hX
   go_wp2
   exact HX.out _ (Ext1.refl _)
 · intro w
   simp[go_sem,execOp,Act.eval,resolve,Deferred.ofValue,invoke,callFunc,Try.func21,Try.f21]
 · intro w
   simp[go_sem,execOp,Act.eval,resolve,Deferred.ofValue,invoke,callFunc,Try.func21,Try.f21]
 · intro s' ch w' h
   exact⟨rfl,h⟩
 intro s x w hA
 refine opsC_nil Y.jc ?_
 exact⟨rfl,.inl ⟨_,resultsC_none rfl _,(),rfl,hA⟩⟩
end
set_option maxHeartbeats 4000000
set_option maxRecDepth 100000
def doP{S2:Type}(N:Nat)(op:OpX):Proc (List Int×S2) Ans:=
 if op.k=1 then(addP N op.a op.b).bind λx=>Proc.ret ⟨true,x,[]⟩
 else if op.k=2 then(sumP N).bind λx=>Proc.ret ⟨true,x,[]⟩
 else if op.k=3 then(takeP N).bind λx=>Proc.ret ⟨true,x,[]⟩
 else if op.k=4 then(moveP N op.a op.b op.c).bind λ_=>Proc.ret ⟨true,0,[]⟩
 else if op.k=5 then(evenP N).bind λx=>Proc.ret ⟨x.2,x.1,[]⟩
 else Proc.ret Ans.none
section
variable {M2 S2 β:Type} {D:Core M2 S2} {ro:Nat->Option Obj} {i:Nat} {cb:Nat} {z:Option Nat} {N:Nat}
theorem do_spec(Y:YSys Try.prog aM (zqm (zqt cb z N) D) ro i β){sv:Value}(hst:StrAtoms Y sv)(who:Int)(op:OpX):
 SpecR Y 27 #[.pointer (some ⟨cb,0,none⟩),sv,.int .i64 who,op.val] (doP N op) (AnsV 2):=by
 refine SpecR.of Try.func27 rfl ?_
 intro K s B w hK hA
 simp only[zqr,Try.ntmps27,List.size_toArray,List.length_cons,List.length_nil,Nat.reduceAdd,Nat.reduceSub,Array.replicate_succ,Array.replicate_zero,List.push_toArray,List.append_toArray,List.nil_append,List.cons_append]
 have HKK:=Lib.hid hK
 clear hK
 refine zqx Y.jc (zq19 Y.jc ?_)
 refine YSys.preX 0 1 1 (λt B'=>∃(b7:Nat)(x4 x5 x6 x8 x9 x10 x11 x12 x13 x14 x15 x16 x17 x18 x19 x20 x21 x22 x23 x24 x25 x26 x27 x28 x29 x30 x31 x32 x33 x34 x35 x36 x37 x38 x39 x40 x41 x42 x43 x44 x45 x46 x47 x48 x49 x50 x51 x52 x53 x54 x55 x56 x57:Value),t=#[.pointer (some ⟨cb,0,none⟩),sv,.int .i64 who,op.val,x4,x5,x6,.pointer (some ⟨b7,0,none⟩),x8,x9,x10,x11,x12,x13,x14,x15,x16,x17,x18,x19,x20,x21,x22,x23,x24,x25,x26,x27,x28,x29,x30,x31,x32,x33,x34,x35,x36,x37,x38,x39,x40,x41,x42,x43,x44,x45,x46,x47,x48,x49,x50,x51,x52,x53,x54,x55,x56,x57]/\B b7=none/\B'=upB B b7 (.cells op.cells.toArray 46)) hA rfl rfl rfl rfl ?_ ?_
 · intro wc hB X0 hX0
   have HX0:=Lib.hid hX0
   clear hX0
   have hm:=OMoved.push (o:=.cells op.cells.toArray 46) hB.own (Ext1.alloc wc (.cells op.cells.toArray 46)) (Nat.le_refl _) (by rw[zq8];simp)
   have hf:=hB.own.fresh (Nat.le_refl _)
   have HM:=Lib.hid (And.intro hm hf)
   clear hm hf
   unfold OpX.val
   go_wp2
   exact HX0.out _ _ _ HM.out.1 ⟨_,_,_,_,_,_,_,_,_,_,_,_,_,_,_,_,_,_,_,_,_,_,_,_,_,_,_,_,_,_,_,_,_,_,_,_,_,_,_,_,_,_,_,_,_,_,_,_,_,_,_,_,_,_,rfl,HM.out.2,rfl⟩
 clear hA
 rintro _ _ w ⟨b7,x4,x5,x6,x8,x9,x10,x11,x12,x13,x14,x15,x16,x17,x18,x19,x20,x21,x22,x23,x24,x25,x26,x27,x28,x29,x30,x31,x32,x33,x34,x35,x36,x37,x38,x39,x40,x41,x42,x43,x44,x45,x46,x47,x48,x49,x50,x51,x52,x53,x54,x55,x56,x57,rfl,hb7,rfl⟩ hA
 refine YSys.opsX 1 1 (λt B'=>∃(b8:Nat)(x4 x5 x6 x9 x10 x11 x12 x13 x14 x15 x16 x17 x18 x19 x20 x21 x22 x23 x24 x25 x26 x27 x28 x29 x30 x31 x32 x33 x34 x35 x36 x37 x38 x39 x40 x41 x42 x43 x44 x45 x46 x47 x48 x49 x50 x51 x52 x53 x54 x55 x56 x57:Value),t=#[.pointer (some ⟨cb,0,none⟩),sv,.int .i64 who,op.val,x4,x5,x6,.pointer (some ⟨b7,0,none⟩),.pointer (some ⟨b8,0,none⟩),x9,x10,x11,x12,x13,x14,x15,x16,x17,x18,x19,x20,x21,x22,x23,x24,x25,x26,x27,x28,x29,x30,x31,x32,x33,x34,x35,x36,x37,x38,x39,x40,x41,x42,x43,x44,x45,x46,x47,x48,x49,x50,x51,x52,x53,x54,x55,x56,x57]/\upB B b7 (.cells op.cells.toArray 46) b8=none/\B'=upB (upB B b7 (.cells op.cells.toArray 46)) b8 (.cells #[.bool false,.int .i64 0,.slice none 0 0] 43)) hA rfl rfl (by kernel_rfl) ?_ ?_
 · intro wc hB X0 hX0
   have HX0:=Lib.hid hX0
   clear hX0
   have hm:=OMoved.push (o:=.cells #[.bool false,.int .i64 0,.slice none 0 0] 43) hB.own (Ext1.alloc wc (.cells #[.bool false,.int .i64 0,.slice none 0 0] 43)) (Nat.le_refl _) (by rw[zq8];simp)
   have hf:=hB.own.fresh (Nat.le_refl _)
   have HM:=Lib.hid (And.intro hm hf)
   clear hm hf
   go_wp2
   exact⟨rfl,HX0.out _ _ _ HM.out.1 ⟨_,_,_,_,_,_,_,_,_,_,_,_,_,_,_,_,_,_,_,_,_,_,_,_,_,_,_,_,_,_,_,_,_,_,_,_,_,_,_,_,_,_,_,_,_,_,_,_,_,_,_,_,_,rfl,HM.out.2,rfl⟩⟩
 clear hA
 rintro _ _ w ⟨b8,x4,x5,x6,x9,x10,x11,x12,x13,x14,x15,x16,x17,x18,x19,x20,x21,x22,x23,x24,x25,x26,x27,x28,x29,x30,x31,x32,x33,x34,x35,x36,x37,x38,x39,x40,x41,x42,x43,x44,x45,x46,x47,x48,x49,x50,x51,x52,x53,x54,x55,x56,x57,rfl,hb8,rfl⟩ hA
 show wpJ Y.J _ _ _ _ _
 refine YSys.seqX (λt B'=>∃(b9:Nat)(x4 x5 x6 x10 x11 x12 x13 x14 x15 x16 x17 x18 x19 x20 x21 x22 x23 x24 x25 x26 x27 x28 x29 x30 x31 x32 x33 x34 x35 x36 x37 x38 x39 x40 x41 x42 x43 x44 x45 x46 x47 x48 x49 x50 x51 x52 x53 x54 x55 x56 x57:Value),t=#[.pointer (some ⟨cb,0,none⟩),sv,.int .i64 who,op.val,x4,x5,x6,.pointer (some ⟨b7,0,none⟩),.pointer (some ⟨b8,0,none⟩),.pointer (some ⟨b9,0,none⟩),x10,x11,x12,x13,x14,x15,x16,x17,x18,x19,x20,x21,x22,x23,x24,x25,x26,x27,x28,x29,x30,x31,x32,x33,x34,x35,x36,x37,x38,x39,x40,x41,x42,x43,x44,x45,x46,x47,x48,x49,x50,x51,x52,x53,x54,x55,x56,x57]/\upB (upB B b7 (.cells op.cells.toArray 46)) b8 (.cells #[.bool false,.int .i64 0,.slice none 0 0] 43) b9=none/\B'=upB (upB (upB B b7 (.cells op.cells.toArray 46)) b8 (.cells #[.bool false,.int .i64 0,.slice none 0 0] 43)) b9 (.cells #[.bool true,.int .i64 0,.slice none 0 0] 43)) hA (by kernel_rfl) ?_ ?_
 · intro wc hB X0 hX0
   have HX0:=Lib.hid hX0
   clear hX0
   have hm:=OMoved.push (o:=.cells #[.bool true,.int .i64 0,.slice none 0 0] 43) hB.own (Ext1.alloc wc (.cells #[.bool true,.int .i64 0,.slice none 0 0] 43)) (Nat.le_refl _) (by rw[zq8];simp)
   have hf:=hB.own.fresh (Nat.le_refl _)
   have HM:=Lib.hid (And.intro hm hf)
   clear hm hf
   go_wp2
   exact⟨rfl,HX0.out _ _ _ HM.out.1 ⟨_,_,_,_,_,_,_,_,_,_,_,_,_,_,_,_,_,_,_,_,_,_,_,_,_,_,_,_,_,_,_,_,_,_,_,_,_,_,_,_,_,_,_,_,_,_,_,_,_,_,_,_,rfl,HM.out.2,rfl⟩⟩
 clear hA
 rintro _ _ w ⟨b9,x4,x5,x6,x10,x11,x12,x13,x14,x15,x16,x17,x18,x19,x20,x21,x22,x23,x24,x25,x26,x27,x28,x29,x30,x31,x32,x33,x34,x35,x36,x37,x38,x39,x40,x41,x42,x43,x44,x45,x46,x47,x48,x49,x50,x51,x52,x53,x54,x55,x56,x57,rfl,hb9,rfl⟩ hA
 have h7:upB (upB (upB B b7 (.cells op.cells.toArray 46)) b8 (.cells #[.bool false,.int .i64 0,.slice none 0 0] 43)) b9 (.cells #[.bool true,.int .i64 0,.slice none 0 0] 43) b7=some (.cells op.cells.toArray 46):=upB_of (upB_of (upB_same _ _ _) (none_ne (upB_same _ _ _) hb8)) (none_ne (upB_of (upB_same _ _ _) (none_ne (upB_same _ _ _) hb8)) hb9)
 have h8:upB (upB (upB B b7 (.cells op.cells.toArray 46)) b8 (.cells #[.bool false,.int .i64 0,.slice none 0 0] 43)) b9 (.cells #[.bool true,.int .i64 0,.slice none 0 0] 43) b8=some (.cells #[.bool false,.int .i64 0,.slice none 0 0] 43):=upB_of (upB_same _ _ _) (none_ne (upB_same _ _ _) hb9)
 have h9:upB (upB (upB B b7 (.cells op.cells.toArray 46)) b8 (.cells #[.bool false,.int .i64 0,.slice none 0 0] 43)) b9 (.cells #[.bool true,.int .i64 0,.slice none 0 0] 43) b9=some (.cells #[.bool true,.int .i64 0,.slice none 0 0] 43):=upB_same _ _ _
 have hB8:B b8=none:=Classical.byContradiction λh=>by
  cases ho:B b8 with
  |none=>exact h ho
  |some o=>rw[upB_le (o:=.cells op.cells.toArray 46) hb7 b8 o ho]at hb8;cases hb8
 have hB9:B b9=none:=Classical.byContradiction λh=>by
  cases ho:B b9 with
  |none=>exact h ho
  |some o=>rw[upB_keep (o:=.cells #[.bool false,.int .i64 0,.slice none 0 0] 43) (upB_le (o:=.cells op.cells.toArray 46) hb7) hB8 b9 o ho]at hb9;cases hb9
 have hle:∀x y,B x=some y->upB (upB (upB B b7 (.cells op.cells.toArray 46)) b8 (.cells #[.bool false,.int .i64 0,.slice none 0 0] 43)) b9 (.cells #[.bool true,.int .i64 0,.slice none 0 0] 43) x=some y:=upB_keep (upB_keep (upB_le (o:=.cells op.cells.toArray 46) hb7) hB8) hB9
 have h89:b8≠b9:=none_ne (upB_same _ _ _) hb9
 obtain⟨B1,hB1⟩:∃X,upB (upB (upB B b7 (.cells op.cells.toArray 46)) b8 (.cells #[.bool false,.int .i64 0,.slice none 0 0] 43)) b9 (.cells #[.bool true,.int .i64 0,.slice none 0 0] 43)=X:=⟨_,rfl⟩
 rw[hB1]at h7 h8 h9 hle hA
 have H7:=Lib.hid h7
 have H8:=Lib.hid h8
 have H9:=Lib.hid h9
 have HLE:=Lib.hid hle
 have HN:=Lib.hid (And.intro hB8 (And.intro hB9 h89))
 clear h7 h8 h9 hle hB1 hb7 hb8 hb9 hB8 hB9 h89
 show wpJ Y.J _ _ _ _ _
 refine wpY_cut Y.jc (λs a w=>∃(B2:Nat->Option Obj)(ok:Bool)(x:Int)(x4 x5 x6 x10 x11 x13 x14 x15 x16 x17 x18 x19 x20 x21 x22 x23 x24 x25 x26 x27 x28 x29 x30 x31 x32 x33 x34 x35 x36 x37 x38 x39 x40 x41 x42 x43 x44 x45 x46 x47 x48 x49 x50 x51 x52 x53 x54 x55 x56 x57:Value),a=⟨#[.pointer (some ⟨cb,0,none⟩),sv,.int .i64 who,op.val,x4,x5,x6,.pointer (some ⟨b7,0,none⟩),.pointer (some ⟨b8,0,none⟩),.pointer (some ⟨b9,0,none⟩),x10,x11,.int .i64 op.k,x13,x14,x15,x16,x17,x18,x19,x20,x21,x22,x23,x24,x25,x26,x27,x28,x29,x30,x31,x32,x33,x34,x35,x36,x37,x38,x39,x40,x41,x42,x43,x44,x45,x46,x47,x48,x49,x50,x51,x52,x53,x54,x55,x56,x57],[]⟩/\(B2 b8=some (.cells #[.bool false,.int .i64 0,.slice none 0 0] 43)/\B2 b9=some (.cells #[.bool ok,.int .i64 x,.slice none 0 0] 43)/\∀x y,B x=some y->B2 x=some y)/\Y.AtB B2 s w (K ⟨ok,x,[]⟩)) ?_ ?_
 ·
  apply YSys.seq0 hA (by kernel_rfl)
  · intro wc hB
    have c70:wc.cell? ⟨b7,0,none⟩=some (.int .i64 op.k):=(zq0 (hB.own.box b7 _ H7.out)).trans rfl
    have c71:wc.cell? ⟨b7,1,none⟩=some (.int .i64 op.a):=(zq0 (hB.own.box b7 _ H7.out)).trans rfl
    have c72:wc.cell? ⟨b7,2,none⟩=some (.int .i64 op.b):=(zq0 (hB.own.box b7 _ H7.out)).trans rfl
    have c73:wc.cell? ⟨b7,3,none⟩=some (.int .i64 op.c):=(zq0 (hB.own.box b7 _ H7.out)).trans rfl
    go_wp2
    exact⟨rfl,Ext1.refl _,rfl⟩
  intro w hA
  refine wpY_block Y.jc ?_
  unfold doP at hA
  apply YSys.seq0 hA (by kernel_rfl)
  · intro wc hB
    go_wp2
    exact⟨rfl,Ext1.refl _,rfl⟩
  intro w hA
  refine zq1a Y.jc rfl ?_
  by_cases hk1:op.k=1
  · rw[if_pos (by simp[hk1])]
    rw[if_pos hk1,Proc.bind_bind]at hA
    clear hk1
    refine zq19 Y.jc ?_
    apply YSys.callR 0 6 2 hA (add_spec Y hst op.a op.b).spec (λx=>HKK.out _) rfl rfl rfl (by rfl) rfl rfl rfl
    · intro wc hB X hX
      have HX:=Lib.hid hX
      clear hX
      have c70:wc.cell? ⟨b7,0,none⟩=some (.int .i64 op.k):=(zq0 (hB.own.box b7 _ H7.out)).trans rfl
      have c71:wc.cell? ⟨b7,1,none⟩=some (.int .i64 op.a):=(zq0 (hB.own.box b7 _ H7.out)).trans rfl
      have c72:wc.cell? ⟨b7,2,none⟩=some (.int .i64 op.b):=(zq0 (hB.own.box b7 _ H7.out)).trans rfl
      have c73:wc.cell? ⟨b7,3,none⟩=some (.int .i64 op.c):=(zq0 (hB.own.box b7 _ H7.out)).trans rfl
      go_wp2
      exact HX.out _ (Ext1.refl _)
    · intro w
      simp[go_sem,execOp,Act.eval,resolve,Deferred.ofValue,invoke,callFunc,Try.func21,Try.f21]
    · intro w
      simp[go_sem,execOp,Act.eval,resolve,Deferred.ofValue,invoke,callFunc,Try.func21,Try.f21]
    · intro s' ch w' h
      exact⟨rfl,h⟩
    intro s x w hA
    refine YSys.opsX 7 2 (λt B'=>∃(y4 y5 y6 y10 y11 y13 y14 y15 y16 y17 y18 y19 y20 y21 y22 y23 y24 y25 y26 y27 y28 y29 y30 y31 y32 y33 y34 y35 y36 y37 y38 y39 y40 y41 y42 y43 y44 y45 y46 y47 y48 y49 y50 y51 y52 y53 y54 y55 y56 y57:Value),t=#[.pointer (some ⟨cb,0,none⟩),sv,.int .i64 who,op.val,y4,y5,y6,.pointer (some ⟨b7,0,none⟩),.pointer (some ⟨b8,0,none⟩),.pointer (some ⟨b9,0,none⟩),y10,y11,.int .i64 op.k,y13,y14,y15,y16,y17,y18,y19,y20,y21,y22,y23,y24,y25,y26,y27,y28,y29,y30,y31,y32,y33,y34,y35,y36,y37,y38,y39,y40,y41,y42,y43,y44,y45,y46,y47,y48,y49,y50,y51,y52,y53,y54,y55,y56,y57]/\B'=upB B1 b9 (.cells #[.bool true,.int .i64 x,.slice none 0 0] 43)) hA rfl rfl (by kernel_rfl) ?_ ?_
    · intro wc hB X0 hX0
      have HX0:=Lib.hid hX0
      clear hX0
      have k9:=hB.own.box b9 _ H9.out
      have c90:wc.cell? ⟨b9,0,none⟩=some (.bool true):=(zq0 k9).trans rfl
      have c91:wc.cell? ⟨b9,1,none⟩=some (.int .i64 0):=(zq0 k9).trans rfl
      have f90:wc.frozen? ⟨b9,0,none⟩=false:=zqe k9
      have f91:wc.frozen? ⟨b9,1,none⟩=false:=zqe k9
      clear k9
      have hm:=OMoved.set (off:=1) hB.own H9.out (.int .i64 x)
      have HM:=Lib.hid hm
      clear hm
      go_wp2
      exact⟨rfl,HX0.out _ _ _ HM.out ⟨_,_,_,_,_,_,_,_,_,_,_,_,_,_,_,_,_,_,_,_,_,_,_,_,_,_,_,_,_,_,_,_,_,_,_,_,_,_,_,_,_,_,_,_,_,_,_,_,_,_,rfl,rfl⟩⟩
    rintro _ _ w ⟨y4,y5,y6,y10,y11,y13,y14,y15,y16,y17,y18,y19,y20,y21,y22,y23,y24,y25,y26,y27,y28,y29,y30,y31,y32,y33,y34,y35,y36,y37,y38,y39,y40,y41,y42,y43,y44,y45,y46,y47,y48,y49,y50,y51,y52,y53,y54,y55,y56,y57,rfl,rfl⟩ hA
    exact⟨_,true,x,_,_,_,_,_,_,_,_,_,_,_,_,_,_,_,_,_,_,_,_,_,_,_,_,_,_,_,_,_,_,_,_,_,_,_,_,_,_,_,_,_,_,_,_,_,_,_,_,_,_,rfl,⟨upB_of H8.out HN.out.2.2,upB_same _ _ _,upB_keep HLE.out HN.out.2.1⟩,hA⟩
  rw[if_neg (by simp[hk1])]
  rw[if_neg hk1]at hA
  clear hk1
  apply YSys.seq0 hA (by kernel_rfl)
  · intro wc hB
    go_wp2
    exact⟨rfl,Ext1.refl _,rfl⟩
  intro w hA
  refine zq1a Y.jc rfl ?_
  by_cases hk2:op.k=2
  · rw[if_pos (by simp[hk2])]
    rw[if_pos hk2,Proc.bind_bind]at hA
    clear hk2
    refine zq19 Y.jc ?_
    apply YSys.callR 0 2 2 hA (sum_spec Y hst).spec (λx=>HKK.out _) rfl rfl rfl (by rfl) rfl rfl rfl
    · intro wc hB X hX
      have HX:=Lib.hid hX
      clear hX
      go_wp2
      exact HX.out _ (Ext1.refl _)
    · intro w
      simp[go_sem,execOp,Act.eval,resolve,Deferred.ofValue,invoke,callFunc,Try.func22,Try.f22]
    · intro w
      simp[go_sem,execOp,Act.eval,resolve,Deferred.ofValue,invoke,callFunc,Try.func22,Try.f22]
    · intro s' ch w' h
      exact⟨rfl,h⟩
    intro s x w hA
    refine YSys.opsX 3 2 (λt B'=>∃(y4 y5 y6 y10 y11 y13 y14 y15 y16 y17 y18 y19 y20 y21 y22 y23 y24 y25 y26 y27 y28 y29 y30 y31 y32 y33 y34 y35 y36 y37 y38 y39 y40 y41 y42 y43 y44 y45 y46 y47 y48 y49 y50 y51 y52 y53 y54 y55 y56 y57:Value),t=#[.pointer (some ⟨cb,0,none⟩),sv,.int .i64 who,op.val,y4,y5,y6,.pointer (some ⟨b7,0,none⟩),.pointer (some ⟨b8,0,none⟩),.pointer (some ⟨b9,0,none⟩),y10,y11,.int .i64 op.k,y13,y14,y15,y16,y17,y18,y19,y20,y21,y22,y23,y24,y25,y26,y27,y28,y29,y30,y31,y32,y33,y34,y35,y36,y37,y38,y39,y40,y41,y42,y43,y44,y45,y46,y47,y48,y49,y50,y51,y52,y53,y54,y55,y56,y57]/\B'=upB B1 b9 (.cells #[.bool true,.int .i64 x,.slice none 0 0] 43)) hA rfl rfl (by kernel_rfl) ?_ ?_
    · intro wc hB X0 hX0
      have HX0:=Lib.hid hX0
      clear hX0
      have k9:=hB.own.box b9 _ H9.out
      have c90:wc.cell? ⟨b9,0,none⟩=some (.bool true):=(zq0 k9).trans rfl
      have c91:wc.cell? ⟨b9,1,none⟩=some (.int .i64 0):=(zq0 k9).trans rfl
      have f90:wc.frozen? ⟨b9,0,none⟩=false:=zqe k9
      have f91:wc.frozen? ⟨b9,1,none⟩=false:=zqe k9
      clear k9
      have hm:=OMoved.set (off:=1) hB.own H9.out (.int .i64 x)
      have HM:=Lib.hid hm
      clear hm
      go_wp2
      exact⟨rfl,HX0.out _ _ _ HM.out ⟨_,_,_,_,_,_,_,_,_,_,_,_,_,_,_,_,_,_,_,_,_,_,_,_,_,_,_,_,_,_,_,_,_,_,_,_,_,_,_,_,_,_,_,_,_,_,_,_,_,_,rfl,rfl⟩⟩
    rintro _ _ w ⟨y4,y5,y6,y10,y11,y13,y14,y15,y16,y17,y18,y19,y20,y21,y22,y23,y24,y25,y26,y27,y28,y29,y30,y31,y32,y33,y34,y35,y36,y37,y38,y39,y40,y41,y42,y43,y44,y45,y46,y47,y48,y49,y50,y51,y52,y53,y54,y55,y56,y57,rfl,rfl⟩ hA
    exact⟨_,true,x,_,_,_,_,_,_,_,_,_,_,_,_,_,_,_,_,_,_,_,_,_,_,_,_,_,_,_,_,_,_,_,_,_,_,_,_,_,_,_,_,_,_,_,_,_,_,_,_,_,_,rfl,⟨upB_of H8.out HN.out.2.2,upB_same _ _ _,upB_keep HLE.out HN.out.2.1⟩,hA⟩
  rw[if_neg (by simp[hk2])]
  rw[if_neg hk2]at hA
  clear hk2
  apply YSys.seq0 hA (by kernel_rfl)
  · intro wc hB
    go_wp2
    exact⟨rfl,Ext1.refl _,rfl⟩
  intro w hA
  refine zq1a Y.jc rfl ?_
  by_cases hk3:op.k=3
  · rw[if_pos (by simp[hk3])]
    rw[if_pos hk3,Proc.bind_bind]at hA
    clear hk3
    refine zq19 Y.jc ?_
    apply YSys.callR 0 2 2 hA (take_spec Y hst).spec (λx=>HKK.out _) rfl rfl rfl (by rfl) rfl rfl rfl
    · intro wc hB X hX
      have HX:=Lib.hid hX
      clear hX
      go_wp2
      exact HX.out _ (Ext1.refl _)
    · intro w
      simp[go_sem,execOp,Act.eval,resolve,Deferred.ofValue,invoke,callFunc,Try.func23,Try.f23]
    · intro w
      simp[go_sem,execOp,Act.eval,resolve,Deferred.ofValue,invoke,callFunc,Try.func23,Try.f23]
    · intro s' ch w' h
      exact⟨rfl,h⟩
    intro s x w hA
    refine YSys.opsX 3 2 (λt B'=>∃(y4 y5 y6 y10 y11 y13 y14 y15 y16 y17 y18 y19 y20 y21 y22 y23 y24 y25 y26 y27 y28 y29 y30 y31 y32 y33 y34 y35 y36 y37 y38 y39 y40 y41 y42 y43 y44 y45 y46 y47 y48 y49 y50 y51 y52 y53 y54 y55 y56 y57:Value),t=#[.pointer (some ⟨cb,0,none⟩),sv,.int .i64 who,op.val,y4,y5,y6,.pointer (some ⟨b7,0,none⟩),.pointer (some ⟨b8,0,none⟩),.pointer (some ⟨b9,0,none⟩),y10,y11,.int .i64 op.k,y13,y14,y15,y16,y17,y18,y19,y20,y21,y22,y23,y24,y25,y26,y27,y28,y29,y30,y31,y32,y33,y34,y35,y36,y37,y38,y39,y40,y41,y42,y43,y44,y45,y46,y47,y48,y49,y50,y51,y52,y53,y54,y55,y56,y57]/\B'=upB B1 b9 (.cells #[.bool true,.int .i64 x,.slice none 0 0] 43)) hA rfl rfl (by kernel_rfl) ?_ ?_
    · intro wc hB X0 hX0
      have HX0:=Lib.hid hX0
      clear hX0
      have k9:=hB.own.box b9 _ H9.out
      have c90:wc.cell? ⟨b9,0,none⟩=some (.bool true):=(zq0 k9).trans rfl
      have c91:wc.cell? ⟨b9,1,none⟩=some (.int .i64 0):=(zq0 k9).trans rfl
      have f90:wc.frozen? ⟨b9,0,none⟩=false:=zqe k9
      have f91:wc.frozen? ⟨b9,1,none⟩=false:=zqe k9
      clear k9
      have hm:=OMoved.set (off:=1) hB.own H9.out (.int .i64 x)
      have HM:=Lib.hid hm
      clear hm
      go_wp2
      exact⟨rfl,HX0.out _ _ _ HM.out ⟨_,_,_,_,_,_,_,_,_,_,_,_,_,_,_,_,_,_,_,_,_,_,_,_,_,_,_,_,_,_,_,_,_,_,_,_,_,_,_,_,_,_,_,_,_,_,_,_,_,_,rfl,rfl⟩⟩
    rintro _ _ w ⟨y4,y5,y6,y10,y11,y13,y14,y15,y16,y17,y18,y19,y20,y21,y22,y23,y24,y25,y26,y27,y28,y29,y30,y31,y32,y33,y34,y35,y36,y37,y38,y39,y40,y41,y42,y43,y44,y45,y46,y47,y48,y49,y50,y51,y52,y53,y54,y55,y56,y57,rfl,rfl⟩ hA
    exact⟨_,true,x,_,_,_,_,_,_,_,_,_,_,_,_,_,_,_,_,_,_,_,_,_,_,_,_,_,_,_,_,_,_,_,_,_,_,_,_,_,_,_,_,_,_,_,_,_,_,_,_,_,_,rfl,⟨upB_of H8.out HN.out.2.2,upB_same _ _ _,upB_keep HLE.out HN.out.2.1⟩,hA⟩
  rw[if_neg (by simp[hk3])]
  rw[if_neg hk3]at hA
  clear hk3
  apply YSys.seq0 hA (by kernel_rfl)
  · intro wc hB
    go_wp2
    exact⟨rfl,Ext1.refl _,rfl⟩
  intro w hA
  refine zq1a Y.jc rfl ?_
  by_cases hk4:op.k=4
  · rw[if_pos (by simp[hk4])]
    rw[if_pos hk4,Proc.bind_bind]at hA
    clear hk4
    refine zq19 Y.jc ?_
    apply YSys.callR 0 8 0 hA (move_spec Y hst op.a op.b op.c).spec (λx=>HKK.out _) rfl rfl rfl (by rfl) rfl rfl rfl
    · intro wc hB X hX
      have HX:=Lib.hid hX
      clear hX
      have c70:wc.cell? ⟨b7,0,none⟩=some (.int .i64 op.k):=(zq0 (hB.own.box b7 _ H7.out)).trans rfl
      have c71:wc.cell? ⟨b7,1,none⟩=some (.int .i64 op.a):=(zq0 (hB.own.box b7 _ H7.out)).trans rfl
      have c72:wc.cell? ⟨b7,2,none⟩=some (.int .i64 op.b):=(zq0 (hB.own.box b7 _ H7.out)).trans rfl
      have c73:wc.cell? ⟨b7,3,none⟩=some (.int .i64 op.c):=(zq0 (hB.own.box b7 _ H7.out)).trans rfl
      go_wp2
      exact HX.out _ (Ext1.refl _)
    · intro w
      simp[go_sem,execOp,Act.eval,resolve,Deferred.ofValue,invoke,callFunc,Try.func30,Try.f30]
    · intro w
      simp[go_sem,execOp,Act.eval,resolve,Deferred.ofValue,invoke,callFunc,Try.func30,Try.f30]
    · intro s' ch w' h
      exact⟨rfl,h⟩
    intro s x w hA
    refine opsC_nil Y.jc ?_
    exact⟨B1,true,0,_,_,_,_,_,_,_,_,_,_,_,_,_,_,_,_,_,_,_,_,_,_,_,_,_,_,_,_,_,_,_,_,_,_,_,_,_,_,_,_,_,_,_,_,_,_,_,_,_,_,rfl,⟨H8.out,H9.out,HLE.out⟩,hA⟩
  rw[if_neg (by simp[hk4])]
  rw[if_neg hk4]at hA
  clear hk4
  apply YSys.seq0 hA (by kernel_rfl)
  · intro wc hB
    go_wp2
    exact⟨rfl,Ext1.refl _,rfl⟩
  intro w hA
  refine zq1a Y.jc rfl ?_
  by_cases hk5:op.k=5
  · rw[if_pos (by simp[hk5])]
    rw[if_pos hk5,Proc.bind_bind]at hA
    clear hk5
    refine zq19 Y.jc ?_
    apply YSys.callR 0 2 7 hA (even_spec Y hst).spec (λx=>HKK.out _) rfl rfl rfl (by rfl) rfl rfl rfl
    · intro wc hB X hX
      have HX:=Lib.hid hX
      clear hX
      go_wp2
      exact HX.out _ (Ext1.refl _)
    · intro w
      simp[go_sem,execOp,Act.eval,resolve,Deferred.ofValue,invoke,callFunc,Try.func20,Try.f20]
    · intro w
      simp[go_sem,execOp,Act.eval,resolve,Deferred.ofValue,invoke,callFunc,Try.func20,Try.f20]
    · intro s' ch w' h
      exact⟨rfl,h⟩
    intro s x w hA
    obtain⟨x,ok⟩:=x
    unfold evenV
    refine YSys.opsX 3 7 (λt B'=>∃(y4 y5 y6 y10 y11 y13 y14 y15 y16 y17 y18 y19 y20 y21 y22 y23 y24 y25 y26 y27 y28 y29 y30 y31 y32 y33 y34 y35 y36 y37 y38 y39 y40 y41 y42 y43 y44 y45 y46 y47 y48 y49 y50 y51 y52 y53 y54 y55 y56 y57:Value),t=#[.pointer (some ⟨cb,0,none⟩),sv,.int .i64 who,op.val,y4,y5,y6,.pointer (some ⟨b7,0,none⟩),.pointer (some ⟨b8,0,none⟩),.pointer (some ⟨b9,0,none⟩),y10,y11,.int .i64 op.k,y13,y14,y15,y16,y17,y18,y19,y20,y21,y22,y23,y24,y25,y26,y27,y28,y29,y30,y31,y32,y33,y34,y35,y36,y37,y38,y39,y40,y41,y42,y43,y44,y45,y46,y47,y48,y49,y50,y51,y52,y53,y54,y55,y56,y57]/\B'=upB B1 b9 (.cells #[.bool ok,.int .i64 x,.slice none 0 0] 43)) hA rfl rfl (by kernel_rfl) ?_ ?_
    · intro wc hB X0 hX0
      have HX0:=Lib.hid hX0
      clear hX0
      have k9:=hB.own.box b9 _ H9.out
      have c90:wc.cell? ⟨b9,0,none⟩=some (.bool true):=(zq0 k9).trans rfl
      have c91:wc.cell? ⟨b9,1,none⟩=some (.int .i64 0):=(zq0 k9).trans rfl
      have f90:wc.frozen? ⟨b9,0,none⟩=false:=zqe k9
      have f91:wc.frozen? ⟨b9,1,none⟩=false:=zqe k9
      clear k9
      have hm:=OMoved.set2 (o1:=1) (o2:=0) hB.own H9.out (.int .i64 x) (.bool ok)
      have HM:=Lib.hid hm
      clear hm
      go_wp2
      exact⟨rfl,HX0.out _ _ _ HM.out ⟨_,_,_,_,_,_,_,_,_,_,_,_,_,_,_,_,_,_,_,_,_,_,_,_,_,_,_,_,_,_,_,_,_,_,_,_,_,_,_,_,_,_,_,_,_,_,_,_,_,_,rfl,rfl⟩⟩
    rintro _ _ w ⟨y4,y5,y6,y10,y11,y13,y14,y15,y16,y17,y18,y19,y20,y21,y22,y23,y24,y25,y26,y27,y28,y29,y30,y31,y32,y33,y34,y35,y36,y37,y38,y39,y40,y41,y42,y43,y44,y45,y46,y47,y48,y49,y50,y51,y52,y53,y54,y55,y56,y57,rfl,rfl⟩ hA
    exact⟨_,ok,x,_,_,_,_,_,_,_,_,_,_,_,_,_,_,_,_,_,_,_,_,_,_,_,_,_,_,_,_,_,_,_,_,_,_,_,_,_,_,_,_,_,_,_,_,_,_,_,_,_,_,rfl,⟨upB_of H8.out HN.out.2.2,upB_same _ _ _,upB_keep HLE.out HN.out.2.1⟩,hA⟩
  rw[if_neg (by simp[hk5])]
  rw[if_neg hk5]at hA
  clear hk5
  refine YSys.seqX (λt B'=>∃(y4 y5 y6 y10 y11 y13 y14 y15 y16 y17 y18 y19 y20 y21 y22 y23 y24 y25 y26 y27 y28 y29 y30 y31 y32 y33 y34 y35 y36 y37 y38 y39 y40 y41 y42 y43 y44 y45 y46 y47 y48 y49 y50 y51 y52 y53 y54 y55 y56 y57:Value),t=#[.pointer (some ⟨cb,0,none⟩),sv,.int .i64 who,op.val,y4,y5,y6,.pointer (some ⟨b7,0,none⟩),.pointer (some ⟨b8,0,none⟩),.pointer (some ⟨b9,0,none⟩),y10,y11,.int .i64 op.k,y13,y14,y15,y16,y17,y18,y19,y20,y21,y22,y23,y24,y25,y26,y27,y28,y29,y30,y31,y32,y33,y34,y35,y36,y37,y38,y39,y40,y41,y42,y43,y44,y45,y46,y47,y48,y49,y50,y51,y52,y53,y54,y55,y56,y57]/\B'=upB B1 b8 (.cells #[.bool false,.int .i64 0,.slice none 0 0] 43)) hA (by kernel_rfl) ?_ ?_
  · intro wc hB X0 hX0
    have HX0:=Lib.hid hX0
    clear hX0
    have k8:=hB.own.box b8 _ H8.out
    have c80:wc.cell? ⟨b8,0,none⟩=some (.bool false):=(zq0 k8).trans rfl
    have c81:wc.cell? ⟨b8,1,none⟩=some (.int .i64 0):=(zq0 k8).trans rfl
    have c82:wc.cell? ⟨b8,2,none⟩=some (.slice none 0 0):=(zq0 k8).trans rfl
    have f80:wc.frozen? ⟨b8,0,none⟩=false:=zqe k8
    have f81:wc.frozen? ⟨b8,1,none⟩=false:=zqe k8
    have f82:wc.frozen? ⟨b8,2,none⟩=false:=zqe k8
    have hm:=OMoved.set3 (o1:=0) (o2:=1) (o3:=2) hB.own H8.out (.bool false) (.int .i64 0) (.slice none 0 0)
    have HM:=Lib.hid hm
    clear hm k8
    go_wp2
    exact⟨rfl,HX0.out _ _ _ HM.out ⟨_,_,_,_,_,_,_,_,_,_,_,_,_,_,_,_,_,_,_,_,_,_,_,_,_,_,_,_,_,_,_,_,_,_,_,_,_,_,_,_,_,_,_,_,_,_,_,_,_,_,rfl,rfl⟩⟩
  rintro _ _ w ⟨y4,y5,y6,y10,y11,y13,y14,y15,y16,y17,y18,y19,y20,y21,y22,y23,y24,y25,y26,y27,y28,y29,y30,y31,y32,y33,y34,y35,y36,y37,y38,y39,y40,y41,y42,y43,y44,y45,y46,y47,y48,y49,y50,y51,y52,y53,y54,y55,y56,y57,rfl,rfl⟩ hA
  refine wpY_ret Y.jc ?_
  refine YSys.left hA (v:=.agg #[.bool false,.int .i64 0,.slice none 0 0]) (λwc hB=>results_cell_row rfl _ wc b8 43 _ _ _ rfl (hB.own.box b8 _ (upB_same _ _ _)) rfl rfl rfl) λw hA=>?_
  exact⟨Ans.none,λ_=>none,AnsV.plain _ _ _,λb hb=>absurd rfl hb,hA.drop (upB_keep HLE.out HN.out.1)⟩
 ·
  clear hA
  rintro s a w ⟨B2,ok,x,z4,z5,z6,z10,z11,z13,z14,z15,z16,z17,z18,z19,z20,z21,z22,z23,z24,z25,z26,z27,z28,z29,z30,z31,z32,z33,z34,z35,z36,z37,z38,z39,z40,z41,z42,z43,z44,z45,z46,z47,z48,z49,z50,z51,z52,z53,z54,z55,z56,z57,rfl,hF,hA⟩
  have HF:=Lib.hid hF
  clear hF
  refine YSys.seqX (λt B'=>∃(q4 q5 q6 q10 q11 q13 q14 q15 q16 q17 q18 q19 q20 q21 q22 q23 q24 q25 q26 q27 q28 q29 q30 q31 q32 q33 q34 q35 q36 q37 q38 q39 q40 q41 q42 q43 q44 q45 q46 q47 q48 q49 q50 q51 q52 q53 q54 q55 q56 q57:Value),t=#[.pointer (some ⟨cb,0,none⟩),sv,.int .i64 who,op.val,q4,q5,q6,.pointer (some ⟨b7,0,none⟩),.pointer (some ⟨b8,0,none⟩),.pointer (some ⟨b9,0,none⟩),q10,q11,.int .i64 op.k,q13,q14,q15,q16,q17,q18,q19,q20,q21,q22,q23,q24,q25,q26,q27,q28,q29,q30,q31,q32,q33,q34,q35,q36,q37,q38,q39,q40,q41,q42,q43,q44,q45,q46,q47,q48,q49,q50,q51,q52,q53,q54,q55,q56,q57]/\B'=upB B2 b8 (.cells #[.bool ok,.int .i64 x,.slice none 0 0] 43)) hA (by kernel_rfl) ?_ ?_
  · intro wc hB X0 hX0
    have HX0:=Lib.hid hX0
    clear hX0
    have k8:=hB.own.box b8 _ HF.out.1
    have k9:=hB.own.box b9 _ HF.out.2.1
    have c90:wc.cell? ⟨b9,0,none⟩=some (.bool ok):=(zq0 k9).trans rfl
    have c91:wc.cell? ⟨b9,1,none⟩=some (.int .i64 x):=(zq0 k9).trans rfl
    have c92:wc.cell? ⟨b9,2,none⟩=some (.slice none 0 0):=(zq0 k9).trans rfl
    have c80:wc.cell? ⟨b8,0,none⟩=some (.bool false):=(zq0 k8).trans rfl
    have c81:wc.cell? ⟨b8,1,none⟩=some (.int .i64 0):=(zq0 k8).trans rfl
    have c82:wc.cell? ⟨b8,2,none⟩=some (.slice none 0 0):=(zq0 k8).trans rfl
    have hm:=OMoved.set3 (o1:=0) (o2:=1) (o3:=2) hB.own HF.out.1 (.bool ok) (.int .i64 x) (.slice none 0 0)
    have HM:=Lib.hid hm
    have fz:∀j,wc.frozen? ⟨b8,j,none⟩=false:=λj=>zqe k8
    have f80:=fz 0
    have f81:=fz 1
    have f82:=fz 2
    clear fz k8 k9 hm
    go_wp2
    exact⟨rfl,HX0.out _ _ _ HM.out ⟨_,_,_,_,_,_,_,_,_,_,_,_,_,_,_,_,_,_,_,_,_,_,_,_,_,_,_,_,_,_,_,_,_,_,_,_,_,_,_,_,_,_,_,_,_,_,_,_,_,_,rfl,rfl⟩⟩
  rintro _ _ w ⟨q4,q5,q6,q10,q11,q13,q14,q15,q16,q17,q18,q19,q20,q21,q22,q23,q24,q25,q26,q27,q28,q29,q30,q31,q32,q33,q34,q35,q36,q37,q38,q39,q40,q41,q42,q43,q44,q45,q46,q47,q48,q49,q50,q51,q52,q53,q54,q55,q56,q57,rfl,rfl⟩ hA
  refine wpY_ret Y.jc ?_
  refine YSys.left hA (v:=.agg #[.bool ok,.int .i64 x,.slice none 0 0]) (λwc hB=>?_) λw hA=>?_
  · exact results_cell_row rfl _ wc b8 43 _ _ _ rfl (hB.own.box b8 _ (upB_same _ _ _)) rfl rfl rfl
  · exact⟨⟨ok,x,[]⟩,λ_=>none,AnsV.plain _ _ _,λb hb=>absurd rfl hb,hA.drop (upB_keep HF.out.2.2 HN.out.1)⟩
end
theorem meth_stand(n:Nat)(st:Nat)(w:World):(Go.method (n+1) 108 (.pointer (some ⟨st,0,none⟩)) "Step").run Try.prog w=.ok (72,.pointer (some ⟨st,0,none⟩)) w:=by kernel_rfl
theorem meth_stand_ev(n:Nat)(st:Nat)(w:World)(es:Array Event):(Go.method (n+1) 108 (.pointer (some ⟨st,0,none⟩)) "Step").events Try.prog w es=es:=by kernel_rfl
section
variable {Ml S β:Type} {C:Core Ml S} {ro:Nat->Option Obj} {i:Nat}
theorem step_stand(Y:YSys Try.prog aM C ro i β){st:Nat}(h:StepY Y 72 #[.pointer (some ⟨st,0,none⟩)]):StepY Y 33 #[.iface 108 (.pointer (some ⟨st,0,none⟩))]:=by
 intro K s m w hA
 refine BodyY.calls ⟨_,_,Try.func33,rfl,?_⟩
 simp only[zqr,Try.ntmps33,List.size_toArray,List.length_cons,List.length_nil,Nat.reduceAdd,Nat.reduceSub,Array.replicate_succ,Array.replicate_zero,List.push_toArray,List.append_toArray,List.nil_append,List.cons_append]
 have hA:Y.AtB (m.box i) s w (Proc.tick.bind K):=⟨m,rfl,hA⟩
 obtain⟨B,hB0⟩:∃B,m.box i=B:=⟨_,rfl⟩
 rw[hB0]at hA ⊢
 clear hB0
 apply YSys.seq0 hA (by kernel_rfl)
 · intro wc hB
   go_wp2
   exact⟨rfl,Ext1.refl _,rfl⟩
 intro w hA
 refine zq1a Y.jc rfl ?_
 rw[if_pos rfl]
 refine zq19 Y.jc ?_
 apply YSys.callS 0 1 0 hA h rfl rfl rfl (by rfl) rfl rfl rfl
 · intro wc hB X hX
   have HX:=Lib.hid hX
   clear hX
   go_wp2
   exact HX.out _ (Ext1.refl _)
 · intro w
   simp[go_sem,execOp,Act.eval,resolve,Deferred.ofValue,invoke,callFunc,meth_stand,meth_stand_ev,Try.func72,Try.f72]
 · intro w
   simp[go_sem,execOp,Act.eval,resolve,Deferred.ofValue,invoke,callFunc,meth_stand,meth_stand_ev,Try.func72,Try.f72]
 · intro s' ch w' h
   exact⟨rfl,h⟩
 intro s w hA
 refine opsC_nil Y.jc ?_
 exact⟨rfl,.inl ⟨_,resultsC_none rfl _,(),hA.choose,rfl,hA.choose_spec⟩⟩
end
set_option maxHeartbeats 1000000
set_option maxRecDepth 100000
structure RT where
 at':Nat
 pc:Nat
 sum:Int
 seen:List Int
 ans:List Ans
def rt0:RT:=⟨0,0,0,[],[]⟩
def endR(t:RT)(a:Ans):RT:={t with ans:=t.ans++[a],at':=t.at'+1,pc:=0}
def goodK(op:OpX):Bool:=decide (1<=op.k)&&decide (op.k<=5)
def beginR(t:RT)(op:OpX):RT:=if goodK op then{t with pc:=1,sum:=0,seen:=[]}else endR t Ans.none
def zq15(ops:List OpX):Nat->RT->RT
 |0,t=>t
 |f+1,t=>if t.pc=0 then(match ops[t.at']? with|some op=>zq15 ops f (beginR t op)|none=>t)else t
def setlR(ops:List OpX)(t:RT):RT:=zq15 ops (ops.length+1) t
def stepR(N:Nat)(op:OpX)(C:List Int)(t:RT):List Int×RT:=
 let k:=t.pc - 1
 let t1:RT:={t with pc:=k+2}
 if op.k=1 then
  let v:=IntKind.i64.wrap (C.getD (idx op.a N) 0+op.b)
  (C.set (idx op.a N) v,endR t1 ⟨true,v,[]⟩)
 else if op.k=2\/op.k=3 then
  let v:=wrap64 (t.sum+C.getD k 0)
  let C':=if op.k=3 then C.set k 0 else C
  if k+1=N then(C',endR {t1 with sum:=v} ⟨true,v,[]⟩)else(C',{t1 with sum:=v})
 else if op.k=4 then
  if k=0 then(C.set (idx op.a N) (IntKind.i64.wrap (C.getD (idx op.a N) 0 - op.c)),t1)
  else(C.set (idx op.b N) (IntKind.i64.wrap (C.getD (idx op.b N) 0+op.c)),endR t1 ⟨true,0,[]⟩)
 else if k<N then(C,{t1 with seen:=t.seen++[C.getD k 0],sum:=wrap64 (t.sum+C.getD k 0)})
 else if C.getD (k - N) 0≠t.seen.getD (k - N) 0 then(C,endR t1 Ans.none)
 else if k+1=2*N then(C,endR t1 ⟨true,t.sum,[]⟩)
 else(C,t1)
abbrev SS:=List Int×(Nat->List Ans)
def contP(N:Nat)(op:OpX)(t:RT):Proc SS Ans:=
 let k:=t.pc - 1
 if op.k=1 then(onL (addA N op.a op.b)).bind λx=>Proc.ret ⟨true,x,[]⟩
 else if op.k=2 then(onL (getA N k)).bind λx=>(foldP getA N (N - k - 1) (k+1) (wrap64 (t.sum+x))).bind λx=>Proc.ret ⟨true,x,[]⟩
 else if op.k=3 then(onL (takeA N k)).bind λx=>(foldP takeA N (N - k - 1) (k+1) (wrap64 (t.sum+x))).bind λx=>Proc.ret ⟨true,x,[]⟩
 else if op.k=4 then
  if k=0 then(onL (addA N op.a (wrap64 (-op.c)))).bind λ_=>(addP N op.b op.c).bind λ_=>Proc.ret ⟨true,0,[]⟩
  else(onL (addA N op.b op.c)).bind λ_=>Proc.ret ⟨true,0,[]⟩
 else if k<N then(onL (getA N k)).bind λx=>(evenA N (N - k - 1) (k+1) (t.seen++[x]) (wrap64 (t.sum+x))).bind λx=>Proc.ret ⟨x.2,x.1,[]⟩
 else(onL (getA N ((k - N:Nat):Int))).bind λx=>(if x=t.seen.getD (k - N) 0 then evenB N t.seen (N - (k - N) - 1) (k - N+1) t.sum else Proc.ret (0,false)).bind λx=>Proc.ret ⟨x.2,x.1,[]⟩
def restP(N i:Nat)(ops:List OpX)(at':Nat)(a:Ans):Proc SS Unit:=(pushP i a).bind λ_=>opsP i (doP N) (ops.drop (at'+1))
def treeThen(p:Proc SS Unit):Tree SS Unit:=.step (λs=>(p s).1) (λs=>(p s).2)
def treeOf(N i:Nat)(ops:List OpX)(t:RT):Tree SS Unit:=if t.pc=0 then .ret ()else match ops[t.at']? with
 |some op=>treeThen ((contP N op t).bind (restP N i ops t.at'))
 |none=>.ret ()
section
variable {N i:Nat} {ops:List OpX}
theorem then_eq(p:Proc SS Unit)(s:SS):(Proc.tick.bind λ_=>p) s=(s,treeThen p):=rfl
theorem upd_self{α:Type}(f:Nat->α)(i:Nat):upd' f i (f i)=f:=funext λj=>by
 by_cases h:j=i
 · subst h;simp
 · rw[zql _ _ h]
theorem zq18{α:Type}(f:Nat->α)(i:Nat)(x y:α):upd' (upd' f i x) i y=upd' f i y:=funext λj=>by
 by_cases h:j=i
 · subst h;simp
 · rw[zql _ _ h,zql _ _ h,zql _ _ h]
theorem doP_begin(hN:0<N){op:OpX}(hg:goodK op=true)(t:RT):(doP N op:Proc SS Ans)=Proc.tick.bind λ_=>contP N op {t with pc:=1,sum:=0,seen:=[]}:=by
 obtain⟨n,rfl⟩:∃n,N=n+1:=⟨N - 1,by omega⟩
 unfold goodK at hg
 simp only[Bool.and_eq_true,decide_eq_true_eq]at hg
 unfold doP contP
 simp only[Nat.sub_self,Nat.sub_zero,Nat.add_sub_cancel,Nat.zero_add,if_pos rfl]
 by_cases h1:op.k=1
 · rw[if_pos h1,if_pos h1,addP,Proc.bind_bind]
 rw[if_neg h1,if_neg h1]
 by_cases h2:op.k=2
 · rw[if_pos h2,if_pos h2,sumP,foldP,Proc.bind_bind,Proc.bind_bind]
 rw[if_neg h2,if_neg h2]
 by_cases h3:op.k=3
 · rw[if_pos h3,if_pos h3,takeP,foldP,Proc.bind_bind,Proc.bind_bind]
 rw[if_neg h3,if_neg h3]
 by_cases h4:op.k=4
 · rw[if_pos h4,if_pos h4,moveP,addP,Proc.bind_bind,Proc.bind_bind]
   simp only[Proc.bind_bind]
   rfl
 rw[if_neg h4,if_neg h4,if_pos (by omega),if_pos (Nat.succ_pos n),evenP,evenA,Proc.bind_bind,Proc.bind_bind]
theorem doP_bad{op:OpX}(hg:goodK op=false):(doP N op:Proc SS Ans)=Proc.ret Ans.none:=by
 unfold goodK at hg
 simp only[Bool.and_eq_false_iff,decide_eq_false_iff_not]at hg
 unfold doP
 rw[if_neg (by omega),if_neg (by omega),if_neg (by omega),if_neg (by omega),if_neg (by omega)]
theorem settle_tree(hN:0<N):∀(f:Nat)(t:RT)(C:List Int)(A:Nat->List Ans),t.pc=0->ops.length<f+t.at'->A i=t.ans->
 (opsP i (doP N) (ops.drop t.at')) (C,A)=((C,upd' A i (zq15 ops f t).ans),treeOf N i ops (zq15 ops f t)):=by
 intro f
 induction f with
 |zero=>
  intro t C A hpc hf hA
  rw[List.drop_eq_nil_of_le (by omega)]
  show((C,A),Tree.ret ())=_
  unfold zq15
  rw[←hA,upd_self]
  unfold treeOf
  rw[if_pos hpc]
 |succ f ih=>
  intro t C A hpc hf hA
  unfold zq15
  rw[if_pos hpc]
  cases hop:ops[t.at']? with
  |none=>
   have hge:ops.length<=t.at':=List.getElem?_eq_none_iff.1 hop
   rw[List.drop_eq_nil_of_le hge]
   show((C,A),Tree.ret ())=_
   simp only
   rw[←hA,upd_self]
   unfold treeOf
   rw[if_pos hpc]
  |some op=>
   have hlt:=(List.getElem?_eq_some_iff.1 hop).1
   have hdrop:ops.drop t.at'=op::ops.drop (t.at'+1):=by rw[List.drop_eq_getElem_cons hlt,(List.getElem?_eq_some_iff.1 hop).2]
   rw[hdrop,opsP]
   simp only
   cases hg:goodK op with
   |false=>
    rw[doP_bad hg,Proc.bind_ret]
    have hb:beginR t op=endR t Ans.none:=by unfold beginR;rw[hg];rfl
    rw[hb]
    have:=ih (endR t Ans.none) C (upd' A i (A i++[Ans.none])) rfl (by show ops.length<f+(t.at'+1);omega) (by rw[upd'_same,hA];rfl)
    rw[zq18]at this
    exact this
   |true=>
    have hb:beginR t op={t with pc:=1,sum:=0,seen:=[]}:=by unfold beginR;rw[hg];rfl
    rw[hb,doP_begin hN hg t,Proc.bind_bind]
    have hs:zq15 ops f {t with pc:=1,sum:=0,seen:=[]}={t with pc:=1,sum:=0,seen:=[]}:=by
     cases f with
     |zero=>rfl
     |succ f=>unfold zq15;rw[if_neg (by simp)]
    rw[hs,then_eq]
    show((C,A),_)=((C,upd' A i t.ans),_)
    rw[←hA,upd_self]
    unfold treeOf
    rw[if_neg (by simp)]
    simp only[hop]
    rfl
end
structure OkT(N:Nat)(ops:List OpX)(t:RT):Prop where
 stand:t.pc≠0->∃op,ops[t.at']?=some op/\goodK op=true/\(op.k=1->t.pc=1)/\(op.k=2\/op.k=3->t.pc<=N)/\(op.k=4->t.pc<=2)/\(op.k=5->t.pc<=2*N/\t.seen.length=min (t.pc - 1) N)
section
variable {N i:Nat} {ops:List OpX}
theorem setlR_on{t:RT}(h:t.pc≠0):setlR ops t=t:=by
 unfold setlR zq15
 rw[if_neg h]
theorem end_tree(hN:0<N){t:RT}{C:List Int}{A:Nat->List Ans}(hA:A i=t.ans)(a:Ans){t1:RT}(h1:t1.at'=t.at')(h2:t1.ans=t.ans):
 (restP N i ops t.at' a) (C,A)=((C,upd' A i (setlR ops (endR t1 a)).ans),treeOf N i ops (setlR ops (endR t1 a))):=by
 have:=settle_tree (i:=i) (ops:=ops) hN (ops.length+1) (endR t1 a) C (upd' A i (A i++[a])) rfl (by show ops.length<ops.length+1+_;omega) (by rw[upd'_same,hA,←h2];rfl)
 rw[zq18]at this
 have e:(endR t1 a).at'=t.at'+1:=by show t1.at'+1=_;rw[h1]
 rw[e]at this
 exact this
theorem on_tree{op:OpX}{t t1:RT}{C:List Int}{A:Nat->List Ans}{q:Proc SS Ans}(hA:A i=t.ans)(hop:ops[t.at']?=some op)(h1:t1.at'=t.at')(h2:t1.ans=t.ans)(h3:t1.pc≠0)(hq:q=Proc.tick.bind λ_=>contP N op t1):
 (q.bind (restP N i ops t.at')) (C,A)=((C,upd' A i (setlR ops t1).ans),treeOf N i ops (setlR ops t1)):=by
 rw[setlR_on h3,hq,Proc.bind_bind,then_eq,h2,←hA,upd_self]
 unfold treeOf
 rw[if_neg h3,h1]
 simp only[hop]
theorem onL_bind{α β:Type}(f:List Int->List Int×α)(K:α->Proc SS β)(C:List Int)(A:Nat->List Ans):(((onL f).bind K):Proc SS β) (C,A)=K (f C).2 ((f C).1,A):=rfl
theorem addA_wrap{N:Nat}{a c:Int}{l:List Int}:addA N a (wrap64 (-c)) l=(l.set (idx a N) (IntKind.i64.wrap (l.getD (idx a N) 0 - c)),IntKind.i64.wrap (l.getD (idx a N) 0 - c)):=by
 have e:IntKind.i64.wrap (l.getD (idx a N) 0+wrap64 (-c))=IntKind.i64.wrap (l.getD (idx a N) 0 - c):=by
  rw[IntKind.wrap_i64,IntKind.wrap_i64]
  simp only[wrap64]
  omega
 unfold addA
 rw[e]
theorem step_tree(hN:0<N){op:OpX}{t:RT}{C:List Int}{A:Nat->List Ans}(hC:C.length=N)(hA:A i=t.ans)(hop:ops[t.at']?=some op)(hpc:t.pc≠0)(hO:OkT N ops t):
 ((contP N op t).bind (restP N i ops t.at')) (C,A)=(((stepR N op C t).1,upd' A i (setlR ops (stepR N op C t).2).ans),treeOf N i ops (setlR ops (stepR N op C t).2)):=by
 obtain⟨op',e,hg,o1,o2,o4,o5⟩:=hO.stand hpc
 rw[hop]at e
 obtain rfl:=Option.some.inj e
 unfold goodK at hg
 simp only[Bool.and_eq_true,decide_eq_true_eq]at hg
 have hidn:∀k:Nat,k<N->idx (k:Int) N=k:=λk hk=>by
  unfold idx
  rw[Int.emod_eq_of_lt (by omega) (by omega)]
  omega
 unfold contP stepR
 simp only
 by_cases h1:op.k=1
 · rw[if_pos h1,if_pos h1,Proc.bind_bind,onL_bind]
   exact end_tree hN hA _ rfl rfl
 rw[if_neg h1,if_neg h1]
 by_cases h2:op.k=2
 · have h23:op.k=2\/op.k=3:=.inl h2
   have h3:op.k≠3:=by omega
   have hp:=o2 h23
   rw[if_pos h2,if_pos h23,if_neg h3,Proc.bind_bind,onL_bind]
   simp only[getA,hidn (t.pc - 1) (by omega)]
   by_cases hk:t.pc - 1+1=N
   · rw[if_pos hk,show N - (t.pc - 1) - 1=0 by omega]
     exact end_tree hN hA _ rfl rfl
   · rw[if_neg hk]
     refine on_tree hA hop rfl rfl (by simp) ?_
     obtain⟨m,hm⟩:∃m,N - (t.pc - 1) - 1=m+1:=⟨N - (t.pc - 1) - 2,by omega⟩
     rw[hm,foldP,Proc.bind_bind,Proc.bind_bind]
     unfold contP
     simp only
     rw[if_neg h1,if_pos h2,show N - (t.pc - 1+2 - 1) - 1=m by omega,show t.pc - 1+2 - 1=t.pc - 1+1 by omega]
 rw[if_neg h2]
 by_cases h3:op.k=3
 · have h23:op.k=2\/op.k=3:=.inr h3
   have hp:=o2 h23
   rw[if_pos h3,if_pos h23,if_pos h3,Proc.bind_bind,onL_bind]
   simp only[takeA,hidn (t.pc - 1) (by omega)]
   by_cases hk:t.pc - 1+1=N
   · rw[if_pos hk,show N - (t.pc - 1) - 1=0 by omega]
     exact end_tree hN hA _ rfl rfl
   · rw[if_neg hk]
     refine on_tree hA hop rfl rfl (by simp) ?_
     obtain⟨m,hm⟩:∃m,N - (t.pc - 1) - 1=m+1:=⟨N - (t.pc - 1) - 2,by omega⟩
     rw[hm,foldP,Proc.bind_bind,Proc.bind_bind]
     unfold contP
     simp only
     rw[if_neg h1,if_neg h2,if_pos h3,show N - (t.pc - 1+2 - 1) - 1=m by omega,show t.pc - 1+2 - 1=t.pc - 1+1 by omega]
 rw[if_neg h3,if_neg (by omega:¬(op.k=2\/op.k=3))]
 by_cases h4:op.k=4
 · have hp:=o4 h4
   rw[if_pos h4,if_pos h4]
   by_cases hk:t.pc - 1=0
   · rw[if_pos hk,if_pos hk,Proc.bind_bind,onL_bind,addA_wrap]
     refine on_tree hA hop rfl rfl (by simp) ?_
     rw[addP,Proc.bind_bind]
     unfold contP
     simp only
     rw[if_neg h1,if_neg h2,if_neg h3,if_pos h4,if_neg (by omega)]
   · rw[if_neg hk,if_neg hk,Proc.bind_bind,onL_bind]
     exact end_tree hN hA _ rfl rfl
 rw[if_neg h4,if_neg h4]
 have h5:op.k=5:=by omega
 obtain⟨hp,hsl⟩:=o5 h5
 by_cases hk:t.pc - 1<N
 · rw[if_pos hk,if_pos hk,Proc.bind_bind,onL_bind]
   simp only[getA,hidn (t.pc - 1) hk]
   refine on_tree hA hop rfl rfl (by simp) ?_
   have hsl':(t.seen++[C.getD (t.pc - 1) 0]).length=t.pc - 1+1:=by simp;omega
   obtain⟨n',rfl⟩:∃n',N=n'+1:=⟨N - 1,by omega⟩
   by_cases hk2:t.pc - 1+1<n'+1
   · obtain⟨m,hm⟩:∃m,n'+1 - (t.pc - 1) - 1=m+1:=⟨n'+1 - (t.pc - 1) - 2,by omega⟩
     rw[hm,evenA,Proc.bind_bind,Proc.bind_bind]
     unfold contP
     simp only
     rw[if_neg h1,if_neg h2,if_neg h3,if_neg h4,if_pos (by omega),show n'+1 - (t.pc - 1+2 - 1) - 1=m by omega,show t.pc - 1+2 - 1=t.pc - 1+1 by omega]
   · have e0:n'+1 - (t.pc - 1) - 1=0:=by omega
     have e1:t.pc - 1+1=n'+1:=by omega
     rw[e0,evenA,e1,evenB,Proc.bind_bind,Proc.bind_bind]
     unfold contP
     simp only
     rw[if_neg h1,if_neg h2,if_neg h3,if_neg h4,if_neg (by omega),show t.pc - 1+2 - 1 - (n'+1)=0 by omega]
     rfl
 · rw[if_neg hk,if_neg hk,Proc.bind_bind,onL_bind]
   have hm:t.pc - 1 - N<N:=by omega
   simp only[getA,hidn _ hm]
   by_cases hv:C.getD (t.pc - 1 - N) 0=t.seen.getD (t.pc - 1 - N) 0
   · rw[if_pos hv,if_neg (by rw[hv];simp)]
     by_cases hl:t.pc - 1+1=2*N
     · rw[if_pos hl,show N - (t.pc - 1 - N) - 1=0 by omega]
       exact end_tree hN hA _ rfl rfl
     · rw[if_neg hl]
       refine on_tree hA hop rfl rfl (by simp) ?_
       obtain⟨m,hm2⟩:∃m,N - (t.pc - 1 - N) - 1=m+1:=⟨N - (t.pc - 1 - N) - 2,by omega⟩
       rw[hm2,evenB,Proc.bind_bind,Proc.bind_bind]
       unfold contP
       simp only
       rw[if_neg h1,if_neg h2,if_neg h3,if_neg h4,if_neg (by omega),show N - (t.pc - 1+2 - 1 - N) - 1=m by omega,show t.pc - 1+2 - 1 - N=t.pc - 1 - N+1 by omega]
   · rw[if_neg hv,if_pos hv]
     exact end_tree hN hA _ rfl rfl
end
structure RS where
 C:List Int
 T:Nat->RT
 ord:List Nat
def turnR(i:Nat)(r:List Int×RT)(a:RS)(ord:List Nat):RS:=⟨r.1,upd' a.T i r.2,ord⟩
def beginRS(ops:Nat->List OpX)(C:List Int):Nat->RS
 |0=>⟨C,λ_=>rt0,[]⟩
 |n+1=>turnR n ((beginRS ops C n).C,setlR (ops n) rt0) (beginRS ops C n) (beginRS ops C n).ord
def goR(NS:Nat)(ops:Nat->List OpX)(i:Nat)(a:RS):List Int×RT:=match (ops i)[(a.T i).at']? with
 |some op=>((stepR NS op a.C (a.T i)).1,setlR (ops i) (stepR NS op a.C (a.T i)).2)
 |none=>(a.C,a.T i)
def step1R(NS:Nat)(ops:Nat->List OpX)(N most:Nat)(x:Int)(a:RS):RS:=
 if x<0\/(N:Int)<=x\/(a.T x.toNat).pc=0\/a.ord.length=most then a else turnR x.toNat (goR NS ops x.toNat a) a (a.ord++[x.toNat])
def zq14(NS:Nat)(ops:Nat->List OpX)(N most:Nat)(l:List Int)(a:RS):RS:=l.foldl (λa x=>step1R NS ops N most x a) a
def ovR(a:RS)(i:Nat):Bool:=decide ((a.T i).pc=0)
def roundsR'(NS:Nat)(ops:Nat->List OpX)(N most:Nat):Nat->RS->RS
 |0,a=>a
 |f+1,a=>if 0<leftN (ovR a) N/\a.ord.length<most then roundsR' NS ops N most f (zq14 NS ops N most (upto N) a)else a
def playR(ops:Nat->List OpX)(N most:Nat)(l:List Int)(C:List Int):RS:=roundsR' C.length ops N most (most+1) (zq14 C.length ops N most l (beginRS ops C N))
section
variable {NS N most:Nat} {ops:Nat->List OpX}
structure RelR(NS n:Nat)(ops:Nat->List OpX)(a:TSt SS)(s:RS):Prop where
 c:a.s.1=s.C
 len:s.C.length=NS
 ans:∀i,a.s.2 i=(s.T i).ans
 thr:∀i,i<n->a.t i=treeOf NS i (ops i) (s.T i)/\a.ov i=decide ((s.T i).pc=0)/\OkT NS (ops i) (s.T i)
 un:∀i,n<=i->s.T i=rt0/\a.ov i=false
 ord:a.ord=s.ord
theorem tree_isRet{i:Nat}{op:List OpX}{t:RT}(h:OkT NS op t):(treeOf NS i op t).isRet=decide (t.pc=0):=by
 unfold treeOf
 by_cases hp:t.pc=0
 · rw[if_pos hp];simp[hp,Tree.isRet]
 · rw[if_neg hp]
   obtain⟨o,ho,_⟩:=h.stand hp
   simp only[ho]
   simp[treeThen,Tree.isRet,hp]
theorem ok_settle(hN:0<NS){l:List OpX}:∀(f:Nat)(t:RT),OkT NS l t->OkT NS l (zq15 l f t):=by
 intro f
 induction f with
 |zero=>exact λt h=>h
 |succ f ih=>
  intro t h
  unfold zq15
  split
  · split
    · rename_i op hop
      refine ih _ ⟨λhp=>?_⟩
      unfold beginR at hp ⊢
      cases hg:goodK op with
      |false=>rw[hg]at hp;exact absurd rfl hp
      |true=>exact⟨op,hop,hg,λ_=>rfl,λ_=>hN,λ_=>(by show 1<=2;decide),λ_=>⟨by show 1<=_;omega,by simp⟩⟩
    · exact h
  · exact h
theorem ok_step(hN:0<NS){l:List OpX}{op:OpX}{t:RT}{C:List Int}(h:OkT NS l t)(hp:t.pc≠0)(hop:l[t.at']?=some op):OkT NS l (stepR NS op C t).2:=by
 obtain⟨op',e,hg,o1,o2,o4,o5⟩:=h.stand hp
 rw[hop]at e
 obtain rfl:=Option.some.inj e
 have hg':=hg
 unfold goodK at hg'
 simp only[Bool.and_eq_true,decide_eq_true_eq]at hg'
 have ended:∀(t1:RT)(a:Ans),OkT NS l (endR t1 a):=λt1 a=>⟨λhp=>absurd rfl hp⟩
 unfold stepR
 simp only
 by_cases h1:op.k=1
 · rw[if_pos h1];exact ended _ _
 rw[if_neg h1]
 by_cases h2:op.k=2\/op.k=3
 · rw[if_pos h2]
   have hb:=o2 h2
   by_cases hk:t.pc - 1+1=NS
   · rw[if_pos hk];exact ended _ _
   · rw[if_neg hk]
     exact⟨λ_=>⟨op,hop,hg,λx=>by omega,λ_=>by show t.pc - 1+2<=NS;omega,λx=>by omega,λx=>by omega⟩⟩
 rw[if_neg h2]
 by_cases h4:op.k=4
 · rw[if_pos h4]
   by_cases hk:t.pc - 1=0
   · rw[if_pos hk]
     exact⟨λ_=>⟨op,hop,hg,λx=>by omega,λx=>by omega,λ_=>by show t.pc - 1+2<=2;omega,λx=>by omega⟩⟩
   · rw[if_neg hk];exact ended _ _
 rw[if_neg h4]
 obtain⟨hb,hs⟩:=o5 (by omega)
 by_cases hk:t.pc - 1<NS
 · rw[if_pos hk]
   exact⟨λ_=>⟨op,hop,hg,λx=>by omega,λx=>by omega,λx=>by omega,λ_=>⟨by show t.pc - 1+2<=2*NS;omega,by show(t.seen++[_]).length=min (t.pc - 1+2 - 1) NS;simp;omega⟩⟩⟩
 · rw[if_neg hk]
   by_cases hv:C.getD (t.pc - 1 - NS) 0≠t.seen.getD (t.pc - 1 - NS) 0
   · rw[if_pos hv];exact ended _ _
   · rw[if_neg hv]
     by_cases hl:t.pc - 1+1=2*NS
     · rw[if_pos hl];exact ended _ _
     · rw[if_neg hl]
       exact⟨λ_=>⟨op,hop,hg,λx=>by omega,λx=>by omega,λx=>by omega,λ_=>⟨by show t.pc - 1+2<=2*NS;omega,by show t.seen.length=min (t.pc - 1+2 - 1) NS;omega⟩⟩⟩
theorem stepR_len(op:OpX)(C:List Int)(t:RT):(stepR NS op C t).1.length=C.length:=by
 unfold stepR
 simp only
 repeat' split
 all_goals simp
theorem rel_turn{n i:Nat}{a:TSt SS}{s:RS}(h:RelR NS n ops a s)(hi:i<=n){C':List Int}{t':RT}{ord':List Nat}(hl:C'.length=NS)(hok:OkT NS (ops i) t')(hov:a.ov i=false):
 RelR NS (max n (i+1)) ops (turnT i ((C',upd' a.s.2 i t'.ans),treeOf NS i (ops i) t') a ord') (turnR i (C',t') s ord'):=by
 refine⟨rfl,hl,λj=>?_,λj hj=>?_,λj hj=>?_,rfl⟩
 · show upd' a.s.2 i t'.ans j=(upd' s.T i t' j).ans
   by_cases e:j=i
   · subst e;simp
   · rw[zql _ _ e,zql _ _ e];exact h.ans j
 · show upd' a.t i (treeOf NS i (ops i) t') j=treeOf NS j (ops j) (upd' s.T i t' j)/\(if(treeOf NS i (ops i) t').isRet then(λj=>if j=i then true else a.ov j)else a.ov) j=decide ((upd' s.T i t' j).pc=0)/\OkT NS (ops j) (upd' s.T i t' j)
   rw[tree_isRet hok]
   by_cases e:j=i
   · subst e
     rw[upd'_same,upd'_same]
     refine⟨rfl,?_,hok⟩
     by_cases hp:t'.pc=0
     · simp[hp]
     · simp[hp,hov]
   · rw[zql _ _ e,zql _ _ e]
     obtain⟨k1,k2,k3⟩:=h.thr j (by omega)
     refine⟨k1,?_,k3⟩
     rw[←k2]
     split
     · simp[e]
     · rfl
 · show upd' s.T i t' j=rt0/\(if(treeOf NS i (ops i) t').isRet then(λj=>if j=i then true else a.ov j)else a.ov) j=false
   have e:j≠i:=by omega
   rw[zql _ _ e]
   obtain⟨k1,k2⟩:=h.un j (by omega)
   refine⟨k1,?_⟩
   split
   · simp[e,k2]
   · exact k2
theorem rel_begin(hN:0<NS){C:List Int}(hC:C.length=NS):∀n,RelR NS n ops (beginT (λi=>opsP i (doP NS) (ops i)) (C,λ_=>[]) n) (beginRS ops C n):=by
 intro n
 induction n with
 |zero=>exact⟨rfl,hC,λ_=>rfl,λi hi=>absurd hi (Nat.not_lt_zero _),λi _=>⟨rfl,rfl⟩,rfl⟩
 |succ n ih=>
  have hs:=settle_tree (N:=NS) (i:=n) (ops:=ops n) hN ((ops n).length+1) rt0 (beginT (λi=>opsP i (doP NS) (ops i)) (C,λ_=>[]) n).s.1 (beginT (λi=>opsP i (doP NS) (ops i)) (C,λ_=>[]) n).s.2 rfl (by show _<_+1+0;omega) (by rw[ih.ans n,(ih.un n (Nat.le_refl _)).1])
  have hs':opsP n (doP NS) (ops n) (beginT (λi=>opsP i (doP NS) (ops i)) (C,λ_=>[]) n).s=(((beginT (λi=>opsP i (doP NS) (ops i)) (C,λ_=>[]) n).s.1,upd' (beginT (λi=>opsP i (doP NS) (ops i)) (C,λ_=>[]) n).s.2 n (setlR (ops n) rt0).ans),treeOf NS n (ops n) (setlR (ops n) rt0)):=hs
  show RelR NS (n+1) ops (turnT n (opsP n (doP NS) (ops n) (beginT (λi=>opsP i (doP NS) (ops i)) (C,λ_=>[]) n).s) _ _) (turnR n _ _ _)
  rw[hs',ih.ord,ih.c]
  have:=rel_turn ih (Nat.le_refl n) (C':=(beginRS ops C n).C) (t':=setlR (ops n) rt0) (ord':=(beginRS ops C n).ord) ih.len (ok_settle hN _ _ ⟨λh=>absurd rfl h⟩) (ih.un n (Nat.le_refl _)).2
  rwa [show max n (n+1)=n+1 by omega]at this
theorem rel_step1(hN:0<NS){x:Int}{a:TSt SS}{s:RS}(h:RelR NS N ops a s):RelR NS N ops (step1T N most x a) (step1R NS ops N most x s):=by
 unfold step1T step1R
 by_cases hx:x<0\/(N:Int)<=x
 · rw[if_pos (by rcases hx with hx|hx;exact .inl hx;exact .inr (.inl hx)),if_pos (by rcases hx with hx|hx;exact .inl hx;exact .inr (.inl hx))]
   exact h
 · have hi:x.toNat<N:=by omega
   obtain⟨k1,k2,k3⟩:=h.thr x.toNat hi
   by_cases hp:(s.T x.toNat).pc=0
   · rw[if_pos (.inr (.inr (.inl (by rw[k2];simp[hp])))),if_pos (.inr (.inr (.inl hp)))]
     exact h
   · have hov:a.ov x.toNat=false:=by rw[k2];simp[hp]
     by_cases hm:s.ord.length=most
     · rw[if_pos (.inr (.inr (.inr (by rw[h.ord];exact hm)))),if_pos (.inr (.inr (.inr hm)))]
       exact h
     · rw[if_neg (by rw[h.ord,hov];rintro(e|e|e|e);exact hx (.inl e);exact hx (.inr e);cases e;exact hm e),if_neg (by rintro(e|e|e|e);exact hx (.inl e);exact hx (.inr e);exact hp e;exact hm e)]
       obtain⟨op,hop,_⟩:=k3.stand hp
       have hst:=step_tree (i:=x.toNat) (A:=a.s.2) hN h.len (h.ans x.toNat) hop hp k3
       have hgo:goT (a.t x.toNat) a.s=(((stepR NS op s.C (s.T x.toNat)).1,upd' a.s.2 x.toNat (setlR (ops x.toNat) (stepR NS op s.C (s.T x.toNat)).2).ans),treeOf NS x.toNat (ops x.toNat) (setlR (ops x.toNat) (stepR NS op s.C (s.T x.toNat)).2)):=by
        rw[←hst,k1]
        unfold treeOf
        rw[if_neg hp]
        simp only[hop]
        have e:a.s=(s.C,a.s.2):=Prod.ext h.c rfl
        rw[e]
        rfl
       have hgR:goR NS ops x.toNat s=((stepR NS op s.C (s.T x.toNat)).1,setlR (ops x.toNat) (stepR NS op s.C (s.T x.toNat)).2):=by
        unfold goR
        simp only[hop]
       rw[hgo,hgR,h.ord]
       have:=rel_turn h (Nat.le_of_lt hi) (C':=(stepR NS op s.C (s.T x.toNat)).1) (t':=setlR (ops x.toNat) (stepR NS op s.C (s.T x.toNat)).2) (ord':=s.ord++[x.toNat]) (by rw[stepR_len];exact h.len) (ok_settle hN _ _ (ok_step hN k3 hp hop)) hov
       rwa [show max N (x.toNat+1)=N by omega]at this
theorem rel_steps(hN:0<NS):∀(l:List Int){a:TSt SS}{s:RS},RelR NS N ops a s->RelR NS N ops (stepsT N most l a) (zq14 NS ops N most l s):=by
 intro l
 induction l with
 |nil=>exact λh=>h
 |cons x l ih=>exact λh=>ih (rel_step1 hN h)
theorem rel_left{a:TSt SS}{s:RS}(h:RelR NS N ops a s):leftN a.ov N=leftN (ovR s) N:=leftN_congr λi hi=>(h.thr i hi).2.1
theorem rel_rounds(hN:0<NS):∀(f:Nat){a:TSt SS}{s:RS},RelR NS N ops a s->RelR NS N ops (roundsT N most f a) (roundsR' NS ops N most f s):=by
 intro f
 induction f with
 |zero=>exact λh=>h
 |succ f ih=>
  intro a s h
  unfold roundsT roundsR'
  rw[rel_left h,h.ord]
  split
  · exact ih (rel_steps hN _ h)
  · exact h
theorem play_ref{C:List Int}(hN:0<C.length)(l:List Int):RelR C.length N ops (playT (λi=>opsP i (doP C.length) (ops i)) N most l (C,λ_=>[])) (playR ops N most l C):=rel_rounds hN _ (rel_steps hN _ (rel_begin hN rfl N))
end
end Go.Proofs
set_option maxHeartbeats 1000000
namespace Go.Car
open Go Go.Conc Go.RowKit
def RecRow(w:World)(B:Nat)(T:TypeId)(k:Nat)(v:Value)(n:Nat)(f:Nat->Nat->Value):Prop:=
 ∃xs,w.ownsRow B T k v n xs/\∀i j,i<n->j<k->xs[i*k+j]?=some (f i j)
section
variable {w w':World} {B k n:Nat} {T:TypeId} {v:Value} {f:Nat->Nat->Value}
theorem rec_idx{i j i' j' k:Nat}(hj:j<k)(hj':j'<k)(h:i*k+j=i'*k+j'):i=i'/\j=j':=by
 have h1:(i*k+j) / k=i:=by rw[Nat.mul_comm,Nat.mul_add_div (by omega),Nat.div_eq_of_lt hj];omega
 have h2:(i'*k+j') / k=i':=by rw[Nat.mul_comm,Nat.mul_add_div (by omega),Nat.div_eq_of_lt hj'];omega
 have:i=i':=by rw[←h1,←h2,h]
 subst this
 exact⟨rfl,by omega⟩
theorem rec_lt{i j n k:Nat}(hi:i<n)(hj:j<k):i*k+j<n*k:=by
 have:i*k+k<=n*k:=by rw[←Nat.succ_mul];exact Nat.mul_le_mul_right k hi
 omega
theorem RecRow.nil (w:World)(B:Nat)(T:TypeId)(k:Nat)(f:Nat->Nat->Value):RecRow w B T k (.slice none 0 0) 0 f:=⟨[],World.ownsRow_nil _ _ _ _,λi j hi=>absurd hi (Nat.not_lt_zero _)⟩
theorem RecRow.of (h:RecRow w B T k v n f)(hs:∀g,v.ownBlock=some g->w'.heap[g]?=w.heap[g]?):RecRow w' B T k v n f:=by
 obtain⟨xs,h1,h2⟩:=h
 exact⟨xs,zqy h1 hs,h2⟩
theorem RecRow.lt (h:RecRow w B T k v n f){g:Nat}(hg:v.ownBlock=some g):(∃c,w.heap[g]?=some (.cells c T))/\B<=g/\g<w.heap.size:=by
 obtain⟨xs,h1,_⟩:=h
 exact own_lt h1 hg
theorem RecRow.form (h:RecRow w B T k v n f):∃p C,v=.slice p n C/\(0<n->∃g,p=some ⟨g,0,none⟩/\v.ownBlock=some g):=by
 obtain⟨xs,h1,_⟩:=h
 rcases h1.2 with⟨hv,h0⟩|⟨g,cap,cur,hv,_⟩
 · subst h0;exact⟨none,0,hv,λh=>absurd h (Nat.lt_irrefl _)⟩
 · exact⟨_,cap,hv,λ_=>⟨g,rfl,by rw[hv];rfl⟩⟩
theorem RecRow.cell {g C:Nat}(h:RecRow w B T k (.slice (some ⟨g,0,none⟩) n C) n f){i j:Nat}(hi:i<n)(hj:j<k):w.cell? ⟨g,i*k+j,none⟩=some (f i j)/\w.frozen? ⟨g,i*k+j,none⟩=false:=by
 obtain⟨xs,h1,h2⟩:=h
 rcases h1.2 with⟨hv,_⟩|⟨g2,cap,cur,hv,hb,hh,e1,e2,e3,e4⟩
 · cases hv
 · cases hv
   refine⟨?_,zqe hh⟩
   rw[zq0 (off:=i*k+j) hh]
   have h3:=h2 i j hi hj
   rw[←e4,List.getElem?_take,if_pos (rec_lt hi hj)]at h3
   simpa using h3
theorem RecRow.set {g C:Nat}(h:RecRow w B T k (.slice (some ⟨g,0,none⟩) n C) n f){i j:Nat}(hi:i<n)(hj:j<k)(x:Value):RecRow (w.setCell ⟨g,i*k+j,none⟩ x) B T k (.slice (some ⟨g,0,none⟩) n C) n (λa b=>if a=i/\b=j then x else f a b):=by
 obtain⟨xs,h1,h2⟩:=h
 have hlen:=h1.1
 rcases h1.2 with⟨hv,_⟩|⟨g2,cap2,cur,hv,e1,e2,e3,e4,e5,e6⟩
 · cases hv
 · cases hv
   refine⟨xs.set (i*k+j) x,⟨by rw[List.length_set];exact hlen,.inr ⟨g,C,cur.setIfInBounds (i*k+j) x,rfl,e1,zqb _ _ _ _ e2,e3,e4,by simpa using e5,?_⟩⟩,λa b ha hb=>?_⟩
   · rw[←e6,Array.toList_setIfInBounds,List.take_set]
   · by_cases e:a=i/\b=j
     · obtain⟨rfl,rfl⟩:=e
       simp only[and_self,if_true]
       rw[List.getElem?_set_self (by rw[hlen];exact rec_lt ha hb)]
     · simp only[if_neg e]
       rw[List.getElem?_set_ne (λe2=>e (by obtain⟨r1,r2⟩:=rec_idx hj hb e2;exact⟨r1.symm,r2.symm⟩)),h2 a b ha hb]
theorem RecRow.push {xs cs:List Value}{v':Value}(h:w.ownsRow B T k v n xs)(h2:∀i j,i<n->j<k->xs[i*k+j]?=some (f i j))(h3:w'.ownsRow B T k v' (n+1) (xs++cs))(hc:cs.length=k)(F:Nat->Nat->Value)(hF:∀i j,i<n->j<k->F i j=f i j)(hn:∀j,j<k->cs[j]?=some (F n j)):RecRow w' B T k v' (n+1) F:=by
 refine⟨xs++cs,h3,λi j hi hj=>?_⟩
 have hl:=h.1
 by_cases e:i=n
 · subst e
   rw[List.getElem?_append_right (by omega),hl]
   rw[show i*k+j - i*k=j by omega]
   exact hn j hj
 · have:=rec_lt (show i<n by omega) hj
   rw[List.getElem?_append_left (by omega),h2 i j (by omega) hj,hF i j (by omega) hj]
theorem RecRow.congr (h:RecRow w B T k v n f){F:Nat->Nat->Value}(hF:∀i j,i<n->j<k->F i j=f i j):RecRow w B T k v n F:=by
 obtain⟨xs,h1,h2⟩:=h
 exact⟨xs,h1,λi j hi hj=>by rw[h2 i j hi hj,hF i j hi hj]⟩
end
def zq1d(l:List Ans):List Value:=l.flatMap λa=>[.bool a.ok,.int .i64 a.n,.slice none 0 0]
theorem ansCells_snoc(l:List Ans)(a:Ans):zq1d (l++[a])=zq1d l++[.bool a.ok,.int .i64 a.n,.slice none 0 0]:=by simp[zq1d]
theorem ansCells_get:∀(l:List Ans)(i:Nat)(a:Ans),l[i]?=some a->(zq1d l)[i*3]?=some (.bool a.ok)/\(zq1d l)[i*3+1]?=some (.int .i64 a.n)/\(zq1d l)[i*3+2]?=some (.slice none 0 0)
 |[],_,_,h=>by simp at h
 |x::l,0,a,h=>by
  simp only[al_g0,al_oi]at h
  subst h
  exact⟨rfl,rfl,rfl⟩
 |x::l,i+1,a,h=>by
  simp only[al_g1]at h
  obtain⟨h1,h2,h3⟩:=ansCells_get l i a h
  have e:∀j,(zq1d (x::l))[(i+1)*3+j]?=(zq1d l)[i*3+j]?:=λj=>by
   rw[show(i+1)*3+j=3+(i*3+j)by omega]
   show([_,_,_]++zq1d l)[3+(i*3+j)]?=_
   rw[List.getElem?_append_right (by simp)]
   simp
  exact⟨(e 0).trans h1,(e 1).trans h2,(e 2).trans h3⟩
end Go.Car
