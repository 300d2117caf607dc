/- YtnjpcibdaanpeaaSBound10: part 4 of the proof (the texts behind it, in order). -/
import Derived.Test.YtnjpcibdaanpeaaL03
set_option linter.unusedSimpArgs false
set_option linter.unusedVariables false
set_option linter.unusedSectionVars false
set_option linter.unnecessarySimpa false
set_option maxHeartbeats 1000000
set_option maxRecDepth 100000
namespace Go.Proofs
open Go Go.Conc Go.RowKit Go.Car
theorem load_lone(ad:Addr)(x:Int)(w:World)(h0:w.cell? ad=some (.int .i64 x)):
 Calls Try.prog 32 #[.pointer (some ad)] w λe w'=>e=.returned (.int .i64 x)/\w'=w:=by
 have hl:=run_call_load (P:=Try.prog) Try.func43 (by kernel_rfl) (by kernel_rfl) (by kernel_rfl) .i64 (by kernel_rfl) h0
 go_enter Try.func32,Try.ntmps32
 go_wp2;go_ret;exact⟨rfl,rfl⟩
theorem store_lone(ad:Addr)(x y:Int)(w:World)(h0:w.cell? ad=some (.int .i64 x))(f0:w.frozen? ad=false):
 Calls Try.prog 36 #[.pointer (some ad),.int .i64 y] w λe w'=>e=.returned (.tuple #[])/\w'=w.setCell ad (.int .i64 y):=by
 have hl:=run_call_store (P:=Try.prog) Try.func46 (by kernel_rfl) (by kernel_rfl) (by kernel_rfl) (by kernel_rfl) (k:=.i64) (y:=y) h0 f0
 go_enter Try.func36,Try.ntmps36
 go_wp2
 go_end0
 exact⟨rfl,rfl⟩
theorem add_lone(ad:Addr)(x y:Int)(w:World)(h0:w.cell? ad=some (.int .i64 x))(f0:w.frozen? ad=false):
 Calls Try.prog 34 #[.pointer (some ad),.int .i64 y] w λe w'=>e=.returned (.int .i64 (IntKind.i64.wrap (x+y)))/\w'=w.setCell ad (.int .i64 (IntKind.i64.wrap (x+y))):=by
 have hl:=run_call_add (P:=Try.prog) Try.func44 (by kernel_rfl) (by kernel_rfl) (by kernel_rfl) .i64 (by kernel_rfl) (y:=y) (s:=IntKind.i64.wrap (x+y)) h0 f0 (by rfl)
 go_enter Try.func34,Try.ntmps34
 go_wp2;go_ret;have hw:wrap64 (x+y)=IntKind.i64.wrap (x+y):=by rw[IntKind.wrap_i64];simp only[wrap64]
 rw[hw];exact⟨rfl,rfl⟩
theorem run_call_swap{P:Program}{f:FuncId}{fn:Func}(hf:P.funcs[f]?=some fn)(hname:(fn.name== "runtime.NumGoroutine")=false)(hb:fn.body.isNone=true)(hn:Extern.findNext fn=none)(k:IntKind)
 (he:Extern.find fn=some (Extern.Atomic.swapT (.int k))) {a:Addr} {x y:Int} {w:World} (hc:w.cell? a=some (.int k x)) (hz:w.frozen? a=false):
 (callFunc f #[.pointer (some a),.int k y]).run P w=.ok (.value (.int k x)) (w.setCell a (.int k y)):=by
 rw[run_callFunc_extern hf hname hb hn he];change (Sem.run P (do
  let a'←asAddr (.pointer (some a))
  let old←Extern.Atomic.read (.int k) a'
  store a' (.int k y) .atomic
  pure old) w).andThen _=_
 simp[Extern.Atomic.read,asAddr,asInt,asIntOf,hc,hz,run_store P w a (.int k y) .atomic rfl,Result.andThen]
theorem swap_lone(ad:Addr)(x y:Int)(w:World)(h0:w.cell? ad=some (.int .i64 x))(f0:w.frozen? ad=false):
 Calls Try.prog 35 #[.pointer (some ad),.int .i64 y] w λe w'=>e=.returned (.int .i64 x)/\w'=w.setCell ad (.int .i64 y):=by
 have hl:=run_call_swap (P:=Try.prog) Try.func45 (by kernel_rfl) (by kernel_rfl) (by kernel_rfl) .i64 (by kernel_rfl) (y:=y) h0 f0
 go_enter Try.func35,Try.ntmps35
 go_wp2;go_ret;exact⟨rfl,rfl⟩
section
variable {M2 S2:Type} {D:Core M2 S2} {ro:Nat->Option Obj} {i:Nat} {cb:Nat} {z:Option Nat} {N:Nat} {m:BM (List Int×M2)} {wc:World}
theorem str_moved(hB:BRep (prodCore (strCore cb z N) D) ro m wc)(a x:Int)(τ:Nat->Question->Nat)(d:Nat)(τ':Nat->Question->Nat)(d':Nat):Moved (prodCore (strCore cb z N) D) m.l (m.box i) wc (m.l.1.set (idx a N) x,m.l.2) (m.box i) (re ((re wc τ d).setCell (loc cb z N a) (.int .i64 x)) τ' d'):=by
 have hf:=loc_foot cb z N a;have hS:StrRep cb z N m.l.1 (re wc τ d):=(strCore cb z N).frame _ _ _ hB.core.1 λ_ _=>rfl;have hset:StrRep cb z N (m.l.1.set (idx a N) x) ((re wc τ d).setCell (loc cb z N a) (.int .i64 x)):=hS.set a x;refine Moved.left hB ⟨?_,λb hb h1 h2=>?_,(strCore cb z N).frame _ _ _ hset λ_ _=>rfl,λb o hb=>?_,λb hb=>.inl hb,λb hb=>.inl hb,λb hb=>?_,rfl⟩
 · show wc.heap.size<=((re wc τ d).setCell _ _).heap.size;rw[hp_size_set];exact Nat.le_refl _
 · show((re wc τ d).setCell _ _).heap[b]?=_;rw[hp_set_ne _ _ _ _ (λe=>h1 (by subst e;exact hf))];rfl
 · show((re wc τ d).setCell _ _).heap[b]?=_;have hn:m.box i b≠none:=by rw[hb];simp
   rw[hp_set_ne _ _ _ _ (λe=>hB.apart i b hn (.inl (by subst e;exact hf)))];exact hB.box i b o hb
 · exact Classical.byContradiction λx=>hB.apart i b x (.inl hb)
theorem str_at(hB:BRep (prodCore (strCore cb z N) D) ro m wc)(τ:Nat->Question->Nat)(d:Nat):StrRep cb z N m.l.1 (re wc τ d):=(strCore cb z N).frame _ _ _ hB.core.1 λ_ _=>rfl
end
def getA(N:Nat)(a:Int)(l:List Int):List Int×Int:=(l,l.getD (idx a N) 0)
def addA(N:Nat)(a v:Int)(l:List Int):List Int×Int:=(l.set (idx a N) (IntKind.i64.wrap (l.getD (idx a N) 0+v)),IntKind.i64.wrap (l.getD (idx a N) 0+v))
def takeA(N:Nat)(a:Int)(l:List Int):List Int×Int:=(l.set (idx a N) 0,l.getD (idx a N) 0)
def onL{S1 S2 α:Type}(f:S1->S1×α):Proc (S1×S2) α:=Proc.act λs=>(((f s.1).1,s.2),(f s.1).2)
section
variable {M2 S2 β:Type} {D:Core M2 S2} {ro:Nat->Option Obj} {i:Nat} {cb:Nat} {z:Option Nat} {N:Nat}
structure StrAtoms(Y:YSys Try.prog aM (prodCore (strCore cb z N) D) ro i β)(sv:Value):Prop where
 pos:0<N
 le:N<=64
 head:∀B wc,Y.KnB B wc->HeadAt cb z N wc
 step:StepY Y 33 #[sv]
 load:∀a,SpecY Y 32 #[.pointer (some (loc cb z N a))] (onL (getA N a)) (λx=>.int .i64 x)
 add:∀a v,SpecY Y 34 #[.pointer (some (loc cb z N a)),.int .i64 v] (onL (addA N a v)) (λx=>.int .i64 x)
 swap:∀a,SpecY Y 35 #[.pointer (some (loc cb z N a)),.int .i64 0] (onL (takeA N a)) (λx=>.int .i64 x)
theorem atoms_of_alone(Z:Alone Try.prog aM (prodCore (strCore cb z N) D) ro i β){I:List Int×S2->Prop}(hI:∀l l' s,I (l,s)->I (l',s))(hO:∀l l' s,Z.Oth (l,s) (l',s)){sv:Value}(hp:0<N)(hl:N<=64)(hs:StepY (Z.sys I) 33 #[sv]):StrAtoms (Z.sys I) sv where
 pos:=hp
 le:=hl
 head B wc:=by
  rintro⟨m,_,h⟩;have h':BRep (prodCore (strCore cb z N) D) ro m wc:=h;exact h'.core.1.head
 step:=hs
 load a:=by
  refine Z.act Try.func32 rfl (by kernel_rfl) (λs h=>h) (λs=>Z.oth s) λm wc hB=>Calls.mono (load_lone _ _ wc ((str_at hB wc.tape wc.drawn).cell a)) ?_;rintro e w' ⟨rfl,rfl⟩;exact⟨m.l,Moved.ext hB (Ext.refl _),rfl,rfl⟩
 add a v:=by
  refine Z.act Try.func34 rfl (by kernel_rfl) (λs h=>hI _ _ _ h) (λs=>hO _ _ _) λm wc hB=>Calls.mono (add_lone _ _ v wc ((str_at hB wc.tape wc.drawn).cell a) ((str_at hB wc.tape wc.drawn).frozen a)) ?_;rintro e w' ⟨rfl,rfl⟩;exact⟨_,str_moved hB a _ wc.tape wc.drawn _ _,rfl,rfl⟩
 swap a:=by
  refine Z.act Try.func35 rfl (by kernel_rfl) (λs h=>hI _ _ _ h) (λs=>hO _ _ _) λm wc hB=>Calls.mono (swap_lone _ _ 0 wc ((str_at hB wc.tape wc.drawn).cell a) ((str_at hB wc.tape wc.drawn).frozen a)) ?_;rintro e w' ⟨rfl,rfl⟩;exact⟨_,str_moved hB a _ wc.tape wc.drawn _ _,rfl,rfl⟩
theorem StrAtoms.stripe {Y:YSys Try.prog aM (prodCore (strCore cb z N) D) ro i β}{sv:Value}(h:StrAtoms Y sv)(a:Int):PureY Y 31 #[.pointer (some ⟨cb,0,none⟩),.int .i64 a] (.pointer (some (loc cb z N a))):=by
 refine PureY.of Try.func31 rfl (by kernel_rfl) λB wc hB=>Calls.mono (stripe_lone (h.head B wc hB) a) ?_;rintro e w' ⟨rfl,τ,d,rfl⟩;exact⟨Ext1.re _ _ _,rfl⟩
end
set_option maxHeartbeats 400000
set_option maxRecDepth 100000
def addP{S2:Type}(N:Nat)(a v:Int):Proc (List Int×S2) Int:=Proc.tick.bind λ_=>onL (addA N a v)
section
variable {M2 S2 β:Type} {D:Core M2 S2} {ro:Nat->Option Obj} {i:Nat} {cb:Nat} {z:Option Nat} {N:Nat}
theorem add_spec(Y:YSys Try.prog aM (prodCore (strCore cb z N) D) ro i β){sv:Value}(hst:StrAtoms Y sv)(a v:Int):
 SpecB Y 21 #[.pointer (some ⟨cb,0,none⟩),sv,.int .i64 a,.int .i64 v] (addP N a v) (λx=>.int .i64 x):=by
 refine SpecB.of Try.func21 rfl ?_;intro K s B w hK hA;simp only[enterAct,Try.ntmps21,List.size_toArray,List.length_cons,List.length_nil,Nat.reduceAdd,Nat.reduceSub,Array.replicate_succ,Array.replicate_zero,List.push_toArray,List.append_toArray,List.nil_append,List.cons_append];apply YSys.seq0 hA (by kernel_rfl)
 · intro wc hB;go_wp2;exact⟨rfl,Ext1.refl _,rfl⟩
 intro w hA;apply YSys.seq0 hA (by kernel_rfl)
 · intro wc hB;go_wp2;exact⟨rfl,Ext1.refl _,rfl⟩
 intro w hA;refine wpY_seq Y.jc (wpY_region Y.jc ?_);rw[addP,Proc.bind_bind]at hA;apply YSys.callS 0 1 0 hA hst.step rfl rfl rfl (by rfl) rfl rfl rfl
 · intro wc hB X hX;have HX:=Lib.hid hX;clear hX;go_wp2;exact HX.out _ (Ext1.refl _)
 · intro w;simp[go_sem,execOp,Act.eval,resolve,Deferred.ofValue,invoke,callFunc,Try.func33,Try.f33]
 · intro w;simp[go_sem,execOp,Act.eval,resolve,Deferred.ofValue,invoke,callFunc,Try.func33,Try.f33]
 · intro s' ch w' h;exact⟨rfl,h⟩
 intro s w hA;refine opsC_nil Y.jc ?_;show wpJ Y.J _ _ _ _ _;refine wpY_seq Y.jc (wpY_region Y.jc ?_);apply YSys.callP 0 2 3 hA (hst.stripe a) rfl rfl rfl (by rfl) rfl rfl rfl
 · intro wc hB X hX;have HX:=Lib.hid hX;clear hX;go_wp2;exact HX.out _ (Ext1.refl _)
 · intro w;simp[go_sem,execOp,Act.eval,resolve,Deferred.ofValue,invoke,callFunc,Try.func31,Try.f31]
 · intro w;simp[go_sem,execOp,Act.eval,resolve,Deferred.ofValue,invoke,callFunc,Try.func31,Try.f31]
 intro w hA;apply YSys.callR 3 1 1 hA (hst.add a v) (λ_=>hK _) rfl rfl rfl (by rfl) rfl rfl rfl
 · intro wc hB X hX;have HX:=Lib.hid hX;clear hX;go_wp2;exact HX.out _ (Ext1.refl _)
 · intro w;simp[go_sem,execOp,Act.eval,resolve,Deferred.ofValue,invoke,callFunc,Try.func34,Try.f34]
 · intro w;simp[go_sem,execOp,Act.eval,resolve,Deferred.ofValue,invoke,callFunc,Try.func34,Try.f34]
 · intro s' ch w' h;exact⟨rfl,h⟩
 intro s x w hA;apply YSys.ops0 5 1 hA rfl rfl (by kernel_rfl)
 · intro wc hB;go_wp2;exact⟨rfl,Ext1.refl _,rfl⟩
 intro w hA;show wpJ Y.J _ _ _ _ _;refine wpY_ret Y.jc ?_;exact⟨rfl,.inl ⟨_,resultsC_tmp rfl _,_,rfl,hA⟩⟩
end
def foldP{S2:Type}(g:Nat->Int->List Int->List Int×Int)(N:Nat):Nat->Nat->Int->Proc (List Int×S2) Int
 |0,_,acc=>Proc.ret acc
 |n+1,k,acc=>(Proc.tick.bind λ_=>onL (g N k)).bind λx=>foldP g N n (k+1) (wrap64 (acc+x))
def sumP{S2:Type}(N:Nat):Proc (List Int×S2) Int:=foldP getA N N 0 0
def takeP{S2:Type}(N:Nat):Proc (List Int×S2) Int:=foldP takeA N N 0 0
section
variable {M2 S2 β:Type} {D:Core M2 S2} {ro:Nat->Option Obj} {i:Nat} {cb:Nat} {z:Option Nat} {N:Nat}
theorem foldP_sil(Y:YSys Try.prog aM (prodCore (strCore cb z N) D) ro i β){g:Nat->Int->List Int->List Int×Int}{K:Int->Proc (List Int×S2) β}(hK:∀a,Y.sil (K a))(n k:Nat)(acc:Int):Y.sil ((foldP g N n k acc).bind K):=by
 cases n with
 |zero=>exact hK acc
 |succ n=>rw[foldP,Proc.bind_bind,Proc.bind_bind];exact Y.sil_tick _
theorem sum_spec(Y:YSys Try.prog aM (prodCore (strCore cb z N) D) ro i β){sv:Value}(hst:StrAtoms Y sv):
 SpecB Y 22 #[.pointer (some ⟨cb,0,none⟩),sv] (sumP N) (λx=>.int .i64 x):=by
 have hp:=hst.pos;have hle:=hst.le;refine SpecB.of Try.func22 rfl ?_;intro K s B w hK hA;simp only[enterAct,Try.ntmps22,List.size_toArray,List.length_cons,List.length_nil,Nat.reduceAdd,Nat.reduceSub,Array.replicate_succ,Array.replicate_zero,List.push_toArray,List.append_toArray,List.nil_append,List.cons_append];apply YSys.seq0 hA (by kernel_rfl)
 · intro wc hB;go_wp2;exact⟨rfl,Ext1.refl _,rfl⟩
 intro w hA;apply YSys.seq0 hA (by kernel_rfl)
 · intro wc hB;go_wp2;exact⟨rfl,Ext1.refl _,rfl⟩
 intro w hA;refine wpY_seq Y.jc ?_;apply YSys.seq0 hA (by kernel_rfl)
 · intro wc hB
   go_wp2_with (fail)
   refine Calls.mono (stripes_lone (hst.head _ _ hB)) ?_;rintro e w' ⟨rfl,rfl⟩;go_wp2;exact⟨rfl,Ext1.refl _,rfl⟩
 intro w hA;refine wpY_block Y.jc (wpY_loop Y.jc (λs a w n=>∃(k:Nat)(acc:Int)(x2 x3 x6 x10 x11 x12 x13 x14 x15 x16 x17 x18 x19 x20 x21:Value),k+n=N/\a=⟨#[.pointer (some ⟨cb,0,none⟩),sv,x2,x3,.int .i64 0,.int .i64 acc,x6,.pointer (some ⟨cb,0,none⟩),.int .i64 N,.int .i64 k,x10,x11,x12,x13,x14,x15,x16,x17,x18,x19,x20,x21],[]⟩/\Y.AtB B s w ((foldP getA N n k acc).bind K)) N ?_ ?_)
 · exact⟨0,0,_,_,_,_,_,_,_,_,_,_,_,_,_,_,_,by omega,rfl,hA⟩
 rintro s a w n ⟨k,acc,x2,x3,x6,x10,x11,x12,x13,x14,x15,x16,x17,x18,x19,x20,x21,hkn,rfl,hA⟩;have HK:=Lib.hid hkn;clear hkn;cases n with
 |zero=>
  apply YSys.seq0 hA (by kernel_rfl)
  · intro wc hB;go_wp2;exact⟨rfl,Ext1.refl _,rfl⟩
  intro w hA;refine wpY_seq Y.jc (wpY_cond Y.jc rfl ?_);rw[if_neg (by have:=HK.out;simp only[decide_eq_true_eq];omega)];refine wpY_exit Y.jc ?_;show wpJ Y.J _ _ _ _ _;apply YSys.seq0 hA (by kernel_rfl)
  · intro wc hB;go_wp2;exact⟨rfl,Ext1.refl _,rfl⟩
  intro w hA;refine wpY_ret Y.jc ?_;exact⟨rfl,.inl ⟨_,resultsC_tmp rfl _,_,rfl,hA⟩⟩
 |succ n=>
  have hk:(k:Int)<(N:Int):=by have:=HK.out;omega
  have e1:IntKind.i64.wrap ((k:Int)+1)=((k+1:Nat):Int):=by rw[IntWalk.i64_in _ (by omega)];omega
  apply YSys.seq0 hA (by kernel_rfl)
  · intro wc hB;go_wp2;exact⟨rfl,Ext1.refl _,rfl⟩
  intro w hA;refine wpY_seq Y.jc (wpY_cond Y.jc rfl (wpY_skip Y.jc ?_));show wpJ Y.J _ _ _ _ _;refine wpY_seq Y.jc (wpY_block Y.jc ?_);apply YSys.seq0 hA (by kernel_rfl)
  · intro wc hB;go_wp2;exact⟨rfl,Ext1.refl _,rfl⟩
  intro w hA;refine wpY_seq Y.jc (wpY_region Y.jc ?_);rw[foldP,Proc.bind_bind,Proc.bind_bind]at hA;apply YSys.callS 0 1 0 hA hst.step rfl rfl rfl (by rfl) rfl rfl rfl
  · intro wc hB X hX;have HX:=Lib.hid hX;clear hX;go_wp2;exact HX.out _ (Ext1.refl _)
  · intro w;simp[go_sem,execOp,Act.eval,resolve,Deferred.ofValue,invoke,callFunc,Try.func33,Try.f33]
  · intro w;simp[go_sem,execOp,Act.eval,resolve,Deferred.ofValue,invoke,callFunc,Try.func33,Try.f33]
  · intro s' ch w' h;exact⟨rfl,h⟩
  intro s w hA;refine opsC_nil Y.jc ?_;show wpJ Y.J _ _ _ _ _;refine wpY_region Y.jc ?_;apply YSys.callP 0 3 3 hA (hst.stripe (k:Int)) rfl rfl rfl (by rfl) rfl rfl rfl
  · intro wc hB X hX;have HX:=Lib.hid hX;clear hX;go_wp2;exact HX.out _ (Ext1.refl _)
  · intro w;simp[go_sem,execOp,Act.eval,resolve,Deferred.ofValue,invoke,callFunc,Try.func31,Try.f31]
  · intro w;simp[go_sem,execOp,Act.eval,resolve,Deferred.ofValue,invoke,callFunc,Try.func31,Try.f31]
  intro w hA;apply YSys.callR 4 0 2 hA (hst.load (k:Int)) (λx=>foldP_sil Y hK n _ _) rfl rfl rfl (by rfl) rfl rfl rfl
  · intro wc hB X hX;have HX:=Lib.hid hX;clear hX;go_wp2;exact HX.out _ (Ext1.refl _)
  · intro w;simp[go_sem,execOp,Act.eval,resolve,Deferred.ofValue,invoke,callFunc,Try.func32,Try.f32]
  · intro w;simp[go_sem,execOp,Act.eval,resolve,Deferred.ofValue,invoke,callFunc,Try.func32,Try.f32]
  · intro s' ch w' h;exact⟨rfl,h⟩
  intro s x w hA;apply YSys.ops0 5 2 hA rfl rfl (by kernel_rfl)
  · intro wc hB;go_wp2;exact⟨rfl,Ext1.refl _,rfl⟩
  intro w hA;show wpJ Y.J _ _ _ _ _;apply YSys.code0 hA (by kernel_rfl)
  · intro wc hB;go_wp2;exact⟨rfl,Ext1.refl _,rfl⟩
  intro w hA;exact⟨n,by omega,k+1,_,_,_,_,_,_,_,_,_,_,_,_,_,_,_,_,by have:=HK.out;omega,rfl,hA⟩
theorem take_spec(Y:YSys Try.prog aM (prodCore (strCore cb z N) D) ro i β){sv:Value}(hst:StrAtoms Y sv):
 SpecB Y 23 #[.pointer (some ⟨cb,0,none⟩),sv] (takeP N) (λx=>.int .i64 x):=by
 have hp:=hst.pos;have hle:=hst.le;refine SpecB.of Try.func23 rfl ?_;intro K s B w hK hA;simp only[enterAct,Try.ntmps23,List.size_toArray,List.length_cons,List.length_nil,Nat.reduceAdd,Nat.reduceSub,Array.replicate_succ,Array.replicate_zero,List.push_toArray,List.append_toArray,List.nil_append,List.cons_append];apply YSys.seq0 hA (by kernel_rfl)
 · intro wc hB;go_wp2;exact⟨rfl,Ext1.refl _,rfl⟩
 intro w hA;apply YSys.seq0 hA (by kernel_rfl)
 · intro wc hB;go_wp2;exact⟨rfl,Ext1.refl _,rfl⟩
 intro w hA;refine wpY_seq Y.jc ?_;apply YSys.seq0 hA (by kernel_rfl)
 · intro wc hB
   go_wp2_with (fail)
   refine Calls.mono (stripes_lone (hst.head _ _ hB)) ?_;rintro e w' ⟨rfl,rfl⟩;go_wp2;exact⟨rfl,Ext1.refl _,rfl⟩
 intro w hA;refine wpY_block Y.jc (wpY_loop Y.jc (λs a w n=>∃(k:Nat)(acc:Int)(x2 x3 x6 x10 x11 x12 x13 x14 x15 x16 x17 x18 x19 x20 x21:Value),k+n=N/\a=⟨#[.pointer (some ⟨cb,0,none⟩),sv,x2,x3,.int .i64 0,.int .i64 acc,x6,.pointer (some ⟨cb,0,none⟩),.int .i64 N,.int .i64 k,x10,x11,x12,x13,x14,x15,x16,x17,x18,x19,x20,x21],[]⟩/\Y.AtB B s w ((foldP takeA N n k acc).bind K)) N ?_ ?_)
 · exact⟨0,0,_,_,_,_,_,_,_,_,_,_,_,_,_,_,_,by omega,rfl,hA⟩
 rintro s a w n ⟨k,acc,x2,x3,x6,x10,x11,x12,x13,x14,x15,x16,x17,x18,x19,x20,x21,hkn,rfl,hA⟩;have HK:=Lib.hid hkn;clear hkn;cases n with
 |zero=>
  apply YSys.seq0 hA (by kernel_rfl)
  · intro wc hB;go_wp2;exact⟨rfl,Ext1.refl _,rfl⟩
  intro w hA;refine wpY_seq Y.jc (wpY_cond Y.jc rfl ?_);rw[if_neg (by have:=HK.out;simp only[decide_eq_true_eq];omega)];refine wpY_exit Y.jc ?_;show wpJ Y.J _ _ _ _ _;apply YSys.seq0 hA (by kernel_rfl)
  · intro wc hB;go_wp2;exact⟨rfl,Ext1.refl _,rfl⟩
  intro w hA;refine wpY_ret Y.jc ?_;exact⟨rfl,.inl ⟨_,resultsC_tmp rfl _,_,rfl,hA⟩⟩
 |succ n=>
  have hk:(k:Int)<(N:Int):=by have:=HK.out;omega
  have e1:IntKind.i64.wrap ((k:Int)+1)=((k+1:Nat):Int):=by rw[IntWalk.i64_in _ (by omega)];omega
  apply YSys.seq0 hA (by kernel_rfl)
  · intro wc hB;go_wp2;exact⟨rfl,Ext1.refl _,rfl⟩
  intro w hA;refine wpY_seq Y.jc (wpY_cond Y.jc rfl (wpY_skip Y.jc ?_));show wpJ Y.J _ _ _ _ _;refine wpY_seq Y.jc (wpY_block Y.jc ?_);apply YSys.seq0 hA (by kernel_rfl)
  · intro wc hB;go_wp2;exact⟨rfl,Ext1.refl _,rfl⟩
  intro w hA;refine wpY_seq Y.jc (wpY_region Y.jc ?_);rw[foldP,Proc.bind_bind,Proc.bind_bind]at hA;apply YSys.callS 0 1 0 hA hst.step rfl rfl rfl (by rfl) rfl rfl rfl
  · intro wc hB X hX;have HX:=Lib.hid hX;clear hX;go_wp2;exact HX.out _ (Ext1.refl _)
  · intro w;simp[go_sem,execOp,Act.eval,resolve,Deferred.ofValue,invoke,callFunc,Try.func33,Try.f33]
  · intro w;simp[go_sem,execOp,Act.eval,resolve,Deferred.ofValue,invoke,callFunc,Try.func33,Try.f33]
  · intro s' ch w' h;exact⟨rfl,h⟩
  intro s w hA;refine opsC_nil Y.jc ?_;show wpJ Y.J _ _ _ _ _;refine wpY_region Y.jc ?_;apply YSys.callP 0 3 3 hA (hst.stripe (k:Int)) rfl rfl rfl (by rfl) rfl rfl rfl
  · intro wc hB X hX;have HX:=Lib.hid hX;clear hX;go_wp2;exact HX.out _ (Ext1.refl _)
  · intro w;simp[go_sem,execOp,Act.eval,resolve,Deferred.ofValue,invoke,callFunc,Try.func31,Try.f31]
  · intro w;simp[go_sem,execOp,Act.eval,resolve,Deferred.ofValue,invoke,callFunc,Try.func31,Try.f31]
  intro w hA;apply YSys.callR 4 0 2 hA (hst.swap (k:Int)) (λx=>foldP_sil Y hK n _ _) rfl rfl rfl (by rfl) rfl rfl rfl
  · intro wc hB X hX;have HX:=Lib.hid hX;clear hX;go_wp2;exact HX.out _ (Ext1.refl _)
  · intro w;simp[go_sem,execOp,Act.eval,resolve,Deferred.ofValue,invoke,callFunc,Try.func35,Try.f35]
  · intro w;simp[go_sem,execOp,Act.eval,resolve,Deferred.ofValue,invoke,callFunc,Try.func35,Try.f35]
  · intro s' ch w' h;exact⟨rfl,h⟩
  intro s x w hA;apply YSys.ops0 5 2 hA rfl rfl (by kernel_rfl)
  · intro wc hB;go_wp2;exact⟨rfl,Ext1.refl _,rfl⟩
  intro w hA;show wpJ Y.J _ _ _ _ _;apply YSys.code0 hA (by kernel_rfl)
  · intro wc hB;go_wp2;exact⟨rfl,Ext1.refl _,rfl⟩
  intro w hA;exact⟨n,by omega,k+1,_,_,_,_,_,_,_,_,_,_,_,_,_,_,_,_,by have:=HK.out;omega,rfl,hA⟩
end
end Go.Proofs
set_option maxHeartbeats 1000000
namespace Go.Car
open Go Go.Conc Go.RowKit
def orB(X B:Nat->Option Obj):Nat->Option Obj:=λb=>match X b with
 |some o=>some o
 |none=>B b
def upB(B:Nat->Option Obj)(b:Nat)(o:Obj):Nat->Option Obj:=λx=>if x=b then some o else B x
@[simp] theorem upB_same (B : Nat → Option Obj) (b : Nat) (o : Obj) : upB B b o b = some o := by simp [upB]
theorem upB_ne(B:Nat->Option Obj){b x:Nat}(o:Obj)(h:x≠b):upB B b o x=B x:=by simp[upB,h]
theorem upB_le{B:Nat->Option Obj}{b:Nat}{o:Obj}(h:B b=none):∀x y,B x=some y->upB B b o x=some y:=λx y hx=>by
 by_cases e:x=b
 · subst e;rw[h]at hx;cases hx
 · rw[upB_ne _ _ e];exact hx
theorem upB_keep{B B1:Nat->Option Obj}{b:Nat}{o:Obj}(hle:∀x y,B x=some y->B1 x=some y)(h:B b=none):∀x y,B x=some y->upB B1 b o x=some y:=λx y hx=>by
 by_cases e:x=b
 · subst e;rw[h]at hx;cases hx
 · rw[upB_ne _ _ e];exact hle x y hx
theorem upB_of{B:Nat->Option Obj}{b x:Nat}{o y:Obj}(hx:B x=some y)(h:x≠b):upB B b o x=some y:=by rw[upB_ne _ _ h];exact hx
theorem none_ne{B:Nat->Option Obj}{b x:Nat}{y:Obj}(hx:B x=some y)(h:B b=none):x≠b:=λe=>by rw[e,h]at hx;cases hx
def RowB(X:Nat->Option Obj)(e:TypeId)(size:Nat)(v:Value)(n:Nat)(xs:List Value):Prop:=
 xs.length=n*size/\((v=.slice none 0 0/\n=0/\X=λ_=>none)\/
  ∃g cap cur,v=.slice (some ⟨g,0,none⟩) n cap/\(X=λb=>if b=g then some (.cells cur e (0,0))else none)/\n<=cap/\cap<=maxLen/\cur.size=cap*size/\cur.toList.take (n*size)=xs)
theorem RowB.nil (e:TypeId)(size:Nat):RowB (λ_=>none) e size (.slice none 0 0) 0 []:=⟨by simp,.inl ⟨rfl,rfl,rfl⟩⟩
theorem RowB.own {X:Nat->Option Obj}{e:TypeId}{size n:Nat}{v:Value}{xs:List Value}{w:World}(h:RowB X e size v n xs)(hX:∀b o,X b=some o->w.heap[b]?=some o):w.ownsRow 0 e size v n xs:=by
 obtain⟨h1,h2⟩:=h;refine⟨h1,?_⟩;rcases h2 with⟨a,b,c⟩|⟨g,cap,cur,a,b,c,d,k,l⟩
 · exact .inl ⟨a,b⟩
 · subst b;exact .inr ⟨g,cap,cur,a,Nat.zero_le _,hX g _ (by simp),c,d,k,l⟩
theorem RowB.block {X:Nat->Option Obj}{e:TypeId}{size n:Nat}{v:Value}{xs:List Value}(h:RowB X e size v n xs)(b:Nat):X b≠none↔v.ownBlock=some b:=by
 rcases h.2 with⟨a,_,c⟩|⟨g,cap,cur,a,c,_⟩
 · subst a c;simp[Value.ownBlock]
 · subst a c;simp only[Value.ownBlock,al_oi]
   by_cases e:b=g
   · subst e;simp
   · simp[e];exact λh=>e h.symm
section
variable {ro:Nat->Option Obj} {wc:World} {X B B0:Nat->Option Obj}
theorem OwnRep.row (hB:OwnRep ro (orB X B) wc){e:TypeId}{size n:Nat}{v:Value}{xs:List Value}(h:RowB X e size v n xs):wc.ownsRow 0 e size v n xs:=
 h.own λb o hb=>hB.box b o (by simp[orB,hb])
theorem OwnRep.under (hB:OwnRep ro (orB X B) wc)(hap:∀b,X b≠none->B b=none){b:Nat}{o:Obj}(hb:B b=some o):wc.heap[b]?=some o:=by
 refine hB.box b o ?_;have hx:X b=none:=Classical.byContradiction λx=>by rw[hap b x]at hb;cases hb
 simp[orB,hx,hb]
theorem OwnRep.fresh (hB:OwnRep ro B wc){b:Nat}(hb:wc.heap.size<=b):B b=none:=Classical.byContradiction λh=>absurd (hB.lt h) (Nat.not_lt_of_le hb)
theorem OwnRep.mono (hB:OwnRep ro B wc)(h:∀b o,B0 b=some o->B b=some o):OwnRep ro B0 wc:=⟨λb o hb=>hB.box b o (h b o hb),hB.rod,λb hb=>by
 cases ho:B0 b with
 |none=>rfl
 |some o=>have:=h b o ho;rw[hB.rob b hb]at this;cases this⟩
theorem row_push(hB:OwnRep ro B0 wc)(hle:∀b o,orB X B b=some o->B0 b=some o)(hap:∀b,X b≠none->B b=none){e:TypeId}{size n k g cap:Nat}{v:Value}{xs ys:List Value}(h:RowB X e size v n xs){w2:World}
 (hown:w2.ownsRow 0 e size (.slice (some ⟨g,0,none⟩) k cap) k ys) (hg:wc.grownBy w2 v.ownBlock) (hv:v.ownBlock=some g\/g=wc.heap.size) (h1:w2.heap.size<=wc.heap.size+1):
 ∃X',RowB X' e size (.slice (some ⟨g,0,none⟩) k cap) k ys/\(∀b,X' b≠none->B b=none)/\OMoved B0 wc (orB X' B) w2:=by
 have hB':OwnRep ro (orB X B) wc:=hB.mono hle;obtain⟨hl,h2⟩:=hown;rcases h2 with⟨a,_⟩|⟨g',cap',cur,a,_,hh,c,d,l,t⟩
 · cases a
 · cases a;have hBlt:∀b o,B b=some o->b<wc.heap.size:=λb o hb=>heap_lt (hB'.under hap hb);have hgB:B g=none:=by
    cases hb:B g with
    |none=>rfl
    |some o=>
     rcases hv with x|x
     · rw[hap g ((h.block g).2 x)]at hb;cases hb
     · exact absurd (hBlt g o hb) (by omega)
   have hold:∀b,b<wc.heap.size->v.ownBlock≠some b->w2.heap[b]?=wc.heap[b]?:=λb hb hne=>hg.block b hb (λx=>hne x.symm);have hX0:∀b,X b≠none->B0 b≠none:=λb hb=>by
    cases hx:X b with
    |none=>exact absurd hx hb
    |some o=>rw[hle b o (by simp[orB,hx])];simp
   refine⟨λb=>if b=g then some (.cells cur e (0,0))else none,⟨hl,.inr ⟨g,cap,cur,rfl,rfl,c,d,l,t⟩⟩,λb hb=>?_,?_⟩
   · by_cases e:b=g
     · rw[e];exact hgB
     · simp[e]at hb
   · refine⟨hg.size,h1,λb hb hn=>?_,λb o hb=>?_,λb hb=>?_⟩
     · exact hold b hb λx=>hX0 b ((h.block b).2 x) hn
     · by_cases e:b=g
       · subst e;simp[orB]at hb;rw[←hb];exact hh
       · simp only[orB,e,if_false]at hb;rw[hold b (hBlt b o hb) λx=>?_]
         · exact hB'.under hap hb
         · rw[hap b ((h.block b).2 x)]at hb;cases hb
     · by_cases e:b=g
       · subst e;rcases hv with x|x
         · exact .inl (hX0 b ((h.block b).2 x))
         · exact .inr (by omega)
       · simp only[orB,e,if_false]at hb;refine .inl ?_;have hx:X b=none:=Classical.byContradiction λx=>hb (hap b x);cases ho:B b with
         |none=>exact absurd ho hb
         |some o=>rw[hle b o (by simp[orB,hx,ho])];simp
theorem OMoved.poke (hB:OwnRep ro B wc){w':World}{b:Nat}{o:Obj}(hb:B b≠none)(hs:w'.heap.size=wc.heap.size)(hne:∀x,x≠b->w'.heap[x]?=wc.heap[x]?)(hn:w'.heap[b]?=some o):OMoved B wc (upB B b o) w':=by
 refine⟨by omega,by omega,λx hx hn'=>hne x λe=>hb (by rw[←e];exact hn'),λx o' hx=>?_,λx hx=>?_⟩
 · by_cases e:x=b
   · subst e;rw[upB_same]at hx;rw[hn];exact hx
   · rw[upB_ne _ _ e]at hx;rw[hne x e];exact hB.box x o' hx
 · by_cases e:x=b
   · subst e;exact .inl hb
   · rw[upB_ne _ _ e]at hx;exact .inl hx
theorem OMoved.set (hB:OwnRep ro B wc){b off:Nat}{c:Array Value}{e:TypeId}{f:Nat×Nat}(hb:B b=some (.cells c e f))(v:Value):OMoved B wc (upB B b (.cells (c.setIfInBounds off v) e f)) (wc.setCell ⟨b,off,none⟩ v):=
 .poke hB (by rw[hb];simp) (hp_size_set _ _ _) (λx hx=>hp_set_ne _ _ _ _ hx) (hp_set_same _ _ _ _ (hB.box b _ hb))
theorem OMoved.set2 (hB:OwnRep ro B wc){b o1 o2:Nat}{c:Array Value}{e:TypeId}{f:Nat×Nat}(hb:B b=some (.cells c e f))(v1 v2:Value):OMoved B wc (upB B b (.cells ((c.setIfInBounds o1 v1).setIfInBounds o2 v2) e f)) ((wc.setCell ⟨b,o1,none⟩ v1).setCell ⟨b,o2,none⟩ v2):=
 .poke hB (by rw[hb];simp) (by rw[hp_size_set,hp_size_set]) (λx hx=>by rw[hp_set_ne _ _ _ _ hx,hp_set_ne _ _ _ _ hx]) (hp_set_same _ _ _ _ (hp_set_same _ _ _ _ (hB.box b _ hb)))
theorem OMoved.set3 (hB:OwnRep ro B wc){b o1 o2 o3:Nat}{c:Array Value}{e:TypeId}{f:Nat×Nat}(hb:B b=some (.cells c e f))(v1 v2 v3:Value):OMoved B wc (upB B b (.cells (((c.setIfInBounds o1 v1).setIfInBounds o2 v2).setIfInBounds o3 v3) e f)) (((wc.setCell ⟨b,o1,none⟩ v1).setCell ⟨b,o2,none⟩ v2).setCell ⟨b,o3,none⟩ v3):=
 .poke hB (by rw[hb];simp) (by rw[hp_size_set,hp_size_set,hp_size_set]) (λx hx=>by rw[hp_set_ne _ _ _ _ hx,hp_set_ne _ _ _ _ hx,hp_set_ne _ _ _ _ hx]) (hp_set_same _ _ _ _ (hp_set_same _ _ _ _ (hp_set_same _ _ _ _ (hB.box b _ hb))))
theorem OMoved.push (hB:OwnRep ro B wc){w':World}{b:Nat}{o:Obj}(hx:Ext1 wc w')(hb:wc.heap.size<=b)(hn:w'.heap[b]?=some o):OMoved B wc (upB B b o) w':=by
 refine⟨hx.size,hx.one,λx hl _=>hx.old x hl,λx o' hx'=>?_,λx hx'=>?_⟩
 · by_cases e:x=b
   · subst e;rw[upB_same]at hx';rw[hn];exact hx'
   · rw[upB_ne _ _ e]at hx';exact hx.heap (hB.box x o' hx')
 · by_cases e:x=b
   · subst e;exact .inr hb
   · rw[upB_ne _ _ e]at hx';exact .inl hx'
end
theorem wpList_appends{P:Program}{ops:Array Oper}{rest:List Oper}{o:Oper}{a:Act}{Q:Exit->Act->World->Prop}{w w':World}{v:Value}(hgd:o.guard=none)(s x:Operand)(t:TypeId)
 (ho:o.op=.call {callee:=.builtin .append,args:=#[s,x],argTypes:=#[t,t]}) (hr:(Builtin.append_ #[t,t] o.type #[a.eval s,a.eval x]).run P w=.ok v w') (h:wpList P ops Q rest (a.put o.dst v) w'):wpList P ops Q (o::rest) a w:=
 wpList_plain hgd λ_ hK=>by
  unfold Oper.wp execOp;simp only[ho,resolve,invoke,builtin,Sem.run_bind,Sem.run_pure,Result.andThen_ok,List.map_toArray,List.map_cons,List.map_nil,hr];exact hK _ _ h
theorem append_size{P:Program}{w w':World}{v':Value}(t ty:TypeId)(base:Nat)(e:TypeId)(i:TypeInfo)(z:Value)(ht:P.underlying t=some (.slice e))(hi:P.info? e=some i)(hz:i.zero=some z)
 (v:Value) (n:Nat) (xs:List Value) (hown:w.ownsRow base e i.size v n xs)
 (a:Addr) (m c:Nat) (news:List Value) (hl:news.length=m*i.size) (hnews:∀j u,news[j]?=some u->w.cell? (a.add j)=some u) (h1:∀u∈news,u.oneCell'=true)
 (hm:0<m) (h63:n+m<=maxLen) (hbytes:(n+m)*i.bytes<=140737488355328) (hr:(Builtin.append_ #[t,t] ty #[v,.slice (some a) m c]).run P w=.ok v' w'):w'.heap.size<=w.heap.size+1:=by
 have hsmall:n+m<=9223372036854775807:=by simp only[maxLen]at h63;omega
 have hal:∀o:Obj,(w.drew.alloc o).heap.size=w.heap.size+1:=λo=>by show(w.heap.push o).size=_;simp
 rcases hown.2 with⟨rfl,rfl⟩|⟨g,cap,cur,rfl,hbg,hg,hnc,hcm,hcs,htake⟩
 · rw[run_append_nil (P:=P) w t ty e i z ht hi hz a m c news hl hnews hm (by omega) (by have hb:=hbytes;simp only[Nat.zero_add]at hb;omega)]at hr;cases hr;rw[hal];exact Nat.le_refl _
 · by_cases hroom:n+m<=cap
   · have hfit:n*i.size+news.length<=cur.size:=by rw[hl,hcs,←Nat.add_mul];exact Nat.mul_le_mul_right _ hroom
     rw[run_append_room (P:=P) w t ty e i ht hi g n cap cur hg a m c news hl hnews h1 hroom hfit]at hr;cases hr;rw[show ∀l,(w.setRow g l).heap.size=w.heap.size from λl=>by simp];exact Nat.le_succ _
   · have holds:∀j u,xs[j]?=some u->w.cell? ((⟨g,0,none⟩:Addr).add j)=some u:=hown.cells (g:=g) rfl;rw[run_append_grow (P:=P) w t ty e i z ht hi hz ⟨g,0,none⟩ n cap xs hown.1 holds a m c news hl hnews (by omega) (by omega) (growslice_fits (by omega) hbytes)]at hr;cases hr;rw[hal];exact Nat.le_refl _
theorem row_append{P:Program}{ro X B:Nat->Option Obj}{wc:World}(t ty:TypeId){e:TypeId}(i:TypeInfo)(z:Value)(size bytes:Nat)(ht:P.underlying t=some (.slice e))(hi:P.info? e=some i)(hz:i.zero=some z)
 (hsize:i.size=size) (hby:i.bytes=bytes) (hzs:z.cells.size=size) (hsz:0<size) {a1:Nat} {news:List Value} (hl:news.length=size) (h1:∀u∈news,u.oneCell'=true)
 (hB:OwnRep ro (upB (orB X B) a1 (.cells news.toArray e)) wc) (ha:orB X B a1=none) (hap:∀b,X b≠none->B b=none) {v:Value} {n:Nat} {xs:List Value} (h:RowB X e size v n xs) (h63:n+1<=maxLen) (hbytes:(n+1)*bytes<=140737488355328):
 ∃g cap w',(Builtin.append_ #[t,t] ty #[v,.slice (some ⟨a1,0,none⟩) 1 1]).run P wc=.ok (.slice (some ⟨g,0,none⟩) (n+1) cap) w'/\
  ∃X',RowB X' e size (.slice (some ⟨g,0,none⟩) (n+1) cap) (n+1) (xs++news)/\(∀b,X' b≠none->B b=none)/\OMoved (upB (orB X B) a1 (.cells news.toArray e)) wc (orB X' B) w':=by
 have hle:=upB_le (o:=.cells news.toArray e) ha;have hrow:wc.ownsRow 0 e size v n xs:=(hB.mono hle).row h;have hblk:wc.heap[a1]?=some (.cells news.toArray e):=hB.box a1 _ (upB_same _ _ _);have hnews:∀j u,news[j]?=some u->wc.cell? ((⟨a1,0,none⟩:Addr).add j)=some u:=by
  exact λj u hj=>World.news_of_block hblk j u (by simpa using hj)
 obtain⟨g,cap,w',hr,hown,hg,hat,_⟩:=run_append_lies (P:=P) wc t ty 0 e i z size bytes ht hi hz hsize hby hzs hsz v n xs hrow ⟨a1,0,none⟩ 1 1 news (by simpa using hl) hnews h1 (by omega) h63 hbytes (Nat.zero_le _) _ rfl;have hs:w'.heap.size<=wc.heap.size+1:=append_size (P:=P) t ty 0 e i z ht hi hz v n xs (by rw[hsize];exact hrow) ⟨a1,0,none⟩ 1 1 news (by rw[hsize];simpa using hl) hnews h1 (by omega) h63 (by rw[hby];exact hbytes) hr;obtain⟨X',k1,k2,k3⟩:=row_push hB hle hap h hown hg hat hs;exact⟨g,cap,w',hr,X',k1,k2,k3⟩
end Go.Car
set_option maxHeartbeats 4000000
set_option maxRecDepth 100000
namespace Go.Proofs
open Go Go.Conc Go.RowKit Go.Car
def evenB{S2:Type}(N:Nat)(seen:List Int):Nat->Nat->Int->Proc (List Int×S2) (Int×Bool)
 |0,_,acc=>Proc.ret (acc,true)
 |n+1,k,acc=>(Proc.tick.bind λ_=>onL (getA N k)).bind λx=>if x=seen.getD k 0 then evenB N seen n (k+1) acc else Proc.ret (0,false)
def evenA{S2:Type}(N:Nat):Nat->Nat->List Int->Int->Proc (List Int×S2) (Int×Bool)
 |0,k,seen,acc=>evenB N seen k 0 acc
 |n+1,k,seen,acc=>(Proc.tick.bind λ_=>onL (getA N k)).bind λx=>evenA N n (k+1) (seen++[x]) (wrap64 (acc+x))
def evenP{S2:Type}(N:Nat):Proc (List Int×S2) (Int×Bool):=evenA N N 0 [] 0
def evenV(x:Int×Bool):Value:=.tuple #[.int .i64 x.1,.bool x.2]
section
variable {M2 S2 β:Type} {D:Core M2 S2} {ro:Nat->Option Obj} {i:Nat} {cb:Nat} {z:Option Nat} {N:Nat}
theorem evenB_sil(Y:YSys Try.prog aM (prodCore (strCore cb z N) D) ro i β){K:Int×Bool->Proc (List Int×S2) β}(hK:∀a,Y.sil (K a))(seen:List Int)(n k:Nat)(acc:Int):Y.sil ((evenB N seen n k acc).bind K):=by
 cases n with
 |zero=>exact hK _
 |succ n=>rw[evenB,Proc.bind_bind,Proc.bind_bind];exact Y.sil_tick _
theorem evenA_sil(Y:YSys Try.prog aM (prodCore (strCore cb z N) D) ro i β){K:Int×Bool->Proc (List Int×S2) β}(hK:∀a,Y.sil (K a))(n k:Nat)(seen:List Int)(acc:Int):Y.sil ((evenA N n k seen acc).bind K):=by
 cases n with
 |zero=>exact evenB_sil Y hK _ _ _ _
 |succ n=>rw[evenA,Proc.bind_bind,Proc.bind_bind];exact Y.sil_tick _
theorem even_spec(Y:YSys Try.prog aM (prodCore (strCore cb z N) D) ro i β){sv:Value}(hst:StrAtoms Y sv):
 SpecB Y 20 #[.pointer (some ⟨cb,0,none⟩),sv] (evenP N) evenV:=by
 have hp:=Lib.hid hst.pos;have hle:=Lib.hid hst.le;refine SpecB.of Try.func20 rfl ?_;intro K s B w hK hA;simp only[enterAct,Try.ntmps20,List.size_toArray,List.length_cons,List.length_nil,Nat.reduceAdd,Nat.reduceSub,Array.replicate_succ,Array.replicate_zero,List.push_toArray,List.append_toArray,List.nil_append,List.cons_append];have HKK:=Lib.hid hK;clear hK;apply YSys.seq0 hA (by kernel_rfl)
 · intro wc hB;go_wp2;exact⟨rfl,Ext1.refl _,rfl⟩
 intro w hA;apply YSys.seq0 hA (by kernel_rfl)
 · intro wc hB;go_wp2;exact⟨rfl,Ext1.refl _,rfl⟩
 intro w hA;apply YSys.seq0 hA (by kernel_rfl)
 · intro wc hB;go_wp2;exact⟨rfl,Ext1.refl _,rfl⟩
 intro w hA;apply YSys.seq0 hA (by kernel_rfl)
 · intro wc hB;go_wp2;exact⟨rfl,Ext1.refl _,rfl⟩
 intro w hA;refine wpY_seq Y.jc ?_;apply YSys.seq0 hA (by kernel_rfl)
 · intro wc hB
   go_wp2_with (fail)
   refine Calls.mono (stripes_lone (hst.head _ _ hB)) ?_;rintro e w' ⟨rfl,rfl⟩;go_wp2;exact⟨rfl,Ext1.refl _,rfl⟩
 intro w hA;refine wpY_block Y.jc (wpY_loop Y.jc (λs a w n=>∃(k:Nat)(acc:Int)(seen:List Int)(vs:Value)(X:Nat->Option Obj)(x2 x3 x8 x9 x10 x11 x12 x13 x14 x17 x18 x19 x20 x21 x22 x23 x24 x25 x26 x27 x28 x29 x30 x31 x32 x33 x34 x35 x36 x37 x38 x39 x40 x41 x42 x43 x44 x45 x46 x47 x48 x49:Value),k+n=N/\seen.length=k/\RowB X 2 1 vs k (seen.map (Value.int .i64))/\(∀b,X b≠none->B b=none)/\a=⟨#[.pointer (some ⟨cb,0,none⟩),sv,x2,x3,.int .i64 0,.bool false,vs,.int .i64 acc,x8,x9,x10,x11,x12,x13,x14,.int .i64 N,.int .i64 k,x17,x18,x19,x20,x21,x22,x23,x24,x25,x26,x27,x28,x29,x30,x31,x32,x33,x34,x35,x36,x37,x38,x39,x40,x41,x42,x43,x44,x45,x46,x47,x48,x49],[]⟩/\Y.AtB (orB X B) s w ((evenA N n k seen acc).bind K)) N ?_ ?_)
 · exact⟨0,0,[],_,_,_,_,_,_,_,_,_,_,_,_,_,_,_,_,_,_,_,_,_,_,_,_,_,_,_,_,_,_,_,_,_,_,_,_,_,_,_,_,_,_,_,_,by omega,rfl,RowB.nil 2 1,λb hb=>absurd rfl hb,rfl,hA⟩
 clear hA;rintro s a w n ⟨k,acc,seen,vs,X,x2,x3,x8,x9,x10,x11,x12,x13,x14,x17,x18,x19,x20,x21,x22,x23,x24,x25,x26,x27,x28,x29,x30,x31,x32,x33,x34,x35,x36,x37,x38,x39,x40,x41,x42,x43,x44,x45,x46,x47,x48,x49,hkn,hsl,hrow,hap,rfl,hA⟩;have HK:=Lib.hid hkn;have HL:=Lib.hid hsl;have HR:=Lib.hid hrow;have HP:=Lib.hid hap;clear hkn hsl hrow hap;cases n with
 |succ n=>
  have hk:(k:Int)<(N:Int):=by have:=HK.out;omega
  have e1:IntKind.i64.wrap ((k:Int)+1)=((k+1:Nat):Int):=by have:=hle.out;rw[IntWalk.i64_in _ (by omega)];omega
  apply YSys.seq0 hA (by kernel_rfl)
  · intro wc hB;go_wp2;exact⟨rfl,Ext1.refl _,rfl⟩
  intro w hA;refine wpY_seq Y.jc (wpY_cond Y.jc rfl (wpY_skip Y.jc ?_));show wpJ Y.J _ _ _ _ _;refine wpY_seq Y.jc (wpY_block Y.jc ?_);apply YSys.seq0 hA (by kernel_rfl)
  · intro wc hB;go_wp2;exact⟨rfl,Ext1.refl _,rfl⟩
  intro w hA;refine wpY_seq Y.jc (wpY_region Y.jc ?_);rw[evenA,Proc.bind_bind,Proc.bind_bind]at hA;apply YSys.callS 0 1 0 hA hst.step rfl rfl rfl (by rfl) rfl rfl rfl
  · intro wc hB X hX;have HX:=Lib.hid hX;clear hX;go_wp2;exact HX.out _ (Ext1.refl _)
  · intro w;simp[go_sem,execOp,Act.eval,resolve,Deferred.ofValue,invoke,callFunc,Try.func33,Try.f33]
  · intro w;simp[go_sem,execOp,Act.eval,resolve,Deferred.ofValue,invoke,callFunc,Try.func33,Try.f33]
  · intro s' ch w' h;exact⟨rfl,h⟩
  intro s w hA;refine opsC_nil Y.jc ?_;show wpJ Y.J _ _ _ _ _;refine wpY_seq Y.jc (wpY_region Y.jc ?_);apply YSys.callP 0 2 2 hA (hst.stripe (k:Int)) rfl rfl rfl (by rfl) rfl rfl rfl
  · intro wc hB X hX;have HX:=Lib.hid hX;clear hX;go_wp2;exact HX.out _ (Ext1.refl _)
  · intro w;simp[go_sem,execOp,Act.eval,resolve,Deferred.ofValue,invoke,callFunc,Try.func31,Try.f31]
  · intro w;simp[go_sem,execOp,Act.eval,resolve,Deferred.ofValue,invoke,callFunc,Try.func31,Try.f31]
  intro w hA;apply YSys.callR 3 0 1 hA (hst.load (k:Int)) (λx=>evenA_sil Y HKK.out n _ _ _) rfl rfl rfl (by rfl) rfl rfl rfl
  · intro wc hB X hX;have HX:=Lib.hid hX;clear hX;go_wp2;exact HX.out _ (Ext1.refl _)
  · intro w;simp[go_sem,execOp,Act.eval,resolve,Deferred.ofValue,invoke,callFunc,Try.func32,Try.f32]
  · intro w;simp[go_sem,execOp,Act.eval,resolve,Deferred.ofValue,invoke,callFunc,Try.func32,Try.f32]
  · intro s' ch w' h;exact⟨rfl,h⟩
  intro s x w hA;apply YSys.ops0 4 1 hA rfl rfl (by kernel_rfl)
  · intro wc hB;go_wp2;exact⟨rfl,Ext1.refl _,rfl⟩
  intro w hA;show wpJ Y.J _ _ _ _ _;refine wpY_seq Y.jc (wpY_region Y.jc ?_);refine YSys.preX 0 3 2 (λt B'=>∃(g:Nat)(y2 y3 y8 y10 y11 y12 y13 y14 y17 y18 y19 y20 y21 y22 y23 y24 y26 y28 y29 y30 y31 y32 y33 y34 y35 y36 y37 y38 y39 y40 y41 y42 y43 y44 y45 y46 y47 y48 y49:Value),t=#[.pointer (some ⟨cb,0,none⟩),sv,y2,y3,.int .i64 0,.bool false,vs,.int .i64 acc,y8,.int .i64 x,y10,y11,y12,y13,y14,.int .i64 N,.int .i64 k,y17,y18,y19,y20,y21,y22,y23,y24,vs,y26,.slice (some ⟨g,0,none⟩) 1 1,y28,y29,y30,y31,y32,y33,y34,y35,y36,y37,y38,y39,y40,y41,y42,y43,y44,y45,y46,y47,y48,y49]/\orB X B g=none/\B'=upB (orB X B) g (.cells [Value.int .i64 x].toArray 2)) hA rfl rfl rfl rfl ?_ ?_
  · intro wc hB X0 hX0;have HX0:=Lib.hid hX0;clear hX0;have hm:=OMoved.push (o:=.cells [Value.int .i64 x].toArray 2) hB.own (Ext1.alloc wc (.cells [Value.int .i64 x].toArray 2)) (Nat.le_refl _) (by rw[zq2];simp);have hf:=hB.own.fresh (Nat.le_refl _);have HM:=Lib.hid (And.intro hm hf);clear hm hf;go_wp2;exact HX0.out _ _ _ HM.out.1 ⟨_,_,_,_,_,_,_,_,_,_,_,_,_,_,_,_,_,_,_,_,_,_,_,_,_,_,_,_,_,_,_,_,_,_,_,_,_,_,_,_,rfl,HM.out.2,rfl⟩
  rintro _ _ w ⟨g,y2,y3,y8,y10,y11,y12,y13,y14,y17,y18,y19,y20,y21,y22,y23,y24,y26,y28,y29,y30,y31,y32,y33,y34,y35,y36,y37,y38,y39,y40,y41,y42,y43,y44,y45,y46,y47,y48,y49,rfl,hg,rfl⟩ hA;have HG:=Lib.hid hg;clear hg;refine YSys.opsX 3 2 (λt B'=>∃(g cap:Nat)(X':Nat->Option Obj)(z2 z3 z8 z10 z11 z12 z13 z14 z17 z18 z19 z20 z21 z22 z23 z24 z25 z26 z27 z28 z29 z30 z31 z32 z33 z34 z35 z36 z37 z38 z39 z40 z41 z42 z43 z44 z45 z46 z47 z48 z49:Value),t=#[.pointer (some ⟨cb,0,none⟩),sv,z2,z3,.int .i64 0,.bool false,.slice (some ⟨g,0,none⟩) (k+1) cap,.int .i64 acc,z8,.int .i64 x,z10,z11,z12,z13,z14,.int .i64 N,.int .i64 k,z17,z18,z19,z20,z21,z22,z23,z24,z25,z26,z27,z28,z29,z30,z31,z32,z33,z34,z35,z36,z37,z38,z39,z40,z41,z42,z43,z44,z45,z46,z47,z48,z49]/\RowB X' 2 1 (.slice (some ⟨g,0,none⟩) (k+1) cap) (k+1) ((seen++[x]).map (Value.int .i64))/\(∀b,X' b≠none->B b=none)/\B'=orB X' B) hA rfl rfl (by kernel_rfl) ?_ ?_
  · intro wc hB X0 hX0;have HX0:=Lib.hid hX0;clear hX0;obtain⟨ti,hti,hz0,hz1,hz2⟩:∃ti,Try.prog.info? 2=some ti/\ti.zero=some (.int .i64 0)/\ti.size=1/\ti.bytes=8:=⟨_,rfl,rfl,rfl,rfl⟩;obtain⟨g',cap,w5,hrun,X',k1,k2,k3⟩:=row_append (P:=Try.prog) 22 22 ti (.int .i64 0) 1 8 (by kernel_rfl) hti hz0 hz1 hz2 (by rfl) (by decide) rfl (by simp[Value.oneCell']) hB.own HG.out HP.out HR.out (by have:=hle.out;simp only[maxLen];omega) (by have:=hle.out;omega);have HX:=Lib.hid (And.intro k1 (And.intro k2 k3));clear k1 k2 k3;refine wpList_appends rfl (.tmp 25) (.tmp 27) 22 rfl hrun ?_;go_wp2;exact⟨rfl,HX0.out _ _ _ HX.out.2.2 ⟨g',cap,X',_,_,_,_,_,_,_,_,_,_,_,_,_,_,_,_,_,_,_,_,_,_,_,_,_,_,_,_,_,_,_,_,_,_,_,_,_,_,_,_,_,rfl,by simpa using HX.out.1,HX.out.2.1,rfl⟩⟩
  rintro _ _ w ⟨g1,cap,X',z2,z3,z8,z10,z11,z12,z13,z14,z17,z18,z19,z20,z21,z22,z23,z24,z25,z26,z27,z28,z29,z30,z31,z32,z33,z34,z35,z36,z37,z38,z39,z40,z41,z42,z43,z44,z45,z46,z47,z48,z49,rfl,hrow',hap',rfl⟩ hA;have HR':=Lib.hid hrow';have HP':=Lib.hid hap';clear hrow' hap';show wpJ Y.J _ _ _ _ _;apply YSys.code0 hA (by kernel_rfl)
  · intro wc hB;go_wp2;exact⟨rfl,Ext1.refl _,rfl⟩
  intro w hA;show wpJ Y.J _ _ _ _ _;apply YSys.code0 hA (by kernel_rfl)
  · intro wc hB;go_wp2;exact⟨rfl,Ext1.refl _,rfl⟩
  intro w hA;exact⟨n,by omega,k+1,_,seen++[x],_,X',_,_,_,_,_,_,_,_,_,_,_,_,_,_,_,_,_,_,_,_,_,_,_,_,_,_,_,_,_,_,_,_,_,_,_,_,_,_,_,_,_,_,by have:=HK.out;omega,by have:=HL.out;simp;omega,HR'.out,HP'.out,rfl,hA⟩
 |zero=>
  apply YSys.seq0 hA (by kernel_rfl)
  · intro wc hB;go_wp2;exact⟨rfl,Ext1.refl _,rfl⟩
  intro w hA;refine wpY_seq Y.jc (wpY_cond Y.jc rfl ?_);rw[if_neg (by have:=HK.out;simp only[decide_eq_true_eq];omega)];refine wpY_exit Y.jc ?_;show wpJ Y.J _ _ _ _ _;obtain rfl:N=k:=by have:=HK.out;omega
  obtain⟨hr1,hr2⟩:=HR.out;rcases hr2 with⟨_,h0,_⟩|⟨g,cap,cur,rfl,hX,hc1,hc2,hc3,hc4⟩
  · exact absurd h0 (by have:=hp.out;omega)
  have HX:=Lib.hid (And.intro hX hc4);clear hX hc4 hr1 hc1 hc2 hc3;refine wpY_seq Y.jc ?_;apply YSys.seq0 hA (by kernel_rfl)
  · intro wc hB;go_wp2;exact⟨rfl,Ext1.refl _,rfl⟩
  intro w hA;refine wpY_block Y.jc (wpY_loop Y.jc (λs a w n=>∃(k:Nat)(x2 x3 x6 x8 x9 x10 x11 x12 x13 x14 x15 x16 x17 x18 x19 x20 x21 x22 x23 x24 x25 x26 x27 x28 x29 x30 x31 x32 x36 x37 x38 x39 x40 x41 x42 x43 x44 x45 x46 x47 x48 x49:Value),k+n=N/\a=⟨#[.pointer (some ⟨cb,0,none⟩),sv,x2,x3,.int .i64 0,.bool false,x6,.int .i64 acc,x8,x9,x10,x11,x12,x13,x14,x15,x16,x17,x18,x19,x20,x21,x22,x23,x24,x25,x26,x27,x28,x29,x30,x31,x32,.slice (some ⟨g,0,none⟩) N cap,.int .i64 N,.int .i64 k,x36,x37,x38,x39,x40,x41,x42,x43,x44,x45,x46,x47,x48,x49],[]⟩/\Y.AtB (orB X B) s w ((evenB N seen n k acc).bind K)) N ?_ ?_)
  · exact⟨0,_,_,_,_,_,_,_,_,_,_,_,_,_,_,_,_,_,_,_,_,_,_,_,_,_,_,_,_,_,_,_,_,_,_,_,_,_,_,_,_,_,_,by omega,rfl,hA⟩
  clear hA;rintro s a w n ⟨k,x2,x3,x6,x8,x9,x10,x11,x12,x13,x14,x15,x16,x17,x18,x19,x20,x21,x22,x23,x24,x25,x26,x27,x28,x29,x30,x31,x32,x36,x37,x38,x39,x40,x41,x42,x43,x44,x45,x46,x47,x48,x49,hkn,rfl,hA⟩;have HK:=Lib.hid hkn;clear hkn;have hdrop:∀b o,B b=some o->orB X B b=some o:=λb o hb=>by
   have hx:X b=none:=Classical.byContradiction λx=>by rw[HP.out b x]at hb;cases hb
   simp[orB,hx,hb]
  have HD:=Lib.hid hdrop;clear hdrop;cases n with
  |zero=>
   apply YSys.seq0 hA (by kernel_rfl)
   · intro wc hB;go_wp2;exact⟨rfl,Ext1.refl _,rfl⟩
   intro w hA;refine wpY_seq Y.jc (wpY_cond Y.jc rfl ?_);rw[if_neg (by have:=HK.out;simp only[decide_eq_true_eq];omega)];refine wpY_exit Y.jc ?_;show wpJ Y.J _ _ _ _ _;apply YSys.seq0 hA (by kernel_rfl)
   · intro wc hB;go_wp2;exact⟨rfl,Ext1.refl _,rfl⟩
   intro w hA;refine wpY_ret Y.jc ?_;exact⟨rfl,.inl ⟨_,resultsC_tmp2 rfl _,(acc,true),rfl,hA.drop HD.out⟩⟩
  |succ n=>
   have hk:(k:Int)<(N:Int):=by have:=HK.out;omega
   have hk0:(0:Int)<=(k:Int):=by omega
   have e1:IntKind.i64.wrap ((k:Int)+1)=((k+1:Nat):Int):=by have:=hle.out;rw[IntWalk.i64_in _ (by omega)];omega
   apply YSys.seq0 hA (by kernel_rfl)
   · intro wc hB;go_wp2;exact⟨rfl,Ext1.refl _,rfl⟩
   intro w hA;refine wpY_seq Y.jc (wpY_cond Y.jc rfl (wpY_skip Y.jc ?_));show wpJ Y.J _ _ _ _ _;refine wpY_seq Y.jc (wpY_block Y.jc ?_);obtain⟨y,hy⟩:∃y,seen.getD k 0=y:=⟨_,rfl⟩;have hcur:cur[k]?=some (.int .i64 y):=by
    have h1:=congrArg (λl=>l[k]?) HX.out.2;have h2:k<N:=by have:=HK.out;omega
    have h3:k<seen.length:=by have:=HL.out;omega
    simp only[Nat.mul_one,List.getElem?_take,h2,if_true,List.getElem?_map]at h1;rw[←Array.getElem?_toList,h1];simp[←hy,h3]
   have HC:=Lib.hid hcur;have HY:=Lib.hid hy;clear hcur hy;apply YSys.seq0 hA (by kernel_rfl)
   · intro wc hB;have cg:wc.cell? ⟨g,k,none⟩=some (.int .i64 y):=(zq0 (c:=cur) (e:=2) (f:=(0,0)) (hB.own.box g (.cells cur 2) (by simp[orB,HX.out.1]))).trans HC.out;go_wp2;exact⟨rfl,Ext1.refl _,rfl⟩
   intro w hA;refine wpY_seq Y.jc (wpY_region Y.jc ?_);rw[evenB,Proc.bind_bind,Proc.bind_bind]at hA;apply YSys.callS 0 1 0 hA hst.step rfl rfl rfl (by rfl) rfl rfl rfl
   · intro wc hB X hX;have HX:=Lib.hid hX;clear hX;go_wp2;exact HX.out _ (Ext1.refl _)
   · intro w;simp[go_sem,execOp,Act.eval,resolve,Deferred.ofValue,invoke,callFunc,Try.func33,Try.f33]
   · intro w;simp[go_sem,execOp,Act.eval,resolve,Deferred.ofValue,invoke,callFunc,Try.func33,Try.f33]
   · intro s' ch w' h;exact⟨rfl,h⟩
   intro s w hA;refine opsC_nil Y.jc ?_;show wpJ Y.J _ _ _ _ _;refine wpY_seq Y.jc (wpY_region Y.jc ?_);apply YSys.callP 0 2 3 hA (hst.stripe (k:Int)) rfl rfl rfl (by rfl) rfl rfl rfl
   · intro wc hB X hX;have HX:=Lib.hid hX;clear hX;go_wp2;exact HX.out _ (Ext1.refl _)
   · intro w;simp[go_sem,execOp,Act.eval,resolve,Deferred.ofValue,invoke,callFunc,Try.func31,Try.f31]
   · intro w;simp[go_sem,execOp,Act.eval,resolve,Deferred.ofValue,invoke,callFunc,Try.func31,Try.f31]
   intro w hA;apply YSys.callR 3 0 2 hA (hst.load (k:Int)) (λx=>if h:x=seen.getD k 0 then(by rw[if_pos h];exact evenB_sil Y HKK.out _ _ _ _)else(by rw[if_neg h];exact HKK.out _)) rfl rfl rfl (by rfl) rfl rfl rfl
   · intro wc hB X hX;have HX:=Lib.hid hX;clear hX;go_wp2;exact HX.out _ (Ext1.refl _)
   · intro w;simp[go_sem,execOp,Act.eval,resolve,Deferred.ofValue,invoke,callFunc,Try.func32,Try.f32]
   · intro w;simp[go_sem,execOp,Act.eval,resolve,Deferred.ofValue,invoke,callFunc,Try.func32,Try.f32]
   · intro s' ch w' h;exact⟨rfl,h⟩
   intro s x w hA;rw[HY.out]at hA
   by_cases hxy:x=y
   · rw[if_pos hxy]at hA;subst hxy;apply YSys.ops0 4 2 hA rfl rfl (by kernel_rfl)
     · intro wc hB;go_wp2;exact⟨rfl,Ext1.refl _,rfl⟩
     intro w hA;show wpJ Y.J _ _ _ _ _;refine wpY_cond Y.jc rfl (wpY_skip Y.jc ?_);show wpJ Y.J _ _ _ _ _;apply YSys.code0 hA (by kernel_rfl)
     · intro wc hB;go_wp2;exact⟨rfl,Ext1.refl _,rfl⟩
     intro w hA;exact⟨n,by omega,k+1,_,_,_,_,_,_,_,_,_,_,_,_,_,_,_,_,_,_,_,_,_,_,_,_,_,_,_,_,_,_,_,_,_,_,_,_,_,_,_,_,_,_,by have:=HK.out;omega,rfl,hA⟩
   · rw[if_neg hxy]at hA;have HXY:=Lib.hid hxy;clear hxy;apply YSys.ops0 4 2 hA rfl rfl (by kernel_rfl)
     · intro wc hB;go_wp2;exact⟨rfl,Ext1.refl _,rfl⟩
     intro w hA;show wpJ Y.J _ _ _ _ _;refine wpY_cond Y.jc rfl ?_;rw[if_pos (by simp[HXY.out])];apply YSys.seq0 hA (by kernel_rfl)
     · intro wc hB;go_wp2;exact⟨rfl,Ext1.refl _,rfl⟩
     intro w hA;refine wpY_ret Y.jc ?_;exact⟨rfl,.inl ⟨_,resultsC_tmp2 rfl _,(0,false),rfl,hA.drop HD.out⟩⟩
end
set_option maxHeartbeats 400000
set_option maxRecDepth 100000
def moveP{S2:Type}(N:Nat)(a b v:Int):Proc (List Int×S2) Unit:=(addP N a (wrap64 (-v))).bind λ_=>(addP N b v).bind λ_=>Proc.ret ()
section
variable {M2 S2 β:Type} {D:Core M2 S2} {ro:Nat->Option Obj} {i:Nat} {cb:Nat} {z:Option Nat} {N:Nat}
theorem addP_sil(Y:YSys Try.prog aM (prodCore (strCore cb z N) D) ro i β){K:Int->Proc (List Int×S2) β}(a v:Int):Y.sil ((addP N a v).bind K):=by
 rw[addP,Proc.bind_bind];exact Y.sil_tick _
theorem move_spec(Y:YSys Try.prog aM (prodCore (strCore cb z N) D) ro i β){sv:Value}(hst:StrAtoms Y sv)(a b v:Int):
 SpecB Y 30 #[.pointer (some ⟨cb,0,none⟩),sv,.int .i64 a,.int .i64 b,.int .i64 v] (moveP N a b v) (λ_=>.tuple #[]):=by
 refine SpecB.of Try.func30 rfl ?_;intro K s B w hK hA;simp only[enterAct,Try.ntmps30,List.size_toArray,List.length_cons,List.length_nil,Nat.reduceAdd,Nat.reduceSub,Array.replicate_succ,Array.replicate_zero,List.push_toArray,List.append_toArray,List.nil_append,List.cons_append];refine wpY_seq Y.jc (wpY_region Y.jc ?_);rw[moveP,Proc.bind_bind]at hA;apply YSys.callR 0 5 0 hA (add_spec Y hst a (wrap64 (-v))).spec (λ_=>by rw[Proc.bind_bind];exact addP_sil Y b v) rfl rfl rfl (by rfl) rfl rfl rfl
 · intro wc hB X hX;have HX:=Lib.hid hX;clear hX;go_wp2;exact HX.out _ (Ext1.refl _)
 · intro w;simp[go_sem,execOp,Act.eval,resolve,Deferred.ofValue,invoke,callFunc,Try.func21,Try.f21]
 · intro w;simp[go_sem,execOp,Act.eval,resolve,Deferred.ofValue,invoke,callFunc,Try.func21,Try.f21]
 · intro s' ch w' h;exact⟨rfl,h⟩
 intro s x w hA;refine opsC_nil Y.jc ?_;show wpJ Y.J _ _ _ _ _;refine wpY_region Y.jc ?_;rw[Proc.bind_bind]at hA;apply YSys.callR 0 4 0 hA (add_spec Y hst b v).spec (λ_=>hK _) rfl rfl rfl (by rfl) rfl rfl rfl
 · intro wc hB X hX;have HX:=Lib.hid hX;clear hX;go_wp2;exact HX.out _ (Ext1.refl _)
 · intro w;simp[go_sem,execOp,Act.eval,resolve,Deferred.ofValue,invoke,callFunc,Try.func21,Try.f21]
 · intro w;simp[go_sem,execOp,Act.eval,resolve,Deferred.ofValue,invoke,callFunc,Try.func21,Try.f21]
 · intro s' ch w' h;exact⟨rfl,h⟩
 intro s x w hA;refine opsC_nil Y.jc ?_;exact⟨rfl,.inl ⟨_,resultsC_none rfl _,(),rfl,hA⟩⟩
end
end Go.Proofs
set_option maxHeartbeats 1000000
namespace Go.Car
open Go Go.Conc Go.RowKit
structure OpX where
 k:Int
 a:Int
 b:Int
 c:Int
structure Ans where
 ok:Bool
 n:Int
 l:List Int
def Ans.none:Ans:=⟨false,0,[]⟩
def OpX.cells (o:OpX):List Value:=[.int .i64 o.k,.int .i64 o.a,.int .i64 o.b,.int .i64 o.c]
def OpX.val (o:OpX):Value:=.agg #[.int .i64 o.k,.int .i64 o.a,.int .i64 o.b,.int .i64 o.c]
def AnsC(tI:TypeId)(X:Nat->Option Obj)(a:Ans)(cs:List Value):Prop:=∃sl,cs=[.bool a.ok,.int .i64 a.n,sl]/\RowB X tI 1 sl a.l.length (a.l.map (Value.int .i64))
def AnsV(tI:TypeId)(a:Ans)(v:Value)(X:Nat->Option Obj):Prop:=∃sl,v=.agg #[.bool a.ok,.int .i64 a.n,sl]/\RowB X tI 1 sl a.l.length (a.l.map (Value.int .i64))
theorem AnsV.plain (tI:TypeId)(ok:Bool)(n:Int):AnsV tI ⟨ok,n,[]⟩ (.agg #[.bool ok,.int .i64 n,.slice Option.none 0 0]) (λ_=>Option.none):=⟨_,rfl,RowB.nil tI 1⟩
inductive AnsL(tI:TypeId):(Nat->Option Obj)->List Ans->List Value->Prop
 |nil:AnsL tI (λ_=>Option.none) [] []
 |snoc {X Y:Nat->Option Obj} {l:List Ans} {cs cs':List Value} {a:Ans} (h:AnsL tI X l cs) (ha:AnsC tI Y a cs') (hd:∀b,Y b≠Option.none->X b=Option.none):AnsL tI (orB Y X) (l++[a]) (cs++cs')
theorem AnsL.len {tI:TypeId}{X:Nat->Option Obj}{l:List Ans}{cs:List Value}(h:AnsL tI X l cs):cs.length=l.length*3:=by
 induction h with
 |nil=>rfl
 |snoc h ha hd ih=>
  obtain⟨sl,rfl,_⟩:=ha;simp[ih];omega
def AnsR(tA tI:TypeId)(X:Nat->Option Obj)(hv:Value)(l:List Ans):Prop:=
 ∃Xr XL cs,RowB Xr tA 3 hv l.length cs/\AnsL tI XL l cs/\X=orB Xr XL/\∀b,Xr b≠Option.none->XL b=Option.none
theorem AnsR.nil (tA tI:TypeId):AnsR tA tI (λ_=>Option.none) (.slice Option.none 0 0) []:=⟨_,_,[],RowB.nil tA 3,.nil,rfl,λ_ h=>rfl⟩
structure AnsM where
 hv:Nat->Value
 X:Nat->Nat->Option Obj
 st:Nat->List Ans
structure AnsT where
 tA:TypeId
 tAs:TypeId
 tI:TypeId
structure AnsRep(T:AnsT)(ab N:Nat)(m:AnsM)(w:World):Prop where
 hd:w.heap[ab]?=some (.cells ((List.range N).map m.hv).toArray T.tAs)
 row:∀i,i<N->AnsR T.tA T.tI (m.X i) (m.hv i) (m.st i)
 blk:∀i b o,i<N->m.X i b=some o->w.heap[b]?=some o
 nab:∀i,i<N->m.X i ab=Option.none
 sep:∀i j b,i<N->j<N->i≠j->m.X i b≠Option.none->m.X j b=Option.none
def ansCore(T:AnsT)(ab N:Nat):Core AnsM (Nat->List Ans) where
 foot m b:=b=ab\/∃i,i<N/\m.X i b≠Option.none
 Rep m w:=AnsRep T ab N m w
 st m:=m.st
 frame m w w' h hs:=⟨(hs ab (.inl rfl)).trans h.hd,h.row,λi b o hi hb=>(hs b (.inr ⟨i,hi,by rw[hb];simp⟩)).trans (h.blk i b o hi hb),h.nab,h.sep⟩
 lt m w b h hb:=by
  rcases hb with rfl |⟨i,hi,hb⟩
  · exact heap_lt h.hd
  · cases ho:m.X i b with
    |none=>exact absurd ho hb
    |some o=>exact heap_lt (h.blk i b o hi ho)
 pin _:=0
def upd'{α:Type}(f:Nat->α)(i:Nat)(x:α):Nat->α:=λj=>if j=i then x else f j
@[simp] theorem upd'_same {α : Type} (f : Nat → α) (i : Nat) (x : α) : upd' f i x i = x := by simp [upd']
theorem upd'_ne{α:Type}(f:Nat->α){i j:Nat}(x:α)(h:j≠i):upd' f i x j=f j:=by simp[upd',h]
def pushP{S1:Type}(i:Nat)(a:Ans):Proc (S1×(Nat->List Ans)) Unit:=Proc.act λs=>((s.1,upd' s.2 i (s.2 i++[a])),())
def opsP{S1:Type}(i:Nat)(dop:OpX->Proc (S1×(Nat->List Ans)) Ans):List OpX->Proc (S1×(Nat->List Ans)) Unit
 |[]=>Proc.ret ()
 |op::l=>(dop op).bind λa=>(pushP i a).bind λ_=>opsP i dop l
theorem AnsR.push {tA tI:TypeId}{Xr XL Y X':Nat->Option Obj}{l:List Ans}{cs cs':List Value}{a:Ans}{v:Value}(hL:AnsL tI XL l cs)(ha:AnsC tI Y a cs')(hd:∀b,Y b≠Option.none->XL b=Option.none)
 (hr:RowB X' tA 3 v (l.length+1) (cs++cs')) (hx:∀b,X' b≠Option.none->orB Y XL b=Option.none):AnsR tA tI (orB X' (orB Y XL)) v (l++[a]):=
 ⟨X',orB Y XL,cs++cs',by simpa using hr,.snoc hL ha hd,rfl,hx⟩
section
variable {P:Program} {A:FuncId->Bool} {Ml S β α:Type} {C:Core Ml S} {ro:Nat->Option Obj} {i:Nat}
def PostR(Y:YSys P A C ro i β)(K:α->Proc S β)(rel:α->Value->(Nat->Option Obj)->Prop)(B:Nat->Option Obj)(s:Y.γ):Ending->World->Prop
 |.returned v,w=>∃a X,rel a v X/\(∀b,X b≠Option.none->B b=Option.none)/\Y.AtB (orB X B) s w (K a)
 |.panicked ch,w=>Y.Dead s ch w
 |.outgrown,_=>False
def SpecR(Y:YSys P A C ro i β)(f:FuncId)(args:Array Value)(p:Proc S α)(rel:α->Value->(Nat->Option Obj)->Prop):Prop:=
 ∀(K:α->Proc S β)(s:Y.γ)(B:Nat->Option Obj)(w:World),(∀a,Y.sil (K a))->Y.AtB B s w (p.bind K)->CallsJ P Y.J f args (PostR Y K rel B) s w
theorem SpecR.of {Y:YSys P A C ro i β}{f:FuncId}{fn:Func}{c:Code}{args:Array Value}{pp:Proc S α}{rel:α->Value->(Nat->Option Obj)->Prop}(hf:P.funcs[f]?=some fn)(hb:fn.body=some c)
 (h:∀(K:α->Proc S β)(s:Y.γ)(B:Nat->Option Obj)(w:World),(∀a,Y.sil (K a))->Y.AtB B s w (pp.bind K)->wpJ Y.J c (bodyC (Y.Bd fn (PostR Y K rel B)) (PostR Y K rel B)) s (enterAct fn args) w):SpecR Y f args pp rel:=
 λK s B w hK hA=>BodyY.calls ⟨fn,c,hf,hb,h K s B w hK hA⟩
end
end Go.Car
set_option maxHeartbeats 4000000
set_option maxRecDepth 100000
namespace Go.Proofs
open Go Go.Conc Go.RowKit Go.Car
def doP{S2:Type}(N:Nat)(op:OpX):Proc (List Int×S2) Ans:=
 if op.k=1 then(addP N op.a op.b).bind λx=>Proc.ret ⟨true,x,[]⟩
 else if op.k=2 then(sumP N).bind λx=>Proc.ret ⟨true,x,[]⟩
 else if op.k=3 then(takeP N).bind λx=>Proc.ret ⟨true,x,[]⟩
 else if op.k=4 then(moveP N op.a op.b op.c).bind λ_=>Proc.ret ⟨true,0,[]⟩
 else if op.k=5 then(evenP N).bind λx=>Proc.ret ⟨x.2,x.1,[]⟩
 else Proc.ret Ans.none
section
variable {M2 S2 β:Type} {D:Core M2 S2} {ro:Nat->Option Obj} {i:Nat} {cb:Nat} {z:Option Nat} {N:Nat}
theorem do_spec(Y:YSys Try.prog aM (prodCore (strCore cb z N) D) ro i β){sv:Value}(hst:StrAtoms Y sv)(who:Int)(op:OpX):
 SpecR Y 27 #[.pointer (some ⟨cb,0,none⟩),sv,.int .i64 who,op.val] (doP N op) (AnsV 2):=by
 refine SpecR.of Try.func27 rfl ?_;intro K s B w hK hA;simp only[enterAct,Try.ntmps27,List.size_toArray,List.length_cons,List.length_nil,Nat.reduceAdd,Nat.reduceSub,Array.replicate_succ,Array.replicate_zero,List.push_toArray,List.append_toArray,List.nil_append,List.cons_append];have HKK:=Lib.hid hK;clear hK;refine wpY_seq Y.jc (wpY_region Y.jc ?_);refine YSys.preX 0 1 1 (λt B'=>∃(b7:Nat)(x4 x5 x6 x8 x9 x10 x11 x12 x13 x14 x15 x16 x17 x18 x19 x20 x21 x22 x23 x24 x25 x26 x27 x28 x29 x30 x31 x32 x33 x34 x35 x36 x37 x38 x39 x40 x41 x42 x43 x44 x45 x46 x47 x48 x49 x50 x51 x52 x53 x54 x55 x56 x57:Value),t=#[.pointer (some ⟨cb,0,none⟩),sv,.int .i64 who,op.val,x4,x5,x6,.pointer (some ⟨b7,0,none⟩),x8,x9,x10,x11,x12,x13,x14,x15,x16,x17,x18,x19,x20,x21,x22,x23,x24,x25,x26,x27,x28,x29,x30,x31,x32,x33,x34,x35,x36,x37,x38,x39,x40,x41,x42,x43,x44,x45,x46,x47,x48,x49,x50,x51,x52,x53,x54,x55,x56,x57]/\B b7=none/\B'=upB B b7 (.cells op.cells.toArray 46)) hA rfl rfl rfl rfl ?_ ?_
 · intro wc hB X0 hX0;have HX0:=Lib.hid hX0;clear hX0;have hm:=OMoved.push (o:=.cells op.cells.toArray 46) hB.own (Ext1.alloc wc (.cells op.cells.toArray 46)) (Nat.le_refl _) (by rw[zq2];simp);have hf:=hB.own.fresh (Nat.le_refl _);have HM:=Lib.hid (And.intro hm hf);clear hm hf;unfold OpX.val;go_wp2;exact HX0.out _ _ _ HM.out.1 ⟨_,_,_,_,_,_,_,_,_,_,_,_,_,_,_,_,_,_,_,_,_,_,_,_,_,_,_,_,_,_,_,_,_,_,_,_,_,_,_,_,_,_,_,_,_,_,_,_,_,_,_,_,_,_,rfl,HM.out.2,rfl⟩
 clear hA;rintro _ _ w ⟨b7,x4,x5,x6,x8,x9,x10,x11,x12,x13,x14,x15,x16,x17,x18,x19,x20,x21,x22,x23,x24,x25,x26,x27,x28,x29,x30,x31,x32,x33,x34,x35,x36,x37,x38,x39,x40,x41,x42,x43,x44,x45,x46,x47,x48,x49,x50,x51,x52,x53,x54,x55,x56,x57,rfl,hb7,rfl⟩ hA;refine YSys.opsX 1 1 (λt B'=>∃(b8:Nat)(x4 x5 x6 x9 x10 x11 x12 x13 x14 x15 x16 x17 x18 x19 x20 x21 x22 x23 x24 x25 x26 x27 x28 x29 x30 x31 x32 x33 x34 x35 x36 x37 x38 x39 x40 x41 x42 x43 x44 x45 x46 x47 x48 x49 x50 x51 x52 x53 x54 x55 x56 x57:Value),t=#[.pointer (some ⟨cb,0,none⟩),sv,.int .i64 who,op.val,x4,x5,x6,.pointer (some ⟨b7,0,none⟩),.pointer (some ⟨b8,0,none⟩),x9,x10,x11,x12,x13,x14,x15,x16,x17,x18,x19,x20,x21,x22,x23,x24,x25,x26,x27,x28,x29,x30,x31,x32,x33,x34,x35,x36,x37,x38,x39,x40,x41,x42,x43,x44,x45,x46,x47,x48,x49,x50,x51,x52,x53,x54,x55,x56,x57]/\upB B b7 (.cells op.cells.toArray 46) b8=none/\B'=upB (upB B b7 (.cells op.cells.toArray 46)) b8 (.cells #[.bool false,.int .i64 0,.slice none 0 0] 43)) hA rfl rfl (by kernel_rfl) ?_ ?_
 · intro wc hB X0 hX0;have HX0:=Lib.hid hX0;clear hX0;have hm:=OMoved.push (o:=.cells #[.bool false,.int .i64 0,.slice none 0 0] 43) hB.own (Ext1.alloc wc (.cells #[.bool false,.int .i64 0,.slice none 0 0] 43)) (Nat.le_refl _) (by rw[zq2];simp);have hf:=hB.own.fresh (Nat.le_refl _);have HM:=Lib.hid (And.intro hm hf);clear hm hf;go_wp2;exact⟨rfl,HX0.out _ _ _ HM.out.1 ⟨_,_,_,_,_,_,_,_,_,_,_,_,_,_,_,_,_,_,_,_,_,_,_,_,_,_,_,_,_,_,_,_,_,_,_,_,_,_,_,_,_,_,_,_,_,_,_,_,_,_,_,_,_,rfl,HM.out.2,rfl⟩⟩
 clear hA;rintro _ _ w ⟨b8,x4,x5,x6,x9,x10,x11,x12,x13,x14,x15,x16,x17,x18,x19,x20,x21,x22,x23,x24,x25,x26,x27,x28,x29,x30,x31,x32,x33,x34,x35,x36,x37,x38,x39,x40,x41,x42,x43,x44,x45,x46,x47,x48,x49,x50,x51,x52,x53,x54,x55,x56,x57,rfl,hb8,rfl⟩ hA;show wpJ Y.J _ _ _ _ _;refine YSys.seqX (λt B'=>∃(b9:Nat)(x4 x5 x6 x10 x11 x12 x13 x14 x15 x16 x17 x18 x19 x20 x21 x22 x23 x24 x25 x26 x27 x28 x29 x30 x31 x32 x33 x34 x35 x36 x37 x38 x39 x40 x41 x42 x43 x44 x45 x46 x47 x48 x49 x50 x51 x52 x53 x54 x55 x56 x57:Value),t=#[.pointer (some ⟨cb,0,none⟩),sv,.int .i64 who,op.val,x4,x5,x6,.pointer (some ⟨b7,0,none⟩),.pointer (some ⟨b8,0,none⟩),.pointer (some ⟨b9,0,none⟩),x10,x11,x12,x13,x14,x15,x16,x17,x18,x19,x20,x21,x22,x23,x24,x25,x26,x27,x28,x29,x30,x31,x32,x33,x34,x35,x36,x37,x38,x39,x40,x41,x42,x43,x44,x45,x46,x47,x48,x49,x50,x51,x52,x53,x54,x55,x56,x57]/\upB (upB B b7 (.cells op.cells.toArray 46)) b8 (.cells #[.bool false,.int .i64 0,.slice none 0 0] 43) b9=none/\B'=upB (upB (upB B b7 (.cells op.cells.toArray 46)) b8 (.cells #[.bool false,.int .i64 0,.slice none 0 0] 43)) b9 (.cells #[.bool true,.int .i64 0,.slice none 0 0] 43)) hA (by kernel_rfl) ?_ ?_
 · intro wc hB X0 hX0;have HX0:=Lib.hid hX0;clear hX0;have hm:=OMoved.push (o:=.cells #[.bool true,.int .i64 0,.slice none 0 0] 43) hB.own (Ext1.alloc wc (.cells #[.bool true,.int .i64 0,.slice none 0 0] 43)) (Nat.le_refl _) (by rw[zq2];simp);have hf:=hB.own.fresh (Nat.le_refl _);have HM:=Lib.hid (And.intro hm hf);clear hm hf;go_wp2;exact⟨rfl,HX0.out _ _ _ HM.out.1 ⟨_,_,_,_,_,_,_,_,_,_,_,_,_,_,_,_,_,_,_,_,_,_,_,_,_,_,_,_,_,_,_,_,_,_,_,_,_,_,_,_,_,_,_,_,_,_,_,_,_,_,_,_,rfl,HM.out.2,rfl⟩⟩
 clear hA;rintro _ _ w ⟨b9,x4,x5,x6,x10,x11,x12,x13,x14,x15,x16,x17,x18,x19,x20,x21,x22,x23,x24,x25,x26,x27,x28,x29,x30,x31,x32,x33,x34,x35,x36,x37,x38,x39,x40,x41,x42,x43,x44,x45,x46,x47,x48,x49,x50,x51,x52,x53,x54,x55,x56,x57,rfl,hb9,rfl⟩ hA;have h7:upB (upB (upB B b7 (.cells op.cells.toArray 46)) b8 (.cells #[.bool false,.int .i64 0,.slice none 0 0] 43)) b9 (.cells #[.bool true,.int .i64 0,.slice none 0 0] 43) b7=some (.cells op.cells.toArray 46):=upB_of (upB_of (upB_same _ _ _) (none_ne (upB_same _ _ _) hb8)) (none_ne (upB_of (upB_same _ _ _) (none_ne (upB_same _ _ _) hb8)) hb9);have h8:upB (upB (upB B b7 (.cells op.cells.toArray 46)) b8 (.cells #[.bool false,.int .i64 0,.slice none 0 0] 43)) b9 (.cells #[.bool true,.int .i64 0,.slice none 0 0] 43) b8=some (.cells #[.bool false,.int .i64 0,.slice none 0 0] 43):=upB_of (upB_same _ _ _) (none_ne (upB_same _ _ _) hb9);have h9:upB (upB (upB B b7 (.cells op.cells.toArray 46)) b8 (.cells #[.bool false,.int .i64 0,.slice none 0 0] 43)) b9 (.cells #[.bool true,.int .i64 0,.slice none 0 0] 43) b9=some (.cells #[.bool true,.int .i64 0,.slice none 0 0] 43):=upB_same _ _ _;have hB8:B b8=none:=Classical.byContradiction λh=>by
  cases ho:B b8 with
  |none=>exact h ho
  |some o=>rw[upB_le (o:=.cells op.cells.toArray 46) hb7 b8 o ho]at hb8;cases hb8
 have hB9:B b9=none:=Classical.byContradiction λh=>by
  cases ho:B b9 with
  |none=>exact h ho
  |some o=>rw[upB_keep (o:=.cells #[.bool false,.int .i64 0,.slice none 0 0] 43) (upB_le (o:=.cells op.cells.toArray 46) hb7) hB8 b9 o ho]at hb9;cases hb9
 have hle:∀x y,B x=some y->upB (upB (upB B b7 (.cells op.cells.toArray 46)) b8 (.cells #[.bool false,.int .i64 0,.slice none 0 0] 43)) b9 (.cells #[.bool true,.int .i64 0,.slice none 0 0] 43) x=some y:=upB_keep (upB_keep (upB_le (o:=.cells op.cells.toArray 46) hb7) hB8) hB9;have h89:b8≠b9:=none_ne (upB_same _ _ _) hb9;obtain⟨B1,hB1⟩:∃X,upB (upB (upB B b7 (.cells op.cells.toArray 46)) b8 (.cells #[.bool false,.int .i64 0,.slice none 0 0] 43)) b9 (.cells #[.bool true,.int .i64 0,.slice none 0 0] 43)=X:=⟨_,rfl⟩;rw[hB1]at h7 h8 h9 hle hA;have H7:=Lib.hid h7;have H8:=Lib.hid h8;have H9:=Lib.hid h9;have HLE:=Lib.hid hle;have HN:=Lib.hid (And.intro hB8 (And.intro hB9 h89));clear h7 h8 h9 hle hB1 hb7 hb8 hb9 hB8 hB9 h89;show wpJ Y.J _ _ _ _ _;refine wpY_cut Y.jc (λs a w=>∃(B2:Nat->Option Obj)(ok:Bool)(x:Int)(x4 x5 x6 x10 x11 x13 x14 x15 x16 x17 x18 x19 x20 x21 x22 x23 x24 x25 x26 x27 x28 x29 x30 x31 x32 x33 x34 x35 x36 x37 x38 x39 x40 x41 x42 x43 x44 x45 x46 x47 x48 x49 x50 x51 x52 x53 x54 x55 x56 x57:Value),a=⟨#[.pointer (some ⟨cb,0,none⟩),sv,.int .i64 who,op.val,x4,x5,x6,.pointer (some ⟨b7,0,none⟩),.pointer (some ⟨b8,0,none⟩),.pointer (some ⟨b9,0,none⟩),x10,x11,.int .i64 op.k,x13,x14,x15,x16,x17,x18,x19,x20,x21,x22,x23,x24,x25,x26,x27,x28,x29,x30,x31,x32,x33,x34,x35,x36,x37,x38,x39,x40,x41,x42,x43,x44,x45,x46,x47,x48,x49,x50,x51,x52,x53,x54,x55,x56,x57],[]⟩/\(B2 b8=some (.cells #[.bool false,.int .i64 0,.slice none 0 0] 43)/\B2 b9=some (.cells #[.bool ok,.int .i64 x,.slice none 0 0] 43)/\∀x y,B x=some y->B2 x=some y)/\Y.AtB B2 s w (K ⟨ok,x,[]⟩)) ?_ ?_
 ·
  apply YSys.seq0 hA (by kernel_rfl)
  · intro wc hB;have c70:wc.cell? ⟨b7,0,none⟩=some (.int .i64 op.k):=(zq0 (hB.own.box b7 _ H7.out)).trans rfl;have c71:wc.cell? ⟨b7,1,none⟩=some (.int .i64 op.a):=(zq0 (hB.own.box b7 _ H7.out)).trans rfl;have c72:wc.cell? ⟨b7,2,none⟩=some (.int .i64 op.b):=(zq0 (hB.own.box b7 _ H7.out)).trans rfl;have c73:wc.cell? ⟨b7,3,none⟩=some (.int .i64 op.c):=(zq0 (hB.own.box b7 _ H7.out)).trans rfl;go_wp2;exact⟨rfl,Ext1.refl _,rfl⟩
  intro w hA;refine wpY_block Y.jc ?_;unfold doP at hA;apply YSys.seq0 hA (by kernel_rfl)
  · intro wc hB;go_wp2;exact⟨rfl,Ext1.refl _,rfl⟩
  intro w hA;refine wpY_cond Y.jc rfl ?_
  by_cases hk1:op.k=1
  · rw[if_pos (by simp[hk1])];rw[if_pos hk1,Proc.bind_bind]at hA;clear hk1;refine wpY_region Y.jc ?_;apply YSys.callR 0 6 2 hA (add_spec Y hst op.a op.b).spec (λx=>HKK.out _) rfl rfl rfl (by rfl) rfl rfl rfl
    · intro wc hB X hX;have HX:=Lib.hid hX;clear hX;have c70:wc.cell? ⟨b7,0,none⟩=some (.int .i64 op.k):=(zq0 (hB.own.box b7 _ H7.out)).trans rfl;have c71:wc.cell? ⟨b7,1,none⟩=some (.int .i64 op.a):=(zq0 (hB.own.box b7 _ H7.out)).trans rfl;have c72:wc.cell? ⟨b7,2,none⟩=some (.int .i64 op.b):=(zq0 (hB.own.box b7 _ H7.out)).trans rfl;have c73:wc.cell? ⟨b7,3,none⟩=some (.int .i64 op.c):=(zq0 (hB.own.box b7 _ H7.out)).trans rfl;go_wp2;exact HX.out _ (Ext1.refl _)
    · intro w;simp[go_sem,execOp,Act.eval,resolve,Deferred.ofValue,invoke,callFunc,Try.func21,Try.f21]
    · intro w;simp[go_sem,execOp,Act.eval,resolve,Deferred.ofValue,invoke,callFunc,Try.func21,Try.f21]
    · intro s' ch w' h;exact⟨rfl,h⟩
    intro s x w hA;refine YSys.opsX 7 2 (λt B'=>∃(y4 y5 y6 y10 y11 y13 y14 y15 y16 y17 y18 y19 y20 y21 y22 y23 y24 y25 y26 y27 y28 y29 y30 y31 y32 y33 y34 y35 y36 y37 y38 y39 y40 y41 y42 y43 y44 y45 y46 y47 y48 y49 y50 y51 y52 y53 y54 y55 y56 y57:Value),t=#[.pointer (some ⟨cb,0,none⟩),sv,.int .i64 who,op.val,y4,y5,y6,.pointer (some ⟨b7,0,none⟩),.pointer (some ⟨b8,0,none⟩),.pointer (some ⟨b9,0,none⟩),y10,y11,.int .i64 op.k,y13,y14,y15,y16,y17,y18,y19,y20,y21,y22,y23,y24,y25,y26,y27,y28,y29,y30,y31,y32,y33,y34,y35,y36,y37,y38,y39,y40,y41,y42,y43,y44,y45,y46,y47,y48,y49,y50,y51,y52,y53,y54,y55,y56,y57]/\B'=upB B1 b9 (.cells #[.bool true,.int .i64 x,.slice none 0 0] 43)) hA rfl rfl (by kernel_rfl) ?_ ?_
    · intro wc hB X0 hX0;have HX0:=Lib.hid hX0;clear hX0;have k9:=hB.own.box b9 _ H9.out;have c90:wc.cell? ⟨b9,0,none⟩=some (.bool true):=(zq0 k9).trans rfl;have c91:wc.cell? ⟨b9,1,none⟩=some (.int .i64 0):=(zq0 k9).trans rfl;have f90:wc.frozen? ⟨b9,0,none⟩=false:=zq5 k9;have f91:wc.frozen? ⟨b9,1,none⟩=false:=zq5 k9;clear k9;have hm:=OMoved.set (off:=1) hB.own H9.out (.int .i64 x);have HM:=Lib.hid hm;clear hm;go_wp2;exact⟨rfl,HX0.out _ _ _ HM.out ⟨_,_,_,_,_,_,_,_,_,_,_,_,_,_,_,_,_,_,_,_,_,_,_,_,_,_,_,_,_,_,_,_,_,_,_,_,_,_,_,_,_,_,_,_,_,_,_,_,_,_,rfl,rfl⟩⟩
    rintro _ _ w ⟨y4,y5,y6,y10,y11,y13,y14,y15,y16,y17,y18,y19,y20,y21,y22,y23,y24,y25,y26,y27,y28,y29,y30,y31,y32,y33,y34,y35,y36,y37,y38,y39,y40,y41,y42,y43,y44,y45,y46,y47,y48,y49,y50,y51,y52,y53,y54,y55,y56,y57,rfl,rfl⟩ hA;exact⟨_,true,x,_,_,_,_,_,_,_,_,_,_,_,_,_,_,_,_,_,_,_,_,_,_,_,_,_,_,_,_,_,_,_,_,_,_,_,_,_,_,_,_,_,_,_,_,_,_,_,_,_,_,rfl,⟨upB_of H8.out HN.out.2.2,upB_same _ _ _,upB_keep HLE.out HN.out.2.1⟩,hA⟩
  rw[if_neg (by simp[hk1])];rw[if_neg hk1]at hA;clear hk1;apply YSys.seq0 hA (by kernel_rfl)
  · intro wc hB;go_wp2;exact⟨rfl,Ext1.refl _,rfl⟩
  intro w hA;refine wpY_cond Y.jc rfl ?_
  by_cases hk2:op.k=2
  · rw[if_pos (by simp[hk2])];rw[if_pos hk2,Proc.bind_bind]at hA;clear hk2;refine wpY_region Y.jc ?_;apply YSys.callR 0 2 2 hA (sum_spec Y hst).spec (λx=>HKK.out _) rfl rfl rfl (by rfl) rfl rfl rfl
    · intro wc hB X hX;have HX:=Lib.hid hX;clear hX;go_wp2;exact HX.out _ (Ext1.refl _)
    · intro w;simp[go_sem,execOp,Act.eval,resolve,Deferred.ofValue,invoke,callFunc,Try.func22,Try.f22]
    · intro w;simp[go_sem,execOp,Act.eval,resolve,Deferred.ofValue,invoke,callFunc,Try.func22,Try.f22]
    · intro s' ch w' h;exact⟨rfl,h⟩
    intro s x w hA;refine YSys.opsX 3 2 (λt B'=>∃(y4 y5 y6 y10 y11 y13 y14 y15 y16 y17 y18 y19 y20 y21 y22 y23 y24 y25 y26 y27 y28 y29 y30 y31 y32 y33 y34 y35 y36 y37 y38 y39 y40 y41 y42 y43 y44 y45 y46 y47 y48 y49 y50 y51 y52 y53 y54 y55 y56 y57:Value),t=#[.pointer (some ⟨cb,0,none⟩),sv,.int .i64 who,op.val,y4,y5,y6,.pointer (some ⟨b7,0,none⟩),.pointer (some ⟨b8,0,none⟩),.pointer (some ⟨b9,0,none⟩),y10,y11,.int .i64 op.k,y13,y14,y15,y16,y17,y18,y19,y20,y21,y22,y23,y24,y25,y26,y27,y28,y29,y30,y31,y32,y33,y34,y35,y36,y37,y38,y39,y40,y41,y42,y43,y44,y45,y46,y47,y48,y49,y50,y51,y52,y53,y54,y55,y56,y57]/\B'=upB B1 b9 (.cells #[.bool true,.int .i64 x,.slice none 0 0] 43)) hA rfl rfl (by kernel_rfl) ?_ ?_
    · intro wc hB X0 hX0;have HX0:=Lib.hid hX0;clear hX0;have k9:=hB.own.box b9 _ H9.out;have c90:wc.cell? ⟨b9,0,none⟩=some (.bool true):=(zq0 k9).trans rfl;have c91:wc.cell? ⟨b9,1,none⟩=some (.int .i64 0):=(zq0 k9).trans rfl;have f90:wc.frozen? ⟨b9,0,none⟩=false:=zq5 k9;have f91:wc.frozen? ⟨b9,1,none⟩=false:=zq5 k9;clear k9;have hm:=OMoved.set (off:=1) hB.own H9.out (.int .i64 x);have HM:=Lib.hid hm;clear hm;go_wp2;exact⟨rfl,HX0.out _ _ _ HM.out ⟨_,_,_,_,_,_,_,_,_,_,_,_,_,_,_,_,_,_,_,_,_,_,_,_,_,_,_,_,_,_,_,_,_,_,_,_,_,_,_,_,_,_,_,_,_,_,_,_,_,_,rfl,rfl⟩⟩
    rintro _ _ w ⟨y4,y5,y6,y10,y11,y13,y14,y15,y16,y17,y18,y19,y20,y21,y22,y23,y24,y25,y26,y27,y28,y29,y30,y31,y32,y33,y34,y35,y36,y37,y38,y39,y40,y41,y42,y43,y44,y45,y46,y47,y48,y49,y50,y51,y52,y53,y54,y55,y56,y57,rfl,rfl⟩ hA;exact⟨_,true,x,_,_,_,_,_,_,_,_,_,_,_,_,_,_,_,_,_,_,_,_,_,_,_,_,_,_,_,_,_,_,_,_,_,_,_,_,_,_,_,_,_,_,_,_,_,_,_,_,_,_,rfl,⟨upB_of H8.out HN.out.2.2,upB_same _ _ _,upB_keep HLE.out HN.out.2.1⟩,hA⟩
  rw[if_neg (by simp[hk2])];rw[if_neg hk2]at hA;clear hk2;apply YSys.seq0 hA (by kernel_rfl)
  · intro wc hB;go_wp2;exact⟨rfl,Ext1.refl _,rfl⟩
  intro w hA;refine wpY_cond Y.jc rfl ?_
  by_cases hk3:op.k=3
  · rw[if_pos (by simp[hk3])];rw[if_pos hk3,Proc.bind_bind]at hA;clear hk3;refine wpY_region Y.jc ?_;apply YSys.callR 0 2 2 hA (take_spec Y hst).spec (λx=>HKK.out _) rfl rfl rfl (by rfl) rfl rfl rfl
    · intro wc hB X hX;have HX:=Lib.hid hX;clear hX;go_wp2;exact HX.out _ (Ext1.refl _)
    · intro w;simp[go_sem,execOp,Act.eval,resolve,Deferred.ofValue,invoke,callFunc,Try.func23,Try.f23]
    · intro w;simp[go_sem,execOp,Act.eval,resolve,Deferred.ofValue,invoke,callFunc,Try.func23,Try.f23]
    · intro s' ch w' h;exact⟨rfl,h⟩
    intro s x w hA;refine YSys.opsX 3 2 (λt B'=>∃(y4 y5 y6 y10 y11 y13 y14 y15 y16 y17 y18 y19 y20 y21 y22 y23 y24 y25 y26 y27 y28 y29 y30 y31 y32 y33 y34 y35 y36 y37 y38 y39 y40 y41 y42 y43 y44 y45 y46 y47 y48 y49 y50 y51 y52 y53 y54 y55 y56 y57:Value),t=#[.pointer (some ⟨cb,0,none⟩),sv,.int .i64 who,op.val,y4,y5,y6,.pointer (some ⟨b7,0,none⟩),.pointer (some ⟨b8,0,none⟩),.pointer (some ⟨b9,0,none⟩),y10,y11,.int .i64 op.k,y13,y14,y15,y16,y17,y18,y19,y20,y21,y22,y23,y24,y25,y26,y27,y28,y29,y30,y31,y32,y33,y34,y35,y36,y37,y38,y39,y40,y41,y42,y43,y44,y45,y46,y47,y48,y49,y50,y51,y52,y53,y54,y55,y56,y57]/\B'=upB B1 b9 (.cells #[.bool true,.int .i64 x,.slice none 0 0] 43)) hA rfl rfl (by kernel_rfl) ?_ ?_
    · intro wc hB X0 hX0;have HX0:=Lib.hid hX0;clear hX0;have k9:=hB.own.box b9 _ H9.out;have c90:wc.cell? ⟨b9,0,none⟩=some (.bool true):=(zq0 k9).trans rfl;have c91:wc.cell? ⟨b9,1,none⟩=some (.int .i64 0):=(zq0 k9).trans rfl;have f90:wc.frozen? ⟨b9,0,none⟩=false:=zq5 k9;have f91:wc.frozen? ⟨b9,1,none⟩=false:=zq5 k9;clear k9;have hm:=OMoved.set (off:=1) hB.own H9.out (.int .i64 x);have HM:=Lib.hid hm;clear hm;go_wp2;exact⟨rfl,HX0.out _ _ _ HM.out ⟨_,_,_,_,_,_,_,_,_,_,_,_,_,_,_,_,_,_,_,_,_,_,_,_,_,_,_,_,_,_,_,_,_,_,_,_,_,_,_,_,_,_,_,_,_,_,_,_,_,_,rfl,rfl⟩⟩
    rintro _ _ w ⟨y4,y5,y6,y10,y11,y13,y14,y15,y16,y17,y18,y19,y20,y21,y22,y23,y24,y25,y26,y27,y28,y29,y30,y31,y32,y33,y34,y35,y36,y37,y38,y39,y40,y41,y42,y43,y44,y45,y46,y47,y48,y49,y50,y51,y52,y53,y54,y55,y56,y57,rfl,rfl⟩ hA;exact⟨_,true,x,_,_,_,_,_,_,_,_,_,_,_,_,_,_,_,_,_,_,_,_,_,_,_,_,_,_,_,_,_,_,_,_,_,_,_,_,_,_,_,_,_,_,_,_,_,_,_,_,_,_,rfl,⟨upB_of H8.out HN.out.2.2,upB_same _ _ _,upB_keep HLE.out HN.out.2.1⟩,hA⟩
  rw[if_neg (by simp[hk3])];rw[if_neg hk3]at hA;clear hk3;apply YSys.seq0 hA (by kernel_rfl)
  · intro wc hB;go_wp2;exact⟨rfl,Ext1.refl _,rfl⟩
  intro w hA;refine wpY_cond Y.jc rfl ?_
  by_cases hk4:op.k=4
  · rw[if_pos (by simp[hk4])];rw[if_pos hk4,Proc.bind_bind]at hA;clear hk4;refine wpY_region Y.jc ?_;apply YSys.callR 0 8 0 hA (move_spec Y hst op.a op.b op.c).spec (λx=>HKK.out _) rfl rfl rfl (by rfl) rfl rfl rfl
    · intro wc hB X hX;have HX:=Lib.hid hX;clear hX;have c70:wc.cell? ⟨b7,0,none⟩=some (.int .i64 op.k):=(zq0 (hB.own.box b7 _ H7.out)).trans rfl;have c71:wc.cell? ⟨b7,1,none⟩=some (.int .i64 op.a):=(zq0 (hB.own.box b7 _ H7.out)).trans rfl;have c72:wc.cell? ⟨b7,2,none⟩=some (.int .i64 op.b):=(zq0 (hB.own.box b7 _ H7.out)).trans rfl;have c73:wc.cell? ⟨b7,3,none⟩=some (.int .i64 op.c):=(zq0 (hB.own.box b7 _ H7.out)).trans rfl;go_wp2;exact HX.out _ (Ext1.refl _)
    · intro w;simp[go_sem,execOp,Act.eval,resolve,Deferred.ofValue,invoke,callFunc,Try.func30,Try.f30]
    · intro w;simp[go_sem,execOp,Act.eval,resolve,Deferred.ofValue,invoke,callFunc,Try.func30,Try.f30]
    · intro s' ch w' h;exact⟨rfl,h⟩
    intro s x w hA;refine opsC_nil Y.jc ?_;exact⟨B1,true,0,_,_,_,_,_,_,_,_,_,_,_,_,_,_,_,_,_,_,_,_,_,_,_,_,_,_,_,_,_,_,_,_,_,_,_,_,_,_,_,_,_,_,_,_,_,_,_,_,_,_,rfl,⟨H8.out,H9.out,HLE.out⟩,hA⟩
  rw[if_neg (by simp[hk4])];rw[if_neg hk4]at hA;clear hk4;apply YSys.seq0 hA (by kernel_rfl)
  · intro wc hB;go_wp2;exact⟨rfl,Ext1.refl _,rfl⟩
  intro w hA;refine wpY_cond Y.jc rfl ?_
  by_cases hk5:op.k=5
  · rw[if_pos (by simp[hk5])];rw[if_pos hk5,Proc.bind_bind]at hA;clear hk5;refine wpY_region Y.jc ?_;apply YSys.callR 0 2 7 hA (even_spec Y hst).spec (λx=>HKK.out _) rfl rfl rfl (by rfl) rfl rfl rfl
    · intro wc hB X hX;have HX:=Lib.hid hX;clear hX;go_wp2;exact HX.out _ (Ext1.refl _)
    · intro w;simp[go_sem,execOp,Act.eval,resolve,Deferred.ofValue,invoke,callFunc,Try.func20,Try.f20]
    · intro w;simp[go_sem,execOp,Act.eval,resolve,Deferred.ofValue,invoke,callFunc,Try.func20,Try.f20]
    · intro s' ch w' h;exact⟨rfl,h⟩
    intro s x w hA;obtain⟨x,ok⟩:=x;unfold evenV;refine YSys.opsX 3 7 (λt B'=>∃(y4 y5 y6 y10 y11 y13 y14 y15 y16 y17 y18 y19 y20 y21 y22 y23 y24 y25 y26 y27 y28 y29 y30 y31 y32 y33 y34 y35 y36 y37 y38 y39 y40 y41 y42 y43 y44 y45 y46 y47 y48 y49 y50 y51 y52 y53 y54 y55 y56 y57:Value),t=#[.pointer (some ⟨cb,0,none⟩),sv,.int .i64 who,op.val,y4,y5,y6,.pointer (some ⟨b7,0,none⟩),.pointer (some ⟨b8,0,none⟩),.pointer (some ⟨b9,0,none⟩),y10,y11,.int .i64 op.k,y13,y14,y15,y16,y17,y18,y19,y20,y21,y22,y23,y24,y25,y26,y27,y28,y29,y30,y31,y32,y33,y34,y35,y36,y37,y38,y39,y40,y41,y42,y43,y44,y45,y46,y47,y48,y49,y50,y51,y52,y53,y54,y55,y56,y57]/\B'=upB B1 b9 (.cells #[.bool ok,.int .i64 x,.slice none 0 0] 43)) hA rfl rfl (by kernel_rfl) ?_ ?_
    · intro wc hB X0 hX0;have HX0:=Lib.hid hX0;clear hX0;have k9:=hB.own.box b9 _ H9.out;have c90:wc.cell? ⟨b9,0,none⟩=some (.bool true):=(zq0 k9).trans rfl;have c91:wc.cell? ⟨b9,1,none⟩=some (.int .i64 0):=(zq0 k9).trans rfl;have f90:wc.frozen? ⟨b9,0,none⟩=false:=zq5 k9;have f91:wc.frozen? ⟨b9,1,none⟩=false:=zq5 k9;clear k9;have hm:=OMoved.set2 (o1:=1) (o2:=0) hB.own H9.out (.int .i64 x) (.bool ok);have HM:=Lib.hid hm;clear hm;go_wp2;exact⟨rfl,HX0.out _ _ _ HM.out ⟨_,_,_,_,_,_,_,_,_,_,_,_,_,_,_,_,_,_,_,_,_,_,_,_,_,_,_,_,_,_,_,_,_,_,_,_,_,_,_,_,_,_,_,_,_,_,_,_,_,_,rfl,rfl⟩⟩
    rintro _ _ w ⟨y4,y5,y6,y10,y11,y13,y14,y15,y16,y17,y18,y19,y20,y21,y22,y23,y24,y25,y26,y27,y28,y29,y30,y31,y32,y33,y34,y35,y36,y37,y38,y39,y40,y41,y42,y43,y44,y45,y46,y47,y48,y49,y50,y51,y52,y53,y54,y55,y56,y57,rfl,rfl⟩ hA;exact⟨_,ok,x,_,_,_,_,_,_,_,_,_,_,_,_,_,_,_,_,_,_,_,_,_,_,_,_,_,_,_,_,_,_,_,_,_,_,_,_,_,_,_,_,_,_,_,_,_,_,_,_,_,_,rfl,⟨upB_of H8.out HN.out.2.2,upB_same _ _ _,upB_keep HLE.out HN.out.2.1⟩,hA⟩
  rw[if_neg (by simp[hk5])];rw[if_neg hk5]at hA;clear hk5;refine YSys.seqX (λt B'=>∃(y4 y5 y6 y10 y11 y13 y14 y15 y16 y17 y18 y19 y20 y21 y22 y23 y24 y25 y26 y27 y28 y29 y30 y31 y32 y33 y34 y35 y36 y37 y38 y39 y40 y41 y42 y43 y44 y45 y46 y47 y48 y49 y50 y51 y52 y53 y54 y55 y56 y57:Value),t=#[.pointer (some ⟨cb,0,none⟩),sv,.int .i64 who,op.val,y4,y5,y6,.pointer (some ⟨b7,0,none⟩),.pointer (some ⟨b8,0,none⟩),.pointer (some ⟨b9,0,none⟩),y10,y11,.int .i64 op.k,y13,y14,y15,y16,y17,y18,y19,y20,y21,y22,y23,y24,y25,y26,y27,y28,y29,y30,y31,y32,y33,y34,y35,y36,y37,y38,y39,y40,y41,y42,y43,y44,y45,y46,y47,y48,y49,y50,y51,y52,y53,y54,y55,y56,y57]/\B'=upB B1 b8 (.cells #[.bool false,.int .i64 0,.slice none 0 0] 43)) hA (by kernel_rfl) ?_ ?_
  · intro wc hB X0 hX0;have HX0:=Lib.hid hX0;clear hX0;have k8:=hB.own.box b8 _ H8.out;have c80:wc.cell? ⟨b8,0,none⟩=some (.bool false):=(zq0 k8).trans rfl;have c81:wc.cell? ⟨b8,1,none⟩=some (.int .i64 0):=(zq0 k8).trans rfl;have c82:wc.cell? ⟨b8,2,none⟩=some (.slice none 0 0):=(zq0 k8).trans rfl;have f80:wc.frozen? ⟨b8,0,none⟩=false:=zq5 k8;have f81:wc.frozen? ⟨b8,1,none⟩=false:=zq5 k8;have f82:wc.frozen? ⟨b8,2,none⟩=false:=zq5 k8;have hm:=OMoved.set3 (o1:=0) (o2:=1) (o3:=2) hB.own H8.out (.bool false) (.int .i64 0) (.slice none 0 0);have HM:=Lib.hid hm;clear hm k8;go_wp2;exact⟨rfl,HX0.out _ _ _ HM.out ⟨_,_,_,_,_,_,_,_,_,_,_,_,_,_,_,_,_,_,_,_,_,_,_,_,_,_,_,_,_,_,_,_,_,_,_,_,_,_,_,_,_,_,_,_,_,_,_,_,_,_,rfl,rfl⟩⟩
  rintro _ _ w ⟨y4,y5,y6,y10,y11,y13,y14,y15,y16,y17,y18,y19,y20,y21,y22,y23,y24,y25,y26,y27,y28,y29,y30,y31,y32,y33,y34,y35,y36,y37,y38,y39,y40,y41,y42,y43,y44,y45,y46,y47,y48,y49,y50,y51,y52,y53,y54,y55,y56,y57,rfl,rfl⟩ hA;refine wpY_ret Y.jc ?_;refine YSys.left hA (v:=.agg #[.bool false,.int .i64 0,.slice none 0 0]) (λwc hB=>results_cell_row rfl _ wc b8 43 _ _ _ rfl (hB.own.box b8 _ (upB_same _ _ _)) rfl rfl rfl) λw hA=>?_;exact⟨Ans.none,λ_=>none,AnsV.plain _ _ _,λb hb=>absurd rfl hb,hA.drop (upB_keep HLE.out HN.out.1)⟩
 ·
  clear hA;rintro s a w ⟨B2,ok,x,z4,z5,z6,z10,z11,z13,z14,z15,z16,z17,z18,z19,z20,z21,z22,z23,z24,z25,z26,z27,z28,z29,z30,z31,z32,z33,z34,z35,z36,z37,z38,z39,z40,z41,z42,z43,z44,z45,z46,z47,z48,z49,z50,z51,z52,z53,z54,z55,z56,z57,rfl,hF,hA⟩;have HF:=Lib.hid hF;clear hF;refine YSys.seqX (λt B'=>∃(q4 q5 q6 q10 q11 q13 q14 q15 q16 q17 q18 q19 q20 q21 q22 q23 q24 q25 q26 q27 q28 q29 q30 q31 q32 q33 q34 q35 q36 q37 q38 q39 q40 q41 q42 q43 q44 q45 q46 q47 q48 q49 q50 q51 q52 q53 q54 q55 q56 q57:Value),t=#[.pointer (some ⟨cb,0,none⟩),sv,.int .i64 who,op.val,q4,q5,q6,.pointer (some ⟨b7,0,none⟩),.pointer (some ⟨b8,0,none⟩),.pointer (some ⟨b9,0,none⟩),q10,q11,.int .i64 op.k,q13,q14,q15,q16,q17,q18,q19,q20,q21,q22,q23,q24,q25,q26,q27,q28,q29,q30,q31,q32,q33,q34,q35,q36,q37,q38,q39,q40,q41,q42,q43,q44,q45,q46,q47,q48,q49,q50,q51,q52,q53,q54,q55,q56,q57]/\B'=upB B2 b8 (.cells #[.bool ok,.int .i64 x,.slice none 0 0] 43)) hA (by kernel_rfl) ?_ ?_
  · intro wc hB X0 hX0;have HX0:=Lib.hid hX0;clear hX0;have k8:=hB.own.box b8 _ HF.out.1;have k9:=hB.own.box b9 _ HF.out.2.1;have c90:wc.cell? ⟨b9,0,none⟩=some (.bool ok):=(zq0 k9).trans rfl;have c91:wc.cell? ⟨b9,1,none⟩=some (.int .i64 x):=(zq0 k9).trans rfl;have c92:wc.cell? ⟨b9,2,none⟩=some (.slice none 0 0):=(zq0 k9).trans rfl;have c80:wc.cell? ⟨b8,0,none⟩=some (.bool false):=(zq0 k8).trans rfl;have c81:wc.cell? ⟨b8,1,none⟩=some (.int .i64 0):=(zq0 k8).trans rfl;have c82:wc.cell? ⟨b8,2,none⟩=some (.slice none 0 0):=(zq0 k8).trans rfl;have hm:=OMoved.set3 (o1:=0) (o2:=1) (o3:=2) hB.own HF.out.1 (.bool ok) (.int .i64 x) (.slice none 0 0);have HM:=Lib.hid hm;have fz:∀j,wc.frozen? ⟨b8,j,none⟩=false:=λj=>zq5 k8;have f80:=fz 0;have f81:=fz 1;have f82:=fz 2;clear fz k8 k9 hm;go_wp2;exact⟨rfl,HX0.out _ _ _ HM.out ⟨_,_,_,_,_,_,_,_,_,_,_,_,_,_,_,_,_,_,_,_,_,_,_,_,_,_,_,_,_,_,_,_,_,_,_,_,_,_,_,_,_,_,_,_,_,_,_,_,_,_,rfl,rfl⟩⟩
  rintro _ _ w ⟨q4,q5,q6,q10,q11,q13,q14,q15,q16,q17,q18,q19,q20,q21,q22,q23,q24,q25,q26,q27,q28,q29,q30,q31,q32,q33,q34,q35,q36,q37,q38,q39,q40,q41,q42,q43,q44,q45,q46,q47,q48,q49,q50,q51,q52,q53,q54,q55,q56,q57,rfl,rfl⟩ hA;refine wpY_ret Y.jc ?_;refine YSys.left hA (v:=.agg #[.bool ok,.int .i64 x,.slice none 0 0]) (λwc hB=>?_) λw hA=>?_
  · exact results_cell_row rfl _ wc b8 43 _ _ _ rfl (hB.own.box b8 _ (upB_same _ _ _)) rfl rfl rfl
  · exact⟨⟨ok,x,[]⟩,λ_=>none,AnsV.plain _ _ _,λb hb=>absurd rfl hb,hA.drop (upB_keep HF.out.2.2 HN.out.1)⟩
end
theorem meth_stand(n:Nat)(st:Nat)(w:World):(Go.method (n+1) 108 (.pointer (some ⟨st,0,none⟩)) "Step").run Try.prog w=.ok (72,.pointer (some ⟨st,0,none⟩)) w:=by kernel_rfl
theorem meth_stand_ev(n:Nat)(st:Nat)(w:World)(es:Array Event):(Go.method (n+1) 108 (.pointer (some ⟨st,0,none⟩)) "Step").events Try.prog w es=es:=by kernel_rfl
section
variable {Ml S β:Type} {C:Core Ml S} {ro:Nat->Option Obj} {i:Nat}
theorem step_stand(Y:YSys Try.prog aM C ro i β){st:Nat}(h:StepY Y 72 #[.pointer (some ⟨st,0,none⟩)]):StepY Y 33 #[.iface 108 (.pointer (some ⟨st,0,none⟩))]:=by
 intro K s m w hA;refine BodyY.calls ⟨_,_,Try.func33,rfl,?_⟩;simp only[enterAct,Try.ntmps33,List.size_toArray,List.length_cons,List.length_nil,Nat.reduceAdd,Nat.reduceSub,Array.replicate_succ,Array.replicate_zero,List.push_toArray,List.append_toArray,List.nil_append,List.cons_append];have hA:Y.AtB (m.box i) s w (Proc.tick.bind K):=⟨m,rfl,hA⟩;obtain⟨B,hB0⟩:∃B,m.box i=B:=⟨_,rfl⟩;rw[hB0]at hA ⊢;clear hB0;apply YSys.seq0 hA (by kernel_rfl)
 · intro wc hB;go_wp2;exact⟨rfl,Ext1.refl _,rfl⟩
 intro w hA;refine wpY_cond Y.jc rfl ?_;rw[if_pos rfl];refine wpY_region Y.jc ?_;apply YSys.callS 0 1 0 hA h rfl rfl rfl (by rfl) rfl rfl rfl
 · intro wc hB X hX;have HX:=Lib.hid hX;clear hX;go_wp2;exact HX.out _ (Ext1.refl _)
 · intro w;simp[go_sem,execOp,Act.eval,resolve,Deferred.ofValue,invoke,callFunc,meth_stand,meth_stand_ev,Try.func72,Try.f72]
 · intro w;simp[go_sem,execOp,Act.eval,resolve,Deferred.ofValue,invoke,callFunc,meth_stand,meth_stand_ev,Try.func72,Try.f72]
 · intro s' ch w' h;exact⟨rfl,h⟩
 intro s w hA;refine opsC_nil Y.jc ?_;exact⟨rfl,.inl ⟨_,resultsC_none rfl _,(),hA.choose,rfl,hA.choose_spec⟩⟩
end
end Go.Proofs
namespace Go.Car
open Go
structure Cd where
 d:Int
 r:Int
 a:Int
 b:Int
 v:Int
structure Mch where
 regs:Nat->Int
 told:List Int
 next:Int
 most:Int
structure Mem where
 ws:List Int
 th:Nat->Mch
section
variable {M:Type} {T:Thr M} {abs:M->Mem} {prog:Nat->List Cd}
end
structure TSt(S:Type)where
 s:S
 t:Nat->Tree S Unit
 ov:Nat->Bool
 ord:List Nat
def Tree.isRet {S α:Type}:Tree S α->Bool
 |.ret _=>true
 |_=>false
section
variable {S:Type}
def turnT(i:Nat)(r:S×Tree S Unit)(a:TSt S)(ord:List Nat):TSt S:={s:=r.1,t:=upd' a.t i r.2,ov:=if r.2.isRet then(λj=>if j=i then true else a.ov j)else a.ov,ord:=ord}
def beginT(pr:Nat->Proc S Unit)(s:S):Nat->TSt S
 |0=>{s:=s,t:=λ_=>.ret (),ov:=λ_=>false,ord:=[]}
 |n+1=>turnT n (pr n (beginT pr s n).s) (beginT pr s n) (beginT pr s n).ord
def goT(t:Tree S Unit)(s:S):S×Tree S Unit:=
 match t with
 |.step u k=>(u s,k s)
 |x=>(s,x)
def step1T(N most:Nat)(x:Int)(a:TSt S):TSt S:=
 if x<0\/(N:Int)<=x\/a.ov x.toNat=true\/a.ord.length=most then a else turnT x.toNat (goT (a.t x.toNat) a.s) a (a.ord++[x.toNat])
def stepsT(N most:Nat)(l:List Int)(a:TSt S):TSt S:=l.foldl (λa x=>step1T N most x a) a
def roundsT(N most:Nat):Nat->TSt S->TSt S
 |0,a=>a
 |f+1,a=>if 0<leftN a.ov N/\a.ord.length<most then roundsT N most f (stepsT N most (upto N) a)else a
def playT(pr:Nat->Proc S Unit)(N most:Nat)(l:List Int)(s:S):TSt S:=roundsT N most (most+1) (stepsT N most l (beginT pr s N))
end
section
variable {Ml S O:Type} {C:Core Ml S} {own:Nat->S->O} {ro:Nat->Option Obj} {pr:Nat->Proc S Unit}
structure SameT(C:Core Ml S)(a:OSt (TM Ml S))(s:TSt S):Prop where
 st:C.st a.m.bm.l=s.s
 at':a.m.at'=s.t
 ov:a.ov=s.ov
 brk:∀j,a.brk j=false
 ord:a.ord=s.ord
theorem turned_T{R:TM Ml S->Out (TM Ml S)->Prop}{i:Nat}{m m':TM Ml S}{ov brk ov' brk':Nat->Bool}{r:S×Tree S Unit}{room:Nat}(hR:∀o,R m o->Came C own i r m room o)(h:Turned R i m ov brk m' ov' brk')(hb:∀j,brk j=false):
 C.st m'.bm.l=r.1/\m'.at'=upd' m.at' i r.2/\ov'=(if r.2.isRet then(λj=>if j=i then true else ov j)else ov)/\∀j,brk' j=false:=by
 have key:∀o,Came C own i r m room o->C.st o.mem.bm.l=r.1/\o.mem.at'=upd' m.at' i r.2:=λo h=>by
  refine⟨h.st,funext λj=>?_⟩
  by_cases hj:j=i
  · subst hj;rw[upd'_same];exact h.here
  · rw[upd'_ne _ _ hj];exact(h.others j hj).1
 obtain⟨rs,rt⟩:=r;cases h with
 |yield h=>
  have hc:=hR _ h;have ho:=hc.out;cases rt with
  |ret a=>cases ho
  |out=>exact ho.elim
  |step u k=>exact⟨(key _ hc).1,(key _ hc).2,rfl,hb⟩
 |done h=>
  have hc:=hR _ h;have ho:=hc.out;cases rt with
  |ret a=>exact⟨(key _ hc).1,(key _ hc).2,rfl,λj=>by simp only;split<;>simp[hb]⟩
  |out=>exact ho.elim
  |step u k=>cases ho
 |broke h=>
  have hc:=hR _ h;have ho:=hc.out;cases rt with
  |ret a=>cases ho
  |out=>exact ho.elim
  |step u k=>cases ho
theorem begun_T{m₀:TM Ml S}(h0:m₀.at'=λ_=>.ret ()){s:Nat}{m:TM Ml S}{ov brk:Nat->Bool}(h:Begun (thrOf C own ro pr) m₀ s m ov brk):SameT C ⟨m,ov,brk,[]⟩ (beginT pr (C.st m₀.bm.l) s):=by
 induction h with
 |zero=>exact⟨rfl,h0,rfl,λ_=>rfl,rfl⟩
 |succ h ht ih=>
  rename_i s m ov brk m' ov' brk';obtain⟨h1,h2,h3,h4,h5⟩:=ih;simp only at h1 h2 h3 h4 h5;obtain⟨e1,e2,e3,e4⟩:=turned_T (C:=C) (own:=own) (r:=pr s (beginT pr (C.st m₀.bm.l) s).s) (room:=m.room) (λo ho=>by rw[←h1];exact ho) ht h4;exact⟨e1,by rw[beginT,turnT];simp only;rw[e2,h2],by rw[beginT,turnT];simp only;rw[e3,h3],e4,by rw[beginT,turnT];exact h5⟩
theorem step1_T{N most:Nat}{x:Int}{a b:OSt (TM Ml S)}{s:TSt S}(h:Step1 (thrOf C own ro pr) N most x a b)(hs:SameT C a s):SameT C b (step1T N most x s):=by
 obtain⟨h1,h2,h3,h4,h5⟩:=hs;cases h with
 |not hn=>
  rw[h3,h5]at hn;unfold step1T;rw[if_pos hn];exact⟨h1,h2,h3,h4,h5⟩
 |go i hx hi ho hm ht=>
  subst hx;rename_i m' ov' brk';have hn:¬((i:Int)<0\/(N:Int)<=i\/s.ov (i:Int).toNat=true\/s.ord.length=most):=by
   rw[←h3,←h5];rintro(e|e|e|e)
   · omega
   · omega
   · rw[Int.toNat_natCast,ho]at e;cases e
   · exact hm e
  unfold step1T;rw[if_neg hn,Int.toNat_natCast];obtain⟨e1,e2,e3,e4⟩:=turned_T (C:=C) (own:=own) (r:=goT (s.t i) s.s) (room:=a.m.room - 1) (λo ho=>by
   obtain⟨u,k,hk,hc⟩:=ho;rw[h2]at hk;rw[hk,←h1];exact hc) ht h4
  exact⟨e1,by simp only[turnT];rw[e2,h2],by simp only[turnT];rw[e3,h3],e4,by simp only[turnT];rw[h5]⟩
theorem steps_T{N most:Nat}{l:List Int}{a b:OSt (TM Ml S)}(h:StepsR (thrOf C own ro pr) N most l a b):∀{s:TSt S},SameT C a s->SameT C b (stepsT N most l s):=by
 induction h with
 |nil a=>exact λhs=>hs
 |cons h1 h2 ih=>exact λhs=>ih (step1_T h1 hs)
theorem rounds_T{N most:Nat}{a b:OSt (TM Ml S)}(h:Rounds (thrOf C own ro pr) N most a b):∀(f:Nat){s:TSt S},most<f+a.ord.length->SameT C a s->SameT C b (roundsT N most f s):=by
 induction h with
 |stop a hn=>
  intro f s hf hs;cases f with
  |zero=>exact hs
  |succ f=>
   unfold roundsT;rw[if_neg (by rw[←hs.ov,←hs.ord];exact hn)];exact hs
 |more hgo hst hr ih=>
  rename_i a b c;intro f s hf hs;cases f with
  |zero=>have:=hgo.2;omega
  |succ f=>
   unfold roundsT;rw[if_pos (by rw[←hs.ov,←hs.ord];exact hgo)];obtain⟨i,hi,ho⟩:=leftN_pos hgo.1;have:=hst.progress hi (mem_upto hi) ho hgo.2;exact ih f (by omega) (steps_T hst hs)
theorem ran_T{N most:Nat}{l:List Int}{m₀ m':TM Ml S}{b:OSt (TM Ml S)}(h0:m₀.at'=λ_=>.ret ())(h:Ran (thrOf C own ro pr) N l most m₀ b m'):SameT C b (playT pr N most l (C.st m₀.bm.l))/\C.st m'.bm.l=C.st b.m.bm.l:=by
 obtain⟨⟨m₁,ov₁,brk₁,a,h1,h2,h3⟩,h4⟩:=h;refine⟨rounds_T h3 _ (by omega) (steps_T h2 (begun_T h0 h1)),?_⟩;have:∀n m,Go.Car.Ends (thrOf C own ro pr) b.ov b.m n m->C.st m.bm.l=C.st b.m.bm.l:=by
  intro n m h
  induction h with
  |zero=>rfl
  |over h _ ih=>exact ih
  |kill h _ hk ih=>exact hk.1.trans ih
 exact this _ _ h4
end
end Go.Car
set_option maxHeartbeats 1000000
set_option maxRecDepth 100000
namespace Go.Proofs
open Go Go.Conc Go.RowKit Go.Car
structure RT where
 at':Nat
 pc:Nat
 sum:Int
 seen:List Int
 ans:List Ans
def rt0:RT:=⟨0,0,0,[],[]⟩
def endR(t:RT)(a:Ans):RT:={t with ans:=t.ans++[a],at':=t.at'+1,pc:=0}
def goodK(op:OpX):Bool:=decide (1<=op.k)&&decide (op.k<=5)
def beginR(t:RT)(op:OpX):RT:=if goodK op then{t with pc:=1,sum:=0,seen:=[]}else endR t Ans.none
def settleR(ops:List OpX):Nat->RT->RT
 |0,t=>t
 |f+1,t=>if t.pc=0 then(match ops[t.at']? with|some op=>settleR ops f (beginR t op)|none=>t)else t
def setlR(ops:List OpX)(t:RT):RT:=settleR ops (ops.length+1) t
def stepR(N:Nat)(op:OpX)(C:List Int)(t:RT):List Int×RT:=
 let k:=t.pc - 1
 let t1:RT:={t with pc:=k+2}
 if op.k=1 then
  let v:=IntKind.i64.wrap (C.getD (idx op.a N) 0+op.b)
  (C.set (idx op.a N) v,endR t1 ⟨true,v,[]⟩)
 else if op.k=2\/op.k=3 then
  let v:=wrap64 (t.sum+C.getD k 0)
  let C':=if op.k=3 then C.set k 0 else C
  if k+1=N then(C',endR {t1 with sum:=v} ⟨true,v,[]⟩)else(C',{t1 with sum:=v})
 else if op.k=4 then
  if k=0 then(C.set (idx op.a N) (IntKind.i64.wrap (C.getD (idx op.a N) 0 - op.c)),t1)
  else(C.set (idx op.b N) (IntKind.i64.wrap (C.getD (idx op.b N) 0+op.c)),endR t1 ⟨true,0,[]⟩)
 else if k<N then(C,{t1 with seen:=t.seen++[C.getD k 0],sum:=wrap64 (t.sum+C.getD k 0)})
 else if C.getD (k - N) 0≠t.seen.getD (k - N) 0 then(C,endR t1 Ans.none)
 else if k+1=2*N then(C,endR t1 ⟨true,t.sum,[]⟩)
 else(C,t1)
abbrev SS:=List Int×(Nat->List Ans)
def contP(N:Nat)(op:OpX)(t:RT):Proc SS Ans:=
 let k:=t.pc - 1
 if op.k=1 then(onL (addA N op.a op.b)).bind λx=>Proc.ret ⟨true,x,[]⟩
 else if op.k=2 then(onL (getA N k)).bind λx=>(foldP getA N (N - k - 1) (k+1) (wrap64 (t.sum+x))).bind λx=>Proc.ret ⟨true,x,[]⟩
 else if op.k=3 then(onL (takeA N k)).bind λx=>(foldP takeA N (N - k - 1) (k+1) (wrap64 (t.sum+x))).bind λx=>Proc.ret ⟨true,x,[]⟩
 else if op.k=4 then
  if k=0 then(onL (addA N op.a (wrap64 (-op.c)))).bind λ_=>(addP N op.b op.c).bind λ_=>Proc.ret ⟨true,0,[]⟩
  else(onL (addA N op.b op.c)).bind λ_=>Proc.ret ⟨true,0,[]⟩
 else if k<N then(onL (getA N k)).bind λx=>(evenA N (N - k - 1) (k+1) (t.seen++[x]) (wrap64 (t.sum+x))).bind λx=>Proc.ret ⟨x.2,x.1,[]⟩
 else(onL (getA N ((k - N:Nat):Int))).bind λx=>(if x=t.seen.getD (k - N) 0 then evenB N t.seen (N - (k - N) - 1) (k - N+1) t.sum else Proc.ret (0,false)).bind λx=>Proc.ret ⟨x.2,x.1,[]⟩
def restP(N i:Nat)(ops:List OpX)(at':Nat)(a:Ans):Proc SS Unit:=(pushP i a).bind λ_=>opsP i (doP N) (ops.drop (at'+1))
def treeThen(p:Proc SS Unit):Tree SS Unit:=.step (λs=>(p s).1) (λs=>(p s).2)
def treeOf(N i:Nat)(ops:List OpX)(t:RT):Tree SS Unit:=if t.pc=0 then .ret ()else match ops[t.at']? with
 |some op=>treeThen ((contP N op t).bind (restP N i ops t.at'))
 |none=>.ret ()
section
variable {N i:Nat} {ops:List OpX}
theorem then_eq(p:Proc SS Unit)(s:SS):(Proc.tick.bind λ_=>p) s=(s,treeThen p):=rfl
theorem upd_self{α:Type}(f:Nat->α)(i:Nat):upd' f i (f i)=f:=funext λj=>by
 by_cases h:j=i
 · subst h;simp
 · rw[upd'_ne _ _ h]
theorem upd_twice{α:Type}(f:Nat->α)(i:Nat)(x y:α):upd' (upd' f i x) i y=upd' f i y:=funext λj=>by
 by_cases h:j=i
 · subst h;simp
 · rw[upd'_ne _ _ h,upd'_ne _ _ h,upd'_ne _ _ h]
theorem doP_begin(hN:0<N){op:OpX}(hg:goodK op=true)(t:RT):(doP N op:Proc SS Ans)=Proc.tick.bind λ_=>contP N op {t with pc:=1,sum:=0,seen:=[]}:=by
 obtain⟨n,rfl⟩:∃n,N=n+1:=⟨N - 1,by omega⟩;unfold goodK at hg;simp only[Bool.and_eq_true,decide_eq_true_eq]at hg;unfold doP contP;simp only[Nat.sub_self,Nat.sub_zero,Nat.add_sub_cancel,Nat.zero_add,if_pos rfl]
 by_cases h1:op.k=1
 · rw[if_pos h1,if_pos h1,addP,Proc.bind_bind]
 rw[if_neg h1,if_neg h1]
 by_cases h2:op.k=2
 · rw[if_pos h2,if_pos h2,sumP,foldP,Proc.bind_bind,Proc.bind_bind]
 rw[if_neg h2,if_neg h2]
 by_cases h3:op.k=3
 · rw[if_pos h3,if_pos h3,takeP,foldP,Proc.bind_bind,Proc.bind_bind]
 rw[if_neg h3,if_neg h3]
 by_cases h4:op.k=4
 · rw[if_pos h4,if_pos h4,moveP,addP,Proc.bind_bind,Proc.bind_bind];simp only[Proc.bind_bind];rfl
 rw[if_neg h4,if_neg h4,if_pos (by omega),if_pos (Nat.succ_pos n),evenP,evenA,Proc.bind_bind,Proc.bind_bind]
theorem doP_bad{op:OpX}(hg:goodK op=false):(doP N op:Proc SS Ans)=Proc.ret Ans.none:=by
 unfold goodK at hg;simp only[Bool.and_eq_false_iff,decide_eq_false_iff_not]at hg;unfold doP;rw[if_neg (by omega),if_neg (by omega),if_neg (by omega),if_neg (by omega),if_neg (by omega)]
theorem settle_tree(hN:0<N):∀(f:Nat)(t:RT)(C:List Int)(A:Nat->List Ans),t.pc=0->ops.length<f+t.at'->A i=t.ans->
 (opsP i (doP N) (ops.drop t.at')) (C,A)=((C,upd' A i (settleR ops f t).ans),treeOf N i ops (settleR ops f t)):=by
 intro f
 induction f with
 |zero=>
  intro t C A hpc hf hA;rw[List.drop_eq_nil_of_le (by omega)];show((C,A),Tree.ret ())=_;unfold settleR;rw[←hA,upd_self];unfold treeOf;rw[if_pos hpc]
 |succ f ih=>
  intro t C A hpc hf hA;unfold settleR;rw[if_pos hpc];cases hop:ops[t.at']? with
  |none=>
   have hge:ops.length<=t.at':=List.getElem?_eq_none_iff.1 hop;rw[List.drop_eq_nil_of_le hge];show((C,A),Tree.ret ())=_;simp only;rw[←hA,upd_self];unfold treeOf;rw[if_pos hpc]
  |some op=>
   have hlt:=(List.getElem?_eq_some_iff.1 hop).1;have hdrop:ops.drop t.at'=op::ops.drop (t.at'+1):=by rw[List.drop_eq_getElem_cons hlt,(List.getElem?_eq_some_iff.1 hop).2]
   rw[hdrop,opsP];simp only;cases hg:goodK op with
   |false=>
    rw[doP_bad hg,Proc.bind_ret];have hb:beginR t op=endR t Ans.none:=by unfold beginR;rw[hg];rfl
    rw[hb];have:=ih (endR t Ans.none) C (upd' A i (A i++[Ans.none])) rfl (by show ops.length<f+(t.at'+1);omega) (by rw[upd'_same,hA];rfl);rw[upd_twice]at this;exact this
   |true=>
    have hb:beginR t op={t with pc:=1,sum:=0,seen:=[]}:=by unfold beginR;rw[hg];rfl
    rw[hb,doP_begin hN hg t,Proc.bind_bind];have hs:settleR ops f {t with pc:=1,sum:=0,seen:=[]}={t with pc:=1,sum:=0,seen:=[]}:=by
     cases f with
     |zero=>rfl
     |succ f=>unfold settleR;rw[if_neg (by simp)]
    rw[hs,then_eq];show((C,A),_)=((C,upd' A i t.ans),_);rw[←hA,upd_self];unfold treeOf;rw[if_neg (by simp)];simp only[hop];rfl
end
structure OkT(N:Nat)(ops:List OpX)(t:RT):Prop where
 stand:t.pc≠0->∃op,ops[t.at']?=some op/\goodK op=true/\(op.k=1->t.pc=1)/\(op.k=2\/op.k=3->t.pc<=N)/\(op.k=4->t.pc<=2)/\(op.k=5->t.pc<=2*N/\t.seen.length=min (t.pc - 1) N)
section
variable {N i:Nat} {ops:List OpX}
theorem setlR_on{t:RT}(h:t.pc≠0):setlR ops t=t:=by
 unfold setlR settleR;rw[if_neg h]
theorem end_tree(hN:0<N){t:RT}{C:List Int}{A:Nat->List Ans}(hA:A i=t.ans)(a:Ans){t1:RT}(h1:t1.at'=t.at')(h2:t1.ans=t.ans):
 (restP N i ops t.at' a) (C,A)=((C,upd' A i (setlR ops (endR t1 a)).ans),treeOf N i ops (setlR ops (endR t1 a))):=by
 have:=settle_tree (i:=i) (ops:=ops) hN (ops.length+1) (endR t1 a) C (upd' A i (A i++[a])) rfl (by show ops.length<ops.length+1+_;omega) (by rw[upd'_same,hA,←h2];rfl);rw[upd_twice]at this;have e:(endR t1 a).at'=t.at'+1:=by show t1.at'+1=_;rw[h1]
 rw[e]at this;exact this
theorem on_tree{op:OpX}{t t1:RT}{C:List Int}{A:Nat->List Ans}{q:Proc SS Ans}(hA:A i=t.ans)(hop:ops[t.at']?=some op)(h1:t1.at'=t.at')(h2:t1.ans=t.ans)(h3:t1.pc≠0)(hq:q=Proc.tick.bind λ_=>contP N op t1):
 (q.bind (restP N i ops t.at')) (C,A)=((C,upd' A i (setlR ops t1).ans),treeOf N i ops (setlR ops t1)):=by
 rw[setlR_on h3,hq,Proc.bind_bind,then_eq,h2,←hA,upd_self];unfold treeOf;rw[if_neg h3,h1];simp only[hop]
theorem onL_bind{α β:Type}(f:List Int->List Int×α)(K:α->Proc SS β)(C:List Int)(A:Nat->List Ans):(((onL f).bind K):Proc SS β) (C,A)=K (f C).2 ((f C).1,A):=rfl
theorem addA_wrap{N:Nat}{a c:Int}{l:List Int}:addA N a (wrap64 (-c)) l=(l.set (idx a N) (IntKind.i64.wrap (l.getD (idx a N) 0 - c)),IntKind.i64.wrap (l.getD (idx a N) 0 - c)):=by
 have e:IntKind.i64.wrap (l.getD (idx a N) 0+wrap64 (-c))=IntKind.i64.wrap (l.getD (idx a N) 0 - c):=by
  rw[IntKind.wrap_i64,IntKind.wrap_i64];simp only[wrap64];omega
 unfold addA;rw[e]
theorem step_tree(hN:0<N){op:OpX}{t:RT}{C:List Int}{A:Nat->List Ans}(hC:C.length=N)(hA:A i=t.ans)(hop:ops[t.at']?=some op)(hpc:t.pc≠0)(hO:OkT N ops t):
 ((contP N op t).bind (restP N i ops t.at')) (C,A)=(((stepR N op C t).1,upd' A i (setlR ops (stepR N op C t).2).ans),treeOf N i ops (setlR ops (stepR N op C t).2)):=by
 obtain⟨op',e,hg,o1,o2,o4,o5⟩:=hO.stand hpc;rw[hop]at e;obtain rfl:=Option.some.inj e;unfold goodK at hg;simp only[Bool.and_eq_true,decide_eq_true_eq]at hg;have hidn:∀k:Nat,k<N->idx (k:Int) N=k:=λk hk=>by
  unfold idx;rw[Int.emod_eq_of_lt (by omega) (by omega)];omega
 unfold contP stepR;simp only
 by_cases h1:op.k=1
 · rw[if_pos h1,if_pos h1,Proc.bind_bind,onL_bind];exact end_tree hN hA _ rfl rfl
 rw[if_neg h1,if_neg h1]
 by_cases h2:op.k=2
 · have h23:op.k=2\/op.k=3:=.inl h2;have h3:op.k≠3:=by omega
   have hp:=o2 h23;rw[if_pos h2,if_pos h23,if_neg h3,Proc.bind_bind,onL_bind];simp only[getA,hidn (t.pc - 1) (by omega)]
   by_cases hk:t.pc - 1+1=N
   · rw[if_pos hk,show N - (t.pc - 1) - 1=0 by omega];exact end_tree hN hA _ rfl rfl
   · rw[if_neg hk];refine on_tree hA hop rfl rfl (by simp) ?_;obtain⟨m,hm⟩:∃m,N - (t.pc - 1) - 1=m+1:=⟨N - (t.pc - 1) - 2,by omega⟩;rw[hm,foldP,Proc.bind_bind,Proc.bind_bind];unfold contP;simp only;rw[if_neg h1,if_pos h2,show N - (t.pc - 1+2 - 1) - 1=m by omega,show t.pc - 1+2 - 1=t.pc - 1+1 by omega]
 rw[if_neg h2]
 by_cases h3:op.k=3
 · have h23:op.k=2\/op.k=3:=.inr h3;have hp:=o2 h23;rw[if_pos h3,if_pos h23,if_pos h3,Proc.bind_bind,onL_bind];simp only[takeA,hidn (t.pc - 1) (by omega)]
   by_cases hk:t.pc - 1+1=N
   · rw[if_pos hk,show N - (t.pc - 1) - 1=0 by omega];exact end_tree hN hA _ rfl rfl
   · rw[if_neg hk];refine on_tree hA hop rfl rfl (by simp) ?_;obtain⟨m,hm⟩:∃m,N - (t.pc - 1) - 1=m+1:=⟨N - (t.pc - 1) - 2,by omega⟩;rw[hm,foldP,Proc.bind_bind,Proc.bind_bind];unfold contP;simp only;rw[if_neg h1,if_neg h2,if_pos h3,show N - (t.pc - 1+2 - 1) - 1=m by omega,show t.pc - 1+2 - 1=t.pc - 1+1 by omega]
 rw[if_neg h3,if_neg (by omega:¬(op.k=2\/op.k=3))]
 by_cases h4:op.k=4
 · have hp:=o4 h4;rw[if_pos h4,if_pos h4]
   by_cases hk:t.pc - 1=0
   · rw[if_pos hk,if_pos hk,Proc.bind_bind,onL_bind,addA_wrap];refine on_tree hA hop rfl rfl (by simp) ?_;rw[addP,Proc.bind_bind];unfold contP;simp only;rw[if_neg h1,if_neg h2,if_neg h3,if_pos h4,if_neg (by omega)]
   · rw[if_neg hk,if_neg hk,Proc.bind_bind,onL_bind];exact end_tree hN hA _ rfl rfl
 rw[if_neg h4,if_neg h4];have h5:op.k=5:=by omega
 obtain⟨hp,hsl⟩:=o5 h5
 by_cases hk:t.pc - 1<N
 · rw[if_pos hk,if_pos hk,Proc.bind_bind,onL_bind];simp only[getA,hidn (t.pc - 1) hk];refine on_tree hA hop rfl rfl (by simp) ?_;have hsl':(t.seen++[C.getD (t.pc - 1) 0]).length=t.pc - 1+1:=by simp;omega
   obtain⟨n',rfl⟩:∃n',N=n'+1:=⟨N - 1,by omega⟩
   by_cases hk2:t.pc - 1+1<n'+1
   · obtain⟨m,hm⟩:∃m,n'+1 - (t.pc - 1) - 1=m+1:=⟨n'+1 - (t.pc - 1) - 2,by omega⟩;rw[hm,evenA,Proc.bind_bind,Proc.bind_bind];unfold contP;simp only;rw[if_neg h1,if_neg h2,if_neg h3,if_neg h4,if_pos (by omega),show n'+1 - (t.pc - 1+2 - 1) - 1=m by omega,show t.pc - 1+2 - 1=t.pc - 1+1 by omega]
   · have e0:n'+1 - (t.pc - 1) - 1=0:=by omega
     have e1:t.pc - 1+1=n'+1:=by omega
     rw[e0,evenA,e1,evenB,Proc.bind_bind,Proc.bind_bind];unfold contP;simp only;rw[if_neg h1,if_neg h2,if_neg h3,if_neg h4,if_neg (by omega),show t.pc - 1+2 - 1 - (n'+1)=0 by omega];rfl
 · rw[if_neg hk,if_neg hk,Proc.bind_bind,onL_bind];have hm:t.pc - 1 - N<N:=by omega
   simp only[getA,hidn _ hm]
   by_cases hv:C.getD (t.pc - 1 - N) 0=t.seen.getD (t.pc - 1 - N) 0
   · rw[if_pos hv,if_neg (by rw[hv];simp)]
     by_cases hl:t.pc - 1+1=2*N
     · rw[if_pos hl,show N - (t.pc - 1 - N) - 1=0 by omega];exact end_tree hN hA _ rfl rfl
     · rw[if_neg hl];refine on_tree hA hop rfl rfl (by simp) ?_;obtain⟨m,hm2⟩:∃m,N - (t.pc - 1 - N) - 1=m+1:=⟨N - (t.pc - 1 - N) - 2,by omega⟩;rw[hm2,evenB,Proc.bind_bind,Proc.bind_bind];unfold contP;simp only;rw[if_neg h1,if_neg h2,if_neg h3,if_neg h4,if_neg (by omega),show N - (t.pc - 1+2 - 1 - N) - 1=m by omega,show t.pc - 1+2 - 1 - N=t.pc - 1 - N+1 by omega]
   · rw[if_neg hv,if_pos hv];exact end_tree hN hA _ rfl rfl
end
end Go.Proofs
