/- YtmgmbciplfkddaaESaf16: part 5 of the proof (the texts behind it, in order). -/
import Derived.Test.YtmgmbciplfkddaaS04
set_option maxHeartbeats 4000000
set_option maxRecDepth 100000
set_option linter.all false
namespace Go.Car
open Go Go.RowKit
def okTxt(P:Program)(A:FuncId->Bool)(f:FuncId):Bool:=
 match P.funcs[f]? with
 |some fn=>(match fn.body with|some c=>(fn.name== "runtime.NumGoroutine")==false&&zqp P A c|none=>false)
 |none=>false
theorem zq81{P:Program}{A:FuncId->Bool}{f:FuncId}(h:okTxt P A f=true):okFn P A f/\∃fn c,P.funcs[f]?=some fn/\fn.body=some c:=by
 unfold okTxt at h;cases h1:P.funcs[f]? with
 |none=>rw[h1]at h;cases h
 |some fn=>
  rw[h1]at h;cases h2:fn.body with
  |none=>simp only[h2]at h;cases h
  |some c=>
   simp only[h2,Bool.and_eq_true,beq_iff_eq]at h;exact⟨.text fn c h1 h2 h.1 h.2,fn,c,rfl,h2⟩
def okRow(P:Program)(f:FuncId):Prop:=∃fn e,P.funcs[f]?=some fn/\fn.body=none/\(fn.name== "runtime.NumGoroutine")=false/\Extern.findNext fn=none/\Extern.find fn=some e/\(∀args,tame P true (e args))/\∀args,zq2 P (e args)
def noRdy(P:Program):Bool:=P.funcs.toList.all λf=>match f.body with|some c=>(readies c).isEmpty|none=>true
theorem zqdf{P:Program}(h:noRdy P=true)(g:Nat):P.stepOf g=none:=by
 unfold Program.stepOf;rw[Array.findIdx?_eq_none_iff];intro f hf;unfold noRdy at h;rw[List.all_eq_true]at h;have:=h f (by simpa using hf);cases hb:f.body with
 |none=>rfl
 |some c=>rw[hb]at this;simp only[List.isEmpty_iff]at this;simp[this]
theorem zq84{P:Program}{L R:List FuncId}(h:L.all (okTxt P (λf=>L.contains f || R.contains f))=true)(hR:∀f,f∈R->okRow P f)(he:P.follows .staticDataAhead=true)(hn:noRdy P=true):
 Plain P (λf=>L.contains f || R.contains f)/\RowsS P (λf=>L.contains f || R.contains f):=by
 rw[List.all_eq_true]at h;refine⟨⟨λf hf=>?_,he,zqdf hn⟩,λf hf fn e h1 h2 h3 args=>?_⟩
 . simp only[Bool.or_eq_true,List.contains_iff_mem]at hf;rcases hf with hf|hf
   . exact(zq81 (h f hf)).1
   . obtain⟨fn,e,k1,k2,k3,k4,k5,k6,_⟩:=hR f hf;exact .row fn e k1 k2 k3 k4 k5 k6
 . simp only[Bool.or_eq_true,List.contains_iff_mem]at hf;rcases hf with hf|hf
   . obtain⟨_,fn',c,k1,k2⟩:=zq81 (h f hf);rw[k1]at h1;cases h1;rw[k2]at h2;cases h2
   . obtain⟨fn',e',k1,k2,k3,k4,k5,k6,k7⟩:=hR f hf;rw[k1]at h1;cases h1;rw[k5]at h3;cases h3;exact k7 args
end Go.Car
namespace Go.Proofs
open Go Go.Conc Go.RowKit Go.Car
def aLD:List FuncId:=[53]
def aRD:List FuncId:=[]
def aMD(f:FuncId):Bool:=aLD.contains f || aRD.contains f
theorem plain_rowsD:Plain Try.prog aMD/\RowsS Try.prog aMD:=by
 refine zq84 (by kernel_rfl) (λf hf=>?_) (by kernel_rfl) (by kernel_rfl);exact absurd hf (List.not_mem_nil)
theorem zq5r:Plain Try.prog aMD:=plain_rowsD.1
end Go.Proofs
namespace Go.Proofs
open Go Go.Conc Go.RowKit Go.Car
open Go.ConcN (upd upd_ne upd_same)
@[go_sem] theorem buildE (w : World) : (Instr.build 74 #[]).run Try.prog w = .ok (.agg #[]) w := run_build w 74 _ _ (by kernel_rfl)
structure StepW(st bT back pass:Nat)(w:World):Prop where
 gate:w.cell? ⟨st,0,none⟩=some (.pointer (some ⟨bT,0,none⟩))
 back:w.cell? ⟨bT,0,none⟩=some (.chan (some back))
 pass:w.cell? ⟨st,1,none⟩=some (.chan (some pass))
def bN(f:FuncId):Frame:={(default:Frame)with fn:=f,kind:=.normal}
def zq47(st bT back pass:Nat)(c:Frame)(cs:List Frame)(g:Goroutine):Prop:=
 ∀(p:Bool)(Kc:Addr->Option Value)(J:Goroutine->World->Prop),JX Try.prog Kc J->∀w,StepW st bT back pass w->
  J (if p=true then G (c.finish (.tuple #[])) cs else G (c.raise [{v:=.iface 158 (.agg #[.iface 145 (.pointer (some ⟨bT,0,none⟩))]),recovered:=false}]) cs) w->J (Conc.served g (.bool p)) w
theorem zqhd{Fin:Machine->Trace->Prop}(hFin:Back Try.prog Fin){Kc:Addr->Option Value}{Inb:Nat->Option Seat}{j n:Nat}{st bT back pass:Nat}{c:Frame}{cs:List Frame}{w:World}(hw:StepW st bT back pass w)
 (hj:0≠j) (hn:0<n) {zb:Value} {okb:Bool} {homeb:Goroutine->Prop} (h0:Inb 0=some (Seat.one back zb okb homeb))
 (hKp:Kc ⟨st,1,none⟩=some (.chan (some pass))) (hfresh:∀i s,i≠j->Inb i=some s->¬s.has pass) (hpass:∃cap k,w.heap[pass]?=some (.chan cap #[] false k k false))
 (hnext:∀g₂ k cap,homeb g₂->w.heap[back]?=some (.chan cap #[] false k k false)->
  HoldR Try.prog Fin Kc (upd Inb j (some (Seat.one pass (.bool false) false (zq47 st bT back pass c cs)))) 0 n (Conc.served g₂ (recvd okb (.agg #[]) true)) (w.setChan back cap #[] false (k+1) (k+1) false)):
 HoldR Try.prog Fin Kc Inb j n (G (Frame.enter Try.prog 81 #[.pointer (some ⟨st,0,none⟩)] .normal) (c::cs)) w:=by
 have hJ:=zq35 hFin Kc Inb j n;have e:Frame.enter Try.prog 81 #[.pointer (some ⟨st,0,none⟩)] .normal=(bN 81).at (zqm Try.f81 #[.pointer (some ⟨st,0,none⟩)]) [.code ((Try.f81.body).getD .skip)]:=rfl;rw[e];simp only[Try.f81,zqm,al_od,List.size_toArray,List.length_cons,List.length_nil,Nat.reduceAdd,Nat.reduceSub,Array.replicate_succ,Array.replicate_zero,List.push_toArray,List.append_toArray,List.nil_append,List.cons_append];refine hJ.ctl (s:=()) (λw=>stepG_seq) ?_;refine hJ.ctl (s:=()) (λw=>stepG_region) ?_;refine at_mid (J:=λ(_:Unit)=>HoldR Try.prog Fin Kc Inb j n) (s:=()) (by decide) hJ (zqf _) true (.inl rfl) 0 8 1 rfl (by rfl) ?_;intro τ d;obtain⟨h1,h2,h3⟩:=hw;simp only[List.drop_zero,List.take_succ_cons,List.take_zero];go_wp2;simp only[zq7];refine hJ.re' () _ w τ d ?_;refine zq5j hFin hj hn h0 rfl (zq5u (c:=back) (v:=.agg #[]) (z':=.tuple #[]) rfl rfl (by decide) (λw=>by simp[execOp,scase,Act.eval]) (λw=>by simp[go_sem,execOp,Act.eval]) w) (by simp)
  (.sits pass (.bool false) false (zq47 st bT back pass c cs) hfresh hpass ⟨st+1,10,.inl ⟨9,w,rfl,?_⟩⟩) hnext
 rw[served_fr,Frame.finish_at]
 walk_nrm
 simp only[List.range'_zero]
 k_c stepG_region_end
 k_c stepG_seq
 k_reg
 iterate 3 (k_in;refine goes_oper_k rfl rfl (by decide) (λK hK=>?_);go_simp;refine hK _ _ ⟨⟨rfl,λe he=>by(have hm:=mem_listed he;simp[go_sem]at hm)⟩,?_⟩;clear hK K)
 k_ld [(h₁ _ _ hKp).1,(h₁ _ _ hKp).2] ⟨_,_,rfl,hKp⟩
 refine Goes.stop λ_ _=>⟨_,atIn_of (s:=Seat.one pass (.bool false) false (zq47 st bT back pass c cs)) rfl rfl (by decide) (λw=>by simp[go_sem,execOp,rcase,Act.eval,Seat.one]) (λw=>by simp[go_sem,execOp,Act.eval]) ?_⟩;intro p Kc' J hJ' w hw hgo;obtain⟨h1,h2,h3⟩:=hw;rw[served_fr,Frame.finish_at]
 walk_nrm
 refine zqg (J:=λ(_:Unit)=>J) (s:=()) (by decide) hJ' (zqf _) true (.inl rfl) 5 1 0 rfl rfl rfl (by rfl) ?_;intro τ d;simp only[List.drop_zero,List.drop_succ_cons,List.take_succ_cons,List.take_zero];go_wp2;simp only[zq7];refine hJ'.re' () _ w τ d ?_;simp only[List.range'_zero];refine hJ'.ctl (s:=()) (λw=>stepG_region_end) ?_;refine hJ'.ctl (s:=()) (λw=>stepG_cond (t:=!p) rfl) ?_;cases p with
 |true=>
  simp only[Bool.not_true,Bool.false_eq_true,if_false,if_true]at hgo |-;refine hJ'.ctl (s:=()) (λw=>stepG_skip) ?_;refine hJ'.ctl (s:=()) (λw=>stepG_end) ?_;exact zq2b (s:=()) hJ' rfl rfl Try.func81 (λτ d=>by simp[results,Try.f81]) hgo
 |false=>
  simp only[Bool.not_false,if_true,Bool.false_eq_true,if_false]at hgo |-;refine hJ'.ctl (s:=()) (λw=>stepG_region) ?_;refine zqg (J:=λ(_:Unit)=>J) (s:=()) (by decide) hJ' (zqf _) true (.inl rfl) 0 7 1 rfl rfl rfl (by rfl) ?_;intro τ d;simp only[List.drop_zero,List.drop_succ_cons,List.take_succ_cons,List.take_zero];go_wp2;simp only[zq7];refine hJ'.re' () _ w τ d ?_;refine at_panic (J:=λ(_:Unit)=>J) (s:=()) (by decide) hJ' rfl rfl (v:=.iface 158 (.agg #[.iface 145 (.pointer (some ⟨bT,0,none⟩))])) (λw=>?_) (λw=>?_) λtodo=>raiseJ (s:=()) hJ' (b:=bN 81) rfl Try.func81 hgo
  . simp[go_sem,execOp,Act.eval,Instr.panic]
  . simp[go_sem,execOp,Act.eval,Instr.panic]
@[go_sem] theorem zeroE (w : World) : (zeroValue 74).run Try.prog w = .ok (.agg #[]) w := by kernel_rfl
def JM(P:Program)(Kc:Addr->Option Value)(J:Goroutine->World->Prop):Prop:=JS P true Kc (λ(_:Unit)=>J)
def AtLet(c:Frame)(cs:List Frame)(g:Goroutine):Prop:=
 ∀(Kc:Addr->Option Value)(J:Goroutine->World->Prop),JM Try.prog Kc J->∀w,J (G (c.finish (.tuple #[])) cs) w->J (Conc.served g (.agg #[])) w
theorem zq7s{Fin:Machine->Trace->Prop}(hFin:Back Try.prog Fin){Kc:Addr->Option Value}{Inb:Nat->Option Seat}{j n:Nat}{bT bS N cap i st back pass:Nat}{p:Bool}{c:Frame}{cs:List Frame}{w:World}
 (h1:w.cell? ⟨bT,1,none⟩=some (.slice (some ⟨bS,0,none⟩) N cap)) (hi:i<N) (h2:w.cell? ⟨bS,i,none⟩=some (.pointer (some ⟨st,0,none⟩))) (h3:w.cell? ⟨st,1,none⟩=some (.chan (some pass)))
 (hj:j≠0) (hn:j<n) {homej:Goroutine->Prop} (h0:Inb j=some (Seat.one pass (.bool false) false homej))
 (hKb:Kc ⟨bT,0,none⟩=some (.chan (some back))) (hfresh:∀i s,i≠0->Inb i=some s->¬s.has back) (hback:∃cap k,w.heap[back]?=some (.chan cap #[] false k k false))
 (hnext:∀g₂ k cap,homej g₂->w.heap[pass]?=some (.chan cap #[] false k k false)->
  HoldR Try.prog Fin Kc (upd Inb 0 (some (Seat.one back (.agg #[]) false (AtLet c cs)))) j n (Conc.served g₂ (.bool p)) (w.setChan pass cap #[] false (k+1) (k+1) false)):
 HoldR Try.prog Fin Kc Inb 0 n (G (Frame.enter Try.prog 62 #[.pointer (some ⟨bT,0,none⟩),.int .i64 i,.bool p] .normal) (c::cs)) w:=by
 have hJ:=zq35 hFin Kc Inb 0 n;have e:Frame.enter Try.prog 62 #[.pointer (some ⟨bT,0,none⟩),.int .i64 i,.bool p] .normal=(bN 62).at (zqm Try.f62 #[.pointer (some ⟨bT,0,none⟩),.int .i64 i,.bool p]) [.code ((Try.f62.body).getD .skip)]:=rfl;rw[e];simp only[Try.f62,zqm,al_od,List.size_toArray,List.length_cons,List.length_nil,Nat.reduceAdd,Nat.reduceSub,Array.replicate_succ,Array.replicate_zero,List.push_toArray,List.append_toArray,List.nil_append,List.cons_append];refine hJ.ctl (s:=()) (λw=>stepG_seq) ?_;refine hJ.ctl (s:=()) (λw=>stepG_region) ?_;refine zqg (J:=λ(_:Unit)=>HoldR Try.prog Fin Kc Inb 0 n) (s:=()) (by decide) hJ (zqf _) true (.inl rfl) 0 11 1 rfl rfl rfl (by rfl) ?_;intro τ d;simp only[List.drop_zero,List.take_succ_cons,List.take_zero];have hi':(i:Int)<N:=by omega
 have hi0:(0:Int)<=i:=by omega
 go_wp2;simp only[zq7];refine hJ.re' () _ w τ d ?_;refine zq5j hFin hj hn h0 rfl (zq5u (c:=pass) (v:=.bool p) (z':=.tuple #[]) rfl rfl (by decide) (λw=>by simp[execOp,scase,Act.eval]) (λw=>by simp[go_sem,execOp,Act.eval]) w) (by simp)
  (.sits back (.agg #[]) false (AtLet c cs) hfresh hback ⟨bT+1,10,.inl ⟨9,w,rfl,?_⟩⟩) hnext
 rw[served_fr,Frame.finish_at]
 walk_nrm
 simp only[List.range'_zero]
 k_c stepG_region_end
 k_reg
 iterate 3 (k_in;refine goes_oper_k rfl rfl (by decide) (λK hK=>?_);go_simp;refine hK _ _ ⟨⟨rfl,λe he=>by(have hm:=mem_listed he;simp[go_sem]at hm)⟩,?_⟩;clear hK K)
 k_ld [(h₁ _ _ hKb).1,(h₁ _ _ hKb).2] ⟨_,_,rfl,hKb⟩
 refine Goes.stop λ_ _=>⟨_,atIn_of (s:=Seat.one back (.agg #[]) false (AtLet c cs)) rfl rfl (by decide) (λw=>by simp[go_sem,execOp,rcase,Act.eval,Seat.one]) (λw=>by simp[go_sem,execOp,Act.eval]) ?_⟩;intro Kc' J hJ' w hgo;rw[served_fr,Frame.finish_at]
 walk_nrm
 refine hJ'.ctl (s:=()) (λw=>stepG_region_end) ?_;refine hJ'.ctl (s:=()) (λw=>stepG_end) ?_;exact zq2b (s:=()) hJ' rfl rfl Try.func62 (λτ d=>by simp[results,Try.f62]) hgo
noncomputable def bot:Frame:=botF Try.prog
def zq2n(bT i:Nat)(tv:Value):Deferred:={target:=.fn (.func 60) #[],args:=#[.pointer (some ⟨bT,0,none⟩),.int .i64 i,tv]}
theorem born_run(bT i:Nat)(tv:Value)(w:World):stepG Try.prog false (born Try.prog (zq2n bT i tv)) w=
 .go (G ((baseD 60).at (zqm Try.f60 #[.pointer (some ⟨bT,0,none⟩),.int .i64 i,tv]) [.code (Try.f60.body.getD .skip)]) [bot]) w #[]:=by
 simp[born,zq2n,stepG,unwind,callDeferred,invoke,callFunc,Try.func60,Try.f60,seen,GStep.after,G,Frame.enter,Frame.at,baseD,bot,botF,zqm]
structure RunW(n bT i:Nat)(whole:Bool)(w:World):Prop where
 t:w.heap[n]?=some (.cells #[.pointer (some ⟨bT,0,none⟩)] 145)
 i:w.heap[n+1]?=some (.cells #[.int .i64 i] 3)
 whole:w.heap[n+2]?=some (.cells #[.bool whole] 4)
def run1(n:Nat):Deferred:={target:=.fn (.func 63) #[.pointer (some ⟨n,0,none⟩),.pointer (some ⟨n+2,0,none⟩),.pointer (some ⟨n+1,0,none⟩)],args:=#[]}
noncomputable def runAt(n bT i:Nat)(tv:Value)(todo:List Item):Frame:=
 (baseD 60).at ⟨#[.pointer (some ⟨bT,0,none⟩),.int .i64 i,tv,.pointer (some ⟨n,0,none⟩),.pointer (some ⟨n+1,0,none⟩),undef,.pointer (some ⟨n+2,0,none⟩),.func (.func 63) #[] #[.pointer (some ⟨n,0,none⟩),.pointer (some ⟨n+2,0,none⟩),.pointer (some ⟨n+1,0,none⟩)],undef,undef,undef,undef,undef,undef,undef,undef,undef,undef,undef,undef],[run1 n]⟩ todo
noncomputable def zq40:Code:=match Try.f60.body with|some (.seq _ (.seq _ (.seq _ c)))=>c|_=>.skip
theorem zqea{Kc:Addr->Option Value}{J:Goroutine->World->Prop}(hJ:JX Try.prog Kc J){bT i:Nat}{tv:Value}{w:World}
 (hK:∀a v,Kc a=some v->a.block<w.heap.size)
 (hnext:∀w',RunW w.heap.size bT i false w'->w'.heap.size=w.heap.size+3->(∀b,b<w.heap.size->w'.heap[b]?=w.heap[b]?)->J (G (runAt w.heap.size bT i tv [.code zq40]) [bot]) w'):J (born Try.prog (zq2n bT i tv)) w:=by
 refine hJ.step () _ w rfl λτ d=>⟨_,_,#[],born_run bT i tv _,OkD.refl _ _ _,by simp,?_⟩;refine hJ.re' () _ w τ d ?_;simp only[Try.f60,zqm,al_od,List.size_toArray,List.length_cons,List.length_nil,Nat.reduceAdd,Nat.reduceSub,Array.replicate_succ,Array.replicate_zero,List.push_toArray,List.append_toArray,List.nil_append,List.cons_append];refine hJ.ctl (s:=()) (λw=>stepG_seq) ?_;refine hJ.ctl (s:=()) (λw=>stepG_region) ?_;refine zqg (J:=λ(_:Unit)=>J) (s:=()) (by decide) hJ (zqf _) true (.inl rfl) 0 2 0 rfl rfl rfl (by rfl) ?_;intro τ d;simp only[List.drop_zero,List.drop_succ_cons,List.take_succ_cons,List.take_zero];go_wp2;simp only[zq7,zq3v];refine hJ.re' () _ _ τ d ?_;simp only[List.range'_zero];refine hJ.ctl (s:=()) (λw=>stepG_region_end) ?_;refine hJ.ctl (s:=()) (λw=>stepG_seq) ?_;refine hJ.ctl (s:=()) (λw=>stepG_region) ?_;refine zqg (J:=λ(_:Unit)=>J) (s:=()) (by decide) hJ (zqf _) true (.inl rfl) 0 1 1 rfl rfl rfl (by rfl) ?_;intro τ d;simp only[List.drop_zero,List.drop_succ_cons,List.take_succ_cons,List.take_zero];go_wp2;simp only[zq7,zq3v];refine hJ.re' () _ _ τ d ?_;generalize hw1:(((w.alloc (Obj.cells #[Value.pointer (some {block:=bT,off:=0})] 145)).alloc (Obj.cells #[Value.int IntKind.i64 i] 3))).alloc (Obj.cells #[Value.bool false] 4)=w1;have f0:w1.heap[w.heap.size]?=some (.cells #[.pointer (some ⟨bT,0,none⟩)] 145):=by subst hw1;simp only[zqc,zq8];rw[if_neg (by omega),if_neg (by omega),if_pos trivial]
 have f1:w1.heap[w.heap.size+1]?=some (.cells #[.int .i64 i] 3):=by subst hw1;simp only[zqc,zq8];rw[if_neg (by omega),if_pos trivial]
 have f2:w1.heap[w.heap.size+1+1]?=some (.cells #[.bool false] 4):=by subst hw1;simp only[zqc,zq8];rw[if_pos trivial]
 have f3:w1.heap.size=w.heap.size+3:=by subst hw1;simp only[zq8]
 have f4:∀b,b<w.heap.size->w1.heap[b]?=w.heap[b]?:=λb hb=>by subst hw1;simp only[zqc,zq8];rw[if_neg (by omega),if_neg (by omega),if_neg (by omega)]
 refine zq29 (J:=λ(_:Unit)=>J) (s:=()) (i:=1) (rest:=[]) (by decide) hJ rfl rfl (ad:=⟨w.heap.size+1+1,0,none⟩) rfl (λj _=>zq4n (λy hy=>?_) j) ⟨_,_,_,f2⟩ ?_
 . cases hky:Kc y with
   |none=>rfl
   |some v=>have:=hK y v hky;have hy':y.block=w.heap.size+1+1:=hy;omega
 intro τ d;have g1:w1.cell? ⟨w.heap.size+1+1,0,none⟩=some (.bool false):=by exact(zq1 f2).trans rfl
 have g2:w1.frozen? ⟨w.heap.size+1+1,0,none⟩=false:=zqh f2;go_wp2;simp only[zq7,zq1w];refine hJ.re' () _ _ τ d ?_;have g3:=zqy w1 (w.heap.size+1+1) 0 (Value.bool false) f2;have g4:∀b,b≠w.heap.size+1+1->(w1.setCell ⟨w.heap.size+1+1,0,none⟩ (.bool false)).heap[b]?=w1.heap[b]?:=λb hb=>zql _ _ _ _ hb;have g5:(w1.setCell ⟨w.heap.size+1+1,0,none⟩ (.bool false)).heap.size=w.heap.size+3:=by rw[zqz,f3]
 generalize w1.setCell ⟨w.heap.size+1+1,0,none⟩ (.bool false)=w2 at g3 g4 g5 |-;refine hJ.ctl (s:=()) (λw=>stepG_region_end) ?_;refine hJ.ctl (s:=()) (λw=>stepG_seq) ?_;refine hJ.ctl (s:=()) (λw=>stepG_region) ?_;refine zqg (J:=λ(_:Unit)=>J) (s:=()) (by decide) hJ (zqf _) true (.inl rfl) 0 1 1 rfl rfl rfl (by rfl) ?_;intro τ d;simp only[List.drop_zero,List.drop_succ_cons,List.take_succ_cons,List.take_zero];go_wp2;simp only[zq7,zq3v];refine hJ.re' () _ _ τ d ?_;refine at_defer (J:=λ(_:Unit)=>J) (s:=()) (i:=1) (rest:=[]) (d:=run1 w.heap.size) (by decide) hJ rfl rfl (λw=>by simp[go_sem,execOp,Act.eval,run1]) (λw=>by simp[go_sem,execOp,Act.eval]) ?_;refine hJ.ctl (s:=()) (λw=>stepG_region_end) ?_;refine hnext w2 ⟨?_,?_,g3⟩ g5 λb hb=>?_
 . rw[g4 _ (by omega)];exact f0
 . rw[g4 _ (by omega)];exact f1
 . rw[g4 _ (by omega)];exact f4 b hb
@[go_sem] theorem neq_func (f : Fn) (a b : Array Value) (w : World) : (binOp .neq 129 (.func f a b) .nilFunc).run Try.prog w = .ok (.bool true) w := by rfl
@[go_sem] theorem neq_nil (w : World) : (binOp .neq 129 .nilFunc .nilFunc).run Try.prog w = .ok (.bool false) w := by rfl
structure StandW(bT bS N cap i st:Nat)(w:World):Prop where
 stands:w.cell? ⟨bT,1,none⟩=some (.slice (some ⟨bS,0,none⟩) N cap)
 lt:i<N
 stand:w.cell? ⟨bS,i,none⟩=some (.pointer (some ⟨st,0,none⟩))
noncomputable def zq2s(n bT bS N cap i st:Nat)(tv:Value)(todo:List Item):Frame:=
 (baseD 60).at ⟨#[.pointer (some ⟨bT,0,none⟩),.int .i64 i,tv,.pointer (some ⟨n,0,none⟩),.pointer (some ⟨n+1,0,none⟩),undef,.pointer (some ⟨n+2,0,none⟩),.func (.func 63) #[] #[.pointer (some ⟨n,0,none⟩),.pointer (some ⟨n+2,0,none⟩),.pointer (some ⟨n+1,0,none⟩)],
  tv,.bool true,tv,.pointer (some ⟨bT,0,none⟩),.pointer (some ⟨bT,0,none⟩),.pointer (some ⟨bT,1,none⟩),.slice (some ⟨bS,0,none⟩) N cap,.int .i64 i,.pointer (some ⟨bS,i,none⟩),.pointer (some ⟨st,0,none⟩),.iface 150 (.pointer (some ⟨st,0,none⟩)),undef],[run1 n]⟩ todo
noncomputable def ops4:Array Oper:=match Try.f60.body with|some (.seq _ (.seq _ (.seq _ (.seq (.seq _ (.cond _ (.region _ ops _) _)) _))))=>ops|_=>#[]
noncomputable def code5:Code:=match Try.f60.body with|some (.seq _ (.seq _ (.seq _ (.seq _ c))))=>c|_=>.skip
theorem zqe9{Kc:Addr->Option Value}{J:Goroutine->World->Prop}(hJ:JX Try.prog Kc J){n bT bS N cap i st:Nat}{f:FuncId}{fn:Func}{c:Code}{first caps:Array Value}{w:World}
 (hf:Try.prog.funcs[f]?=some fn) (hb:fn.body=some c) (hnm:(fn.name== "runtime.NumGoroutine")=false)
 (hR:RunW n bT i false w) (hS:StandW bT bS N cap i st w)
 (hnext:J (G (Frame.enter Try.prog f (first++#[.iface 150 (.pointer (some ⟨st,0,none⟩))]++caps) .normal) [zq2s n bT bS N cap i st (.func (.func f) first caps) [.inRegion ops4 [9],.code code5],bot]) w):
 J (G (runAt n bT i (.func (.func f) first caps) [.code zq40]) [bot]) w:=by
 obtain⟨r1,r2,r3⟩:=hR;obtain⟨s1,s2,s3⟩:=hS;simp only[runAt,zq40,Try.f60];refine hJ.ctl (s:=()) (λw=>stepG_seq) ?_;refine hJ.ctl (s:=()) (λw=>stepG_seq) ?_;refine hJ.ctl (s:=()) (λw=>stepG_region) ?_;refine zqg (J:=λ(_:Unit)=>J) (s:=()) (by decide) hJ (zqf _) true (.inl rfl) 0 2 0 rfl rfl rfl (by rfl) ?_;intro τ d;simp only[List.drop_zero,List.drop_succ_cons,List.take_succ_cons,List.take_zero];go_wp2;simp only[zq7];refine hJ.re' () _ _ τ d ?_;refine hJ.ctl (s:=()) (λw=>stepG_region_end) ?_;refine hJ.ctl (s:=()) (λw=>stepG_cond (t:=true) rfl) ?_;simp only[if_true];refine zq4c (J:=λ(_:Unit)=>J) (s:=()) hJ (by decide) (by rfl) [.func (.func f) first caps,.pointer (some ⟨bT,0,none⟩),.pointer (some ⟨bT,0,none⟩),.pointer (some ⟨bT,1,none⟩),.slice (some ⟨bS,0,none⟩) N cap,.int .i64 i,.pointer (some ⟨bS,i,none⟩),.pointer (some ⟨st,0,none⟩),.iface 150 (.pointer (some ⟨st,0,none⟩))] (by kernel_rfl) ?_ ?_
 . intro τ d;have hi':(i:Int)<N:=by omega
   have hi0:(0:Int)<=i:=by omega
   have c1:=(zq1 (off:=0) r1).trans rfl;have c2:=(zq1 (off:=0) r2).trans rfl;have z1:w.frozen? ⟨n,0,none⟩=false:=zqh r1;simp only[evals,putv,dstOf,al_gl,al_g0,al_g1,al_ob,al_g2,List.set_cons_succ,List.set_cons_zero];refine⟨?_,?_,?_,?_,?_,?_,?_,?_,?_,trivial⟩<;>(intro o ho;simp only[al_oi]at ho;subst ho)
   all_goals(simp only[execOp,Act.eval,al_gd,al_gl,al_g0,al_g1,al_od])
   all_goals(try go_simp)
 . simp only[putv,dstOf,al_gl,al_g0,al_g1,al_ob,al_g2,List.set_cons_succ,List.set_cons_zero,Nat.reduceAdd,Nat.zero_add,List.length_cons,List.length_nil];refine zq14 (J:=λ(_:Unit)=>J) (s:=()) (by decide) hJ rfl rfl (f:=f) (args:=first++#[.iface 150 (.pointer (some ⟨st,0,none⟩))]++caps) (λτ d=>?_) (λτ d=>?_) ?_
   . have hnm':¬fn.name= "runtime.NumGoroutine" :=by simpa using hnm
     simp[go_sem,execOp,Act.eval,resolve,Deferred.ofValue,invoke,callFunc,hf,hb,hnm']
   . have hnm':¬fn.name= "runtime.NumGoroutine" :=by simpa using hnm
     intro e he;simp[go_sem,execOp,Act.eval,resolve,Deferred.ofValue,invoke,callFunc,hf,hb,hnm',Sem.runT_eq]at he
   . exact hnext
theorem zqb0(w:World):(Instr.typeAssert .nilIface 20 158 true).run Try.prog w=.ok (.tuple #[.agg #[.nilIface],.bool false]) w:=by kernel_rfl
theorem zqaz(x:Value)(w:World):(Instr.typeAssert (.iface 158 x) 20 158 true).run Try.prog w=.ok (.tuple #[x,.bool true]) w:=by rfl
@[go_sem] theorem neq_same (a : Addr) (w : World) : (binOp .neq 20 (.iface 145 (.pointer (some a))) (.iface 145 (.pointer (some a)))).run Try.prog w = .ok (.bool false) w := by
 simp only[binOp];simp[Op.equal,Op.maxDepth,run_equalIn_iface_ptr_same (P:=Try.prog) w 9998 a (ti:=20) (tp:=145) rfl rfl rfl rfl rfl]
structure TW(bT bS bB N cap capB i st back pass:Nat)(sr br:Array Value)(ov:Bool)(w:World):Prop where
 ts:w.heap[bT]?=some (.cells #[.chan (some back),.slice (some ⟨bS,0,none⟩) N cap,.slice (some ⟨bB,0,none⟩) N capB] 149)
 sts:w.heap[bS]?=some (.cells sr 150)
 brs:w.heap[bB]?=some (.cells br 4)
 std:w.heap[st]?=some (.cells #[.pointer (some ⟨bT,0,none⟩),.chan (some pass),.bool ov] 153)
 lt:i<N
 s:sr[i]?=some (.pointer (some ⟨st,0,none⟩))
 b:∃x,br[i]?=some (.bool x)
theorem zq89{Kc:Addr->Option Value}{J:Goroutine->World->Prop}(hJ:JX Try.prog Kc J){n bT i:Nat}{whole:Bool}{c:Frame}{cs:List Frame}{w:World}{x3 x4 x5 x6 x7 x8 x9 x10 x11 x12 x13 x14 x15 x16 x17 x18 x19 x20 x21 x22 x23 x24 x25 x26 x27 x28 x29 x30 x31 x32 x33 x34 x35 x36 x37 x38 x39 x40 x41 x42:Value}
 (hR:RunW n bT i whole w) {bS bB N cap capB st back pass:Nat} {sr br:Array Value} {ov:Bool} (hT:TW bT bS bB N cap capB i st back pass sr br ov w) (hne:bT≠st/\n≠st)
 (hKs:Kc ⟨st,2,none⟩=none)
 (hnext:∀T w',T[41]?=some (.chan (some back))->T[42]?=some (.agg #[])->w'.heap.size=w.heap.size->(∀b,b≠st->w'.heap[b]?=w.heap[b]?)->
  w'.heap[st]?=some (.cells #[.pointer (some ⟨bT,0,none⟩),.chan (some pass),.bool true] 153)->
  J (G ((baseD 63).at ⟨T,[]⟩ [.inRegion (match Try.f63.body with|some (.seq _ (.seq _ (.seq _ (.region _ ops _))))=>ops|_=>#[]) [5]]) (c::cs)) w'):
 J (G ((baseD 63).at ⟨#[.pointer (some ⟨n,0,none⟩),.pointer (some ⟨n+2,0,none⟩),.pointer (some ⟨n+1,0,none⟩),x3,x4,x5,x6,x7,x8,x9,x10,x11,x12,x13,x14,x15,x16,x17,x18,x19,x20,x21,x22,x23,x24,x25,x26,x27,x28,x29,x30,x31,x32,x33,x34,x35,x36,x37,x38,x39,x40,x41,x42],[]⟩ [.code (match Try.f63.body with|some (.seq _ (.seq _ c))=>c|_=>.skip)]) (c::cs)) w:=by
 obtain⟨r1,r2,r3⟩:=hR;obtain⟨t1,t2,t3,t4,t5,t6,t7⟩:=hT;have c1:=(zq1 (off:=0) r1).trans rfl;have c2:=(zq1 (off:=0) r2).trans rfl;have z1:w.frozen? ⟨n,0,none⟩=false:=zqh r1;have z2:w.frozen? ⟨n+1,0,none⟩=false:=zqh r2;have d1:=(zq1 (off:=1) t1).trans rfl;have d2:=(zq1 (off:=i) t2).trans t6;have d4:=(zq1 (off:=2) t4).trans rfl;have y4:w.frozen? ⟨st,2,none⟩=false:=zqh t4;have hi':(i:Int)<N:=by omega
 have hi0:(0:Int)<=i:=by omega
 simp only[Try.f63];refine hJ.ctl (s:=()) (λw=>stepG_seq) ?_;refine zq4c (J:=λ(_:Unit)=>J) (s:=()) hJ (by decide) (by rfl) [.pointer (some ⟨bT,0,none⟩),.pointer (some ⟨bT,0,none⟩),.pointer (some ⟨bT,1,none⟩),.slice (some ⟨bS,0,none⟩) N cap,.int .i64 i,.pointer (some ⟨bS,i,none⟩),.pointer (some ⟨st,0,none⟩),.pointer (some ⟨st,0,none⟩),.pointer (some ⟨st,2,none⟩)] (by kernel_rfl) ?_ ?_
 . intro τ d;simp only[evals,putv,dstOf,al_gl,al_g0,al_g1,al_ob,al_g2,List.set_cons_succ,List.set_cons_zero];refine⟨?_,?_,?_,?_,?_,?_,?_,?_,?_,trivial⟩<;>(intro o ho;simp only[al_oi]at ho;subst ho)
   all_goals(simp only[execOp,Act.eval,al_gd,al_gl,al_g0,al_g1,al_od])
   all_goals(try go_simp)
 . simp only[putv,dstOf,al_gl,al_g0,al_g1,al_ob,al_g2,List.set_cons_succ,List.set_cons_zero,Nat.reduceAdd,Nat.zero_add,List.length_cons,List.length_nil];refine zq29 (J:=λ(_:Unit)=>J) (s:=()) (i:=9) (rest:=[]) (by decide) hJ rfl rfl (ad:=⟨st,2,none⟩) rfl (λj hj=>zq4o hKs hj) ⟨_,_,_,t4⟩ ?_;intro τ d;go_wp2;simp only[zq7,zq1w];refine hJ.re' () _ _ τ d ?_;have g3:=zqy w st 2 (Value.bool true) t4;have g4:∀b,b≠st->(w.setCell ⟨st,2,none⟩ (Value.bool true)).heap[b]?=w.heap[b]?:=λb hb=>zql _ _ _ _ hb;have g5:(w.setCell ⟨st,2,none⟩ (Value.bool true)).heap.size=w.heap.size:=zqz _ _ _;generalize w.setCell ⟨st,2,none⟩ (Value.bool true)=w2 at g3 g4 g5 |-;refine hJ.ctl (s:=()) (λw=>stepG_region_end) ?_;refine hJ.ctl (s:=()) (λw=>stepG_region) ?_;refine zqg (J:=λ(_:Unit)=>J) (s:=()) (by decide) hJ (zqf _) true (.inl rfl) 0 5 1 rfl rfl rfl (by rfl) ?_;intro τ d;have e1:w2.cell? ⟨n,0,none⟩=some (.pointer (some ⟨bT,0,none⟩)):=(zq17 (g4 n hne.2)).trans c1;have e2:w2.cell? ⟨bT,0,none⟩=some (.chan (some back)):=(zq17 (g4 bT hne.1)).trans ((zq1 (off:=0) t1).trans rfl);simp only[List.drop_zero,List.drop_succ_cons,List.take_succ_cons,List.take_zero];go_wp2;simp only[zq7];refine hJ.re' () _ _ τ d ?_;refine hnext _ w2 (by rfl) (by rfl) g5 g4 (g3.trans (by rfl))
theorem zqe8{Kc:Addr->Option Value}{J:Goroutine->World->Prop}(hJ:JX Try.prog Kc J){n bT i:Nat}{whole ok:Bool}{r x:Value}{c:Frame}{cs:List Frame}{w:World}{a:Act}
 (ha:a=⟨#[.pointer (some ⟨n,0,none⟩),.pointer (some ⟨n+2,0,none⟩),.pointer (some ⟨n+1,0,none⟩),r,undef,undef,r,undef,undef,undef,undef,undef,undef,undef,undef,undef,undef,undef,undef,undef,undef,undef,undef,undef,undef,undef,undef,undef,undef,undef,undef,undef,undef,undef,undef,undef,undef,undef,undef,undef,undef,undef,undef],[]⟩)
 (hassert:∀w,(Instr.typeAssert r 20 158 true).run Try.prog w=.ok (.tuple #[.agg #[x],.bool ok]) w) (hcase:(ok=false/\x=.nilIface)\/(ok=true/\x=.iface 145 (.pointer (some ⟨bT,0,none⟩))))
 (hR:RunW n bT i whole w) (hK:∀a v,Kc a=some v->a.block<w.heap.size)
 {bS bB N cap capB st back pass:Nat} {sr br:Array Value} {ov:Bool} (hT:TW bT bS bB N cap capB i st back pass sr br ov w) (hlt:bT<n/\bS<n/\bB<n/\st<n) (hne:bT≠bB/\bS≠bB/\st≠bB/\bT≠st/\bS≠st)
 (hKB:∀y:Addr,y.block=bB->Kc y=none) (hKs:Kc ⟨st,2,none⟩=none)
 (hnext:∀T w',T[41]?=some (.chan (some back))->T[42]?=some (.agg #[])->w'.heap.size=w.heap.size+1->(∀b,b<w.heap.size->b≠bB->b≠st->w'.heap[b]?=w.heap[b]?)->
  w'.heap[st]?=some (.cells #[.pointer (some ⟨bT,0,none⟩),.chan (some pass),.bool true] 153)->w'.heap[bB]?=some (.cells (if ok=true then br else br.setIfInBounds i (.bool (!whole))) 4)->
  J (G ((baseD 63).at ⟨T,[]⟩ [.inRegion (match Try.f63.body with|some (.seq _ (.seq _ (.seq _ (.region _ ops _))))=>ops|_=>#[]) [5]]) (c::cs)) w'):
 J (G ((baseD 63).at a [.code (match Try.f63.body with|some (.seq _ c)=>c|_=>.skip)]) (c::cs)) w:=by
 obtain⟨r1,r2,r3⟩:=hR;have c1:=(zq1 (off:=0) r1).trans rfl;have c2:=(zq1 (off:=0) r2).trans rfl;have c3:=(zq1 (off:=0) r3).trans rfl;have z1:w.frozen? ⟨n,0,none⟩=false:=zqh r1;have z2:w.frozen? ⟨n+1,0,none⟩=false:=zqh r2;have z3:w.frozen? ⟨n+2,0,none⟩=false:=zqh r3;subst ha;simp only[Try.f63];refine hJ.ctl (s:=()) (λw=>stepG_seq) ?_;refine hJ.ctl (s:=()) (λw=>stepG_seq) ?_;refine hJ.ctl (s:=()) (λw=>stepG_region) ?_;refine zqg (J:=λ(_:Unit)=>J) (s:=()) (by decide) hJ (zqf _) true (.inl rfl) 0 6 2 rfl rfl rfl (by rfl) ?_;intro τ d;simp only[List.drop_zero,List.drop_succ_cons,List.take_succ_cons,List.take_zero];go_wp2;simp only[zq7,zq3v];refine hJ.re' () _ _ τ d ?_;generalize hw1:w.alloc (Obj.cells #[Value.nilIface] 158)=w1;have f0:w1.heap[w.heap.size]?=some (.cells #[.nilIface] 158):=by subst hw1;rw[zqc,if_pos rfl]
 have f1:∀b,b≠w.heap.size->w1.heap[b]?=w.heap[b]?:=λb hb=>by subst hw1;rw[zqc,if_neg hb]
 have hfree:∀y:Addr,y.block=w.heap.size->Kc y=none:=λy hy=>by
  cases hky:Kc y with
  |none=>rfl
  |some v=>have:=hK y v hky;omega
 have g1:w1.cell? ⟨w.heap.size,0,none⟩=some .nilIface:=(zq1 f0).trans rfl;have g2:w1.frozen? ⟨w.heap.size,0,none⟩=false:=zqh f0;refine zq29 (J:=λ(_:Unit)=>J) (s:=()) (i:=6) (rest:=[7]) (by decide) hJ rfl rfl (ad:=⟨w.heap.size,0,none⟩) rfl (λj _=>zq4n hfree j) ⟨_,_,_,f0⟩ ?_;intro τ d;rcases hcase with⟨rfl,rfl⟩|⟨rfl,rfl⟩
 . go_wp2;simp only[zq7,zq1w];refine hJ.re' () _ _ τ d ?_;have g3:=zqy w1 w.heap.size 0 Value.nilIface f0;have g4:∀b,b≠w.heap.size->(w1.setCell ⟨w.heap.size,0,none⟩ Value.nilIface).heap[b]?=w1.heap[b]?:=λb hb=>zql _ _ _ _ hb;have g5:(w1.setCell ⟨w.heap.size,0,none⟩ Value.nilIface).heap.size=w.heap.size+1:=by rw[zqz,<-hw1,zq8]
   generalize w1.setCell ⟨w.heap.size,0,none⟩ Value.nilIface=w2 at g3 g4 g5 |-;refine zqg (J:=λ(_:Unit)=>J) (s:=()) (by decide) hJ (zqf _) true (.inl rfl) 7 1 0 rfl rfl rfl (by rfl) ?_;intro τ d;simp only[List.drop_zero,List.drop_succ_cons,List.take_succ_cons,List.take_zero];go_wp2;simp only[zq7];refine hJ.re' () _ _ τ d ?_;refine hJ.ctl (s:=()) (λw=>stepG_region_end) ?_;refine hJ.ctl (s:=()) (λw=>stepG_seq) ?_;refine hJ.ctl (s:=()) (λw=>stepG_region) ?_;refine zqg (J:=λ(_:Unit)=>J) (s:=()) (by decide) hJ (zqf _) true (.inl rfl) 0 9 0 rfl rfl rfl (by rfl) ?_;intro τ d;simp only[List.drop_zero,List.drop_succ_cons,List.take_succ_cons,List.take_zero];go_wp2;simp only[zq7];refine hJ.re' () _ _ τ d ?_;refine hJ.ctl (s:=()) (λw=>stepG_region_end) ?_;refine hJ.ctl (s:=()) (λw=>stepG_cond (t:=true) rfl) ?_;simp only[if_true];obtain⟨t1,t2,t3,t4,t5,t6,⟨bx,t7⟩⟩:=hT;have lt1:=zqi t1;have lt2:=zqi t2;have lt3:=zqi t3;have lt4:=zqi t4;have lt5:=zqi r1;have lt6:=zqi r2;have lt7:=zqi r3;have o:∀b,b<w.heap.size->w2.heap[b]?=w.heap[b]?:=λb hb=>(g4 b (by omega)).trans (f1 b (by omega));have k1:w2.cell? ⟨n,0,none⟩=some (.pointer (some ⟨bT,0,none⟩)):=(zq1 ((o n lt5).trans r1)).trans rfl;have k2:w2.cell? ⟨n+1,0,none⟩=some (.int .i64 i):=(zq1 ((o (n+1) lt6).trans r2)).trans rfl;have k3:w2.cell? ⟨n+2,0,none⟩=some (.bool whole):=(zq1 ((o (n+2) lt7).trans r3)).trans rfl;have k4:w2.cell? ⟨bT,2,none⟩=some (.slice (some ⟨bB,0,none⟩) N capB):=(zq1 ((o bT lt1).trans t1)).trans rfl;have k5:w2.cell? ⟨bB,i,none⟩=some (.bool bx):=(zq1 ((o bB lt3).trans t3)).trans t7;have k6:w2.frozen? ⟨bB,i,none⟩=false:=zqh ((o bB lt3).trans t3);have hi':(i:Int)<N:=by omega
   have hi0:(0:Int)<=i:=by omega
   refine zq4c (J:=λ(_:Unit)=>J) (s:=()) hJ (by decide) (by rfl) [.pointer (some ⟨bT,0,none⟩),.pointer (some ⟨bT,0,none⟩),.pointer (some ⟨bT,2,none⟩),.slice (some ⟨bB,0,none⟩) N capB,.int .i64 i,.bool whole,.bool (!whole),.pointer (some ⟨bB,i,none⟩)] (by kernel_rfl) ?_ ?_
   . intro τ d;simp only[evals,putv,dstOf,al_gl,al_g0,al_g1,al_ob,al_g2,List.set_cons_succ,List.set_cons_zero];refine⟨?_,?_,?_,?_,?_,?_,?_,?_,trivial⟩<;>(intro o ho;simp only[al_oi]at ho;subst ho)
     all_goals(simp only[execOp,Act.eval,al_gd,al_gl,al_g0,al_g1,al_od])
     all_goals(try go_simp)
   . simp only[putv,dstOf,al_gl,al_g0,al_g1,al_ob,al_g2,List.set_cons_succ,List.set_cons_zero,Nat.reduceAdd,Nat.zero_add,List.length_cons,List.length_nil];refine zq29 (J:=λ(_:Unit)=>J) (s:=()) (i:=8) (rest:=[]) (by decide) hJ rfl rfl (ad:=⟨bB,i,none⟩) rfl (λj _=>zq4n hKB j) ⟨_,_,_,(o bB lt3).trans t3⟩ ?_;intro τ d;go_wp2;simp only[zq7,zq1w];refine hJ.re' () _ _ τ d ?_;have m3:=zqy w2 bB i (Value.bool (!whole)) ((o bB lt3).trans t3);have m4:∀b,b≠bB->(w2.setCell ⟨bB,i,none⟩ (Value.bool (!whole))).heap[b]?=w2.heap[b]?:=λb hb=>zql _ _ _ _ hb;have m5:(w2.setCell ⟨bB,i,none⟩ (Value.bool (!whole))).heap.size=w2.heap.size:=zqz _ _ _;generalize w2.setCell ⟨bB,i,none⟩ (Value.bool (!whole))=w3 at m3 m4 m5 |-;refine hJ.ctl (s:=()) (λw=>stepG_region_end) ?_;have o3:∀b,b<w.heap.size->b≠bB->w3.heap[b]?=w.heap[b]?:=λb hb h=>(m4 b h).trans (o b hb);have hbi:i<br.size:=(Array.getElem?_eq_some_iff.1 t7).1;refine zq89 hJ (n:=n) (i:=i) (whole:=whole) ⟨(o3 n lt5 (by omega)).trans r1,(o3 (n+1) lt6 (by omega)).trans r2,(o3 (n+2) lt7 (by omega)).trans r3⟩
      (bB:=bB) (br:=br.setIfInBounds i (.bool (!whole))) ⟨(o3 bT lt1 hne.1).trans t1,(o3 bS lt2 hne.2.1).trans t2,m3,(o3 st lt4 hne.2.2.1).trans t4,t5,t6,⟨!whole,by simp[hbi]⟩⟩ ⟨hne.2.2.2.1,by omega⟩ hKs ?_
     intro T w' hT1 hT2 hsz hold hst;refine hnext T w' hT1 hT2 (by rw[hsz,m5,g5]) (λb hb h1 h2=>(hold b h2).trans (o3 b hb h1)) hst ?_;rw[hold bB hne.2.2.1.symm,m3];simp
 . go_wp2;simp only[zq7,zq1w];refine hJ.re' () _ _ τ d ?_;have g3:=zqy w1 w.heap.size 0 (Value.iface 145 (.pointer (some ⟨bT,0,none⟩))) f0;have g4:∀b,b≠w.heap.size->(w1.setCell ⟨w.heap.size,0,none⟩ (Value.iface 145 (.pointer (some ⟨bT,0,none⟩)))).heap[b]?=w1.heap[b]?:=λb hb=>zql _ _ _ _ hb;have g5:(w1.setCell ⟨w.heap.size,0,none⟩ (Value.iface 145 (.pointer (some ⟨bT,0,none⟩)))).heap.size=w.heap.size+1:=by rw[zqz,<-hw1,zq8]
   generalize w1.setCell ⟨w.heap.size,0,none⟩ (Value.iface 145 (.pointer (some ⟨bT,0,none⟩)))=w2 at g3 g4 g5 |-;obtain⟨t1,t2,t3,t4,t5,t6,⟨bx,t7⟩⟩:=hT;have lt1:=zqi t1;have lt2:=zqi t2;have lt3:=zqi t3;have lt4:=zqi t4;have lt5:=zqi r1;have lt6:=zqi r2;have lt7:=zqi r3;have o:∀b,b<w.heap.size->w2.heap[b]?=w.heap[b]?:=λb hb=>(g4 b (by omega)).trans (f1 b (by omega));have k0:w2.cell? ⟨w.heap.size,0,none⟩=some (Value.iface 145 (.pointer (some ⟨bT,0,none⟩))):=(zq1 g3).trans rfl;have k1:w2.cell? ⟨n,0,none⟩=some (.pointer (some ⟨bT,0,none⟩)):=(zq1 ((o n lt5).trans r1)).trans rfl;refine zqg (J:=λ(_:Unit)=>J) (s:=()) (by decide) hJ (zqf _) true (.inl rfl) 7 1 0 rfl rfl rfl (by rfl) ?_;intro τ d;simp only[List.drop_zero,List.drop_succ_cons,List.take_succ_cons,List.take_zero];go_wp2;simp only[zq7];refine hJ.re' () _ _ τ d ?_;refine hJ.ctl (s:=()) (λw=>stepG_region_end) ?_;refine hJ.ctl (s:=()) (λw=>stepG_seq) ?_;refine hJ.ctl (s:=()) (λw=>stepG_region) ?_;refine zqg (J:=λ(_:Unit)=>J) (s:=()) (by decide) hJ (zqf _) true (.inl rfl) 0 9 0 rfl rfl rfl (by rfl) ?_;intro τ d;simp only[List.drop_zero,List.drop_succ_cons,List.take_succ_cons,List.take_zero];go_wp2;simp only[zq7];refine hJ.re' () _ _ τ d ?_;refine hJ.ctl (s:=()) (λw=>stepG_region_end) ?_;refine hJ.ctl (s:=()) (λw=>stepG_cond (t:=false) rfl) ?_;simp only[Bool.false_eq_true,if_false];refine hJ.ctl (s:=()) (λw=>stepG_skip) ?_;refine zq89 hJ (n:=n) (i:=i) (whole:=whole) ⟨(o n lt5).trans r1,(o (n+1) lt6).trans r2,(o (n+2) lt7).trans r3⟩
    (bB:=bB) (br:=br) ⟨(o bT lt1).trans t1,(o bS lt2).trans t2,(o bB lt3).trans t3,(o st lt4).trans t4,t5,t6,⟨_,t7⟩⟩ ⟨hne.2.2.2.1,by omega⟩ hKs ?_
   intro T w' hT1 hT2 hsz hold hst;refine hnext T w' hT1 hT2 (by rw[hsz,g5]) (λb hb h1 h2=>(hold b h2).trans (o b hb)) hst ?_;rw[hold bB hne.2.2.1.symm,o bB lt3,t3];simp
def zq20(c:Frame):Prop:=c.fn=60/\c.defers=[]/\c.kind=.deferred/\(c.mode=.returning\/∃v,c.mode=.panicking [{v,recovered:=true}])
noncomputable def zq1z(T:Array Value):Frame:=(baseD 63).at ⟨T,[]⟩ [.inRegion (match Try.f63.body with|some (.seq _ (.seq _ (.seq _ (.region _ ops _))))=>ops|_=>#[]) [5]]
theorem zqdz:QuitsD Try.prog 1 0 (G bot []):=by
 refine QuitsD.ctl (g':={G bot []with status:=.finished}) rfl (λw=>?_) ⟨rfl,rfl⟩;simp[G,bot,botF,stepG,unwind,goexitEntry,Frame.catches];rfl
theorem zqe0(c:Frame)(h1:c.fn=60)(h2:c.defers=[])(h3:c.kind=.deferred)(h4:c.mode=.returning):QuitsD Try.prog 2 0 (G c [bot]):=by
 refine QuitsD.ctl (g':=G bot []) rfl (λw=>?_) zqdz;have hr:(results Try.f60 c.tmps).run Try.prog w=.ok (.tuple #[]) w:=by simp[results,Try.f60]
 have he:(results Try.f60 c.tmps).events Try.prog w #[]=#[]:=by simp[results,Try.f60]
 simp[G,stepG,unwind,h1,h2,h3,h4,Try.func60,Sem.runT_eq,hr,he,seen,GStep.after,doReturn,bot,botF,goexitEntry]
theorem leaves(T:Array Value)(c:Frame)(hc:zq20 c):QuitsD Try.prog 5 0 (Conc.served (G (zq1z T) [c,bot]) undef):=by
 obtain⟨h1,h2,h3,h4⟩:=hc;simp only[zq1z,Try.f63];rw[served_fr,Frame.finish_at];have ep:∀a:Act,a.put none undef=a:=λa=>rfl;simp only[al_gl,al_g0,al_g1,al_ob,ep];refine QuitsD.ctl rfl (λw=>stepG_region_end) ?_;refine QuitsD.ctl rfl (λw=>stepG_end) ?_;refine QuitsD.ctl (g':=G {c with mode:=.returning} [bot]) rfl (λw=>?_) (zqe0 _ h1 h2 h3 rfl);have hr:∀t,(results Try.f63 t).run Try.prog w=.ok (.tuple #[]) w:=λt=>by simp[results,Try.f63]
 have he:∀t,(results Try.f63 t).events Try.prog w #[]=#[]:=λt=>by simp[results,Try.f63]
 rcases h4 with h4|⟨v,h4⟩
 . have e:{c with mode:=.returning}=c:=by cases c;simp only at h4;subst h4;rfl
   rw[e];simp[G,stepG,unwind,Frame.at,baseD,Try.func63,Sem.runT_eq,hr,he,seen,GStep.after,doReturn,h4]
 . simp[G,stepG,unwind,Frame.at,baseD,Try.func63,Sem.runT_eq,hr,he,seen,GStep.after,doReturn,h4]
theorem zqef{Fin:Machine->Trace->Prop}(hFin:Back Try.prog Fin){Kc:Addr->Option Value}{Inb:Nat->Option Seat}{j n back:Nat}{T:Array Value}{c:Frame}{w:World}(hj:0<j)(hn:0<n)
 {zb:Value} {okb:Bool} {homeb:Goroutine->Prop} (h0:Inb 0=some (Seat.one back zb okb homeb)) (h1:T[41]?=some (.chan (some back))) (h2:T[42]?=some (.agg #[])) (hc:zq20 c)
 (hnext:∀g₂ k cap,homeb g₂->w.heap[back]?=some (.chan cap #[] false k k false)->HoldR Try.prog Fin Kc (upd Inb j none) 0 n (Conc.served g₂ (recvd okb (.agg #[]) true)) (w.setChan back cap #[] false (k+1) (k+1) false)):
 HoldR Try.prog Fin Kc Inb j n (G (zq1z T) [c,bot]) w:=by
 have hl:=leaves T c hc;simp only[zq1z,Try.f63]at hl |-;refine zq5j hFin (by omega) hn h0 rfl (zq5u (c:=back) (v:=.agg #[]) (z':=.tuple #[]) rfl rfl (by decide) (λw=>?_) (λw=>?_) w) (by simp) (.leaves hj ⟨5,hl⟩) hnext
 . simp[execOp,scase,Act.eval,al_gd,h1,h2]
 . simp[go_sem,execOp,Act.eval]
structure EndIn(Kc:Addr->Option Value)(n bT bS bB N cap capB i st back pass:Nat)(sr br:Array Value)(ov:Bool)(w:World):Prop where
 kept:∀a v,Kc a=some v->a.block<w.heap.size
 tw:TW bT bS bB N cap capB i st back pass sr br ov w
 lt:bT<n/\bS<n/\bB<n/\st<n
 ne:bT≠bB/\bS≠bB/\st≠bB/\bT≠st/\bS≠st
 kb:∀y:Addr,y.block=bB->Kc y=none
 ks:Kc ⟨st,2,none⟩=none
structure EndOut(bB st bT pass i:Nat)(br:Array Value)(brk:Option Bool)(w w':World):Prop where
 size:w.heap.size<=w'.heap.size
 old:∀b,b<w.heap.size->b≠bB->b≠st->w'.heap[b]?=w.heap[b]?
 std:w'.heap[st]?=some (.cells #[.pointer (some ⟨bT,0,none⟩),.chan (some pass),.bool true] 153)
 brs:w'.heap[bB]?=some (.cells (match brk with|some x=>br.setIfInBounds i (.bool x)|none=>br) 4)
theorem zq88{Kc:Addr->Option Value}{J:Goroutine->World->Prop}(hJ:JX Try.prog Kc J){n bT bS bB N cap capB i st back pass:Nat}{sr br:Array Value}{ov whole:Bool}{w:World}{b:Frame}{a:Act}{todo:List Item}{md:FrameMode}{r:Value}{ok:Bool}{x:Value}
 (hb:b=baseD 60) (hd:a.defers=[run1 n]) (hmd:(md=.returning/\r=.nilIface)\/md=.panicking [{v:=r,recovered:=false}])
 (hassert:∀w,(Instr.typeAssert r 20 158 true).run Try.prog w=.ok (.tuple #[.agg #[x],.bool ok]) w) (hcase:(ok=false/\x=.nilIface)\/(ok=true/\x=.iface 145 (.pointer (some ⟨bT,0,none⟩))))
 (hR:RunW n bT i whole w) (hE:EndIn Kc n bT bS bB N cap capB i st back pass sr br ov w)
 (hnext:∀T c w',zq20 c->T[41]?=some (.chan (some back))->T[42]?=some (.agg #[])->EndOut bB st bT pass i br (if ok=true then none else some (!whole)) w w'->J (G (zq1z T) [c,bot]) w'):
 J (G {b.at a todo with mode:=md} [bot]) w:=by
 subst hb;refine zqb5 (J:=λ(_:Unit)=>J) (s:=()) (f:=63) (fn:=Try.f63) (c:=Try.f63.body.getD .skip) (args:=#[]) (caps:=#[.pointer (some ⟨n,0,none⟩),.pointer (some ⟨n+2,0,none⟩),.pointer (some ⟨n+1,0,none⟩)]) (ds:=[]) hJ ?_ hd Try.func63 rfl rfl ?_
 . rcases hmd with⟨h,_⟩|h
   . exact .inl h
   . exact .inr ⟨_,h⟩
 have body:∀(c:Frame),zq20 c->J (G ((baseD 63).at ⟨#[.pointer (some ⟨n,0,none⟩),.pointer (some ⟨n+2,0,none⟩),.pointer (some ⟨n+1,0,none⟩),r,undef,undef,r,undef,undef,undef,undef,undef,undef,undef,undef,undef,undef,undef,undef,undef,undef,undef,undef,undef,undef,undef,undef,undef,undef,undef,undef,undef,undef,undef,undef,undef,undef,undef,undef,undef,undef,undef,undef],[]⟩ [.code (match Try.f63.body with|some (.seq _ c)=>c|_=>.skip)]) [c,bot]) w:=by
  intro c hc;refine zqe8 hJ rfl hassert hcase hR hE.kept hE.tw hE.lt hE.ne hE.kb hE.ks ?_;intro T w' h1 h2 h3 h4 h5 h6;refine hnext T c w' hc h1 h2 ⟨by omega,h4,h5,?_⟩;rw[h6];cases ok<;>rfl
 simp only[Try.f63,zqm,al_od,List.size_toArray,List.length_cons,List.length_nil,Nat.reduceAdd,Nat.reduceSub,Array.replicate_succ,Array.replicate_zero,List.push_toArray,List.append_toArray,List.nil_append,List.cons_append]at body |-;refine hJ.ctl (s:=()) (λw=>stepG_seq) ?_;refine hJ.ctl (s:=()) (λw=>stepG_region) ?_;rcases hmd with⟨rfl,rfl⟩|rfl
 . refine zqb3 (J:=λ(_:Unit)=>J) (s:=()) (i:=0) (rest:=[1]) rfl rfl hJ rfl rfl (λw=>by simp[go_sem,execOp,Act.eval]) (λw=>by simp[go_sem,execOp,Act.eval]) ?_
   walk_nrm
   refine zqg (J:=λ(_:Unit)=>J) (s:=()) (by decide) hJ (zqf _) true (.inl rfl) 1 1 0 rfl rfl rfl (by rfl) ?_;intro τ d;simp only[List.drop_zero,List.drop_succ_cons,List.take_succ_cons,List.take_zero];go_wp2;simp only[zq7];refine hJ.re' () _ _ τ d ?_;refine hJ.ctl (s:=()) (λw=>stepG_region_end) ?_;exact body _ ⟨rfl,rfl,rfl,.inl rfl⟩
 . refine zqb4 (J:=λ(_:Unit)=>J) (s:=()) (i:=0) (rest:=[1]) (v:=r) (older:=[]) rfl rfl hJ rfl rfl (λw=>by simp[go_sem,execOp,Act.eval]) (λw=>by simp[go_sem,execOp,Act.eval]) ?_
   walk_nrm
   refine zqg (J:=λ(_:Unit)=>J) (s:=()) (by decide) hJ (zqf _) true (.inl rfl) 1 1 0 rfl rfl rfl (by rfl) ?_;intro τ d;simp only[List.drop_zero,List.drop_succ_cons,List.take_succ_cons,List.take_zero];go_wp2;simp only[zq7];refine hJ.re' () _ _ τ d ?_;refine hJ.ctl (s:=()) (λw=>stepG_region_end) ?_;exact body _ ⟨rfl,rfl,rfl,.inr ⟨r,rfl⟩⟩
theorem TW.of_same {bT bS bB N cap capB i st back pass:Nat}{sr br:Array Value}{ov:Bool}{w w':World}(h:TW bT bS bB N cap capB i st back pass sr br ov w)
 (h1:w'.heap[bT]?=w.heap[bT]?) (h2:w'.heap[bS]?=w.heap[bS]?) (h3:w'.heap[bB]?=w.heap[bB]?) (h4:w'.heap[st]?=w.heap[st]?):TW bT bS bB N cap capB i st back pass sr br ov w':=
 ⟨h1.trans h.ts,h2.trans h.sts,h3.trans h.brs,h4.trans h.std,h.lt,h.s,h.b⟩
theorem zq8e{Kc:Addr->Option Value}{J:Goroutine->World->Prop}(hJ:JX Try.prog Kc J){n bT bS bB N cap capB i st back pass:Nat}{sr br:Array Value}{ov:Bool}{w:World}{T:Array Value}
 (hT6:T[6]?=some (.pointer (some ⟨n+2,0,none⟩))) (hR:RunW n bT i false w) (hE:EndIn Kc n bT bS bB N cap capB i st back pass sr br ov w) (hKn:∀y:Addr,y.block=n+2->Kc y=none)
 (hnext:∀T c w',zq20 c->T[41]?=some (.chan (some back))->T[42]?=some (.agg #[])->w.heap.size<=w'.heap.size->(∀b,b<w.heap.size->b≠bB->b≠st->b≠n+2->w'.heap[b]?=w.heap[b]?)->
  w'.heap[st]?=some (.cells #[.pointer (some ⟨bT,0,none⟩),.chan (some pass),.bool true] 153)->w'.heap[bB]?=some (.cells (br.setIfInBounds i (.bool false)) 4)->J (G (zq1z T) [c,bot]) w'):
 J (G ((baseD 60).at ⟨T,[run1 n]⟩ [.code code5]) [bot]) w:=by
 simp only[code5,Try.f60];have l1:=hE.lt;refine hJ.ctl (s:=()) (λw=>stepG_region) ?_;have k1:w.cell? ⟨n+2,0,none⟩=some (.bool false):=(zq1 hR.whole).trans rfl;have k2:w.frozen? ⟨n+2,0,none⟩=false:=zqh hR.whole;refine zq29 (J:=λ(_:Unit)=>J) (s:=()) (i:=0) (rest:=[]) (by decide) hJ rfl rfl (ad:=⟨n+2,0,none⟩) (by simp[Act.eval,al_gd,hT6]) (λj _=>zq4n hKn j) ⟨_,_,_,hR.whole⟩ ?_;intro τ d;go_wp2;simp only[zq7,zq1w];refine hJ.re' () _ _ τ d ?_;have m3:=zqy w (n+2) 0 (Value.bool true) hR.whole;have m4:∀b,b≠n+2->(w.setCell ⟨n+2,0,none⟩ (Value.bool true)).heap[b]?=w.heap[b]?:=λb hb=>zql _ _ _ _ hb;have m5:(w.setCell ⟨n+2,0,none⟩ (Value.bool true)).heap.size=w.heap.size:=zqz _ _ _;generalize w.setCell ⟨n+2,0,none⟩ (Value.bool true)=w3 at m3 m4 m5 |-;refine hJ.ctl (s:=()) (λw=>stepG_region_end) ?_;refine hJ.ctl (s:=()) (λw=>stepG_end) ?_;refine zq88 hJ (whole:=true) (r:=.nilIface) (ok:=false) (x:=.nilIface) (md:=.returning) rfl rfl (.inl ⟨rfl,rfl⟩) zqb0 (.inl ⟨rfl,rfl⟩) ⟨(m4 n (by omega)).trans hR.t,(m4 (n+1) (by omega)).trans hR.i,m3⟩
  ⟨λa v h=>by rw[m5];exact hE.kept a v h,hE.tw.of_same (m4 _ (by omega)) (m4 _ (by omega)) (m4 _ (by omega)) (m4 _ (by omega)),hE.lt,hE.ne,hE.kb,hE.ks⟩ ?_
 intro T c w' hc h1 h2 ho;refine hnext T c w' hc h1 h2 (by have:=ho.size;omega) (λb hb h3 h4 h5=>(ho.old b (by omega) h3 h4).trans (m4 b h5)) ho.std ho.brs
theorem run_back{Kc:Addr->Option Value}{J:Goroutine->World->Prop}(hJ:JX Try.prog Kc J){n bT bS bB N cap capB i st back pass:Nat}{sr br:Array Value}{ov:Bool}{w:World}{tv v:Value}
 (hR:RunW n bT i false w) (hE:EndIn Kc n bT bS bB N cap capB i st back pass sr br ov w) (hKn:∀y:Addr,y.block=n+2->Kc y=none)
 (hnext:∀T c w',zq20 c->T[41]?=some (.chan (some back))->T[42]?=some (.agg #[])->w.heap.size<=w'.heap.size->(∀b,b<w.heap.size->b≠bB->b≠st->b≠n+2->w'.heap[b]?=w.heap[b]?)->
  w'.heap[st]?=some (.cells #[.pointer (some ⟨bT,0,none⟩),.chan (some pass),.bool true] 153)->w'.heap[bB]?=some (.cells (br.setIfInBounds i (.bool false)) 4)->J (G (zq1z T) [c,bot]) w'):
 J (G ((zq2s n bT bS N cap i st tv [.inRegion ops4 [9],.code code5]).finish v) [bot]) w:=by
 simp only[zq2s];rw[Frame.finish_at];refine hJ.ctl (s:=()) (λw=>stepG_region_end) ?_;refine zq8e hJ (by simp[Act.put,ops4,Try.f60]) hR hE hKn hnext
theorem run_nil{Kc:Addr->Option Value}{J:Goroutine->World->Prop}(hJ:JX Try.prog Kc J){n bT bS bB N cap capB i st back pass:Nat}{sr br:Array Value}{ov:Bool}{w:World}
 (hR:RunW n bT i false w) (hE:EndIn Kc n bT bS bB N cap capB i st back pass sr br ov w) (hKn:∀y:Addr,y.block=n+2->Kc y=none)
 (hnext:∀T c w',zq20 c->T[41]?=some (.chan (some back))->T[42]?=some (.agg #[])->w.heap.size<=w'.heap.size->(∀b,b<w.heap.size->b≠bB->b≠st->b≠n+2->w'.heap[b]?=w.heap[b]?)->
  w'.heap[st]?=some (.cells #[.pointer (some ⟨bT,0,none⟩),.chan (some pass),.bool true] 153)->w'.heap[bB]?=some (.cells (br.setIfInBounds i (.bool false)) 4)->J (G (zq1z T) [c,bot]) w'):
 J (G (runAt n bT i .nilFunc [.code zq40]) [bot]) w:=by
 simp only[runAt,zq40,Try.f60];refine hJ.ctl (s:=()) (λw=>stepG_seq) ?_;refine hJ.ctl (s:=()) (λw=>stepG_seq) ?_;refine hJ.ctl (s:=()) (λw=>stepG_region) ?_;refine zqg (J:=λ(_:Unit)=>J) (s:=()) (by decide) hJ (zqf _) true (.inl rfl) 0 2 0 rfl rfl rfl (by rfl) ?_;intro τ d;simp only[List.drop_zero,List.drop_succ_cons,List.take_succ_cons,List.take_zero];go_wp2;simp only[zq7];refine hJ.re' () _ _ τ d ?_;refine hJ.ctl (s:=()) (λw=>stepG_region_end) ?_;refine hJ.ctl (s:=()) (λw=>stepG_cond (t:=false) rfl) ?_;simp only[Bool.false_eq_true,if_false];refine hJ.ctl (s:=()) (λw=>stepG_skip) ?_;have:= @zq8e Kc J hJ n bT bS bB N cap capB i st back pass sr br ov w;refine this (T:=_) ?_ hR hE hKn hnext;rfl
theorem zq8d{Kc:Addr->Option Value}{J:Goroutine->World->Prop}(hJ:JX Try.prog Kc J){n bT bS bB N cap capB i st back pass:Nat}{sr br:Array Value}{ov:Bool}{w:World}{tv r x:Value}{ok:Bool}
 (hassert:∀w,(Instr.typeAssert r 20 158 true).run Try.prog w=.ok (.tuple #[.agg #[x],.bool ok]) w) (hcase:(ok=false/\x=.nilIface)\/(ok=true/\x=.iface 145 (.pointer (some ⟨bT,0,none⟩))))
 (hR:RunW n bT i false w) (hE:EndIn Kc n bT bS bB N cap capB i st back pass sr br ov w)
 (hnext:∀T c w',zq20 c->T[41]?=some (.chan (some back))->T[42]?=some (.agg #[])->EndOut bB st bT pass i br (if ok=true then none else some true) w w'->J (G (zq1z T) [c,bot]) w'):
 J (G ((zq2s n bT bS N cap i st tv [.inRegion ops4 [9],.code code5]).raise [{v:=r,recovered:=false}]) [bot]) w:=by
 simp only[zq2s];rw[Frame.raise_at];exact zq88 hJ (whole:=false) rfl rfl (.inr rfl) hassert hcase hR hE hnext
structure OA where
 n0:Nat
 N:Nat
 cap:Nat
 capB:Nat
 bT:Nat
 bS:Nat
 sp:Option Addr
 bB:Nat
 bX:Nat
 back:Nat
 row:Array Value
 st:Nat->Nat
 pass:Nat->Nat
 rb:Nat->Nat
 tv:Nat->Value
def OA.own (A:OA)(b:Nat):Prop:=b=A.bT\/(0<A.N/\b=A.bS)\/b=A.bB\/b=A.bX\/b=A.back\/∃i,i<A.N/\(b=A.st i\/b=A.pass i)
def OA.box (A:OA)(i b:Nat):Prop:=b=A.rb i\/b=A.rb i+1\/b=A.rb i+2
structure OA.Ok (A:OA):Prop where
 n0:0<A.n0
 sp:0<A.N->A.sp=some ⟨A.bS,0,none⟩
 row:∀i,i<A.N->A.row[i]?=some (.pointer (some ⟨A.st i,0,none⟩))
 inj:∀i j,i<A.N->j<A.N->A.st i=A.st j->i=j
 pb:∀i,i<A.N->A.pass i≠A.back
 injp:∀i j,i<A.N->j<A.N->A.pass i=A.pass j->i=j
 ne:A.bT≠A.bS/\A.bT≠A.bB/\A.bS≠A.bB/\A.bX≠A.bT/\A.bX≠A.bS/\A.bX≠A.bB
 st:∀i,i<A.N->A.st i≠A.bT/\A.st i≠A.bS/\A.st i≠A.bB/\A.st i≠A.bX
structure OverW(A:OA)(ov brk:Nat->Bool)(w:World):Prop where
 ts:w.heap[A.bT]?=some (.cells #[.chan (some A.back),.slice A.sp A.N A.cap,.slice (some ⟨A.bB,0,none⟩) A.N A.capB] 149)
 box:w.heap[A.bX]?=some (.cells #[.pointer (some ⟨A.bT,0,none⟩)] 145)
 sts:0<A.N->w.heap[A.bS]?=some (.cells A.row 150)
 brs:∃br,w.heap[A.bB]?=some (.cells br 4)/\∀i,i<A.N->br[i]?=some (.bool (brk i))
 std:∀i,i<A.N->w.heap[A.st i]?=some (.cells #[.pointer (some ⟨A.bT,0,none⟩),.chan (some (A.pass i)),.bool (ov i)] 153)
 bk:∃cap k,w.heap[A.back]?=some (.chan cap #[] false k k false)
 ps:∀i,i<A.N->∃cap k,w.heap[A.pass i]?=some (.chan cap #[] false k k false)
structure Kept(A:OA)(Kc:Addr->Option Value):Prop where
 t:Kc ⟨A.bT,0,none⟩=some (.chan (some A.back))
 x:Kc ⟨A.bX,0,none⟩=some (.pointer (some ⟨A.bT,0,none⟩))
 p:∀i,i<A.N->Kc ⟨A.st i,1,none⟩=some (.chan (some (A.pass i)))
 only:∀a v,Kc a=some v->a=⟨A.bT,0,none⟩\/a=⟨A.bX,0,none⟩\/∃i,i<A.N/\a=⟨A.st i,1,none⟩
theorem OverW.own_lt {A:OA}{ov brk:Nat->Bool}{w:World}(h:OverW A ov brk w){b:Nat}(hb:A.own b):b<w.heap.size:=by
 rcases hb with rfl |⟨hN,rfl⟩|rfl |rfl |rfl |⟨i,hi,rfl |rfl⟩
 . exact zqi h.ts
 . exact zqi (h.sts hN)
 . obtain⟨br,h1,_⟩:=h.brs;exact zqi h1
 . exact zqi h.box
 . obtain⟨c,k,h1⟩:=h.bk;exact zqi h1
 . exact zqi (h.std i hi)
 . obtain⟨c,k,h1⟩:=h.ps i hi;exact zqi h1
theorem OverW.of_same {A:OA}{ov brk:Nat->Bool}{w w':World}(h:OverW A ov brk w)(hs:∀b,A.own b->w'.heap[b]?=w.heap[b]?):OverW A ov brk w':=by
 have o1:A.own A.bT:=.inl rfl;have o2:0<A.N->A.own A.bS:=λhN=>.inr (.inl ⟨hN,rfl⟩);have o3:A.own A.bB:=.inr (.inr (.inl rfl));have o4:A.own A.bX:=.inr (.inr (.inr (.inl rfl)));have o5:A.own A.back:=.inr (.inr (.inr (.inr (.inl rfl))));have o6:∀i,i<A.N->A.own (A.st i):=λi hi=>.inr (.inr (.inr (.inr (.inr ⟨i,hi,.inl rfl⟩))));have o7:∀i,i<A.N->A.own (A.pass i):=λi hi=>.inr (.inr (.inr (.inr (.inr ⟨i,hi,.inr rfl⟩))));obtain⟨br,b1,b2⟩:=h.brs;obtain⟨c,k,hk⟩:=h.bk;exact⟨(hs _ o1).trans h.ts,(hs _ o4).trans h.box,λhN=>(hs _ (o2 hN)).trans (h.sts hN),⟨br,(hs _ o3).trans b1,b2⟩,λi hi=>(hs _ (o6 i hi)).trans (h.std i hi),⟨c,k,(hs _ o5).trans hk⟩,
  λi hi=>by obtain⟨c,k,hk⟩:=h.ps i hi;exact⟨c,k,(hs _ (o7 i hi)).trans hk⟩⟩
theorem zq2j{w:World}{c cap k cap₀ k₀:Nat}(hck:w.heap[c]?=some (.chan cap₀ #[] false k₀ k₀ false)){b:Nat}{x:Array Value}{e:TypeId}{f:Nat×Nat}(hb:w.heap[b]?=some (.cells x e f)):
 (w.setChan c cap #[] false (k+1) (k+1) false).heap[b]?=some (.cells x e f):=by
 rw[zq3o _ _ _ _ _ _ _ _ _ (λe=>by subst e;rw[hck]at hb;cases hb)];exact hb
theorem zq8i{w:World}{c cap k cap₀ k₀:Nat}(hck:w.heap[c]?=some (.chan cap₀ #[] false k₀ k₀ false)){d:Nat}(hd:∃cap k,w.heap[d]?=some (.chan cap #[] false k k false)):
 ∃cap' k',(w.setChan c cap #[] false (k+1) (k+1) false).heap[d]?=some (.chan cap' #[] false k' k' false):=by
 by_cases e:d=c
 . subst e;refine⟨cap,k+1,?_⟩;show(w.heap.setIfInBounds d _)[d]?=_;rw[Array.getElem?_setIfInBounds_self_of_lt (zqi hck)]
 . obtain⟨a,b,h⟩:=hd;exact⟨a,b,by rw[zq3o _ _ _ _ _ _ _ _ _ e];exact h⟩
theorem OverW.chan {A:OA}{ov brk:Nat->Bool}{w:World}(h:OverW A ov brk w){c cap k:Nat}(hc:c=A.back\/∃i,i<A.N/\c=A.pass i):OverW A ov brk (w.setChan c cap #[] false (k+1) (k+1) false):=by
 obtain⟨cap₀,k₀,hck⟩:∃cap k,w.heap[c]?=some (.chan cap #[] false k k false):=by
  rcases hc with rfl |⟨i,hi,rfl⟩
  . exact h.bk
  . exact h.ps i hi
 obtain⟨br,b1,b2⟩:=h.brs;exact⟨zq2j hck h.ts,zq2j hck h.box,λhN=>zq2j hck (h.sts hN),⟨br,zq2j hck b1,b2⟩,λi hi=>zq2j hck (h.std i hi),zq8i hck h.bk,λi hi=>zq8i hck (h.ps i hi)⟩
theorem OverW.stepW {A:OA}{ov brk:Nat->Bool}{w:World}(h:OverW A ov brk w){i:Nat}(hi:i<A.N):StepW (A.st i) A.bT A.back (A.pass i) w:=
 ⟨(zq1 (h.std i hi)).trans rfl,(zq1 h.ts).trans rfl,(zq1 (h.std i hi)).trans rfl⟩
theorem OverW.tsS {A:OA}(hA:A.Ok){ov brk:Nat->Bool}{w:World}(h:OverW A ov brk w)(hN:0<A.N):w.heap[A.bT]?=some (.cells #[.chan (some A.back),.slice (some ⟨A.bS,0,none⟩) A.N A.cap,.slice (some ⟨A.bB,0,none⟩) A.N A.capB] 149):=by
 rw[<-hA.sp hN];exact h.ts
theorem OverW.tw {A:OA}(hA:A.Ok){ov brk:Nat->Bool}{w:World}(h:OverW A ov brk w){i:Nat}(hi:i<A.N):
 ∃br,TW A.bT A.bS A.bB A.N A.cap A.capB i (A.st i) A.back (A.pass i) A.row br (ov i) w/\∀j,j<A.N->br[j]?=some (.bool (brk j)):=by
 obtain⟨br,b1,b2⟩:=h.brs;exact⟨br,⟨h.tsS hA (by omega),h.sts (by omega),b1,h.std i hi,hi,hA.row i hi,⟨_,b2 i hi⟩⟩,b2⟩
def NEnd(ch:List PanicEntry):Prop:=∃r,ch=[{v:=r,recovered:=false}]/\∀w,(Instr.typeAssert r 20 158 true).run Try.prog w=.ok (.tuple #[.agg #[.nilIface],.bool false]) w
def TEnd(A:OA)(ch:List PanicEntry):Prop:=ch=[{v:=.iface 158 (.agg #[.iface 145 (.pointer (some ⟨A.bT,0,none⟩))]),recovered:=false}]
noncomputable def OA.cr (A:OA)(i:Nat):Frame:=zq2s (A.rb i) A.bT A.bS A.N A.cap i (A.st i) (A.tv i) [.inRegion ops4 [9],.code code5]
def OA.sx (A:OA)(i:Nat):Value:=.pointer (some ⟨A.st i,0,none⟩)
def OA.seat (A:OA)(i:Nat)(c:Frame)(cs:List Frame):Seat:=Seat.one (A.pass i) (.bool false) false (zq47 (A.st i) A.bT A.back (A.pass i) c cs)
section
variable {M:Type}
structure Cf(T:Thr M)(A:OA)(Kc:Addr->Option Value)(E:Nat->Option Obj)(k s:Nat)(ov brk:Nat->Bool)(m:M)(inb:Nat->Option Seat)(w:World):Prop where
 ow:OverW A ov brk w
 rep:T.Rep m w
 free:∀b,A.own b->¬T.foot m b
 le:s<=A.N
 run:∀i,i<s->ov i=false->RunW (A.rb i) A.bT i false w
 above:∀i b,i<s->A.own b->b<A.rb i
 boxes:∀i j,i<s->j<s->i≠j->A.rb i+3<=A.rb j\/A.rb j+3<=A.rb i
 boxfree:∀i b,i<s->A.box i b->¬T.foot m b
 boxlt:∀i b,i<s->A.box i b->b<w.heap.size
 seat:∀i,i<s->ov i=false->∃c cs,inb (A.n0+i)=some (A.seat i c cs)/\Susp Try.prog T 81 (A.sx i) (A.cr i) [bot] NEnd (TEnd A) i k c cs m
 gone:∀j,j≠0->(∀i,i<s->ov i=false->j≠A.n0+i)->inb j=none
 ext:∀b o,E b=some o->w.heap[b]?=some o
 extfree:∀b o,E b=some o->¬A.own b/\¬T.foot m b/\∀i,i<s->¬A.box i b
 lft:k<=T.left m
theorem Kept.lt {A:OA}{Kc:Addr->Option Value}(hK:Kept A Kc){ov brk:Nat->Bool}{w:World}(h:OverW A ov brk w):∀a v,Kc a=some v->a.block<w.heap.size:=by
 intro a v hv;rcases hK.only a v hv with rfl |rfl |⟨i,hi,rfl⟩
 . exact zqi h.ts
 . exact zqi h.box
 . exact zqi (h.std i hi)
theorem Kept.own {A:OA}{Kc:Addr->Option Value}(hK:Kept A Kc):∀a v,Kc a=some v->A.own a.block:=by
 intro a v hv;rcases hK.only a v hv with rfl |rfl |⟨i,hi,rfl⟩
 . exact .inl rfl
 . exact .inr (.inr (.inr (.inl rfl)))
 . exact .inr (.inr (.inr (.inr (.inr ⟨i,hi,.inl rfl⟩))))
theorem Kept.endIn {A:OA}(hA:A.Ok){Kc:Addr->Option Value}(hK:Kept A Kc){ov brk:Nat->Bool}{w:World}(h:OverW A ov brk w){i:Nat}(hi:i<A.N)(habove:∀b,A.own b->b<A.rb i):
 ∃br,EndIn Kc (A.rb i) A.bT A.bS A.bB A.N A.cap A.capB i (A.st i) A.back (A.pass i) A.row br (ov i) w/\∀j,j<A.N->br[j]?=some (.bool (brk j)):=by
 obtain⟨br,h1,h2⟩:=h.tw hA hi;have hs:=hA.st i hi;refine⟨br,⟨hK.lt h,h1,⟨habove _ (.inl rfl),habove _ (.inr (.inl ⟨by omega,rfl⟩)),habove _ (.inr (.inr (.inl rfl))),habove _ (.inr (.inr (.inr (.inr (.inr ⟨i,hi,.inl rfl⟩)))))⟩,
  ⟨hA.ne.2.1,hA.ne.2.2.1,hs.2.2.1,λe=>hs.1 e.symm,λe=>hs.2.1 e.symm⟩,λy hy=>?_,?_⟩,h2⟩
 . cases hky:Kc y with
   |none=>rfl
   |some v=>
    exfalso;rcases hK.only y v hky with rfl |rfl |⟨j,hj,rfl⟩
    . exact hA.ne.2.1 hy
    . exact hA.ne.2.2.2.2.2 hy
    . exact(hA.st j hj).2.2.1 hy
 . cases hky:Kc ⟨A.st i,2,none⟩with
   |none=>rfl
   |some v=>
    exfalso;rcases hK.only _ v hky with h|h|⟨j,hj,h⟩<;>(have:=congrArg Addr.off h;simp at this)
end
section
variable {M:Type}
structure Held(T:Thr M)(A:OA)(Kc:Addr->Option Value)(E:Nat->Option Obj)(k s i:Nat)(ov brk:Nat->Bool)(m:M)(inb:Nat->Option Seat)(w:World):Prop where
 ow:OverW A ov brk w
 rep:T.Rep m w
 free:∀b,A.own b->¬T.foot m b
 le:s<=A.N
 is:i<s
 ovi:ov i=false
 run:∀j,j<s->ov j=false->RunW (A.rb j) A.bT j false w
 above:∀j b,j<s->A.own b->b<A.rb j
 boxes:∀i j,i<s->j<s->i≠j->A.rb i+3<=A.rb j\/A.rb j+3<=A.rb i
 boxfree:∀i b,i<s->A.box i b->¬T.foot m b
 boxlt:∀i b,i<s->A.box i b->b<w.heap.size
 seat:∀j,j<s->j≠i->ov j=false->∃c cs,inb (A.n0+j)=some (A.seat j c cs)/\Susp Try.prog T 81 (A.sx j) (A.cr j) [bot] NEnd (TEnd A) j k c cs m
 gone:∀j,j≠0->j≠A.n0+i->(∀i,i<s->ov i=false->j≠A.n0+i)->inb j=none
 ext:∀b o,E b=some o->w.heap[b]?=some o
 extfree:∀b o,E b=some o->¬A.own b/\¬T.foot m b/\∀i,i<s->¬A.box i b
theorem RunW.of_same {n bT i:Nat}{whole:Bool}{w w':World}(h:RunW n bT i whole w)(h1:w'.heap[n]?=w.heap[n]?)(h2:w'.heap[n+1]?=w.heap[n+1]?)(h3:w'.heap[n+2]?=w.heap[n+2]?):RunW n bT i whole w':=
 ⟨h1.trans h.t,h2.trans h.i,h3.trans h.whole⟩
theorem Held.grow {T:Thr M}{A:OA}{Kc:Addr->Option Value}{E:Nat->Option Obj}{k s i:Nat}{ov brk:Nat->Bool}{m m':M}{inb:Nat->Option Seat}{w w':World}(h:Held T A Kc E k s i ov brk m inb w)(hg:Grow T m w m' w')(hr:T.Rep m' w')(hsame:∀j,j≠i->T.Same j m m'):Held T A Kc E k s i ov brk m' inb w':=by
 have hboxlt:=h.boxlt;have hown:∀b,A.own b->w'.heap[b]?=w.heap[b]?:=λb hb=>hg.old b (h.ow.own_lt hb) (h.free b hb);have hbox:∀j b,j<s->A.box j b->w'.heap[b]?=w.heap[b]?:=λj b hj hb=>hg.old b (hboxlt j b hj hb) (h.boxfree j b hj hb);refine⟨h.ow.of_same hown,hr,λb hb hf=>?_,h.le,h.is,h.ovi,λj hj ho=>?_,h.above,h.boxes,λj b hj hb hf=>?_,λj b hj hb=>Nat.lt_of_lt_of_le (hboxlt j b hj hb) hg.size,λj hj hne ho=>?_,h.gone,λb o hb=>?_,λb o hb=>?_⟩
 . rcases hg.grow b hf with x|x
   . exact h.free b hb x
   . have:=h.ow.own_lt hb;omega
 . exact(h.run j hj ho).of_same (hbox j _ hj (.inl rfl)) (hbox j _ hj (.inr (.inl rfl))) (hbox j _ hj (.inr (.inr rfl)))
 . rcases hg.grow b hf with x|x
   . exact h.boxfree j b hj hb x
   . have:=hboxlt j b hj hb;omega
 . obtain⟨c,cs,h1,h2⟩:=h.seat j hj hne ho;exact⟨c,cs,h1,h2.same (hsame j hne)⟩
 . have h1:=h.ext b o hb;rw[hg.old b (zqi h1) (h.extfree b o hb).2.1];exact h1
 . obtain⟨e1,e2,e3⟩:=h.extfree b o hb;refine⟨e1,λhf=>?_,e3⟩;rcases hg.grow b hf with x|x
   . exact e2 x
   . have:=zqi (h.ext b o hb);omega
theorem turn_yield{Fin:Machine->Trace->Prop}(hFin:Back Try.prog Fin){T:Thr M}{A:OA}(hA:A.Ok){Kc:Addr->Option Value}{E:Nat->Option Obj}(hK:Kept A Kc){k s i n:Nat}{ov brk:Nat->Bool}{m:M}{inb:Nat->Option Seat}{w:World}(h:Held T A Kc E k s i ov brk m inb w)(hn:0<n)
 {homeb:Goroutine->Prop} (h0:inb 0=some (Seat.one A.back (.agg #[]) false homeb)) {c:Frame} {cs:List Frame} (hS:Susp Try.prog T 81 (A.sx i) (A.cr i) [bot] NEnd (TEnd A) i k c cs m) (hl:k<=T.left m)
 (hmain:∀inb' w' g₂,Cf T A Kc E k s ov brk m inb' w'->homeb g₂->HoldR Try.prog Fin Kc inb' 0 n (Conc.served g₂ (.agg #[])) w'):
 HoldR Try.prog Fin Kc inb (A.n0+i) n (G (Frame.enter Try.prog 81 #[A.sx i] .normal) (c::cs)) w:=by
 have hiN:i<A.N:=Nat.lt_of_lt_of_le h.is h.le;have hn0:=hA.n0;refine zqhd hFin (h.ow.stepW hiN) (by omega) hn h0 (hK.p i hiN) (λj s' hj hs' hh=>?_) (h.ow.ps i hiN) ?_
 . by_cases hj0:j=0
   . subst hj0;rw[h0]at hs';cases hs';rw[Seat.one_has]at hh;exact hA.pb i hiN hh
   . by_cases hex:∃i',i'<s/\ov i'=false/\j=A.n0+i'
     . obtain⟨i',h1,h2,rfl⟩:=hex;obtain⟨c',cs',h3,_⟩:=h.seat i' h1 (λe=>hj (by rw[e])) h2;rw[h3]at hs';cases hs';unfold OA.seat at hh;rw[Seat.one_has]at hh;have:=hA.injp i i' hiN (Nat.lt_of_lt_of_le h1 h.le) hh;exact hj (by rw[this])
     . have:=h.gone j hj0 hj (λi' h1 h2 e=>hex ⟨i',h1,h2,e⟩);rw[this]at hs';cases hs'
 . intro g₂ kk cap hg hck;refine hmain _ _ g₂ ?_ hg;have hne:∀(b:Nat),(∃x e f,w.heap[b]?=some (Obj.cells x e f))->(w.setChan A.back cap #[] false (kk+1) (kk+1) false).heap[b]?=w.heap[b]?:=by
    rintro b ⟨x,e,f,hb⟩;rw[hb];exact zq2j hck hb
   have hnb:∀b,b≠A.back->(w.setChan A.back cap #[] false (kk+1) (kk+1) false).heap[b]?=w.heap[b]?:=λb hb=>zq3o _ _ _ _ _ _ _ _ _ hb;refine⟨h.ow.chan (.inl rfl),T.frame _ _ _ h.rep (λb hb=>hnb b (λe=>h.free b (by subst e;exact .inr (.inr (.inr (.inr (.inl rfl))))) hb)),h.free,h.le,λj hj ho=>?_,h.above,h.boxes,h.boxfree,λj b hj hb=>by rw[Car.size_setChan];exact h.boxlt j b hj hb,λj hj ho=>?_,λj hj hall=>?_,λb o hb=>?_,h.extfree,hl⟩
   . have r:=h.run j hj ho;exact r.of_same (hne _ ⟨_,_,_,r.t⟩) (hne _ ⟨_,_,_,r.i⟩) (hne _ ⟨_,_,_,r.whole⟩)
   . by_cases hji:j=i
     . subst hji;exact⟨c,cs,by rw[upd_same];rfl,hS⟩
     . obtain⟨c',cs',h1,h2⟩:=h.seat j hj hji ho;exact⟨c',cs',by rw[upd_ne _ _ (by omega)];exact h1,h2⟩
   . by_cases hji:j=A.n0+i
     . exact absurd hji (hall i h.is h.ovi)
     . rw[upd_ne _ _ hji];exact h.gone j hj hji hall
   . rw[hnb b (λe=>(h.extfree b o hb).1 (by subst e;exact .inr (.inr (.inr (.inr (.inl rfl))))))];exact h.ext b o hb
end
section
variable {M:Type}
theorem turn_sent{Fin:Machine->Trace->Prop}(hFin:Back Try.prog Fin){T:Thr M}{A:OA}(hA:A.Ok){Kc:Addr->Option Value}{E:Nat->Option Obj}(hK:Kept A Kc){k s i n:Nat}{ov brk:Nat->Bool}{m:M}{inb:Nat->Option Seat}{w w':World}(h:Held T A Kc E k s i ov brk m inb w)(hn:0<n)
 {homeb:Goroutine->Prop} (h0:inb 0=some (Seat.one A.back (.agg #[]) false homeb)) {X:Array Value} {c:Frame} (hc:zq20 c) (hX1:X[41]?=some (.chan (some A.back))) (hX2:X[42]?=some (.agg #[]))
 {br:Array Value} (hbr:w.heap[A.bB]?=some (.cells br 4)) (hbr':∀j,j<A.N->br[j]?=some (.bool (brk j))) (x:Bool)
 (hsz:w.heap.size<=w'.heap.size) (hold:∀b,b<w.heap.size->b≠A.bB->b≠A.st i->b≠A.rb i+2->w'.heap[b]?=w.heap[b]?)
 (hst:w'.heap[A.st i]?=some (.cells #[.pointer (some ⟨A.bT,0,none⟩),.chan (some (A.pass i)),.bool true] 153)) (hbB:w'.heap[A.bB]?=some (.cells (br.setIfInBounds i (.bool x)) 4)) (hl:k<=T.left m)
 (hmain:∀inb' w'' g₂,Cf T A Kc E k s (λj=>if j=i then true else ov j) (λj=>if j=i then x else brk j) m inb' w''->homeb g₂->HoldR Try.prog Fin Kc inb' 0 n (Conc.served g₂ (.agg #[])) w''):
 HoldR Try.prog Fin Kc inb (A.n0+i) n (G (zq1z X) [c,bot]) w':=by
 have hiN:i<A.N:=Nat.lt_of_lt_of_le h.is h.le;have hn0:=hA.n0;have hab:=h.above i;have own':∀b,A.own b->b≠A.bB->b≠A.st i->w'.heap[b]?=w.heap[b]?:=λb hb h1 h2=>hold b (h.ow.own_lt hb) h1 h2 (by have:=hab b h.is hb;omega);have hstA:=hA.st i hiN;have ow':OverW A (λj=>if j=i then true else ov j) (λj=>if j=i then x else brk j) w':=by
  refine⟨(own' _ (.inl rfl) hA.ne.2.1 hstA.1.symm).trans h.ow.ts,(own' _ (.inr (.inr (.inr (.inl rfl)))) hA.ne.2.2.2.2.2 hstA.2.2.2.symm).trans h.ow.box,λhN=>(own' _ (.inr (.inl ⟨hN,rfl⟩)) hA.ne.2.2.1 hstA.2.1.symm).trans (h.ow.sts hN),
   ⟨_,hbB,λj hj=>?_⟩,λj hj=>?_,?_,λj hj=>?_⟩
  . have hlt:j<br.size:=(Array.getElem?_eq_some_iff.1 (hbr' j hj)).1
    by_cases hji:j=i
    . subst hji;simp[hlt]
    . simp only[hji,if_false];rw[al_gn (λe=>hji e.symm)];exact hbr' j hj
  . by_cases hji:j=i
    . subst hji;simpa using hst
    . simp only[hji,if_false];exact(own' _ (.inr (.inr (.inr (.inr (.inr ⟨j,hj,.inl rfl⟩))))) (hA.st j hj).2.2.1 (λe=>hji (hA.inj j i hj hiN e))).trans (h.ow.std j hj)
  . obtain⟨a,b,hb⟩:=h.ow.bk;refine⟨a,b,(own' _ (.inr (.inr (.inr (.inr (.inl rfl))))) (λe=>?_) (λe=>?_)).trans hb⟩
    . rw[e,hbr]at hb;cases hb
    . rw[e,h.ow.std i hiN]at hb;cases hb
  . obtain⟨a,b,hb⟩:=h.ow.ps j hj;refine⟨a,b,(own' _ (.inr (.inr (.inr (.inr (.inr ⟨j,hj,.inr rfl⟩))))) (λe=>?_) (λe=>?_)).trans hb⟩
    . rw[e,hbr]at hb;cases hb
    . rw[e,h.ow.std i hiN]at hb;cases hb
 refine zqef hFin (by omega) hn h0 hX1 hX2 hc ?_;intro g₂ kk cap hg hck;refine hmain _ _ g₂ ?_ hg;have hne:∀(b:Nat),(∃x e f,w'.heap[b]?=some (Obj.cells x e f))->(w'.setChan A.back cap #[] false (kk+1) (kk+1) false).heap[b]?=w'.heap[b]?:=by
  rintro b ⟨x,e,f,hb⟩;rw[hb];exact zq2j hck hb
 have hnb:∀b,b≠A.back->(w'.setChan A.back cap #[] false (kk+1) (kk+1) false).heap[b]?=w'.heap[b]?:=λb hb=>zq3o _ _ _ _ _ _ _ _ _ hb;have oback:A.own A.back:=.inr (.inr (.inr (.inr (.inl rfl))));have obB:A.own A.bB:=.inr (.inr (.inl rfl));have ost:A.own (A.st i):=.inr (.inr (.inr (.inr (.inr ⟨i,hiN,.inl rfl⟩))));refine⟨ow'.chan (.inl rfl),T.frame _ _ _ h.rep (λb hb=>(hnb b (λe=>h.free b (e▸oback) hb)).trans (hold b (T.lt _ _ _ h.rep hb) (λe=>h.free b (e▸obB) hb) (λe=>h.free b (e▸ost) hb) (λe=>h.boxfree i b h.is (.inr (.inr e)) hb))),
  h.free,h.le,λj hj ho=>?_,h.above,h.boxes,h.boxfree,λj b hj hb=>by rw[Car.size_setChan];exact Nat.lt_of_lt_of_le (h.boxlt j b hj hb) hsz,λj hj ho=>?_,λj hj hall=>?_,λb o hb=>?_,h.extfree,hl⟩
 . have hji:j≠i:=λe=>by subst e;simp at ho
   simp only[hji,if_false]at ho;have r:=h.run j hj ho;have hbx:=h.boxes i j h.is hj (λe=>hji e.symm);have hlt:∀b,A.box j b->w'.heap[b]?=w.heap[b]?:=λb hb=>by
    have h1:=h.above j A.bB hj obB;have h2:=h.above j (A.st i) hj ost;have hb':b=A.rb j\/b=A.rb j+1\/b=A.rb j+2:=hb;exact hold b (h.boxlt j b hj hb) (by omega) (by omega) (by omega)
   have r':=r.of_same (hlt _ (.inl rfl)) (hlt _ (.inr (.inl rfl))) (hlt _ (.inr (.inr rfl)));exact r'.of_same (hne _ ⟨_,_,_,r'.t⟩) (hne _ ⟨_,_,_,r'.i⟩) (hne _ ⟨_,_,_,r'.whole⟩)
 . have hji:j≠i:=λe=>by subst e;simp at ho
   simp only[hji,if_false]at ho;obtain⟨c',cs',h1,h2⟩:=h.seat j hj hji ho;exact⟨c',cs',by rw[upd_ne _ _ (by omega)];exact h1,h2⟩
 . by_cases hji:j=A.n0+i
   . rw[hji,upd_same]
   . rw[upd_ne _ _ hji];refine h.gone j hj hji λi' h1 h2=>?_
     by_cases hii:i'=i
     . subst hii;exact hji
     . exact hall i' h1 (by simp[hii,h2])
 . obtain⟨e1,e2,e3⟩:=h.extfree b o hb;have h1:=h.ext b o hb;rw[hnb b (λe=>e1 (e▸oback)),hold b (zqi h1) (λe=>e1 (e▸obB)) (λe=>e1 (e▸ost)) (λe=>e3 i h.is (.inr (.inr e)))];exact h1
end
section
variable {M:Type}
theorem zq3p{Fin:Machine->Trace->Prop}(hFin:Back Try.prog Fin)(Kc:Addr->Option Value)(inb:Nat->Option Seat)(j n:Nat)(hj:0<j):JX Try.prog Kc (HoldR Try.prog Fin Kc inb j n):=by
 have:=zq35 hFin Kc inb j n;have e:(j==0)=false:=by simp;omega
 rw[e]at this;exact this
theorem turn_conts{Fin:Machine->Trace->Prop}(hFin:Back Try.prog Fin){T:Thr M}{A:OA}(hA:A.Ok){Kc:Addr->Option Value}{E:Nat->Option Obj}(hK:Kept A Kc){k s i n:Nat}{ov brk:Nat->Bool}{m:M}{inb:Nat->Option Seat}{w:World}{R:M->Out M->Prop}(h:Held T A Kc E k s i ov brk m inb w)(hn:0<n)
 {homeb:Goroutine->Prop} (h0:inb 0=some (Seat.one A.back (.agg #[]) false homeb)) (hsame:∀o,R m o->∀j,j≠i->T.Same j m o.mem) {l:Nat} (hkl:k<=l)
 (hmain:∀m' ov' brk' inb' w' g₂,zq1m R i m ov brk m' ov' brk'->Cf T A Kc E k s ov' brk' m' inb' w'->homeb g₂->HoldR Try.prog Fin Kc inb' 0 n (Conc.served g₂ (.agg #[])) w'):
 Conts Try.prog T 81 (A.sx i) (A.cr i) [bot] NEnd (Susp Try.prog T 81 (A.sx i) (A.cr i) [bot] NEnd (TEnd A) i k) R l (HoldR Try.prog Fin Kc inb (A.n0+i) n) m w:=by
 have hiN:i<A.N:=Nat.lt_of_lt_of_le h.is h.le;have hn0:=hA.n0;have hJ:=zq3p hFin Kc inb (A.n0+i) n (by omega);have hKn:∀y:Addr,y.block=A.rb i+2->Kc y=none:=λy hy=>by
  cases hky:Kc y with
  |none=>rfl
  |some v=>have:=h.above i _ h.is (hK.own y v hky);omega
 refine⟨λm' c cs w' hR hg hr hl hS=>?_,λm' v w' hR hg hr hl=>?_,λm' ch w' hR hch hg hr hl=>?_⟩
 . exact turn_yield hFin hA hK (h.grow hg hr (hsame _ hR)) hn h0 hS (Nat.le_trans hkl hl) λinb' w'' g₂ hc hh=>hmain _ _ _ _ _ _ (.yield m' hR) hc hh
 . have h':=h.grow hg hr (hsame _ hR);obtain⟨br,hE,hbr⟩:=hK.endIn hA h'.ow hiN (λb hb=>h.above i b h.is hb);refine run_back hJ (h'.run i h.is h.ovi) hE hKn λX c w'' hc hX1 hX2 hsz hold hst hbB=>?_;exact turn_sent hFin hA hK h' hn h0 hc hX1 hX2 hE.tw.brs hbr false hsz hold hst hbB (Nat.le_trans hkl hl) λinb' w3 g₂ hc hh=>hmain _ _ _ _ _ _ (.done m' hR) hc hh
 . obtain⟨r,rfl,hassert⟩:=hch;have h':=h.grow hg hr (hsame _ hR);obtain⟨br,hE,hbr⟩:=hK.endIn hA h'.ow hiN (λb hb=>h.above i b h.is hb);refine zq8d hJ (ok:=false) hassert (.inl ⟨rfl,rfl⟩) (h'.run i h.is h.ovi) hE λX c w'' hc hX1 hX2 ho=>?_;exact turn_sent hFin hA hK h' hn h0 hc hX1 hX2 hE.tw.brs hbr true ho.size (λb hb h1 h2 _=>ho.old b hb h1 h2) ho.std ho.brs (Nat.le_trans hkl hl) λinb' w3 g₂ hc hh=>hmain _ _ _ _ _ _ (.broke m' hR) hc hh
end
section
variable {M:Type}
theorem zqhj{P:Program}{T:Thr M}{fStep:FuncId}{sx:Value}{cr:Frame}{rest:List Frame}{NE EN:List PanicEntry->Prop}{i:Nat}:∀(k:Nat)(c:Frame)(cs:List Frame)(m:M),Susp P T fStep sx cr rest NE EN i (k+1) c cs m->Susp P T fStep sx cr rest NE EN i k c cs m:=by
 intro k
 induction k with
 |zero=>exact λ_ _ _ _=>trivial
 |succ k ih=>
  intro c cs m h Kc X J m₁ w hJ hs hr hl;obtain⟨h1,h2⟩:=h Kc X J m₁ w hJ hs hr hl;exact⟨λhc=>h1 ⟨λm' c cs w' a b d f e=>hc.yield m' c cs w' a b d f (ih _ _ _ e),hc.done,hc.broke⟩,h2⟩
theorem zq10{Fin:Machine->Trace->Prop}(hFin:Back Try.prog Fin)(Kc:Addr->Option Value)(inb:Nat->Option Seat)(n:Nat):JM Try.prog Kc (HoldR Try.prog Fin Kc inb 0 n):=zq35 hFin Kc inb 0 n
theorem Cf.fresh {T:Thr M}{A:OA}(hA:A.Ok){Kc:Addr->Option Value}{E:Nat->Option Obj}{k s:Nat}{ov brk:Nat->Bool}{m:M}{inb:Nat->Option Seat}{w:World}(h:Cf T A Kc E k s ov brk m inb w):∀i s',i≠0->inb i=some s'->¬s'.has A.back:=by
 intro j s' hj hs' hh
 by_cases hex:∃i',i'<s/\ov i'=false/\j=A.n0+i'
 . obtain⟨i',h1,h2,rfl⟩:=hex;obtain⟨c',cs',h3,_⟩:=h.seat i' h1 h2;rw[h3]at hs';cases hs';unfold OA.seat at hh;rw[Seat.one_has]at hh;exact hA.pb i' (Nat.lt_of_lt_of_le h1 h.le) hh.symm
 . have:=h.gone j hj (λi' h1 h2 e=>hex ⟨i',h1,h2,e⟩);rw[this]at hs';cases hs'
theorem Cf.held {T:Thr M}{A:OA}(hA:A.Ok){Kc:Addr->Option Value}{E:Nat->Option Obj}{k s i:Nat}{ov brk:Nat->Bool}{m:M}{inb:Nat->Option Seat}{w:World}(h:Cf T A Kc E (k+1) s ov brk m inb w)(hi:i<s)(ho:ov i=false)(s0:Seat){cap kk:Nat}:
 Held T A Kc E k s i ov brk m (upd inb 0 (some s0)) (w.setChan (A.pass i) cap #[] false (kk+1) (kk+1) false):=by
 have hiN:i<A.N:=Nat.lt_of_lt_of_le hi h.le;have hn0:=hA.n0;obtain⟨cap₀,k₀,hck⟩:=h.ow.ps i hiN;have hne:∀(b:Nat),(∃x e f,w.heap[b]?=some (Obj.cells x e f))->(w.setChan (A.pass i) cap #[] false (kk+1) (kk+1) false).heap[b]?=w.heap[b]?:=by
  rintro b ⟨x,e,f,hb⟩;rw[hb];exact zq2j hck hb
 have hnb:∀b,b≠A.pass i->(w.setChan (A.pass i) cap #[] false (kk+1) (kk+1) false).heap[b]?=w.heap[b]?:=λb hb=>zq3o _ _ _ _ _ _ _ _ _ hb;have op:A.own (A.pass i):=.inr (.inr (.inr (.inr (.inr ⟨i,hiN,.inr rfl⟩))));refine⟨h.ow.chan (.inr ⟨i,hiN,rfl⟩),T.frame _ _ _ h.rep (λb hb=>hnb b (λe=>h.free b (e▸op) hb)),h.free,h.le,hi,ho,λj hj ho=>?_,h.above,h.boxes,h.boxfree,λj b hj hb=>by rw[Car.size_setChan];exact h.boxlt j b hj hb,λj hj hji ho=>?_,λj hj _ hall=>?_,λb o hb=>?_,h.extfree⟩
 . have r:=h.run j hj ho;exact r.of_same (hne _ ⟨_,_,_,r.t⟩) (hne _ ⟨_,_,_,r.i⟩) (hne _ ⟨_,_,_,r.whole⟩)
 . obtain⟨c',cs',h1,h2⟩:=h.seat j hj ho;exact⟨c',cs',by rw[upd_ne _ _ (by omega)];exact h1,zqhj _ _ _ _ h2⟩
 . rw[upd_ne _ _ hj];exact h.gone j hj hall
 . rw[hnb b (λe=>(h.extfree b o hb).1 (e▸op))];exact h.ext b o hb
open Classical in
noncomputable def snapA(A:OA)(w:World):Snap:=λb=>if A.own b then(match w.heap[b]? with|some (.cells c e (0,0))=>some (c,e)|_=>none)else none
theorem zq8j{A:OA}{w:World}{b:Nat}{x:Array Value×TypeId}(h:snapA A w b=some x):A.own b/\w.heap[b]?=some (.cells x.1 x.2):=by
 unfold snapA at h;split at h
 . rename_i ho;split at h
   . cases h;exact⟨ho,‹_›⟩
   . cases h
 . cases h
theorem zq5y{A:OA}{w:World}{b:Nat}{c:Array Value}{e:TypeId}(ho:A.own b)(h:w.heap[b]?=some (.cells c e)):snapA A w b=some (c,e):=by
 unfold snapA;rw[if_pos ho,h];rfl
theorem env_of{Fin:Machine->Trace->Prop}(hFin:Back Try.prog Fin){T:Thr M}{A:OA}{Kc:Addr->Option Value}(hK:Kept A Kc){ov brk:Nat->Bool}{m:M}{inb:Nat->Option Seat}{j n:Nat}{w:World}(hj:0<j)(how:OverW A ov brk w)(hfree:∀b,A.own b->¬T.foot m b):
 Env Try.prog T Kc (snapA A w) (HoldR Try.prog Fin Kc inb j n) m w:=by
 have hkept:∀a v,Kc a=some v->∃c e,snapA A w a.block=some (c,e):=by
  intro a v hv;rcases hK.only a v hv with rfl |rfl |⟨i,hi,rfl⟩
  . exact⟨_,_,zq5y (.inl rfl) how.ts⟩
  . exact⟨_,_,zq5y (.inr (.inr (.inr (.inl rfl)))) how.box⟩
  . exact⟨_,_,zq5y (.inr (.inr (.inr (.inr (.inr ⟨i,hi,.inl rfl⟩))))) (how.std i hi)⟩
 refine⟨zq3p hFin Kc inb j n hj,?_,λb c e hb=>(zq8j hb).2,hkept,λb x hb=>hfree b (zq8j hb).1⟩;have:=zqcl hFin (Kc:=Kc) (Inb:=inb) (h:=j) (n:=n) (X:=snapA A w) hkept;have e:(j==0)=false:=by simp;omega
 rw[e]at this;exact this
theorem let_turn{Fin:Machine->Trace->Prop}(hFin:Back Try.prog Fin){T:Thr M}{A:OA}(hA:A.Ok){Kc:Addr->Option Value}{E:Nat->Option Obj}(hK:Kept A Kc){k s i n:Nat}{ov brk:Nat->Bool}{m:M}{inb:Nat->Option Seat}{w:World}{c:Frame}{cs:List Frame}
 (h:Cf T A Kc E (k+1) s ov brk m inb w) (hi:i<s) (ho:ov i=false) (hn:A.n0+s<=n)
 (hmain:∀m' ov' brk' inb' w',zq1m (T.Go i) i m ov brk m' ov' brk'->Cf T A Kc E k s ov' brk' m' inb' w'->HoldR Try.prog Fin Kc inb' 0 n (G (c.finish (.tuple #[])) cs) w'):
 HoldR Try.prog Fin Kc inb 0 n (G (Frame.enter Try.prog 62 #[.pointer (some ⟨A.bT,0,none⟩),.int .i64 i,.bool true] .normal) (c::cs)) w:=by
 have hiN:i<A.N:=Nat.lt_of_lt_of_le hi h.le;have hn0:=hA.n0;obtain⟨c₁,cs₁,hseat,hS⟩:=h.seat i hi ho;refine zq7s hFin ((zq1 (h.ow.tsS hA (by omega))).trans rfl) hiN ((zq1 (h.ow.sts (by omega))).trans (hA.row i hiN)) ((zq1 (h.ow.std i hiN)).trans rfl) (by omega) (by omega) hseat hK.t (h.fresh hA) h.ow.bk ?_;intro g₂ kk cap hg hck;have hH:=h.held hA hi ho (Seat.one A.back (.agg #[]) false (AtLet c cs)) (cap:=cap) (kk:=kk);have hJ:=zq3p hFin Kc (upd inb 0 (some (Seat.one A.back (.agg #[]) false (AtLet c cs)))) (A.n0+i) n (by omega);refine hg true Kc _ hJ _ (hH.ow.stepW hiN) ?_;simp only[if_true];refine(hS Kc _ _ m _ (env_of hFin hK (by omega) hH.ow hH.free) (T.refl i m) hH.rep (by have:=h.lft;omega)).1 ?_;refine turn_conts hFin hA hK hH (by omega) (upd_same _ _ _) (λo hR j hj=>T.go_same j i m o hj hR) (by have:=h.lft;omega) ?_;intro m' ov' brk' inb' w' g₃ hT hC hh;exact hh Kc _ (zq10 hFin Kc inb' n) w' (hmain m' ov' brk' inb' w' hT hC)
end
section
variable {M:Type}
theorem set_same{br:Array Value}{i:Nat}{x:Value}(h:br[i]?=some x):br.setIfInBounds i x=br:=by
 apply Array.ext_getElem?;intro j
 by_cases e:i=j
 . subst e;have hlt:=(Array.getElem?_eq_some_iff.1 h).1;rw[Array.getElem?_setIfInBounds_self_of_lt hlt,h]
 . rw[al_gn e]
theorem let_kill{Fin:Machine->Trace->Prop}(hFin:Back Try.prog Fin){T:Thr M}{A:OA}(hA:A.Ok){Kc:Addr->Option Value}{E:Nat->Option Obj}(hK:Kept A Kc){k s i n:Nat}{ov brk:Nat->Bool}{m:M}{inb:Nat->Option Seat}{w:World}{c:Frame}{cs:List Frame}
 (h:Cf T A Kc E (k+1) s ov brk m inb w) (hi:i<s) (ho:ov i=false) (hn:A.n0+s<=n)
 (hmain:∀m' inb' w',T.Kill i m m'->Cf T A Kc E k s (λj=>if j=i then true else ov j) brk m' inb' w'->HoldR Try.prog Fin Kc inb' 0 n (G (c.finish (.tuple #[])) cs) w'):
 HoldR Try.prog Fin Kc inb 0 n (G (Frame.enter Try.prog 62 #[.pointer (some ⟨A.bT,0,none⟩),.int .i64 i,.bool false] .normal) (c::cs)) w:=by
 have hiN:i<A.N:=Nat.lt_of_lt_of_le hi h.le;have hn0:=hA.n0;obtain⟨c₁,cs₁,hseat,hS⟩:=h.seat i hi ho;refine zq7s hFin ((zq1 (h.ow.tsS hA (by omega))).trans rfl) hiN ((zq1 (h.ow.sts (by omega))).trans (hA.row i hiN)) ((zq1 (h.ow.std i hiN)).trans rfl) (by omega) (by omega) hseat hK.t (h.fresh hA) h.ow.bk ?_;intro g₂ kk cap hg hck;have hH:=h.held hA hi ho (Seat.one A.back (.agg #[]) false (AtLet c cs)) (cap:=cap) (kk:=kk);have hJ:=zq3p hFin Kc (upd inb 0 (some (Seat.one A.back (.agg #[]) false (AtLet c cs)))) (A.n0+i) n (by omega);refine hg false Kc _ hJ _ (hH.ow.stepW hiN) ?_;simp only[Bool.false_eq_true,if_false];refine(hS Kc _ _ m _ (env_of hFin hK (by omega) hH.ow hH.free) (T.refl i m) hH.rep (by have:=h.lft;omega)).2 _ rfl ?_;intro m' ch' w' hch hkill hgr hr hll;have hch':ch'=[{v:=.iface 158 (.agg #[.iface 145 (.pointer (some ⟨A.bT,0,none⟩))]),recovered:=false}]:=hch;subst hch';have h':=hH.grow hgr hr (λj hj=>T.kill_same j i m m' hj hkill);obtain⟨br,hE,hbr⟩:=hK.endIn hA h'.ow hiN (λb hb=>h.above i b hi hb);refine zq8d hJ (ok:=true) (zqaz _) (.inr ⟨rfl,rfl⟩) (h'.run i hi ho) hE λX c₂ w'' hc hX1 hX2 hout=>?_;refine turn_sent hFin hA hK h' (by omega) (upd_same _ _ _) hc hX1 hX2 hE.tw.brs hbr (brk i) hout.size (λb hb h1 h2 _=>hout.old b hb h1 h2) hout.std (by rw[set_same (hbr i hiN)];exact hout.brs) (by have:=h.lft;omega) λinb' w3 g₃ hC hh=>?_;have e:(λj=>if j=i then brk i else brk j)=brk:=by funext j;by_cases hj:j=i<;>simp[hj]
 rw[e]at hC;exact hh Kc _ (zq10 hFin Kc inb' n) w3 (hmain m' inb' w3 hkill hC)
end
def AtRecv(b:Frame)(a:Act)(k:List Item)(cs:List Frame)(g:Goroutine):Prop:=
 ∀(Kc:Addr->Option Value)(J:Goroutine->World->Prop),JM Try.prog Kc J->∀w,(∀T:Array Value,T.size=a.tmps.size->(∀t,t<50\/61<=t->T[t]?=a.tmps[t]?)->J (G (b.at ⟨T,a.defers⟩ k) cs) w)->J (Conc.served g (.agg #[])) w
noncomputable def r12:Code:=match Try.f54.body with|some (.seq _ (.seq _ (.seq _ (.seq _ (.seq _ (.seq _ (.seq (.seq _ (.block _ (.loop (.seq _ (.seq _ (.seq (.block _ (.seq _ (.seq c _))) _)))))) _)))))))=>c|_=>.skip
noncomputable def r13:Code:=match Try.f54.body with|some (.seq _ (.seq _ (.seq _ (.seq _ (.seq _ (.seq _ (.seq (.seq _ (.block _ (.loop (.seq _ (.seq _ (.seq (.block _ (.seq _ (.seq _ (.seq c _)))) _)))))) _)))))))=>c|_=>.skip
theorem go_at{Kc:Addr->Option Value}{J:Goroutine->World->Prop}(hJ:JM Try.prog Kc J){b:Frame}(hb:b.kind≠.early){a:Act}{k:List Item}{cs:List Frame}{w:World}{bX bT tb i L C:Nat}{tv:Value}
 (hsz:a.tmps.size=129) (t0:a.tmps[0]?=some (.slice (some ⟨tb,0,none⟩) L C)) (t10:a.tmps[10]?=some (.pointer (some ⟨bX,0,none⟩))) (t12:a.tmps[12]?=some (.int .i64 i)) (hi:i<L)
 (hx:w.cell? ⟨bX,0,none⟩=some (.pointer (some ⟨bT,0,none⟩))) (hv:w.cell? ⟨tb,i,none⟩=some tv)
 (hnext:∀T:Array Value,T.size=129->(∀t,t<50\/56<=t->T[t]?=a.tmps[t]?)->T[50]?=some (.pointer (some ⟨bT,0,none⟩))->T[51]?=some (.int .i64 i)->T[55]?=some tv->
  J (G (b.at ⟨T,a.defers⟩ (.inRegion (match r12 with|.region _ ops _=>ops|_=>#[]) [6]::k)) cs) w):J (G (b.at a (.code r12::k)) cs) w:=by
 simp only[r12,Try.f54]at hnext |-;refine zq4c (J:=λ(_:Unit)=>J) (s:=()) hJ hb (by rfl) [.pointer (some ⟨bT,0,none⟩),.int .i64 i,.slice (some ⟨tb,0,none⟩) L C,.int .i64 i,.pointer (some ⟨tb,i,none⟩),tv] (by rw[hsz];kernel_rfl) ?_ ?_
 . intro τ d;have hi':(i:Int)<L:=by omega
   have hi0:(0:Int)<=i:=by omega
   simp only[evals,putv,dstOf,al_gl,al_g0,al_g1,al_ob];refine⟨?_,?_,?_,?_,?_,?_,trivial⟩<;>(intro o ho;simp only[al_oi]at ho;subst ho)
   all_goals(simp only[execOp,Act.eval,al_gd])
   all_goals(simp only[al_gs,al_gz,hsz,t0,t10,t12,Nat.reduceEqDiff,Nat.reduceLT,↓reduceIte,al_od])
   all_goals(try go_simp)
 . simp only[putv,dstOf,al_gl,al_g0,al_g1,al_ob,List.length_cons,List.length_nil,Nat.reduceAdd,Nat.zero_add];exact hnext _ (by simp[hsz]) (λt ht=>by simp only[al_gs];repeat (first|rw[if_neg (by omega)]|rfl))
    (by simp[al_gs,hsz]) (by simp[al_gs,hsz]) (by simp[al_gs,hsz])
theorem go_hires{Fin:Machine->Trace->Prop}(hFin:Back Try.prog Fin){Kc:Addr->Option Value}{Inb:Nat->Option Seat}{n bX bT back i:Nat}{tv:Value}{b:Frame}(hb:b.kind≠.early){T:Array Value}{ds:List Deferred}{rest:Code}{k:List Item}{cs:List Frame}{w:World}
 (hsz:T.size=129) (t10:T[10]?=some (.pointer (some ⟨bX,0,none⟩))) (t50:T[50]?=some (.pointer (some ⟨bT,0,none⟩))) (t51:T[51]?=some (.int .i64 i)) (t55:T[55]?=some tv) (hn:0<n) (hnone:Inb n=none)
 (hKx:Kc ⟨bX,0,none⟩=some (.pointer (some ⟨bT,0,none⟩))) (hKb:Kc ⟨bT,0,none⟩=some (.chan (some back))) (hfresh:∀i s,i≠0->Inb i=some s->¬s.has back) (hback:∃cap k,w.heap[back]?=some (.chan cap #[] false k k false))
 (hnext:HoldR Try.prog Fin Kc (upd Inb 0 (some (Seat.one back (.agg #[]) false (AtRecv b ⟨T,ds⟩ (.code rest::k) cs)))) n (n+1) (born Try.prog (zq2n bT i tv)) w):
 HoldR Try.prog Fin Kc Inb 0 n (G (b.at ⟨T,ds⟩ (.inRegion (match r12 with|.region _ ops _=>ops|_=>#[]) [6]::.code (.seq r13 rest)::k)) cs) w:=by
 simp only[r12,r13,Try.f54];refine zqcj hFin rfl (spawn_at (d:=zq2n bT i tv) (f:=.func 60) (c:=#[]) rfl rfl hb (λw=>?_) rfl (λw=>?_) w) (by simp) hnone (by omega)
  (.sits back (.agg #[]) false _ hfresh hback ⟨bX+bT+1,12,.inl ⟨11,w,rfl,?_⟩⟩) hnext
 . simp[execOp,Act.eval,resolve,Deferred.ofValue,zq2n,al_gd,t50,t51,t55,go_sem]
 . simp[execOp,Act.eval,resolve,Deferred.ofValue,go_sem]
 . clear hnext;change Goes _ _ _ _ _ _ (G (b.at ⟨T,ds⟩ _) cs) w;have s1:(T.setIfInBounds 56 (Value.pointer (some ⟨bT,0,none⟩)))[56]?=some (Value.pointer (some ⟨bT,0,none⟩)):=by simp[hsz]
   have s2:((T.setIfInBounds 56 (Value.pointer (some ⟨bT,0,none⟩))).setIfInBounds 57 (Value.pointer (some ⟨bT,0,none⟩)))[57]?=some (Value.pointer (some ⟨bT,0,none⟩)):=by simp[hsz]
   have s3:(((T.setIfInBounds 56 (Value.pointer (some ⟨bT,0,none⟩))).setIfInBounds 57 (Value.pointer (some ⟨bT,0,none⟩))).setIfInBounds 58 (Value.pointer (some ⟨bT,0,none⟩)))[58]?=some (Value.pointer (some ⟨bT,0,none⟩)):=by simp[hsz]
   have s4:((((T.setIfInBounds 56 (Value.pointer (some ⟨bT,0,none⟩))).setIfInBounds 57 (Value.pointer (some ⟨bT,0,none⟩))).setIfInBounds 58 (Value.pointer (some ⟨bT,0,none⟩))).setIfInBounds 59 (.chan (some back)))[59]?=some (.chan (some back)):=by simp[hsz]
   have y1:(((((T.setIfInBounds 56 (Value.pointer (some ⟨bT,0,none⟩))).setIfInBounds 57 (Value.pointer (some ⟨bT,0,none⟩))).setIfInBounds 58 (Value.pointer (some ⟨bT,0,none⟩))).setIfInBounds 59 (.chan (some back))).setIfInBounds 60 (.agg #[])).size=T.size:=by simp
   have x1:∀t,t<50\/61<=t->(((((T.setIfInBounds 56 (Value.pointer (some ⟨bT,0,none⟩))).setIfInBounds 57 (Value.pointer (some ⟨bT,0,none⟩))).setIfInBounds 58 (Value.pointer (some ⟨bT,0,none⟩))).setIfInBounds 59 (.chan (some back))).setIfInBounds 60 (.agg #[]))[t]?=T[t]?:=λt ht=>by
    simp only[al_gs];repeat (first|rw[if_neg (by omega)]|rfl)
   clear hsz;generalize hT1:T.setIfInBounds 56 (Value.pointer (some ⟨bT,0,none⟩))=T1 at s1 s2 s3 s4 y1 x1;generalize hT2:T1.setIfInBounds 57 (Value.pointer (some ⟨bT,0,none⟩))=T2 at s2 s3 s4 y1 x1;generalize hT3:T2.setIfInBounds 58 (Value.pointer (some ⟨bT,0,none⟩))=T3 at s3 s4 y1 x1;generalize hT4:T3.setIfInBounds 59 (Value.chan (some back))=T4 at s4 y1 x1;generalize hT5:T4.setIfInBounds 60 (Value.agg #[])=T5 at y1 x1;have H5:Hid (T5.size=T.size/\∀t,t<50\/61<=t->T5[t]?=T[t]?):=Lib.hid ⟨y1,x1⟩;have HT5:=Lib.hid hT5;clear y1 x1 hT5
   k_c stepG_region_end
   k_c stepG_seq
   k_reg
   k_in
   refine goes_oper_k rfl rfl hb (λK hK=>?_);have z1:=(h₁ _ _ hKx).1;have z2:=(h₁ _ _ hKx).2;go_simp;refine hK _ _ ⟨⟨rfl,λe he=>?_⟩,?_⟩
   . have hm:=mem_listed he;simp[go_sem, *]at hm;subst hm;exact evC_read _ ⟨_,_,rfl,hKx⟩ (by show bX<bX+bT+1;omega)
   clear hK K z1 z2 hT1
   k_in
   refine goes_oper_k rfl rfl hb (λK hK=>?_);go_simp;refine hK _ _ ⟨⟨rfl,λe he=>by(have hm:=mem_listed he;simp[go_sem, *]at hm)⟩,?_⟩;clear hK K s1 hT2
   k_in
   refine goes_oper_k rfl rfl hb (λK hK=>?_);go_simp;refine hK _ _ ⟨⟨rfl,λe he=>by(have hm:=mem_listed he;simp[go_sem, *]at hm)⟩,?_⟩;clear hK K s2 hT3
   k_in
   refine goes_oper_k rfl rfl hb (λK hK=>?_);have z1:=(h₁ _ _ hKb).1;have z2:=(h₁ _ _ hKb).2;go_simp;refine hK _ _ ⟨⟨rfl,λe he=>?_⟩,?_⟩
   . have hm:=mem_listed he;simp[go_sem, *]at hm;subst hm;exact evC_read _ ⟨_,_,rfl,hKb⟩ (by show bT<bX+bT+1;omega)
   clear hK K z1 z2 s3 hT4;refine Goes.stop λ_ _=>⟨_,atIn_of (s:=Seat.one back (.agg #[]) false _) rfl rfl hb (λw=>by simp[go_sem,execOp,rcase,Act.eval,Seat.one,al_gd,s4]) (λw=>by simp[go_sem,execOp,Act.eval]) ?_⟩;intro Kc' J hJ' w hgo;rw[served_fr,Frame.finish_at];simp only[Act.put,al_gl,al_g0,al_g1,al_ob,HT5.out];refine hJ'.ctl (s:=()) (λw=>stepG_region_end) ?_;exact hgo T5 H5.out.1 H5.out.2
def OA.lay (A:OA)(s b:Nat):OA:={A with rb:=λj=>if j=s then b else A.rb j}
theorem OA.lay_same (A:OA)(s b:Nat):(A.lay s b).rb s=b:=by simp[OA.lay]
theorem OA.lay_ne (A:OA){s b j:Nat}(h:j≠s):(A.lay s b).rb j=A.rb j:=by simp[OA.lay,h]
theorem OA.Ok.lay {A:OA}(h:A.Ok)(s b:Nat):(A.lay s b).Ok:=⟨h.n0,h.sp,h.row,h.inj,h.pb,h.injp,h.ne,h.st⟩
theorem Kept.lay {A:OA}{Kc:Addr->Option Value}(h:Kept A Kc)(s b:Nat):Kept (A.lay s b) Kc:=⟨h.t,h.x,h.p,h.only⟩
theorem OverW.lay {A:OA}{ov brk:Nat->Bool}{w:World}(h:OverW A ov brk w)(s b:Nat):OverW (A.lay s b) ov brk w:=⟨h.ts,h.box,h.sts,h.brs,h.std,h.bk,h.ps⟩
theorem OA.lay_cr (A:OA){s b j:Nat}(h:j≠s):(A.lay s b).cr j=A.cr j:=by
 unfold OA.cr;rw[OA.lay_ne A h];rfl
section
variable {M:Type}
theorem Cf.born {T:Thr M}{A:OA}(hA:A.Ok){Kc:Addr->Option Value}{E:Nat->Option Obj}{k s:Nat}{ov brk:Nat->Bool}{m:M}{inb:Nat->Option Seat}{w w':World}(h:Cf T A Kc E k s ov brk m inb w)(hs:s<A.N)(ho:ov s=false)(s0:Seat)
 (hR:RunW w.heap.size A.bT s false w') (hsz:w'.heap.size=w.heap.size+3) (hold:∀b,b<w.heap.size->w'.heap[b]?=w.heap[b]?):
 Held T (A.lay s w.heap.size) Kc E k (s+1) s ov brk m (upd inb 0 (some s0)) w':=by
 have hn0:=hA.n0;have hown:∀b,A.own b->w'.heap[b]?=w.heap[b]?:=λb hb=>hold b (h.ow.own_lt hb);refine⟨(h.ow.of_same hown).lay _ _,T.frame _ _ _ h.rep (λb hb=>hold b (T.lt _ _ _ h.rep hb)),h.free,hs,by omega,ho,λj hj hoj=>?_,λj b hj hb=>?_,λi j hi hj hij=>?_,λj b hj hb hf=>?_,λj b hj hb=>?_,λj hj hne hoj=>?_,λj hj hne hall=>?_,λb o hb=>?_,λb o hb=>?_⟩
 . by_cases e:j=s
   . subst e;rw[OA.lay_same];exact hR
   . rw[OA.lay_ne A e];have r:=h.run j (by omega) hoj;have lt:=λx hx=>h.boxlt j x (by omega) hx;exact r.of_same (hold _ (lt _ (.inl rfl))) (hold _ (lt _ (.inr (.inl rfl)))) (hold _ (lt _ (.inr (.inr rfl))))
 . have hb':A.own b:=hb
   by_cases e:j=s
   . subst e;rw[OA.lay_same];exact h.ow.own_lt hb'
   . rw[OA.lay_ne A e];exact h.above j b (by omega) hb'
 . have lt:=λj(hj:j<s)=>h.boxlt j (A.rb j+2) hj (.inr (.inr rfl))
   by_cases e:i=s
   . have e2:j≠s:=λx=>hij (e.trans x.symm);subst e;rw[OA.lay_same,OA.lay_ne A e2];have:=lt j (by omega);omega
   . by_cases e2:j=s
     . subst e2;rw[OA.lay_same,OA.lay_ne A e];have:=lt i (by omega);omega
     . rw[OA.lay_ne A e,OA.lay_ne A e2];exact h.boxes i j (by omega) (by omega) hij
 . unfold OA.box at hb
   by_cases e:j=s
   . subst e;rw[OA.lay_same]at hb;have:=T.lt _ _ _ h.rep hf;omega
   . rw[OA.lay_ne A e]at hb;exact h.boxfree j b (by omega) hb hf
 . unfold OA.box at hb
   by_cases e:j=s
   . subst e;rw[OA.lay_same]at hb;omega
   . rw[OA.lay_ne A e]at hb;have:=h.boxlt j b (by omega) hb;omega
 . obtain⟨c,cs,h1,h2⟩:=h.seat j (by omega) hoj;exact⟨c,cs,by rw[upd_ne _ _ (by show A.n0+j≠0;omega)];exact h1,by rw[OA.lay_cr A hne];exact h2⟩
 . rw[upd_ne _ _ hj];exact h.gone j hj λi hi hoi=>hall i (by omega) hoi
 . have h1:=h.ext b o hb;rw[hold b (zqi h1)];exact h1
 . obtain⟨e1,e2,e3⟩:=h.extfree b o hb;refine⟨e1,e2,λi hi hbx=>?_⟩;unfold OA.box at hbx
   by_cases e:i=s
   . subst e;rw[OA.lay_same]at hbx;have:=zqi (h.ext b o hb);omega
   . rw[OA.lay_ne A e]at hbx;exact e3 i (by omega) hbx
theorem zqem{Fin:Machine->Trace->Prop}(hFin:Back Try.prog Fin){T:Thr M}{A:OA}(hA:A.Ok){Kc:Addr->Option Value}{E:Nat->Option Obj}(hK:Kept A Kc){k s n:Nat}{ov brk:Nat->Bool}{m:M}{inb:Nat->Option Seat}{w:World}
 (h:Cf T A Kc E k s ov brk m inb w) (hs:s<A.N) (ho:ov s=false) (hn:0<n) {m₀:M} (hms:T.Same s m₀ m) (hr:Runs Try.prog T 81 150 NEnd m₀ s (A.tv s))
 {homeb:Goroutine->Prop}
 (hmain:∀A' m' ov' brk' inb' w' g₂,A'=A.lay s w.heap.size->zq1m (T.Start s) s m ov brk m' ov' brk'->Cf T A' Kc E k (s+1) ov' brk' m' inb' w'->homeb g₂->HoldR Try.prog Fin Kc inb' 0 n (Conc.served g₂ (.agg #[])) w'):
 HoldR Try.prog Fin Kc (upd inb 0 (some (Seat.one A.back (.agg #[]) false homeb))) (A.n0+s) n (born Try.prog (zq2n A.bT s (A.tv s))) w:=by
 have hn0:=hA.n0;have hJ:=zq3p hFin Kc (upd inb 0 (some (Seat.one A.back (.agg #[]) false homeb))) (A.n0+s) n (by omega);refine zqea hJ (hK.lt h.ow) λw' hRW hsz hold=>?_;have hH:=h.born hA hs ho (Seat.one A.back (.agg #[]) false homeb) hRW hsz hold;have hA':=hA.lay s w.heap.size;have hK':=hK.lay s w.heap.size;have h0:upd inb 0 (some (Seat.one A.back (.agg #[]) false homeb)) 0=some (Seat.one (A.lay s w.heap.size).back (.agg #[]) false homeb):=upd_same _ _ _;rcases hr with⟨htv,hst⟩|⟨f,first,caps,fn,c,htv,hf,hb,hnm,hr⟩
 . rw[htv];obtain⟨br,hE,hbr⟩:=hK'.endIn hA' hH.ow hs (λb hb=>hH.above s b (by omega) hb);have hKn:∀y:Addr,y.block=w.heap.size+2->Kc y=none:=λy hy=>by
    cases hky:Kc y with
    |none=>rfl
    |some v=>have:=hK.lt h.ow y v hky;omega
   have hrw:=hH.run s (by omega) ho;rw[OA.lay_same]at hrw hE;refine run_nil hJ hrw hE hKn λX c w'' hc hX1 hX2 hsz' hold' hst' hbB=>?_;refine turn_sent hFin hA' hK' hH hn h0 hc hX1 hX2 hE.tw.brs hbr false hsz' ?_ hst' hbB h.lft λinb' w3 g₂ hC hh=>hmain _ _ _ _ _ _ _ rfl (.done m (hst m)) hC hh;rw[OA.lay_same];exact hold'
 . rw[htv];refine zqe9 hJ hf hb hnm hRW (bS:=A.bS) (N:=A.N) (cap:=A.cap) (st:=A.st s) ⟨(zq1 (hH.ow.tsS hA' (Nat.lt_of_le_of_lt (Nat.zero_le _) hs))).trans rfl,hs,(zq1 (hH.ow.sts (Nat.lt_of_le_of_lt (Nat.zero_le _) hs))).trans (hA.row s hs)⟩ ?_;have ecr:zq2s w.heap.size A.bT A.bS A.N A.cap s (A.st s) (.func (.func f) first caps) [.inRegion ops4 [9],.code code5]=(A.lay s w.heap.size).cr s:=by
    unfold OA.cr;rw[OA.lay_same,<-htv];rfl
   rw[ecr];refine hr _ [bot] (A.st s) (TEnd (A.lay s w.heap.size)) k Kc _ _ m w' (env_of hFin hK' (by omega) hH.ow hH.free) hH.rep hms ?_;exact turn_conts hFin hA' hK' hH hn h0 (λo hR j hj=>T.start_same j s m o hj hR) h.lft λm' ov' brk' inb' w3 g₂ hT hC hh=>hmain _ m' ov' brk' inb' w3 g₂ rfl hT hC hh
end
section
variable {M:Type}
theorem go_turn{Fin:Machine->Trace->Prop}(hFin:Back Try.prog Fin){T:Thr M}{A:OA}(hA:A.Ok){Kc:Addr->Option Value}{E:Nat->Option Obj}(hK:Kept A Kc){k s n:Nat}{ov brk:Nat->Bool}{m:M}{inb:Nat->Option Seat}{w:World}
 (h:Cf T A Kc E k s ov brk m inb w) (hs:s<A.N) (ho:ov s=false) (hn:n=A.n0+s) {m₀:M} (hms:T.Same s m₀ m) (hr:Runs Try.prog T 81 150 NEnd m₀ s (A.tv s))
 {b:Frame} (hb:b.kind≠.early) {Ts:Array Value} {ds:List Deferred} {rest:Code} {kk:List Item} {cs:List Frame} {tb L C:Nat}
 (hsz:Ts.size=129) (t0:Ts[0]?=some (.slice (some ⟨tb,0,none⟩) L C)) (t10:Ts[10]?=some (.pointer (some ⟨A.bX,0,none⟩))) (t12:Ts[12]?=some (.int .i64 s)) (hsL:s<L)
 (hv:w.cell? ⟨tb,s,none⟩=some (A.tv s))
 (hmain:∀A' m' ov' brk' inb' w'(T':Array Value),A'=A.lay s w.heap.size->zq1m (T.Start s) s m ov brk m' ov' brk'->Cf T A' Kc E k (s+1) ov' brk' m' inb' w'->T'.size=129->(∀t,t<50\/61<=t->T'[t]?=Ts[t]?)->
  HoldR Try.prog Fin Kc inb' 0 (n+1) (G (b.at ⟨T',ds⟩ (.code rest::kk)) cs) w'):
 HoldR Try.prog Fin Kc inb 0 n (G (b.at ⟨Ts,ds⟩ (.code r12::.code (.seq r13 rest)::kk)) cs) w:=by
 have hn0:=hA.n0;have hx:w.cell? ⟨A.bX,0,none⟩=some (.pointer (some ⟨A.bT,0,none⟩)):=(zq1 h.ow.box).trans rfl;refine go_at (zq10 hFin Kc inb n) hb hsz t0 t10 t12 hsL hx hv λT1 z1 z2 z50 z51 z55=>?_;have hfin:=go_hires hFin (Kc:=Kc) (Inb:=inb) (n:=n) (bX:=A.bX) (bT:=A.bT) (back:=A.back) (i:=s) (tv:=A.tv s) (b:=b) hb (T:=T1) (ds:=ds) (rest:=rest) (k:=kk) (cs:=cs) (w:=w)
  z1 (by rw[z2 10 (by omega)];exact t10) z50 z51 z55 (by omega) ?_ hK.x hK.t (h.fresh hA) h.ow.bk ?_
 . exact hfin
 . exact h.gone n (by omega) λi hi hoi e=>by omega
 . subst hn;refine zqem hFin hA hK h hs ho (by omega) hms hr λA' m' ov' brk' inb' w' g₂ hA' hT hC hh=>?_;refine hh Kc _ (zq10 hFin Kc inb' _) w' λT' y1 y2=>?_;refine hmain A' m' ov' brk' inb' w' T' hA' hT hC (y1.trans z1) λt ht=>?_;rw[y2 t ht];exact z2 t (by omega)
end
end Go.Proofs
