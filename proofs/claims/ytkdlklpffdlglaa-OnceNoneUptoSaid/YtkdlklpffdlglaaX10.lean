/- YtkdlklpffdlglaaNone13: part 10 of the proof (the texts behind it, in order). -/
import Derived.Test.YtkdlklpffdlglaaX09
set_option maxHeartbeats 4000000
set_option maxRecDepth 100000
set_option linter.all false
namespace Go.Proofs
open Go Go.Conc Go.RowKit Go.Car
theorem slow_jt{Fin:Machine->Trace->Prop}(hFin:Back Try.prog Fin){n b:Nat}{w:World}{cl:Frame}{cs:List Frame}(h:w.heap[b]?=some (.cells (lzC 0 0) 101))
 (hq:∀w',w'.heap[b]?=some (.cells (lzC 1 0) 101)->w.heap.size<=w'.heap.size->(∀x,x<w.heap.size->x≠b->w'.heap[x]?=w.heap[x]?)->JT Try.prog Fin n (G (cl.finish (.tuple #[])) cs) w'):JT Try.prog Fin n (G (Frame.enter Try.prog 79 #[.pointer (some ⟨b,0,none⟩),.func (.func 62) #[.pointer (some ⟨b,0,none⟩)] #[]] .normal) (cl::cs)) w:=by
 have hJ:=jt_JS hFin;have hC:=zq20 hFin;have e:Frame.enter Try.prog 79 #[.pointer (some ⟨b,0,none⟩),.func (.func 62) #[.pointer (some ⟨b,0,none⟩)] #[]] .normal=(bN 79).at ⟨#[.pointer (some ⟨b,0,none⟩),.func (.func 62) #[.pointer (some ⟨b,0,none⟩)] #[],undef,undef,undef,undef,undef,undef,undef,undef,undef,undef,undef,undef,undef,undef,undef,undef,undef,undef,undef],[]⟩ [.code ((Try.f79.body).getD .skip)]:=by kernel_rfl
 rw[e];clear e;have HQ:=Lib.hid hq;clear hq;obtain⟨u_,hu_⟩:∃c,(Try.f79.body).getD .skip=c:=⟨_,rfl⟩;have eu_:=hu_;rw[hu_];simp only[Try.f79,al_od]at eu_;subst eu_;clear hu_;refine hJ.ctl (s:=n) (λw=>stepG_seq) ?_;refine hJ.ctl (s:=n) (λw=>stepG_region) ?_;refine zqb (s:=n) (by first|decide |omega) hJ (zq9 _) false (.inr rfl) 0 3 1 rfl rfl rfl (by rfl) ?_;intro τ d;simp only[List.drop_succ_cons,List.drop_zero,List.take_succ_cons,List.take_zero];go_wp2;simp only[zq5];refine hJ.re' n _ _ τ d ?_;refine zqy (by decide) hJ (s:=n) rfl rfl (f:=87) (args:=#[.pointer (some ⟨b,1,none⟩)]) (λτ d=>?_) (λτ d=>?_) ?_
 . simp[go_sem,execOp,Act.eval,resolve,Deferred.ofValue,invoke,callFunc,Try.func87,Try.f87]
 . intro e he;simp[go_sem,execOp,Act.eval,resolve,Deferred.ofValue,invoke,callFunc,Try.func87,Try.f87,Sem.runT_eq]at he
 refine mlock_jt hFin h ?_;rw[Frame.finish_at]
 walk_nrm
 have h1:(w.setCell ⟨b,1,none⟩ (.int .i32 1)).heap[b]?=some (.cells (lzC 0 1) 101):=by rw[zqu _ _ _ _ h];rfl
 have HO:RowKit.Hid (w.heap.size<=(w.setCell ⟨b,1,none⟩ (.int .i32 1)).heap.size/\∀x,x<w.heap.size->x≠b->(w.setCell ⟨b,1,none⟩ (.int .i32 1)).heap[x]?=w.heap[x]?):=Lib.hid ⟨by rw[zq11];exact Nat.le_refl _,λx _ hx=>zqn _ _ _ _ hx⟩;generalize w.setCell ⟨b,1,none⟩ (.int .i32 1)=w1 at h1 HO |-;clear h;refine hJ.ctl (s:=n) (λw=>stepG_region_end) ?_;refine hJ.ctl (s:=n) (λw=>stepG_seq) ?_;refine hJ.ctl (s:=n) (λw=>stepG_region) ?_;refine zqb (s:=n) (by first|decide |omega) hJ (zq9 _) false (.inr rfl) 0 3 1 rfl rfl rfl (by rfl) ?_;intro τ d;simp only[List.drop_succ_cons,List.drop_zero,List.take_succ_cons,List.take_zero];go_wp2;simp only[zq5];refine hJ.re' n _ _ τ d ?_;refine zq4w (s:=n) (i:=3) (rest:=[]) (d:={target:=.fn (.func 88) #[],args:=#[.pointer (some ⟨b,1,none⟩)]}) (by decide) hJ rfl rfl (λw=>by simp[go_sem,execOp,Act.eval]) (λw=>by simp[go_sem,execOp,Act.eval]) ?_;refine hJ.ctl (s:=n) (λw=>stepG_region_end) ?_;refine hJ.ctl (s:=n) (λw=>stepG_seq) ?_;refine zq1p (s:=n) hJ hC zq38 (by kernel_rfl) (λt w'=>t=#[.pointer (some ⟨b,0,none⟩),.func (.func 62) #[.pointer (some ⟨b,0,none⟩)] #[],undef,undef,.pointer (some ⟨b,0,none⟩),.pointer (some ⟨b,0,none⟩),.pointer (some ⟨b,1,none⟩),.tuple #[],.pointer (some ⟨b,0,none⟩),.pointer (some ⟨b,0,none⟩),.pointer (some ⟨b,1,none⟩),.pointer (some ⟨b,0,none⟩),.pointer (some ⟨b,0,none⟩),.pointer (some ⟨b,0,none⟩),.bool false,.bool true,undef,undef,undef,undef,undef]/\∃τ d,w'=re w1 τ d) (λt w' τ d h=>⟨h.1,by obtain⟨τ',d',rfl⟩:=h.2;exact⟨τ,d,by rw[re_re]⟩⟩) (by decide) (λτ d=>?_) ?_
 . have hl:=run_call_load (P:=Try.prog) Try.func86 (by kernel_rfl) (by kernel_rfl) (by kernel_rfl) .u32 (by kernel_rfl) (w:=re w1 τ d) (a:=⟨b,0,none⟩) (x:=0) ((zq0 (off:=0) h1).trans rfl);simp only[Act.put];go_wp2;exact⟨rfl,rfl,τ,d,rfl⟩
 rintro t w' ⟨rfl,τ,d,rfl⟩;refine hJ.re' n _ _ τ d ?_;refine hJ.ctl (s:=n) (λw=>stepG_cond (t:=true) rfl) ?_;rw[if_pos rfl];refine hJ.ctl (s:=n) (λw=>stepG_seq) ?_;refine hJ.ctl (s:=n) (λw=>stepG_region) ?_;simp only[Act.put];refine zqb (s:=n) (by first|decide |omega) hJ (zq9 _) false (.inr rfl) 0 3 1 rfl rfl rfl (by rfl) ?_;intro τ d;simp only[List.drop_succ_cons,List.drop_zero,List.take_succ_cons,List.take_zero];go_wp2;simp only[zq5];refine hJ.re' n _ _ τ d ?_;refine zq4w (s:=n) (i:=3) (rest:=[]) (d:={target:=.fn (.func 89) #[],args:=#[.pointer (some ⟨b,0,none⟩),.bool true]}) (by decide) hJ rfl rfl (λw=>by simp[go_sem,execOp,Act.eval]) (λw=>by simp[go_sem,execOp,Act.eval]) ?_;refine hJ.ctl (s:=n) (λw=>stepG_region_end) ?_;refine hJ.ctl (s:=n) (λw=>stepG_region) ?_;simp only[Act.put];refine zqb (s:=n) (by first|decide |omega) hJ (zq9 _) false (.inr rfl) 0 1 1 rfl rfl rfl (by rfl) ?_;intro τ d;simp only[List.drop_succ_cons,List.drop_zero,List.take_succ_cons,List.take_zero];go_wp2;simp only[zq5];refine hJ.re' n _ _ τ d ?_;refine zqy (by decide) hJ (s:=n) rfl rfl (f:=62) (args:=#[.pointer (some ⟨b,0,none⟩)]) (λτ d=>?_) (λτ d=>?_) ?_
 . simp[go_sem,execOp,Act.eval,resolve,Deferred.ofValue,invoke,callFunc,Try.func62,Try.f62]
 . intro e he;simp[go_sem,execOp,Act.eval,resolve,Deferred.ofValue,invoke,callFunc,Try.func62,Try.f62,Sem.runT_eq]at he
 refine mk_jt hFin h1 ?_;intro w2 hb2;have h2:=hb2.heap h1;rw[Frame.finish_at]
 walk_nrm
 refine hJ.ctl (s:=n) (λw=>stepG_region_end) ?_;refine hJ.ctl (s:=n) (λw=>stepG_end) ?_;refine zq4z (s:=n) (f:=89) (fn:=Try.f89) (c:=(Try.f89.body).getD .skip) (args:=#[.pointer (some ⟨b,0,none⟩),.bool true]) (caps:=#[]) hJ (.inl rfl) rfl Try.func89 (by kernel_rfl) rfl ?_;refine zqaw hFin (a:=⟨b,0,none⟩) (x:=.int .u32 0) ((zq0 (off:=0) h2).trans rfl) (zqf (off:=0) h2) ?_;have h3:(w2.setCell ⟨b,0,none⟩ (.int .u32 1)).heap[b]?=some (.cells (lzC 1 1) 101):=by rw[zqu _ _ _ _ h2];rfl
 refine zq4z (s:=n) (b:=bN 79) (f:=88) (fn:=Try.f88) (c:=(Try.f88.body).getD .skip) (args:=#[.pointer (some ⟨b,1,none⟩)]) (caps:=#[]) (ds:=[]) hJ (.inl rfl) rfl Try.func88 (by kernel_rfl) rfl ?_;refine zqcq hFin h3 ?_;have h4:((w2.setCell ⟨b,0,none⟩ (.int .u32 1)).setCell ⟨b,1,none⟩ (.int .i32 0)).heap[b]?=some (.cells (lzC 1 0) 101):=by rw[zqu _ _ _ _ h3];rfl
 refine hJ.ctl (s:=n) (λw=>stepG_leave (b:=bN 79) rfl rfl Try.func79 (resultsC_none rfl _ w).1 (resultsC_none rfl _ w).2) (HQ.out _ h4 ?_ λx hx hxb=>?_)
 . rw[zq11,zq11];exact Nat.le_trans HO.out.1 hb2.1
 . rw[zqn _ _ _ _ hxb,zqn _ _ _ _ hxb,hb2.2 x (Nat.lt_of_lt_of_le hx HO.out.1)];exact HO.out.2 x hx hxb
theorem do_jt{Fin:Machine->Trace->Prop}(hFin:Back Try.prog Fin){n b:Nat}{w:World}{cl:Frame}{cs:List Frame}(h:w.heap[b]?=some (.cells (lzC 0 0) 101))
 (hq:∀w',w'.heap[b]?=some (.cells (lzC 1 0) 101)->w.heap.size<=w'.heap.size->(∀x,x<w.heap.size->x≠b->w'.heap[x]?=w.heap[x]?)->JT Try.prog Fin n (G (cl.finish (.tuple #[])) cs) w'):JT Try.prog Fin n (G (Frame.enter Try.prog 61 #[.pointer (some ⟨b,0,none⟩),.func (.func 62) #[.pointer (some ⟨b,0,none⟩)] #[]] .normal) (cl::cs)) w:=by
 have hJ:=jt_JS hFin;have hC:=zq20 hFin;have e:Frame.enter Try.prog 61 #[.pointer (some ⟨b,0,none⟩),.func (.func 62) #[.pointer (some ⟨b,0,none⟩)] #[]] .normal=(bN 61).at ⟨#[.pointer (some ⟨b,0,none⟩),.func (.func 62) #[.pointer (some ⟨b,0,none⟩)] #[],undef,undef,undef,undef,undef,undef,undef,undef,undef,undef],[]⟩ [.code ((Try.f61.body).getD .skip)]:=by kernel_rfl
 rw[e];clear e;have HQ:=Lib.hid hq;clear hq;obtain⟨u_,hu_⟩:∃c,(Try.f61.body).getD .skip=c:=⟨_,rfl⟩;have eu_:=hu_;rw[hu_];simp only[Try.f61,al_od]at eu_;subst eu_;clear hu_;refine hJ.ctl (s:=n) (λw=>stepG_seq) ?_;refine zq1p (s:=n) hJ hC zq38 (by kernel_rfl) (λt w'=>t=#[.pointer (some ⟨b,0,none⟩),.func (.func 62) #[.pointer (some ⟨b,0,none⟩)] #[],undef,undef,.pointer (some ⟨b,0,none⟩),.pointer (some ⟨b,0,none⟩),.pointer (some ⟨b,0,none⟩),.bool false,.bool true,undef,undef,undef]/\∃τ d,w'=re w τ d) (λt w' τ d h=>⟨h.1,by obtain⟨τ',d',rfl⟩:=h.2;exact⟨τ,d,by rw[re_re]⟩⟩) (by decide) (λτ d=>?_) ?_
 . have hl:=run_call_load (P:=Try.prog) Try.func86 (by kernel_rfl) (by kernel_rfl) (by kernel_rfl) .u32 (by kernel_rfl) (w:=re w τ d) (a:=⟨b,0,none⟩) (x:=0) ((zq0 (off:=0) h).trans rfl);go_wp2;exact⟨rfl,rfl,τ,d,rfl⟩
 rintro t w' ⟨rfl,τ,d,rfl⟩;refine hJ.re' n _ _ τ d ?_;refine hJ.ctl (s:=n) (λw=>stepG_cond (t:=true) rfl) ?_;rw[if_pos rfl];refine hJ.ctl (s:=n) (λw=>stepG_region) ?_;refine zqb (s:=n) (by first|decide |omega) hJ (zq9 _) false (.inr rfl) 0 2 1 rfl rfl rfl (by rfl) ?_;intro τ d;simp only[List.drop_succ_cons,List.drop_zero,List.take_succ_cons,List.take_zero];go_wp2;simp only[zq5];refine hJ.re' n _ _ τ d ?_;refine zqy (by decide) hJ (s:=n) rfl rfl (f:=79) (args:=#[.pointer (some ⟨b,0,none⟩),.func (.func 62) #[.pointer (some ⟨b,0,none⟩)] #[]]) (λτ d=>?_) (λτ d=>?_) ?_
 . simp[go_sem,execOp,Act.eval,resolve,Deferred.ofValue,invoke,callFunc,Try.func79,Try.f79]
 . intro e he;simp[go_sem,execOp,Act.eval,resolve,Deferred.ofValue,invoke,callFunc,Try.func79,Try.f79,Sem.runT_eq]at he
 refine slow_jt hFin h λw' h1 h2 h3=>?_;rw[Frame.finish_at]
 walk_nrm
 refine hJ.ctl (s:=n) (λw=>stepG_region_end) ?_;refine hJ.ctl (s:=n) (λw=>stepG_end) ?_;exact hJ.ctl (s:=n) (λw=>stepG_leave rfl rfl Try.func61 (resultsC_none rfl _ w).1 (resultsC_none rfl _ w).2) (HQ.out w' h1 h2 h3)
theorem lget_jt{Fin:Machine->Trace->Prop}(hFin:Back Try.prog Fin){n b:Nat}{w:World}{cl:Frame}{cs:List Frame}(h:w.heap[b]?=some (.cells (lzC 0 0) 101))
 (hq:∀w',w'.heap[b]?=some (.cells (lzC 1 0) 101)->w.heap.size<=w'.heap.size->(∀x,x<w.heap.size->x≠b->w'.heap[x]?=w.heap[x]?)->JT Try.prog Fin n (G (cl.finish (.tuple #[.int .i64 0,.bool false])) cs) w'):JT Try.prog Fin n (G (Frame.enter Try.prog 30 #[.pointer (some ⟨b,0,none⟩)] .normal) (cl::cs)) w:=by
 have hJ:=jt_JS hFin;have hC:=zq20 hFin;have e:Frame.enter Try.prog 30 #[.pointer (some ⟨b,0,none⟩)] .normal=(bN 30).at ⟨#[.pointer (some ⟨b,0,none⟩),undef,undef,undef,undef,undef,undef,undef,undef,undef,undef,undef,undef,undef,undef,undef,undef,undef,undef,undef,undef,undef],[]⟩ [.code ((Try.f30.body).getD .skip)]:=by kernel_rfl
 rw[e];clear e;have HQ:=Lib.hid hq;clear hq;obtain⟨u_,hu_⟩:∃c,(Try.f30.body).getD .skip=c:=⟨_,rfl⟩;have eu_:=hu_;rw[hu_];simp only[Try.f30,al_od]at eu_;subst eu_;clear hu_;refine hJ.ctl (s:=n) (λw=>stepG_seq) ?_;refine hJ.ctl (s:=n) (λw=>stepG_region) ?_;refine zqb (s:=n) (by first|decide |omega) hJ (zq9 _) false (.inr rfl) 0 2 0 rfl rfl rfl (by rfl) ?_;intro τ d;simp only[List.drop_succ_cons,List.drop_zero,List.take_succ_cons,List.take_zero];go_wp2;simp only[zq5];refine hJ.re' n _ _ τ d ?_;refine hJ.ctl (s:=n) (λw=>stepG_region_end) ?_;refine hJ.ctl (s:=n) (λw=>stepG_seq) ?_;refine hJ.ctl (s:=n) (λw=>stepG_seq) ?_;refine hJ.ctl (s:=n) (λw=>stepG_region) ?_;refine zqb (s:=n) (by first|decide |omega) hJ (zq9 _) false (.inr rfl) 0 2 0 rfl rfl rfl (by rfl) ?_;intro τ d;simp only[List.drop_succ_cons,List.drop_zero,List.take_succ_cons,List.take_zero];go_wp2;simp only[zq5];refine hJ.re' n _ _ τ d ?_;refine hJ.ctl (s:=n) (λw=>stepG_region_end) ?_;refine hJ.ctl (s:=n) (λw=>stepG_cond (t:=false) rfl) ?_;rw[if_neg (by decide)];refine hJ.ctl (s:=n) (λw=>stepG_skip) ?_;refine hJ.ctl (s:=n) (λw=>stepG_seq) ?_;refine hJ.ctl (s:=n) (λw=>stepG_region) ?_;refine zqb (s:=n) (by first|decide |omega) hJ (zq9 _) false (.inr rfl) 0 5 1 rfl rfl rfl (by rfl) ?_;intro τ d;simp only[List.drop_succ_cons,List.drop_zero,List.take_succ_cons,List.take_zero];go_wp2;simp only[zq5];refine hJ.re' n _ _ τ d ?_;refine zqy (by decide) hJ (s:=n) rfl rfl (f:=61) (args:=#[.pointer (some ⟨b,0,none⟩),.func (.func 62) #[.pointer (some ⟨b,0,none⟩)] #[]]) (λτ d=>?_) (λτ d=>?_) ?_
 . simp[go_sem,execOp,Act.eval,resolve,Deferred.ofValue,invoke,callFunc,Try.func61,Try.f61]
 . intro e he;simp[go_sem,execOp,Act.eval,resolve,Deferred.ofValue,invoke,callFunc,Try.func61,Try.f61,Sem.runT_eq]at he
 refine do_jt hFin h λw1 h1 h2 h3=>?_;rw[Frame.finish_at]
 walk_nrm
 refine hJ.ctl (s:=n) (λw=>stepG_region_end) ?_;refine hJ.ctl (s:=n) (λw=>stepG_seq) ?_;refine zq1p (s:=n) hJ hC zq38 (by kernel_rfl) (λt w'=>(t[2]?=some (.int .i64 0)/\t[3]?=some (.bool false))/\∃τ d,w'=re w1 τ d) (λt w' τ d h=>⟨h.1,by obtain⟨τ',d',rfl⟩:=h.2;exact⟨τ,d,by rw[re_re]⟩⟩) (by decide) (λτ d=>?_) ?_
 . have c1:(re w1 τ d).cell? ⟨b,4,none⟩=some (.int .i64 0):=(zq0 (off:=4) h1).trans rfl;have c2:(re w1 τ d).cell? ⟨b,5,none⟩=some (.bool false):=(zq0 (off:=5) h1).trans rfl
   go_wp2_with (fail)
   go_quiet (fail)
   go_wp2;exact⟨rfl,⟨rfl,rfl⟩,_,_,rfl⟩
 rintro t w' ⟨⟨t2,t3⟩,τ,d,rfl⟩;refine hJ.re' n _ _ τ d ?_;refine hJ.ctl (s:=n) (λw=>stepG_ret') ?_;refine zq22 (s:=n) hJ rfl rfl Try.func30 (v:=.tuple #[.int .i64 0,.bool false]) (λτ d=>?_) (HQ.out w1 h1 h2 h3);simp[results,Try.f30,al_gd,t2,t3,go_sem]
noncomputable def onT(n:Nat):Code:=tailN n (Try.f8.body.getD .skip)
theorem on0:Try.f8.body.getD .skip=.seq (headC (onT 0)) (.seq (headC (onT 1)) (.seq (headC (onT 2)) (.seq (headC (onT 3)) (.seq (headC (onT 4)) (.seq (headC (onT 5)) (.seq (headC (onT 6)) (.seq (headC (onT 7)) (.seq (headC (onT 8)) (.seq (headC (onT 9)) (.seq (headC (onT 10)) (.seq (headC (onT 11)) (.seq (headC (onT 12)) (.seq (headC (onT 13)) (.seq (headC (onT 14)) (.seq (headC (onT 15)) (.seq (headC (onT 16)) (.seq (headC (onT 17)) (.seq (headC (onT 18)) (.seq (headC (onT 19)) (.seq (headC (onT 20)) (.seq (headC (onT 21)) (onT 22)))))))))))))))))))))):=by kernel_rfl
def aL:List FuncId:=[13,15,36,34,81,83,65,51,47,55,57,58,10,16,33,37,38,68,40,41,42,39,43,44,69,70,66,67,85,12,17,18,19,31,32]
def aR:List FuncId:=[71,77,76,75]
def aM(f:FuncId):Bool:=aL.contains f || aR.contains f
theorem plain_rows:Plain Try.prog aM/\RowsS Try.prog aM:=by
 refine zq4l (by kernel_rfl) (λf hf=>?_) (by kernel_rfl) (by kernel_rfl);simp only[aR,List.mem_cons,List.not_mem_nil,or_false]at hf;rcases hf with rfl |rfl |rfl |rfl
 . exact⟨_,Extern.Atomic.loadT (.int .i64),Try.func71,rfl,by kernel_rfl,by kernel_rfl,by kernel_rfl,λ_=>zq5y _ _,λ_=>zq5t _ _⟩
 . exact⟨_,Extern.Atomic.storeT,Try.func77,rfl,by kernel_rfl,by kernel_rfl,by kernel_rfl,λ_=>zqa7 _,λ_=>zq8x _⟩
 . exact⟨_,Extern.Atomic.update (Op.intArith .add) .i64 true,Try.func76,rfl,by kernel_rfl,by kernel_rfl,by kernel_rfl,λ_=>zqae _ _ _,λ_=>zq90 _ _ _⟩
 . exact⟨_,Extern.Atomic.casT (.int .i64),Try.func75,rfl,by kernel_rfl,by kernel_rfl,by kernel_rfl,λ_=>zq5w _ _,λ_=>zq5r _ _⟩
theorem zq15:Plain Try.prog aM:=plain_rows.1
theorem rowsM:RowsS Try.prog aM:=plain_rows.2
theorem zq5c(ad:Addr)(x:Int)(w:World)(h0:w.cell? ad=some (.int .i64 x)):
 Calls Try.prog 47 #[.pointer (some ad)] w λe w'=>e=.returned (.int .i64 x)/\w'=w:=by
 have hl:=run_call_load (P:=Try.prog) Try.func71 (by kernel_rfl) (by kernel_rfl) (by kernel_rfl) .i64 (by kernel_rfl) h0
 go_enter Try.func47,Try.ntmps47
 go_wp2;go_ret;exact⟨rfl,rfl⟩
theorem zqhe(ad:Addr)(x y:Int)(w:World)(h0:w.cell? ad=some (.int .i64 x))(f0:w.frozen? ad=false):
 Calls Try.prog 58 #[.pointer (some ad),.int .i64 y] w λe w'=>e=.returned (.tuple #[])/\w'=w.setCell ad (.int .i64 y):=by
 have hl:=run_call_store (P:=Try.prog) Try.func77 (by kernel_rfl) (by kernel_rfl) (by kernel_rfl) (by kernel_rfl) (k:=.i64) (y:=y) h0 f0
 go_enter Try.func58,Try.ntmps58
 go_wp2
 go_end0
 exact⟨rfl,rfl⟩
theorem add_lone(ad:Addr)(x y:Int)(w:World)(h0:w.cell? ad=some (.int .i64 x))(f0:w.frozen? ad=false):
 Calls Try.prog 57 #[.pointer (some ad),.int .i64 y] w λe w'=>e=.returned (.int .i64 (IntKind.i64.wrap (x+y)))/\w'=w.setCell ad (.int .i64 (IntKind.i64.wrap (x+y))):=by
 have hl:=run_call_add (P:=Try.prog) Try.func76 (by kernel_rfl) (by kernel_rfl) (by kernel_rfl) .i64 (by kernel_rfl) (y:=y) (s:=IntKind.i64.wrap (x+y)) h0 f0 (by rfl)
 go_enter Try.func57,Try.ntmps57
 go_wp2;go_ret;have hw:wrap64 (x+y)=IntKind.i64.wrap (x+y):=by rw[IntKind.wrap_i64];simp only[wrap64]
 rw[hw];exact⟨rfl,rfl⟩
theorem zqb0(ad:Addr)(x y:Int)(w:World)(h0:w.cell? ad=some (.int .i64 x))(f0:w.frozen? ad=false):
 Calls Try.prog 55 #[.pointer (some ad),.int .i64 x,.int .i64 y] w λe w'=>e=.returned (.bool true)/\w'=w.setCell ad (.int .i64 y):=by
 have hl:=run_call_cas_hit (P:=Try.prog) Try.func75 (by kernel_rfl) (by kernel_rfl) (by kernel_rfl) .i64 (by kernel_rfl) (y:=y) h0 f0
 go_enter Try.func55,Try.ntmps55
 go_wp2;go_ret;exact⟨rfl,rfl⟩
theorem zqb1(ad:Addr)(x o y:Int)(w:World)(h0:w.cell? ad=some (.int .i64 x))(f0:w.frozen? ad=false)(hne:¬x=o):
 Calls Try.prog 55 #[.pointer (some ad),.int .i64 o,.int .i64 y] w λe w'=>e=.returned (.bool false)/\w'=w:=by
 have hl:=run_call_cas_miss (P:=Try.prog) Try.func75 (by kernel_rfl) (by kernel_rfl) (by kernel_rfl) .i64 (by kernel_rfl) (y:=y) h0 f0 hne
 go_enter Try.func55,Try.ntmps55
 go_wp2;go_ret;exact⟨rfl,rfl⟩
def getN(c j:Nat)(g:Nums):Nums×Int:=(g,g c j)
def putN(c j:Nat)(x:Int)(g:Nums):Nums×Unit:=(upd2 g c j x,())
def addN(c j:Nat)(x:Int)(g:Nums):Nums×Int:=(upd2 g c j (IntKind.i64.wrap (g c j+x)),IntKind.i64.wrap (g c j+x))
def casN(c j:Nat)(o x:Int)(g:Nums):Nums×Bool:=if g c j=o then(upd2 g c j x,true)else(g,false)
section
variable {M2 S2 β:Type} {D:Core M2 S2} {ro:Nat->Option Obj} {i:Nat} {T:NumT}
structure zq6c(Y:YSys Try.prog aM (zqi (zqq T) D) ro i β):Prop where
 load:∀c j,c<T.N->j<T.len c->SpecY Y 47 #[.pointer (some ⟨T.ob c,j,none⟩)] (onN (getN c j)) (λx=>.int .i64 x)
 store:∀c j x,c<T.N->j<T.len c->SpecY Y 58 #[.pointer (some ⟨T.ob c,j,none⟩),.int .i64 x] (onN (putN c j x)) (λ_=>.tuple #[])
 add:∀c j x,c<T.N->j<T.len c->SpecY Y 57 #[.pointer (some ⟨T.ob c,j,none⟩),.int .i64 x] (onN (addN c j x)) (λx=>.int .i64 x)
 cas:∀c j o x,c<T.N->j<T.len c->SpecY Y 55 #[.pointer (some ⟨T.ob c,j,none⟩),.int .i64 o,.int .i64 x] (onN (casN c j o x)) (λb=>.bool b)
theorem zq7p(Z:Alone Try.prog aM (zqi (zqq T) D) ro i β){I:Nums×S2->Prop}(hI:∀g g' s,I (g,s)->I (g',s))(hO:∀g g' s,Z.Oth (g,s) (g',s)):zq6c (Z.sys I) where
 load c j hc hj:=by
  refine Z.act Try.func47 rfl (by kernel_rfl) (λs h=>h) (λs=>Z.oth s) λm wc hB=>Calls.mono (zq5c _ _ wc ((zq1s hB wc.tape wc.drawn).cell hc hj)) ?_;rintro e w' ⟨rfl,rfl⟩;exact⟨m.l,Moved.ext hB (Ext.refl _),rfl,rfl⟩
 store c j x hc hj:=by
  refine Z.act Try.func58 rfl (by kernel_rfl) (λs h=>hI _ _ _ h) (λs=>hO _ _ _) λm wc hB=>Calls.mono (zqhe _ _ x wc ((zq1s hB wc.tape wc.drawn).cell hc hj) ((zq1s hB wc.tape wc.drawn).frozen hc)) ?_;rintro e w' ⟨rfl,rfl⟩;exact⟨_,zq5h hB hc x wc.tape wc.drawn _ _,rfl,rfl⟩
 add c j x hc hj:=by
  refine Z.act Try.func57 rfl (by kernel_rfl) (λs h=>hI _ _ _ h) (λs=>hO _ _ _) λm wc hB=>Calls.mono (add_lone _ _ x wc ((zq1s hB wc.tape wc.drawn).cell hc hj) ((zq1s hB wc.tape wc.drawn).frozen hc)) ?_;rintro e w' ⟨rfl,rfl⟩;exact⟨_,zq5h hB hc _ wc.tape wc.drawn _ _,rfl,rfl⟩
 cas c j o x hc hj:=by
  refine Z.act (g:=λs=>(((casN c j o x s.1).1,s.2),(casN c j o x s.1).2)) Try.func55 rfl (by kernel_rfl) (λs h=>hI _ _ _ h) (λs=>hO _ _ _) λm wc hB=>?_;have hst:(zqi (zqq T) D).st m.l=(m.l.1,D.st m.l.2):=rfl
  by_cases h:m.l.1 c j=o
  . have hcell:=(zq1s hB wc.tape wc.drawn).cell hc hj;rw[h]at hcell;refine Calls.mono (zqb0 _ _ x wc hcell ((zq1s hB wc.tape wc.drawn).frozen hc)) ?_;rintro e w' ⟨rfl,rfl⟩;refine⟨_,zq5h hB hc x wc.tape wc.drawn _ _,?_,?_⟩
    . rw[hst];unfold casN;rw[if_pos h];rfl
    . rw[hst];unfold casN;rw[if_pos h]
  . refine Calls.mono (zqb1 _ _ o x wc ((zq1s hB wc.tape wc.drawn).cell hc hj) ((zq1s hB wc.tape wc.drawn).frozen hc) h) ?_;rintro e w' ⟨rfl,rfl⟩;refine⟨m.l,Moved.ext hB (Ext.refl _),?_,?_⟩
    . rw[hst];unfold casN;rw[if_neg h]
    . rw[hst];unfold casN;rw[if_neg h]
end
def getP{S2:Type}(c:Nat):Proc (Nums×S2) (Int×Bool):=(Proc.tick.bind λ_=>onN (getN c 0)).bind λx=>if x=2 then(Proc.tick.bind λ_=>onN (getN c 1)).bind λv=>Proc.ret (v,true)else Proc.ret (0,false)
def finP{S2:Type}(c:Nat)(v:Int):Proc (Nums×S2) Unit:=(Proc.tick.bind λ_=>onN (putN c 1 v)).bind λ_=>Proc.tick.bind λ_=>onN (putN c 0 2)
def setP{S2:Type}(c:Nat)(v:Int):Proc (Nums×S2) (Int×Bool):=(Proc.tick.bind λ_=>onN (casN c 0 0 1)).bind λb=>if b=true then(finP c v).bind λ_=>Proc.ret (v,true)else(getP c).bind λx=>Proc.ret (x.1,false)
abbrev pairV(x:Int×Bool):Value:=.tuple #[.int .i64 x.1,.bool x.2]
section
variable {M2 S2 β:Type} {D:Core M2 S2} {ro:Nat->Option Obj} {i:Nat} {T:NumT}
structure OnceAtoms(Y:YSys Try.prog aM (zqi (zqq T) D) ro i β)(sv:Value):Prop where
 len:∀c,c<T.N->T.len c=3
 num:zq6c Y
 step:StepY Y 48 #[sv]
section
variable {Y:YSys Try.prog aM (zqi (zqq T) D) ro i β} {sv:Value} (hst:OnceAtoms Y sv) {c:Nat} (hc:c<T.N)
include hst hc
theorem OnceAtoms.load {j:Nat}(hj:j<3):SpecY Y 47 #[.pointer (some ⟨T.ob c,j,none⟩)] (onN (getN c j)) (λx=>.int .i64 x):=hst.num.load c j hc (by rw[hst.len c hc];exact hj)
theorem OnceAtoms.store {j:Nat}(hj:j<3)(x:Int):SpecY Y 58 #[.pointer (some ⟨T.ob c,j,none⟩),.int .i64 x] (onN (putN c j x)) (λ_=>.tuple #[]):=hst.num.store c j x hc (by rw[hst.len c hc];exact hj)
theorem OnceAtoms.add {j:Nat}(hj:j<3)(x:Int):SpecY Y 57 #[.pointer (some ⟨T.ob c,j,none⟩),.int .i64 x] (onN (addN c j x)) (λx=>.int .i64 x):=hst.num.add c j x hc (by rw[hst.len c hc];exact hj)
theorem OnceAtoms.cas {j:Nat}(hj:j<3)(o x:Int):SpecY Y 55 #[.pointer (some ⟨T.ob c,j,none⟩),.int .i64 o,.int .i64 x] (onN (casN c j o x)) (λb=>.bool b):=hst.num.cas c j o x hc (by rw[hst.len c hc];exact hj)
end
theorem zq75(Y:YSys Try.prog aM (zqi (zqq T) D) ro i β)(c:Nat)(K:Int×Bool->Proc (Nums×S2) β):Y.sil ((getP c).bind K):=by
 rw[getP,Proc.bind_bind,Proc.bind_bind];exact Y.sil_tick _
theorem zq53(Y:YSys Try.prog aM (zqi (zqq T) D) ro i β)(c:Nat)(v:Int)(K:Unit->Proc (Nums×S2) β):Y.sil ((finP c v).bind K):=by
 rw[finP,Proc.bind_bind,Proc.bind_bind];exact Y.sil_tick _
theorem zq4b(Y:YSys Try.prog aM (zqi (zqq T) D) ro i β){sv:Value}(hst:OnceAtoms Y sv){c:Nat}(hc:c<T.N):
 SpecB Y 25 #[.pointer (some ⟨T.ob c,0,none⟩),sv] (getP c) pairV:=by
 refine SpecB.of Try.func25 rfl ?_;intro K s B w hK hA;simp only[zqg,Try.ntmps25,List.size_toArray,List.length_cons,List.length_nil,Nat.reduceAdd,Nat.reduceSub,Array.replicate_succ,Array.replicate_zero,List.push_toArray,List.append_toArray,List.nil_append,List.cons_append];apply YSys.seq0 hA (by kernel_rfl)
 . intro wc hB;go_wp2;exact⟨rfl,Ext1.refl _,rfl⟩
 intro w hA;refine zqj Y.jc ?_;apply YSys.seq0 hA (by kernel_rfl)
 . intro wc hB;go_wp2;exact⟨rfl,Ext1.refl _,rfl⟩
 intro w hA;refine zqr Y.jc rfl (zq1i Y.jc ?_);show wpJ Y.J _ _ _ _ _;refine zqj Y.jc (zqv Y.jc ?_);rw[getP,Proc.bind_bind,Proc.bind_bind]at hA;apply YSys.callS 0 1 0 hA hst.step rfl rfl rfl (by rfl) rfl rfl rfl
 . intro wc hB X hX;have HX:=Lib.hid hX;clear hX;go_wp2;exact HX.out _ (Ext1.refl _)
 . intro w;simp[go_sem,execOp,Act.eval,resolve,Deferred.ofValue,invoke,callFunc,Try.func48,Try.f48]
 . intro w;simp[go_sem,execOp,Act.eval,resolve,Deferred.ofValue,invoke,callFunc,Try.func48,Try.f48]
 . intro s' ch w' h;exact⟨rfl,h⟩
 intro s w hA;refine zq18 Y.jc ?_;show wpJ Y.J _ _ _ _ _;refine zqj Y.jc ?_;refine zqj Y.jc (zqv Y.jc ?_);apply YSys.callR 0 3 1 hA (hst.load hc (j:=0) (by decide)) (λx=>by split<;>first|exact hK _|(rw[Proc.bind_bind,Proc.bind_bind];exact Y.sil_tick _)) rfl rfl rfl (by rfl) rfl rfl rfl
 . intro wc hB X hX;have HX:=Lib.hid hX;clear hX;go_wp2;exact HX.out _ (Ext1.refl _)
 . intro w;simp[go_sem,execOp,Act.eval,resolve,Deferred.ofValue,invoke,callFunc,Try.func47,Try.f47]
 . intro w;simp[go_sem,execOp,Act.eval,resolve,Deferred.ofValue,invoke,callFunc,Try.func47,Try.f47]
 . intro s' ch w' h;exact⟨rfl,h⟩
 intro s x w hA;apply YSys.ops0 4 1 hA rfl rfl (by kernel_rfl)
 . intro wc hB;go_wp2;exact⟨rfl,Ext1.refl _,rfl⟩
 intro w hA;show wpJ Y.J _ _ _ _ _
 by_cases hx:x=2
 . rw[if_pos hx]at hA;refine zqr Y.jc rfl ?_;rw[if_neg (by simp[hx])];refine zq1i Y.jc ?_;show wpJ Y.J _ _ _ _ _;refine zqj Y.jc (zqv Y.jc ?_);rw[Proc.bind_bind,Proc.bind_bind]at hA;apply YSys.callS 0 1 0 hA hst.step rfl rfl rfl (by rfl) rfl rfl rfl
   . intro wc hB X hX;have HX:=Lib.hid hX;clear hX;go_wp2;exact HX.out _ (Ext1.refl _)
   . intro w;simp[go_sem,execOp,Act.eval,resolve,Deferred.ofValue,invoke,callFunc,Try.func48,Try.f48]
   . intro w;simp[go_sem,execOp,Act.eval,resolve,Deferred.ofValue,invoke,callFunc,Try.func48,Try.f48]
   . intro s' ch w' h;exact⟨rfl,h⟩
   intro s w hA;refine zq18 Y.jc ?_;show wpJ Y.J _ _ _ _ _;refine zqj Y.jc (zqv Y.jc ?_);apply YSys.callR 0 3 2 hA (hst.load hc (j:=1) (by decide)) (λ_=>hK _) rfl rfl rfl (by rfl) rfl rfl rfl
   . intro wc hB X hX;have HX:=Lib.hid hX;clear hX;go_wp2;exact HX.out _ (Ext1.refl _)
   . intro w;simp[go_sem,execOp,Act.eval,resolve,Deferred.ofValue,invoke,callFunc,Try.func47,Try.f47]
   . intro w;simp[go_sem,execOp,Act.eval,resolve,Deferred.ofValue,invoke,callFunc,Try.func47,Try.f47]
   . intro s' ch w' h;exact⟨rfl,h⟩
   intro s x w hA;apply YSys.ops0 4 2 hA rfl rfl (by kernel_rfl)
   . intro wc hB;go_wp2;exact⟨rfl,Ext1.refl _,rfl⟩
   intro w hA;show wpJ Y.J _ _ _ _ _;refine zqz Y.jc ?_;exact⟨rfl,.inl ⟨_,resultsC_tmp2 rfl _,_,rfl,hA⟩⟩
 . rw[if_neg hx]at hA;refine zqr Y.jc rfl ?_;rw[if_pos (by simpa using hx)];apply YSys.seq0 hA (by kernel_rfl)
   . intro wc hB;go_wp2;exact⟨rfl,Ext1.refl _,rfl⟩
   intro w hA;refine zqz Y.jc ?_;exact⟨rfl,.inl ⟨_,resultsC_tmp2 rfl _,_,rfl,hA⟩⟩
end
section
variable {M2 S2 β:Type} {D:Core M2 S2} {ro:Nat->Option Obj} {i:Nat} {T:NumT}
theorem zq70(Y:YSys Try.prog aM (zqi (zqq T) D) ro i β){sv:Value}(hst:OnceAtoms Y sv){c:Nat}(hc:c<T.N)(v:Int):
 SpecB Y 56 #[.pointer (some ⟨T.ob c,0,none⟩),sv,.int .i64 v] (finP c v) (λ_=>.tuple #[]):=by
 refine SpecB.of Try.func56 rfl ?_;intro K s B w hK hA;simp only[zqg,Try.ntmps56,List.size_toArray,List.length_cons,List.length_nil,Nat.reduceAdd,Nat.reduceSub,Array.replicate_succ,Array.replicate_zero,List.push_toArray,List.append_toArray,List.nil_append,List.cons_append];refine zqj Y.jc (zqv Y.jc ?_);rw[finP,Proc.bind_bind,Proc.bind_bind]at hA;apply YSys.callS 0 1 0 hA hst.step rfl rfl rfl (by rfl) rfl rfl rfl
 . intro wc hB X hX;have HX:=Lib.hid hX;clear hX;go_wp2;exact HX.out _ (Ext1.refl _)
 . intro w;simp[go_sem,execOp,Act.eval,resolve,Deferred.ofValue,invoke,callFunc,Try.func48,Try.f48]
 . intro w;simp[go_sem,execOp,Act.eval,resolve,Deferred.ofValue,invoke,callFunc,Try.func48,Try.f48]
 . intro s' ch w' h;exact⟨rfl,h⟩
 intro s w hA;refine zq18 Y.jc ?_;show wpJ Y.J _ _ _ _ _;refine zqj Y.jc (zqv Y.jc ?_);apply YSys.callR 0 4 0 hA (hst.store hc (j:=1) (by decide) v) (λ_=>by rw[Proc.bind_bind];exact Y.sil_tick _) rfl rfl rfl (by rfl) rfl rfl rfl
 . intro wc hB X hX;have HX:=Lib.hid hX;clear hX;go_wp2;exact HX.out _ (Ext1.refl _)
 . intro w;simp[go_sem,execOp,Act.eval,resolve,Deferred.ofValue,invoke,callFunc,Try.func58,Try.f58]
 . intro w;simp[go_sem,execOp,Act.eval,resolve,Deferred.ofValue,invoke,callFunc,Try.func58,Try.f58]
 . intro s' ch w' h;exact⟨rfl,h⟩
 intro s x w hA;refine zq18 Y.jc ?_;show wpJ Y.J _ _ _ _ _;refine zqj Y.jc (zqv Y.jc ?_);rw[Proc.bind_bind]at hA;apply YSys.callS 0 1 0 hA hst.step rfl rfl rfl (by rfl) rfl rfl rfl
 . intro wc hB X hX;have HX:=Lib.hid hX;clear hX;go_wp2;exact HX.out _ (Ext1.refl _)
 . intro w;simp[go_sem,execOp,Act.eval,resolve,Deferred.ofValue,invoke,callFunc,Try.func48,Try.f48]
 . intro w;simp[go_sem,execOp,Act.eval,resolve,Deferred.ofValue,invoke,callFunc,Try.func48,Try.f48]
 . intro s' ch w' h;exact⟨rfl,h⟩
 intro s w hA;refine zq18 Y.jc ?_;show wpJ Y.J _ _ _ _ _;refine zqv Y.jc ?_;apply YSys.callR 0 3 0 hA (hst.store hc (j:=0) (by decide) 2) (λ_=>hK _) rfl rfl rfl (by rfl) rfl rfl rfl
 . intro wc hB X hX;have HX:=Lib.hid hX;clear hX;go_wp2;exact HX.out _ (Ext1.refl _)
 . intro w;simp[go_sem,execOp,Act.eval,resolve,Deferred.ofValue,invoke,callFunc,Try.func58,Try.f58]
 . intro w;simp[go_sem,execOp,Act.eval,resolve,Deferred.ofValue,invoke,callFunc,Try.func58,Try.f58]
 . intro s' ch w' h;exact⟨rfl,h⟩
 intro s x w hA;refine zq18 Y.jc ?_;exact⟨rfl,.inl ⟨_,resultsC_none rfl _,(),rfl,hA⟩⟩
theorem set_spec(Y:YSys Try.prog aM (zqi (zqq T) D) ro i β){sv:Value}(hst:OnceAtoms Y sv){c:Nat}(hc:c<T.N)(v:Int):
 SpecB Y 26 #[.pointer (some ⟨T.ob c,0,none⟩),sv,.int .i64 v] (setP c v) pairV:=by
 refine SpecB.of Try.func26 rfl ?_;intro K s B w hK hA;simp only[zqg,Try.ntmps26,List.size_toArray,List.length_cons,List.length_nil,Nat.reduceAdd,Nat.reduceSub,Array.replicate_succ,Array.replicate_zero,List.push_toArray,List.append_toArray,List.nil_append,List.cons_append];apply YSys.seq0 hA (by kernel_rfl)
 . intro wc hB;go_wp2;exact⟨rfl,Ext1.refl _,rfl⟩
 intro w hA;refine zqj Y.jc ?_;apply YSys.seq0 hA (by kernel_rfl)
 . intro wc hB;go_wp2;exact⟨rfl,Ext1.refl _,rfl⟩
 intro w hA;refine zqr Y.jc rfl (zq1i Y.jc ?_);show wpJ Y.J _ _ _ _ _;refine zqj Y.jc (zqv Y.jc ?_);rw[setP,Proc.bind_bind,Proc.bind_bind]at hA;apply YSys.callS 0 1 0 hA hst.step rfl rfl rfl (by rfl) rfl rfl rfl
 . intro wc hB X hX;have HX:=Lib.hid hX;clear hX;go_wp2;exact HX.out _ (Ext1.refl _)
 . intro w;simp[go_sem,execOp,Act.eval,resolve,Deferred.ofValue,invoke,callFunc,Try.func48,Try.f48]
 . intro w;simp[go_sem,execOp,Act.eval,resolve,Deferred.ofValue,invoke,callFunc,Try.func48,Try.f48]
 . intro s' ch w' h;exact⟨rfl,h⟩
 intro s w hA;refine zq18 Y.jc ?_;show wpJ Y.J _ _ _ _ _;refine zqj Y.jc ?_;refine zqj Y.jc (zqv Y.jc ?_);apply YSys.callR 0 3 0 hA (hst.cas hc (j:=0) (by decide) 0 1) (λb=>by split<;>(rw[Proc.bind_bind];first|exact zq53 Y _ _ _|exact zq75 Y _ _)) rfl rfl rfl (by rfl) rfl rfl rfl
 . intro wc hB X hX;have HX:=Lib.hid hX;clear hX;go_wp2;exact HX.out _ (Ext1.refl _)
 . intro w;simp[go_sem,execOp,Act.eval,resolve,Deferred.ofValue,invoke,callFunc,Try.func55,Try.f55]
 . intro w;simp[go_sem,execOp,Act.eval,resolve,Deferred.ofValue,invoke,callFunc,Try.func55,Try.f55]
 . intro s' ch w' h;exact⟨rfl,h⟩
 intro s x w hA;refine zq18 Y.jc ?_;show wpJ Y.J _ _ _ _ _;cases x with
 |true=>
  rw[if_pos rfl,Proc.bind_bind]at hA;refine zqr Y.jc rfl ?_;rw[if_pos rfl];refine zqj Y.jc (zqv Y.jc ?_);apply YSys.callR 0 3 0 hA (zq70 Y hst hc v).spec (λ_=>hK _) rfl rfl rfl (by rfl) rfl rfl rfl
  . intro wc hB X hX;have HX:=Lib.hid hX;clear hX;go_wp2;exact HX.out _ (Ext1.refl _)
  . intro w;simp[go_sem,execOp,Act.eval,resolve,Deferred.ofValue,invoke,callFunc,Try.func56,Try.f56]
  . intro w;simp[go_sem,execOp,Act.eval,resolve,Deferred.ofValue,invoke,callFunc,Try.func56,Try.f56]
  . intro s' ch w' h;exact⟨rfl,h⟩
  intro s x w hA;refine zq18 Y.jc ?_;show wpJ Y.J _ _ _ _ _;apply YSys.seq0 hA (by kernel_rfl)
  . intro wc hB;go_wp2;exact⟨rfl,Ext1.refl _,rfl⟩
  intro w hA;refine zqz Y.jc ?_;exact⟨rfl,.inl ⟨_,resultsC_tmp2 rfl _,_,rfl,hA⟩⟩
 |false=>
  rw[if_neg (by decide),Proc.bind_bind]at hA;refine zqr Y.jc rfl (zq1i Y.jc ?_);show wpJ Y.J _ _ _ _ _;refine zqj Y.jc (zqv Y.jc ?_);apply YSys.callR 0 2 4 hA (zq4b Y hst hc).spec (λ_=>hK _) rfl rfl rfl (by rfl) rfl rfl rfl
  . intro wc hB X hX;have HX:=Lib.hid hX;clear hX;go_wp2;exact HX.out _ (Ext1.refl _)
  . intro w;simp[go_sem,execOp,Act.eval,resolve,Deferred.ofValue,invoke,callFunc,Try.func25,Try.f25]
  . intro w;simp[go_sem,execOp,Act.eval,resolve,Deferred.ofValue,invoke,callFunc,Try.func25,Try.f25]
  . intro s' ch w' h;exact⟨rfl,h⟩
  intro s x w hA;apply YSys.ops0 3 4 hA rfl rfl (by kernel_rfl)
  . intro wc hB;go_wp2;exact⟨rfl,Ext1.refl _,rfl⟩
  intro w hA;show wpJ Y.J _ _ _ _ _;apply YSys.seq0 hA (by kernel_rfl)
  . intro wc hB;go_wp2;exact⟨rfl,Ext1.refl _,rfl⟩
  intro w hA;refine zqz Y.jc ?_;exact⟨rfl,.inl ⟨_,resultsC_tmp2 rfl _,_,rfl,hA⟩⟩
end
@[go_sem] theorem eql_maker (f : Fn) (a b : Array Value) (w : World) : (binOp .eql 83 (.func f a b) .nilFunc).run Try.prog w = .ok (.bool false) w := by rfl
def makeL{S2:Type}(c:Nat)(mk:Proc (Nums×S2) (Int×Bool)):Nat->Proc (Nums×S2) (Int×Int)
 |0=>Proc.ret (0,4)
 |n+1=>(getP c).bind λx=>if x.2=true then Proc.ret (x.1,0)else
  (Proc.tick.bind λ_=>onN (casN c 0 0 1)).bind λb=>if b=true then
   (Proc.tick.bind λ_=>onN (addN c 2 1)).bind λ_=>mk.bind λv=>if v.2=true then(finP c v.1).bind λ_=>Proc.ret (v.1,0)else(Proc.tick.bind λ_=>onN (putN c 0 0)).bind λ_=>Proc.ret (0,6)
  else makeL c mk n
def triesN(t:Int):Nat:=(min (max t 1) 1024).toNat
theorem zqai(t:Int):0<triesN t/\triesN t<=1024:=by unfold triesN;omega
abbrev errV(x:Int×Int):Value:=.tuple #[.int .i64 x.1,.int .i64 x.2]
section
variable {M2 S2 β:Type} {D:Core M2 S2} {ro:Nat->Option Obj} {i:Nat} {T:NumT}
theorem zqcn(Y:YSys Try.prog aM (zqi (zqq T) D) ro i β)(c:Nat)(mk:Proc (Nums×S2) (Int×Bool)){K:Int×Int->Proc (Nums×S2) β}(hK:∀a,Y.sil (K a))(n:Nat):Y.sil ((makeL c mk n).bind K):=by
 cases n with
 |zero=>exact hK _
 |succ n=>rw[makeL,Proc.bind_bind];exact zq75 Y _ _
theorem zq5f(Y:YSys Try.prog aM (zqi (zqq T) D) ro i β){sv:Value}(hst:OnceAtoms Y sv){c:Nat}(hc:c<T.N){mf:FuncId}{first caps:Array Value}{mk:Proc (Nums×S2) (Int×Bool)}{fn:Func}{cc:Code}(hf:Try.prog.funcs[mf]?=some fn)(hb':fn.body=some cc)(hnm:(fn.name== "runtime.NumGoroutine")=false){B:Nat->Option Obj}(hmk:SpecAt Y B mf (first++#[sv]++caps) mk pairV)(hms:∀K,(∀a,Y.sil (K a))->Y.sil (mk.bind K))(tries:Int):
 SpecAt Y B 27 #[.pointer (some ⟨T.ob c,0,none⟩),sv,.int .i64 tries,.func (.func mf) first caps] (makeL c mk (triesN tries)) errV:=by
 refine SpecAt.of Try.func27 rfl ?_;intro K s w hK hA;simp only[zqg,Try.ntmps27,List.size_toArray,List.length_cons,List.length_nil,Nat.reduceAdd,Nat.reduceSub,Array.replicate_succ,Array.replicate_zero,List.push_toArray,List.append_toArray,List.nil_append,List.cons_append];have HKK:=Lib.hid hK;have HM:=Lib.hid (And.intro hmk hms);have HT:=Lib.hid (zqai tries);have HF:=Lib.hid (And.intro hf (And.intro hb' hnm));clear hK hmk hms hf hb' hnm;apply YSys.seq0 hA (by kernel_rfl)
 . intro wc hB;go_wp2;exact⟨rfl,Ext1.refl _,rfl⟩
 intro w hA;refine zqj Y.jc (zq2l Y.jc ?_);apply YSys.seq0 hA (by kernel_rfl)
 . intro wc hB;go_wp2;exact⟨rfl,Ext1.refl _,rfl⟩
 intro w hA;refine zqr Y.jc rfl ?_;rw[if_neg (by decide)];apply YSys.seq0 hA (by kernel_rfl)
 . intro wc hB;go_wp2;exact⟨rfl,Ext1.refl _,rfl⟩
 intro w hA;refine zqr Y.jc rfl ?_;rw[if_neg (by decide)];refine zq1i Y.jc ?_;show wpJ Y.J _ _ _ _ _;refine zqj Y.jc ?_;apply YSys.seq0 (t':=#[.pointer (some ⟨T.ob c,0,none⟩),sv,.int .i64 tries,.func (.func mf) first caps,undef,undef,undef,undef,.int .i64 0,.int .i64 0,undef,undef,undef,undef,.bool false,.pointer (some ⟨T.ob c,0,none⟩),.bool false,.bool false,.func (.func mf) first caps,.bool false,.int .i64 tries,.int .i64 (max tries 1),.int .i64 (triesN tries:Nat),.int .i64 0,undef,undef,undef,undef,undef,undef,undef,undef,undef,undef,undef,undef,undef,undef,undef,undef,undef,undef,undef,undef,undef,undef,undef,undef,undef,undef,undef,undef,undef,undef,undef,undef,undef,undef,undef,undef,undef,undef,undef,undef,undef]) hA (by kernel_rfl)
 . intro wc hB;rcases(by omega:tries<1\/(1<=tries/\tries<=1024)\/1024<tries)with h|⟨h,h'⟩|h
   . have e:((triesN tries:Nat):Int)=1:=by unfold triesN;omega
     have e2:max tries 1=1:=by omega
     have h1:tries<=1:=by omega
     rw[e,e2];clear HT e e2;go_wp2;exact⟨rfl,Ext1.refl _,rfl⟩
   . have e:((triesN tries:Nat):Int)=tries:=by unfold triesN;omega
     have e2:max tries 1=tries:=by omega
     rw[e,e2];clear HT e e2;go_wp2;exact⟨rfl,Ext1.refl _,rfl⟩
   . have e:((triesN tries:Nat):Int)=1024:=by unfold triesN;omega
     have e2:max tries 1=tries:=by omega
     have h1:1<=tries:=by omega
     have h2:¬tries<=1024:=by omega
     rw[e,e2];clear HT e e2;go_wp2;exact⟨rfl,Ext1.refl _,rfl⟩
 intro w hA;refine zq2l Y.jc (zqam Y.jc (λs a w n=>∃(k:Nat)(x4 x5 x6 x7 x10 x11 x12 x13 x14 x15 x16 x17 x18 x19 x20 x21 x24 x25 x26 x27 x28 x29 x30 x31 x32 x33 x34 x35 x36 x37 x38 x39 x40 x41 x42 x43 x44 x45 x46 x47 x48 x49 x50 x51 x52 x53 x54 x55 x56 x57 x58 x59 x60 x61 x62 x63 x64:Value),k+n=triesN tries/\a=⟨#[.pointer (some ⟨T.ob c,0,none⟩),sv,.int .i64 tries,.func (.func mf) first caps,x4,x5,x6,x7,.int .i64 0,.int .i64 0,x10,x11,x12,x13,x14,x15,x16,x17,x18,x19,x20,x21,.int .i64 (triesN tries:Nat),.int .i64 k,x24,x25,x26,x27,x28,x29,x30,x31,x32,x33,x34,x35,x36,x37,x38,x39,x40,x41,x42,x43,x44,x45,x46,x47,x48,x49,x50,x51,x52,x53,x54,x55,x56,x57,x58,x59,x60,x61,x62,x63,x64],[]⟩/\Y.AtB B s w ((makeL c mk n).bind K)) (triesN tries) ?_ ?_)
 . exact⟨0,_,_,_,_,_,_,_,_,_,_,_,_,_,_,_,_,_,_,_,_,_,_,_,_,_,_,_,_,_,_,_,_,_,_,_,_,_,_,_,_,_,_,_,_,_,_,_,_,_,_,_,_,_,_,_,_,_,by omega,rfl,hA⟩
 clear hA;rintro s a w n ⟨k,x4,x5,x6,x7,x10,x11,x12,x13,x14,x15,x16,x17,x18,x19,x20,x21,x24,x25,x26,x27,x28,x29,x30,x31,x32,x33,x34,x35,x36,x37,x38,x39,x40,x41,x42,x43,x44,x45,x46,x47,x48,x49,x50,x51,x52,x53,x54,x55,x56,x57,x58,x59,x60,x61,x62,x63,x64,hkn,rfl,hA⟩;have HN:=Lib.hid (And.intro hkn HT.out);clear hkn;cases n with
 |zero=>
  apply YSys.seq0 hA (by kernel_rfl)
  . intro wc hB;go_wp2;exact⟨rfl,Ext1.refl _,rfl⟩
  intro w hA;refine zqj Y.jc (zqr Y.jc rfl ?_);rw[if_neg (by have:=HN.out;simp only[decide_eq_true_eq];omega)];refine zq68 Y.jc ?_;show wpJ Y.J _ _ _ _ _;apply YSys.seq0 hA (by kernel_rfl)
  . intro wc hB;go_wp2;exact⟨rfl,Ext1.refl _,rfl⟩
  intro w hA;refine zqz Y.jc ?_;exact⟨rfl,.inl ⟨_,resultsC_tmp2 rfl _,(0,4),rfl,hA⟩⟩
 |succ n=>
  have hk:(k:Int)<(triesN tries:Nat):=by have:=HN.out;omega
  apply YSys.seq0 hA (by kernel_rfl)
  . intro wc hB;go_wp2;exact⟨rfl,Ext1.refl _,rfl⟩
  intro w hA;refine zqj Y.jc (zqr Y.jc rfl ?_);rw[if_pos (by simpa using hk)];refine zq1i Y.jc ?_;show wpJ Y.J _ _ _ _ _;refine zqj Y.jc (zq2l Y.jc ?_);refine zqj Y.jc ?_;refine zqj Y.jc (zqv Y.jc ?_);rw[makeL,Proc.bind_bind]at hA;apply YSys.callR 0 2 5 hA (zq4b Y hst hc).spec (λx=>by split<;>first|exact HKK.out _|(rw[Proc.bind_bind,Proc.bind_bind];exact Y.sil_tick _)) rfl rfl rfl (by rfl) rfl rfl rfl
  . intro wc hB X hX;have HX:=Lib.hid hX;clear hX;go_wp2;exact HX.out _ (Ext1.refl _)
  . intro w;simp[go_sem,execOp,Act.eval,resolve,Deferred.ofValue,invoke,callFunc,Try.func25,Try.f25]
  . intro w;simp[go_sem,execOp,Act.eval,resolve,Deferred.ofValue,invoke,callFunc,Try.func25,Try.f25]
  . intro s' ch w' h;exact⟨rfl,h⟩
  intro s x w hA;apply YSys.ops0 3 5 hA rfl rfl (by kernel_rfl)
  . intro wc hB;go_wp2;exact⟨rfl,Ext1.refl _,rfl⟩
  intro w hA;show wpJ Y.J _ _ _ _ _;apply YSys.seq0 hA (by kernel_rfl)
  . intro wc hB;go_wp2;exact⟨rfl,Ext1.refl _,rfl⟩
  intro w hA
  by_cases hx:x.2=true
  . rw[if_pos hx]at hA;refine zqr Y.jc rfl ?_;rw[if_pos hx];apply YSys.seq0 hA (by kernel_rfl)
    . intro wc hB;go_wp2;exact⟨rfl,Ext1.refl _,rfl⟩
    intro w hA;refine zqz Y.jc ?_;exact⟨rfl,.inl ⟨_,resultsC_tmp2 rfl _,(x.1,0),rfl,hA⟩⟩
  . rw[if_neg hx,Proc.bind_bind,Proc.bind_bind]at hA;refine zqr Y.jc rfl ?_;rw[if_neg hx];refine zq1i Y.jc ?_;clear hx;show wpJ Y.J _ _ _ _ _;refine zqj Y.jc (zqv Y.jc ?_);apply YSys.callS 0 1 0 hA hst.step rfl rfl rfl (by rfl) rfl rfl rfl
    . intro wc hB X hX;have HX:=Lib.hid hX;clear hX;go_wp2;exact HX.out _ (Ext1.refl _)
    . intro w;simp[go_sem,execOp,Act.eval,resolve,Deferred.ofValue,invoke,callFunc,Try.func48,Try.f48]
    . intro w;simp[go_sem,execOp,Act.eval,resolve,Deferred.ofValue,invoke,callFunc,Try.func48,Try.f48]
    . intro s' ch w' h;exact⟨rfl,h⟩
    intro s w hA;refine zq18 Y.jc ?_;show wpJ Y.J _ _ _ _ _;refine zqj Y.jc ?_;refine zqj Y.jc (zqv Y.jc ?_);apply YSys.callR 0 3 1 hA (hst.cas hc (j:=0) (by decide) 0 1) (λb=>by split<;>first|exact zqcn Y c mk HKK.out n|(rw[Proc.bind_bind,Proc.bind_bind];exact Y.sil_tick _)) rfl rfl rfl (by rfl) rfl rfl rfl
    . intro wc hB X hX;have HX:=Lib.hid hX;clear hX;go_wp2;exact HX.out _ (Ext1.refl _)
    . intro w;simp[go_sem,execOp,Act.eval,resolve,Deferred.ofValue,invoke,callFunc,Try.func55,Try.f55]
    . intro w;simp[go_sem,execOp,Act.eval,resolve,Deferred.ofValue,invoke,callFunc,Try.func55,Try.f55]
    . intro s' ch w' h;exact⟨rfl,h⟩
    intro s b w hA;apply YSys.ops0 4 1 hA rfl rfl (by kernel_rfl)
    . intro wc hB;go_wp2;exact⟨rfl,Ext1.refl _,rfl⟩
    intro w hA;show wpJ Y.J _ _ _ _ _
    by_cases hb:¬b=true
    . rw[if_neg hb]at hA;refine zqr Y.jc rfl ?_;rw[if_pos (by simpa using hb)];clear hb;refine zq68 Y.jc ?_;show wpJ Y.J _ _ _ _ _;have e1:IntKind.i64.wrap ((k:Int)+1)=((k+1:Nat):Int):=by have:=HN.out;rw[IntWalk.i64_in _ (by omega)];omega
      apply YSys.code0 hA (by kernel_rfl)
      . intro wc hB;go_wp2;exact⟨rfl,Ext1.refl _,rfl⟩
      intro w hA;exact⟨n,by omega,k+1,_,_,_,_,_,_,_,_,_,_,_,_,_,_,_,_,_,_,_,_,_,_,_,_,_,_,_,_,_,_,_,_,_,_,_,_,_,_,_,_,_,_,_,_,_,_,_,_,_,_,_,_,_,_,_,_,_,by have:=HN.out;omega,rfl,hA⟩
    . replace hb:=Classical.not_not.1 hb;rw[if_pos hb,Proc.bind_bind,Proc.bind_bind]at hA;refine zqr Y.jc rfl ?_;rw[if_neg (by simp[hb])];clear hb;refine zq1i Y.jc ?_;show wpJ Y.J _ _ _ _ _;refine zqj Y.jc (zqv Y.jc ?_);apply YSys.callS 0 1 0 hA hst.step rfl rfl rfl (by rfl) rfl rfl rfl
      . intro wc hB X hX;have HX:=Lib.hid hX;clear hX;go_wp2;exact HX.out _ (Ext1.refl _)
      . intro w;simp[go_sem,execOp,Act.eval,resolve,Deferred.ofValue,invoke,callFunc,Try.func48,Try.f48]
      . intro w;simp[go_sem,execOp,Act.eval,resolve,Deferred.ofValue,invoke,callFunc,Try.func48,Try.f48]
      . intro s' ch w' h;exact⟨rfl,h⟩
      intro s w hA;refine zq18 Y.jc ?_;show wpJ Y.J _ _ _ _ _;refine zqj Y.jc (zqv Y.jc ?_);apply YSys.callR 0 3 0 hA (hst.add hc (j:=2) (by decide) 1) (λ_=>by rw[Proc.bind_bind];exact HM.out.2 _ (λv=>by split<;>(rw[Proc.bind_bind];first|exact zq53 Y _ _ _|(rw[Proc.bind_bind];exact Y.sil_tick _)))) rfl rfl rfl (by rfl) rfl rfl rfl
      . intro wc hB X hX;have HX:=Lib.hid hX;clear hX;go_wp2;exact HX.out _ (Ext1.refl _)
      . intro w;simp[go_sem,execOp,Act.eval,resolve,Deferred.ofValue,invoke,callFunc,Try.func57,Try.f57]
      . intro w;simp[go_sem,execOp,Act.eval,resolve,Deferred.ofValue,invoke,callFunc,Try.func57,Try.f57]
      . intro s' ch w' h;exact⟨rfl,h⟩
      intro s _ w hA;refine zq18 Y.jc ?_;show wpJ Y.J _ _ _ _ _;rw[Proc.bind_bind]at hA;refine zqj Y.jc (zqv Y.jc ?_);apply YSys.callB 0 2 5 hA HM.out.1 (λv=>by split<;>(rw[Proc.bind_bind];first|exact zq53 Y _ _ _|(rw[Proc.bind_bind];exact Y.sil_tick _))) rfl rfl rfl (by rfl) rfl rfl rfl
      . intro wc hB X hX;have HX:=Lib.hid hX;clear hX;go_wp2;exact HX.out _ (Ext1.refl _)
      . intro w;have hf:=HF.out.1;have hb':=HF.out.2.1;have hnm':¬fn.name= "runtime.NumGoroutine" :=by simpa using HF.out.2.2
        simp[go_sem,execOp,Act.eval,resolve,Deferred.ofValue,invoke,callFunc,hf,hb',hnm']
      . intro w;have hf:=HF.out.1;have hb':=HF.out.2.1;have hnm':¬fn.name= "runtime.NumGoroutine" :=by simpa using HF.out.2.2
        simp[go_sem,execOp,Act.eval,resolve,Deferred.ofValue,invoke,callFunc,hf,hb',hnm']
      . intro s' ch w' h;exact⟨rfl,h⟩
      intro s v w hA;apply YSys.ops0 3 5 hA rfl rfl (by kernel_rfl)
      . intro wc hB;go_wp2;exact⟨rfl,Ext1.refl _,rfl⟩
      intro w hA;show wpJ Y.J _ _ _ _ _;refine zqj Y.jc ?_;apply YSys.seq0 hA (by kernel_rfl)
      . intro wc hB;go_wp2;exact⟨rfl,Ext1.refl _,rfl⟩
      intro w hA
      by_cases hv:v.2=true
      . rw[if_pos hv,Proc.bind_bind]at hA;refine zqr Y.jc rfl ?_;rw[if_pos hv];clear hv;refine zqj Y.jc (zqv Y.jc ?_);apply YSys.callR 0 3 0 hA (zq70 Y hst hc v.1).spec (λ_=>HKK.out _) rfl rfl rfl (by rfl) rfl rfl rfl
        . intro wc hB X hX;have HX:=Lib.hid hX;clear hX;go_wp2;exact HX.out _ (Ext1.refl _)
        . intro w;simp[go_sem,execOp,Act.eval,resolve,Deferred.ofValue,invoke,callFunc,Try.func56,Try.f56]
        . intro w;simp[go_sem,execOp,Act.eval,resolve,Deferred.ofValue,invoke,callFunc,Try.func56,Try.f56]
        . intro s' ch w' h;exact⟨rfl,h⟩
        intro s _ w hA;refine zq18 Y.jc ?_;show wpJ Y.J _ _ _ _ _;apply YSys.seq0 hA (by kernel_rfl)
        . intro wc hB;go_wp2;exact⟨rfl,Ext1.refl _,rfl⟩
        intro w hA;refine zqz Y.jc ?_;exact⟨rfl,.inl ⟨_,resultsC_tmp2 rfl _,(v.1,0),rfl,hA⟩⟩
      . rw[if_neg hv,Proc.bind_bind,Proc.bind_bind]at hA;refine zqr Y.jc rfl ?_;rw[if_neg hv];clear hv;refine zq1i Y.jc ?_;show wpJ Y.J _ _ _ _ _;refine zqj Y.jc (zqv Y.jc ?_);apply YSys.callS 0 1 0 hA hst.step rfl rfl rfl (by rfl) rfl rfl rfl
        . intro wc hB X hX;have HX:=Lib.hid hX;clear hX;go_wp2;exact HX.out _ (Ext1.refl _)
        . intro w;simp[go_sem,execOp,Act.eval,resolve,Deferred.ofValue,invoke,callFunc,Try.func48,Try.f48]
        . intro w;simp[go_sem,execOp,Act.eval,resolve,Deferred.ofValue,invoke,callFunc,Try.func48,Try.f48]
        . intro s' ch w' h;exact⟨rfl,h⟩
        intro s w hA;refine zq18 Y.jc ?_;show wpJ Y.J _ _ _ _ _;refine zqj Y.jc (zqv Y.jc ?_);apply YSys.callR 0 3 0 hA (hst.store hc (j:=0) (by decide) 0) (λ_=>HKK.out _) rfl rfl rfl (by rfl) rfl rfl rfl
        . intro wc hB X hX;have HX:=Lib.hid hX;clear hX;go_wp2;exact HX.out _ (Ext1.refl _)
        . intro w;simp[go_sem,execOp,Act.eval,resolve,Deferred.ofValue,invoke,callFunc,Try.func58,Try.f58]
        . intro w;simp[go_sem,execOp,Act.eval,resolve,Deferred.ofValue,invoke,callFunc,Try.func58,Try.f58]
        . intro s' ch w' h;exact⟨rfl,h⟩
        intro s _ w hA;refine zq18 Y.jc ?_;show wpJ Y.J _ _ _ _ _;apply YSys.seq0 hA (by kernel_rfl)
        . intro wc hB;go_wp2;exact⟨rfl,Ext1.refl _,rfl⟩
        intro w hA;refine zqz Y.jc ?_;exact⟨rfl,.inl ⟨_,resultsC_tmp2 rfl _,(0,6),rfl,hA⟩⟩
end
def madeA(v e:Int):Ans:=if e=0 then⟨true,v,[]⟩else⟨false,wrap64 (-e),[]⟩
abbrev ansV(a:Ans):Value:=.agg #[.bool a.ok,.int .i64 a.n,.slice none 0 0]
theorem zqcl(v e:Int)(w:World):Calls Try.prog 81 #[.int .i64 v,.int .i64 e] w (zq2q λx w'=>Ext1 w w'/\x=ansV (madeA v e)):=by
 by_cases h:e=0
 . subst h;have hm:madeA v 0=⟨true,v,[]⟩:=rfl;rw[hm];clear hm
   go_enter Try.func81,Try.ntmps81
   go_wp2;have hn:(w.alloc (.cells #[.bool true,.int .i64 (v),.slice none 0 0] 49)).heap[w.heap.size]?=some (.cells #[.bool true,.int .i64 (v),.slice none 0 0] 49):=by rw[zqd,if_pos rfl]
   have k0:=(zq0 (off:=0) hn).trans rfl;have k1:=(zq0 (off:=1) hn).trans rfl;have k2:=(zq0 (off:=2) hn).trans rfl;refine bodyPost_ret (v:=ansV ⟨true,v,[]⟩) ?_ rfl ⟨Ext1.alloc w _,rfl⟩;simp only[results,Try.f81];simp[go_sem,k0,k1,k2]
 . have hm:madeA v e=⟨false,wrap64 (-e),[]⟩:=by unfold madeA;rw[if_neg h]
   rw[hm];clear hm
   go_enter Try.func81,Try.ntmps81
   go_wp2;have hn:(w.alloc (.cells #[.bool false,.int .i64 (wrap64 (-e)),.slice none 0 0] 49)).heap[w.heap.size]?=some (.cells #[.bool false,.int .i64 (wrap64 (-e)),.slice none 0 0] 49):=by rw[zqd,if_pos rfl]
   have k0:=(zq0 (off:=0) hn).trans rfl;have k1:=(zq0 (off:=1) hn).trans rfl;have k2:=(zq0 (off:=2) hn).trans rfl;refine bodyPost_ret (v:=ansV ⟨false,wrap64 (-e),[]⟩) ?_ rfl ⟨Ext1.alloc w _,rfl⟩;simp only[results,Try.f81];simp[go_sem,k0,k1,k2]
section
variable {M2 S2 β:Type} {D:Core M2 S2} {ro:Nat->Option Obj} {i:Nat} {T:NumT}
theorem zqe0(Y:YSys Try.prog aM (zqi (zqq T) D) ro i β)(B:Nat->Option Obj)(sv:Value):SpecAt Y B 83 #[sv] (Proc.ret (0,false)) pairV:=by
 refine SpecAt.of Try.func83 rfl ?_;intro K s w hK hA;simp only[zqg,Try.ntmps83,List.size_toArray,List.length_cons,List.length_nil,Nat.reduceAdd,Nat.reduceSub,Array.replicate_succ,Array.replicate_zero,List.push_toArray,List.append_toArray,List.nil_append,List.cons_append];apply YSys.seq0 hA (by kernel_rfl)
 . intro wc hB;go_wp2;exact⟨rfl,Ext1.refl _,rfl⟩
 intro w hA;apply YSys.seq0 hA (by kernel_rfl)
 . intro wc hB;go_wp2;exact⟨rfl,Ext1.refl _,rfl⟩
 intro w hA;refine zqz Y.jc ?_;exact⟨rfl,.inl ⟨_,resultsC_tmp2 rfl _,(0,false),rfl,hA⟩⟩
def mkP{S2:Type}(c:Nat)(op:OpX):Proc (Nums×S2) (Int×Bool):=Proc.tick.bind λ_=>onN λg=>(g,(IntKind.i64.wrap (op.b+g c 2),true))
theorem zqcp(Z:Alone Try.prog aM (zqi (zqq T) D) ro i β){I:Nums×S2->Prop}{sv:Value}(hst:OnceAtoms (Z.sys I) sv){c:Nat}(hc:c<T.N){B:Nat->Option Obj}{b3 b5:Nat}{op:OpX}(h3:B b3=some (.cells #[.pointer (some ⟨T.ob c,0,none⟩)] 35))(h5:B b5=some (.cells op.cells.toArray 34)):
 SpecAt (Z.sys I) B 82 #[sv,.pointer (some ⟨b5,0,none⟩),.pointer (some ⟨b3,0,none⟩)] (mkP c op) pairV:=by
 have HI:=Lib.hid (And.intro h3 h5);have HS:=Lib.hid hst;have hlen:=hst.len c hc;clear h3 h5;refine SpecAt.of Try.func82 rfl ?_;intro K s w hK hA;simp only[zqg,Try.ntmps82,List.size_toArray,List.length_cons,List.length_nil,Nat.reduceAdd,Nat.reduceSub,Array.replicate_succ,Array.replicate_zero,List.push_toArray,List.append_toArray,List.nil_append,List.cons_append];apply YSys.seq0 hA (by kernel_rfl)
 . intro wc hB;go_wp2;exact⟨rfl,Ext1.refl _,rfl⟩
 intro w hA;refine zqj (Z.sys I).jc (zqv (Z.sys I).jc ?_);rw[mkP,Proc.bind_bind]at hA;apply YSys.callS 0 1 0 hA HS.out.step rfl rfl rfl (by rfl) rfl rfl rfl
 . intro wc hB X hX;have HX:=Lib.hid hX;clear hX;go_wp2;exact HX.out _ (Ext1.refl _)
 . intro w;simp[go_sem,execOp,Act.eval,resolve,Deferred.ofValue,invoke,callFunc,Try.func48,Try.f48]
 . intro w;simp[go_sem,execOp,Act.eval,resolve,Deferred.ofValue,invoke,callFunc,Try.func48,Try.f48]
 . intro s' ch w' h;exact⟨rfl,h⟩
 intro s w hA;refine zq18 (Z.sys I).jc ?_;show wpJ (Z.sys I).J _ _ _ _ _;refine zqj (Z.sys I).jc ?_;obtain⟨m,hm,hA⟩:=hA;refine Z.actS (I':=I) (g:=λs=>(s,(IntKind.i64.wrap (op.b+s.1 c 2),true))) (λt B'=>t=#[sv,.pointer (some ⟨b5,0,none⟩),.pointer (some ⟨b3,0,none⟩),undef,.int .i64 (IntKind.i64.wrap (op.b+m.l.1 c 2)),.bool true,sv,.tuple #[],.pointer (some ⟨b5,2,none⟩),.int .i64 op.b,.pointer (some ⟨T.ob c,0,none⟩),.pointer (some ⟨T.ob c,0,none⟩),.pointer (some ⟨T.ob c,2,none⟩),.int .i64 (m.l.1 c 2),.int .i64 (IntKind.i64.wrap (op.b+m.l.1 c 2))]/\B'=B) hA (by kernel_rfl) (λs h=>h) (λs=>Z.oth s) ?_ ?_
 . intro wc hB hIs X hX;have HX:=Lib.hid hX;clear hX;have k3:=hB.box i b3 _ (by rw[hm];exact HI.out.1);have k5:=hB.box i b5 _ (by rw[hm];exact HI.out.2);have cb:wc.cell? ⟨b5,2,none⟩=some (.int .i64 op.b):=(zq0 k5).trans rfl;have cp:wc.cell? ⟨b3,0,none⟩=some (.pointer (some ⟨T.ob c,0,none⟩)):=(zq0 k3).trans rfl;have cn:=(zq1s hB wc.tape wc.drawn).cell hc (j:=2) (by rw[hlen];decide);obtain⟨x,hx⟩:∃x,m.l.1 c 2=x:=⟨_,rfl⟩;rw[hx]at cn;have HL:RowKit.Hid (∀W:World,(∀a,W.cell? a=wc.cell? a)->Calls Try.prog 47 #[.pointer (some ⟨T.ob c,2,none⟩)] W λe w'=>e=.returned (.int .i64 x)/\∃n,w'=W.drewN n):=Lib.hid λW hW=>Calls.mono (zq5c _ x W ((hW _).trans cn)) (by rintro e w' ⟨rfl,rfl⟩;exact⟨rfl,0,rfl⟩);have HB:=Lib.hid (And.intro hB (And.intro hm hx));obtain⟨pb,hpb⟩:∃p,T.ob c=p:=⟨_,rfl⟩;rw[hpb]at cp HL HX;clear hB hm hx cn k3 k5 hA hK hIs hlen
   go_quiet (first|(go_at_call 47;exact Calls.quiet_of (HL.out _ (λa=>rfl))))
   obtain⟨hB,hm,hx⟩:=HB.out;exact⟨rfl,HX.out _ m.l _ _ (Moved.ext hB ⟨Nat.le_refl _,λ_ _=>rfl⟩) rfl ⟨by rw[hx],hm⟩⟩
 . rintro t' m' w' ⟨rfl,hb⟩ hA';show wpJ (Z.sys I).J _ _ _ _ _;refine zqz (Z.sys I).jc ?_;exact⟨rfl,.inl ⟨_,resultsC_tmp2 rfl _,(IntKind.i64.wrap (op.b+m.l.1 c 2),true),rfl,m',hb,hA'⟩⟩
end
set_option maxHeartbeats 16000000
def zq1a(c:Int):Int:=min (max c 0) 1024
def onceP{S2:Type}(c:Nat)(op:OpX):Proc (Nums×S2) Ans:=
 if op.k=1 then(getP c).bind λx=>Proc.ret ⟨x.2,x.1,[]⟩
 else if op.k=2 then(setP c op.b).bind λx=>Proc.ret ⟨x.2,x.1,[]⟩
 else if op.k=3 then(makeL c (mkP c op) (triesN (zq1a op.c))).bind λx=>Proc.ret (madeA x.1 x.2)
 else if op.k=4 then(makeL c (Proc.ret (0,false)) (triesN (zq1a op.c))).bind λx=>Proc.ret (madeA x.1 x.2)
 else Proc.ret Ans.none
theorem zq7i(v e:Int){ti:TypeId}:AnsV ti (madeA v e) (.agg #[.bool (madeA v e).ok,.int .i64 (madeA v e).n,.slice none 0 0]) (λ_=>none):=by
 unfold madeA;split<;>exact AnsV.plain _ _ _
section
variable {M2 S2 β:Type} {D:Core M2 S2} {ro:Nat->Option Obj} {i:Nat} {T:NumT}
structure zq3y(Y:YSys Try.prog aM (zqi (zqq T) D) ro i β)(sv:Value):Prop where
 base:OnceAtoms Y sv
 maker:∀{c:Nat}(hc:c<T.N){B:Nat->Option Obj}{b3 b5:Nat}{op:OpX},B b3=some (.cells #[.pointer (some ⟨T.ob c,0,none⟩)] 35)->B b5=some (.cells op.cells.toArray 34)->SpecAt Y B 82 (#[]++#[sv]++#[.pointer (some ⟨b5,0,none⟩),.pointer (some ⟨b3,0,none⟩)]) (mkP c op) pairV
theorem zq7j(Y:YSys Try.prog aM (zqi (zqq T) D) ro i β)(v e:Int):PureY Y 81 #[.int .i64 v,.int .i64 e] (ansV (madeA v e)):=
 PureY.of Try.func81 rfl (by kernel_rfl) λB wc hB=>zqcl v e wc
theorem do_spec(Y:YSys Try.prog aM (zqi (zqq T) D) ro i β){sv:Value}(hst:zq3y Y sv){c:Nat}(hc:c<T.N)(op:OpX):
 SpecR Y 64 #[.pointer (some ⟨T.ob c,0,none⟩),sv,op.val] (onceP c op) (AnsV 2):=by
 refine SpecR.of Try.func64 rfl ?_;intro K s B w hK hA;simp only[zqg,Try.ntmps64,List.size_toArray,List.length_cons,List.length_nil,Nat.reduceAdd,Nat.reduceSub,Array.replicate_succ,Array.replicate_zero,List.push_toArray,List.append_toArray,List.nil_append,List.cons_append];have HKK:=Lib.hid hK;clear hK;refine zqj Y.jc (zqv Y.jc ?_);refine YSys.preX 0 1 2 (λt B'=>∃(b3:Nat)(x4 x5 x6 x7 x8 x9 x10 x11 x12 x13 x14 x15 x16 x17 x18 x19 x20 x21 x22 x23 x24 x25 x26 x27 x28 x29 x30 x31 x32 x33 x34 x35 x36 x37 x38 x39 x40 x41 x42 x43 x44 x45 x46 x47 x48 x49 x50 x51 x52 x53 x54 x55 x56 x57 x58 x59 x60 x61 x62 x63 x64:Value),t=#[.pointer (some ⟨T.ob c,0,none⟩),sv,op.val,.pointer (some ⟨b3,0,none⟩),x4,x5,x6,x7,x8,x9,x10,x11,x12,x13,x14,x15,x16,x17,x18,x19,x20,x21,x22,x23,x24,x25,x26,x27,x28,x29,x30,x31,x32,x33,x34,x35,x36,x37,x38,x39,x40,x41,x42,x43,x44,x45,x46,x47,x48,x49,x50,x51,x52,x53,x54,x55,x56,x57,x58,x59,x60,x61,x62,x63,x64]/\(B) b3=none/\B'=upB (B) b3 (.cells #[.pointer (some ⟨T.ob c,0,none⟩)] 35)) hA rfl rfl rfl rfl ?_ ?_
 . intro wc hB X0 hX0;have HX0:=Lib.hid hX0;clear hX0;have hm:=OMoved.push (o:=.cells #[.pointer (some ⟨T.ob c,0,none⟩)] 35) hB.own (Ext1.alloc wc (.cells #[.pointer (some ⟨T.ob c,0,none⟩)] 35)) (Nat.le_refl _) (by rw[zqd];simp);have hf:=hB.own.fresh (Nat.le_refl _);have HM:=Lib.hid (And.intro hm hf);clear hm hf;go_wp2;exact HX0.out _ _ _ HM.out.1 ⟨_,_,_,_,_,_,_,_,_,_,_,_,_,_,_,_,_,_,_,_,_,_,_,_,_,_,_,_,_,_,_,_,_,_,_,_,_,_,_,_,_,_,_,_,_,_,_,_,_,_,_,_,_,_,_,_,_,_,_,_,_,_,rfl,HM.out.2,rfl⟩
 clear hA;rintro _ _ w ⟨b3,x4,x5,x6,x7,x8,x9,x10,x11,x12,x13,x14,x15,x16,x17,x18,x19,x20,x21,x22,x23,x24,x25,x26,x27,x28,x29,x30,x31,x32,x33,x34,x35,x36,x37,x38,x39,x40,x41,x42,x43,x44,x45,x46,x47,x48,x49,x50,x51,x52,x53,x54,x55,x56,x57,x58,x59,x60,x61,x62,x63,x64,rfl,hb3,rfl⟩ hA;refine YSys.preX 1 1 1 (λt B'=>∃(b5:Nat)(x4 x6 x7 x8 x9 x10 x11 x12 x13 x14 x15 x16 x17 x18 x19 x20 x21 x22 x23 x24 x25 x26 x27 x28 x29 x30 x31 x32 x33 x34 x35 x36 x37 x38 x39 x40 x41 x42 x43 x44 x45 x46 x47 x48 x49 x50 x51 x52 x53 x54 x55 x56 x57 x58 x59 x60 x61 x62 x63 x64:Value),t=#[.pointer (some ⟨T.ob c,0,none⟩),sv,op.val,.pointer (some ⟨b3,0,none⟩),x4,.pointer (some ⟨b5,0,none⟩),x6,x7,x8,x9,x10,x11,x12,x13,x14,x15,x16,x17,x18,x19,x20,x21,x22,x23,x24,x25,x26,x27,x28,x29,x30,x31,x32,x33,x34,x35,x36,x37,x38,x39,x40,x41,x42,x43,x44,x45,x46,x47,x48,x49,x50,x51,x52,x53,x54,x55,x56,x57,x58,x59,x60,x61,x62,x63,x64]/\(upB B b3 (.cells #[.pointer (some ⟨T.ob c,0,none⟩)] 35)) b5=none/\B'=upB (upB B b3 (.cells #[.pointer (some ⟨T.ob c,0,none⟩)] 35)) b5 (.cells op.cells.toArray 34)) hA rfl rfl rfl rfl ?_ ?_
 . intro wc hB X0 hX0;have HX0:=Lib.hid hX0;clear hX0;have hm:=OMoved.push (o:=.cells op.cells.toArray 34) hB.own (Ext1.alloc wc (.cells op.cells.toArray 34)) (Nat.le_refl _) (by rw[zqd];simp);have hf:=hB.own.fresh (Nat.le_refl _);have HM:=Lib.hid (And.intro hm hf);clear hm hf;unfold OpX.val;go_wp2;exact HX0.out _ _ _ HM.out.1 ⟨_,_,_,_,_,_,_,_,_,_,_,_,_,_,_,_,_,_,_,_,_,_,_,_,_,_,_,_,_,_,_,_,_,_,_,_,_,_,_,_,_,_,_,_,_,_,_,_,_,_,_,_,_,_,_,_,_,_,_,_,_,rfl,HM.out.2,rfl⟩
 clear hA;rintro _ _ w ⟨b5,x4,x6,x7,x8,x9,x10,x11,x12,x13,x14,x15,x16,x17,x18,x19,x20,x21,x22,x23,x24,x25,x26,x27,x28,x29,x30,x31,x32,x33,x34,x35,x36,x37,x38,x39,x40,x41,x42,x43,x44,x45,x46,x47,x48,x49,x50,x51,x52,x53,x54,x55,x56,x57,x58,x59,x60,x61,x62,x63,x64,rfl,hb5,rfl⟩ hA;refine YSys.opsX 2 1 (λt B'=>∃(b6:Nat)(x4 x7 x8 x9 x10 x11 x12 x13 x14 x15 x16 x17 x18 x19 x20 x21 x22 x23 x24 x25 x26 x27 x28 x29 x30 x31 x32 x33 x34 x35 x36 x37 x38 x39 x40 x41 x42 x43 x44 x45 x46 x47 x48 x49 x50 x51 x52 x53 x54 x55 x56 x57 x58 x59 x60 x61 x62 x63 x64:Value),t=#[.pointer (some ⟨T.ob c,0,none⟩),sv,op.val,.pointer (some ⟨b3,0,none⟩),x4,.pointer (some ⟨b5,0,none⟩),.pointer (some ⟨b6,0,none⟩),x7,x8,x9,x10,x11,x12,x13,x14,x15,x16,x17,x18,x19,x20,x21,x22,x23,x24,x25,x26,x27,x28,x29,x30,x31,x32,x33,x34,x35,x36,x37,x38,x39,x40,x41,x42,x43,x44,x45,x46,x47,x48,x49,x50,x51,x52,x53,x54,x55,x56,x57,x58,x59,x60,x61,x62,x63,x64]/\(upB (upB B b3 (.cells #[.pointer (some ⟨T.ob c,0,none⟩)] 35)) b5 (.cells op.cells.toArray 34)) b6=none/\B'=upB (upB (upB B b3 (.cells #[.pointer (some ⟨T.ob c,0,none⟩)] 35)) b5 (.cells op.cells.toArray 34)) b6 (.cells #[.bool false,.int .i64 0,.slice none 0 0] 49)) hA rfl rfl (by kernel_rfl) ?_ ?_
 . intro wc hB X0 hX0;have HX0:=Lib.hid hX0;clear hX0;have hm:=OMoved.push (o:=.cells #[.bool false,.int .i64 0,.slice none 0 0] 49) hB.own (Ext1.alloc wc (.cells #[.bool false,.int .i64 0,.slice none 0 0] 49)) (Nat.le_refl _) (by rw[zqd];simp);have hf:=hB.own.fresh (Nat.le_refl _);have HM:=Lib.hid (And.intro hm hf);clear hm hf;go_wp2;exact⟨rfl,HX0.out _ _ _ HM.out.1 ⟨_,_,_,_,_,_,_,_,_,_,_,_,_,_,_,_,_,_,_,_,_,_,_,_,_,_,_,_,_,_,_,_,_,_,_,_,_,_,_,_,_,_,_,_,_,_,_,_,_,_,_,_,_,_,_,_,_,_,_,_,rfl,HM.out.2,rfl⟩⟩
 clear hA;rintro _ _ w ⟨b6,x4,x7,x8,x9,x10,x11,x12,x13,x14,x15,x16,x17,x18,x19,x20,x21,x22,x23,x24,x25,x26,x27,x28,x29,x30,x31,x32,x33,x34,x35,x36,x37,x38,x39,x40,x41,x42,x43,x44,x45,x46,x47,x48,x49,x50,x51,x52,x53,x54,x55,x56,x57,x58,x59,x60,x61,x62,x63,x64,rfl,hb6,rfl⟩ hA;have h3:(upB (upB (upB B b3 (.cells #[.pointer (some ⟨T.ob c,0,none⟩)] 35)) b5 (.cells op.cells.toArray 34)) b6 (.cells #[.bool false,.int .i64 0,.slice none 0 0] 49)) b3=some (.cells #[.pointer (some ⟨T.ob c,0,none⟩)] 35):=zq2k (zq2k (upB_same _ _ _) (zq36 (upB_same _ _ _) hb5)) (zq36 (zq2k (upB_same _ _ _) (zq36 (upB_same _ _ _) hb5)) hb6);have h5:(upB (upB (upB B b3 (.cells #[.pointer (some ⟨T.ob c,0,none⟩)] 35)) b5 (.cells op.cells.toArray 34)) b6 (.cells #[.bool false,.int .i64 0,.slice none 0 0] 49)) b5=some (.cells op.cells.toArray 34):=zq2k (upB_same _ _ _) (zq36 (upB_same _ _ _) hb6);have h6:(upB (upB (upB B b3 (.cells #[.pointer (some ⟨T.ob c,0,none⟩)] 35)) b5 (.cells op.cells.toArray 34)) b6 (.cells #[.bool false,.int .i64 0,.slice none 0 0] 49)) b6=some (.cells #[.bool false,.int .i64 0,.slice none 0 0] 49):=upB_same _ _ _;have hB5:B b5=none:=Classical.byContradiction λh=>by
  cases ho:B b5 with
  |none=>exact h ho
  |some o=>rw[zq2w (o:=.cells #[.pointer (some ⟨T.ob c,0,none⟩)] 35) hb3 b5 o ho]at hb5;cases hb5
 have hB6:B b6=none:=Classical.byContradiction λh=>by
  cases ho:B b6 with
  |none=>exact h ho
  |some o=>rw[zq1n (o:=.cells op.cells.toArray 34) (zq2w (o:=.cells #[.pointer (some ⟨T.ob c,0,none⟩)] 35) hb3) hB5 b6 o ho]at hb6;cases hb6
 have hle:∀x y,B x=some y->(upB (upB (upB B b3 (.cells #[.pointer (some ⟨T.ob c,0,none⟩)] 35)) b5 (.cells op.cells.toArray 34)) b6 (.cells #[.bool false,.int .i64 0,.slice none 0 0] 49)) x=some y:=zq1n (zq1n (zq2w (o:=.cells #[.pointer (some ⟨T.ob c,0,none⟩)] 35) hb3) hB5) hB6;obtain⟨Bq,hBq⟩:∃X,upB (upB (upB B b3 (.cells #[.pointer (some ⟨T.ob c,0,none⟩)] 35)) b5 (.cells op.cells.toArray 34)) b6 (.cells #[.bool false,.int .i64 0,.slice none 0 0] 49)=X:=⟨_,rfl⟩;rw[hBq]at h3 h5 h6 hle hA;have H3:=Lib.hid h3;have H5:=Lib.hid h5;have H6:=Lib.hid h6;have HLE:=Lib.hid hle;have HN:=Lib.hid hB6;clear h3 h5 h6 hle hBq hb3 hb5 hb6 hB5 hB6;show wpJ Y.J _ _ _ _ _;refine YSys.seqX (λt B'=>∃(x4 x8 x9 x10 x11 x12 x13 x14 x15 x16 x17 x18 x19 x20 x21 x22 x23 x24 x25 x26 x27 x28 x29 x30 x31 x32 x33 x34 x35 x36 x37 x38 x39 x40 x41 x42 x43 x44 x45 x46 x47 x48 x49 x50 x51 x52 x53 x54 x55 x56 x57 x58 x59 x60 x61 x62 x63 x64:Value),t=#[.pointer (some ⟨T.ob c,0,none⟩),sv,op.val,.pointer (some ⟨b3,0,none⟩),x4,.pointer (some ⟨b5,0,none⟩),.pointer (some ⟨b6,0,none⟩),.int .i64 (zq1a op.c),x8,x9,x10,x11,x12,x13,x14,x15,x16,x17,x18,x19,x20,x21,x22,x23,x24,x25,x26,x27,x28,x29,x30,x31,x32,x33,x34,x35,x36,x37,x38,x39,x40,x41,x42,x43,x44,x45,x46,x47,x48,x49,x50,x51,x52,x53,x54,x55,x56,x57,x58,x59,x60,x61,x62,x63,x64]/\B'=Bq) hA (by kernel_rfl) ?_ ?_
 . intro wc hB X0 hX0;have HX0:=Lib.hid hX0;clear hX0;have HOM:=Lib.hid (OMoved.ext hB.own (Ext1.refl wc));have c50:wc.cell? ⟨b5,0,none⟩=some (.int .i64 op.k):=(zq0 (hB.own.box b5 _ H5.out)).trans rfl;have c51:wc.cell? ⟨b5,1,none⟩=some (.int .i64 op.a):=(zq0 (hB.own.box b5 _ H5.out)).trans rfl;have c52:wc.cell? ⟨b5,2,none⟩=some (.int .i64 op.b):=(zq0 (hB.own.box b5 _ H5.out)).trans rfl;have c53:wc.cell? ⟨b5,3,none⟩=some (.int .i64 op.c):=(zq0 (hB.own.box b5 _ H5.out)).trans rfl;rcases(by omega:op.c<0\/(0<=op.c/\op.c<=1024)\/1024<op.c)with h|⟨h,h'⟩|h
   . have e:zq1a op.c=0:=by unfold zq1a;omega
     have h1:op.c<=0:=by omega
     have E:=Lib.hid e;clear e;go_wp2;exact⟨rfl,HX0.out _ _ _ HOM.out ⟨_,_,_,_,_,_,_,_,_,_,_,_,_,_,_,_,_,_,_,_,_,_,_,_,_,_,_,_,_,_,_,_,_,_,_,_,_,_,_,_,_,_,_,_,_,_,_,_,_,_,_,_,_,_,_,_,_,_,by rw[E.out],rfl⟩⟩
   . have e:zq1a op.c=op.c:=by unfold zq1a;omega
     have E:=Lib.hid e;clear e;go_wp2;exact⟨rfl,HX0.out _ _ _ HOM.out ⟨_,_,_,_,_,_,_,_,_,_,_,_,_,_,_,_,_,_,_,_,_,_,_,_,_,_,_,_,_,_,_,_,_,_,_,_,_,_,_,_,_,_,_,_,_,_,_,_,_,_,_,_,_,_,_,_,_,_,by rw[E.out],rfl⟩⟩
   . have e:zq1a op.c=1024:=by unfold zq1a;omega
     have h1:0<=op.c:=by omega
     have h2:¬op.c<=1024:=by omega
     have E:=Lib.hid e;clear e;go_wp2;exact⟨rfl,HX0.out _ _ _ HOM.out ⟨_,_,_,_,_,_,_,_,_,_,_,_,_,_,_,_,_,_,_,_,_,_,_,_,_,_,_,_,_,_,_,_,_,_,_,_,_,_,_,_,_,_,_,_,_,_,_,_,_,_,_,_,_,_,_,_,_,_,by rw[E.out],rfl⟩⟩
 rintro _ Bz w ⟨x4,x8,x9,x10,x11,x12,x13,x14,x15,x16,x17,x18,x19,x20,x21,x22,x23,x24,x25,x26,x27,x28,x29,x30,x31,x32,x33,x34,x35,x36,x37,x38,x39,x40,x41,x42,x43,x44,x45,x46,x47,x48,x49,x50,x51,x52,x53,x54,x55,x56,x57,x58,x59,x60,x61,x62,x63,x64,rfl,hBz⟩ hA;rw[hBz]at hA;clear hBz;apply YSys.seq0 hA (by kernel_rfl)
 . intro wc hB;go_wp2;exact⟨rfl,Ext1.refl _,rfl⟩
 intro w hA;refine zqj Y.jc ?_;apply YSys.seq0 hA (by kernel_rfl)
 . intro wc hB;have c50:wc.cell? ⟨b5,0,none⟩=some (.int .i64 op.k):=(zq0 (hB.own.box b5 _ H5.out)).trans rfl;have c51:wc.cell? ⟨b5,1,none⟩=some (.int .i64 op.a):=(zq0 (hB.own.box b5 _ H5.out)).trans rfl;have c52:wc.cell? ⟨b5,2,none⟩=some (.int .i64 op.b):=(zq0 (hB.own.box b5 _ H5.out)).trans rfl;have c53:wc.cell? ⟨b5,3,none⟩=some (.int .i64 op.c):=(zq0 (hB.own.box b5 _ H5.out)).trans rfl;go_wp2;exact⟨rfl,Ext1.refl _,rfl⟩
 intro w hA;refine zq2l Y.jc ?_;unfold onceP at hA;apply YSys.seq0 hA (by kernel_rfl)
 . intro wc hB;go_wp2;exact⟨rfl,Ext1.refl _,rfl⟩
 intro w hA;refine zqr Y.jc rfl ?_
 by_cases hk1:op.k=1
 . rw[if_pos (by simp[hk1])];rw[if_pos hk1,Proc.bind_bind]at hA;clear hk1;refine zqj Y.jc (zqv Y.jc ?_);apply YSys.callR 0 2 5 hA (zq4b Y hst.base hc).spec (λx=>HKK.out _) rfl rfl rfl (by rfl) rfl rfl rfl
   . intro wc hB X hX;have HX:=Lib.hid hX;clear hX;have c30:wc.cell? ⟨b3,0,none⟩=some (.pointer (some ⟨T.ob c,0,none⟩)):=(zq0 (hB.own.box b3 _ H3.out)).trans rfl;go_wp2;exact HX.out _ (Ext1.refl _)
   . intro w;simp[go_sem,execOp,Act.eval,resolve,Deferred.ofValue,invoke,callFunc,Try.func25,Try.f25]
   . intro w;simp[go_sem,execOp,Act.eval,resolve,Deferred.ofValue,invoke,callFunc,Try.func25,Try.f25]
   . intro s' ch w' h;exact⟨rfl,h⟩
   intro s x w hA;apply YSys.ops0 3 5 hA rfl rfl (by kernel_rfl)
   . intro wc hB;go_wp2;exact⟨rfl,Ext1.refl _,rfl⟩
   intro w hA;show wpJ Y.J _ _ _ _ _;refine YSys.seqX (λt B'=>∃(y4 y8 y9 y10 y11 y12 y13 y14 y15 y16 y17 y18 y19 y20 y21 y22 y23 y24 y25 y26 y27 y28 y29 y30 y31 y32 y33 y34 y35 y36 y37 y38 y39 y40 y41 y42 y43 y44 y45 y46 y47 y48 y49 y50 y51 y52 y53 y54 y55 y56 y57 y58 y59 y60 y61 y62 y63 y64:Value),t=#[.pointer (some ⟨T.ob c,0,none⟩),sv,op.val,.pointer (some ⟨b3,0,none⟩),y4,.pointer (some ⟨b5,0,none⟩),.pointer (some ⟨b6,0,none⟩),.int .i64 (zq1a op.c),y8,y9,y10,y11,y12,y13,y14,y15,y16,y17,y18,y19,y20,y21,y22,y23,y24,y25,y26,y27,y28,y29,y30,y31,y32,y33,y34,y35,y36,y37,y38,y39,y40,y41,y42,y43,y44,y45,y46,y47,y48,y49,y50,y51,y52,y53,y54,y55,y56,y57,y58,y59,y60,y61,y62,y63,y64]/\B'=upB Bq b6 (.cells #[.bool x.2,.int .i64 x.1,.slice none 0 0] 49)) hA (by kernel_rfl) ?_ ?_
   . intro wc hB X0 hX0;have HX0:=Lib.hid hX0;clear hX0;have k6:=hB.own.box b6 _ H6.out;have c60:wc.cell? ⟨b6,0,none⟩=some (.bool false):=(zq0 k6).trans rfl;have c61:wc.cell? ⟨b6,1,none⟩=some (.int .i64 0):=(zq0 k6).trans rfl;have c62:wc.cell? ⟨b6,2,none⟩=some (.slice none 0 0):=(zq0 k6).trans rfl;have f60:wc.frozen? ⟨b6,0,none⟩=false:=zqf k6;have f61:wc.frozen? ⟨b6,1,none⟩=false:=zqf k6;have f62:wc.frozen? ⟨b6,2,none⟩=false:=zqf k6;have hm:=OMoved.set3 (o1:=0) (o2:=1) (o3:=2) hB.own H6.out (.bool x.2) (.int .i64 x.1) (.slice none 0 0);have HM:=Lib.hid hm;clear hm k6;go_wp2;exact⟨rfl,HX0.out _ _ _ HM.out ⟨_,_,_,_,_,_,_,_,_,_,_,_,_,_,_,_,_,_,_,_,_,_,_,_,_,_,_,_,_,_,_,_,_,_,_,_,_,_,_,_,_,_,_,_,_,_,_,_,_,_,_,_,_,_,_,_,_,_,rfl,rfl⟩⟩
   rintro _ _ w ⟨y4,y8,y9,y10,y11,y12,y13,y14,y15,y16,y17,y18,y19,y20,y21,y22,y23,y24,y25,y26,y27,y28,y29,y30,y31,y32,y33,y34,y35,y36,y37,y38,y39,y40,y41,y42,y43,y44,y45,y46,y47,y48,y49,y50,y51,y52,y53,y54,y55,y56,y57,y58,y59,y60,y61,y62,y63,y64,rfl,rfl⟩ hA;refine zqz Y.jc ?_;refine YSys.left hA (v:=.agg #[.bool x.2,.int .i64 x.1,.slice none 0 0]) (λwc hB=>results_cell_row rfl _ wc b6 49 _ _ _ rfl (hB.own.box b6 _ (upB_same _ _ _)) rfl rfl rfl) λw hA=>?_;exact⟨⟨x.2,x.1,[]⟩,λ_=>none,AnsV.plain _ _ _,λb hb=>absurd rfl hb,hA.drop (zq1n HLE.out HN.out)⟩
 rw[if_neg (by simp[hk1])];rw[if_neg hk1]at hA;clear hk1;apply YSys.seq0 hA (by kernel_rfl)
 . intro wc hB;go_wp2;exact⟨rfl,Ext1.refl _,rfl⟩
 intro w hA;refine zqr Y.jc rfl ?_
 by_cases hk2:op.k=2
 . rw[if_pos (by simp[hk2])];rw[if_pos hk2,Proc.bind_bind]at hA;clear hk2;refine zqj Y.jc (zqv Y.jc ?_);apply YSys.callR 0 4 5 hA (set_spec Y hst.base hc op.b).spec (λx=>HKK.out _) rfl rfl rfl (by rfl) rfl rfl rfl
   . intro wc hB X hX;have HX:=Lib.hid hX;clear hX;have c30:wc.cell? ⟨b3,0,none⟩=some (.pointer (some ⟨T.ob c,0,none⟩)):=(zq0 (hB.own.box b3 _ H3.out)).trans rfl;have c50:wc.cell? ⟨b5,0,none⟩=some (.int .i64 op.k):=(zq0 (hB.own.box b5 _ H5.out)).trans rfl;have c51:wc.cell? ⟨b5,1,none⟩=some (.int .i64 op.a):=(zq0 (hB.own.box b5 _ H5.out)).trans rfl;have c52:wc.cell? ⟨b5,2,none⟩=some (.int .i64 op.b):=(zq0 (hB.own.box b5 _ H5.out)).trans rfl;have c53:wc.cell? ⟨b5,3,none⟩=some (.int .i64 op.c):=(zq0 (hB.own.box b5 _ H5.out)).trans rfl;go_wp2;exact HX.out _ (Ext1.refl _)
   . intro w;simp[go_sem,execOp,Act.eval,resolve,Deferred.ofValue,invoke,callFunc,Try.func26,Try.f26]
   . intro w;simp[go_sem,execOp,Act.eval,resolve,Deferred.ofValue,invoke,callFunc,Try.func26,Try.f26]
   . intro s' ch w' h;exact⟨rfl,h⟩
   intro s x w hA;apply YSys.ops0 5 5 hA rfl rfl (by kernel_rfl)
   . intro wc hB;go_wp2;exact⟨rfl,Ext1.refl _,rfl⟩
   intro w hA;show wpJ Y.J _ _ _ _ _;refine YSys.seqX (λt B'=>∃(y4 y8 y9 y10 y11 y12 y13 y14 y15 y16 y17 y18 y19 y20 y21 y22 y23 y24 y25 y26 y27 y28 y29 y30 y31 y32 y33 y34 y35 y36 y37 y38 y39 y40 y41 y42 y43 y44 y45 y46 y47 y48 y49 y50 y51 y52 y53 y54 y55 y56 y57 y58 y59 y60 y61 y62 y63 y64:Value),t=#[.pointer (some ⟨T.ob c,0,none⟩),sv,op.val,.pointer (some ⟨b3,0,none⟩),y4,.pointer (some ⟨b5,0,none⟩),.pointer (some ⟨b6,0,none⟩),.int .i64 (zq1a op.c),y8,y9,y10,y11,y12,y13,y14,y15,y16,y17,y18,y19,y20,y21,y22,y23,y24,y25,y26,y27,y28,y29,y30,y31,y32,y33,y34,y35,y36,y37,y38,y39,y40,y41,y42,y43,y44,y45,y46,y47,y48,y49,y50,y51,y52,y53,y54,y55,y56,y57,y58,y59,y60,y61,y62,y63,y64]/\B'=upB Bq b6 (.cells #[.bool x.2,.int .i64 x.1,.slice none 0 0] 49)) hA (by kernel_rfl) ?_ ?_
   . intro wc hB X0 hX0;have HX0:=Lib.hid hX0;clear hX0;have k6:=hB.own.box b6 _ H6.out;have c60:wc.cell? ⟨b6,0,none⟩=some (.bool false):=(zq0 k6).trans rfl;have c61:wc.cell? ⟨b6,1,none⟩=some (.int .i64 0):=(zq0 k6).trans rfl;have c62:wc.cell? ⟨b6,2,none⟩=some (.slice none 0 0):=(zq0 k6).trans rfl;have f60:wc.frozen? ⟨b6,0,none⟩=false:=zqf k6;have f61:wc.frozen? ⟨b6,1,none⟩=false:=zqf k6;have f62:wc.frozen? ⟨b6,2,none⟩=false:=zqf k6;have hm:=OMoved.set3 (o1:=0) (o2:=1) (o3:=2) hB.own H6.out (.bool x.2) (.int .i64 x.1) (.slice none 0 0);have HM:=Lib.hid hm;clear hm k6;go_wp2;exact⟨rfl,HX0.out _ _ _ HM.out ⟨_,_,_,_,_,_,_,_,_,_,_,_,_,_,_,_,_,_,_,_,_,_,_,_,_,_,_,_,_,_,_,_,_,_,_,_,_,_,_,_,_,_,_,_,_,_,_,_,_,_,_,_,_,_,_,_,_,_,rfl,rfl⟩⟩
   rintro _ _ w ⟨y4,y8,y9,y10,y11,y12,y13,y14,y15,y16,y17,y18,y19,y20,y21,y22,y23,y24,y25,y26,y27,y28,y29,y30,y31,y32,y33,y34,y35,y36,y37,y38,y39,y40,y41,y42,y43,y44,y45,y46,y47,y48,y49,y50,y51,y52,y53,y54,y55,y56,y57,y58,y59,y60,y61,y62,y63,y64,rfl,rfl⟩ hA;refine zqz Y.jc ?_;refine YSys.left hA (v:=.agg #[.bool x.2,.int .i64 x.1,.slice none 0 0]) (λwc hB=>results_cell_row rfl _ wc b6 49 _ _ _ rfl (hB.own.box b6 _ (upB_same _ _ _)) rfl rfl rfl) λw hA=>?_;exact⟨⟨x.2,x.1,[]⟩,λ_=>none,AnsV.plain _ _ _,λb hb=>absurd rfl hb,hA.drop (zq1n HLE.out HN.out)⟩
 rw[if_neg (by simp[hk2])];rw[if_neg hk2]at hA;clear hk2;apply YSys.seq0 hA (by kernel_rfl)
 . intro wc hB;go_wp2;exact⟨rfl,Ext1.refl _,rfl⟩
 intro w hA;refine zqr Y.jc rfl ?_
 by_cases hk3:op.k=3
 . rw[if_pos (by simp[hk3])];rw[if_pos hk3,Proc.bind_bind]at hA;clear hk3;refine zqj Y.jc (zqv Y.jc ?_);apply YSys.callB 0 5 4 hA (zq5f Y hst.base hc Try.func82 rfl rfl (first:=#[]) (caps:=#[.pointer (some ⟨b5,0,none⟩),.pointer (some ⟨b3,0,none⟩)]) (hst.maker hc H3.out H5.out) (λK hK=>by rw[mkP,Proc.bind_bind];exact Y.sil_tick _) (zq1a op.c)) (λx=>HKK.out _) rfl rfl rfl (by rfl) rfl rfl rfl
   . intro wc hB X hX;have HX:=Lib.hid hX;clear hX;have c30:wc.cell? ⟨b3,0,none⟩=some (.pointer (some ⟨T.ob c,0,none⟩)):=(zq0 (hB.own.box b3 _ H3.out)).trans rfl;go_wp2;exact HX.out _ (Ext1.refl _)
   . intro w;simp[go_sem,execOp,Act.eval,resolve,Deferred.ofValue,invoke,callFunc,Try.func27,Try.f27]
   . intro w;simp[go_sem,execOp,Act.eval,resolve,Deferred.ofValue,invoke,callFunc,Try.func27,Try.f27]
   . intro s' ch w' h;exact⟨rfl,h⟩
   intro s x w hA;apply YSys.callP 6 2 1 hA (zq7j Y x.1 x.2) rfl rfl rfl (by rfl) rfl rfl rfl
   . intro wc hB X hX;have HX:=Lib.hid hX;clear hX;go_wp2;exact HX.out _ (Ext1.refl _)
   . intro w;simp[go_sem,execOp,Act.eval,resolve,Deferred.ofValue,invoke,callFunc,Try.func81,Try.f81]
   . intro w;simp[go_sem,execOp,Act.eval,resolve,Deferred.ofValue,invoke,callFunc,Try.func81,Try.f81]
   intro w hA;refine YSys.opsX 9 1 (λt B'=>∃(y4 y8 y9 y10 y11 y12 y13 y14 y15 y16 y17 y18 y19 y20 y21 y22 y23 y24 y25 y26 y27 y28 y29 y30 y31 y32 y33 y34 y35 y36 y37 y38 y39 y40 y41 y42 y43 y44 y45 y46 y47 y48 y49 y50 y51 y52 y53 y54 y55 y56 y57 y58 y59 y60 y61 y62 y63 y64:Value),t=#[.pointer (some ⟨T.ob c,0,none⟩),sv,op.val,.pointer (some ⟨b3,0,none⟩),y4,.pointer (some ⟨b5,0,none⟩),.pointer (some ⟨b6,0,none⟩),.int .i64 (zq1a op.c),y8,y9,y10,y11,y12,y13,y14,y15,y16,y17,y18,y19,y20,y21,y22,y23,y24,y25,y26,y27,y28,y29,y30,y31,y32,y33,y34,y35,y36,y37,y38,y39,y40,y41,y42,y43,y44,y45,y46,y47,y48,y49,y50,y51,y52,y53,y54,y55,y56,y57,y58,y59,y60,y61,y62,y63,y64]/\B'=upB Bq b6 (.cells #[.bool (madeA x.1 x.2).ok,.int .i64 (madeA x.1 x.2).n,.slice none 0 0] 49)) hA rfl rfl (by kernel_rfl) ?_ ?_
   . intro wc hB X0 hX0;have HX0:=Lib.hid hX0;clear hX0;have k6:=hB.own.box b6 _ H6.out;have c60:wc.cell? ⟨b6,0,none⟩=some (.bool false):=(zq0 k6).trans rfl;have c61:wc.cell? ⟨b6,1,none⟩=some (.int .i64 0):=(zq0 k6).trans rfl;have c62:wc.cell? ⟨b6,2,none⟩=some (.slice none 0 0):=(zq0 k6).trans rfl;have f60:wc.frozen? ⟨b6,0,none⟩=false:=zqf k6;have f61:wc.frozen? ⟨b6,1,none⟩=false:=zqf k6;have f62:wc.frozen? ⟨b6,2,none⟩=false:=zqf k6;have hm:=OMoved.set3 (o1:=0) (o2:=1) (o3:=2) hB.own H6.out (.bool (madeA x.1 x.2).ok) (.int .i64 (madeA x.1 x.2).n) (.slice none 0 0);have HM:=Lib.hid hm;clear hm k6;go_wp2;exact⟨rfl,HX0.out _ _ _ HM.out ⟨_,_,_,_,_,_,_,_,_,_,_,_,_,_,_,_,_,_,_,_,_,_,_,_,_,_,_,_,_,_,_,_,_,_,_,_,_,_,_,_,_,_,_,_,_,_,_,_,_,_,_,_,_,_,_,_,_,_,rfl,rfl⟩⟩
   rintro _ _ w ⟨y4,y8,y9,y10,y11,y12,y13,y14,y15,y16,y17,y18,y19,y20,y21,y22,y23,y24,y25,y26,y27,y28,y29,y30,y31,y32,y33,y34,y35,y36,y37,y38,y39,y40,y41,y42,y43,y44,y45,y46,y47,y48,y49,y50,y51,y52,y53,y54,y55,y56,y57,y58,y59,y60,y61,y62,y63,y64,rfl,rfl⟩ hA;show wpJ Y.J _ _ _ _ _;refine zqz Y.jc ?_;refine YSys.left hA (v:=.agg #[.bool (madeA x.1 x.2).ok,.int .i64 (madeA x.1 x.2).n,.slice none 0 0]) (λwc hB=>results_cell_row rfl _ wc b6 49 _ _ _ rfl (hB.own.box b6 _ (upB_same _ _ _)) rfl rfl rfl) λw hA=>?_;exact⟨madeA x.1 x.2,λ_=>none,zq7i _ _,λb hb=>absurd rfl hb,hA.drop (zq1n HLE.out HN.out)⟩
 rw[if_neg (by simp[hk3])];rw[if_neg hk3]at hA;clear hk3;apply YSys.seq0 hA (by kernel_rfl)
 . intro wc hB;go_wp2;exact⟨rfl,Ext1.refl _,rfl⟩
 intro w hA;refine zqr Y.jc rfl ?_
 by_cases hk4:op.k=4
 . rw[if_pos (by simp[hk4])];rw[if_pos hk4,Proc.bind_bind]at hA;clear hk4;refine zqj Y.jc (zqv Y.jc ?_);apply YSys.callB 0 4 4 hA (zq5f Y hst.base hc Try.func83 rfl rfl (first:=#[]) (caps:=#[]) (zqe0 Y Bq sv) (λK hK=>hK _) (zq1a op.c)) (λx=>HKK.out _) rfl rfl rfl (by rfl) rfl rfl rfl
   . intro wc hB X hX;have HX:=Lib.hid hX;clear hX;have c30:wc.cell? ⟨b3,0,none⟩=some (.pointer (some ⟨T.ob c,0,none⟩)):=(zq0 (hB.own.box b3 _ H3.out)).trans rfl;go_wp2;exact HX.out _ (Ext1.refl _)
   . intro w;simp[go_sem,execOp,Act.eval,resolve,Deferred.ofValue,invoke,callFunc,Try.func27,Try.f27]
   . intro w;simp[go_sem,execOp,Act.eval,resolve,Deferred.ofValue,invoke,callFunc,Try.func27,Try.f27]
   . intro s' ch w' h;exact⟨rfl,h⟩
   intro s x w hA;apply YSys.callP 5 2 1 hA (zq7j Y x.1 x.2) rfl rfl rfl (by rfl) rfl rfl rfl
   . intro wc hB X hX;have HX:=Lib.hid hX;clear hX;go_wp2;exact HX.out _ (Ext1.refl _)
   . intro w;simp[go_sem,execOp,Act.eval,resolve,Deferred.ofValue,invoke,callFunc,Try.func81,Try.f81]
   . intro w;simp[go_sem,execOp,Act.eval,resolve,Deferred.ofValue,invoke,callFunc,Try.func81,Try.f81]
   intro w hA;refine YSys.opsX 8 1 (λt B'=>∃(y4 y8 y9 y10 y11 y12 y13 y14 y15 y16 y17 y18 y19 y20 y21 y22 y23 y24 y25 y26 y27 y28 y29 y30 y31 y32 y33 y34 y35 y36 y37 y38 y39 y40 y41 y42 y43 y44 y45 y46 y47 y48 y49 y50 y51 y52 y53 y54 y55 y56 y57 y58 y59 y60 y61 y62 y63 y64:Value),t=#[.pointer (some ⟨T.ob c,0,none⟩),sv,op.val,.pointer (some ⟨b3,0,none⟩),y4,.pointer (some ⟨b5,0,none⟩),.pointer (some ⟨b6,0,none⟩),.int .i64 (zq1a op.c),y8,y9,y10,y11,y12,y13,y14,y15,y16,y17,y18,y19,y20,y21,y22,y23,y24,y25,y26,y27,y28,y29,y30,y31,y32,y33,y34,y35,y36,y37,y38,y39,y40,y41,y42,y43,y44,y45,y46,y47,y48,y49,y50,y51,y52,y53,y54,y55,y56,y57,y58,y59,y60,y61,y62,y63,y64]/\B'=upB Bq b6 (.cells #[.bool (madeA x.1 x.2).ok,.int .i64 (madeA x.1 x.2).n,.slice none 0 0] 49)) hA rfl rfl (by kernel_rfl) ?_ ?_
   . intro wc hB X0 hX0;have HX0:=Lib.hid hX0;clear hX0;have k6:=hB.own.box b6 _ H6.out;have c60:wc.cell? ⟨b6,0,none⟩=some (.bool false):=(zq0 k6).trans rfl;have c61:wc.cell? ⟨b6,1,none⟩=some (.int .i64 0):=(zq0 k6).trans rfl;have c62:wc.cell? ⟨b6,2,none⟩=some (.slice none 0 0):=(zq0 k6).trans rfl;have f60:wc.frozen? ⟨b6,0,none⟩=false:=zqf k6;have f61:wc.frozen? ⟨b6,1,none⟩=false:=zqf k6;have f62:wc.frozen? ⟨b6,2,none⟩=false:=zqf k6;have hm:=OMoved.set3 (o1:=0) (o2:=1) (o3:=2) hB.own H6.out (.bool (madeA x.1 x.2).ok) (.int .i64 (madeA x.1 x.2).n) (.slice none 0 0);have HM:=Lib.hid hm;clear hm k6;go_wp2;exact⟨rfl,HX0.out _ _ _ HM.out ⟨_,_,_,_,_,_,_,_,_,_,_,_,_,_,_,_,_,_,_,_,_,_,_,_,_,_,_,_,_,_,_,_,_,_,_,_,_,_,_,_,_,_,_,_,_,_,_,_,_,_,_,_,_,_,_,_,_,_,rfl,rfl⟩⟩
   rintro _ _ w ⟨y4,y8,y9,y10,y11,y12,y13,y14,y15,y16,y17,y18,y19,y20,y21,y22,y23,y24,y25,y26,y27,y28,y29,y30,y31,y32,y33,y34,y35,y36,y37,y38,y39,y40,y41,y42,y43,y44,y45,y46,y47,y48,y49,y50,y51,y52,y53,y54,y55,y56,y57,y58,y59,y60,y61,y62,y63,y64,rfl,rfl⟩ hA;show wpJ Y.J _ _ _ _ _;refine zqz Y.jc ?_;refine YSys.left hA (v:=.agg #[.bool (madeA x.1 x.2).ok,.int .i64 (madeA x.1 x.2).n,.slice none 0 0]) (λwc hB=>results_cell_row rfl _ wc b6 49 _ _ _ rfl (hB.own.box b6 _ (upB_same _ _ _)) rfl rfl rfl) λw hA=>?_;exact⟨madeA x.1 x.2,λ_=>none,zq7i _ _,λb hb=>absurd rfl hb,hA.drop (zq1n HLE.out HN.out)⟩
 rw[if_neg (by simp[hk4])];rw[if_neg hk4]at hA;clear hk4;refine zq1i Y.jc ?_;show wpJ Y.J _ _ _ _ _;refine YSys.seqX (λt B'=>∃(y4 y8 y9 y10 y11 y12 y13 y14 y15 y16 y17 y18 y19 y20 y21 y22 y23 y24 y25 y26 y27 y28 y29 y30 y31 y32 y33 y34 y35 y36 y37 y38 y39 y40 y41 y42 y43 y44 y45 y46 y47 y48 y49 y50 y51 y52 y53 y54 y55 y56 y57 y58 y59 y60 y61 y62 y63 y64:Value),t=#[.pointer (some ⟨T.ob c,0,none⟩),sv,op.val,.pointer (some ⟨b3,0,none⟩),y4,.pointer (some ⟨b5,0,none⟩),.pointer (some ⟨b6,0,none⟩),.int .i64 (zq1a op.c),y8,y9,y10,y11,y12,y13,y14,y15,y16,y17,y18,y19,y20,y21,y22,y23,y24,y25,y26,y27,y28,y29,y30,y31,y32,y33,y34,y35,y36,y37,y38,y39,y40,y41,y42,y43,y44,y45,y46,y47,y48,y49,y50,y51,y52,y53,y54,y55,y56,y57,y58,y59,y60,y61,y62,y63,y64]/\B'=upB Bq b6 (.cells #[.bool false,.int .i64 0,.slice none 0 0] 49)) hA (by kernel_rfl) ?_ ?_
 . intro wc hB X0 hX0;have HX0:=Lib.hid hX0;clear hX0;have k6:=hB.own.box b6 _ H6.out;have c60:wc.cell? ⟨b6,0,none⟩=some (.bool false):=(zq0 k6).trans rfl;have c61:wc.cell? ⟨b6,1,none⟩=some (.int .i64 0):=(zq0 k6).trans rfl;have c62:wc.cell? ⟨b6,2,none⟩=some (.slice none 0 0):=(zq0 k6).trans rfl;have f60:wc.frozen? ⟨b6,0,none⟩=false:=zqf k6;have f61:wc.frozen? ⟨b6,1,none⟩=false:=zqf k6;have f62:wc.frozen? ⟨b6,2,none⟩=false:=zqf k6;have hm:=OMoved.set3 (o1:=0) (o2:=1) (o3:=2) hB.own H6.out (.bool false) (.int .i64 0) (.slice none 0 0);have HM:=Lib.hid hm;clear hm k6;go_wp2;exact⟨rfl,HX0.out _ _ _ HM.out ⟨_,_,_,_,_,_,_,_,_,_,_,_,_,_,_,_,_,_,_,_,_,_,_,_,_,_,_,_,_,_,_,_,_,_,_,_,_,_,_,_,_,_,_,_,_,_,_,_,_,_,_,_,_,_,_,_,_,_,rfl,rfl⟩⟩
 rintro _ _ w ⟨y4,y8,y9,y10,y11,y12,y13,y14,y15,y16,y17,y18,y19,y20,y21,y22,y23,y24,y25,y26,y27,y28,y29,y30,y31,y32,y33,y34,y35,y36,y37,y38,y39,y40,y41,y42,y43,y44,y45,y46,y47,y48,y49,y50,y51,y52,y53,y54,y55,y56,y57,y58,y59,y60,y61,y62,y63,y64,rfl,rfl⟩ hA;refine zqz Y.jc ?_;refine YSys.left hA (v:=.agg #[.bool false,.int .i64 0,.slice none 0 0]) (λwc hB=>results_cell_row rfl _ wc b6 49 _ _ _ rfl (hB.own.box b6 _ (upB_same _ _ _)) rfl rfl rfl) λw hA=>?_;exact⟨Ans.none,λ_=>none,AnsV.plain _ _ _,λb hb=>absurd rfl hb,hA.drop (zq1n HLE.out HN.out)⟩
end
set_option maxHeartbeats 8000000
def doerP{S2:Type}(N:Nat)(op:OpX):Proc (Nums×S2) Ans:=if op.a<0\/(N:Int)<=op.a then Proc.ret Ans.none else onceP op.a.toNat op
section
variable {M2 S2 β:Type} {D:Core M2 S2} {ro:Nat->Option Obj} {i:Nat} {T:NumT}
theorem zqbc(Z:Alone Try.prog aM (zqi (zqq T) D) ro i β){I:Nums×S2->Prop}{sv:Value}(hst:zq3y (Z.sys I) sv){vb pb Cp:Nat}{ps:Array Value}(hv:ro vb=some (.cells #[.slice (some ⟨pb,0,none⟩) T.N Cp] 108))(hp:ro pb=some (.cells ps 35))(hps:∀c,c<T.N->ps[c]?=some (.pointer (some ⟨T.ob c,0,none⟩)))(hN:T.N<=64)(who:Int)(op:OpX):
 SpecR (Z.sys I) 63 #[sv,.int .i64 who,op.val,.pointer (some ⟨vb,0,none⟩)] (doerP T.N op) (AnsV 2):=by
 have HS:=Lib.hid hst;have HR:=Lib.hid (And.intro hv (And.intro hp hps));clear hst hv hp hps;refine SpecR.of Try.func63 rfl ?_;intro K s B w hK hA;simp only[zqg,Try.ntmps63,List.size_toArray,List.length_cons,List.length_nil,Nat.reduceAdd,Nat.reduceSub,Array.replicate_succ,Array.replicate_zero,List.push_toArray,List.append_toArray,List.nil_append,List.cons_append];have HKK:=Lib.hid hK;clear hK;refine zqj (Z.sys I).jc (zqv (Z.sys I).jc ?_);refine YSys.preX 0 1 1 (λt B'=>∃(b6:Nat)(x4 x5 x7 x8 x9 x10 x11 x12 x13 x14 x15 x16 x17 x18 x19 x20 x21 x22 x23 x24 x25 x26:Value),t=#[sv,.int .i64 who,op.val,.pointer (some ⟨vb,0,none⟩),x4,x5,.pointer (some ⟨b6,0,none⟩),x7,x8,x9,x10,x11,x12,x13,x14,x15,x16,x17,x18,x19,x20,x21,x22,x23,x24,x25,x26]/\(B) b6=none/\B'=upB (B) b6 (.cells op.cells.toArray 34)) hA rfl rfl rfl rfl ?_ ?_
 . intro wc hB X0 hX0;have HX0:=Lib.hid hX0;clear hX0;have hm:=OMoved.push (o:=.cells op.cells.toArray 34) hB.own (Ext1.alloc wc (.cells op.cells.toArray 34)) (Nat.le_refl _) (by rw[zqd];simp);have hf:=hB.own.fresh (Nat.le_refl _);have HM:=Lib.hid (And.intro hm hf);clear hm hf;unfold OpX.val;go_wp2;exact HX0.out _ _ _ HM.out.1 ⟨_,_,_,_,_,_,_,_,_,_,_,_,_,_,_,_,_,_,_,_,_,_,_,rfl,HM.out.2,rfl⟩
 clear hA;rintro _ _ w ⟨b6,x4,x5,x7,x8,x9,x10,x11,x12,x13,x14,x15,x16,x17,x18,x19,x20,x21,x22,x23,x24,x25,x26,rfl,hb6,rfl⟩ hA;refine YSys.opsX 1 1 (λt B'=>∃(b7:Nat)(x4 x5 x8 x9 x10 x11 x12 x13 x14 x15 x16 x17 x18 x19 x20 x21 x22 x23 x24 x25 x26:Value),t=#[sv,.int .i64 who,op.val,.pointer (some ⟨vb,0,none⟩),x4,x5,.pointer (some ⟨b6,0,none⟩),.pointer (some ⟨b7,0,none⟩),x8,x9,x10,x11,x12,x13,x14,x15,x16,x17,x18,x19,x20,x21,x22,x23,x24,x25,x26]/\(upB B b6 (.cells op.cells.toArray 34)) b7=none/\B'=upB (upB B b6 (.cells op.cells.toArray 34)) b7 (.cells #[.bool false,.int .i64 0,.slice none 0 0] 49)) hA rfl rfl (by kernel_rfl) ?_ ?_
 . intro wc hB X0 hX0;have HX0:=Lib.hid hX0;clear hX0;have hm:=OMoved.push (o:=.cells #[.bool false,.int .i64 0,.slice none 0 0] 49) hB.own (Ext1.alloc wc (.cells #[.bool false,.int .i64 0,.slice none 0 0] 49)) (Nat.le_refl _) (by rw[zqd];simp);have hf:=hB.own.fresh (Nat.le_refl _);have HM:=Lib.hid (And.intro hm hf);clear hm hf;go_wp2;exact⟨rfl,HX0.out _ _ _ HM.out.1 ⟨_,_,_,_,_,_,_,_,_,_,_,_,_,_,_,_,_,_,_,_,_,_,rfl,HM.out.2,rfl⟩⟩
 clear hA;rintro _ _ w ⟨b7,x4,x5,x8,x9,x10,x11,x12,x13,x14,x15,x16,x17,x18,x19,x20,x21,x22,x23,x24,x25,x26,rfl,hb7,rfl⟩ hA;have h6:(upB (upB B b6 (.cells op.cells.toArray 34)) b7 (.cells #[.bool false,.int .i64 0,.slice none 0 0] 49)) b6=some (.cells op.cells.toArray 34):=zq2k (upB_same _ _ _) (zq36 (upB_same _ _ _) hb7);have h7:(upB (upB B b6 (.cells op.cells.toArray 34)) b7 (.cells #[.bool false,.int .i64 0,.slice none 0 0] 49)) b7=some (.cells #[.bool false,.int .i64 0,.slice none 0 0] 49):=upB_same _ _ _;have hB7:B b7=none:=Classical.byContradiction λh=>by
  cases ho:B b7 with
  |none=>exact h ho
  |some o=>rw[zq2w (o:=.cells op.cells.toArray 34) hb6 b7 o ho]at hb7;cases hb7
 have hle:∀x y,B x=some y->(upB (upB B b6 (.cells op.cells.toArray 34)) b7 (.cells #[.bool false,.int .i64 0,.slice none 0 0] 49)) x=some y:=zq1n (zq2w (o:=.cells op.cells.toArray 34) hb6) hB7;obtain⟨Bq,hBq⟩:∃X,upB (upB B b6 (.cells op.cells.toArray 34)) b7 (.cells #[.bool false,.int .i64 0,.slice none 0 0] 49)=X:=⟨_,rfl⟩;rw[hBq]at h6 h7 hle hA;have H6:=Lib.hid h6;have H7:=Lib.hid h7;have HLE:=Lib.hid hle;have HN:=Lib.hid hB7;clear h6 h7 hle hBq hb6 hb7 hB7;show wpJ (Z.sys I).J _ _ _ _ _;refine zqj (Z.sys I).jc ?_;unfold doerP at hA;obtain⟨x,hx⟩:∃x,op.a=x:=⟨_,rfl⟩;obtain⟨NN,hNN⟩:∃x,T.N=x:=⟨_,rfl⟩;have HX:=Lib.hid (And.intro hx hNN);rw[hx,hNN]at hA;rw[hNN]at hN;clear hx hNN
 by_cases h1:x<0
 . rw[if_pos (.inl h1)]at hA;apply YSys.seq0 hA (by kernel_rfl)
   . intro wc hB;have k6:=hB.own.box b6 _ H6.out;have c60:wc.cell? ⟨b6,0,none⟩=some (.int .i64 op.k):=(zq0 k6).trans rfl;have c61:wc.cell? ⟨b6,1,none⟩=some (.int .i64 op.a):=(zq0 k6).trans rfl;have c62:wc.cell? ⟨b6,2,none⟩=some (.int .i64 op.b):=(zq0 k6).trans rfl;have c63:wc.cell? ⟨b6,3,none⟩=some (.int .i64 op.c):=(zq0 k6).trans rfl;rw[HX.out.1]at c61;clear k6;go_wp2;exact⟨rfl,Ext1.refl _,rfl⟩
   intro w hA;refine zqr (Z.sys I).jc rfl ?_;rw[if_pos rfl];refine YSys.seqX (λt B'=>∃(y4 y5 y8 y9 y10 y11 y12 y13 y14 y15 y16 y17 y18 y19 y20 y21 y22 y23 y24 y25 y26:Value),t=#[sv,.int .i64 who,op.val,.pointer (some ⟨vb,0,none⟩),y4,y5,.pointer (some ⟨b6,0,none⟩),.pointer (some ⟨b7,0,none⟩),y8,y9,y10,y11,y12,y13,y14,y15,y16,y17,y18,y19,y20,y21,y22,y23,y24,y25,y26]/\B'=upB Bq b7 (.cells #[.bool false,.int .i64 0,.slice none 0 0] 49)) hA (by kernel_rfl) ?_ ?_
   . intro wc hB X0 hX0;have HX0:=Lib.hid hX0;clear hX0;have k7:=hB.own.box b7 _ H7.out;have c70:wc.cell? ⟨b7,0,none⟩=some (.bool false):=(zq0 k7).trans rfl;have c71:wc.cell? ⟨b7,1,none⟩=some (.int .i64 0):=(zq0 k7).trans rfl;have c72:wc.cell? ⟨b7,2,none⟩=some (.slice none 0 0):=(zq0 k7).trans rfl;have f70:wc.frozen? ⟨b7,0,none⟩=false:=zqf k7;have f71:wc.frozen? ⟨b7,1,none⟩=false:=zqf k7;have f72:wc.frozen? ⟨b7,2,none⟩=false:=zqf k7;clear k7;have hm:=OMoved.set3 (o1:=0) (o2:=1) (o3:=2) hB.own H7.out (.bool false) (.int .i64 0) (.slice none 0 0);have HM:=Lib.hid hm;clear hm;go_wp2;exact⟨rfl,HX0.out _ _ _ HM.out ⟨_,_,_,_,_,_,_,_,_,_,_,_,_,_,_,_,_,_,_,_,_,rfl,rfl⟩⟩
   rintro _ _ w ⟨y4,y5,y8,y9,y10,y11,y12,y13,y14,y15,y16,y17,y18,y19,y20,y21,y22,y23,y24,y25,y26,rfl,rfl⟩ hA;refine zqz (Z.sys I).jc ?_;refine YSys.left hA (v:=.agg #[.bool false,.int .i64 0,.slice none 0 0]) (λwc hB=>results_cell_row rfl _ wc b7 49 _ _ _ rfl (hB.own.box b7 _ (upB_same _ _ _)) rfl rfl rfl) λw hA=>?_;exact⟨Ans.none,λ_=>none,AnsV.plain _ _ _,λb hb=>absurd rfl hb,hA.drop (zq1n HLE.out HN.out)⟩
 by_cases h2:(NN:Int)<=x
 . rw[if_pos (.inr h2)]at hA;apply YSys.seq0 (t':=#[sv,.int .i64 who,op.val,.pointer (some ⟨vb,0,none⟩),x4,x5,.pointer (some ⟨b6,0,none⟩),.pointer (some ⟨b7,0,none⟩),.pointer (some ⟨b6,1,none⟩),.int .i64 x,.bool false,.bool false,.pointer (some ⟨b6,1,none⟩),.int .i64 x,.slice (some ⟨pb,0,none⟩) NN Cp,.int .i64 NN,.bool true,.bool true,x18,x19,x20,x21,x22,x23,x24,x25,x26]) hA (by kernel_rfl)
   . intro wc hB;have k6:=hB.own.box b6 _ H6.out;have c60:wc.cell? ⟨b6,0,none⟩=some (.int .i64 op.k):=(zq0 k6).trans rfl;have c61:wc.cell? ⟨b6,1,none⟩=some (.int .i64 op.a):=(zq0 k6).trans rfl;have c62:wc.cell? ⟨b6,2,none⟩=some (.int .i64 op.b):=(zq0 k6).trans rfl;have c63:wc.cell? ⟨b6,3,none⟩=some (.int .i64 op.c):=(zq0 k6).trans rfl;rw[HX.out.1]at c61;clear k6;have cv:wc.cell? ⟨vb,0,none⟩=some (.slice (some ⟨pb,0,none⟩) T.N Cp):=(zq0 (hB.own.rod vb _ HR.out.1)).trans rfl;rw[HX.out.2]at cv;clear hA hN c60 c62 c63;have h3:(0:Int)<=x:=by omega
     go_wp2;exact⟨rfl,Ext1.refl _,rfl⟩
   intro w hA;refine zqr (Z.sys I).jc rfl ?_;rw[if_pos rfl];refine YSys.seqX (λt B'=>∃(y4 y5 y8 y9 y10 y11 y12 y13 y14 y15 y16 y17 y18 y19 y20 y21 y22 y23 y24 y25 y26:Value),t=#[sv,.int .i64 who,op.val,.pointer (some ⟨vb,0,none⟩),y4,y5,.pointer (some ⟨b6,0,none⟩),.pointer (some ⟨b7,0,none⟩),y8,y9,y10,y11,y12,y13,y14,y15,y16,y17,y18,y19,y20,y21,y22,y23,y24,y25,y26]/\B'=upB Bq b7 (.cells #[.bool false,.int .i64 0,.slice none 0 0] 49)) hA (by kernel_rfl) ?_ ?_
   . intro wc hB X0 hX0;have HX0:=Lib.hid hX0;clear hX0;have k7:=hB.own.box b7 _ H7.out;have c70:wc.cell? ⟨b7,0,none⟩=some (.bool false):=(zq0 k7).trans rfl;have c71:wc.cell? ⟨b7,1,none⟩=some (.int .i64 0):=(zq0 k7).trans rfl;have c72:wc.cell? ⟨b7,2,none⟩=some (.slice none 0 0):=(zq0 k7).trans rfl;have f70:wc.frozen? ⟨b7,0,none⟩=false:=zqf k7;have f71:wc.frozen? ⟨b7,1,none⟩=false:=zqf k7;have f72:wc.frozen? ⟨b7,2,none⟩=false:=zqf k7;clear k7;have hm:=OMoved.set3 (o1:=0) (o2:=1) (o3:=2) hB.own H7.out (.bool false) (.int .i64 0) (.slice none 0 0);have HM:=Lib.hid hm;clear hm;go_wp2;exact⟨rfl,HX0.out _ _ _ HM.out ⟨_,_,_,_,_,_,_,_,_,_,_,_,_,_,_,_,_,_,_,_,_,rfl,rfl⟩⟩
   rintro _ _ w ⟨y4,y5,y8,y9,y10,y11,y12,y13,y14,y15,y16,y17,y18,y19,y20,y21,y22,y23,y24,y25,y26,rfl,rfl⟩ hA;refine zqz (Z.sys I).jc ?_;refine YSys.left hA (v:=.agg #[.bool false,.int .i64 0,.slice none 0 0]) (λwc hB=>results_cell_row rfl _ wc b7 49 _ _ _ rfl (hB.own.box b7 _ (upB_same _ _ _)) rfl rfl rfl) λw hA=>?_;exact⟨Ans.none,λ_=>none,AnsV.plain _ _ _,λb hb=>absurd rfl hb,hA.drop (zq1n HLE.out HN.out)⟩
 rw[if_neg (λh=>h.elim h1 h2)]at hA;have h3:x<(NN:Int):=by omega
 have h4:(0:Int)<=x:=by omega
 have h5:¬x>=(NN:Int):=by omega
 apply YSys.seq0 (t':=#[sv,.int .i64 who,op.val,.pointer (some ⟨vb,0,none⟩),x4,x5,.pointer (some ⟨b6,0,none⟩),.pointer (some ⟨b7,0,none⟩),.pointer (some ⟨b6,1,none⟩),.int .i64 x,.bool false,.bool false,.pointer (some ⟨b6,1,none⟩),.int .i64 x,.slice (some ⟨pb,0,none⟩) NN Cp,.int .i64 NN,.bool false,.bool false,x18,x19,x20,x21,x22,x23,x24,x25,x26]) hA (by kernel_rfl)
 . intro wc hB;have k6:=hB.own.box b6 _ H6.out;have c60:wc.cell? ⟨b6,0,none⟩=some (.int .i64 op.k):=(zq0 k6).trans rfl;have c61:wc.cell? ⟨b6,1,none⟩=some (.int .i64 op.a):=(zq0 k6).trans rfl;have c62:wc.cell? ⟨b6,2,none⟩=some (.int .i64 op.b):=(zq0 k6).trans rfl;have c63:wc.cell? ⟨b6,3,none⟩=some (.int .i64 op.c):=(zq0 k6).trans rfl;rw[HX.out.1]at c61;clear k6;have cv:wc.cell? ⟨vb,0,none⟩=some (.slice (some ⟨pb,0,none⟩) T.N Cp):=(zq0 (hB.own.rod vb _ HR.out.1)).trans rfl;rw[HX.out.2]at cv;clear hA hN c60 c62 c63 h2;go_wp2;exact⟨rfl,Ext1.refl _,rfl⟩
 intro w hA;refine zqr (Z.sys I).jc rfl (zq1i (Z.sys I).jc ?_);show wpJ (Z.sys I).J _ _ _ _ _;refine zqj (Z.sys I).jc ?_;obtain⟨c,rfl⟩:∃c:Nat,x=c:=⟨x.toNat,by omega⟩;have hcN:c<T.N:=by have:=HX.out.2;omega
 have hac:op.a.toNat=c:=by have:=HX.out.1;omega
 refine Z.region (by kernel_rfl) 7 [.slice (some ⟨pb,0,none⟩) NN Cp,.pointer (some ⟨b6,1,none⟩),.int .i64 c,.pointer (some ⟨pb,c,none⟩),.pointer (some ⟨T.ob c,0,none⟩),sv,op.val] hA rfl (by kernel_rfl) (by kernel_rfl) (by kernel_rfl) (by kernel_rfl) (by decide) (by kernel_rfl) ?_ ?_
 . intro wc hB j o v Tm hj hvj hdep hout;have hj7:j<7:=by have:=(List.getElem?_eq_some_iff.1 hvj).1;simpa using this
   have t0:Tm[0]?=some sv:=hout 0 (by intro q hq;rcases(by omega:q=0\/q=1\/q=2\/q=3\/q=4\/q=5\/q=6)with rfl |rfl |rfl |rfl |rfl |rfl |rfl<;>decide);have t3:Tm[3]?=some (.pointer (some ⟨vb,0,none⟩)):=hout 3 (by intro q hq;rcases(by omega:q=0\/q=1\/q=2\/q=3\/q=4\/q=5\/q=6)with rfl |rfl |rfl |rfl |rfl |rfl |rfl<;>decide);have t6:Tm[6]?=some (.pointer (some ⟨b6,0,none⟩)):=hout 6 (by intro q hq;rcases(by omega:q=0\/q=1\/q=2\/q=3\/q=4\/q=5\/q=6)with rfl |rfl |rfl |rfl |rfl |rfl |rfl<;>decide);have k6:=hB.own.box b6 _ H6.out;have c60:wc.cell? ⟨b6,0,none⟩=some (.int .i64 op.k):=(zq0 k6).trans rfl;have c61:wc.cell? ⟨b6,1,none⟩=some (.int .i64 op.a):=(zq0 k6).trans rfl;have c62:wc.cell? ⟨b6,2,none⟩=some (.int .i64 op.b):=(zq0 k6).trans rfl;have c63:wc.cell? ⟨b6,3,none⟩=some (.int .i64 op.c):=(zq0 k6).trans rfl;rw[HX.out.1]at c61;clear k6;have cv:wc.cell? ⟨vb,0,none⟩=some (.slice (some ⟨pb,0,none⟩) T.N Cp):=(zq0 (hB.own.rod vb _ HR.out.1)).trans rfl;rw[HX.out.2]at cv;have cp:wc.cell? ⟨pb,c,none⟩=some (.pointer (some ⟨T.ob c,0,none⟩)):=(zq0 (hB.own.rod pb _ HR.out.2.1)).trans (HR.out.2.2 c hcN);clear hout hA;rcases(by omega:j=0\/j=1\/j=2\/j=3\/j=4\/j=5\/j=6)with rfl |rfl |rfl |rfl |rfl |rfl |rfl
   all_goals simp only[al_gl,al_g0,al_g1,al_oi]at hj hvj
   all_goals subst hj hvj
   . simp[go_sem,execOp,Act.eval,resolve,t3,cv]
   . simp[go_sem,execOp,Act.eval,resolve,t6]
   . have d:=hdep _ (by simp;rfl) (by decide) 20 _ rfl rfl;simp[go_sem,execOp,Act.eval,resolve,d,c61]
   . have d:=hdep _ (by simp;exact .inl rfl) (by decide) 19 _ rfl rfl;have d2:=hdep _ (by simp;exact .inr rfl) (by decide) 21 _ rfl rfl;simp[go_sem,execOp,Act.eval,resolve,d,d2,h3,h4]
   . have d:=hdep _ (by simp;rfl) (by decide) 22 _ rfl rfl;simp[go_sem,execOp,Act.eval,resolve,d,cp]
   . simp[go_sem,execOp,Act.eval,resolve,t0]
   . simp[go_sem,execOp,Act.eval,resolve,t6,c60,c61,c62,c63,OpX.val];exact HX.out.1.symm
 . intro w hA;simp only[putv,dstOf,al_gl,al_g0,al_g1,al_ob,al_g2,List.set_cons_succ,List.set_cons_zero];rw[Int.toNat_natCast]at hA;change opsJ (Z.sys I).J _ [7,8] _ _ _ _;refine YSys.callO ((do_spec (Z.sys I) HS.out hcN op) K s Bq w HKK.out hA) rfl rfl rfl ?_ ?_ ?_
   . intro w;simp[go_sem,execOp,Act.eval,resolve,Deferred.ofValue,invoke,callFunc,Try.func64,Try.f64]
   . intro w;simp[go_sem,execOp,Act.eval,resolve,Deferred.ofValue,invoke,callFunc,Try.func64,Try.f64]
   clear hA;intro s e' w hp;cases e' with
   |outgrown=>exact hp
   |panicked ch=>exact⟨rfl,hp⟩
   |returned v=>
   obtain⟨a,X,⟨sl,rfl,hsl⟩,hXB,hA⟩:=hp;have hX7:X b7=none:=Classical.byContradiction λh=>by
    have:=hXB b7 h;rw[H7.out]at this;cases this
   have h7':orB X Bq b7=some (.cells #[.bool false,.int .i64 0,.slice none 0 0] 49):=by simp[orB,hX7,H7.out]
   obtain⟨sa,sn,sc,hsl'⟩:∃sa sn sc,sl=.slice sa sn sc:=by rcases hsl.2 with⟨h,_⟩|⟨_,_,_,h,_⟩<;>exact⟨_,_,_,h⟩
   subst hsl';have HQ:=Lib.hid (And.intro hsl (And.intro hXB hX7));clear hsl hXB hX7;have H7:=Lib.hid h7';clear h7';refine YSys.opsX 8 1 (λt B'=>∃(y4 y5 y8 y9 y10 y11 y12 y13 y14 y15 y16 y17 y18 y19 y20 y21 y22 y23 y24 y25 y26:Value),t=#[sv,.int .i64 who,op.val,.pointer (some ⟨vb,0,none⟩),y4,y5,.pointer (some ⟨b6,0,none⟩),.pointer (some ⟨b7,0,none⟩),y8,y9,y10,y11,y12,y13,y14,y15,y16,y17,y18,y19,y20,y21,y22,y23,y24,y25,y26]/\B'=upB (orB X Bq) b7 (.cells #[.bool a.ok,.int .i64 a.n,.slice sa sn sc] 49)) hA rfl rfl (by kernel_rfl) ?_ ?_
   . intro wc hB X0 hX0;have HX0:=Lib.hid hX0;clear hX0;have k7:=hB.own.box b7 _ H7.out;have c70:wc.cell? ⟨b7,0,none⟩=some (.bool false):=(zq0 k7).trans rfl;have c71:wc.cell? ⟨b7,1,none⟩=some (.int .i64 0):=(zq0 k7).trans rfl;have c72:wc.cell? ⟨b7,2,none⟩=some (.slice none 0 0):=(zq0 k7).trans rfl;have f70:wc.frozen? ⟨b7,0,none⟩=false:=zqf k7;have f71:wc.frozen? ⟨b7,1,none⟩=false:=zqf k7;have f72:wc.frozen? ⟨b7,2,none⟩=false:=zqf k7;clear k7;have hm:=OMoved.set3 (o1:=0) (o2:=1) (o3:=2) hB.own H7.out (.bool a.ok) (.int .i64 a.n) (.slice sa sn sc);have HM:=Lib.hid hm;clear hm hA;go_wp2;exact⟨rfl,HX0.out _ _ _ HM.out ⟨_,_,_,_,_,_,_,_,_,_,_,_,_,_,_,_,_,_,_,_,_,rfl,rfl⟩⟩
   clear hA;rintro _ _ w ⟨y4,y5,y8,y9,y10,y11,y12,y13,y14,y15,y16,y17,y18,y19,y20,y21,y22,y23,y24,y25,y26,rfl,rfl⟩ hA;refine zqz (Z.sys I).jc ?_;refine YSys.left hA (v:=.agg #[.bool a.ok,.int .i64 a.n,.slice sa sn sc]) (λwc hB=>results_cell_row rfl _ wc b7 49 _ _ _ rfl (hB.own.box b7 _ (upB_same _ _ _)) rfl rfl rfl) λw hA=>?_;refine⟨a,X,⟨_,rfl,HQ.out.1⟩,λb hb=>?_,hA.drop λb o hb=>?_⟩
   . cases ho:B b with
     |none=>rfl
     |some o=>have:=HQ.out.2.1 b hb;rw[HLE.out b o ho]at this;cases this
   . have hne:b≠b7:=λe=>by subst e;simp[orB,HQ.out.2.2,HN.out]at hb
     rw[zq27 _ _ hne];unfold orB at hb |-;cases hx:X b with
     |none=>rw[hx]at hb;exact HLE.out b o hb
     |some y=>rw[hx]at hb;exact hb
end
theorem zq7k(n:Nat)(st:Nat)(w:World):(Go.method (n+1) 141 (.pointer (some ⟨st,0,none⟩)) "Step").run Try.prog w=.ok (130,.pointer (some ⟨st,0,none⟩)) w:=by kernel_rfl
theorem zq7l(n:Nat)(st:Nat)(w:World)(es:Array Event):(Go.method (n+1) 141 (.pointer (some ⟨st,0,none⟩)) "Step").events Try.prog w es=es:=by kernel_rfl
section
variable {Ml S β:Type} {C:Core Ml S} {ro:Nat->Option Obj} {i:Nat}
theorem zqhc(Y:YSys Try.prog aM C ro i β){st:Nat}(h:StepY Y 130 #[.pointer (some ⟨st,0,none⟩)]):StepY Y 48 #[.iface 141 (.pointer (some ⟨st,0,none⟩))]:=by
 intro K s m w hA;refine BodyY.calls ⟨_,_,Try.func48,rfl,?_⟩;simp only[zqg,Try.ntmps48,List.size_toArray,List.length_cons,List.length_nil,Nat.reduceAdd,Nat.reduceSub,Array.replicate_succ,Array.replicate_zero,List.push_toArray,List.append_toArray,List.nil_append,List.cons_append];have hA:Y.AtB (m.box i) s w (Proc.tick.bind K):=⟨m,rfl,hA⟩;obtain⟨B,hB0⟩:∃B,m.box i=B:=⟨_,rfl⟩;rw[hB0]at hA |-;clear hB0;apply YSys.seq0 hA (by kernel_rfl)
 . intro wc hB;go_wp2;exact⟨rfl,Ext1.refl _,rfl⟩
 intro w hA;refine zqr Y.jc rfl ?_;rw[if_pos rfl];refine zqv Y.jc ?_;apply YSys.callS 0 1 0 hA h rfl rfl rfl (by rfl) rfl rfl rfl
 . intro wc hB X hX;have HX:=Lib.hid hX;clear hX;go_wp2;exact HX.out _ (Ext1.refl _)
 . intro w;simp[go_sem,execOp,Act.eval,resolve,Deferred.ofValue,invoke,callFunc,zq7k,zq7l,Try.func130,Try.f130]
 . intro w;simp[go_sem,execOp,Act.eval,resolve,Deferred.ofValue,invoke,callFunc,zq7k,zq7l,Try.func130,Try.f130]
 . intro s' ch w' h;exact⟨rfl,h⟩
 intro s w hA;refine zq18 Y.jc ?_;exact⟨rfl,.inl ⟨_,resultsC_none rfl _,(),hA.choose,rfl,hA.choose_spec⟩⟩
end
end Go.Proofs
