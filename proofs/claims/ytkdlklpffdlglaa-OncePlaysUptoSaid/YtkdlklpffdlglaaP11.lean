/- YtkdlklpffdlglaaOPlays2: part 11 of the proof (the texts behind it, in order). -/
import Derived.Test.YtkdlklpffdlglaaP10
set_option linter.unusedSimpArgs false
set_option linter.unusedVariables false
set_option linter.unusedSectionVars false
set_option linter.unnecessarySimpa false
set_option maxHeartbeats 4000000
set_option maxRecDepth 100000
namespace Go.Proofs
open Go Go.Conc Go.RowKit Go.Car
def onceN(cells:Int):Nat:=(min (max cells 1) 64).toNat
theorem onceN_pos(c:Int):0<onceN c/\onceN c<=64:=by unfold onceN;omega
def oncesPs(ob:Nat->Nat)(j:Nat):List Value:=(List.range j).map λc=>.pointer (some ⟨ob c,0,none⟩)
structure OncesI(w0:World)(vb j:Nat)(ob:Nat->Nat)(v:Value)(w:World):Prop where
 be:Beyond w0 w
 vbk:w.heap[vb]?=some (.cells #[v] 108)
 row:w.ownsRow w0.heap.size 35 1 v j (oncesPs ob j)
 blk:∀c,c<j->w.heap[ob c]?=some (.cells #[.int .i64 0,.int .i64 0,.int .i64 0] 43)
 lo:∀c,c<j->w0.heap.size<=ob c
 inj:∀c d,c<j->d<j->ob c=ob d->c=d
 vlo:w0.heap.size<=vb
theorem once_pushed{w0 wr W w2:World}{vb j q g cap C:Nat}{p:Option Addr}{ob:Nat->Nat}(h:OncesI w0 vb j ob (.slice p j C) wr)(hq:wr.heap.size=q)
 (hW:W.heap=((wr.alloc (.cells #[.int .i64 0,.int .i64 0,.int .i64 0] 43)).alloc (.cells #[.pointer (some ⟨q,0,none⟩)] 35)).heap)
 (hrow:w2.ownsRow w0.heap.size 35 1 (.slice (some ⟨g,0,none⟩) (j+1) cap) (j+1) (oncesPs ob j++[.pointer (some ⟨q,0,none⟩)])) (hgr:W.grownBy w2 (Value.slice p j C).ownBlock):
 OncesI w0 vb (j+1) (upd' ob j q) (.slice (some ⟨g,0,none⟩) (j+1) cap) (w2.setCell ⟨vb,0,none⟩ (.slice (some ⟨g,0,none⟩) (j+1) cap)):=by
 have a0:∀b o,wr.heap[b]?=some o->W.heap[b]?=some o:=λb o hb=>by rw[hW];exact al_old (al_old hb)
 have aq:W.heap[q]?=some (.cells #[.int .i64 0,.int .i64 0,.int .i64 0] 43):=by rw[hW,←hq];exact al_old (al_new _ _)
 have hsz:W.heap.size=q+2:=by rw[hW,zq3,zq3,hq]
 have keep:∀b o,W.heap[b]?=some o->(Value.slice p j C).ownBlock≠some b->w2.heap[b]?=some o:=λb o hb hn=>(hgr.block b (zq7 hb) (λe=>hn e.symm)).trans hb;have set1:∀b o,w2.heap[b]?=some o->b≠vb->(w2.setCell ⟨vb,0,none⟩ (.slice (some ⟨g,0,none⟩) (j+1) cap)).heap[b]?=some o:=λb o hb hn=>(zq8 _ _ _ _ hn).trans hb;have hv2:w2.heap[vb]?=some (.cells #[.slice p j C] 108):=keep _ _ (a0 _ _ h.vbk) (own_ne h.row h.vbk (by decide));have hb0:=h.be.1;refine⟨⟨?_,λb hb=>?_⟩,?_,?_,λc hc=>?_,λc hc=>?_,λc d hc hd e=>?_,h.vlo⟩
 · rw[zqb];have:=hgr.size;omega
 · rw[zq8 _ _ _ _ (show b≠vb by have:=h.vlo;omega)];refine(hgr.block b (by omega) (λe=>?_)).trans ?_
   · have:=(own_lt h.row e.symm).2.1;omega
   · rw[hW,zq5,if_neg (by rw[zq3];omega),zq5,if_neg (by omega)];exact h.be.2 b hb
 · exact zqa _ _ _ _ hv2
 · have e:oncesPs (upd' ob j q) (j+1)=oncesPs ob j++[.pointer (some ⟨q,0,none⟩)]:=by
    unfold oncesPs;rw[List.range_succ,List.map_append];congr 1
    · refine List.map_congr_left λc hc=>?_;rw[upd'_ne _ _ (by have:=List.mem_range.1 hc;omega)]
    · simp
   rw[e];exact ownsRow_of hrow λg' hg'=>zq8 _ _ _ _ λe2=>own_ne hrow hv2 (by decide) (by rw[hg',show g'=vb from e2])
 · by_cases e:c=j
   · subst e;rw[upd'_same];refine set1 _ _ (keep _ _ aq λe=>?_) λe=>?_
     · have:=(own_lt h.row e).2.2;omega
     · have:=zq7 h.vbk;omega
   · rw[upd'_ne _ _ e];have hb:=h.blk c (by omega);exact set1 _ _ (keep _ _ (a0 _ _ hb) (own_ne h.row hb (by decide))) λe2=>by rw[e2]at hb;exact absurd (heap_type hb h.vbk) (by decide)
 · by_cases e:c=j
   · subst e;rw[upd'_same];omega
   · rw[upd'_ne _ _ e];exact h.lo c (by omega)
 · by_cases e1:c=j
   · by_cases e2:d=j
     · omega
     · subst e1;rw[upd'_same,upd'_ne _ _ e2]at e;have:=zq7 (h.blk d (by omega));omega
   · by_cases e2:d=j
     · subst e2;rw[upd'_same,upd'_ne _ _ e1]at e;have:=zq7 (h.blk c (by omega));omega
     · rw[upd'_ne _ _ e1,upd'_ne _ _ e2]at e;exact h.inj c d (by omega) (by omega) e
structure NewOnces(w:World)(T:NumT)(vb pb Cp:Nat)(ps:Array Value)(w':World):Prop where
 be:Beyond w w'
 rep:NumRep T (λ_ _=>0) w'
 len:∀c,c<T.N->T.len c=3
 lo:∀c,c<T.N->w.heap.size<=T.ob c
 vlo:w.heap.size<=vb
 plo:w.heap.size<=pb
 vbk:w'.heap[vb]?=some (.cells #[.slice (some ⟨pb,0,none⟩) T.N Cp] 108)
 pbk:w'.heap[pb]?=some (.cells ps 35)
 ps':∀c,c<T.N->ps[c]?=some (.pointer (some ⟨T.ob c,0,none⟩))
 sep:∀c,c<T.N->vb≠T.ob c/\pb≠T.ob c
theorem NewOnces.re {w w':World}{T:NumT}{vb pb Cp:Nat}{ps:Array Value}(h:NewOnces w T vb pb Cp ps w')(τ:Nat->Question->Nat)(d:Nat):NewOnces w T vb pb Cp ps (Go.Car.re w' τ d):=⟨h.be,⟨h.rep.blk,h.rep.inj⟩,h.len,h.lo,h.vlo,h.plo,h.vbk,h.pbk,h.ps',h.sep⟩
theorem NewOnces.of_re {w w':World}{T:NumT}{vb pb Cp:Nat}{ps:Array Value}{τ:Nat->Question->Nat}{d:Nat}(h:NewOnces (Go.Car.re w τ d) T vb pb Cp ps w'):NewOnces w T vb pb Cp ps w':=⟨h.be,h.rep,h.len,h.lo,h.vlo,h.plo,h.vbk,h.pbk,h.ps',h.sep⟩
theorem onces_new{w w':World}{vb j:Nat}{ob:Nat->Nat}{v:Value}(h:OncesI w vb j ob v w')(hj:0<j):∃pb Cp ps,v=.slice (some ⟨pb,0,none⟩) j Cp/\NewOnces w ⟨j,ob,λ_=>3,λ_=>43⟩ vb pb Cp ps w':=by
 rcases h.row.2 with⟨_,h0⟩|⟨g,cap,cur,rfl,hb,hg,h1,h2,h3,h4⟩
 · omega
 refine⟨g,cap,cur,rfl,h.be,⟨λc hc=>?_,h.inj⟩,λ_ _=>rfl,h.lo,h.vlo,hb,h.vbk,hg,λc hc=>?_,λc hc=>⟨?_,?_⟩⟩
 · exact h.blk c hc
 · have hc':c<j:=hc;have:(cur.toList.take (j*1))[c]?=some (Value.pointer (some ⟨ob c,0,none⟩)):=by
    rw[h4];unfold oncesPs;simp[hc']
   rw[List.getElem?_take,if_pos (by omega)]at this;simpa using this
 · exact heap_ne h.vbk (h.blk c hc) (by decide)
 · exact heap_ne hg (h.blk c hc) (by decide)
theorem doer_lone(cells:Int)(w:World):Calls Try.prog 34 #[.int .i64 cells] w λe w'=>∃T vb pb Cp ps,T.N=onceN cells/\NewOnces w T vb pb Cp ps w'/\e=.returned (.tuple #[.slice (some ⟨pb,0,none⟩) T.N Cp,.func (.func 63) #[] #[.pointer (some ⟨vb,0,none⟩)]]):=by
 obtain⟨H,hH⟩:∃H,w.heap.size=H:=⟨_,rfl⟩;obtain⟨N,hNN⟩:∃N,onceN cells=N:=⟨_,rfl⟩;have hN:0<N/\N<=64:=hNN▸onceN_pos cells;rw[hNN];obtain⟨m,hM⟩:∃m:Int,(if cells<1 then 1 else cells)=m:=⟨_,rfl⟩;have hNi:(if(64:Int)<m then 64 else m)=(N:Int):=by
  rw[←hM];unfold onceN at hNN;split<;>split<;>omega
 have HH:=Lib.hid (And.intro hH hNN);have HN:=Lib.hid hN;have hI0:OncesI w H 0 (λ_=>0) (.slice none 0 0) (w.alloc (.cells #[.slice none 0 0] 108)):=
  ⟨Beyond.alloc _ _,by rw[←hH];exact al_new _ _,World.ownsRow_nil _ _ _ _,λc hc=>absurd hc (Nat.not_lt_zero _),λc hc=>absurd hc (Nat.not_lt_zero _),λc d hc=>absurd hc (Nat.not_lt_zero _),by omega⟩
 have HI0:=Lib.hid hI0;clear hNN hN hI0
 go_enter Try.func34,Try.ntmps34
 go_wp2_with (fail)
 clear hM hNi hH
 go_loopg [8] N (λk s8 wr=>∃(j:Nat)(p:Option Addr)(C:Nat)(ob:Nat->Nat),k=N - j/\j<=N/\s8=.int .i64 j/\OncesI w H j ob (.slice p j C) wr)
 case atStart=>exact⟨0,none,0,_,rfl,Nat.zero_le _,rfl,HI0.out⟩
 case round=>
  obtain⟨j,p,C,ob,hk,hj,rfl,hI⟩:=hrel;have HI:=Lib.hid hI
  by_cases hlt:j<N
  · have hlt':(j:Int)<(N:Int):=by omega
    have hj0:(0:Int)<=j:=by omega
    have hj64:(j:Int)<64:=by have:=HN.out;omega
    have c4:=(zq0 (off:=0) hI.vbk).trans rfl;have f4:=zq6 (off:=0) hI.vbk;have c4a:∀o1:Obj,(wr.alloc o1).cell? ⟨H,0,none⟩=some (.slice p j C):=λo1=>(zq0 (al_old (o:=o1) hI.vbk)).trans rfl;have c4b:∀o1 o2:Obj,((wr.alloc o1).alloc o2).cell? ⟨H,0,none⟩=some (.slice p j C):=λo1 o2=>(zq0 (al_old (o:=o2) (al_old (o:=o1) hI.vbk))).trans rfl;obtain⟨q,hq⟩:∃q,wr.heap.size=q:=⟨_,rfl⟩;have HQ:=Lib.hid hq;have hsz0:w.heap.size<=wr.heap.size:=hI.be.1;have HRW:∀o1 o2:Obj,((wr.alloc o1).alloc o2).ownsRow w.heap.size 35 1 (.slice p j C) j (oncesPs ob j):=λo1 o2=>row_allocK (row_allocK hI.row _) _;have HRX:=Lib.hid (And.intro HRW hsz0);have ON:=Lib.hid onew_lone;have hvk:∀(o1 o2:Obj)w2,(((wr.alloc o1).alloc o2).drew).grownBy w2 (Value.slice p j C).ownBlock->w2.heap[H]?=some (.cells #[.slice p j C] 108):=λo1 o2 w2 hg=>by
     have h1:=al_old (o:=o2) (al_old (o:=o1) hI.vbk);exact(hg.block H (zq7 h1) (λe=>own_ne hI.row hI.vbk (by decide) e.symm)).trans h1
    have HVK:=Lib.hid hvk;clear hI HRW hsz0 hvk
    go_wp2_with (fail)
    have HKJ:=Lib.hid (And.intro hk hj64);clear hlt' hj0 hj64 hk hj;obtain⟨ti,hti,hz,hz1,hz2⟩:∃ti,Try.prog.info? 35=some ti/\ti.zero=some (.pointer none)/\ti.size=1/\ti.bytes=8:=⟨_,rfl,rfl,rfl,rfl⟩;have HT:=Lib.hid (And.intro hti (And.intro hz (And.intro hz1 hz2)));clear hti hz hz1 hz2;have hund:Try.prog.underlying 108=some (.slice 35):=by kernel_rfl
    have HU:=Lib.hid hund;clear hund;have hnw:∀o1:Obj,∀jj u,[Value.pointer (some ⟨q,0,none⟩)][jj]?=some u->((wr.alloc o1).alloc (.cells #[.pointer (some ⟨q,0,none⟩)] 35)).drew.cell? ((⟨q+1,0,none⟩:Addr).add jj)=some u:=λo1 jj u hj=>one_new (w:=wr.alloc o1) (T:=35) (B:=q+1) (by rw[zq3,HQ.out]) jj u hj;have HNW:=Lib.hid hnw;clear hnw
    go_region_law (first
     |(go_simp;go_at_call 13;refine Calls.mono (ON.out _) ?_;rintro e w' ⟨rfl,rfl⟩)
     |(refine step_append_lies _ rfl (.tmp 10) (.tmp 12) 108 rfl w.heap.size 35 ti (.pointer none) 1 8 HU.out HT.out.1 HT.out.2.1 HT.out.2.2.1 HT.out.2.2.2 rfl Nat.one_pos (.slice p j C) j (oncesPs ob j) rfl (HRX.out.1 _ _) ⟨q+1,0,none⟩ 1 1 [.pointer (some ⟨q,0,none⟩)] rfl rfl (HNW.out _) ?_ Nat.one_pos ?_ ?_ ?_ (q+2) ?_ ?_
       · intro u hu;rw[List.mem_singleton.1 hu];rfl
       · have:=HN.out;simp only[maxLen];omega
       · have:=HN.out;omega
       · have:=HRX.out.2;have:=HQ.out;show _<=((wr.alloc _).alloc _).heap.size;rw[zq3,zq3];omega
       · show((wr.alloc _).alloc _).heap.size=_;rw[zq3,zq3,HQ.out]
       intro g cap w2 k1 k2 k3 k4;have HK:=Lib.hid (And.intro k1 k2);have cS:=(zq0 (off:=0) (HVK.out _ _ _ k2)).trans rfl;have fS:=zq6 (off:=0) (HVK.out _ _ _ k2);clear k1 k2 k3 k4))
    all_goals(
     go_wp2_with (fail)
     go_roundg (N - (j+1))
     case measure=>have:=HKJ.out.1;omega
     case rel=>have hj64:=HKJ.out.2;exact⟨j+1,_,_,upd' ob j q,rfl,by omega,(by first|rfl |(congr 1;unfold wrap64;omega)),once_pushed HI.out HQ.out (by rfl) HK.out.1 HK.out.2⟩)
  · obtain rfl:N=j:=by omega
    clear hk hj hlt;obtain⟨pb,Cp,ps,e,hnew⟩:=onces_new hI (by have:=HN.out;omega);have c4:=(zq0 (off:=0) hI.vbk).trans rfl;rw[e]at c4;have HW:=Lib.hid (And.intro hnew e);clear hI hnew e;go_wp2;refine bodyPost_ret (v:=.tuple #[.slice (some ⟨pb,0,none⟩) N Cp,.func (.func 63) #[] #[.pointer (some ⟨H,0,none⟩)]]) ?_ rfl ⟨_,_,_,_,_,rfl,HW.out.1,rfl⟩;simp only[results,Try.f34];simp[go_sem]
noncomputable def oplT(n:Nat):Code:=tailN n (Try.f11.body.getD .skip)
theorem opl0:Try.f11.body.getD .skip=.seq (headC (oplT 0)) (.seq (headC (oplT 1)) (.seq (headC (oplT 2)) (oplT 3))):=by kernel_rfl
def onceT(NC:Nat)(ops:Nat->List OpX)(N:Nat)(mo:Int)(sched:List Int):TSt (Nums×(Nat->List Ans)):=playT (λi=>opsP i (doerP NC) (ops i)) N (min mo.toNat 1048576) sched (λ_ _=>0,λ_=>[])
theorem onceplay_calls{Fin:Machine->Trace->Prop}(hFin:Back Try.prog Fin){n:Nat}(hn:0<n){RP:Nat->Option Obj}{w:World}{np Cn N Cs:Nat}{pp scp:Option Addr}{sp:Nat->Option Addr}{L Cp:Nat->Nat}{ops:Nat->List OpX}{sched:List Int}{mo cells:Int}
 (hRP:∀b o,RP b=some o->w.heap[b]?=some o) (ho:OpsAt w RP pp np N sp L Cp ops) (hsl:sched.length<=4611686018427387904)
 (hs:sched≠[]->∃sb off,scp=some ⟨sb,off,none⟩/\∀j x,sched[j]?=some x->w.cell? ⟨sb,off+j,none⟩=some (.int .i64 x))
 {c:Frame} {cs:List Frame}
 (hmain:∀ab ov sv am w',PlayedR N w (onceT (onceN cells) ops N mo sched) (numL (onceT (onceN cells) ops N mo sched).s.1 (onceN cells)) ab ov sv am w'->
  J0 Try.prog Fin (n+N) (G (c.finish (.agg #[.slice (some ⟨ab,0,none⟩) N N,ov,sv,.bool (decide (0<leftN (onceT (onceN cells) ops N mo sched).ov N))])) cs) w'):
 J0 Try.prog Fin n (G (Frame.enter Try.prog 11 #[.int .i64 cells,.slice pp np Cn,.slice scp sched.length Cs,.int .i64 mo] .normal) (c::cs)) w:=by
 have hJ:=j0_JS hFin;have hC:=j0_calm hFin;have e:Frame.enter Try.prog 11 #[.int .i64 cells,.slice pp np Cn,.slice scp sched.length Cs,.int .i64 mo] .normal=(bN 11).at (enterAct Try.f11 #[.int .i64 cells,.slice pp np Cn,.slice scp sched.length Cs,.int .i64 mo]) [.code ((Try.f11.body).getD .skip)]:=by kernel_rfl
 have ea:enterAct Try.f11 #[.int .i64 cells,.slice pp np Cn,.slice scp sched.length Cs,.int .i64 mo]=⟨#[.int .i64 cells,.slice pp np Cn,.slice scp sched.length Cs,.int .i64 mo,undef,undef,undef,undef,undef,undef,undef,undef,undef,undef,undef,undef,undef,undef,undef,undef,undef,undef,undef,undef,undef,undef],[]⟩:=by kernel_rfl
 rw[e,ea,opl0];clear e ea;have hm:=Lib.hid hmain;clear hmain;obtain⟨H,hH⟩:∃H,w.heap.size=H:=⟨_,rfl⟩;refine hJ.ctl (s:=n) (λw=>stepG_seq) ?_;refine at_lone hJ hC plainM (by kernel_rfl) (λt w'=>t=#[.int .i64 cells,.slice pp np Cn,.slice scp sched.length Cs,.int .i64 mo,undef,undef,undef,undef,.pointer (some ⟨H,0,none⟩),undef,undef,undef,undef,undef,undef,undef,undef,undef,undef,undef,undef,undef,undef,undef,undef,undef]/\∃τ d,w'=re (w.alloc (.cells #[.slice none 0 0,.slice none 0 0,.slice none 0 0,.bool false] 29)) τ d) (λt w' τ d h=>⟨h.1,by obtain⟨τ',d',rfl⟩:=h.2;exact⟨τ,d,by rw[re_re]⟩⟩) (by decide) (λτ d=>?_) ?_
 · obtain⟨u0,hu0⟩:∃c,headC (oplT 0)=c:=⟨_,rfl⟩;have eu0:=hu0;rw[hu0];simp only[oplT,headC,tailN,Try.f11,al_od]at eu0;subst eu0;clear hu0;clear hs ho hRP;go_wp2;exact⟨rfl,rfl,τ,d,rfl⟩
 rintro t w' ⟨rfl,τ,d,rfl⟩;refine hJ.re' n _ _ τ d ?_;have hwa:(w.alloc (.cells #[.slice none 0 0,.slice none 0 0,.slice none 0 0,.bool false] 29)).heap.size=H+1:=by rw[zq3,hH]
 have hob:∀b,b<H->(w.alloc (.cells #[.slice none 0 0,.slice none 0 0,.slice none 0 0,.bool false] 29)).heap[b]?=w.heap[b]?:=λb hb=>by rw[zq5,if_neg (by omega)]
 have hzb:(w.alloc (.cells #[.slice none 0 0,.slice none 0 0,.slice none 0 0,.bool false] 29)).heap[H]?=some (.cells #[.slice none 0 0,.slice none 0 0,.slice none 0 0,.bool false] 29):=hH▸al_new w _;obtain⟨wa,hwae⟩:∃wa,w.alloc (.cells #[.slice none 0 0,.slice none 0 0,.slice none 0 0,.bool false] 29)=wa:=⟨_,rfl⟩;rw[hwae]at hwa hob hzb ⊢;clear hwae;refine hJ.ctl (s:=n) (λw=>stepG_seq) ?_;refine at_lone hJ hC plainM (by kernel_rfl) (λt w'=>∃TN vb pb Cp ps,t=#[.int .i64 cells,.slice pp np Cn,.slice scp sched.length Cs,.int .i64 mo,undef,undef,undef,undef,.pointer (some ⟨H,0,none⟩),.slice (some ⟨pb,0,none⟩) (onceN cells) Cp,.func (.func 63) #[] #[.pointer (some ⟨vb,0,none⟩)],undef,.tuple #[.slice (some ⟨pb,0,none⟩) (onceN cells) Cp,.func (.func 63) #[] #[.pointer (some ⟨vb,0,none⟩)]],.int .i64 cells,.tuple #[.slice (some ⟨pb,0,none⟩) (onceN cells) Cp,.func (.func 63) #[] #[.pointer (some ⟨vb,0,none⟩)]],.slice (some ⟨pb,0,none⟩) (onceN cells) Cp,.func (.func 63) #[] #[.pointer (some ⟨vb,0,none⟩)],undef,undef,undef,undef,undef,undef,undef,undef,undef]/\TN.N=onceN cells/\NewOnces wa TN vb pb Cp ps w') (λt w' τ d h=>by obtain⟨TN,vb,pb,Cp,ps,h1,h2,h3⟩:=h;exact⟨TN,vb,pb,Cp,ps,h1,h2,h3.re τ d⟩) (by decide) (λτ d=>?_) ?_
 · obtain⟨u0,hu0⟩:∃c,headC (oplT 1)=c:=⟨_,rfl⟩;have eu0:=hu0;rw[hu0];simp only[oplT,headC,tailN,Try.f11,al_od]at eu0;subst eu0;clear hu0;have HM:=Lib.hid (doer_lone cells (re wa τ d));clear hs ho hRP hob hzb hH hwa hsl
   go_wp2_with (fail)
   refine Calls.mono HM.out ?_;rintro e w' ⟨TN,vb,pb,Cp,ps,hN,hR,rfl⟩;rw[hN];have HR:RowKit.Hid (TN.N=onceN cells/\NewOnces wa TN vb pb Cp ps w'):=Lib.hid ⟨hN,hR.of_re⟩;clear hR hN;go_wp2;exact⟨rfl,_,_,_,_,_,rfl,HR.out⟩
 rintro t wb ⟨TN,vb,pb,Cq,ps,rfl,hTN,hR⟩;have hNN:=onceN_pos cells;have hwb:H+1<=wb.heap.size:=by have:=hR.be.1;omega
 have hobb:∀b,b<H->wb.heap[b]?=w.heap[b]?:=λb hb=>(hR.be.2 b (by omega)).trans (hob b hb);have hzb2:wb.heap[H]?=some (.cells #[.slice none 0 0,.slice none 0 0,.slice none 0 0,.bool false] 29):=(hR.be.2 H (by omega)).trans hzb;have hlo:=hR.lo;have hvl:=hR.vlo;have hpl:=hR.plo;rw[hwa]at hlo hvl hpl;clear hzb hob hwa;have hlt:∀b o,RP b=some o->b<H:=λb o h=>by rw[←hH];exact zq7 (hRP b o h)
 have hnf:∀b,(numCore TN).foot (λ_ _=>0) b->H+1<=b:=λb⟨x,hx,hb⟩=>by have:=hlo x hx;omega
 obtain⟨RQ,hRQ⟩:∃RQ:Nat->Option Obj,RQ=λb=>if b=vb then some (.cells #[.slice (some ⟨pb,0,none⟩) TN.N Cq] 108)else if b=pb then some (.cells ps 35)else RP b:=⟨_,rfl⟩
 have hpv:pb≠vb:=heap_ne hR.pbk hR.vbk (by decide);have hqv:RQ vb=some (.cells #[.slice (some ⟨pb,0,none⟩) TN.N Cq] 108):=by rw[hRQ];simp
 have hqp:RQ pb=some (.cells ps 35):=by rw[hRQ];simp[hpv]
 have hqr:∀b o,RP b=some o->RQ b=some o:=λb o h=>by
  have:=hlt b o h;rw[hRQ];simp only;rw[if_neg (by omega),if_neg (by omega)];exact h
 have hqw:∀b o,RQ b=some o->(b=vb\/b=pb\/b<H)/\wb.heap[b]?=some o:=λb o h=>by
  rw[hRQ]at h;simp only at h;split at h
  · rename_i e;cases h;subst e;exact⟨.inl rfl,hR.vbk⟩
  · split at h
    · rename_i e;cases h;subst e;exact⟨.inr (.inl rfl),hR.pbk⟩
    · exact⟨.inr (.inr (hlt b o h)),(hobb b (hlt b o h)).trans (hRP b o h)⟩
 have hB:BRep (numCore TN) RQ ⟨λ_ _=>0,λ_ _=>none⟩ wb:=by
  refine⟨hR.rep,λi b o h=>(by cases h),λb o h=>(hqw b o h).2,λi b h=>absurd rfl h,λi j b _ h=>absurd rfl h,λb h hf=>?_,λi b _=>rfl⟩;cases ho:RQ b with
  |none=>exact h ho
  |some o=>
   obtain⟨x,hx,hb⟩:=hf;have h1:=hR.sep x hx;have h2:=hlo x hx;rcases(hqw b o ho).1 with e|e|e
   · exact h1.1 (by rw[←e];exact hb)
   · exact h1.2 (by rw[←e];exact hb)
   · omega
 have hOp:OpsAt wb RQ pp np N sp L Cp ops:=by
  refine⟨ho.eq,ho.le,λh0=>?_,ho.row,ho.len,λi hi k op hk=>?_⟩
  · obtain⟨tb,to',e,h1⟩:=ho.at' h0;exact⟨tb,to',e,λi hi=>(zqc (hobb tb (by rw[←hH];exact cell_lt (h1 i hi)))).trans (h1 i hi)⟩
  · obtain⟨g,off,cur,e,fr,h1,h2,h3⟩:=ho.op i hi k op hk;exact⟨g,off,cur,e,fr,h1,hqr _ _ h2,h3⟩
 have hsc:sched≠[]->∃sb off,scp=some ⟨sb,off,none⟩/\¬(numCore TN).foot (λ_ _=>0) sb/\∀j x,sched[j]?=some x->wb.cell? ⟨sb,off+j,none⟩=some (.int .i64 x):=λh0=>by
  obtain⟨sb,off,e,h2⟩:=hs h0;obtain⟨x,l,hsl⟩:=List.exists_cons_of_ne_nil h0;have hlt:sb<H:=by rw[←hH];exact cell_lt (h2 0 x (by rw[hsl];rfl))
  exact⟨sb,off,e,λhf=>by have:=hnf sb hf;omega,λj x hj=>(zqc (hobb sb hlt)).trans (h2 j x hj)⟩
 have hpn:¬(numCore TN).foot (λ_ _=>0) pb:=λ⟨x,hx,hb⟩=>(hR.sep x hx).2 hb
 have hpw:=hR.pbk;have hps:=hR.ps';have hln:=hR.len;clear ho hs hRP hlt hR;refine hJ.ctl (s:=n) (λw=>stepG_seq) ?_;obtain⟨u0,hu0⟩:∃c,headC (oplT 2)=c:=⟨_,rfl⟩;have eu0:=hu0;rw[hu0];simp only[oplT,headC,tailN,Try.f11,al_od]at eu0;subst eu0;clear hu0;refine hJ.ctl (s:=n) (λw=>stepG_region) ?_;have HX:=Lib.hid (And.intro hB (And.intro hOp (And.intro hsc (And.intro hnf (And.intro hobb (And.intro hzb2 hwb))))));have HE:=Lib.hid (And.intro hTN (And.intro hH (And.intro hpw (And.intro hps (And.intro hln (And.intro hpn (And.intro hqv (And.intro hqp hNN))))))));clear hB hOp hsc hnf hobb hzb2 hwb hH hpw hps hln hpn hqv hqp hRQ hqr hqw hlo hvl hpl hTN hpv hNN;refine at_piece (s:=n) (by decide) hJ (rows0_none _) true (.inl rfl) 0 4 3 rfl rfl rfl (by rfl) ?_;intro τ d;simp only[List.drop_zero,List.take_succ_cons,List.take_zero];go_wp2;simp only[contAt];refine hJ.re' n _ _ τ d ?_;refine at_call (by decide) hJ (s:=n) rfl rfl (f:=35) (args:=#[.slice pp np Cn,.func (.func 63) #[] #[.pointer (some ⟨vb,0,none⟩)],.slice scp sched.length Cs,.int .i64 mo]) (λτ d=>?_) (λτ d=>?_) ?_
 · simp[go_sem,execOp,Act.eval,resolve,Deferred.ofValue,invoke,callFunc,Try.func35,Try.f35]
 · intro e he;simp[go_sem,execOp,Act.eval,resolve,Deferred.ofValue,invoke,callFunc,Try.func35,Try.f35,Sem.runT_eq]at he
 obtain⟨hB,hOp,hsc,hnf,hobb,hzb2,hwb⟩:=HX.out;obtain⟨hTN,hH,hpw,hps,hln,hpn,hqv,hqp,hNN⟩:=HE.out;refine ops_calls hFin hn plainM rowsM (fn:=Try.f63) (cc:=(Try.f63.body).getD .skip) Try.func63 rfl rfl hB hOp hsl hsc (dop:=λ_=>doerP TN.N) (λi op k=>doerP_deep _ _ _) (λro ab pr st cr rest EN i o op hro _=>doer_turn (by omega) hln ro (hro _ _ hqv) (hro _ _ hqp) hps pr st cr rest EN i o op) ?_;intro ab v l' am w2 hO;rw[Frame.finish_at]
 walk_nrm
 have hTe:playT (λi=>opsP i (doerP TN.N) (ops i)) N (min mo.toNat 1048576) sched ((numCore TN).st (λ_ _=>0),λ_=>[])=onceT (onceN cells) ops N mo sched:=by
  unfold onceT;rw[hTN];rfl
 rw[hTe]at hO ⊢;obtain⟨pv',cv',rfl,_⟩:=own_slice hO.row;have hl':(onceT (onceN cells) ops N mo sched).s.1=l':=hO.st.symm;have hze:w2.heap[H]?=some (.cells #[.slice none 0 0,.slice none 0 0,.slice none 0 0,.bool false] 29):=(hO.old H (by omega) (λh=>by have:=hnf H h;omega)).trans hzb2;have hpe:w2.heap[pb]?=some (.cells ps 35):=(hO.old pb (zq7 hpw) hpn).trans hpw;generalize (onceT (onceN cells) ops N mo sched).ord.length=nv' at hO ⊢;have HO:=Lib.hid hO;have HZ:=Lib.hid (And.intro hze (And.intro hl' hpe));obtain⟨stuck,hstuck⟩:∃x,decide (0<leftN (onceT (onceN cells) ops N mo sched).ov N)=x:=⟨_,rfl⟩;rw[hstuck];have HST:=Lib.hid hstuck;clear hstuck hO hze hl' hpe hTe hB hOp hsc hnf hobb hzb2 hwb hTN hH hpw hps hln hpn hqv hqp hNN;refine at_piece (s:=n+N) (by decide) hJ (rows0_none _) false (.inr rfl) 5 2 0 rfl rfl rfl (by rfl) ?_;intro τ d;simp only[List.drop_succ_cons,List.drop_zero,List.take_succ_cons,List.take_zero];have HO2:=Lib.hid (HO.out.re τ d);have HZ2:RowKit.Hid ((re w2 τ d).heap[H]?=some (.cells #[.slice none 0 0,.slice none 0 0,.slice none 0 0,.bool false] 29)/\(onceT (onceN cells) ops N mo sched).s.1=l'/\(re w2 τ d).heap[pb]?=some (.cells ps 35)):=Lib.hid HZ.out;clear HO HZ;generalize re w2 τ d=w3 at HO2 HZ2 ⊢;go_wp2;simp only[contAt];refine hJ.ctl (s:=n+N) (λw=>stepG_region_end) ?_;have hT:=al_new w3 (.cells #[.slice (some ⟨ab,0,none⟩) N N,.slice pv' nv' cv',.slice none 0 0,.bool stuck] 29);have hoT:∀b,b<w3.heap.size->(w3.alloc (.cells #[.slice (some ⟨ab,0,none⟩) N N,.slice pv' nv' cv',.slice none 0 0,.bool stuck] 29)).heap[b]?=w3.heap[b]?:=λb hb=>by rw[zq5,if_neg (by omega)]
 have hsT:(w3.alloc (.cells #[.slice (some ⟨ab,0,none⟩) N N,.slice pv' nv' cv',.slice none 0 0,.bool stuck] 29)).heap.size=w3.heap.size+1:=zq3 _ _;generalize (w3.alloc (.cells #[.slice (some ⟨ab,0,none⟩) N N,.slice pv' nv' cv',.slice none 0 0,.bool stuck] 29))=w4 at hT hoT hsT ⊢;obtain⟨T,hTT⟩:∃T,w3.heap.size=T:=⟨_,rfl⟩;rw[hTT]at hT hoT hsT ⊢;have HT:=Lib.hid (And.intro hT (And.intro hoT (And.intro hsT hTT)));clear hT hoT hsT hTT;refine at_rest_lone hJ hC plainM (by kernel_rfl) (λv w'=>∃sv am,v=.agg #[.slice (some ⟨ab,0,none⟩) N N,.slice pv' nv' cv',sv,.bool stuck]/\PlayedR N w (onceT (onceN cells) ops N mo sched) (numL (onceT (onceN cells) ops N mo sched).s.1 (onceN cells)) ab (.slice pv' nv' cv') sv am w') (λv w' τ d⟨sv,am,h1,h2⟩=>⟨sv,am,h1,h2.re τ d⟩) rfl Try.func11 (λτ d=>?_) ?_
 · obtain⟨u0,hu0⟩:∃c,oplT 3=c:=⟨_,rfl⟩;have eu0:=hu0;rw[hu0];simp only[oplT,headC,tailN,Try.f11,al_od]at eu0;subst eu0;clear hu0;obtain⟨hT,hoT,hsT,hTT⟩:=HT.out;have hT':(re w4 τ d).heap[T]?=some (.cells #[.slice (some ⟨ab,0,none⟩) N N,.slice pv' nv' cv',.slice none 0 0,.bool stuck] 29):=hT;have hoT':∀b,b<T->(re w4 τ d).heap[b]?=w3.heap[b]?:=hoT;have hsT':(re w4 τ d).heap.size=T+1:=hsT;have hHl:H<T:=by rw[←hTT];exact zq7 HZ2.out.1
   have hpT:(re w4 τ d).heap[pb]?=some (.cells ps 35):=(hoT' pb (by rw[←hTT];exact zq7 HZ2.out.2.2)).trans HZ2.out.2.2;have hall:=state_lone (T:=TN) ((numCore TN).frame _ _ _ HO2.out.rep λb hb=>hoT' b (by rw[←hTT];exact(numCore TN).lt _ _ _ HO2.out.rep hb)) HE.out.2.2.2.2.1 (by have:=HE.out.1;have:=HE.out.2.2.2.2.2.2.2.2;omega) (Cp:=Cq) hpT HE.out.2.2.2.1;rw[HE.out.1]at hall;generalize re w4 τ d=w5 at hT' hoT' hsT' hall ⊢;have HA:=Lib.hid hall;have HW:=Lib.hid (And.intro hT' (And.intro hoT' (And.intro hsT' (And.intro hTT hHl))));clear hT hoT hsT hTT hT' hoT' hsT' hpT hall HT hHl hm
   go_wp2_with (fail)
   refine Calls.mono HA.out ?_;rintro e w6 ⟨sv,rfl,hI⟩;obtain⟨sp',sc',rfl,-,-⟩:=own_slice hI.row;obtain⟨sl,hsl'⟩:∃x,(numL l' (onceN cells)).length=x:=⟨_,rfl⟩;rw[hsl']at hI ⊢;have hI2:=Lib.hid (And.intro hI hsl');clear hsl';have b1:w6.heap[T]?=some (.cells #[.slice (some ⟨ab,0,none⟩) N N,.slice pv' nv' cv',.slice none 0 0,.bool stuck] 29):=(hI.be.2 T (by have:=HW.out.2.2.1;omega)).trans HW.out.1;have b0:w6.heap[H]?=some (.cells #[.slice none 0 0,.slice none 0 0,.slice none 0 0,.bool false] 29):=(hI.be.2 H (by have:=HW.out.2.2.1;have:=HW.out.2.2.2.2;omega)).trans ((HW.out.2.1 H HW.out.2.2.2.2).trans HZ2.out.1);have hne:¬(T=H):=by have:=HW.out.2.2.2.2;omega
   have hne2:¬(H=T):=by omega
   clear hI;have c0:=(zq0 (off:=0) b1).trans rfl;have c1:=(zq0 (off:=1) b1).trans rfl;have c2:=(zq0 (off:=2) b1).trans rfl;have c3:=(zq0 (off:=3) b1).trans rfl;have y2:=zq6 (off:=2) b1;have r0:=(zq0 (off:=0) b0).trans rfl;have r1:=(zq0 (off:=1) b0).trans rfl;have r2:=(zq0 (off:=2) b0).trans rfl;have r3:=(zq0 (off:=3) b0).trans rfl;have z0:=zq6 (off:=0) b0;have z1:=zq6 (off:=1) b0;have z2:=zq6 (off:=2) b0;have z3:=zq6 (off:=3) b0;have B0:=Lib.hid b0;have B1:=Lib.hid b1;clear b0 b1;go_wp2;clear c0 c1 c2 c3 y2 r0 r1 r2 r3 z0 z1 z2 z3;have b0:(w6.setCell ⟨T,2,none⟩ (.slice sp' sl sc')).heap[H]?=some (.cells #[.slice none 0 0,.slice none 0 0,.slice none 0 0,.bool false] 29):=by rw[zq8 _ _ _ _ hne2];exact B0.out
   have b1':=zqa _ H 0 (.slice (some ⟨ab,0,none⟩) N N) b0;have b2':=zqa _ H 1 (.slice pv' nv' cv') b1';have b3':=zqa _ H 2 (.slice sp' sl sc') b2';have b4':=zqa _ H 3 (.bool stuck) b3';have hext:∀x,x≠T->x≠H->(((((w6.setCell ⟨T,2,none⟩ (.slice sp' sl sc')).setCell ⟨H,0,none⟩ (.slice (some ⟨ab,0,none⟩) N N)).setCell ⟨H,1,none⟩ (.slice pv' nv' cv')).setCell ⟨H,2,none⟩ (.slice sp' sl sc')).setCell ⟨H,3,none⟩ (.bool stuck)).heap[x]?=w6.heap[x]?:=λx hx1 hx=>by
    rw[zq8 _ _ _ _ hx,zq8 _ _ _ _ hx,zq8 _ _ _ _ hx,zq8 _ _ _ _ hx,zq8 _ _ _ _ hx1]
   have hsz8:(((((w6.setCell ⟨T,2,none⟩ (.slice sp' sl sc')).setCell ⟨H,0,none⟩ (.slice (some ⟨ab,0,none⟩) N N)).setCell ⟨H,1,none⟩ (.slice pv' nv' cv')).setCell ⟨H,2,none⟩ (.slice sp' sl sc')).setCell ⟨H,3,none⟩ (.bool stuck)).heap.size=w6.heap.size:=by simp only[zqb]
   generalize (((((w6.setCell ⟨T,2,none⟩ (.slice sp' sl sc')).setCell ⟨H,0,none⟩ (.slice (some ⟨ab,0,none⟩) N N)).setCell ⟨H,1,none⟩ (.slice pv' nv' cv')).setCell ⟨H,2,none⟩ (.slice sp' sl sc')).setCell ⟨H,3,none⟩ (.bool stuck))=w8 at b4' hext hsz8 ⊢;clear b1' b2' b3' b0;have k0:=(zq0 (off:=0) b4').trans rfl;have k1:=(zq0 (off:=1) b4').trans rfl;have k2:=(zq0 (off:=2) b4').trans rfl;have k3:=(zq0 (off:=3) b4').trans rfl;obtain⟨_,hoT,hsT,hTT,hHl⟩:=HW.out;obtain⟨hI,hsl2⟩:=hI2.out;have hwl:=HE.out.1;obtain⟨hB,hOp,hsc,hnf,hobb,hzb2,hwb⟩:=HX.out;have hrow:w8.ownsRow w3.heap.size 2 1 (.slice sp' sl sc') (numL (onceT (onceN cells) ops N mo sched).s.1 (onceN cells)).length ((numL (onceT (onceN cells) ops N mo sched).s.1 (onceN cells)).map (Value.int .i64)):=by
    rw[HZ2.out.2.1,hsl2];have hrI:=hI.row;rw[hsl2]at hrI;have q:w8.ownsRow w5.heap.size 2 1 (.slice sp' sl sc') sl ((numL l' (onceN cells)).map (Value.int .i64)):=ownsRow_of hrI λg hg=>by
     have h1:=(own_lt hrI hg).2.1;exact hext g (by omega) (by omega)
    exact ownsRow_base q (by omega)
   have hfin:PlayedR N w (onceT (onceN cells) ops N mo sched) (numL (onceT (onceN cells) ops N mo sched).s.1 (onceN cells)) ab (.slice pv' nv' cv') (.slice sp' sl sc') am w8:=by
    refine played_of HO2.out HE.out.2.1 (by omega) hobb hnf (by have:=hI.be.1;omega) (λx hx hxH=>?_) hrow;rw[hext x (by omega) hxH,hI.be.2 x (by omega)];exact hoT x (by omega)
   refine⟨rfl,.agg #[.slice (some ⟨ab,0,none⟩) N N,.slice pv' nv' cv',.slice sp' sl sc',.bool stuck],?_,_,rfl,_,_,rfl,hfin⟩;simp only[results,Try.f11];simp[go_sem,k0,k1,k2,k3]
 · rintro v w' ⟨sv,am,rfl,h⟩;have h2:=hm.out _ _ sv am w' h;rw[HST.out]at h2;exact h2
noncomputable def seT(n:Nat):Code:=tailN n (Try.f9.body.getD .skip)
theorem se0:Try.f9.body.getD .skip=.seq (headC (seT 0)) (.seq (headC (seT 1)) (seT 2)):=by kernel_rfl
theorem newbox_lone(w:World):Calls Try.prog 31 #[] w λe w'=>e=.returned (.pointer (some ⟨w.heap.size,0,none⟩))/\∃o,w'=w.alloc o:=by
 go_enter Try.func31,Try.ntmps31
 go_wp2;go_ret;exact⟨rfl,_,rfl⟩
theorem newlazy_lone(w:World):Calls Try.prog 32 #[.nilFunc] w λe w'=>e=.returned (.pointer (some ⟨w.heap.size,0,none⟩))/\∃o,w'=w.alloc o:=by
 go_enter Try.func32,Try.ntmps32
 go_wp2;go_ret;exact⟨rfl,_,rfl⟩
def seOps(i:Nat):List OpX:=if i=0 then [⟨2,0,7,0⟩]else [⟨2,0,9,0⟩]
theorem se_ops{w:World}{rb p0 p1:Nat}(hr:w.heap[rb]?=some (.cells #[.slice (some ⟨p0,0,none⟩) 1 1,.slice (some ⟨p1,0,none⟩) 1 1] 32))(h0:w.heap[p0]?=some (.cells #[.int .i64 2,.int .i64 0,.int .i64 7,.int .i64 0] 34))(h1:w.heap[p1]?=some (.cells #[.int .i64 2,.int .i64 0,.int .i64 9,.int .i64 0] 34)):
 OpsAt w (λb=>if b=p0\/b=p1 then w.heap[b]? else none) (some ⟨rb,0,none⟩) 2 2 (λi=>if i=0 then some ⟨p0,0,none⟩else some ⟨p1,0,none⟩) (λ_=>1) (λ_=>1) seOps:=by
 refine⟨rfl,by decide,λ_=>⟨rb,0,rfl,λi hi=>?_⟩,λi hi=>?_,λi hi=>?_,λi hi k' op hop=>?_⟩
 · rw[zq0 hr];obtain rfl |rfl:i=0\/i=1:=by omega
   · rfl
   · rfl
 · obtain rfl |rfl:i=0\/i=1:=by omega
   · exact⟨by decide,by decide,λh=>(by cases h)⟩
   · exact⟨by decide,by decide,λh=>(by cases h)⟩
 · obtain rfl |rfl:i=0\/i=1:=by omega
   · rfl
   · rfl
 · obtain rfl |rfl:i=0\/i=1:=by omega
   · refine⟨p0,0,_,_,_,rfl,by rw[if_pos (.inl rfl)];exact h0,λj hj=>?_⟩;obtain rfl:k'=0:=by have:=(List.getElem?_eq_some_iff.1 hop).1;simp[seOps]at this;omega
     simp[seOps]at hop;subst hop;obtain rfl |rfl |rfl |rfl:j=0\/j=1\/j=2\/j=3:=by omega
     all_goals rfl
   · refine⟨p1,0,_,_,_,rfl,by rw[if_pos (.inr rfl)];exact h1,λj hj=>?_⟩;obtain rfl:k'=0:=by have:=(List.getElem?_eq_some_iff.1 hop).1;simp[seOps]at this;omega
     simp[seOps]at hop;subst hop;obtain rfl |rfl |rfl |rfl:j=0\/j=1\/j=2\/j=3:=by omega
     all_goals rfl
theorem se_a0:(onceT 1 seOps 2 100 [0,1,1,0,0]).s.2 0=[⟨true,7,[]⟩]:=by kernel_rfl
theorem se_a1:(onceT 1 seOps 2 100 [0,1,1,0,0]).s.2 1=[⟨false,0,[]⟩]:=by kernel_rfl
theorem se_st:numL (onceT 1 seOps 2 100 [0,1,1,0,0]).s.1 1=[2,7,0]:=by kernel_rfl
theorem se_ord:(onceT 1 seOps 2 100 [0,1,1,0,0]).ord.length=5:=by kernel_rfl
theorem se_stk:decide (0<leftN (onceT 1 seOps 2 100 [0,1,1,0,0]).ov 2)=false:=by kernel_rfl
theorem sets_calls{Fin:Machine->Trace->Prop}(hFin:Back Try.prog Fin){n:Nat}(hn:0<n){w:World}{c:Frame}{cs:List Frame}(hmain:∀w',Beyond w w'->J0 Try.prog Fin (n+2) (G (c.finish (.bool true)) cs) w'):
 J0 Try.prog Fin n (G (Frame.enter Try.prog 9 #[] .normal) (c::cs)) w:=by
 have hJ:=j0_JS hFin;have hC:=j0_calm hFin;have e:Frame.enter Try.prog 9 #[] .normal=(bN 9).at (enterAct Try.f9 #[]) [.code ((Try.f9.body).getD .skip)]:=by kernel_rfl
 have ea:enterAct Try.f9 #[]=⟨#[undef,undef,undef,undef,undef,undef,undef,undef,undef,undef,undef,undef,undef,undef,undef,undef,undef,undef,undef,undef,undef,undef,undef,undef,undef,undef,undef,undef,undef,undef,undef,undef,undef,undef,undef,undef,undef,undef,undef,undef,undef,undef,undef,undef,undef,undef,undef,undef,undef,undef,undef,undef,undef,undef,undef,undef,undef,undef,undef,undef,undef,undef,undef,undef,undef,undef,undef,undef,undef,undef,undef,undef,undef,undef,undef,undef,undef,undef,undef,undef,undef,undef,undef,undef,undef,undef,undef,undef,undef,undef,undef,undef,undef,undef,undef,undef,undef,undef,undef,undef,undef,undef,undef,undef,undef,undef,undef,undef,undef],[]⟩:=by kernel_rfl
 rw[e,ea,se0];clear e ea;have hm:=Lib.hid hmain;clear hmain;refine hJ.ctl (s:=n) (λw=>stepG_seq) ?_;refine at_lone hJ hC plainM (by kernel_rfl) (λt w'=>t=#[.bool false,undef,undef,undef,undef,undef,undef,undef,undef,undef,undef,undef,undef,undef,undef,undef,undef,undef,undef,undef,undef,undef,undef,undef,undef,undef,undef,undef,undef,undef,undef,undef,undef,undef,undef,undef,undef,undef,undef,undef,undef,undef,undef,undef,undef,undef,undef,undef,undef,undef,undef,undef,undef,undef,undef,undef,undef,undef,undef,undef,undef,undef,undef,undef,undef,undef,undef,undef,undef,undef,undef,undef,undef,undef,undef,undef,undef,undef,undef,undef,undef,undef,undef,undef,undef,undef,undef,undef,undef,undef,undef,undef,undef,undef,undef,undef,undef,undef,undef,undef,undef,undef,undef,undef,undef,undef,undef,undef,undef]/\∃τ d,w'=re w τ d) (λt w' τ d h=>⟨h.1,by obtain⟨τ',d',rfl⟩:=h.2;exact⟨τ,d,by rw[re_re]⟩⟩) (by decide) (λτ d=>?_) ?_
 · obtain⟨u0,hu0⟩:∃c,headC (seT 0)=c:=⟨_,rfl⟩;have eu0:=hu0;rw[hu0];simp only[seT,headC,tailN,Try.f9,al_od]at eu0;subst eu0;clear hu0;go_wp2;exact⟨rfl,rfl,τ,d,rfl⟩
 rintro t w' ⟨rfl,τ,d,rfl⟩;refine hJ.re' n _ _ τ d ?_;refine hJ.ctl (s:=n) (λw=>stepG_seq) ?_;obtain⟨u0,hu0⟩:∃c,headC (seT 1)=c:=⟨_,rfl⟩;have eu0:=hu0;rw[hu0];simp only[seT,headC,tailN,Try.f9,al_od]at eu0;subst eu0;clear hu0;refine hJ.ctl (s:=n) (λw=>stepG_region) ?_;refine at_piece (s:=n) (by decide) hJ (rows0_none _) false (.inr rfl) 0 6 3 rfl rfl rfl (by rfl) ?_;intro τ d;simp only[List.drop_zero,List.take_succ_cons,List.take_zero];have HB0:=Lib.hid (Beyond.re w τ d);generalize re w τ d=v0 at HB0 ⊢;obtain⟨H,hH⟩:∃H,v0.heap.size=H:=⟨_,rfl⟩;have HH:=Lib.hid hH;go_wp2;simp only[contAt];have HW:RowKit.Hid (Beyond v0 (((((v0.alloc (.cells #[.int .i64 2,.int .i64 0,.int .i64 7,.int .i64 0] 34)).alloc (.cells #[.int .i64 2,.int .i64 0,.int .i64 9,.int .i64 0] 34)).alloc (.cells #[.slice (some ⟨H,0,none⟩) 1 1,.slice (some ⟨H+1,0,none⟩) 1 1] 32)).alloc (.cells #[.int .i64 0,.int .i64 1,.int .i64 1,.int .i64 0,.int .i64 0] 3)))/\(((((v0.alloc (.cells #[.int .i64 2,.int .i64 0,.int .i64 7,.int .i64 0] 34)).alloc (.cells #[.int .i64 2,.int .i64 0,.int .i64 9,.int .i64 0] 34)).alloc (.cells #[.slice (some ⟨H,0,none⟩) 1 1,.slice (some ⟨H+1,0,none⟩) 1 1] 32)).alloc (.cells #[.int .i64 0,.int .i64 1,.int .i64 1,.int .i64 0,.int .i64 0] 3))).heap[H]?=some (.cells #[.int .i64 2,.int .i64 0,.int .i64 7,.int .i64 0] 34)/\(((((v0.alloc (.cells #[.int .i64 2,.int .i64 0,.int .i64 7,.int .i64 0] 34)).alloc (.cells #[.int .i64 2,.int .i64 0,.int .i64 9,.int .i64 0] 34)).alloc (.cells #[.slice (some ⟨H,0,none⟩) 1 1,.slice (some ⟨H+1,0,none⟩) 1 1] 32)).alloc (.cells #[.int .i64 0,.int .i64 1,.int .i64 1,.int .i64 0,.int .i64 0] 3))).heap[H+1]?=some (.cells #[.int .i64 2,.int .i64 0,.int .i64 9,.int .i64 0] 34)/\(((((v0.alloc (.cells #[.int .i64 2,.int .i64 0,.int .i64 7,.int .i64 0] 34)).alloc (.cells #[.int .i64 2,.int .i64 0,.int .i64 9,.int .i64 0] 34)).alloc (.cells #[.slice (some ⟨H,0,none⟩) 1 1,.slice (some ⟨H+1,0,none⟩) 1 1] 32)).alloc (.cells #[.int .i64 0,.int .i64 1,.int .i64 1,.int .i64 0,.int .i64 0] 3))).heap[H+1+1]?=some (.cells #[.slice (some ⟨H,0,none⟩) 1 1,.slice (some ⟨H+1,0,none⟩) 1 1] 32)/\(((((v0.alloc (.cells #[.int .i64 2,.int .i64 0,.int .i64 7,.int .i64 0] 34)).alloc (.cells #[.int .i64 2,.int .i64 0,.int .i64 9,.int .i64 0] 34)).alloc (.cells #[.slice (some ⟨H,0,none⟩) 1 1,.slice (some ⟨H+1,0,none⟩) 1 1] 32)).alloc (.cells #[.int .i64 0,.int .i64 1,.int .i64 1,.int .i64 0,.int .i64 0] 3))).heap[H+1+1+1]?=some (.cells #[.int .i64 0,.int .i64 1,.int .i64 1,.int .i64 0,.int .i64 0] 3)):=by
  refine Lib.hid ⟨(((Beyond.alloc _ _).trans (Beyond.alloc _ _)).trans (Beyond.alloc _ _)).trans (Beyond.alloc _ _),?_,?_,?_,?_⟩
  · rw[←hH];exact al_old (al_old (al_old (al_new _ _)))
  · refine al_old (al_old ?_);rw[zq5,if_pos (by rw[zq3,hH])]
  · refine al_old ?_;rw[zq5,if_pos (by simp only[zq3,hH])]
  · rw[zq5,if_pos (by simp only[zq3,hH])]
 generalize (((((v0.alloc (.cells #[.int .i64 2,.int .i64 0,.int .i64 7,.int .i64 0] 34)).alloc (.cells #[.int .i64 2,.int .i64 0,.int .i64 9,.int .i64 0] 34)).alloc (.cells #[.slice (some ⟨H,0,none⟩) 1 1,.slice (some ⟨H+1,0,none⟩) 1 1] 32)).alloc (.cells #[.int .i64 0,.int .i64 1,.int .i64 1,.int .i64 0,.int .i64 0] 3)))=WA at HW ⊢;clear hH;refine at_call (by decide) hJ (s:=n) rfl rfl (f:=11) (args:=#[.int .i64 1,.slice (some ⟨H+1+1,0,none⟩) 2 2,.slice (some ⟨H+1+1+1,0,none⟩) 5 5,.int .i64 100]) (λτ d=>?_) (λτ d=>?_) ?_
 · simp[go_sem,execOp,Act.eval,resolve,Deferred.ofValue,invoke,callFunc,Try.func11,Try.f11]
 · intro e he;simp[go_sem,execOp,Act.eval,resolve,Deferred.ofValue,invoke,callFunc,Try.func11,Try.f11,Sem.runT_eq]at he
 refine onceplay_calls hFin (n:=n) hn (RP:=λb=>if b=H\/b=H+1 then WA.heap[b]? else none) (sched:=[0,1,1,0,0]) (ops:=seOps) (N:=2) (λb o hb=>?_) (se_ops HW.out.2.2.2.1 HW.out.2.1 HW.out.2.2.1) (by decide) (λ_=>⟨H+1+1+1,0,rfl,λj x hj=>?_⟩) ?_
 · split at hb
   · exact hb
   · cases hb
 · rw[zq0 HW.out.2.2.2.2,Nat.zero_add];have hlj:=(List.getElem?_eq_some_iff.1 hj).1;simp only[List.length_cons,List.length_nil]at hlj;obtain rfl |rfl |rfl |rfl |rfl:j=0\/j=1\/j=2\/j=3\/j=4:=by omega
   all_goals(simp at hj;subst hj;rfl)
 rw[show onceN 1=1 by rfl];intro ab ov sv am wp hR;rw[se_stk];rw[Frame.finish_at]
 walk_nrm
 have hq1:=ints_of_nats hR.orow;have hq2:=ints_of_row hR.srow;rw[se_st]at hq2;obtain⟨op,oc,rfl,-⟩:=hq1;obtain⟨sp,sc,rfl,hsv⟩:=hq2;obtain⟨sb,so,rfl,hsc⟩:=hsv (by decide);have s0:=hsc 0 (by decide);have s1:=hsc 1 (by decide);have ha0:=ansRep_at hR.ans (i:=0) (by decide);have ha1:=ansRep_at hR.ans (i:=1) (by decide);rw[hR.ast,se_a0]at ha0;rw[hR.ast,se_a1]at ha1;obtain⟨a1,pa,ca,a2,a3⟩:=ha0;obtain⟨b1,pb,cb,b2,b3⟩:=ha1;obtain⟨ga,oa,rfl,a4⟩:=a3 (by simp);obtain⟨gb,ob',rfl,b4⟩:=b3 (by simp);obtain⟨a5,a6,_⟩:=a4 0 _ rfl;obtain⟨b5,b6,_⟩:=b4 0 _ rfl;rw[a2]at a1;rw[b2]at b1;simp only[List.length_map,se_ord,List.length_cons,List.length_nil,Nat.zero_add,Nat.zero_mul,Nat.add_zero,List.getD_cons_zero,List.getD_cons_succ]at a1 b1 a5 a6 b5 b6 s0 s1 ⊢;have hbw:Beyond w wp:=(HB0.out.trans HW.out.1).trans ⟨hR.size,hR.old⟩;have HF:=Lib.hid (And.intro a1 (And.intro a5 (And.intro a6 (And.intro b1 (And.intro b5 (And.intro b6 (And.intro s0 s1)))))));have HBW:=Lib.hid hbw;clear hR a1 a2 a3 a4 a5 a6 b1 b2 b3 b4 b5 b6 s0 s1 hsc hsv HW HB0 hbw;refine at_piece (s:=n+2) (by decide) hJ (rows0_none _) false (.inr rfl) 7 2 0 rfl rfl rfl (by rfl) ?_;intro τ d;simp only[List.drop_succ_cons,List.drop_zero,List.take_succ_cons,List.take_zero];have HF2:RowKit.Hid ((re wp τ d).cell? ⟨ab,0,none⟩=some (.slice (some ⟨ga,oa,none⟩) 1 ca)/\(re wp τ d).cell? ⟨ga,oa,none⟩=some (.bool true)/\(re wp τ d).cell? ⟨ga,oa+1,none⟩=some (.int .i64 7)/\(re wp τ d).cell? ⟨ab,1,none⟩=some (.slice (some ⟨gb,ob',none⟩) 1 cb)/\(re wp τ d).cell? ⟨gb,ob',none⟩=some (.bool false)/\(re wp τ d).cell? ⟨gb,ob'+1,none⟩=some (.int .i64 0)/\(re wp τ d).cell? ⟨sb,so,none⟩=some (.int .i64 2)/\(re wp τ d).cell? ⟨sb,so+1,none⟩=some (.int .i64 7)):=Lib.hid HF.out;have HBW2:=Lib.hid (HBW.out.trans (Beyond.re wp τ d));generalize re wp τ d=x0 at HF2 HBW2 ⊢;clear HF HBW;go_wp2;simp only[contAt];refine hJ.ctl (s:=n+2) (λw=>stepG_region_end) ?_;have hT:=al_new x0 (.cells #[.slice (some ⟨ab,0,none⟩) 2 2,.slice op 5 oc,.slice (some ⟨sb,so,none⟩) 3 sc,.bool false] 29);have hbx:Beyond x0 (x0.alloc (.cells #[.slice (some ⟨ab,0,none⟩) 2 2,.slice op 5 oc,.slice (some ⟨sb,so,none⟩) 3 sc,.bool false] 29)):=Beyond.alloc _ _;generalize (x0.alloc (.cells #[.slice (some ⟨ab,0,none⟩) 2 2,.slice op 5 oc,.slice (some ⟨sb,so,none⟩) 3 sc,.bool false] 29))=y0 at hT hbx ⊢;obtain⟨T,hTT⟩:∃T,x0.heap.size=T:=⟨_,rfl⟩;rw[hTT]at hT ⊢;clear hTT;have HY:=Lib.hid (HBW2.out.trans hbx);obtain⟨a1,a5,a6,b1,b5,b6,s0,s1⟩:=HF2.out;replace a1:=hbx.cell a1;replace a5:=hbx.cell a5;replace a6:=hbx.cell a6;replace b1:=hbx.cell b1;replace b5:=hbx.cell b5;replace b6:=hbx.cell b6;replace s0:=hbx.cell s0;replace s1:=hbx.cell s1;have t0:=(zq0 (off:=0) hT).trans rfl;have t1:=(zq0 (off:=1) hT).trans rfl;have t2:=(zq0 (off:=2) hT).trans rfl;have t3:=(zq0 (off:=3) hT).trans rfl;have FF:=Lib.hid (And.intro a1 (And.intro a5 (And.intro a6 (And.intro b1 (And.intro b5 (And.intro b6 (And.intro s0 (And.intro s1 (And.intro t0 (And.intro t1 (And.intro t2 t3)))))))))));clear hT hbx HF2 HBW2 a1 a5 a6 b1 b5 b6 s0 s1 t0 t1 t2 t3;refine at_rest_lone hJ hC plainM (by kernel_rfl) (λv w'=>v=.bool true/\Beyond y0 w') (λv w' τ d h=>⟨h.1,h.2.trans (Beyond.re _ _ _)⟩) rfl Try.func9 (λτ d=>?_) ?_
 · obtain⟨u0,hu0⟩:∃c,seT 2=c:=⟨_,rfl⟩;have eu0:=hu0;rw[hu0];simp only[seT,headC,tailN,Try.f9,al_od]at eu0;subst eu0;clear hu0 hm;obtain⟨a1,a5,a6,b1,b5,b6,s0,s1,t0,t1,t2,t3⟩:=FF.out;clear FF;have hcl:∀a,(re y0 τ d).cell? a=y0.cell? a:=λa=>rfl;rw[←hcl]at a1 a5 a6 b1 b5 b6 s0 s1 t0 t1 t2 t3;clear hcl;have HR:RowKit.Hid (Beyond y0 (re y0 τ d)):=Lib.hid (Beyond.re _ _ _);generalize re y0 τ d=z0 at HR a1 a5 a6 b1 b5 b6 s0 s1 t0 t1 t2 t3 ⊢;have a1x:∀p q r:Obj,(((z0.alloc p).alloc q).alloc r).cell? ⟨ab,0,none⟩=some (.slice (some ⟨ga,oa,none⟩) 1 ca):=λp q r=>(((Beyond.alloc z0 p).trans (Beyond.alloc _ q)).trans (Beyond.alloc _ r)).cell a1;have a5x:∀p q r:Obj,(((z0.alloc p).alloc q).alloc r).cell? ⟨ga,oa,none⟩=some (.bool true):=λp q r=>(((Beyond.alloc z0 p).trans (Beyond.alloc _ q)).trans (Beyond.alloc _ r)).cell a5;have a6x:∀p q r:Obj,(((z0.alloc p).alloc q).alloc r).cell? ⟨ga,oa+1,none⟩=some (.int .i64 7):=λp q r=>(((Beyond.alloc z0 p).trans (Beyond.alloc _ q)).trans (Beyond.alloc _ r)).cell a6;have b1x:∀p q r:Obj,(((z0.alloc p).alloc q).alloc r).cell? ⟨ab,1,none⟩=some (.slice (some ⟨gb,ob',none⟩) 1 cb):=λp q r=>(((Beyond.alloc z0 p).trans (Beyond.alloc _ q)).trans (Beyond.alloc _ r)).cell b1;have b5x:∀p q r:Obj,(((z0.alloc p).alloc q).alloc r).cell? ⟨gb,ob',none⟩=some (.bool false):=λp q r=>(((Beyond.alloc z0 p).trans (Beyond.alloc _ q)).trans (Beyond.alloc _ r)).cell b5;have b6x:∀p q r:Obj,(((z0.alloc p).alloc q).alloc r).cell? ⟨gb,ob'+1,none⟩=some (.int .i64 0):=λp q r=>(((Beyond.alloc z0 p).trans (Beyond.alloc _ q)).trans (Beyond.alloc _ r)).cell b6;have s0x:∀p q r:Obj,(((z0.alloc p).alloc q).alloc r).cell? ⟨sb,so,none⟩=some (.int .i64 2):=λp q r=>(((Beyond.alloc z0 p).trans (Beyond.alloc _ q)).trans (Beyond.alloc _ r)).cell s0;have s1x:∀p q r:Obj,(((z0.alloc p).alloc q).alloc r).cell? ⟨sb,so+1,none⟩=some (.int .i64 7):=λp q r=>(((Beyond.alloc z0 p).trans (Beyond.alloc _ q)).trans (Beyond.alloc _ r)).cell s1;have t0x:∀p q r:Obj,(((z0.alloc p).alloc q).alloc r).cell? ⟨T,0,none⟩=some (.slice (some ⟨ab,0,none⟩) 2 2):=λp q r=>(((Beyond.alloc z0 p).trans (Beyond.alloc _ q)).trans (Beyond.alloc _ r)).cell t0;have t1x:∀p q r:Obj,(((z0.alloc p).alloc q).alloc r).cell? ⟨T,1,none⟩=some (.slice op 5 oc):=λp q r=>(((Beyond.alloc z0 p).trans (Beyond.alloc _ q)).trans (Beyond.alloc _ r)).cell t1;have t2x:∀p q r:Obj,(((z0.alloc p).alloc q).alloc r).cell? ⟨T,2,none⟩=some (.slice (some ⟨sb,so,none⟩) 3 sc):=λp q r=>(((Beyond.alloc z0 p).trans (Beyond.alloc _ q)).trans (Beyond.alloc _ r)).cell t2;have t3x:∀p q r:Obj,(((z0.alloc p).alloc q).alloc r).cell? ⟨T,3,none⟩=some (.bool false):=λp q r=>(((Beyond.alloc z0 p).trans (Beyond.alloc _ q)).trans (Beyond.alloc _ r)).cell t3
   go_wp2_with (fail)
   refine Calls.mono (onew_lone _) ?_;rintro e w' ⟨rfl,rfl⟩
   go_wp2_with (fail)
   refine Calls.mono (newbox_lone _) ?_;rintro e w' ⟨rfl,o2,rfl⟩
   go_wp2_with (fail)
   refine Calls.mono (newlazy_lone _) ?_;rintro e w' ⟨rfl,o3,rfl⟩;go_wp2;go_ret;exact⟨_,rfl,rfl,HR.out.trans (((Beyond.alloc _ _).trans (Beyond.alloc _ _)).trans (Beyond.alloc _ _))⟩
 · rintro v w' ⟨rfl,h⟩;exact hm.out _ (HY.out.trans h)
end Go.Proofs
namespace Go.Car
open Go
def skipN(N:Nat)(en:Nat->Bool)(y:Int):Prop:=y<0\/(N:Int)<=y\/en y.toNat=true
inductive PickR(l:List Int)(N:Nat)(en:Nat->Bool):Nat->Nat->Nat->Nat->Nat->Prop
 |list {a r k x:Nat} (hk:a<=k) (hx:l[k]?=some (x:Int)) (hN:x<N) (he:en x=false) (hs:∀j y,a<=j->j<k->l[j]?=some y->skipN N en y):PickR l N en a r x (k+1) r
 |round {a r x v a':Nat} (hs:∀j y,a<=j->l[j]?=some y->skipN N en y) (hr:r<=v) (hx:x=v % N) (hN:0<N) (he:en x=false) (hv:∀j,r<=j->j<v->en (j % N)=true) (ha:l.length<=a'):PickR l N en a r x a' (x+1)
theorem PickR.lt {l:List Int}{N a r x a' r':Nat}{en:Nat->Bool}(h:PickR l N en a r x a' r'):x<N/\en x=false:=by
 cases h with
 |list hk hx hN he hs=>exact⟨hN,he⟩
 |round hs hr hx hN he hv ha=>exact⟨by rw[hx];exact Nat.mod_lt _ hN,he⟩
section
variable {prog:Nat->List Cd} {N most:Nat}
theorem leftN_zero{ov:Nat->Bool}(h:leftN ov N=0){i:Nat}(hi:i<N):ov i=true:=by
 cases e:ov i with
 |true=>rfl
 |false=>have:=leftN_set hi e;omega
theorem leftN_some{ov:Nat->Bool}{i:Nat}(hi:i<N)(e:ov i=false):0<leftN ov N:=by have:=leftN_set hi e;omega
theorem upto_drop{q j:Nat}(h:q+j<N):((upto N).drop q)[j]?=some ((q+j:Nat):Int):=by rw[List.getElem?_drop,upto_get h]
theorem upto_drop_lt{q j:Nat}{y:Int}(h:((upto N).drop q)[j]?=some y):y=((q+j:Nat):Int)/\q+j<N:=by
 have h2:=h;rw[List.getElem?_drop]at h2;have hlt:q+j<N:=by have:=(List.getElem?_eq_some_iff.1 h2).1;rw[upto_len]at this;exact this
 rw[upto_get hlt]at h2;exact⟨(Option.some.inj h2).symm,hlt⟩
end
end Go.Car
namespace Go.Car
open Go
section
variable {S:Type} {N most:Nat}
theorem step1T_skip{y:Int}{s:TSt S}(h:skipN N s.ov y):step1T N most y s=s:=by
 unfold step1T;rw[if_pos];rcases h with h|h|h
 · exact .inl h
 · exact .inr (.inl h)
 · exact .inr (.inr (.inl h))
theorem stepsT_skip{s:TSt S}:∀(L:List Int),(∀y∈L,skipN N s.ov y)->stepsT N most L s=s
 |[],_=>rfl
 |y::L,h=>by
  unfold stepsT;rw[List.foldl_cons,step1T_skip (h y (by simp))];exact stepsT_skip L λz hz=>h z (by simp[hz])
theorem stepsT_full{s:TSt S}(h:s.ord.length=most):∀(L:List Int),stepsT N most L s=s
 |[]=>rfl
 |y::L=>by
  have e:step1T N most y s=s:=by unfold step1T;rw[if_pos (.inr (.inr (.inr h)))]
  unfold stepsT;rw[List.foldl_cons,e];exact stepsT_full h L
theorem stepsT_app(L1 L2:List Int)(s:TSt S):stepsT N most (L1++L2) s=stepsT N most L2 (stepsT N most L1 s):=List.foldl_append
theorem stepsT_done{s:TSt S}(h:leftN s.ov N=0)(L:List Int):stepsT N most L s=s:=by
 refine stepsT_skip L λy _=>?_
 by_cases h1:y<0
 · exact .inl h1
 by_cases h2:(N:Int)<=y
 · exact .inr (.inl h2)
 · exact .inr (.inr (leftN_zero h (by omega)))
theorem roundsT_stop{f:Nat}{s:TSt S}(h:¬(0<leftN s.ov N/\s.ord.length<most)):roundsT N most f s=s:=by
 cases f with
 |zero=>rfl
 |succ f=>unfold roundsT;rw[if_neg h]
theorem step1T_go{x:Nat}{s:TSt S}(hx:x<N)(he:s.ov x=false)(hm:s.ord.length≠most):step1T N most x s=turnT x (goT (s.t x) s.s) s (s.ord++[x]):=by
 unfold step1T;rw[if_neg]
 · rw[Int.toNat_natCast]
 · rintro(h|h|h|h)
   · omega
   · omega
   · rw[Int.toNat_natCast,he]at h;cases h
   · exact hm h
theorem stepsT_cut{L:List Int}{k:Nat}{x:Nat}{s:TSt S}(hk:L[k]?=some (x:Int))(hs:∀j y,j<k->L[j]?=some y->skipN N s.ov y)(hx:x<N)(he:s.ov x=false)(hm:s.ord.length≠most):
 stepsT N most L s=stepsT N most (L.drop (k+1)) (turnT x (goT (s.t x) s.s) s (s.ord++[x])):=by
 obtain⟨hlt,hg⟩:=List.getElem?_eq_some_iff.1 hk;have e:L=L.take k++(x:Int)::L.drop (k+1):=by
  rw[←hg,List.getElem_cons_drop,List.take_append_drop]
 have e2:stepsT N most L s=stepsT N most (L.take k++(x:Int)::L.drop (k+1)) s:=by rw[←e]
 rw[e2,stepsT_app,stepsT_skip (L.take k) λy hy=>?_]
 · show List.foldl _ _ _=_;rw[List.foldl_cons,step1T_go hx he hm];rfl
 · obtain⟨j,hj⟩:=List.mem_iff_getElem?.1 hy;rw[List.getElem?_take]at hj;split at hj
   · rename_i hh;exact hs j y hh hj
   · cases hj
def playInvT(l:List Int)(N most:Nat)(P:TSt S)(a r:Nat)(s:TSt S):Prop:=
 r<=N/\∃f q,most<f+s.ord.length/\(q=r\/(r=0/\q=N))/\roundsT N most f (stepsT N most ((upto N).drop q) (stepsT N most (l.drop a) s))=P
theorem playInvT_start(pr:Nat->Proc S Unit)(l:List Int)(s:S):playInvT l N most (playT pr N most l s) 0 0 (beginT pr s N):=by
 refine⟨Nat.zero_le _,most+1,N,by omega,.inr ⟨rfl,rfl⟩,?_⟩;have:(upto N).drop N=[]:=List.drop_eq_nil_of_le (by rw[upto_len];exact Nat.le_refl _);rw[this];rfl
theorem playInvT_stop{l:List Int}{P s:TSt S}{a r:Nat}(h:playInvT l N most P a r s)(hs:leftN s.ov N=0\/s.ord.length=most):P=s:=by
 obtain⟨_,f,q,_,_,h⟩:=h;rcases hs with hs|hs
 · rw[stepsT_done hs,stepsT_done hs,roundsT_stop (by omega)]at h;exact h.symm
 · rw[stepsT_full hs,stepsT_full hs,roundsT_stop (by omega)]at h;exact h.symm
theorem playInvT_step{l:List Int}{P s:TSt S}{a r x a' r':Nat}(h:playInvT l N most P a r s)(hm:s.ord.length<most)(hp:PickR l N s.ov a r x a' r'):playInvT l N most P a' r' (turnT x (goT (s.t x) s.s) s (s.ord++[x])):=by
 obtain⟨hrN,f,q,hf,hq,h⟩:=h;have hl1:(turnT x (goT (s.t x) s.s) s (s.ord++[x])).ord.length=s.ord.length+1:=by simp[turnT]
 cases hp with
 |list hk hx hN he hs=>
  rename_i k;refine⟨hrN,f,q,by omega,hq,?_⟩;rw[stepsT_cut (k:=k - a) (x:=x) (by rw[List.getElem?_drop,show a+(k - a)=k from by omega];exact hx) (λj y hj hy=>hs (a+j) y (by omega) (by omega) (by rw[List.getElem?_drop]at hy;exact hy)) hN he (by omega),List.drop_drop,show a+(k - a+1)=k+1 from by omega]at h;exact h
 |round hs hr hx hN he hv ha=>
  rename_i v;have hxN:x<N:=by rw[hx];exact Nat.mod_lt _ hN
  have e1:stepsT N most (l.drop a) s=s:=stepsT_skip _ λy hy=>by
   obtain⟨j,hj⟩:=List.mem_iff_getElem?.1 hy;rw[List.getElem?_drop]at hj;exact hs (a+j) y (by omega) hj
  have e2:l.drop a'=[]:=List.drop_eq_nil_of_le ha;rw[e1]at h
  by_cases hc:q<=v/\v<N
  · have hxv:x=v:=by rw[hx,Nat.mod_eq_of_lt hc.2]
    subst hxv;refine⟨by omega,f,x+1,by omega,.inl rfl,?_⟩;rw[e2];rw[stepsT_cut (k:=x - q) (x:=x) (by rw[upto_drop (by omega),show q+(x - q)=x from by omega]) (λj y hj hy=>?_) hxN he (by omega),List.drop_drop,show q+(x - q+1)=x+1 from by omega]at h
    · exact h
    · obtain⟨rfl,hlt⟩:=upto_drop_lt hy;have:=hv (q+j) (by omega) (by omega);rw[Nat.mod_eq_of_lt hlt]at this;exact .inr (.inr (by rw[Int.toNat_natCast];exact this))
  · have e3:stepsT N most ((upto N).drop q) s=s:=stepsT_skip _ λy hy=>by
     obtain⟨j,hj⟩:=List.mem_iff_getElem?.1 hy;obtain⟨rfl,hlt⟩:=upto_drop_lt hj;have:=hv (q+j) (by omega) (by omega);rw[Nat.mod_eq_of_lt hlt]at this;exact .inr (.inr (by rw[Int.toNat_natCast];exact this))
    rw[e3]at h;cases f with
    |zero=>omega
    |succ f=>
     unfold roundsT at h;rw[if_pos ⟨leftN_some hxN he,hm⟩]at h;refine⟨by omega,f,x+1,by omega,.inl rfl,?_⟩;rw[e2];rw[stepsT_cut (L:=upto N) (k:=x) (x:=x) (upto_get hxN) (λj y hj hy=>?_) hxN he (by omega)]at h
     · exact h
     · have hjN:j<N:=by omega
       rw[upto_get hjN]at hy;cases hy;have key:∃u,r<=u/\u<v/\u % N=j:=by
        by_cases hvN:v<N
        · have:x=v:=by rw[hx,Nat.mod_eq_of_lt hvN]
          refine⟨j,by omega,by omega,Nat.mod_eq_of_lt hjN⟩
        · have hdiv:v=N*(v / N)+x:=by rw[hx];exact(Nat.div_add_mod v N).symm
          have h1:1<=v / N:=(Nat.le_div_iff_mul_le hN).2 (by omega);have h2:N*1<=N*(v / N):=Nat.mul_le_mul_left N h1;refine⟨N*(v / N)+j,by omega,by omega,?_⟩;rw[Nat.mul_add_mod,Nat.mod_eq_of_lt hjN]
       obtain⟨u,h1,h2,h3⟩:=key;have:=hv u h1 h2;rw[h3]at this;exact .inr (.inr (by rw[Int.toNat_natCast];exact this))#print axioms playInvT_step
end
def triesR(c:Int):Int:=if c<1 then 1 else if c>1024 then 1024 else c
theorem triesR_in(c:Int):1<=triesR c/\triesR c<=1024:=by unfold triesR;split<;>(try split)<;>omega
structure RTh where
 at':Nat
 pc:Nat
 n:Nat->Int
 ans:List Ans
 en:Bool
def RTh.z:RTh:=⟨0,0,λ_=>0,[],false⟩
def RTh.fin (t:RTh)(a:Ans):RTh:={t with ans:=t.ans++[a],at':=t.at'+1,pc:=0}
structure RM(S1:Type)where
 bg:Nat->OpX->S1->RTh->S1×RTh
 stp:Nat->OpX->S1->RTh->S1×RTh
def treeThen{S:Type}(p:Proc S Unit):Tree S Unit:=.step (λs=>(p s).1) (λs=>(p s).2)
section
variable {S1:Type}
def settleG(M:RM S1)(i:Nat)(ops:List OpX):Nat->S1×RTh->S1×RTh
 |0,x=>x
 |f+1,x=>if x.2.pc=0 then(match ops[x.2.at']? with|some op=>settleG M i ops f (M.bg i op x.1 x.2)|none=>x)else x
def sealG(ops:List OpX)(x:S1×RTh):S1×RTh:=(x.1,{x.2 with en:=decide (ops.length<=x.2.at')})
def setlG(M:RM S1)(i:Nat)(ops:List OpX)(x:S1×RTh):S1×RTh:=sealG ops (settleG M i ops (ops.length+1) x)
structure RLaw(M:RM S1)(dop:Nat->OpX->Proc (S1×(Nat->List Ans)) Ans)(Ok:Nat->OpX->RTh->Prop)(cont:Nat->OpX->RTh->Proc (S1×(Nat->List Ans)) Ans):Prop where
 begin:∀(i:Nat)(op:OpX)(C:S1)(A:Nat->List Ans)(t:RTh),t.pc=0->
  (∃a C',M.bg i op C t=(C',t.fin a)/\dop i op (C,A)=((C',A),.ret a))\/
  (∃C' t',M.bg i op C t=(C',t')/\t'.pc≠0/\t'.at'=t.at'/\t'.ans=t.ans/\Ok i op t'/\dop i op (C,A)=((C',A),.step (λs=>(cont i op t' s).1) (λs=>(cont i op t' s).2)))
 step:∀(i:Nat)(op:OpX)(C:S1)(A:Nat->List Ans)(t:RTh),t.pc≠0->Ok i op t->
  (∃t1 a,(M.stp i op C t).2=RTh.fin t1 a/\t1.at'=t.at'/\t1.ans=t.ans/\cont i op t (C,A)=(((M.stp i op C t).1,A),.ret a))\/
  ((M.stp i op C t).2.pc≠0/\(M.stp i op C t).2.at'=t.at'/\(M.stp i op C t).2.ans=t.ans/\Ok i op (M.stp i op C t).2/\
    cont i op t (C,A)=(((M.stp i op C t).1,A),.step (λs=>(cont i op (M.stp i op C t).2 s).1) (λs=>(cont i op (M.stp i op C t).2 s).2)))
def restG(dop:Nat->OpX->Proc (S1×(Nat->List Ans)) Ans)(i:Nat)(ops:List OpX)(at':Nat)(a:Ans):Proc (S1×(Nat->List Ans)) Unit:=(pushP i a).bind λ_=>opsP i (dop i) (ops.drop (at'+1))
def treeG(dop:Nat->OpX->Proc (S1×(Nat->List Ans)) Ans)(cont:Nat->OpX->RTh->Proc (S1×(Nat->List Ans)) Ans)(i:Nat)(ops:List OpX)(t:RTh):Tree (S1×(Nat->List Ans)) Unit:=if t.pc=0 then .ret ()else match ops[t.at']? with
 |some op=>treeThen ((cont i op t).bind (restG dop i ops t.at'))
 |none=>.ret ()
structure OkG(Ok:Nat->OpX->RTh->Prop)(i:Nat)(ops:List OpX)(t:RTh):Prop where
 on:t.pc≠0->∃op,ops[t.at']?=some op/\Ok i op t
 off:t.pc=0->ops.length<=t.at'
 en:t.en=decide (ops.length<=t.at')
theorem OkG.en' {Ok:Nat->OpX->RTh->Prop}{i:Nat}{ops:List OpX}{t:RTh}(h:OkG Ok i ops t):t.en=decide (t.pc=0):=by
 rw[h.en]
 by_cases hp:t.pc=0
 · simp[hp,h.off hp]
 · obtain⟨op,ho,_⟩:=h.on hp;have:=(List.getElem?_eq_some_iff.1 ho).1;simp[hp,this]
theorem updG_self{α:Type}(f:Nat->α)(i:Nat):upd' f i (f i)=f:=funext λj=>by
 by_cases h:j=i
 · subst h;simp
 · rw[upd'_ne _ _ h]
theorem updG_twice{α:Type}(f:Nat->α)(i:Nat)(x y:α):upd' (upd' f i x) i y=upd' f i y:=funext λj=>by
 by_cases h:j=i
 · subst h;simp
 · rw[upd'_ne _ _ h,upd'_ne _ _ h,upd'_ne _ _ h]
variable {M:RM S1} {dop:Nat->OpX->Proc (S1×(Nat->List Ans)) Ans} {Ok:Nat->OpX->RTh->Prop} {cont:Nat->OpX->RTh->Proc (S1×(Nat->List Ans)) Ans} {i:Nat} {ops:List OpX}
theorem treeG_en{i:Nat}{ops:List OpX}{t:RTh}(b:Bool)(hc:∀i op t b,cont i op {t with en:=b}=cont i op t):treeG dop cont i ops {t with en:=b}=treeG dop cont i ops t:=by
 unfold treeG;simp only[hc]
theorem settleG_on{f:Nat}{x:S1×RTh}(h:x.2.pc≠0):settleG M i ops f x=x:=by
 cases f with
 |zero=>rfl
 |succ f=>unfold settleG;rw[if_neg h]
theorem settleG_next{f:Nat}{C:S1}{t:RTh}{op:OpX}(hp:t.pc=0)(ho:ops[t.at']?=some op):settleG M i ops (f+1) (C,t)=settleG M i ops f (M.bg i op C t):=by
 show(if t.pc=0 then _ else _)=_;rw[if_pos hp];simp only[ho]
theorem settleG_tree(hl:RLaw M dop Ok cont):∀(f:Nat)(t:RTh)(C:S1)(A:Nat->List Ans),t.pc=0->ops.length<f+t.at'->A i=t.ans->
 (opsP i (dop i) (ops.drop t.at')) (C,A)=(((settleG M i ops f (C,t)).1,upd' A i (settleG M i ops f (C,t)).2.ans),treeG dop cont i ops (settleG M i ops f (C,t)).2):=by
 intro f
 induction f with
 |zero=>
  intro t C A hpc hf hA;rw[List.drop_eq_nil_of_le (by omega)];show((C,A),Tree.ret ())=((C,upd' A i t.ans),treeG dop cont i ops t);rw[←hA,updG_self];unfold treeG;rw[if_pos hpc]
 |succ f ih=>
  intro t C A hpc hf hA;have hs:settleG M i ops (f+1) (C,t)=(match ops[t.at']? with|some op=>settleG M i ops f (M.bg i op C t)|none=>(C,t)):=by
   show(if t.pc=0 then _ else _)=_;rw[if_pos hpc]
  rw[hs];cases hop:ops[t.at']? with
  |none=>
   have hge:ops.length<=t.at':=List.getElem?_eq_none_iff.1 hop;rw[List.drop_eq_nil_of_le hge];show((C,A),Tree.ret ())=((C,upd' A i t.ans),treeG dop cont i ops t);rw[←hA,updG_self];unfold treeG;rw[if_pos hpc]
  |some op=>
   have hlt:=(List.getElem?_eq_some_iff.1 hop).1;have hdrop:ops.drop t.at'=op::ops.drop (t.at'+1):=by rw[List.drop_eq_getElem_cons hlt,(List.getElem?_eq_some_iff.1 hop).2]
   rw[hdrop,opsP];simp only;rcases hl.begin i op C A t hpc with⟨a,C',h1,h2⟩|⟨C',t',h1,h2,h3,h4,h5,h6⟩
   · rw[h1];have e:((dop i op).bind λa=>(pushP i a).bind λ_=>opsP i (dop i) (ops.drop (t.at'+1))) (C,A)=opsP i (dop i) (ops.drop (t.at'+1)) (C',upd' A i (A i++[a])):=by
      unfold Proc.bind;rw[h2];rfl
     have:=ih (t.fin a) C' (upd' A i (A i++[a])) rfl (by show ops.length<f+(t.at'+1);omega) (by rw[upd'_same,hA];rfl);rw[updG_twice]at this;exact e.trans this
   · rw[h1,settleG_on h2];have e:((dop i op).bind λa=>(pushP i a).bind λ_=>opsP i (dop i) (ops.drop (t.at'+1))) (C,A)=((C',A),treeThen ((cont i op t').bind (restG dop i ops t.at'))):=by
      unfold Proc.bind;rw[h6];rfl
     rw[e];simp only;rw[h4,←hA,updG_self];unfold treeG;rw[if_neg h2,h3];simp only[hop]
theorem settleG_ok(hl:RLaw M dop Ok cont):∀(f:Nat)(t:RTh)(C:S1)(A:Nat->List Ans),(t.pc≠0->∃op,ops[t.at']?=some op/\Ok i op t)->ops.length<f+t.at'->
 ((settleG M i ops f (C,t)).2.pc≠0->∃op,ops[(settleG M i ops f (C,t)).2.at']?=some op/\Ok i op (settleG M i ops f (C,t)).2)/\((settleG M i ops f (C,t)).2.pc=0->ops.length<=(settleG M i ops f (C,t)).2.at'):=by
 intro f
 induction f with
 |zero=>exact λt C A h hf=>⟨h,λ_=>by show ops.length<=t.at';omega⟩
 |succ f ih=>
  intro t C A h hf
  by_cases hpc:t.pc=0
  · have hs:settleG M i ops (f+1) (C,t)=(match ops[t.at']? with|some op=>settleG M i ops f (M.bg i op C t)|none=>(C,t)):=by
     show(if t.pc=0 then _ else _)=_;rw[if_pos hpc]
    rw[hs];cases hop:ops[t.at']? with
    |none=>exact⟨h,λ_=>List.getElem?_eq_none_iff.1 hop⟩
    |some op=>
     simp only;rcases hl.begin i op C A t hpc with⟨a,C',h1,h2⟩|⟨C',t',h1,h2,h3,h4,h5,h6⟩
     · rw[h1];exact ih (t.fin a) C' A (λhp=>absurd rfl hp) (by show ops.length<f+(t.at'+1);omega)
     · rw[h1,settleG_on h2];exact⟨λ_=>⟨op,by rw[h3];exact hop,h5⟩,λhp=>absurd hp h2⟩
  · rw[settleG_on hpc];exact⟨h,λhp=>absurd hp hpc⟩
structure RelG(dop:Nat->OpX->Proc (S1×(Nat->List Ans)) Ans)(cont:Nat->OpX->RTh->Proc (S1×(Nat->List Ans)) Ans)(Ok:Nat->OpX->RTh->Prop)(n:Nat)(ops:Nat->List OpX)(a:TSt (S1×(Nat->List Ans)))(C:S1)(T:Nat->RTh):Prop where
 c:a.s.1=C
 ans:∀i,a.s.2 i=(T i).ans
 thr:∀i,i<n->a.t i=treeG dop cont i (ops i) (T i)/\a.ov i=(T i).en/\OkG Ok i (ops i) (T i)
 un:∀i,n<=i->T i=RTh.z/\a.ov i=false
variable {n N:Nat} {ops':Nat->List OpX} {a:TSt (S1×(Nat->List Ans))} {C C₀:S1} {T:Nat->RTh}
theorem treeG_ret{t:RTh}(h:OkG Ok i ops t):(treeG dop cont i ops t).isRet=t.en:=by
 rw[h.en'];unfold treeG
 by_cases hp:t.pc=0
 · rw[if_pos hp];simp[hp,Tree.isRet]
 · rw[if_neg hp];obtain⟨o,ho,_⟩:=h.on hp;simp only[ho];simp[treeThen,Tree.isRet,hp]
theorem RelG.turn (h:RelG dop cont Ok n ops' a C T)(hi:i<=n){C':S1}{t':RTh}{ord':List Nat}(hok:OkG Ok i (ops' i) t')(hov:a.ov i=false):
 RelG dop cont Ok (max n (i+1)) ops' (turnT i ((C',upd' a.s.2 i t'.ans),treeG dop cont i (ops' i) t') a ord') C' (upd' T i t'):=by
 refine⟨rfl,λj=>?_,λj hj=>?_,λj hj=>?_⟩
 · show upd' a.s.2 i t'.ans j=(upd' T i t' j).ans
   by_cases e:j=i
   · subst e;simp
   · rw[upd'_ne _ _ e,upd'_ne _ _ e];exact h.ans j
 · show upd' a.t i (treeG dop cont i (ops' i) t') j=treeG dop cont j (ops' j) (upd' T i t' j)/\(if(treeG dop cont i (ops' i) t').isRet then(λj=>if j=i then true else a.ov j)else a.ov) j=(upd' T i t' j).en/\OkG Ok j (ops' j) (upd' T i t' j);rw[treeG_ret hok]
   by_cases e:j=i
   · subst e;rw[upd'_same,upd'_same];refine⟨rfl,?_,hok⟩;cases hp:t'.en with
     |true=>simp
     |false=>simp[hov]
   · rw[upd'_ne _ _ e,upd'_ne _ _ e];obtain⟨k1,k2,k3⟩:=h.thr j (by omega);refine⟨k1,?_,k3⟩;rw[←k2];split
     · simp[e]
     · rfl
 · show upd' T i t' j=RTh.z/\(if(treeG dop cont i (ops' i) t').isRet then(λj=>if j=i then true else a.ov j)else a.ov) j=false;have e:j≠i:=by omega
   rw[upd'_ne _ _ e];obtain⟨k1,k2⟩:=h.un j (by omega);refine⟨k1,?_⟩;split
   · simp[e,k2]
   · exact k2
theorem RelG.zero (dop:Nat->OpX->Proc (S1×(Nat->List Ans)) Ans)(cont:Nat->OpX->RTh->Proc (S1×(Nat->List Ans)) Ans)(Ok:Nat->OpX->RTh->Prop)(ops:Nat->List OpX)(pr:Nat->Proc (S1×(Nat->List Ans)) Unit)(C:S1):RelG dop cont Ok 0 ops (beginT pr (C,λ_=>[]) 0) C (λ_=>RTh.z):=
 ⟨rfl,λ_=>rfl,λi hi=>absurd hi (Nat.not_lt_zero _),λi _=>⟨rfl,rfl⟩⟩
theorem setlG_ok(hl:RLaw M dop Ok cont)(hOk:∀i op t b,Ok i op t->Ok i op {t with en:=b})(t:RTh)(C:S1)(A:Nat->List Ans)(h:t.pc≠0->∃op,ops[t.at']?=some op/\Ok i op t):OkG Ok i ops (setlG M i ops (C,t)).2:=by
 obtain⟨h1,h2⟩:=settleG_ok (ops:=ops) (i:=i) hl (ops.length+1) t C A h (by omega);exact⟨λhp=>by obtain⟨op,k1,k2⟩:=h1 hp;exact⟨op,k1,hOk _ _ _ _ k2⟩,h2,rfl⟩
theorem RelG.begin (hl:RLaw M dop Ok cont)(hOk:∀i op t b,Ok i op t->Ok i op {t with en:=b})(hc:∀i op t b,cont i op {t with en:=b}=cont i op t)
 (h:RelG dop cont Ok n ops' (beginT (λi=>opsP i (dop i) (ops' i)) (C₀,λ_=>[]) n) C T):
 RelG dop cont Ok (n+1) ops' (beginT (λi=>opsP i (dop i) (ops' i)) (C₀,λ_=>[]) (n+1)) (setlG M n (ops' n) (C,RTh.z)).1 (upd' T n (setlG M n (ops' n) (C,RTh.z)).2):=by
 have hs:=settleG_tree (i:=n) (ops:=ops' n) hl ((ops' n).length+1) RTh.z C (beginT (λi=>opsP i (dop i) (ops' i)) (C₀,λ_=>[]) n).s.2 rfl (by show _<_+1+0;omega) (by rw[h.ans n,(h.un n (Nat.le_refl _)).1]);have hs':opsP n (dop n) (ops' n) (beginT (λi=>opsP i (dop i) (ops' i)) (C₀,λ_=>[]) n).s=(((setlG M n (ops' n) (C,RTh.z)).1,upd' (beginT (λi=>opsP i (dop i) (ops' i)) (C₀,λ_=>[]) n).s.2 n (setlG M n (ops' n) (C,RTh.z)).2.ans),treeG dop cont n (ops' n) (setlG M n (ops' n) (C,RTh.z)).2):=by
  have e:(beginT (λi=>opsP i (dop i) (ops' i)) (C₀,λ_=>[]) n).s=(C,(beginT (λi=>opsP i (dop i) (ops' i)) (C₀,λ_=>[]) n).s.2):=Prod.ext h.c rfl;unfold setlG sealG;simp only;rw[treeG_en _ hc];refine(congrArg _ e).trans ?_;exact hs
 show RelG dop cont Ok (n+1) ops' (turnT n (opsP n (dop n) (ops' n) (beginT (λi=>opsP i (dop i) (ops' i)) (C₀,λ_=>[]) n).s) _ _) _ _;rw[hs'];have:=h.turn (i:=n) (Nat.le_refl n) (C':=(setlG M n (ops' n) (C,RTh.z)).1) (t':=(setlG M n (ops' n) (C,RTh.z)).2) (ord':=(beginT (λi=>opsP i (dop i) (ops' i)) (C₀,λ_=>[]) n).ord) (setlG_ok hl hOk RTh.z C (λ_=>[]) (λhp=>absurd rfl hp)) (h.un n (Nat.le_refl _)).2
 rwa [show max n (n+1)=n+1 by omega]at this
theorem RelG.step (hl:RLaw M dop Ok cont)(hOk:∀i op t b,Ok i op t->Ok i op {t with en:=b})(hc:∀i op t b,cont i op {t with en:=b}=cont i op t)
 (h:RelG dop cont Ok N ops' a C T) {x:Nat} (hx:x<N) (he:(T x).en=false) {ord':List Nat}:
 ∃op,(ops' x)[(T x).at']?=some op/\(T x).pc≠0/\Ok x op (T x)/\
  RelG dop cont Ok N ops' (turnT x (goT (a.t x) a.s) a ord') (setlG M x (ops' x) (M.stp x op C (T x))).1 (upd' T x (setlG M x (ops' x) (M.stp x op C (T x))).2):=by
 obtain⟨k1,k2,k3⟩:=h.thr x hx;have hp:(T x).pc≠0:=λhp=>by rw[k3.en',hp]at he;simp at he
 obtain⟨op,hop,ho⟩:=k3.on hp;refine⟨op,hop,hp,ho,?_⟩;have hgo:goT (a.t x) a.s=(((setlG M x (ops' x) (M.stp x op C (T x))).1,upd' a.s.2 x (setlG M x (ops' x) (M.stp x op C (T x))).2.ans),treeG dop cont x (ops' x) (setlG M x (ops' x) (M.stp x op C (T x))).2):=by
  rw[k1];have e0:treeG dop cont x (ops' x) (T x)=treeThen ((cont x op (T x)).bind (restG dop x (ops' x) (T x).at')):=by
   unfold treeG;rw[if_neg hp];simp only[hop]
  rw[e0];have e:a.s=(C,a.s.2):=Prod.ext h.c rfl;show((cont x op (T x)).bind (restG dop x (ops' x) (T x).at')) a.s=_;rw[e];unfold setlG sealG;simp only;rw[treeG_en _ hc];rcases hl.step x op C a.s.2 (T x) hp ho with⟨t1,b,h1,h2,h3,h4⟩|⟨h1,h2,h3,h4,h5⟩
  · have e2:((cont x op (T x)).bind (restG dop x (ops' x) (T x).at')) (C,a.s.2)=opsP x (dop x) ((ops' x).drop ((T x).at'+1)) ((M.stp x op C (T x)).1,upd' a.s.2 x (a.s.2 x++[b])):=by
     unfold Proc.bind;rw[h4];rfl
    rw[e2];have e3:M.stp x op C (T x)=((M.stp x op C (T x)).1,t1.fin b):=Prod.ext rfl h1;have:=settleG_tree (i:=x) (ops:=ops' x) hl ((ops' x).length+1) (t1.fin b) (M.stp x op C (T x)).1 (upd' a.s.2 x (a.s.2 x++[b])) rfl (by show _<_+1+_;omega) (by rw[upd'_same,h.ans x,←h3];rfl);rw[updG_twice]at this;have e4:(t1.fin b).at'=(T x).at'+1:=by show t1.at'+1=_;rw[h2]
    rw[e4,←e3]at this;exact this
  · rw[settleG_on h1];have e2:((cont x op (T x)).bind (restG dop x (ops' x) (T x).at')) (C,a.s.2)=(((M.stp x op C (T x)).1,a.s.2),treeThen ((cont x op (M.stp x op C (T x)).2).bind (restG dop x (ops' x) (T x).at'))):=by
     unfold Proc.bind;rw[h5];rfl
    rw[e2,h3,←h.ans x,updG_self];unfold treeG;rw[if_neg h1,h2];simp only[hop]
 rw[hgo];have hok:OkG Ok x (ops' x) (setlG M x (ops' x) (M.stp x op C (T x))).2:=by
  have e3:M.stp x op C (T x)=((M.stp x op C (T x)).1,(M.stp x op C (T x)).2):=rfl;rw[e3];refine setlG_ok hl hOk _ _ (λ_=>[]) λhq=>?_;rcases hl.step x op C a.s.2 (T x) hp ho with⟨t1,b,h1,h2,h3,h4⟩|⟨h1,h2,h3,h4,h5⟩
  · rw[h1]at hq;exact absurd rfl hq
  · exact⟨op,by rw[h2];exact hop,h4⟩
 have:=h.turn (i:=x) (Nat.le_of_lt hx) (C':=(setlG M x (ops' x) (M.stp x op C (T x))).1) (t':=(setlG M x (ops' x) (M.stp x op C (T x))).2) (ord':=ord') hok (by rw[k2];exact he)
 rwa [show max N (x+1)=N by omega]at this
theorem RelG.left (h:RelG dop cont Ok N ops' a C T):leftN a.ov N=leftN (λi=>(T i).en) N:=leftN_congr λi hi=>(h.thr i hi).2.1
end
end Go.Car
set_option maxHeartbeats 1000000
namespace Go.Car
open Go Go.Conc Go.RowKit
def RecRow(w:World)(B:Nat)(T:TypeId)(k:Nat)(v:Value)(n:Nat)(f:Nat->Nat->Value):Prop:=
 ∃xs,w.ownsRow B T k v n xs/\∀i j,i<n->j<k->xs[i*k+j]?=some (f i j)
section
variable {w w':World} {B k n:Nat} {T:TypeId} {v:Value} {f:Nat->Nat->Value}
theorem rec_idx{i j i' j' k:Nat}(hj:j<k)(hj':j'<k)(h:i*k+j=i'*k+j'):i=i'/\j=j':=by
 have h1:(i*k+j) / k=i:=by rw[Nat.mul_comm,Nat.mul_add_div (by omega),Nat.div_eq_of_lt hj];omega
 have h2:(i'*k+j') / k=i':=by rw[Nat.mul_comm,Nat.mul_add_div (by omega),Nat.div_eq_of_lt hj'];omega
 have:i=i':=by rw[←h1,←h2,h]
 subst this;exact⟨rfl,by omega⟩
theorem rec_lt{i j n k:Nat}(hi:i<n)(hj:j<k):i*k+j<n*k:=by
 have:i*k+k<=n*k:=by rw[←Nat.succ_mul];exact Nat.mul_le_mul_right k hi
 omega
theorem RecRow.nil (w:World)(B:Nat)(T:TypeId)(k:Nat)(f:Nat->Nat->Value):RecRow w B T k (.slice none 0 0) 0 f:=⟨[],World.ownsRow_nil _ _ _ _,λi j hi=>absurd hi (Nat.not_lt_zero _)⟩
theorem RecRow.of (h:RecRow w B T k v n f)(hs:∀g,v.ownBlock=some g->w'.heap[g]?=w.heap[g]?):RecRow w' B T k v n f:=by
 obtain⟨xs,h1,h2⟩:=h;exact⟨xs,ownsRow_of h1 hs,h2⟩
theorem RecRow.lt (h:RecRow w B T k v n f){g:Nat}(hg:v.ownBlock=some g):(∃c,w.heap[g]?=some (.cells c T))/\B<=g/\g<w.heap.size:=by
 obtain⟨xs,h1,_⟩:=h;exact own_lt h1 hg
theorem RecRow.form (h:RecRow w B T k v n f):∃p C,v=.slice p n C/\(0<n->∃g,p=some ⟨g,0,none⟩/\v.ownBlock=some g):=by
 obtain⟨xs,h1,_⟩:=h;rcases h1.2 with⟨hv,h0⟩|⟨g,cap,cur,hv,_⟩
 · subst h0;exact⟨none,0,hv,λh=>absurd h (Nat.lt_irrefl _)⟩
 · exact⟨_,cap,hv,λ_=>⟨g,rfl,by rw[hv];rfl⟩⟩
theorem RecRow.cell {g C:Nat}(h:RecRow w B T k (.slice (some ⟨g,0,none⟩) n C) n f){i j:Nat}(hi:i<n)(hj:j<k):w.cell? ⟨g,i*k+j,none⟩=some (f i j)/\w.frozen? ⟨g,i*k+j,none⟩=false:=by
 obtain⟨xs,h1,h2⟩:=h;rcases h1.2 with⟨hv,_⟩|⟨g2,cap,cur,hv,hb,hh,e1,e2,e3,e4⟩
 · cases hv
 · cases hv;refine⟨?_,zq6 hh⟩;rw[zq0 (off:=i*k+j) hh];have h3:=h2 i j hi hj;rw[←e4,List.getElem?_take,if_pos (rec_lt hi hj)]at h3;simpa using h3
theorem RecRow.set {g C:Nat}(h:RecRow w B T k (.slice (some ⟨g,0,none⟩) n C) n f){i j:Nat}(hi:i<n)(hj:j<k)(x:Value):RecRow (w.setCell ⟨g,i*k+j,none⟩ x) B T k (.slice (some ⟨g,0,none⟩) n C) n (λa b=>if a=i/\b=j then x else f a b):=by
 obtain⟨xs,h1,h2⟩:=h;have hlen:=h1.1;rcases h1.2 with⟨hv,_⟩|⟨g2,cap2,cur,hv,e1,e2,e3,e4,e5,e6⟩
 · cases hv
 · cases hv;refine⟨xs.set (i*k+j) x,⟨by rw[List.length_set];exact hlen,.inr ⟨g,C,cur.setIfInBounds (i*k+j) x,rfl,e1,zqa _ _ _ _ e2,e3,e4,by simpa using e5,?_⟩⟩,λa b ha hb=>?_⟩
   · rw[←e6,Array.toList_setIfInBounds,List.take_set]
   · by_cases e:a=i/\b=j
     · obtain⟨rfl,rfl⟩:=e;simp only[and_self,if_true];rw[List.getElem?_set_self (by rw[hlen];exact rec_lt ha hb)]
     · simp only[if_neg e];rw[List.getElem?_set_ne (λe2=>e (by obtain⟨r1,r2⟩:=rec_idx hj hb e2;exact⟨r1.symm,r2.symm⟩)),h2 a b ha hb]
theorem RecRow.push {xs cs:List Value}{v':Value}(h:w.ownsRow B T k v n xs)(h2:∀i j,i<n->j<k->xs[i*k+j]?=some (f i j))(h3:w'.ownsRow B T k v' (n+1) (xs++cs))(hc:cs.length=k)(F:Nat->Nat->Value)(hF:∀i j,i<n->j<k->F i j=f i j)(hn:∀j,j<k->cs[j]?=some (F n j)):RecRow w' B T k v' (n+1) F:=by
 refine⟨xs++cs,h3,λi j hi hj=>?_⟩;have hl:=h.1
 by_cases e:i=n
 · subst e;rw[List.getElem?_append_right (by omega),hl];rw[show i*k+j - i*k=j by omega];exact hn j hj
 · have:=rec_lt (show i<n by omega) hj;rw[List.getElem?_append_left (by omega),h2 i j (by omega) hj,hF i j (by omega) hj]
theorem RecRow.congr (h:RecRow w B T k v n f){F:Nat->Nat->Value}(hF:∀i j,i<n->j<k->F i j=f i j):RecRow w B T k v n F:=by
 obtain⟨xs,h1,h2⟩:=h;exact⟨xs,h1,λi j hi hj=>by rw[h2 i j hi hj,hF i j hi hj]⟩
end
structure TyR where
 th:TypeId
 an:TypeId
 op:TypeId
 h1:th≠an
 h2:op≠th
 h3:op≠an
def ansVs:List Ans->List Value->List Value
 |a::l,v::vs=>.bool a.ok::.int .i64 a.n::v::ansVs l vs
 |_,_=>[]
theorem ansVs_snoc:∀{l:List Ans}{vs:List Value},vs.length=l.length->∀(a:Ans)(v:Value),ansVs (l++[a]) (vs++[v])=ansVs l vs++[.bool a.ok,.int .i64 a.n,v]
 |[],[],_,_,_=>rfl
 |b::l,u::vs,h,a,v=>by
  show .bool b.ok::.int .i64 b.n::u::ansVs (l++[a]) (vs++[v])=_;rw[ansVs_snoc (by simpa using h)];rfl
 |[],v::vs,h,_,_=>by simp at h
 |a::l,[],h,_,_=>by simp at h
theorem ansVs_get:∀{l:List Ans}{vs:List Value},vs.length=l.length->∀{i:Nat}{a:Ans}{v:Value},l[i]?=some a->vs[i]?=some v->(ansVs l vs)[i*3]?=some (.bool a.ok)/\(ansVs l vs)[i*3+1]?=some (.int .i64 a.n)/\(ansVs l vs)[i*3+2]?=some v
 |[],[],_,i,a,v,h,_=>by simp at h
 |b::l,u::vs,hl,i,a,v,h1,h2=>by
  cases i with
  |zero=>simp at h1 h2;subst h1 h2;exact⟨rfl,rfl,rfl⟩
  |succ i=>
   have:=ansVs_get (l:=l) (vs:=vs) (by simpa using hl) (i:=i) (a:=a) (v:=v) (by simpa using h1) (by simpa using h2);rw[show(i+1)*3=i*3+1+1+1 by omega];exact this
 |[],v::vs,h,_,_,_,_,_=>by simp at h
 |a::l,[],h,_,_,_,_,_=>by simp at h
def thC(opv:Value)(t:RTh)(av:Value):Array Value:=#[opv,.int .i64 t.at',.int .i64 t.pc,.int .i64 (t.n 0),.int .i64 (t.n 1),.int .i64 (t.n 2),.int .i64 (t.n 3),.int .i64 (t.n 4),.int .i64 (t.n 5),.int .i64 (t.n 6),.int .i64 (t.n 7),.slice none 0 0,av,.bool t.en]
structure OpsR(Y:TyR)(w:World)(B:Nat)(opv:Value)(ops:List OpX):Prop where
 row:w.ownsRow B Y.op 4 opv ops.length (ops.flatMap OpX.cells)
theorem OpsR.cell {Y:TyR}{w:World}{B:Nat}{opv:Value}{ops:List OpX}(h:OpsR Y w B opv ops):∃p C,opv=.slice p ops.length C/\(ops≠[]->∃g,p=some ⟨g,0,none⟩/\∀k op,ops[k]?=some op->w.cell? ⟨g,k*4,none⟩=some (.int .i64 op.k)/\w.cell? ⟨g,k*4+1,none⟩=some (.int .i64 op.a)/\w.cell? ⟨g,k*4+2,none⟩=some (.int .i64 op.b)/\w.cell? ⟨g,k*4+3,none⟩=some (.int .i64 op.c)):=by
 have key:∀(l:List OpX)(k:Nat)(op:OpX),l[k]?=some op->(l.flatMap OpX.cells)[k*4]?=some (.int .i64 op.k)/\(l.flatMap OpX.cells)[k*4+1]?=some (.int .i64 op.a)/\(l.flatMap OpX.cells)[k*4+2]?=some (.int .i64 op.b)/\(l.flatMap OpX.cells)[k*4+3]?=some (.int .i64 op.c):=by
  intro l
  induction l with
  |nil=>intro k op h;simp at h
  |cons o l ih=>
   intro k op h;cases k with
   |zero=>simp at h;subst h;exact⟨rfl,rfl,rfl,rfl⟩
   |succ k=>
    have:=ih k op (by simpa using h);rw[show(k+1)*4=k*4+1+1+1+1 by omega];exact this
 rcases h.row.2 with⟨hv,h0⟩|⟨g,cap,cur,hv,hb,hg,h1,h2,h3,h4⟩
 · have:ops=[]:=List.length_eq_zero_iff.1 h0;subst this;exact⟨none,0,hv,λx=>absurd rfl x⟩
 · refine⟨_,cap,hv,λ_=>⟨g,rfl,λk op hk=>?_⟩⟩;have hlt:=(List.getElem?_eq_some_iff.1 hk).1;have hcell:∀j x,j<ops.length*4->(ops.flatMap OpX.cells)[j]?=some x->w.cell? ⟨g,j,none⟩=some x:=λj x hj hx=>by
    rw[zq0 hg];rw[←h4,List.getElem?_take,if_pos (by omega)]at hx;simpa using hx
   obtain⟨k0,k1,k2,k3⟩:=key ops k op hk;exact⟨hcell _ _ (by omega) k0,hcell _ _ (by omega) k1,hcell _ _ (by omega) k2,hcell _ _ (by omega) k3⟩
structure ThRep(Y:TyR)(B tb:Nat)(opv:Value)(ops:List OpX)(t:RTh)(lvs:List Value)(av:Value)(w:World):Prop where
 blk:w.heap[tb]?=some (.cells (thC opv t av) Y.th)
 row:w.ownsRow B Y.an 3 av t.ans.length (ansVs t.ans lvs)
 llen:lvs.length=t.ans.length
 ops:OpsR Y w B opv ops
 lo:B<=tb
structure KeepT(tb:Nat)(av:Value)(w w':World):Prop where
 size:w.heap.size<=w'.heap.size
 old:∀b,b<w.heap.size->b≠tb->av.ownBlock≠some b->w'.heap[b]?=w.heap[b]?
def SameOr(av av':Value)(w:World):Prop:=∀g,av'.ownBlock=some g->av.ownBlock=some g\/w.heap.size<=g
section
variable {Y:TyR} {B tb:Nat} {opv:Value} {ops:List OpX} {t:RTh} {lvs:List Value} {av:Value} {w w':World}
theorem KeepT.refl (tb:Nat)(av:Value)(w:World):KeepT tb av w w:=⟨Nat.le_refl _,λ_ _ _ _=>rfl⟩
theorem KeepT.drew (tb:Nat)(av:Value)(w:World)(n:Nat):KeepT tb av w (w.drewN n):=⟨Nat.le_refl _,λ_ _ _ _=>rfl⟩
theorem KeepT.trans {av':Value}{w'':World}(h:KeepT tb av w w')(hs:SameOr av av' w)(k:KeepT tb av' w' w''):KeepT tb av w w'':=
 ⟨Nat.le_trans h.size k.size,λb hb h1 h2=>(k.old b (Nat.lt_of_lt_of_le hb h.size) h1 λe=>(hs b e).elim h2 λx=>by omega).trans (h.old b hb h1 h2)⟩
theorem SameOr.refl (av:Value)(w:World):SameOr av av w:=λ_ h=>.inl h
theorem SameOr.trans {a b c:Value}(h:SameOr a b w)(hs:w.heap.size<=w'.heap.size)(k:SameOr b c w'):SameOr a c w:=λg hg=>(k g hg).elim (h g) λx=>.inr (by omega)
theorem ThRep.oblk (h:ThRep Y B tb opv ops t lvs av w){g:Nat}(hg:opv.ownBlock=some g):g≠tb/\av.ownBlock≠some g:=by
 obtain⟨⟨c,hc⟩,_⟩:=own_lt h.ops.row hg;exact⟨λe=>by rw[e]at hc;exact Y.h2 (heap_type hc h.blk),own_ne h.row hc Y.h3.symm⟩
theorem ThRep.ablk (h:ThRep Y B tb opv ops t lvs av w):av.ownBlock≠some tb:=own_ne h.row h.blk Y.h1.symm
theorem ThRep.frame (h:ThRep Y B tb opv ops t lvs av w)(hb:w'.heap[tb]?=w.heap[tb]?)(ha:∀g,av.ownBlock=some g->w'.heap[g]?=w.heap[g]?)(ho:∀g,opv.ownBlock=some g->w'.heap[g]?=w.heap[g]?):ThRep Y B tb opv ops t lvs av w':=
 ⟨hb.trans h.blk,ownsRow_of h.row ha,h.llen,⟨ownsRow_of h.ops.row ho⟩,h.lo⟩
theorem ThRep.more (h:ThRep Y B tb opv ops t lvs av w)(hs:∀b,b<w.heap.size->w'.heap[b]?=w.heap[b]?):ThRep Y B tb opv ops t lvs av w':=
 h.frame (hs _ (zq7 h.blk)) (λg hg=>hs g (own_lt h.row hg).2.2) (λg hg=>hs g (own_lt h.ops.row hg).2.2)
theorem ThRep.set (h:ThRep Y B tb opv ops t lvs av w){t':RTh}(j:Nat)(x:Value)(ha:t'.ans=t.ans)(hc:(thC opv t av).setIfInBounds j x=thC opv t' av):ThRep Y B tb opv ops t' lvs av (w.setCell ⟨tb,j,none⟩ x):=by
 refine⟨?_,?_,by rw[ha];exact h.llen,⟨ownsRow_of h.ops.row λg hg=>zq8 _ _ _ _ (h.oblk hg).1⟩,h.lo⟩
 · rw[zqa _ _ _ _ h.blk,hc]
 · rw[ha];exact ownsRow_of h.row λg hg=>zq8 _ _ _ _ λe=>h.ablk (by rw[hg,show g=tb from e])
theorem KeepT.set (tb j:Nat)(av x:Value)(w:World):KeepT tb av w (w.setCell ⟨tb,j,none⟩ x):=⟨by rw[zqb];exact Nat.le_refl _,λb _ hb _=>zq8 _ _ _ _ hb⟩
theorem ThRep.push {W w2:World}{g cap:Nat}{a:Ans}{lv:Value}(h:ThRep Y B tb opv ops t lvs av w)(hW:∀b,b<w.heap.size->W.heap[b]?=w.heap[b]?)(hWs:w.heap.size<=W.heap.size)
 (hrow:w2.ownsRow B Y.an 3 (.slice (some ⟨g,0,none⟩) (t.ans.length+1) cap) (t.ans.length+1) (ansVs t.ans lvs++[.bool a.ok,.int .i64 a.n,lv])) (hgr:W.grownBy w2 av.ownBlock) (hat:av.ownBlock=some g\/w.heap.size<=g):
 ThRep Y B tb opv ops {t with ans:=t.ans++[a]} (lvs++[lv]) (.slice (some ⟨g,0,none⟩) (t.ans.length+1) cap) (w2.setCell ⟨tb,12,none⟩ (.slice (some ⟨g,0,none⟩) (t.ans.length+1) cap))/\
  KeepT tb av w (w2.setCell ⟨tb,12,none⟩ (.slice (some ⟨g,0,none⟩) (t.ans.length+1) cap))/\SameOr av (.slice (some ⟨g,0,none⟩) (t.ans.length+1) cap) w:=by
 have keep:∀b,b<w.heap.size->av.ownBlock≠some b->w2.heap[b]?=w.heap[b]?:=λb hb hn=>(hgr.block b (by omega) λe=>hn e.symm).trans (hW b hb);have hb2:w2.heap[tb]?=some (.cells (thC opv t av) Y.th):=(keep tb (zq7 h.blk) h.ablk).trans h.blk;refine⟨⟨?_,?_,by simp[h.llen],⟨ownsRow_of h.ops.row λq hq=>?_⟩,h.lo⟩,⟨?_,λb hb h1 h2=>?_⟩,λq hq=>?_⟩
 · rw[zqa _ _ _ _ hb2];rfl
 · show(w2.setCell _ _).ownsRow B Y.an 3 _ (t.ans++[a]).length (ansVs (t.ans++[a]) (lvs++[lv]));rw[ansVs_snoc h.llen,List.length_append];refine ownsRow_of hrow λq hq=>zq8 _ _ _ _ λe=>?_;obtain⟨⟨c,hc⟩,_⟩:=own_lt hrow hq;rw[show q=tb from e,hb2]at hc;simp only[al_oi,Obj.cells.injEq]at hc;exact Y.h1 hc.2.1
 · obtain⟨k1,k2⟩:=h.oblk hq;rw[zq8 _ _ _ _ k1];exact keep q (own_lt h.ops.row hq).2.2 k2
 · rw[zqb];have:=hgr.size;omega
 · rw[zq8 _ _ _ _ h1];exact keep b hb h2
 · simp only[Value.ownBlock,al_oi]at hq;subst hq;exact hat
end
end Go.Car
set_option maxHeartbeats 4000000
set_option maxRecDepth 100000
namespace Go.Proofs
open Go Go.Conc Go.RowKit Go.Car
def tyR:TyR:=⟨174,49,34,by decide,by decide,by decide⟩
theorem rheld_lone(n low high:Int)(w:World):Calls Try.prog 38 #[.int .i64 n,.int .i64 low,.int .i64 high] w λe w'=>e=.returned (.int .i64 (if n<low then low else if n>high then high else n))/\w'=w:=by
 by_cases h1:n<low
 · rw[if_pos h1]
   go_enter Try.func38,Try.ntmps38
   go_wp2;go_ret;exact⟨rfl,rfl⟩
 · rw[if_neg h1]
   by_cases h2:n>high
   · rw[if_pos h2]
     go_enter Try.func38,Try.ntmps38
     go_wp2;go_ret;exact⟨rfl,rfl⟩
   · rw[if_neg h2]
     go_enter Try.func38,Try.ntmps38
     go_wp2;go_ret;exact⟨rfl,rfl⟩
theorem rtries_lone(c:Int)(w:World):Calls Try.prog 68 #[.int .i64 c] w λe w'=>e=.returned (.int .i64 (triesR c))/\w'=w:=by
 have H:RowKit.Hid (Calls Try.prog 38 #[.int .i64 c,.int .i64 1,.int .i64 1024] w λe w'=>e=.returned (.int .i64 (triesR c))/\w'=w):=Lib.hid (rheld_lone c 1 1024 w);generalize triesR c=q at H ⊢
 go_enter Try.func68,Try.ntmps68
 go_wp2_with (fail)
 refine Calls.mono H.out ?_;rintro e w' ⟨rfl,rfl⟩;go_wp2;go_ret;exact⟨rfl,rfl⟩
section
variable {B tb:Nat} {opv:Value} {ops:List OpX} {t:RTh} {lvs:List Value} {av:Value} {w:World}
theorem rop_lone(h:ThRep tyR B tb opv ops t lvs av w){op:OpX}(hop:ops[t.at']?=some op)(hl:ops.length<=4611686018427387904):
 Calls Try.prog 66 #[.pointer (some ⟨tb,0,none⟩)] w λe w'=>e=.returned op.val/\Ext w w':=by
 obtain⟨p,C,rfl,hg⟩:=h.ops.cell;have hne:ops≠[]:=λe=>by rw[e]at hop;simp at hop
 obtain⟨g,rfl,hc⟩:=hg hne;obtain⟨o0,o1,o2,o3⟩:=hc _ op hop;have hlt:=(List.getElem?_eq_some_iff.1 hop).1;obtain⟨a,ha⟩:∃a,t.at'=a:=⟨_,rfl⟩;obtain⟨L,hL⟩:∃L,ops.length=L:=⟨_,rfl⟩;have b0:=h.blk;unfold thC at b0;rw[ha]at o0 o1 o2 o3 hlt b0;rw[hL]at hlt b0 hl;have ha0:(0:Int)<=(a:Int):=by omega
 have haL:(a:Int)<(L:Int):=by omega
 have c0:w.cell? ⟨tb,0,none⟩=some (.slice (some ⟨g,0,none⟩) L C):=(zq0 b0).trans rfl;have c1:w.cell? ⟨tb,1,none⟩=some (.int .i64 a):=(zq0 b0).trans rfl;unfold OpX.val;obtain⟨Z,hZ⟩:∃Z,w.heap.size=Z:=⟨_,rfl⟩;obtain⟨wa,hwa⟩:∃wa,w.alloc (.cells #[.int .i64 0,.int .i64 0,.int .i64 0,.int .i64 0] 34)=wa:=⟨_,rfl⟩;have key:∀b o,w.heap[b]?=some o->wa.heap[b]?=some o:=λb o hb=>by rw[←hwa];exact al_old hb
 have kc:∀{q:Addr}{v:Value},w.cell? q=some v->wa.cell? q=some v:=λ{q v}hq=>(zqc (by rw[←hwa,zq5,if_neg (by have:=cell_lt hq;omega)])).trans hq
 have hn:=al_new w (.cells #[.int .i64 0,.int .i64 0,.int .i64 0,.int .i64 0] 34);rw[hwa,hZ]at hn;replace o0:=kc o0;replace o1:=kc o1;replace o2:=kc o2;replace o3:=kc o3;replace c0:=kc c0;replace c1:=kc c1;have z0:=zq6 (off:=0) hn;have z1:=zq6 (off:=1) hn;have z2:=zq6 (off:=2) hn;have z3:=zq6 (off:=3) hn;have y0:wa.cell? ⟨Z,0,none⟩=some (.int .i64 0):=(zq0 hn).trans rfl;have y1:wa.cell? ⟨Z,1,none⟩=some (.int .i64 0):=(zq0 hn).trans rfl;have y2:wa.cell? ⟨Z,2,none⟩=some (.int .i64 0):=(zq0 hn).trans rfl;have y3:wa.cell? ⟨Z,3,none⟩=some (.int .i64 0):=(zq0 hn).trans rfl;have HN:=Lib.hid hn;have HW:=Lib.hid hwa;have HZ:=Lib.hid hZ;clear key kc b0 h hg hc hop hne ha hL hl hn hwa
 go_enter Try.func66,Try.ntmps66
 go_wp2_with (fail)
 rw[HW.out]
 try rw[HZ.out]
 refine wp_region_pre (k:=10) (C:=λw'=>∃n,w'=wa.drewN n) (by kernel_rfl) (by kernel_rfl) (by kernel_rfl) (by kernel_rfl) (by kernel_rfl) ⟨1,rfl⟩ ?_;simp only[List.take_succ_cons,List.take_zero]
 repeat (quiet_step (fail))
 refine wpQuiet_nil ?_;rintro w' ⟨nq,rfl⟩;refine wpAny_one (i:=10) (by kernel_rfl) ?_;simp only[wpOp,al_gl,al_g0,al_g1];rw[if_pos (by rfl)];refine .inl ?_;have hcl:∀q,(wa.drewN nq).cell? q=wa.cell? q:=λq=>rfl;have hfl:∀q,(wa.drewN nq).frozen? q=wa.frozen? q:=λq=>rfl;rw[←hcl]at y0 y1 y2 y3;rw[←hfl]at z0 z1 z2 z3;clear hcl hfl o0 o1 o2 o3 c0 c1;go_simp;refine wpAny_end (by kernel_rfl) ?_;go_wp2;clear y0 y1 y2 y3 z0 z1 z2 z3;have b1:=zqa (wa.drewN nq) Z 0 (.int .i64 op.k) HN.out;have b2:=zqa _ Z 1 (.int .i64 op.a) b1;have b3:=zqa _ Z 2 (.int .i64 op.b) b2;have b4:=zqa _ Z 3 (.int .i64 op.c) b3;have hx:Ext w (((((wa.drewN nq).setCell ⟨Z,0,none⟩ (.int .i64 op.k)).setCell ⟨Z,1,none⟩ (.int .i64 op.a)).setCell ⟨Z,2,none⟩ (.int .i64 op.b)).setCell ⟨Z,3,none⟩ (.int .i64 op.c)):=by
  have hz:=HZ.out;refine⟨by simp only[zqb];show _<=wa.heap.size;rw[←HW.out,zq3];omega,λb hb=>?_⟩;have hne:b≠Z:=by omega
  rw[zq8 _ _ _ _ hne,zq8 _ _ _ _ hne,zq8 _ _ _ _ hne,zq8 _ _ _ _ hne];show wa.heap[b]?=_;rw[←HW.out,zq5,if_neg (by omega)]
 generalize ((((wa.drewN nq).setCell ⟨Z,0,none⟩ (.int .i64 op.k)).setCell ⟨Z,1,none⟩ (.int .i64 op.a)).setCell ⟨Z,2,none⟩ (.int .i64 op.b)).setCell ⟨Z,3,none⟩ (.int .i64 op.c)=w8 at b4 hx ⊢;clear b1 b2 b3;have k0:=(zq0 (off:=0) b4).trans rfl;have k1:=(zq0 (off:=1) b4).trans rfl;have k2:=(zq0 (off:=2) b4).trans rfl;have k3:=(zq0 (off:=3) b4).trans rfl;refine bodyPost_ret (v:=.agg #[.int .i64 op.k,.int .i64 op.a,.int .i64 op.b,.int .i64 op.c]) ?_ rfl ⟨rfl,hx⟩;simp only[results,Try.f66];simp[go_sem,k0,k1,k2,k3]
theorem rend_lone(h:ThRep tyR B tb opv ops t lvs av w)(hB:B<=w.heap.size)(hl:t.ans.length<=1048576)(hat:t.at'<=1048576)(a:Ans)(lp:Option Addr)(ln lc:Nat):
 Calls Try.prog 67 #[.pointer (some ⟨tb,0,none⟩),.agg #[.bool a.ok,.int .i64 a.n,.slice lp ln lc]] w λe w'=>e=.returned (.tuple #[])/\∃av',ThRep tyR B tb opv ops (t.fin a) (lvs++[.slice lp ln lc]) av' w'/\KeepT tb av w w'/\SameOr av av' w:=by
 obtain⟨pa,Ca,rfl,-,-⟩:=own_slice h.row;obtain⟨La,hLa⟩:∃x,t.ans.length=x:=⟨_,rfl⟩;obtain⟨H,hH⟩:∃H,w.heap.size=H:=⟨_,rfl⟩;have hb:=h.blk;have htb:tb<H:=by rw[←hH];exact zq7 hb
 unfold thC at hb;have c12:∀o:Obj,(w.alloc o).cell? ⟨tb,12,none⟩=some (.slice pa t.ans.length Ca):=λo=>(zq0 (al_old (o:=o) hb)).trans rfl;have c12b:∀o o2:Obj,((w.alloc o).alloc o2).cell? ⟨tb,12,none⟩=some (.slice pa t.ans.length Ca):=λo o2=>(zq0 (al_old (o:=o2) (al_old (o:=o) hb))).trans rfl;rw[hLa]at c12 c12b;have hrow:∀o o2:Obj,((w.alloc o).alloc o2).ownsRow B 49 3 (.slice pa La Ca) La (ansVs t.ans lvs):=λo o2=>by rw[←hLa];exact row_allocK (row_allocK h.row _) _
 have hnw:∀jj u,[Value.bool a.ok,.int .i64 a.n,.slice lp ln lc][jj]?=some u->((w.alloc (.cells #[.bool a.ok,.int .i64 a.n,.slice lp ln lc] 49)).alloc (.cells #[.bool a.ok,.int .i64 a.n,.slice lp ln lc] 49)).drew.cell? ((⟨H+1,0,none⟩:Addr).add jj)=some u:=λjj u hj=>news_new (w:=w.alloc (.cells #[.bool a.ok,.int .i64 a.n,.slice lp ln lc] 49)) (cs:=#[.bool a.ok,.int .i64 a.n,.slice lp ln lc]) (T:=49) (B:=H+1) (by rw[zq3,hH]) jj u hj;have hvk:∀w2,(((w.alloc (.cells #[.bool a.ok,.int .i64 a.n,.slice lp ln lc] 49)).alloc (.cells #[.bool a.ok,.int .i64 a.n,.slice lp ln lc] 49)).drew).grownBy w2 (Value.slice pa La Ca).ownBlock->w2.heap[tb]?=some (.cells (thC opv t (.slice pa La Ca)) 174):=λw2 hg=>by
  have h1:=al_old (o:=(.cells #[.bool a.ok,.int .i64 a.n,.slice lp ln lc] 49)) (al_old (o:=(.cells #[.bool a.ok,.int .i64 a.n,.slice lp ln lc] 49)) h.blk);rw[hLa]at h1;have hr:=h.row;rw[hLa]at hr;exact(hg.block tb (zq7 h1) (λe=>own_ne hr h.blk (by decide) e.symm)).trans h1
 obtain⟨ti,hti,hz,hz1,hz2⟩:∃ti,Try.prog.info? 49=some ti/\ti.zero=some (.agg #[.bool false,.int .i64 0,.slice none 0 0])/\ti.size=3/\ti.bytes=40:=⟨_,rfl,rfl,rfl,rfl⟩;have hund:Try.prog.underlying 47=some (.slice 49):=by kernel_rfl
 have HT:=Lib.hid (And.intro hti (And.intro hz (And.intro hz1 (And.intro hz2 hund))));have HX:=Lib.hid (And.intro hrow (And.intro hnw hvk));have HI:=Lib.hid (And.intro h (And.intro hLa (And.intro hl (And.intro hat (And.intro hB (And.intro hH htb))))));have HH:=Lib.hid hH;clear hti hz hz1 hz2 hund hrow hnw hvk hb h hLa hl hat hB htb
 go_enter Try.func67,Try.ntmps67
 go_wp2_with (fail)
 go_region_law (first
  |(refine step_append_lies _ rfl (.tmp 8) (.tmp 10) 47 rfl B 49 ti _ 3 40 HT.out.2.2.2.2 HT.out.1 HT.out.2.1 HT.out.2.2.1 HT.out.2.2.2.1 rfl (by decide) (.slice pa La Ca) La (ansVs t.ans lvs) rfl (HX.out.1 _ _) ⟨H+1,0,none⟩ 1 1 [.bool a.ok,.int .i64 a.n,.slice lp ln lc] rfl rfl HX.out.2.1 ?_ Nat.one_pos ?_ ?_ ?_ (H+2) ?_ ?_
    · intro u hu;simp only[List.mem_cons,List.not_mem_nil,or_false]at hu;rcases hu with rfl |rfl |rfl<;>rfl
    · have:=HI.out.2.1;have:=HI.out.2.2.1;simp only[maxLen];omega
    · have:=HI.out.2.1;have:=HI.out.2.2.1;omega
    · have:=HI.out.2.2.2.2.1;have:=HH.out;show _<=((w.alloc _).alloc _).heap.size;rw[zq3,zq3];omega
    · show((w.alloc _).alloc _).heap.size=_;rw[zq3,zq3,HH.out]
    intro g cap w2 k1 k2 k3 k4;have HK:=Lib.hid (And.intro k1 (And.intro k2 k3));have cS:w2.cell? ⟨tb,12,none⟩=some (.slice pa La Ca):=(zq0 (HX.out.2.2 _ k2)).trans rfl;have fS:=zq6 (off:=12) (HX.out.2.2 _ k2);clear k1 k2 k3 k4))
 all_goals(
  obtain⟨h,hLa,hl,hat,hB,_,htb⟩:=HI.out;subst hLa;have hP:=h.push (W:=((w.alloc (.cells #[.bool a.ok,.int .i64 a.n,.slice lp ln lc] 49)).alloc (.cells #[.bool a.ok,.int .i64 a.n,.slice lp ln lc] 49)).drew) (a:=a) (lv:=.slice lp ln lc) (λb hb=>(zq5 _ _ _).trans ((if_neg (by rw[zq3];omega)).trans ((zq5 _ _ _).trans (if_neg (by omega))))) (by show _<=((w.alloc _).alloc _).heap.size;rw[zq3,zq3];omega) HK.out.1 HK.out.2.1 (by rcases HK.out.2.2 with e|e;exact .inl e;right;have:=HH.out;omega);clear h c12 c12b HX HT HI hH cS fS;generalize (w2.setCell ⟨tb,12,none⟩ (.slice (some ⟨g,0,none⟩) (t.ans.length+1) cap))=w3 at hP ⊢;obtain⟨hT,hK,hS⟩:=hP;have hb:=hT.blk;unfold thC at hb;have c1:w3.cell? ⟨tb,1,none⟩=some (.int .i64 t.at'):=(zq0 hb).trans rfl;have c2:w3.cell? ⟨tb,2,none⟩=some (.int .i64 t.pc):=(zq0 hb).trans rfl;have c11:w3.cell? ⟨tb,11,none⟩=some (.slice none 0 0):=(zq0 hb).trans rfl;have f1:=zq6 (off:=1) hb;have f2:=zq6 (off:=2) hb;have f11:=zq6 (off:=11) hb;have e3:IntKind.i64.wrap ((t.at':Int)+1)=((t.at'+1:Nat):Int):=by rw[IntWalk.i64_in _ (by omega)];omega
  have HTT:=Lib.hid (And.intro hT (And.intro hK hS));clear hT hK hS hb hl hat hB htb HK;go_wp2
  go_end0
  have h1:=HTT.out.1.set (t':={t with ans:=t.ans++[a],at':=t.at'+1}) 1 (.int .i64 ((t.at'+1:Nat):Int)) rfl rfl;have h2:=h1.set (t':={t with ans:=t.ans++[a],at':=t.at'+1,pc:=0}) 2 (.int .i64 0) rfl rfl;have h3:=h2.set (t':=t.fin a) 11 (.slice none 0 0) rfl rfl;exact⟨rfl,_,h3,((HTT.out.2.1.trans HTT.out.2.2 (KeepT.set tb 1 _ _ w3)).trans HTT.out.2.2 (KeepT.set tb 2 _ _ _)).trans HTT.out.2.2 (KeepT.set tb 11 _ _ _),HTT.out.2.2⟩)
end
end Go.Proofs
