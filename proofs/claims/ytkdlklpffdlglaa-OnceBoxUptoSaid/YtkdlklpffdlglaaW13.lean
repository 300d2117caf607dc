/- YtkdlklpffdlglaaBox15: part 13 of the proof (the texts behind it, in order). -/
import Derived.Test.YtkdlklpffdlglaaW12
set_option maxHeartbeats 4000000
set_option maxRecDepth 100000
set_option linter.all false
namespace Go.Proofs
open Go Go.Conc Go.RowKit Go.Car
theorem R5.eq {n:Nat}{T₀ T:Array Value}{w w':World}{f:Nat->Nat}(H:R5 n T₀ w f (λ_=>true) T w')(hsz:T₀.size=127):
 T=(((((T₀.setIfInBounds 24 (.int .i64 n)).setIfInBounds 25 (.slice (some ⟨f 1,0,none⟩) n n)).setIfInBounds 26 (.int .i64 n)).setIfInBounds 27 (.slice (some ⟨f 3,0,none⟩) n n)).setIfInBounds 7 (.pointer (some ⟨f 4,0,none⟩))).setIfInBounds 8 (.pointer (some ⟨f 5,0,none⟩)):=by
 apply Array.ext_getElem?;intro t;simp only[al_gs,al_gz,hsz]
 by_cases e8:8=t
 . subst e8;exact(H.a5 rfl).1
 by_cases e7:7=t
 . subst e7;exact(H.a4 rfl).1
 by_cases e27:27=t
 . subst e27;exact(H.a3 rfl).1
 by_cases e26:26=t
 . subst e26;exact H.a2 rfl
 by_cases e25:25=t
 . subst e25;exact(H.a1 rfl).1
 by_cases e24:24=t
 . subst e24;exact H.a0 rfl
 rw[if_neg e8,if_neg e7,if_neg e27,if_neg e26,if_neg e25,if_neg e24];exact H.out t (Ne.symm e24) (Ne.symm e25) (Ne.symm e26) (Ne.symm e27) (Ne.symm e7) (Ne.symm e8)
theorem zqb8(w:World):Calls Try.prog 19 #[] w λe w'=>e=.returned (.pointer (some ⟨w.heap.size,0,none⟩))/\w'=w.alloc (.cells #[.pointer none] 79):=by
 go_enter Try.func19,Try.ntmps19
 go_wp2;go_ret;exact⟨rfl,rfl⟩
def cloB(vb tb g1 w1 kb:Nat):Value:=.func (.func 20) #[] #[.pointer (some ⟨tb,0,none⟩),.pointer (some ⟨vb,0,none⟩),.pointer (some ⟨kb,0,none⟩),.pointer (some ⟨g1,0,none⟩),.pointer (some ⟨w1,0,none⟩)]
def clsB(vb tb g1 w1:Nat)(kb:Nat->Nat)(n:Nat):List Value:=(List.range n).map λi=>cloB vb tb g1 w1 (kb i)
structure BPre(W:World)(n:Nat)(vp:Option Addr)(vl vC:Nat)(vb bb tb g1 w1 gb wb:Nat)(kb:Nat->Nat)(j:Nat)(fv:Value)(w:World):Prop where
 be:Beyond W w
 hvb:w.heap[vb]?=some (.cells #[.slice vp vl vC] 59)
 hbb:w.heap[bb]?=some (.cells #[.pointer none] 79)
 htb:w.heap[tb]?=some (.cells #[.pointer (some ⟨bb,0,none⟩)] 60)
 hg1:w.heap[g1]?=some (.cells #[.slice (some ⟨gb,0,none⟩) n n] 59)
 hw1:w.heap[w1]?=some (.cells #[.slice (some ⟨wb,0,none⟩) n n] 62)
 hgb:w.heap[gb]?=some (.cells (gotA n λ_=>noStr) 9)
 hwb:w.heap[wb]?=some (.cells (wonA n λ_=>false) 4)
 lo:W.heap.size<=vb/\W.heap.size<=bb/\W.heap.size<=tb/\W.heap.size<=g1/\W.heap.size<=w1/\W.heap.size<=gb/\W.heap.size<=wb
 kbs:∀i,i<j->W.heap.size<=kb i/\w.heap[kb i]?=some (.cells #[.int .i64 i] 3)
 row:w.ownsRow W.heap.size 68 1 fv j (clsB vb tb g1 w1 kb j)
theorem BPre.of_heap {W:World}{n:Nat}{vp:Option Addr}{vl vC vb bb tb g1 w1 gb wb:Nat}{kb:Nat->Nat}{j:Nat}{fv:Value}{w w':World}(h:BPre W n vp vl vC vb bb tb g1 w1 gb wb kb j fv w)(e:w'.heap=w.heap):BPre W n vp vl vC vb bb tb g1 w1 gb wb kb j fv w':=
 ⟨⟨by rw[e];exact h.be.1,λb hb=>by rw[e];exact h.be.2 b hb⟩,by rw[e];exact h.hvb,by rw[e];exact h.hbb,by rw[e];exact h.htb,by rw[e];exact h.hg1,by rw[e];exact h.hw1,by rw[e];exact h.hgb,by rw[e];exact h.hwb,h.lo,λi hi=>by rw[e];exact h.kbs i hi,zq1x h.row λg _=>by rw[e]⟩
theorem BPre.next {W:World}{n:Nat}{vp:Option Addr}{vl vC vb bb tb g1 w1 gb wb:Nat}{kb:Nat->Nat}{j:Nat}{fv:Value}{wr wm w7:World}(h:BPre W n vp vl vC vb bb tb g1 w1 gb wb kb j fv wr){g7 cap7:Nat}(hm:wm.heap=(wr.alloc (.cells #[.int .i64 j] 3)).heap)
 (hown7:w7.ownsRow W.heap.size 68 1 (.slice (some ⟨g7,0,none⟩) (j+1) cap7) (j+1) (clsB vb tb g1 w1 kb j++[cloB vb tb g1 w1 wr.heap.size]))
 (hgrow7:(wm.alloc (.cells #[cloB vb tb g1 w1 wr.heap.size] 68)).grownBy w7 fv.ownBlock):
 BPre W n vp vl vC vb bb tb g1 w1 gb wb (λi=>if i=j then wr.heap.size else kb i) (j+1) (.slice (some ⟨g7,0,none⟩) (j+1) cap7) w7:=by
 have e1:wm.heap.size=wr.heap.size+1:=by rw[hm];simp only[zqd]
 have h7s:wr.heap.size+2<=w7.heap.size:=by have:=hgrow7.size;rw[zqd,e1]at this;omega
 have hnew:∀b o,wm.heap[b]?=some o->fv.ownBlock≠some b->w7.heap[b]?=some o:=λb o hb hne=>by
  have hlt:=zqe hb;rw[hgrow7.block b (by rw[zqd];omega) (λe=>hne e.symm)];exact zqf hb
 have hext:∀b o,wr.heap[b]?=some o->fv.ownBlock≠some b->w7.heap[b]?=some o:=λb o hb hne=>hnew b o (by rw[hm];exact zqf hb) hne;have hlow:∀b,b<W.heap.size->fv.ownBlock≠some b:=λb hb e=>by have:=(own_lt h.row e).2.1;omega
 have hfar:∀b c T f,wr.heap[b]?=some (.cells c T f)->T≠68->fv.ownBlock≠some b:=λb c T f hb hT=>zq3h h.row hb (λe=>hT e.symm);have hbig:∀b,wr.heap.size<=b->fv.ownBlock≠some b:=λb hb e=>by have:=(own_lt h.row e).2.2;omega
 have hW:=h.be.1;refine⟨⟨by omega,λb hb=>?_⟩,hext _ _ h.hvb (hfar _ _ _ _ h.hvb (by decide)),hext _ _ h.hbb (hfar _ _ _ _ h.hbb (by decide)),hext _ _ h.htb (hfar _ _ _ _ h.htb (by decide)),hext _ _ h.hg1 (hfar _ _ _ _ h.hg1 (by decide)),hext _ _ h.hw1 (hfar _ _ _ _ h.hw1 (by decide)),hext _ _ h.hgb (hfar _ _ _ _ h.hgb (by decide)),hext _ _ h.hwb (hfar _ _ _ _ h.hwb (by decide)),h.lo,λi hi=>?_,?_⟩
 . have hbw:b<wr.heap.size:=by omega
   obtain⟨o,ho⟩:∃o,wr.heap[b]?=some o:=⟨_,Array.getElem?_eq_getElem hbw⟩;rw[hext b o ho (hlow b (by omega)),<-ho];exact h.be.2 b hb
 . by_cases e:i=j
   . simp only[e,if_true];refine⟨hW,hnew _ _ ?_ (hbig _ (Nat.le_refl _))⟩;rw[hm];exact zq12 _ _
   . simp only[e,if_false];have:=h.kbs i (by omega);exact⟨this.1,hext _ _ this.2 (hfar _ _ _ _ this.2 (by decide))⟩
 . unfold clsB;have:(λi=>cloB vb tb g1 w1 (if i=j then wr.heap.size else kb i))=λi=>if i=j then cloB vb tb g1 w1 wr.heap.size else cloB vb tb g1 w1 (kb i):=by funext i;split<;>rfl
   rw[this,zq7w];exact hown7
theorem zqdj{Fin:Machine->Trace->Prop}(hFin:Back Try.prog Fin){W:World}{vp sp:Option Addr}{vl vC sl sC n:Nat}(hn:n=min vl 6)(hvl:vl<=4611686018427387904)
 (hgo:∀vb bb tb g1 w1 gb wb kb fv y10 y30 y31 y32 y33 y34 y35 y36 w,BPre W n vp vl vC vb bb tb g1 w1 gb wb kb n fv w->J0 Try.prog Fin (1+2) (G ((bN 6).at ⟨#[.slice vp vl vC,.slice sp sl sC,.pointer (some ⟨vb,0,none⟩),undef,.bool false,.int .i64 n,.pointer (some ⟨tb,0,none⟩),.pointer (some ⟨g1,0,none⟩),.pointer (some ⟨w1,0,none⟩),fv,y10,undef,undef,undef,undef,undef,undef,undef,.bool true,.bool false,.slice vp vl vC,.int .i64 vl,.int .i64 n,.pointer (some ⟨bb,0,none⟩),.int .i64 n,.slice (some ⟨gb,0,none⟩) n n,.int .i64 n,.slice (some ⟨wb,0,none⟩) n n,.int .i64 n,.int .i64 n,y30,y31,y32,y33,y34,y35,y36,undef,undef,undef,undef,undef,undef,undef,undef,undef,undef,undef,undef,undef,undef,undef,undef,undef,undef,undef,undef,undef,undef,undef,undef,undef,undef,undef,undef,undef,undef,undef,undef,undef,undef,undef,undef,undef,undef,undef,undef,undef,undef,undef,undef,undef,undef,undef,undef,undef,undef,undef,undef,undef,undef,undef,undef,undef,undef,undef,undef,undef,undef,undef,undef,undef,undef,undef,undef,undef,undef,undef,undef,undef,undef,undef,undef,undef,undef,undef,undef,undef,undef,undef,undef,undef,undef,undef,undef,undef,undef],[]⟩ [.code (.seq (headC (obxT 7)) (.seq (headC (obxT 8)) (.seq (headC (obxT 9)) (.seq (headC (obxT 10)) (.seq (headC (obxT 11)) (obxT 12))))))]) []) w):
 J0 Try.prog Fin 1 (G (Frame.enter Try.prog 6 #[.slice vp vl vC,.slice sp sl sC] .normal) []) W:=by
 have hJ:=j0_JS hFin;have hC:=zq2i hFin;have e:Frame.enter Try.prog 6 #[.slice vp vl vC,.slice sp sl sC] .normal=(bN 6).at (zqk Try.f6 #[.slice vp vl vC,.slice sp sl sC]) [.code ((Try.f6.body).getD .skip)]:=by kernel_rfl
 have ea:zqk Try.f6 #[.slice vp vl vC,.slice sp sl sC]=⟨#[.slice vp vl vC,.slice sp sl sC,undef,undef,undef,undef,undef,undef,undef,undef,undef,undef,undef,undef,undef,undef,undef,undef,undef,undef,undef,undef,undef,undef,undef,undef,undef,undef,undef,undef,undef,undef,undef,undef,undef,undef,undef,undef,undef,undef,undef,undef,undef,undef,undef,undef,undef,undef,undef,undef,undef,undef,undef,undef,undef,undef,undef,undef,undef,undef,undef,undef,undef,undef,undef,undef,undef,undef,undef,undef,undef,undef,undef,undef,undef,undef,undef,undef,undef,undef,undef,undef,undef,undef,undef,undef,undef,undef,undef,undef,undef,undef,undef,undef,undef,undef,undef,undef,undef,undef,undef,undef,undef,undef,undef,undef,undef,undef,undef,undef,undef,undef,undef,undef,undef,undef,undef,undef,undef,undef,undef,undef,undef,undef,undef,undef,undef],[]⟩:=by kernel_rfl
 rw[e,ea,obx0];clear e ea;have HG:=Lib.hid hgo;clear hgo;have HN:=Lib.hid (And.intro hn hvl);clear hn hvl;refine hJ.ctl (s:=1) (λw=>stepG_seq) ?_;obtain⟨u_,hu_⟩:∃c,headC (obxT 0)=c:=⟨_,rfl⟩;have eu_:=hu_;rw[hu_];simp only[obxT,headC,tailN,Try.f6,al_od]at eu_;subst eu_;clear hu_;refine hJ.ctl (s:=1) (λw=>stepG_region) ?_;refine zqo (s:=1) (by first|decide |omega) hJ (zqn _) false (.inr rfl) 0 2 0 rfl rfl rfl (by rfl) ?_;intro τ d;simp only[List.drop_succ_cons,List.drop_zero,List.take_succ_cons,List.take_zero];have hb0:=Beyond.re W τ d;generalize re W τ d=w at hb0 |-;obtain⟨vb,hvb⟩:∃x,w.heap.size=x:=⟨_,rfl⟩;go_wp2;simp only[zqg];have hB:RowKit.Hid (Beyond W (w.alloc (.cells #[.slice vp vl vC] 59))/\W.heap.size<=vb/\(w.alloc (.cells #[.slice vp vl vC] 59)).heap[vb]?=some (.cells #[.slice vp vl vC] 59)):=Lib.hid ⟨hb0.trans (Beyond.alloc _ _),by rw[<-hvb];exact hb0.1,by rw[<-hvb];exact zq12 _ _⟩
 try rw[hvb]
 generalize w.alloc (.cells #[.slice vp vl vC] 59)=w at hB |-;clear hb0 hvb;refine hJ.ctl (s:=1) (λw=>stepG_region_end) ?_;refine hJ.ctl (s:=1) (λw=>stepG_seq) ?_;obtain⟨u_,hu_⟩:∃c,headC (obxT 1)=c:=⟨_,rfl⟩;have eu_:=hu_;rw[hu_];simp only[obxT,headC,tailN,Try.f6,al_od]at eu_;subst eu_;clear hu_;refine hJ.ctl (s:=1) (λw=>stepG_seq) ?_;refine hJ.ctl (s:=1) (λw=>stepG_region) ?_;refine zq1q (by decide) hJ (s:=1) rfl rfl (f:=9) (args:=#[]) (λτ d=>?_) (λτ d=>?_) ?_
 . simp[go_sem,execOp,Act.eval,resolve,Deferred.ofValue,invoke,callFunc,Try.func9,Try.f9]
 . intro e he;simp[go_sem,execOp,Act.eval,resolve,Deferred.ofValue,invoke,callFunc,Try.func9,Try.f9,Sem.runT_eq]at he
 refine zqew hFin (n:=1) (by decide) ?_;intro wA hb1;replace hB:RowKit.Hid (Beyond W wA/\W.heap.size<=vb/\wA.heap[vb]?=some (.cells #[.slice vp vl vC] 59)):=Lib.hid ⟨hB.out.1.trans hb1,hB.out.2.1,hb1.heap hB.out.2.2⟩;clear hb1;rw[Frame.finish_at]
 walk_nrm
 refine zqo (s:=1+2) (by first|decide |omega) hJ (zqn _) false (.inr rfl) 1 1 0 rfl rfl rfl (by rfl) ?_;intro τ d;simp only[List.drop_succ_cons,List.drop_zero,List.take_succ_cons,List.take_zero];go_wp2;simp only[zqg];refine hJ.re' (1+2) _ _ τ d ?_;refine hJ.ctl (s:=1+2) (λw=>stepG_region_end) ?_;refine hJ.ctl (s:=1+2) (λw=>stepG_cond (t:=false) rfl) ?_;rw[if_neg (by decide)];refine hJ.ctl (s:=1+2) (λw=>stepG_skip) ?_;refine hJ.ctl (s:=1+2) (λw=>stepG_seq) ?_;refine zq2t hJ hC zq20 (by kernel_rfl) (λt w'=>t=#[.slice vp vl vC,.slice sp sl sC,.pointer (some ⟨vb,0,none⟩),undef,.bool false,.int .i64 n,undef,undef,undef,undef,undef,undef,undef,undef,undef,undef,undef,undef,.bool true,.bool false,.slice vp vl vC,.int .i64 vl,.int .i64 n,undef,undef,undef,undef,undef,undef,undef,undef,undef,undef,undef,undef,undef,undef,undef,undef,undef,undef,undef,undef,undef,undef,undef,undef,undef,undef,undef,undef,undef,undef,undef,undef,undef,undef,undef,undef,undef,undef,undef,undef,undef,undef,undef,undef,undef,undef,undef,undef,undef,undef,undef,undef,undef,undef,undef,undef,undef,undef,undef,undef,undef,undef,undef,undef,undef,undef,undef,undef,undef,undef,undef,undef,undef,undef,undef,undef,undef,undef,undef,undef,undef,undef,undef,undef,undef,undef,undef,undef,undef,undef,undef,undef,undef,undef,undef,undef,undef,undef,undef,undef,undef,undef,undef,undef]/\∃τ d,w'=re wA τ d) (λt w' τ d h=>⟨h.1,by obtain⟨τ',d',rfl⟩:=h.2;exact⟨τ,d,by rw[re_re]⟩⟩) (by decide) (λτ d=>?_) ?_
 . obtain⟨u_,hu_⟩:∃c,headC (obxT 2)=c:=⟨_,rfl⟩;have eu_:=hu_;rw[hu_];simp only[obxT,headC,tailN,Try.f6,al_od]at eu_;subst eu_;clear hu_;have hB2:(re wA τ d).heap[vb]?=some (.cells #[.slice vp vl vC] 59):=hB.out.2.2;have c1:(re wA τ d).cell? ⟨vb,0,none⟩=some (.slice vp vl vC):=(zq0 (off:=0) hB2).trans rfl;have key:(vl<=6/\n=vl)\/(¬vl<=6/\n=6):=by have:=HN.out.1;omega
   clear hB2;rcases key with⟨hc,hN'⟩|⟨hc,hN'⟩
   . have hc':(vl:Int)<=6:=by omega
     subst hN';go_wp2;exact⟨rfl,rfl,τ,d,rfl⟩
   . have hc':¬(vl:Int)<=6:=by omega
     have hc2:(6:Int)<=(vl:Int):=by omega
     have hc3:¬(vl:Int)<6:=by omega
     subst hN';go_wp2;exact⟨rfl,rfl,τ,d,rfl⟩
 rintro t w' ⟨rfl,τ,d,rfl⟩;refine hJ.re' (1+2) _ _ τ d ?_;refine hJ.ctl (s:=1+2) (λw=>stepG_seq) ?_;obtain⟨u_,hu_⟩:∃c,headC (obxT 3)=c:=⟨_,rfl⟩;have eu_:=hu_;rw[hu_];simp only[obxT,headC,tailN,Try.f6,al_od]at eu_;subst eu_;clear hu_;refine hJ.ctl (s:=1+2) (λw=>stepG_region) ?_;refine zq1q (by decide) hJ (s:=1+2) rfl rfl (f:=19) (args:=#[]) (λτ d=>?_) (λτ d=>?_) ?_
 . simp[go_sem,execOp,Act.eval,resolve,Deferred.ofValue,invoke,callFunc,Try.func19,Try.f19]
 . intro e he;simp[go_sem,execOp,Act.eval,resolve,Deferred.ofValue,invoke,callFunc,Try.func19,Try.f19,Sem.runT_eq]at he
 refine zqaz (s:=1+2) hJ hC zq20 Try.func19 rfl (by kernel_rfl) (R:=λv w'=>v=.pointer (some ⟨wA.heap.size,0,none⟩)/\∃τ d,w'=re (wA.alloc (.cells #[.pointer none] 79)) τ d) (λv w' τ d h=>⟨h.1,by obtain⟨τ',d',rfl⟩:=h.2;exact⟨τ,d,by rw[re_re]⟩⟩) (λτ d=>?_) ?_
 . refine Calls.mono (zqb8 (re wA τ d)) ?_;rintro e w' ⟨rfl,rfl⟩;exact⟨_,rfl,rfl,τ,d,rfl⟩
 rintro v w' ⟨rfl,τ,d,rfl⟩;refine hJ.re' (1+2) _ _ τ d ?_;rw[Frame.finish_at]
 walk_nrm
 obtain⟨bb,hbb⟩:∃x,wA.heap.size=x:=⟨_,rfl⟩;have hB3:RowKit.Hid (Beyond W (wA.alloc (.cells #[.pointer none] 79))/\(W.heap.size<=vb/\W.heap.size<=bb)/\(wA.alloc (.cells #[.pointer none] 79)).heap[vb]?=some (.cells #[.slice vp vl vC] 59)/\(wA.alloc (.cells #[.pointer none] 79)).heap[bb]?=some (.cells #[.pointer none] 79)):=Lib.hid ⟨hB.out.1.trans (Beyond.alloc _ _),⟨hB.out.2.1,by rw[<-hbb];exact hB.out.1.1⟩,zqf hB.out.2.2,by rw[<-hbb];exact zq12 _ _⟩
 try rw[hbb]
 generalize wA.alloc (.cells #[.pointer none] 79)=wB at hB3 |-;clear hB hbb;refine zqo (s:=1+2) (by first|decide |omega) hJ (zqn _) false (.inr rfl) 1 2 0 rfl rfl rfl (by rfl) ?_;intro τ d;simp only[List.drop_succ_cons,List.drop_zero,List.take_succ_cons,List.take_zero];replace hB3:RowKit.Hid (Beyond W (re wB τ d)/\(W.heap.size<=vb/\W.heap.size<=bb)/\(re wB τ d).heap[vb]?=some (.cells #[.slice vp vl vC] 59)/\(re wB τ d).heap[bb]?=some (.cells #[.pointer none] 79)):=Lib.hid ⟨hB3.out.1.trans (Beyond.re wB τ d),hB3.out.2⟩;generalize re wB τ d=wB at hB3 |-;obtain⟨tb,htb⟩:∃x,wB.heap.size=x:=⟨_,rfl⟩;go_wp2;simp only[zqg];have hB4:RowKit.Hid (Beyond W (wB.alloc (.cells #[.pointer (some ⟨bb,0,none⟩)] 60))/\(W.heap.size<=vb/\W.heap.size<=bb/\W.heap.size<=tb)/\(wB.alloc (.cells #[.pointer (some ⟨bb,0,none⟩)] 60)).heap[vb]?=some (.cells #[.slice vp vl vC] 59)/\(wB.alloc (.cells #[.pointer (some ⟨bb,0,none⟩)] 60)).heap[bb]?=some (.cells #[.pointer none] 79)/\(wB.alloc (.cells #[.pointer (some ⟨bb,0,none⟩)] 60)).heap[tb]?=some (.cells #[.pointer (some ⟨bb,0,none⟩)] 60)):=Lib.hid ⟨hB3.out.1.trans (Beyond.alloc _ _),⟨hB3.out.2.1.1,hB3.out.2.1.2,by rw[<-htb];exact hB3.out.1.1⟩,zqf hB3.out.2.2.1,zqf hB3.out.2.2.2,by rw[<-htb];exact zq12 _ _⟩;generalize wB.alloc (.cells #[.pointer (some ⟨bb,0,none⟩)] 60)=wB at hB4 |-;clear hB3 htb;refine hJ.ctl (s:=1+2) (λw=>stepG_region_end) ?_;refine hJ.ctl (s:=1+2) (λw=>stepG_seq) ?_;refine bx_rows (s:=1+2) hJ (λ_=>rfl) (by decide) rfl rfl (n:=n) (by have:=HN.out.1;omega) ?_;intro f T wC HR5;have eT:=HR5.eq rfl;simp only[al_g2,List.set_cons_succ,List.set_cons_zero]at eT;subst eT;have hP:RowKit.Hid (BPre W n vp vl vC vb bb tb (f 4) (f 5) (f 1) (f 3) (λ_=>0) 0 (.slice none 0 0) wC):=by
  obtain⟨q1,q2,q3,q4,q5⟩:=hB4.out;have hk:∀b o,wB.heap[b]?=some o->wC.heap[b]?=some o:=λb o h=>(HR5.old b (zqe h)).trans h;have hs:=q1.1;refine Lib.hid ⟨⟨by have:=HR5.size;omega,λb hb=>(HR5.old b (by omega)).trans (q1.2 b hb)⟩,hk _ _ q3,hk _ _ q4,hk _ _ q5,(HR5.a6 rfl).1,(HR5.a7 rfl).1,(HR5.a1 rfl).2.2,(HR5.a3 rfl).2.2,⟨q2.1,q2.2.1,q2.2.2,by have:=(HR5.a4 rfl).2.1;omega,by have:=(HR5.a5 rfl).2.1;omega,by have:=(HR5.a1 rfl).2.1;omega,by have:=(HR5.a3 rfl).2.1;omega⟩,λi hi=>absurd hi (Nat.not_lt_zero _),World.ownsRow_nil _ _ _ _⟩
 clear HR5 hB4;obtain⟨g1,hg1⟩:∃x,f 4=x:=⟨_,rfl⟩;obtain⟨w1,hw1⟩:∃x,f 5=x:=⟨_,rfl⟩;obtain⟨gb,hgb⟩:∃x,f 1=x:=⟨_,rfl⟩;obtain⟨wb,hwb⟩:∃x,f 3=x:=⟨_,rfl⟩;rw[hg1,hw1,hgb,hwb]at hP |-;clear hg1 hw1 hgb hwb;refine hJ.ctl (s:=1+2) (λw=>stepG_seq) ?_;obtain⟨u_,hu_⟩:∃c,headC (obxT 5)=c:=⟨_,rfl⟩;have eu_:=hu_;rw[hu_];simp only[obxT,headC,tailN,Try.f6,al_od]at eu_;subst eu_;clear hu_;refine hJ.ctl (s:=1+2) (λw=>stepG_region) ?_;refine zqo (s:=1+2) (by first|decide |omega) hJ (zqn _) false (.inr rfl) 0 1 0 rfl rfl rfl (by rfl) ?_;intro τ d;simp only[List.drop_succ_cons,List.drop_zero,List.take_succ_cons,List.take_zero];go_wp2;simp only[zqg];refine hJ.re' (1+2) _ _ τ d ?_;refine hJ.ctl (s:=1+2) (λw=>stepG_region_end) ?_;refine hJ.ctl (s:=1+2) (λw=>stepG_seq) ?_;refine zq2t hJ hC zq20 (by kernel_rfl) (λt w'=>∃kb fv y10 y30 y31 y32 y33 y34 y35 y36,t=#[.slice vp vl vC,.slice sp sl sC,.pointer (some ⟨vb,0,none⟩),undef,.bool false,.int .i64 n,.pointer (some ⟨tb,0,none⟩),.pointer (some ⟨g1,0,none⟩),.pointer (some ⟨w1,0,none⟩),fv,y10,undef,undef,undef,undef,undef,undef,undef,.bool true,.bool false,.slice vp vl vC,.int .i64 vl,.int .i64 n,.pointer (some ⟨bb,0,none⟩),.int .i64 n,.slice (some ⟨gb,0,none⟩) n n,.int .i64 n,.slice (some ⟨wb,0,none⟩) n n,.int .i64 n,.int .i64 n,y30,y31,y32,y33,y34,y35,y36,undef,undef,undef,undef,undef,undef,undef,undef,undef,undef,undef,undef,undef,undef,undef,undef,undef,undef,undef,undef,undef,undef,undef,undef,undef,undef,undef,undef,undef,undef,undef,undef,undef,undef,undef,undef,undef,undef,undef,undef,undef,undef,undef,undef,undef,undef,undef,undef,undef,undef,undef,undef,undef,undef,undef,undef,undef,undef,undef,undef,undef,undef,undef,undef,undef,undef,undef,undef,undef,undef,undef,undef,undef,undef,undef,undef,undef,undef,undef,undef,undef,undef,undef,undef,undef,undef,undef,undef,undef,undef]/\BPre W n vp vl vC vb bb tb g1 w1 gb wb kb n fv w') (λt w' τ d h=>?_) (by decide) (λτ d=>?_) ?_
 . obtain⟨kb,fv,y10,y30,y31,y32,y33,y34,y35,y36,h1,h2⟩:=h;exact⟨kb,fv,y10,y30,y31,y32,y33,y34,y35,y36,h1,h2.of_heap rfl⟩
 . obtain⟨u_,hu_⟩:∃c,headC (obxT 6)=c:=⟨_,rfl⟩;have eu_:=hu_;rw[hu_];simp only[obxT,headC,tailN,Try.f6,al_od]at eu_;subst eu_;clear hu_;have hP2:RowKit.Hid (BPre W n vp vl vC vb bb tb g1 w1 gb wb (λ_=>0) 0 (.slice none 0 0) (re wC τ d)):=Lib.hid (hP.out.of_heap rfl);generalize re wC τ d=w2 at hP2 |-;clear hP HG
   go_wp2_with (fail)
   go_loopg [9,29] n (λk t i wr=>∃(jj:Nat)(kb:Nat->Nat)(fv:Value),fv=t/\k=n - jj/\jj<=n/\i=.int .i64 jj/\BPre W n vp vl vC vb bb tb g1 w1 gb wb kb jj fv wr)
   case atStart=>exact⟨0,_,_,rfl,rfl,Nat.zero_le _,rfl,hP2.out⟩
   case round=>
    obtain⟨jj,kb,fv,hfv,hk,hj,rfl,hR⟩:=hrel;subst hfv;have HR:=Lib.hid hR;clear hR
    by_cases hlt:jj<n
    . have hlt':(jj:Int)<(n:Int):=by omega
      have hj0:(0:Int)<=jj:=by omega
      obtain⟨tj,htj,hy0,hy1,hy2⟩:∃ti,Try.prog.info? 68=some ti/\ti.zero=some .nilFunc/\ti.size=1/\ti.bytes=8:=⟨_,rfl,rfl,rfl,rfl⟩;have TJ:=Lib.hid (And.intro htj (And.intro hy0 (And.intro hy1 hy2)));clear htj hy0 hy1 hy2;have HRW:=Lib.hid (zq31 HR.out.row (.cells #[.int .i64 jj] 3));have hn6:n<=6:=by have:=HN.out.1;omega
      have HJ:=Lib.hid (And.intro hlt (And.intro hn6 HR.out.be.1));clear hlt hn6
      go_wp2_with (at_builtin;go_loud (refine wpList_append_lies _ rfl (.tmp 32) (.tmp 34) 63 rfl W.heap.size 68 tj .nilFunc 1 8 (by kernel_rfl) TJ.out.1 TJ.out.2.1 TJ.out.2.2.1 TJ.out.2.2.2 rfl (by decide) _ jj (clsB vb tb g1 w1 kb jj) rfl (zq31 HRW.out _) _ 1 1 [cloB vb tb g1 w1 wr.heap.size] rfl rfl (zq4u (zqd _ _)) (by simp[Value.oneCell',cloB]) (by decide) (by simp only[maxLen];have:=HJ.out.2.1;have:=HJ.out.1;omega) (by have:=HJ.out.2.1;have:=HJ.out.1;omega) (by rw[zqd,zqd];have:=HJ.out.2.2;omega) _ rfl ?next))
      case next=>
       intro g7 cap7 w7 hown7 hgrow7 hat7 hlt7;have L7:=Lib.hid (And.intro hown7 (And.intro hgrow7 hat7));clear hown7 hgrow7 hat7 hlt7;go_wp2;go_roundg (n - (jj+1))
       case measure=>omega
       case rel=>
        obtain⟨o7,q7,a7⟩:=L7.out;exact⟨jj+1,_,_,rfl,rfl,by have:=HJ.out.1;omega,congrArg (Value.int .i64) (by have:=HJ.out.2.1;have:=HJ.out.1;simp only[wrap64];omega),HR.out.next rfl o7 q7⟩
    . obtain rfl:jj=n:=by omega
      go_wp2;exact⟨rfl,kb,fv,⟨_,_,_,_,_,_,_,_,rfl⟩,HR.out⟩
 rintro t w' ⟨kb,fv,y10,y30,y31,y32,y33,y34,y35,y36,rfl,hP3⟩;exact HG.out _ _ _ _ _ _ _ _ _ _ _ _ _ _ _ _ _ _ hP3
theorem zqes{S2:Type}(i:Nat)(v:ByteArray)(k:Nat):(setB (S2:=S2) i v).Deep k:=by
 unfold setB;refine Proc.Deep.bind (Proc.Deep.bind (Proc.Deep.then (Proc.Deep.ret _)) λ_=>Proc.Deep.act _) λb=>?_;split
 . exact Proc.Deep.ret _
 . exact Proc.Deep.bind (Proc.Deep.bind (Proc.Deep.then (Proc.Deep.ret _)) λ_=>Proc.Deep.act _) λ_=>Proc.Deep.ret _
theorem zqk8(i:Nat)(v:ByteArray)(k:Nat):(thrB i v).Deep k:=(zqes i v k).bind λa=>Proc.Deep.act _
def stB0:BoxS×ResS:=((none,λ_=>false),(λ_=>noStr,λ_=>false))
def mB0:TM (BoxM×ResS) (BoxS×ResS):=⟨⟨((none,λ_=>false),(λ_=>noStr,λ_=>false)),λ_ _=>none⟩,λ_=>.ret (),200⟩
def playB(n:Nat)(strs:Nat->ByteArray)(sched:List Int):TSt (BoxS×ResS):=playT (λi=>thrB i (strs i)) n 100 sched stB0
def roS(W:World)(vb tb g1 w1:Nat)(kb:Nat->Nat)(n b:Nat):Prop:=b<W.heap.size\/b=vb\/b=tb\/b=g1\/b=w1\/∃i,i<n/\b=kb i
open Classical in
noncomputable def roB(W:World)(vb tb g1 w1:Nat)(kb:Nat->Nat)(n:Nat)(w:World)(b:Nat):Option Obj:=if roS W vb tb g1 w1 kb n b then w.heap[b]? else none
theorem zq22{W:World}{vb tb g1 w1:Nat}{kb:Nat->Nat}{n:Nat}{w:World}{b:Nat}(h:roS W vb tb g1 w1 kb n b):roB W vb tb g1 w1 kb n w b=w.heap[b]?:=if_pos h
theorem zq5u{W:World}{vb tb g1 w1:Nat}{kb:Nat->Nat}{n:Nat}{w:World}{b:Nat}(h:roB W vb tb g1 w1 kb n w b≠none):roS W vb tb g1 w1 kb n b:=Classical.byContradiction λx=>h (if_neg x)
theorem zq6v{w:World}{B N:Nat}{T:TypeId}{v:Value}{xs:List Value}(h:w.ownsRow B T 1 v N xs):∃p C,v=.slice p N C/\(v.ownBlock=p.map (·.block))/\(0<N->∃g,p=some ⟨g,0,none⟩/\v.ownBlock=some g/\∀i x,xs[i]?=some x->w.cell? ⟨g,i,none⟩=some x):=by
 rcases h.2 with⟨hv,h0⟩|⟨g,cap,cur,hv,hb,hh,h1,h2,h3,h4⟩
 . subst h0;exact⟨none,0,hv,by rw[hv];rfl,λh=>absurd h (Nat.lt_irrefl _)⟩
 . refine⟨_,cap,hv,by rw[hv];rfl,λ_=>⟨g,rfl,by rw[hv];rfl,λi x hx=>?_⟩⟩;rw[zq0 (off:=i) hh];have hi:i<xs.length:=(List.getElem?_eq_some_iff.1 hx).1;have hl:=h.1;rw[<-h4,List.getElem?_take]at hx;split at hx
   . simpa using hx
   . cases hx
section
variable {W:World} {n:Nat} {vp:Option Addr} {vl vC vb bb tb g1 w1 gb wb:Nat} {kb:Nat->Nat} {fv:Value} {w:World}
theorem BPre.nfoot (h:BPre W n vp vl vC vb bb tb g1 w1 gb wb kb n fv w){b:Nat}(hb:roS W vb tb g1 w1 kb n b):¬(b=bb\/b=gb\/b=wb):=by
 have hl:=h.lo;have far:∀{b:Nat}{c:Array Value}{T:TypeId}{f},w.heap[b]?=some (.cells c T f)->T≠79->T≠9->T≠4->¬(b=bb\/b=gb\/b=wb):=by
  rintro b c T f hb t1 t2 t3 (rfl |rfl |rfl)
  . have:=h.hbb;rw[hb]at this;exact t1 (Obj.cells.inj (Option.some.inj this)).2.1
  . have:=h.hgb;rw[hb]at this;exact t2 (Obj.cells.inj (Option.some.inj this)).2.1
  . have:=h.hwb;rw[hb]at this;exact t3 (Obj.cells.inj (Option.some.inj this)).2.1
 rcases hb with hb|rfl |rfl |rfl |rfl |⟨i,hi,rfl⟩
 . rintro(rfl |rfl |rfl)<;>omega
 . exact far h.hvb (by decide) (by decide) (by decide)
 . exact far h.htb (by decide) (by decide) (by decide)
 . exact far h.hg1 (by decide) (by decide) (by decide)
 . exact far h.hw1 (by decide) (by decide) (by decide)
 . exact far (h.kbs i hi).2 (by decide) (by decide) (by decide)
theorem BPre.rep (h:BPre W n vp vl vC vb bb tb g1 w1 gb wb kb n fv w):BRep (zq7 (zqr bb) (zq18 gb wb n)) (roB W vb tb g1 w1 kb n w) mB0.bm w:=by
 have hbg:bb≠gb:=zq1h h.hbb h.hgb (by decide);have hbw:bb≠wb:=zq1h h.hbb h.hwb (by decide);have hgw:gb≠wb:=zq1h h.hgb h.hwb (by decide);refine⟨⟨⟨h.hbb,(λb x h=>by cases h),(λi h=>by cases h)⟩,⟨h.hgb,h.hwb,hgw⟩,λb hb h2=>?_⟩,λi b o h=>(by cases h),λb o hb=>?_,λi b h=>absurd rfl h,λi j b _ h=>absurd rfl h,λb hb hf=>?_,λi b h=>rfl⟩
 . rcases hb with rfl |⟨x,hx⟩
   . rcases h2 with h2|h2
     . exact hbg h2
     . exact hbw h2
   . cases hx
 . have:=zq5u (b:=b) (w:=w) (by rw[hb];simp);rw[zq22 this]at hb;exact hb
 . refine h.nfoot (zq5u hb) ?_;rcases hf with(hf|⟨x,hx⟩)|hf|hf
   . exact .inl hf
   . cases hx
   . exact .inr (.inl hf)
   . exact .inr (.inr hf)
theorem BPre.ro (h:BPre W n vp vl vC vb bb tb g1 w1 gb wb kb n fv w)(hn:n=min vl 6){strs:Nat->ByteArray}(hv:0<vl->∃g off cur e fr,vp=some ⟨g,off,none⟩/\W.heap[g]?=some (.cells cur e fr)/\∀i,i<vl->cur[off+i]?=some (.string (strs i))){i:Nat}(hi:i<n):
 BoxRo (roB W vb tb g1 w1 kb n w) bb gb wb n i tb vb (kb i) g1 w1 vl vC vp (strs i):=by
 refine⟨?_,?_,?_,?_,?_,⟨hi,by omega,by omega⟩,?_⟩
 . rw[zq22 (.inr (.inr (.inl rfl)))];exact h.htb
 . rw[zq22 (.inr (.inl rfl))];exact h.hvb
 . rw[zq22 (.inr (.inr (.inr (.inr (.inr ⟨i,hi,rfl⟩)))))];exact(h.kbs i hi).2
 . rw[zq22 (.inr (.inr (.inr (.inl rfl))))];exact h.hg1
 . rw[zq22 (.inr (.inr (.inr (.inr (.inl rfl)))))];exact h.hw1
 . obtain⟨g,off,cur,e,fr,h1,h2,h3⟩:=hv (by omega);have hlt:=zqe h2;exact⟨g,off,cur,e,fr,h1,by rw[zq22 (.inl hlt),h.be.2 g hlt];exact h2,h3 i (by omega)⟩
structure BPost(W:World)(n:Nat)(vp:Option Addr)(vl vC vb bb tb g1 w1 gb wb g:Nat)(r:TSt (BoxS×ResS))(p:Option (Nat×ByteArray))(seen:Nat->Bool)(ov:Value)(w:World):Prop where
 be:Beyond W w
 hvb:w.heap[vb]?=some (.cells #[.slice vp vl vC] 59)
 htb:w.heap[tb]?=some (.cells #[.pointer (some ⟨bb,0,none⟩)] 60)
 hg1:w.heap[g1]?=some (.cells #[.slice (some ⟨gb,0,none⟩) n n] 59)
 hw1:w.heap[w1]?=some (.cells #[.slice (some ⟨wb,0,none⟩) n n] 62)
 hgb:w.heap[gb]?=some (.cells (gotA n r.s.2.1) 9)
 hwb:w.heap[wb]?=some (.cells (wonA n r.s.2.2) 4)
 hp:p.map (·.2)=r.s.1.1
 hbox:BoxRep bb (p,seen) w
 row:∃lo,w.ownsRow lo 3 1 ov r.ord.length (r.ord.map λ(i:Nat)=>.int .i64 i)
 brk:∃br,w.heap[g]?=some (.cells br 4)/\∀i,i<n->br[i]?=some (.bool false)
 sep:∀b,(b<W.heap.size\/b=vb\/b=tb\/b=g1\/b=w1\/b=gb\/b=wb\/b=g\/ov.ownBlock=some b)->b≠bb/\∀x,p≠some (b,x)
theorem BPre.after (h:BPre W n vp vl vC vb bb tb g1 w1 gb wb kb n fv w){strs:Nat->ByteArray}{sched:List Int}{NE:Prop}{b:OSt (TM (BoxM×ResS) (BoxS×ResS))}{m':TM (BoxM×ResS) (BoxS×ResS)}{v:Value}{g:Nat}{w2:World}
 (ho:Over1 (thrOf (zq7 (zqr bb) (zq18 gb wb n)) ownB (roB W vb tb g1 w1 kb n w) λi=>thrB i (strs i)) n 100 sched mB0 w b m' v g w2):b.ov=(playB n strs sched).ov/\∃p seen,BPost W n vp vl vC vb bb tb g1 w1 gb wb g (playB n strs sched) p seen v w2:=by
 obtain⟨hs,hst⟩:=ran_T rfl ho.ran;have hs:SameT (zq7 (zqr bb) (zq18 gb wb n)) b (playB n strs sched):=hs;have hstr:=hst.trans hs.st;obtain⟨⟨⟨⟨p,seen⟩,l2⟩,bx⟩,at',room⟩:=m';have hr2:l2=(playB n strs sched).s.2:=congrArg Prod.snd hstr;have hr1:p.map (·.2)=(playB n strs sched).s.1.1:=congrArg (λx=>x.1.1) hstr;have hR:BRep (zq7 (zqr bb) (zq18 gb wb n)) (roB W vb tb g1 w1 kb n w) ⟨((p,seen),l2),bx⟩ w2:=ho.rep.1;have hro:∀x,roS W vb tb g1 w1 kb n x->w2.heap[x]?=w.heap[x]?:=λx hx=>by
  cases e:w.heap[x]? with
  |some o=>exact hR.rod x o (by rw[zq22 hx,e])
  |none=>
   exfalso;have key:∀{b:Nat}{o:Obj},w.heap[b]?=some o->x≠b:=λhb e2=>by subst e2;rw[hb]at e;cases e
   rcases hx with hx|hx|hx|hx|hx|⟨i,hi,hx⟩
   . have:=h.be.1;rw[Array.getElem?_eq_none_iff]at e;omega
   . exact key h.hvb hx
   . exact key h.htb hx
   . exact key h.hg1 hx
   . exact key h.hw1 hx
   . exact key (h.kbs i hi).2 hx
 refine⟨hs.ov,p,seen,⟨⟨Nat.le_trans h.be.1 ho.size,λx hx=>(hro x (.inl hx)).trans (h.be.2 x hx)⟩,(hro _ (.inr (.inl rfl))).trans h.hvb,(hro _ (.inr (.inr (.inl rfl)))).trans h.htb,(hro _ (.inr (.inr (.inr (.inl rfl))))).trans h.hg1,(hro _ (.inr (.inr (.inr (.inr (.inl rfl)))))).trans h.hw1,?_,?_,hr1,hR.core.1,?_,?_,λx hx=>?_⟩⟩
 . rw[<-hr2];exact hR.core.2.1.got
 . rw[<-hr2];exact hR.core.2.1.won
 . have:=ho.row;rw[hs.ord]at this;exact⟨_,this⟩
 . obtain⟨br,h1,h2⟩:=ho.brk;exact⟨br,h1,λi hi=>by rw[h2 i hi,hs.brk]⟩
 . have hnf:¬(x=bb\/∃y,p=some (x,y)):=λhf=>by
    have hfoot:BM.foot (zq7 (zqr bb) (zq18 gb wb n)) (roB W vb tb g1 w1 kb n w) ⟨((p,seen),l2),bx⟩ x:=.inl (.inl hf);have hroS:roS W vb tb g1 w1 kb n x->False:=λhS=>by
     cases e:roB W vb tb g1 w1 kb n w x with
     |some o=>exact hR.rol x (by rw[e];simp) (.inl hf)
     |none=>
      have hlt:x<w2.heap.size:=hR.lt hfoot;have e2:=hro x hS;rw[zq22 hS]at e;rw[e,Array.getElem?_eq_none_iff]at e2;omega
    rcases hx with hx|hx|hx|hx|hx|hx|hx|hx|hx
    . exact hroS (.inl hx)
    . exact hroS (.inr (.inl hx))
    . exact hroS (.inr (.inr (.inl hx)))
    . exact hroS (.inr (.inr (.inr (.inl hx))))
    . exact hroS (.inr (.inr (.inr (.inr (.inl hx)))))
    . exact hR.core.2.2 x hf (.inl hx)
    . exact hR.core.2.2 x hf (.inr hx)
    . rw[hx]at hfoot;exact ho.brkf hfoot
    . exact(ho.rowf x hx).1 hfoot
   exact⟨λe=>hnf (.inl e),λy e=>hnf (.inr ⟨y,e⟩)⟩
end
theorem zqdk{Fin:Machine->Trace->Prop}(hFin:Back Try.prog Fin){W:World}{vp sp:Option Addr}{vl vC sC n:Nat}{sched:List Int}(hn:n=min vl 6){strs:Nat->ByteArray}(hv:0<vl->∃g off cur e fr,vp=some ⟨g,off,none⟩/\W.heap[g]?=some (.cells cur e fr)/\∀i,i<vl->cur[off+i]?=some (.string (strs i)))
 (hsl:sched.length<=4611686018427387904) (hs:sched≠[]->∃sb off,sp=some ⟨sb,off,none⟩/\∀j x,sched[j]?=some x->W.cell? ⟨sb,off+j,none⟩=some (.int .i64 x))
 {vb bb tb g1 w1 gb wb:Nat} {kb:Nat->Nat} {fv y10 y30 y31 y32 y33 y34 y35 y36:Value} {w:World} (hP:BPre W n vp vl vC vb bb tb g1 w1 gb wb kb n fv w)
 (hgo:∀fp fC op on oC g gC p seen stuck w2,stuck=decide (0<leftN (playB n strs sched).ov n)->on=(playB n strs sched).ord.length->BPost W n vp vl vC vb bb tb g1 w1 gb wb g (playB n strs sched) p seen (.slice op on oC) w2->J0 Try.prog Fin (1+2+n) (G ((bN 6).at ⟨#[.slice vp vl vC,.slice sp sched.length sC,.pointer (some ⟨vb,0,none⟩),undef,.bool false,.int .i64 n,.pointer (some ⟨tb,0,none⟩),.pointer (some ⟨g1,0,none⟩),.pointer (some ⟨w1,0,none⟩),.slice fp n fC,y10,.slice op on oC,.bool stuck,.slice (some ⟨g,0,none⟩) n gC,undef,undef,undef,undef,.bool true,.bool false,.slice vp vl vC,.int .i64 vl,.int .i64 n,.pointer (some ⟨bb,0,none⟩),.int .i64 n,.slice (some ⟨gb,0,none⟩) n n,.int .i64 n,.slice (some ⟨wb,0,none⟩) n n,.int .i64 n,.int .i64 n,y30,y31,y32,y33,y34,y35,y36,.tuple #[.slice op on oC,.bool stuck,.slice (some ⟨g,0,none⟩) n gC],.slice fp n fC,.slice sp sched.length sC,.tuple #[.slice op on oC,.bool stuck,.slice (some ⟨g,0,none⟩) n gC],.slice op on oC,.bool stuck,.slice (some ⟨g,0,none⟩) n gC,undef,undef,undef,undef,undef,undef,undef,undef,undef,undef,undef,undef,undef,undef,undef,undef,undef,undef,undef,undef,undef,undef,undef,undef,undef,undef,undef,undef,undef,undef,undef,undef,undef,undef,undef,undef,undef,undef,undef,undef,undef,undef,undef,undef,undef,undef,undef,undef,undef,undef,undef,undef,undef,undef,undef,undef,undef,undef,undef,undef,undef,undef,undef,undef,undef,undef,undef,undef,undef,undef,undef,undef,undef,undef,undef,undef,undef,undef,undef,undef,undef,undef,undef],[]⟩ [.code (.seq (headC (obxT 8)) (.seq (headC (obxT 9)) (.seq (headC (obxT 10)) (.seq (headC (obxT 11)) (obxT 12)))))]) []) w2):
 J0 Try.prog Fin (1+2) (G ((bN 6).at ⟨#[.slice vp vl vC,.slice sp sched.length sC,.pointer (some ⟨vb,0,none⟩),undef,.bool false,.int .i64 n,.pointer (some ⟨tb,0,none⟩),.pointer (some ⟨g1,0,none⟩),.pointer (some ⟨w1,0,none⟩),fv,y10,undef,undef,undef,undef,undef,undef,undef,.bool true,.bool false,.slice vp vl vC,.int .i64 vl,.int .i64 n,.pointer (some ⟨bb,0,none⟩),.int .i64 n,.slice (some ⟨gb,0,none⟩) n n,.int .i64 n,.slice (some ⟨wb,0,none⟩) n n,.int .i64 n,.int .i64 n,y30,y31,y32,y33,y34,y35,y36,undef,undef,undef,undef,undef,undef,undef,undef,undef,undef,undef,undef,undef,undef,undef,undef,undef,undef,undef,undef,undef,undef,undef,undef,undef,undef,undef,undef,undef,undef,undef,undef,undef,undef,undef,undef,undef,undef,undef,undef,undef,undef,undef,undef,undef,undef,undef,undef,undef,undef,undef,undef,undef,undef,undef,undef,undef,undef,undef,undef,undef,undef,undef,undef,undef,undef,undef,undef,undef,undef,undef,undef,undef,undef,undef,undef,undef,undef,undef,undef,undef,undef,undef,undef,undef,undef,undef,undef,undef,undef],[]⟩ [.code (.seq (headC (obxT 7)) (.seq (headC (obxT 8)) (.seq (headC (obxT 9)) (.seq (headC (obxT 10)) (.seq (headC (obxT 11)) (obxT 12))))))]) []) w:=by
 have hJ:=j0_JS hFin;have hC:=zq2i hFin;obtain⟨fp,fC,rfl,hfo,hfp⟩:=zq6v hP.row;have HG:=Lib.hid hgo;have HP:=Lib.hid hP;have HX:=Lib.hid (And.intro hfo (And.intro hfp (And.intro hn (And.intro hv (And.intro hsl hs)))));clear hgo hP hfo hfp hn hv hsl hs;refine hJ.ctl (s:=1+2) (λw=>stepG_seq) ?_;obtain⟨u_,hu_⟩:∃c,headC (obxT 7)=c:=⟨_,rfl⟩;have eu_:=hu_;rw[hu_];simp only[obxT,headC,tailN,Try.f6,al_od]at eu_;subst eu_;clear hu_;refine hJ.ctl (s:=1+2) (λw=>stepG_region) ?_;refine zqo (s:=1+2) (by first|decide |omega) hJ (zqn _) false (.inr rfl) 0 2 8 rfl rfl rfl (by rfl) ?_;intro τ d;simp only[List.drop_succ_cons,List.drop_zero,List.take_succ_cons,List.take_zero];go_wp2;simp only[zqg];refine hJ.re' (1+2) _ _ τ d ?_;refine zq1q (by decide) hJ (s:=1+2) rfl rfl (f:=22) (args:=#[.slice fp n fC,.slice sp sched.length sC,.int .i64 100]) (λτ d=>?_) (λτ d=>?_) ?_
 . simp[go_sem,execOp,Act.eval,resolve,Deferred.ofValue,invoke,callFunc,Try.func22,Try.f22]
 . intro e he;simp[go_sem,execOp,Act.eval,resolve,Deferred.ofValue,invoke,callFunc,Try.func22,Try.f22,Sem.runT_eq]at he
 obtain⟨hfo,hfp,hn,hv,hsl,hs⟩:=HX.out;refine zq87 hFin (T:=thrOf (zq7 (zqr bb) (zq18 gb wb n)) ownB (roB W vb tb g1 w1 kb n w) (λi=>thrB i (strs i))) (m₀:=mB0) (N:=n) (most:=100) (tv:=λi=>cloB vb tb g1 w1 (kb i)) (sched:=sched) (by decide) (by omega) (by decide) ⟨HP.out.rep,λi=>trivial⟩ (Nat.le_refl 200) ?_ (λi hi=>?_) ?_ ?_
 . intro h0;obtain⟨g,e,hg,hc⟩:=hfp h0;refine⟨g,e,λhf=>?_,λi hi=>hc i _ (by simp[clsB,hi])⟩;obtain⟨⟨cc,hcc⟩,hlo,hlt⟩:=own_lt HP.out.row hg;have hfar:∀{b:Nat}{c:Array Value}{T:TypeId}{f},w.heap[b]?=some (.cells c T f)->T≠68->g≠b:=λhb hT e=>by
    subst e;rw[hcc]at hb;exact hT (Obj.cells.inj (Option.some.inj hb)).2.1.symm
   rcases hf with(hf|hf)|⟨_,hf⟩|hf
   . rcases hf with hf|⟨x,hx⟩
     . exact hfar HP.out.hbb (by decide) hf
     . cases hx
   . rcases hf with hf|hf
     . exact hfar HP.out.hgb (by decide) hf
     . exact hfar HP.out.hwb (by decide) hf
   . exact hf rfl
   . rcases zq5u hf with hf|hf|hf|hf|hf|⟨i,hi,hf⟩
     . omega
     . exact hfar HP.out.hvb (by decide) hf
     . exact hfar HP.out.htb (by decide) hf
     . exact hfar HP.out.hg1 (by decide) hf
     . exact hfar HP.out.hw1 (by decide) hf
     . exact hfar (HP.out.kbs i hi).2 (by decide) hf
 . refine zqao zq20 rowsMB (fn:=Try.f20) (c:=(Try.f20.body).getD .skip) Try.func20 rfl rfl (λk=>zqk8 _ _ k) (λst cr rest EN s m w hA hown=>?_);exact zqbg (HP.out.ro hn hv hi) s m w hA hown
 . refine⟨hsl,sp,sC,rfl,λh0=>?_⟩;obtain⟨sb,off,e,h1⟩:=hs h0;refine⟨sb,off,e,λj x hj=>.inr λm w' h=>(zq16 ?_).trans (h1 j x hj)⟩;have hlt:sb<W.heap.size:=cell_lt (h1 j x hj);obtain⟨y,hy⟩:∃y,W.heap[sb]?=some y:=⟨_,Array.getElem?_eq_getElem hlt⟩;rw[hy];exact h.1.rod sb y (by rw[zq22 (.inl hlt),HP.out.be.2 sb hlt,hy])
 intro b m' v g gC w2 ho;obtain⟨hov,p,seen,hB⟩:=HP.out.after (NE:=True) ho;clear ho hfo hfp hn hv hsl hs HX HP;rw[Frame.finish_at]
 walk_nrm
 obtain⟨stuck,hst⟩:∃x,x=decide (0<leftN b.ov n):=⟨_,rfl⟩;rw[<-hst];rw[hov]at hst;obtain⟨op,oC,rfl,-,-⟩:=zq3x hB.row.choose_spec;obtain⟨on,hon⟩:∃x,x=(playB n strs sched).ord.length:=⟨_,rfl⟩;have HB:=Lib.hid hB;rw[<-hon]at HB |-;have HE:=Lib.hid (And.intro hst hon);clear hB hst hon hov;refine zqo (s:=1+2+n) (by first|decide |omega) hJ (zqn _) false (.inr rfl) 3 7 0 rfl rfl rfl (by rfl) ?_;intro τ d;simp only[List.drop_succ_cons,List.drop_zero,List.take_succ_cons,List.take_zero];go_wp2;simp only[zqg];refine hJ.re' (1+2+n) _ _ τ d ?_;refine hJ.ctl (s:=1+2+n) (λw=>stepG_region_end) ?_;exact HG.out _ _ _ _ _ _ _ _ _ _ _ HE.out.1 HE.out.2 HB.out
structure LawB(n:Nat)(strs:Nat->ByteArray)(r:TSt (BoxS×ResS)):Prop where
 ov:leftN r.ov n=0
 len:n<=r.ord.length/\r.ord.length<=2*n
 zero:n=0->r.s.1.1=none
 pos:0<n->∃x win,win<n/\r.s.1.1=some x/\(∀k,k<n->r.s.2.1 k=x/\r.s.2.2 k=decide (k=win))/\strs win=x/\r.ord[0]?=some win
theorem BPost.of_heap {W:World}{n:Nat}{vp:Option Addr}{vl vC vb bb tb g1 w1 gb wb g:Nat}{r:TSt (BoxS×ResS)}{p:Option (Nat×ByteArray)}{seen:Nat->Bool}{ov:Value}{w w':World}(h:BPost W n vp vl vC vb bb tb g1 w1 gb wb g r p seen ov w)(e:w'.heap=w.heap):BPost W n vp vl vC vb bb tb g1 w1 gb wb g r p seen ov w':=
 ⟨⟨by rw[e];exact h.be.1,λb hb=>by rw[e];exact h.be.2 b hb⟩,by rw[e];exact h.hvb,by rw[e];exact h.htb,by rw[e];exact h.hg1,by rw[e];exact h.hw1,by rw[e];exact h.hgb,by rw[e];exact h.hwb,h.hp,⟨by rw[e];exact h.hbox.box,λb x hb=>⟨(h.hbox.val b x hb).1,by rw[e];exact(h.hbox.val b x hb).2⟩,h.hbox.seen⟩,by obtain⟨lo,h1⟩:=h.row;exact⟨lo,zq1x h1 λg _=>by rw[e]⟩,by rw[e];exact h.brk,h.sep⟩
structure BEnd(W:World)(n:Nat)(vp:Option Addr)(vl vC vb g1 w1 gb wb g:Nat)(r:TSt (BoxS×ResS))(op:Option Addr)(w:World):Prop where
 be:Beyond W w
 hvb:w.heap[vb]?=some (.cells #[.slice vp vl vC] 59)
 hg1:w.heap[g1]?=some (.cells #[.slice (some ⟨gb,0,none⟩) n n] 59)
 hw1:w.heap[w1]?=some (.cells #[.slice (some ⟨wb,0,none⟩) n n] 62)
 hgb:w.heap[gb]?=some (.cells (gotA n r.s.2.1) 9)
 hwb:w.heap[wb]?=some (.cells (wonA n r.s.2.2) 4)
 row:∀win:Nat,r.ord[0]?=some win->∃o,op=some ⟨o,0,none⟩/\w.cell? ⟨o,0,none⟩=some (.int .i64 win)
 brk:∃br,w.heap[g]?=some (.cells br 4)/\∀i,i<n->br[i]?=some (.bool false)
theorem BPost.fin {W:World}{n:Nat}{vp:Option Addr}{vl vC vb bb tb g1 w1 gb wb g:Nat}{r:TSt (BoxS×ResS)}{p:Option (Nat×ByteArray)}{seen:Nat->Bool}{op:Option Addr}{on oC:Nat}{w w':World}(h:BPost W n vp vl vC vb bb tb g1 w1 gb wb g r p seen (.slice op on oC) w)
 (hs:w.heap.size<=w'.heap.size) (hk:∀b,b<w.heap.size->b≠bb->(∀x,p≠some (b,x))->w'.heap[b]?=w.heap[b]?):BEnd W n vp vl vC vb g1 w1 gb wb g r op w':=by
 have key:∀b,b<w.heap.size->(b<W.heap.size\/b=vb\/b=tb\/b=g1\/b=w1\/b=gb\/b=wb\/b=g\/(Value.slice op on oC).ownBlock=some b)->w'.heap[b]?=w.heap[b]?:=λb hb hx=>hk b hb (h.sep b hx).1 (h.sep b hx).2;have kk:∀b o,w.heap[b]?=some o->(b<W.heap.size\/b=vb\/b=tb\/b=g1\/b=w1\/b=gb\/b=wb\/b=g\/(Value.slice op on oC).ownBlock=some b)->w'.heap[b]?=some o:=λb o hb hx=>(key b (zqe hb) hx).trans hb;have hW:=h.be.1;refine⟨⟨by omega,λb hb=>(key b (by omega) (.inl hb)).trans (h.be.2 b hb)⟩,kk _ _ h.hvb (.inr (.inl rfl)),kk _ _ h.hg1 (.inr (.inr (.inr (.inl rfl)))),kk _ _ h.hw1 (.inr (.inr (.inr (.inr (.inl rfl))))),kk _ _ h.hgb (.inr (.inr (.inr (.inr (.inr (.inl rfl)))))),kk _ _ h.hwb (.inr (.inr (.inr (.inr (.inr (.inr (.inl rfl))))))),λwin hw=>?_,?_⟩
 . obtain⟨lo,hr⟩:=h.row;have hpos:0<r.ord.length:=(List.getElem?_eq_some_iff.1 hw).1;obtain⟨q,C,e1,e2,e3⟩:=zq6v hr;obtain⟨o,rfl,e4,e5⟩:=e3 hpos;cases e1;have hc:=e5 0 (.int .i64 win) (by rw[List.getElem?_map,hw];rfl);exact⟨o,rfl,(zq16 (key o (cell_lt hc) (.inr (.inr (.inr (.inr (.inr (.inr (.inr (.inr e4)))))))))).trans hc⟩
 . obtain⟨br,h1,h2⟩:=h.brk;exact⟨br,kk _ _ h1 (.inr (.inr (.inr (.inr (.inr (.inr (.inr (.inl rfl)))))))),h2⟩
theorem zqdl{Post:Value->World->Prop}(hPost:∀v w τ d,Post v w->Post v (re w τ d)){W:World}{vp sp:Option Addr}{vl vC sl sC n N:Nat}(hn:n=min vl 6){strs:Nat->ByteArray}(hv:0<vl->∃g off cur e fr,vp=some ⟨g,off,none⟩/\W.heap[g]?=some (.cells cur e fr)/\∀i,i<vl->cur[off+i]?=some (.string (strs i)))
 (hend:∀w',Beyond W w'->Post (.bool true) w') {r:TSt (BoxS×ResS)} (hL:LawB n strs r)
 {vb bb tb g1 w1 gb wb g fC oC gC on:Nat} {fp op:Option Addr} {y10 y30 y31 y32 y33 y34 y35 y36:Value} {p:Option (Nat×ByteArray)} {seen:Nat->Bool} {stuck:Bool} {w:World} (hst:stuck=decide (0<leftN r.ov n)) (hon:on=r.ord.length) (hB:BPost W n vp vl vC vb bb tb g1 w1 gb wb g r p seen (.slice op on oC) w):
 J0 Try.prog (FinOf Try.prog Post) N (G ((bN 6).at ⟨#[.slice vp vl vC,.slice sp sl sC,.pointer (some ⟨vb,0,none⟩),undef,.bool false,.int .i64 n,.pointer (some ⟨tb,0,none⟩),.pointer (some ⟨g1,0,none⟩),.pointer (some ⟨w1,0,none⟩),.slice fp n fC,y10,.slice op on oC,.bool stuck,.slice (some ⟨g,0,none⟩) n gC,undef,undef,undef,undef,.bool true,.bool false,.slice vp vl vC,.int .i64 vl,.int .i64 n,.pointer (some ⟨bb,0,none⟩),.int .i64 n,.slice (some ⟨gb,0,none⟩) n n,.int .i64 n,.slice (some ⟨wb,0,none⟩) n n,.int .i64 n,.int .i64 n,y30,y31,y32,y33,y34,y35,y36,.tuple #[.slice op on oC,.bool stuck,.slice (some ⟨g,0,none⟩) n gC],.slice fp n fC,.slice sp sl sC,.tuple #[.slice op on oC,.bool stuck,.slice (some ⟨g,0,none⟩) n gC],.slice op on oC,.bool stuck,.slice (some ⟨g,0,none⟩) n gC,undef,undef,undef,undef,undef,undef,undef,undef,undef,undef,undef,undef,undef,undef,undef,undef,undef,undef,undef,undef,undef,undef,undef,undef,undef,undef,undef,undef,undef,undef,undef,undef,undef,undef,undef,undef,undef,undef,undef,undef,undef,undef,undef,undef,undef,undef,undef,undef,undef,undef,undef,undef,undef,undef,undef,undef,undef,undef,undef,undef,undef,undef,undef,undef,undef,undef,undef,undef,undef,undef,undef,undef,undef,undef,undef,undef,undef,undef,undef,undef,undef,undef,undef],[]⟩ [.code (.seq (headC (obxT 8)) (.seq (headC (obxT 9)) (.seq (headC (obxT 10)) (.seq (headC (obxT 11)) (obxT 12)))))]) []) w:=by
 have hFin:=zq5a (P:=Try.prog) Post;have hJ:=j0_JS hFin;have hC:=zq2i hFin;have e:stuck=false:=by rw[hst,hL.ov];rfl
 subst e;have hlen:=hL.len;rw[<-hon]at hlen;have HB:=Lib.hid hB;have HE:=Lib.hid (And.intro hn (And.intro hv (And.intro hend (And.intro hL hon))));have hn6:n<=6:=by omega
 have c1:¬(on:Int)<(n:Int):=by omega
 have e2:wrap64 (2*(n:Int))=2*(n:Int):=by simp only[wrap64];omega
 have c2:¬2*(n:Int)<(on:Int):=by omega
 clear hst hon hB hn hv hend hL;refine hJ.ctl (s:=N) (λw=>stepG_seq) ?_;obtain⟨u_,hu_⟩:∃c,headC (obxT 8)=c:=⟨_,rfl⟩;have eu_:=hu_;rw[hu_];simp only[obxT,headC,tailN,Try.f6,al_od]at eu_;subst eu_;clear hu_;refine hJ.ctl (s:=N) (λw=>stepG_seq) ?_;refine hJ.ctl (s:=N) (λw=>stepG_region) ?_;refine zqo (s:=N) (by first|decide |omega) hJ (zqn _) false (.inr rfl) 0 20 0 rfl rfl rfl (by rfl) ?_;intro τ d;simp only[List.drop_succ_cons,List.drop_zero,List.take_succ_cons,List.take_zero];go_wp2;simp only[zqg];refine hJ.re' N _ _ τ d ?_;refine hJ.ctl (s:=N) (λw=>stepG_region_end) ?_;refine hJ.ctl (s:=N) (λw=>stepG_cond (t:=false) rfl) ?_;rw[if_neg (by decide)];refine hJ.ctl (s:=N) (λw=>stepG_skip) ?_;refine hJ.ctl (s:=N) (λw=>stepG_seq) ?_;clear c1 c2 e2;obtain⟨u_,hu_⟩:∃c,headC (obxT 9)=c:=⟨_,rfl⟩;have eu_:=hu_;rw[hu_];simp only[obxT,headC,tailN,Try.f6,al_od]at eu_;subst eu_;clear hu_;refine hJ.ctl (s:=N) (λw=>stepG_region) ?_;refine zqo (s:=N) (by first|decide |omega) hJ (zqn _) false (.inr rfl) 0 1 6 rfl rfl rfl (by rfl) ?_;intro τ d;simp only[List.drop_succ_cons,List.drop_zero,List.take_succ_cons,List.take_zero];replace HB:=Lib.hid (HB.out.of_heap (w':=re w τ d) rfl);generalize re w τ d=w at HB |-;have c1:w.cell? ⟨tb,0,none⟩=some (.pointer (some ⟨bb,0,none⟩)):=(zq0 (off:=0) HB.out.htb).trans rfl;go_wp2;simp only[zqg];clear c1;refine zq1q (by decide) hJ (s:=N) rfl rfl (f:=23) (args:=#[.pointer (some ⟨bb,0,none⟩),.nilIface]) (λτ d=>?_) (λτ d=>?_) ?_
 . simp[go_sem,execOp,Act.eval,resolve,Deferred.ofValue,invoke,callFunc,Try.func23,Try.f23]
 . intro e he;simp[go_sem,execOp,Act.eval,resolve,Deferred.ofValue,invoke,callFunc,Try.func23,Try.f23,Sem.runT_eq]at he
 refine zqba hFin HB.out.hbox ?_;intro w3 hs3 hk3;have hF:=HB.out.fin hs3 hk3;have hp:=HB.out.hp;clear HB hs3 hk3;have HF:=Lib.hid hF;clear hF;rw[Frame.finish_at,hp]
 walk_nrm
 clear hp;obtain⟨q,hq⟩:∃q,r.s.1.1=q:=⟨_,rfl⟩;obtain⟨hn,hv,hend,hL,hon⟩:=HE.out;have HNN:=Lib.hid hn;have HN6:=Lib.hid hn6;clear hn hn6;have HQ:=Lib.hid hq;have HV:=Lib.hid hv;have HEN:=Lib.hid hend;have HL:=Lib.hid hL;rw[hq];have HON:=Lib.hid hlen;clear hq hv hend hL HE hon hlen;obtain⟨xv,hxv⟩:∃xv,q.getD noStr=xv:=⟨_,rfl⟩;obtain⟨ob,hob⟩:∃ob,q.isSome=ob:=⟨_,rfl⟩;rw[hxv,hob];have HXV:=Lib.hid (And.intro hxv hob);clear hxv hob;refine zqo (s:=N) (by first|decide |omega) hJ (zqn _) false (.inr rfl) 2 5 0 rfl rfl rfl (by rfl) ?_;intro τ d;simp only[List.drop_succ_cons,List.drop_zero,List.take_succ_cons,List.take_zero];go_wp2;simp only[zqg];refine hJ.re' N _ _ τ d ?_;refine hJ.ctl (s:=N) (λw=>stepG_region_end) ?_;refine zqb6 (P:=Try.prog) hPost zq20 (by kernel_rfl) rfl (by kernel_rfl) Try.func6 (λτ d=>?_);obtain⟨u5,hu5⟩:∃c,headC (obxT 10)=c:=⟨_,rfl⟩;have eu5:=hu5;rw[hu5];simp only[obxT,headC,tailN,Try.f6,al_od]at eu5;subst eu5;clear hu5;have HEE:=Lib.hid (HEN.out _ (HF.out.be.trans (Beyond.re w3 τ d)));rcases Nat.eq_zero_or_pos n with h0|h0
 . have hq0:q=none:=HQ.out.symm.trans (HL.out.zero h0);obtain⟨rfl,rfl⟩:=HXV.out;subst hq0 h0;clear HF HXV HNN HN6 HL HV HQ;have hns:noStr.toList=[]:=by kernel_rfl
   go_wp2;refine bodyPost_ret (v:=.bool true) ?_ rfl ⟨_,rfl,HEE.out⟩;simp only[results,Try.f6];simp[go_sem]
 . obtain⟨x,win,hw,hx,hk,hsw,hord⟩:=HL.out.pos h0;have hq0:q=some x:=HQ.out.symm.trans hx;obtain⟨rfl,rfl⟩:=HXV.out;subst hq0;simp only[al_od,Option.isSome_some];have HK:=Lib.hid (And.intro hw (And.intro hk (And.intro hsw hord)));clear HXV hord hsw hk hx HQ;have h0':¬(n:Int)=0:=by omega
   obtain⟨u6,hu6⟩:∃c,headC (obxT 11)=c:=⟨_,rfl⟩;have eu6:=hu6;rw[hu6];simp only[obxT,headC,tailN,Try.f6,al_od]at eu6;subst eu6;clear hu6;obtain⟨u7,hu7⟩:∃c,obxT 12=c:=⟨_,rfl⟩;have eu7:=hu7;rw[hu7];simp only[obxT,headC,tailN,Try.f6,al_od]at eu7;subst eu7;clear hu7;have HF2:RowKit.Hid (BEnd W n vp vl vC vb g1 w1 gb wb g r op (re w3 τ d)):=Lib.hid ⟨HF.out.be.trans (Beyond.re w3 τ d),HF.out.hvb,HF.out.hg1,HF.out.hw1,HF.out.hgb,HF.out.hwb,HF.out.row,HF.out.brk⟩;generalize re w3 τ d=w4 at HF2 HEE |-;clear HF
   go_wp2_with (fail)
   go_loopg [16,78] n (λk t i wr=>∃jj:Nat,k=n - jj/\jj<=n/\i=.int .i64 jj/\t=.int .i64 (if win<jj then 1 else 0)/\wr.heap=w4.heap)
   case atStart=>exact⟨0,rfl,Nat.zero_le _,rfl,rfl,rfl⟩
   case round=>
    obtain⟨jj,hkk,hj,rfl,rfl,hwr⟩:=hrel;have HR:RowKit.Hid (BEnd W n vp vl vC vb g1 w1 gb wb g r op wr):=by
     obtain⟨f1,f2,f3,f4,f5,f6,f7,f8⟩:=HF2.out;refine Lib.hid ⟨⟨by rw[hwr];exact f1.1,λb hb=>by rw[hwr];exact f1.2 b hb⟩,by rw[hwr];exact f2,by rw[hwr];exact f3,by rw[hwr];exact f4,by rw[hwr];exact f5,by rw[hwr];exact f6,λwin hw=>?_,by rw[hwr];exact f8⟩;obtain⟨o,h1,h2⟩:=f7 win hw;exact⟨o,h1,(zq16 (by rw[hwr])).trans h2⟩
    have HWR:=Lib.hid hwr;clear hwr
    by_cases hlt:jj<n
    . have hlt':(jj:Int)<(n:Int):=by omega
      have hj0:(0:Int)<=jj:=by omega
      obtain⟨br,kb1,kb2⟩:=HR.out.brk;obtain⟨k1,k2⟩:=HK.out.2.1 jj hlt;obtain⟨gv,off,cur,et,fr,rfl,hg,hcur⟩:=HV.out (by have:=HNN.out;omega);have hvl:jj<vl:=by have:=HNN.out;omega
      have c1:wr.cell? ⟨g,jj,none⟩=some (.bool false):=(zq0 kb1).trans (kb2 jj hlt);have c2:wr.cell? ⟨g1,0,none⟩=some (.slice (some ⟨gb,0,none⟩) n n):=(zq0 HR.out.hg1).trans rfl;have c3:wr.cell? ⟨gb,jj,none⟩=some (.string x):=(zq0 HR.out.hgb).trans ((zq3s hlt).trans (by rw[k1]));have c4:wr.cell? ⟨w1,0,none⟩=some (.slice (some ⟨wb,0,none⟩) n n):=(zq0 HR.out.hw1).trans rfl;have c5:wr.cell? ⟨wb,jj,none⟩=some (.bool (decide (jj=win))):=(zq0 HR.out.hwb).trans ((zq3k hlt).trans (by rw[k2]));have c6:wr.cell? ⟨vb,0,none⟩=some (.slice (some ⟨gv,off,none⟩) vl vC):=(zq0 HR.out.hvb).trans rfl;have c7:wr.cell? ⟨gv,off+jj,none⟩=some (.string (strs jj)):=(zq16 (HR.out.be.2 gv (zqe hg))).trans ((zq0 hg).trans (hcur jj hvl));have hvl':(jj:Int)<(vl:Int):=by omega
      have HG:=Lib.hid (And.intro hg (And.intro hcur (And.intro kb1 (And.intro kb2 (And.intro k1 (And.intro k2 (And.intro hvl hkk)))))));clear hg hcur kb1 kb2 k1 k2 hvl hkk;have HLT:=Lib.hid hlt;clear hlt
      by_cases hjw:jj=win
      . have hsw:strs jj=x:=by rw[hjw];exact HK.out.2.2.1
        rw[hsw]at c7;rw[decide_eq_true hjw]at c5;have hnl:¬win<jj:=by omega
        simp only[if_neg hnl];have HJW:=Lib.hid (And.intro hjw (And.intro hsw hnl));clear hjw hsw hnl;go_wp2;go_roundg (n - (jj+1))
        case measure=>have:=HLT.out;have:=HG.out.2.2.2.2.2.2.2;omega
        case rel=>exact⟨jj+1,rfl,by have:=HLT.out;omega,congrArg (Value.int .i64) (by have:=HLT.out;have:=HN6.out;simp only[wrap64];omega),by rw[if_pos (by have:=HJW.out.1;omega)],HWR.out⟩
      . rw[decide_eq_false hjw]at c5;have HJW:=Lib.hid hjw;clear hjw;obtain⟨tv,htv⟩:∃tv:Int,(if win<jj then 1 else 0)=tv:=⟨_,rfl⟩;rw[htv];have HTV:=Lib.hid htv;clear htv;go_wp2;go_roundg (n - (jj+1))
        case measure=>have:=HLT.out;have:=HG.out.2.2.2.2.2.2.2;omega
        case rel=>
         refine⟨jj+1,rfl,by have:=HLT.out;omega,congrArg (Value.int .i64) (by have:=HLT.out;have:=HN6.out;simp only[wrap64];omega),congrArg (Value.int .i64) (HTV.out.symm.trans ?_),HWR.out⟩;have:=HJW.out
         by_cases hc:win<jj
         . rw[if_pos hc,if_pos (by omega)]
         . rw[if_neg hc,if_neg (by omega)]
    . obtain rfl:jj=n:=by omega
      rw[if_pos HK.out.1];obtain⟨oo,rfl,co⟩:=HR.out.row win HK.out.2.2.2;have c4:wr.cell? ⟨w1,0,none⟩=some (.slice (some ⟨wb,0,none⟩) jj jj):=(zq0 HR.out.hw1).trans rfl;have c5:wr.cell? ⟨wb,win,none⟩=some (.bool true):=(zq0 HR.out.hwb).trans ((zq3k HK.out.1).trans (by rw[(HK.out.2.1 win HK.out.1).2,decide_eq_true rfl]));have hwl:(win:Int)<(jj:Int):=by have:=HK.out.1;omega
      have hw0:(0:Int)<=(win:Int):=by omega
      have hol:(0:Int)<(on:Int):=by have:=HON.out;omega
      clear hw hlt
      go_wp2_with (fail)
      go_quiet (fail)
      go_wp2;refine bodyPost_ret (v:=.bool true) ?_ rfl ⟨_,rfl,HEN.out _ ⟨HR.out.be.1,HR.out.be.2⟩⟩;simp only[results,Try.f6];simp[go_sem]
section
variable {S:Type} {N most:Nat}
theorem zqd7{ov:Nat->Bool}:∀{N:Nat},leftN ov N=0->∀i,i<N->ov i=true:=by
 intro N
 induction N with
 |zero=>exact λ_ i hi=>absurd hi (Nat.not_lt_zero _)
 |succ N ih=>
  intro h i hi;unfold leftN at h
  by_cases e:i=N
  . subst e;cases ho:ov i with
    |true=>rfl
    |false=>rw[ho]at h;simp at h
  . exact ih (by omega) i (by omega)
theorem zq4o{ov:Nat->Bool}:∀{N:Nat},0<leftN ov N->∃i,i<N/\ov i=false:=by
 intro N
 induction N with
 |zero=>exact λh=>absurd h (Nat.not_lt_zero _)
 |succ N ih=>
  intro h;unfold leftN at h;cases ho:ov N with
  |false=>exact⟨N,Nat.lt_succ_self _,ho⟩
  |true=>
   rw[ho]at h;obtain⟨i,hi,h2⟩:=ih (by simpa using h);exact⟨i,by omega,h2⟩
theorem zqho(x:Int)(a:TSt S):a.ord.length<=(zq1y N most x a).ord.length:=by
 unfold zq1y;split
 . exact Nat.le_refl _
 . show _<=(a.ord++[x.toNat]).length;simp
theorem zqhu:∀(l:List Int)(a:TSt S),a.ord.length<=(zq2r N most l a).ord.length:=by
 intro l
 induction l with
 |nil=>exact λa=>Nat.le_refl _
 |cons x l ih=>exact λa=>Nat.le_trans (zqho x a) (ih _)
theorem zqhv:∀(l:List Int)(a:TSt S),(∃x,x∈l/\0<=x/\x<(N:Int)/\a.ov x.toNat=false)->a.ord.length≠most->a.ord.length<(zq2r N most l a).ord.length:=by
 intro l
 induction l with
 |nil=>rintro a ⟨x,hx,_⟩ _;cases hx
 |cons y l ih=>
  rintro a ⟨x,hx,h1,h2,h3⟩ hm;show a.ord.length<(zq2r N most l (zq1y N most y a)).ord.length
  by_cases hc:y<0\/(N:Int)<=y\/a.ov y.toNat=true\/a.ord.length=most
  . rw[show zq1y N most y a=a from if_pos hc];rcases List.mem_cons.1 hx with rfl |hx
    . rcases hc with hc|hc|hc|hc
      . omega
      . omega
      . rw[h3]at hc;cases hc
      . exact absurd hc hm
    . exact ih a ⟨x,hx,h1,h2,h3⟩ hm
  . refine Nat.lt_of_lt_of_le ?_ (zqhu l _);rw[show zq1y N most y a=turnT y.toNat (goT (a.t y.toNat) a.s) a (a.ord++[y.toNat])from if_neg hc];show a.ord.length<(a.ord++[y.toNat]).length;simp
theorem sum_upd(c:Nat->Nat){j:Nat}:∀{n:Nat},j<n->((List.range n).map (upd' c j (c j+1))).sum=((List.range n).map c).sum+1:=by
 intro n
 induction n with
 |zero=>exact λh=>absurd h (Nat.not_lt_zero _)
 |succ n ih=>
  intro h;rw[List.range_succ,List.map_append,List.map_append,List.sum_append,List.sum_append];simp only[List.map_cons,List.map_nil,List.sum_cons,List.sum_nil,Nat.add_zero]
  by_cases e:j=n
  . subst e;rw[upd'_same];have:(List.range j).map (upd' c j (c j+1))=(List.range j).map c:=List.map_congr_left λi hi=>zqj _ _ (by have:=List.mem_range.1 hi;omega);rw[this];omega
  . rw[ih (by omega),zqj _ _ (Ne.symm e)];omega
theorem sum_le{c:Nat->Nat}:∀{n:Nat},(∀i,i<n->c i<=2)->((List.range n).map c).sum<=2*n:=by
 intro n
 induction n with
 |zero=>exact λ_=>Nat.le_refl _
 |succ n ih=>
  intro h;rw[List.range_succ,List.map_append,List.sum_append];simp only[List.map_cons,List.map_nil,List.sum_cons,List.sum_nil,Nat.add_zero];have:=ih λi hi=>h i (by omega);have:=h n (by omega);omega
theorem sum_ge{c:Nat->Nat}:∀{n:Nat},(∀i,i<n->1<=c i)->n<=((List.range n).map c).sum:=by
 intro n
 induction n with
 |zero=>exact λ_=>Nat.le_refl _
 |succ n ih=>
  intro h;rw[List.range_succ,List.map_append,List.sum_append];simp only[List.map_cons,List.map_nil,List.sum_cons,List.sum_nil,Nat.add_zero];have:=ih λi hi=>h i (by omega);have:=h n (by omega);omega
end
def tA(i:Nat)(v:ByteArray):Tree (BoxS×ResS) Unit:=(thrB i v stB0).2
def tB(i:Nat)(v:ByteArray):Tree (BoxS×ResS) Unit:=(goT (tA i v) ((some noStr,λ_=>false),(λ_=>noStr,λ_=>false))).2
theorem thrB_is(i:Nat)(v:ByteArray)(s:BoxS×ResS):thrB i v s=(s,tA i v):=rfl
theorem tA_ret(i:Nat)(v:ByteArray):(tA i v).isRet=false:=rfl
theorem tB_ret(i:Nat)(v:ByteArray):(tB i v).isRet=false:=rfl
theorem goA_none{i:Nat}{v:ByteArray}{s:BoxS×ResS}(h:s.1.1=none):goT (tA i v) s=(((some v,s.1.2),(upd' s.2.1 i v,upd' s.2.2 i true)),.ret ()):=by
 obtain⟨⟨b,seen⟩,got,won⟩:=s;cases (show b=none from h);rfl
theorem goA_some{i:Nat}{v x:ByteArray}{s:BoxS×ResS}(h:s.1.1=some x):goT (tA i v) s=(((some x,upd' s.1.2 i true),s.2),tB i v):=by
 obtain⟨⟨b,seen⟩,got,won⟩:=s;cases (show b=some x from h);rfl
theorem goB{i:Nat}{v:ByteArray}{s:BoxS×ResS}:goT (tB i v) s=((s.1,(upd' s.2.1 i (s.1.1.getD v),upd' s.2.2 i false)),.ret ()):=rfl
structure InvB(n:Nat)(strs:Nat->ByteArray)(a:TSt (BoxS×ResS))(c:Nat->Nat):Prop where
 cls:∀i,i<n->(c i=0/\a.ov i=false/\a.t i=tA i (strs i))\/(c i=1/\a.ov i=false/\a.t i=tB i (strs i))\/((c i=1\/c i=2)/\a.ov i=true)
 len:a.ord.length=((List.range n).map c).sum
 fresh:a.ord=[]->a.s.1.1=none/\∀i,c i=0
 run:a.ord≠[]->∃x win,win<n/\a.s.1.1=some x/\strs win=x/\a.ord[0]?=some win/\a.ov win=true/\∀i,i<n->a.ov i=true->a.s.2.1 i=x/\a.s.2.2 i=decide (i=win)
section
variable {n most:Nat} {strs:Nat->ByteArray} {a:TSt (BoxS×ResS)} {c:Nat->Nat}
theorem InvB.le (h:InvB n strs a c):a.ord.length<=2*n:=by
 rw[h.len];refine sum_le λi hi=>?_;rcases h.cls i hi with h|h|h<;>omega
theorem turn_ov(i:Nat)(r:(BoxS×ResS)×Tree (BoxS×ResS) Unit)(a:TSt (BoxS×ResS))(ord:List Nat)(j:Nat):(turnT i r a ord).ov j=if r.2.isRet=true/\j=i then true else a.ov j:=by
 unfold turnT;cases r.2.isRet with
 |true=>simp
 |false=>simp
theorem InvB.step (h:InvB n strs a c){j:Nat}(hj:j<n)(ho:a.ov j=false):InvB n strs (turnT j (goT (a.t j) a.s) a (a.ord++[j])) (upd' c j (c j+1)):=by
 have hne:∀{l:List Nat},l++[j]≠[]:=λh=>by simp at h
 have hother:∀(r:(BoxS×ResS)×Tree (BoxS×ResS) Unit)i,i≠j->(turnT j r a (a.ord++[j])).ov i=a.ov i/\(turnT j r a (a.ord++[j])).t i=a.t i:=λr i e=>⟨by rw[turn_ov,if_neg λx=>e x.2],zqj _ _ e⟩;have hlen:(turnT j (goT (a.t j) a.s) a (a.ord++[j])).ord.length=((List.range n).map (upd' c j (c j+1))).sum:=by
  show(a.ord++[j]).length=_;rw[sum_upd c hj,<-h.len];simp
 have hcls:∀(P:(BoxS×ResS)×Tree (BoxS×ResS) Unit),((upd' c j (c j+1) j=1/\(turnT j P a (a.ord++[j])).ov j=false/\(turnT j P a (a.ord++[j])).t j=tB j (strs j))\/((upd' c j (c j+1) j=1\/upd' c j (c j+1) j=2)/\(turnT j P a (a.ord++[j])).ov j=true))->∀i,i<n->(upd' c j (c j+1) i=0/\(turnT j P a (a.ord++[j])).ov i=false/\(turnT j P a (a.ord++[j])).t i=tA i (strs i))\/(upd' c j (c j+1) i=1/\(turnT j P a (a.ord++[j])).ov i=false/\(turnT j P a (a.ord++[j])).t i=tB i (strs i))\/((upd' c j (c j+1) i=1\/upd' c j (c j+1) i=2)/\(turnT j P a (a.ord++[j])).ov i=true):=λP hP i hi=>by
  by_cases e:i=j
  . subst e;exact .inr hP
  . rw[(hother P i e).1,(hother P i e).2,zqj _ _ e];exact h.cls i hi
 rcases h.cls j hj with⟨c0,_,ht⟩|⟨c1,_,ht⟩|⟨_,h2⟩
 . rw[ht];rw[ht]at hlen
   by_cases hf:a.ord=[]
   . obtain⟨hs,hc⟩:=h.fresh hf;rw[goA_none hs]at hlen |-;refine⟨hcls _ (.inr ⟨.inl (by rw[upd'_same,c0]),by rw[turn_ov,if_pos ⟨rfl,rfl⟩]⟩),hlen,λe=>absurd e hne,λ_=>⟨strs j,j,hj,rfl,rfl,by show(a.ord++[j])[0]?=_;rw[hf];rfl,by rw[turn_ov,if_pos ⟨rfl,rfl⟩],λi hi ho'=>?_⟩⟩
     by_cases e:i=j
     . subst e;exact⟨upd'_same _ _ _,(upd'_same _ _ _).trans (decide_eq_true rfl).symm⟩
     . exfalso;rw[(hother _ i e).1]at ho';rcases h.cls i hi with h3|h3|h3
       . rw[h3.2.1]at ho';cases ho'
       . rw[h3.2.1]at ho';cases ho'
       . have:=hc i;omega
   . obtain⟨x,win,hw,hs,hsw,h0,how,hall⟩:=h.run hf;rw[goA_some hs]at hlen |-;have hov:∀i,(turnT j (((some x,upd' a.s.1.2 j true),a.s.2),tB j (strs j)) a (a.ord++[j])).ov i=a.ov i:=λi=>by rw[turn_ov,if_neg λx=>by have:=x.1;rw[tB_ret]at this;cases this]
     refine⟨hcls _ (.inl ⟨by rw[upd'_same,c0],by rw[hov];exact ho,upd'_same _ _ _⟩),hlen,λe=>absurd e hne,λ_=>⟨x,win,hw,rfl,hsw,?_,by rw[hov];exact how,λi hi ho'=>?_⟩⟩
     . show(a.ord++[j])[0]?=_;rw[List.getElem?_append_left (List.length_pos_iff.2 hf)];exact h0
     . rw[hov]at ho';exact hall i hi ho'
 . rw[ht];rw[ht]at hlen;have hf:a.ord≠[]:=λhf=>by have:=(h.fresh hf).2 j;omega
   obtain⟨x,win,hw,hs,hsw,h0,how,hall⟩:=h.run hf;rw[goB]at hlen |-;refine⟨hcls _ (.inr ⟨.inr (by rw[upd'_same,c1]),by rw[turn_ov,if_pos ⟨rfl,rfl⟩]⟩),hlen,λe=>absurd e hne,λ_=>⟨x,win,hw,hs,hsw,?_,?_,λi hi ho'=>?_⟩⟩
   . show(a.ord++[j])[0]?=_;rw[List.getElem?_append_left (List.length_pos_iff.2 hf)];exact h0
   . rw[turn_ov];split<;>first|rfl |exact how
   . by_cases e:i=j
     . subst e;refine⟨(upd'_same _ _ _).trans (by rw[hs];rfl),(upd'_same _ _ _).trans (decide_eq_false λe2=>?_).symm⟩;subst e2;rw[ho]at how;cases how
     . rw[(hother _ i e).1]at ho';obtain⟨k1,k2⟩:=hall i hi ho';exact⟨(zqj _ _ e).trans k1,(zqj _ _ e).trans k2⟩
 . rw[ho]at h2;cases h2
theorem InvB.step1 (h:InvB n strs a c)(x:Int):∃c,InvB n strs (zq1y n most x a) c:=by
 unfold zq1y;split
 . exact⟨c,h⟩
 . next hn=>
   refine⟨_,h.step (by omega) ?_⟩;cases e:a.ov x.toNat with
   |true=>exact absurd (.inr (.inr (.inl e))) hn
   |false=>rfl
theorem InvB.steps:∀(l:List Int){a:TSt (BoxS×ResS)}{c:Nat->Nat},InvB n strs a c->∃c,InvB n strs (zq2r n most l a) c:=by
 intro l
 induction l with
 |nil=>exact λh=>⟨_,h⟩
 |cons x l ih=>
  intro a c h;obtain⟨c',h'⟩:=h.step1 (most:=most) x;exact ih h'
theorem InvB.rounds (hm:2*n<most):∀(f:Nat){a:TSt (BoxS×ResS)}{c:Nat->Nat},InvB n strs a c->2*n<a.ord.length+f->∃c,InvB n strs (zq2c n most f a) c/\leftN (zq2c n most f a).ov n=0:=by
 intro f
 induction f with
 |zero=>intro a c h hf;have:=h.le;omega
 |succ f ih=>
  intro a c h hf;unfold zq2c;split
  . next hc=>
    obtain⟨c',h'⟩:=h.steps (most:=most) (upto n);obtain⟨i,hi,ho⟩:=zq4o hc.1;have:=zqhv (N:=n) (most:=most) (upto n) a ⟨(i:Int),by unfold upto;exact List.mem_map.2 ⟨i,List.mem_range.2 hi,rfl⟩,by omega,by omega,by simpa using ho⟩ (by omega);exact ih h' (by omega)
  . next hc=>
    have:=h.le;exact⟨c,h,by omega⟩
theorem beginB:∀m,(zq1f (λi=>thrB i (strs i)) stB0 m).s=stB0/\(zq1f (λi=>thrB i (strs i)) stB0 m).ord=[]/\(∀i,(zq1f (λi=>thrB i (strs i)) stB0 m).ov i=false)/\∀i,i<m->(zq1f (λi=>thrB i (strs i)) stB0 m).t i=tA i (strs i):=by
 intro m
 induction m with
 |zero=>exact⟨rfl,rfl,λ_=>rfl,λi hi=>absurd hi (Nat.not_lt_zero _)⟩
 |succ m ih=>
  obtain⟨h1,h2,h3,h4⟩:=ih;unfold zq1f;rw[thrB_is];refine⟨h1,h2,λi=>?_,λi hi=>?_⟩
  . rw[turn_ov,if_neg λx=>by have:=x.1;rw[tA_ret]at this;cases this];exact h3 i
  . show upd' _ m (tA m (strs m)) i=_
    by_cases e:i=m
    . subst e;exact upd'_same _ _ _
    . rw[zqj _ _ e];exact h4 i (by omega)
theorem play_law{n:Nat}(hn:n<=6)(strs:Nat->ByteArray)(sched:List Int):LawB n strs (playB n strs sched):=by
 obtain⟨h1,h2,h3,h4⟩:=beginB (strs:=strs) n;have h0:InvB n strs (zq1f (λi=>thrB i (strs i)) stB0 n) (λ_=>0):=by
  refine⟨λi hi=>.inl ⟨rfl,h3 i,h4 i hi⟩,?_,λ_=>⟨by rw[h1];rfl,λ_=>rfl⟩,λh=>absurd h2 h⟩;rw[h2];have:∀m:Nat,((List.range m).map λ_=>0).sum=0:=λm=>by
   induction m with
   |zero=>rfl
   |succ m ih=>rw[List.range_succ,List.map_append,List.sum_append,ih];rfl
  exact(this n).symm
 obtain⟨c1,h5⟩:=h0.steps (most:=100) sched;obtain⟨c,h,hl⟩:=h5.rounds (most:=100) (by omega) 101 (by omega);have hP:playB n strs sched=zq2c n 100 101 (zq2r n 100 sched (zq1f (λi=>thrB i (strs i)) stB0 n)):=rfl;rw[<-hP]at h hl;generalize playB n strs sched=r at h hl |-;have hall:=zqd7 hl;refine⟨hl,⟨?_,h.le⟩,λe=>?_,λhpos=>?_⟩
 . rw[h.len];refine sum_ge λi hi=>?_;rcases h.cls i hi with h6|h6|h6
   . rw[hall i hi]at h6;cases h6.2.1
   . omega
   . omega
 . refine(h.fresh ?_).1;have:=h.le;exact List.length_eq_zero_iff.1 (by omega)
 . have hf:r.ord≠[]:=λhf=>by
    have:=(h.fresh hf).2 0;rcases h.cls 0 hpos with h6|h6|h6
    . rw[hall 0 hpos]at h6;cases h6.2.1
    . omega
    . omega
   obtain⟨x,win,hw,hs,hsw,h0,how,hk⟩:=h.run hf;exact⟨x,win,hw,hs,λk hk'=>hk k hk' (hall k hk'),hsw,h0⟩
end
end Go.Proofs
namespace Go.Proofs.Ytkdlklpffdlglaa
open Go Go.Conc Go.RowKit Go.Car Go.ChangeShapes Go.WideShapes Go.ChangeAt Go.Deep
theorem zq6u{w:World}{g k:Nat}{v:Value}(h:w.cell? ⟨g,k,none⟩=some v):∃c e fr,w.heap[g]?=some (.cells c e fr)/\c[k]?=some v:=by
 cases ho:w.heap[g]? with
 |none=>simp[World.cell?,ho]at h
 |some o=>
  cases o with
  |cells c e fr=>exact⟨c,e,fr,rfl,by simpa[World.cell?,ho]using h⟩
  |_=>simp[World.cell?,ho]at h
theorem strs_arg{H:Type}{enc:TypeId×Value->H}{W:World}{base:Nat}{v:Value}{d:DataW H}{p:List MemPlace}(hok:Value.okWide Try.prog W .any base 59 v)
 (h:DataW.Trod enc Try.prog W 0 (λ_=>true) true 59 v d p) (hb:Rows.uptoBulk d<=1048576):∃vp vl vC,∃strs:Nat->ByteArray,v=.slice vp vl vC/\vl<=4611686018427387904/\(0<vl->∃g off cur e fr,vp=some ⟨g,off,none⟩/\W.heap[g]?=some (.cells cur e fr)/\∀i,i<vl->cur[off+i]?=some (.string (strs i))):=by
 obtain⟨a,len,cap,rfl⟩:=okWide_slice (e:=9) (by kernel_rfl) hok;obtain⟨fuel,hf⟩:=h;have h0:DataW.trod enc Try.prog W 0 (λ_=>true) true fuel 59 [.slice a len cap]=some (d,p):=by simpa[Value.cells]using hf
 rcases open_slice1 (e:=9) (by kernel_rfl) (by kernel_rfl) h0 with⟨e,_⟩|⟨a',len',cap',m,n,V,D,Pl,e,_,hl,hm,hmm,hd,hx⟩
 . simp only[List.cons.injEq,Value.slice.injEq,and_true]at e;obtain⟨rfl,rfl,rfl⟩:=e;exact⟨none,0,0,λ_=>noStr,rfl,by decide,λh=>absurd h (Nat.lt_irrefl _)⟩
 . simp only[List.cons.injEq,Value.slice.injEq,and_true]at e;obtain⟨rfl,rfl,rfl⟩:=e;have hm':len<=m:=by rw[hmm];split<;>omega
   have hlen:len<=4611686018427387904:=by
    have h2:=zq6s d;rw[(Prod.mk.inj hd).1]at h2 hb;simp only[lenD,List.length_map,List.length_range]at h2;omega
   refine⟨some a',len,cap,λi=>match V i with|.string s=>s|_=>noStr,rfl,hlen,λhpos=>?_⟩;have hV:∀i,i<len->V i=.string (match V i with|.string s=>s|_=>noStr):=λi hi=>by
    obtain⟨s,e1,_⟩:=DataW.trod_string (by kernel_rfl) (hx i (by omega)).2;simp only[List.cons.injEq,and_true]at e1;rw[e1]
   have hs:=zq8l (hx 0 (by omega)).1;obtain⟨g,off,sp⟩:=a';simp only at hs;subst hs;have hc:∀i,i<len->W.cell? ⟨g,off+i,none⟩=some (.string (match V i with|.string s=>s|_=>noStr)):=λi hi=>by
    have:=(hx i (by omega)).1;rw[add_at rfl,hV i hi]at this;exact this
   obtain⟨c,e,fr,h1,_⟩:=zq6u (hc 0 hpos);refine⟨g,off,c,e,fr,rfl,h1,λi hi=>?_⟩;obtain⟨c',e',fr',h3,h4⟩:=zq6u (hc i hi);rw[h1]at h3;cases h3;exact h4
theorem obx_run{Post:Value->World->Prop}(hPost:∀v w τ d,Post v w->Post v (re w τ d)){W:World}{vp sp:Option Addr}{vl vC sC:Nat}{sched:List Int}{strs:Nat->ByteArray}(hvl:vl<=4611686018427387904)(hv:0<vl->∃g off cur e fr,vp=some ⟨g,off,none⟩/\W.heap[g]?=some (.cells cur e fr)/\∀i,i<vl->cur[off+i]?=some (.string (strs i)))
 (hsl:sched.length<=4611686018427387904) (hs:sched≠[]->∃sb off,sp=some ⟨sb,off,none⟩/\∀j x,sched[j]?=some x->W.cell? ⟨sb,off+j,none⟩=some (.int .i64 x)) (hend:∀w',Beyond W w'->Post (.bool true) w'):
 FinOf Try.prog Post (solo (G (Frame.enter Try.prog 6 #[.slice vp vl vC,.slice sp sched.length sC] .normal) []) W) #[]:=by
 refine j0_run Try.func6 rfl ?_;have hFin:=zq5a (P:=Try.prog) Post;refine zqdj hFin (n:=min vl 6) rfl hvl ?_;intro vb bb tb g1 w1 gb wb kb fv y10 y30 y31 y32 y33 y34 y35 y36 w hP;refine zqdk hFin rfl hv hsl hs hP ?_;intro fp fC op on oC g gC p seen stuck w2 hst hon hB;exact zqdl hPost rfl hv hend (play_law (Nat.min_le_right _ _) strs sched) hst hon hB
theorem zqdo(os:Os)(started:os.Started)(H:Type)(enc:TypeId×Value->H)(F:Stop.Interp):
 ReturnsInLeavingWide {} Try.checked os 6 .any ((Rows.OpenSpec.upto Rows.onceBoxSpec).pre6 enc Try.prog Try.f6 Rows.onceBoxUptoRow.domain false) (((Rows.OpenSpec.upto Rows.onceBoxSpec).at F).post enc Try.prog Try.f6 false true false false):=by
 refine zqd6 (C:=Try.checked) (s:=Rows.OpenSpec.upto Rows.onceBoxSpec) (k:=Rows.uptoSmall) rfl own_knob started Try.func6
  (OpenSpec.witness (enc:=enc) (C:=Try.checked) (s:=Rows.OpenSpec.upto Rows.onceBoxSpec) (k:=Rows.uptoSmall) rfl false ⟨#[],#[.slice none 0 0,.slice none 0 0],[]⟩ 8 (by kernel_rfl) (by kernel_rfl) (by kernel_rfl)
   (x:=([.nil,.nil],[],[])) (by kernel_rfl) rfl (by kernel_rfl)) ?_
 intro W base args ds gs before hval0 hW hk;have hval:∀(j:Nat)t v,Try.f6.params[j]?=some t->args[j]?=some v->Value.okWide Try.prog W .any base t v:=hval0;have hW':=hW;obtain⟨p,q,hA0,hV,rfl,_,_⟩:=hW;have hA:DataW.TrodAll enc Try.prog W 0 (λ_=>true) true Try.f6.params.toList args.toList ds p:=hA0;rw[Try.params6]at hA hval;obtain⟨v0,v1,d0,d1,p0,p1,rfl,rfl,rfl,h0,h1⟩:=trodAll_two hA;obtain⟨rfl,rfl⟩:=trodVars_none hV;clear hA0 hval0;simp only[List.append_nil]at hW' hk;have hlt:∀x∈p0++p1,x.block<W.heap.size:=λx hx=>by simpa using hW'.lt x hx
 obtain⟨vp,vl,vC,strs,rfl,hvl,hv⟩:=strs_arg (hval 0 _ v0 rfl rfl) h0 (zq6t hk (by simp));obtain⟨scp,Cs,sched,rfl,i2,b2⟩:=ints_arg (e:=3) (by kernel_rfl) (by kernel_rfl) (by kernel_rfl) (hval 1 _ v1 rfl rfl) h1 (zq6t hk (by simp));have hs:sched≠[]->∃sb off,scp=some ⟨sb,off,none⟩/\∀j x,sched[j]?=some x->W.cell? ⟨sb,off+j,none⟩=some (.int .i64 x):=λhne=>by
  obtain⟨q,C,e,h3⟩:=i2;cases e;obtain⟨sb,off,e,h4⟩:=h3 hne;refine⟨sb,off,e,λj x hj=>?_⟩;have hlt:=(List.getElem?_eq_some_iff.1 hj).1;rw[h4 j hlt,List.getD_eq_getElem?_getD,hj];rfl
 obtain⟨M,last,o,w',t',r1,r2,r3,r4⟩:=obx_run (Post:=λv w'=>v=.bool true/\Beyond W w') (λv w τ d h=>⟨h.1,h.2.1,h.2.2⟩) (vC:=vC) (sC:=Cs) hvl hv (by omega) hs (λw' h=>⟨rfl,h⟩);refine⟨M,last,o,w',t',r1,r2,r3,r4.mono λv hF=>?_⟩;obtain⟨⟨rfl,hb⟩,ho,hu⟩:=hF;have same:∀{t:TypeId}(hr:Try.prog.readableRec t=true)(hrow:t<Try.prog.types.size){v:Value}{d:DataW H}{ps:List MemPlace}(h:DataW.Trod enc Try.prog W 0 (λ_=>true) true t v d ps)(hlt:∀x∈ps,x.block<W.heap.size),DataW.Trod enc Try.prog w' 0 (λb=>decide (b<W.heap.size)) true t v d ps:=λhr hrow _ _ _ h hlt=>zqed hr hrow h hb hlt;refine⟨_,_,_,[],p0++p1,[],hW',trodAll_mk1 (shut_bool Try.underlying4 true),?_,rfl,zqd0 hb ho hu _,λh=>by cases h⟩;exact trodAll_mk2 (same (by kernel_rfl) (of_decide_eq_true (by kernel_rfl)) h0 λx hx=>hlt x (by simp[hx])) (same (by kernel_rfl) (of_decide_eq_true (by kernel_rfl)) h1 λx hx=>hlt x (by simp[hx]))
theorem onceBox_upto:Rows.OnceBoxUptoSaid:=
 zqcp 6 Try.f6 rfl rfl rfl rfl rfl rfl rfl ⟨rfl,rfl,rfl,rfl,rfl⟩ rfl rfl rfl rfl rfl (by kernel_rfl) Try.func6 (by kernel_rfl)
  (of_decide_eq_true (by kernel_rfl)) (by unfold Func.isWrapper;first|(rw[if_pos (by decide +kernel)];kernel_rfl)|(rw[if_neg (by decide +kernel)];exact⟨rfl,rfl⟩))
  (λos started H enc _ F=>zqdo os started H enc F)
end Go.Proofs.Ytkdlklpffdlglaa
