/- YtmgmbciplfkddaaESaf16: part 12 of the proof (the texts behind it, in order). -/
import Derived.Test.YtmgmbciplfkddaaS11
set_option maxHeartbeats 4000000
set_option maxRecDepth 100000
set_option linter.all false
namespace Go.Proofs
open Go Go.Conc Go.RowKit Go.Car
noncomputable def reT(n:Nat):Code:=tailN n (Try.f52.body.getD .skip)
theorem re0:Try.f52.body.getD .skip=.seq (headC (reT 0)) (.seq (headC (reT 1)) (.seq (headC (reT 2)) (reT 3))):=by kernel_rfl
section
variable {W0:World} {T:EpT} {m m':EpM} {wb vb:Nat} {tv:Value} {iv:Nat->Value} {W:SW} {w w':World}
theorem SAt.push (h:SAt W0 T m wb vb tv iv W w){k g cap g7 cap7:Nat}{cur:Array Value}{w7:World}(hg:w.heap[g]?=some (.cells cur 3))(hgv:g≠vb)(hcur:∀j,j<T.N->cur[j]?=some (.int .i64 (W.V j:Int)))
 (hown:w7.ownsRow W0.heap.size 90 4 (.slice (some ⟨g7,0,none⟩) (W.T.length+1) cap7) (W.T.length+1) (sthL iv W.T++[.int .i64 (W.T.length:Int),.int .i64 (k:Int),.slice (some ⟨g,0,none⟩) T.N cap,.bool false])) (hgr:w.grownBy w7 tv.ownBlock):
 SAt W0 T m wb vb (.slice (some ⟨g7,0,none⟩) (W.T.length+1) cap7) (λj=>if j=W.T.length then .slice (some ⟨g,0,none⟩) T.N cap else iv j) (W.ret k) (w7.setCell ⟨wb,2,none⟩ (.slice (some ⟨g7,0,none⟩) (W.T.length+1) cap7))/\w7.frozen? ⟨wb,2,none⟩=false/\w7.cell? ⟨wb,2,none⟩=some tv:=by
 have hne:∀(b:Nat)(c:Array Value)(ty:TypeId),w.heap[b]?=some (Obj.cells c ty)->ty≠90->w7.heap[b]?=w.heap[b]?:=λb c ty hc ht=>hgr.block b (zqs hc) λe=>by
  rcases h.row.2 with⟨hv,_⟩|⟨g2,cap2,cur2,hv,_,hg2,_⟩
  . rw[hv]at e;cases e
  . rw[hv]at e;cases e;rw[hc]at hg2;cases hg2;exact ht rfl
 have hw7:w7.heap[wb]?=_:=(hne _ _ _ h.wld (by decide)).trans h.wld;have hne2:∀(b:Nat)(c:Array Value)(ty:TypeId),w.heap[b]?=some (Obj.cells c ty)->ty≠90->ty≠87->(w7.setCell ⟨wb,2,none⟩ (.slice (some ⟨g7,0,none⟩) (W.T.length+1) cap7)).heap[b]?=w.heap[b]?:=λb c ty hc h1 h2=>
  (zql _ _ _ _ (zq2a hc h.wld h2)).trans (hne b c ty hc h1)
 refine⟨⟨h.ty,zq4h h.ty h.ep λb c ty hc hty=>hne2 b c ty hc (by rcases hty with rfl |rfl |rfl<;>decide) (by rcases hty with rfl |rfl |rfl<;>decide),?_,(hne2 _ _ _ h.vis (by decide) (by decide)).trans h.vis,⟨by rw[zqz];exact Nat.le_trans h.be.1 hgr.size,λb hb=>?_⟩,h.lo,?_,λn t ht=>?_⟩,zqh hw7,(zq1 (off:=2) hw7).trans rfl⟩
 . rw[zqy _ _ _ _ hw7];rfl
 . rw[zql _ _ _ _ (show b≠wb by have:=h.lo.1;omega),hgr.block b (Nat.lt_of_lt_of_le hb h.be.1) ?_]
   . exact h.be.2 b hb
   . intro e;rcases h.row.2 with⟨hv,_⟩|⟨g2,cap2,cur2,hv,hlo2,_⟩
     . rw[hv]at e;cases e
     . rw[hv]at e;have e2:b=g2:=Option.some.inj e;omega
 . have el:(W.ret k).T.length=W.T.length+1:=by show(W.T++[_]).length=_;simp
   have ex:sthL (λj=>if j=W.T.length then .slice (some ⟨g,0,none⟩) T.N cap else iv j) (W.ret k).T=sthL iv W.T++[.int .i64 (W.T.length:Int),.int .i64 (k:Int),.slice (some ⟨g,0,none⟩) T.N cap,.bool false]:=by
    show sthL _ (W.T++[_])=_;rw[zqhi (iv:=iv) (λj hj=>if_neg (by omega))];simp
   rw[el,ex];refine⟨hown.1,?_⟩;rcases hown.2 with⟨hv,_⟩|⟨g2,cap2,cur2,hv,h0,hg2,h3⟩
   . cases hv
   . cases hv;exact .inr ⟨g7,cap7,cur2,rfl,h0,(zql _ _ _ _ (zq2a hg2 hw7 (by decide))).trans hg2,h3⟩
 . change (W.T++[_])[n]?=some t at ht
   by_cases hn:n<W.T.length
   . rw[List.getElem?_append_left hn]at ht;obtain⟨g2,cur2,cap2,k1,k2,k3,k4⟩:=h.ins n t ht;exact⟨g2,cur2,cap2,(if_neg (by omega)).trans k1,(hne2 _ _ _ k2 (by decide) (by decide)).trans k2,k3,k4⟩
   . rw[List.getElem?_append_right (by omega)]at ht;have e:n=W.T.length:=by have:=(List.getElem?_eq_some_iff.1 ht).1;simp at this;omega
     subst e;simp at ht;subst ht;exact⟨g,cur,cap,if_pos rfl,(hne2 _ _ _ hg (by decide) (by decide)).trans hg,hgv,hcur⟩
end
def reF(wb k L:Nat)(e:Int)(v:Nat->Value):Array Value:=#[Value.pointer (some ⟨wb,0,none⟩),Value.int .i64 (k:Int),v 2,v 3,v 4,.int .i64 (L:Int),.int .i64 e,.int .i64 0,v 8,v 9,v 10,v 11,v 12,v 13,v 14,v 15,v 16,v 17,v 18,v 19,v 20,v 21,v 22,v 23,v 24,v 25,v 26,v 27,v 28,v 29,v 30,v 31,v 32,v 33,v 34,v 35,v 36,v 37,v 38,v 39,v 40,v 41,v 42,v 43,v 44]
theorem re_tail{W0:World}{T:EpT}{m:EpM}{wb vb k L:Nat}{tv:Value}{iv:Nat->Value}{W:SW}{w:World}{e:Int}{v:Nat->Value}(h:SAt W0 T m wb vb tv iv W w)(hpos:0<T.N)(hL:W.T.length=L)(hle:L<=4294967296):
 Code.wp Try.prog (reT 3) (bodyPost Try.prog Try.f52 λe w'=>∃v,e=.returned v/\v=.bool true/\∃tv' iv',SAt W0 T m wb vb tv' iv' (W.ret k) w') ⟨reF wb k L e v,[]⟩ w:=by
 obtain⟨u_,hu_⟩:∃c,reT 3=c:=⟨_,rfl⟩;have eu_:=hu_;rw[hu_];simp only[reT,headC,tailN,Try.f52,al_od]at eu_;subst eu_;clear hu_;have hNle:=h.ty.N;have HS:=Lib.hid h;have HL:=Lib.hid hL;have c1:=h.c1;have c2:=h.c2;have hvl:vb<w.heap.size:=zqs h.vis;obtain⟨ti,hti,hy0,hy1,hy2⟩:∃ti,Try.prog.info? 3=some ti/\ti.zero=some (.int .i64 0)/\ti.size=1/\ti.bytes=8:=⟨_,rfl,rfl,rfl,rfl⟩;have TI:=Lib.hid (And.intro hti (And.intro hy0 (And.intro hy1 hy2)));obtain⟨tj,htj,hz0,hz1,hz2⟩:∃ti,Try.prog.info? 90=some ti/\ti.zero=some (.agg #[.int .i64 0,.int .i64 0,.slice none 0 0,.bool false])/\ti.size=4/\ti.bytes=48:=⟨_,rfl,rfl,rfl,rfl⟩;have TJ:=Lib.hid (And.intro htj (And.intro hz0 (And.intro hz1 hz2)));have HLE:=Lib.hid hle;have HP:=Lib.hid (And.intro hpos hNle);clear hti hy0 hy1 hy2 htj hz0 hz1 hz2 h hL hle hpos hNle;unfold reF
 go_wp2_with (at_builtin;go_loud (refine wpList_append_lies _ rfl (.tmp 24) (.tmp 28) 24 rfl w.heap.size 3 ti (.int .i64 0) 1 8 (by kernel_rfl) TI.out.1 TI.out.2.1 TI.out.2.2.1 TI.out.2.2.2 rfl (by decide) (.slice none 0 0) 0 [] rfl (World.ownsRow_nil _ _ _ _) ⟨vb,0,none⟩ T.N T.N (visA T.N W.V).toList rfl (by unfold visA;simp) (World.news_of_block HS.out.vis) (λu hu=>by unfold visA at hu;simp only[List.mem_map]at hu;obtain⟨_,_,rfl⟩:=hu;rfl) HP.out.1 (by simp only[maxLen];have:=HP.out.2;omega) (by have:=HP.out.2;omega) (Nat.le_refl _) _ rfl ?next))
 case next=>
  intro g1 cap1 w1 hown1 hgrow1 hat1 hlt1;have hb1:Beyond w w1:=⟨hgrow1.size,λb hb=>hgrow1.block b hb (by intro e;cases e)⟩;obtain⟨cur1,h1a,h1b,h1c⟩:∃cur,w.heap.size<=g1/\w1.heap[g1]?=some (.cells cur 3)/\∀j,j<T.N->cur[j]?=some (.int .i64 (W.V j:Int)):=by
   rcases hown1.2 with⟨hv,_⟩|⟨g2,cap2,cur2,hv,h0,hg2,h3,h4,h5,h6⟩
   . cases hv
   . cases hv;refine⟨cur2,h0,hg2,λj hj=>?_⟩;have:=congrArg (λl=>l[j]?) h6;simp only[List.nil_append,Array.getElem?_toList,zq43 hj]at this;rw[List.getElem?_take,if_pos (by omega),Array.getElem?_toList]at this;exact this
  have HS1:=Lib.hid (HS.out.more hb1);have HG:=Lib.hid (And.intro h1b (And.intro (show g1≠vb by omega) h1c));have d2:w1.cell? ⟨wb,2,none⟩=some tv:=HS1.out.c2;obtain⟨pp,CC,htv,_⟩:=HS1.out.row';rw[HL.out]at htv;have HTV:=Lib.hid htv;clear hown1 hgrow1 hat1 hlt1 hb1 h1a h1b h1c c1 c2 hvl htv
  go_wp2_with (at_builtin;go_loud (refine wpList_append_lies _ rfl (.tmp 34) (.tmp 39) 85 rfl W0.heap.size 90 tj (.agg #[.int .i64 0,.int .i64 0,.slice none 0 0,.bool false]) 4 48 (by kernel_rfl) TJ.out.1 TJ.out.2.1 TJ.out.2.2.1 TJ.out.2.2.2 rfl (by decide) tv W.T.length (sthL iv W.T) rfl (zq1r HS1.out.row _) _ 1 1 [.int .i64 (W.T.length:Int),.int .i64 (k:Int),.slice (some ⟨g1,0,none⟩) T.N cap1,.bool false] (by rfl) rfl (by rw[HL.out];exact World.news_of_block (zq13 _ _)) (λu hu=>by simp only[List.mem_cons,List.not_mem_nil,or_false]at hu;rcases hu with rfl |rfl |rfl |rfl<;>rfl) (by decide) (by simp only[maxLen];have:=HLE.out;rw[HL.out];omega) (by have:=HLE.out;rw[HL.out];omega) (by rw[zq8];have:=HS1.out.be.1;omega) _ rfl ?next2))
  case next2=>
   intro g7 cap7 w7 hown7 hgrow7 hat7 hlt7;have hS7:=(HS1.out.more (Beyond.alloc w1 (.cells #[.int .i64 (W.T.length:Int),.int .i64 (k:Int),.slice (some ⟨g1,0,none⟩) T.N cap1,.bool false] 90))).push (k:=k) (zqt HG.out.1) HG.out.2.1 HG.out.2.2 hown7 (by rw[HL.out];exact hgrow7);have f7:=hS7.2.1;have c7:=hS7.2.2;have HS7:=Lib.hid hS7.1;clear hown7 hgrow7 hat7 hlt7 hS7 d2;go_wp2;go_ret;exact⟨_,rfl,rfl,_,_,HS7.out⟩
section
variable {Fin:Machine->Trace->Prop} {n:Nat} {W0:World} {T:EpT} {m:EpM} {wb vb:Nat} {tv:Value} {iv:Nat->Value} {W:SW} {w:World}
theorem zqel(hFin:Back Try.prog Fin){k c E:Nat}(hS:SAt W0 T m wb vb tv iv W w)(hI:SInv T.N c E m.s W)(hk:k<T.N)(hc:c<=4294967296){cl:Frame}{cs:List Frame}
 (hq:∀m' tv' iv' w',m'.s=zq2r m.s k W.T.length->SAt W0 T m' wb vb tv' iv' (W.ret k) w'->J0 Try.prog Fin n (G (cl.finish (.bool true)) cs) w'):J0 Try.prog Fin n (G (Frame.enter Try.prog 52 #[Value.pointer (some ⟨wb,0,none⟩),Value.int .i64 (k:Int)] .normal) (cl::cs)) w:=by
 have hJ:=j0_JS hFin;have hC:=zq15 hFin;have e:Frame.enter Try.prog 52 #[Value.pointer (some ⟨wb,0,none⟩),Value.int .i64 (k:Int)] .normal=(bN 52).at (zqm Try.f52 #[Value.pointer (some ⟨wb,0,none⟩),Value.int .i64 (k:Int)]) [.code ((Try.f52.body).getD .skip)]:=by kernel_rfl
 have ea:zqm Try.f52 #[Value.pointer (some ⟨wb,0,none⟩),Value.int .i64 (k:Int)]=⟨#[Value.pointer (some ⟨wb,0,none⟩),Value.int .i64 (k:Int),undef,undef,undef,undef,undef,undef,undef,undef,undef,undef,undef,undef,undef,undef,undef,undef,undef,undef,undef,undef,undef,undef,undef,undef,undef,undef,undef,undef,undef,undef,undef,undef,undef,undef,undef,undef,undef,undef,undef,undef,undef,undef,undef],[]⟩:=by kernel_rfl
 rw[e,ea,re0];clear e ea;obtain⟨L,hL⟩:∃L,W.T.length=L:=⟨_,rfl⟩;have hle:L<=4294967296:=by have:=hI.len;omega
 have HQ:=Lib.hid hq;have HI:=Lib.hid (And.intro hI hL);clear hq hI;refine hJ.ctl (s:=n) (λw=>stepG_seq) ?_;refine zqv hJ hC zqk (by kernel_rfl) (λt w'=>t=#[Value.pointer (some ⟨wb,0,none⟩),Value.int .i64 (k:Int),undef,undef,.bool false,undef,undef,undef,undef,undef,undef,undef,undef,undef,undef,undef,undef,undef,undef,undef,undef,undef,undef,undef,undef,undef,undef,undef,undef,undef,undef,undef,undef,undef,undef,undef,undef,undef,undef,undef,undef,undef,undef,undef,undef]/\SAt W0 T m wb vb tv iv W w') (λt w' τ d h=>⟨h.1,h.2.re τ d⟩) (by decide) (λτ d=>?_) ?_
 . have HS:=Lib.hid (hS.re τ d);generalize re w τ d=w at HS |-;clear hS;obtain⟨u_,hu_⟩:∃c,headC (reT 0)=c:=⟨_,rfl⟩;have eu_:=hu_;rw[hu_];simp only[reT,headC,tailN,Try.f52,al_od]at eu_;subst eu_;clear hu_;go_wp2;exact⟨rfl,rfl,HS.out⟩
 rintro t w1 ⟨rfl,hS1⟩;clear hS;refine hJ.ctl (s:=n) (λw=>stepG_seq) ?_;obtain⟨p,C,htv,_⟩:=hS1.row';refine zqv hJ hC zqk (by kernel_rfl) (λt w'=>t=#[Value.pointer (some ⟨wb,0,none⟩),Value.int .i64 (k:Int),undef,undef,.bool false,.int .i64 (L:Int),undef,undef,undef,Value.pointer (some ⟨wb,0,none⟩),Value.pointer (some ⟨wb,0,none⟩),.pointer (some ⟨wb,2,none⟩),tv,.int .i64 (L:Int),undef,undef,undef,undef,undef,undef,undef,undef,undef,undef,undef,undef,undef,undef,undef,undef,undef,undef,undef,undef,undef,undef,undef,undef,undef,undef,undef,undef,undef,undef,undef]/\SAt W0 T m wb vb tv iv W w') (λt w' τ d h=>⟨h.1,h.2.re τ d⟩) (by decide) (λτ d=>?_) ?_
 . have HS:=Lib.hid (hS1.re τ d);generalize re w1 τ d=w at HS |-;rw[hL]at htv;subst htv;have c2:=HS.out.c2;clear hS1;obtain⟨u_,hu_⟩:∃c,headC (reT 1)=c:=⟨_,rfl⟩;have eu_:=hu_;rw[hu_];simp only[reT,headC,tailN,Try.f52,al_od]at eu_;subst eu_;clear hu_;go_wp2;exact⟨rfl,rfl,HS.out⟩
 rintro t w2 ⟨rfl,hS2⟩;clear hS1;refine hJ.ctl (s:=n) (λw=>stepG_seq) ?_;obtain⟨u_,hu_⟩:∃c,headC (reT 2)=c:=⟨_,rfl⟩;have eu_:=hu_;rw[hu_];simp only[reT,headC,tailN,Try.f52,al_od]at eu_;subst eu_;clear hu_;refine hJ.ctl (s:=n) (λw=>stepG_region) ?_;refine zqg (s:=n) (by first|decide |omega) hJ (zqf _) false (.inr rfl) 0 6 6 rfl rfl rfl (by rfl) ?_;intro τ d;simp only[List.drop_succ_cons,List.drop_zero,List.take_succ_cons,List.take_zero];replace hS2:=hS2.re τ d;generalize re w2 τ d=w2 at hS2 |-;have c0:=hS2.c0;go_wp2;simp only[zq7];clear c0;refine zq14 (by decide) hJ (s:=n) rfl rfl (f:=24) (args:=#[Value.pointer (some ⟨T.db,0,none⟩),.nilIface,Value.int .i64 (k:Int),.int .i64 (L:Int)]) (λτ d=>?_) (λτ d=>?_) ?_
 . simp[go_sem,execOp,Act.eval,resolve,Deferred.ofValue,invoke,callFunc,Try.func24,Try.f24]
 . intro e he;simp[go_sem,execOp,Act.eval,resolve,Deferred.ofValue,invoke,callFunc,Try.func24,Try.f24,Sem.runT_eq]at he
 refine zq3j hFin hS2.ty hS2.ep hk (zqe3 (k:=k) (n:=L) (by have:=HI.out.1.thlen hk;unfold mostT;rw[HI.out.2]at this;omega)) (λR hY=>zq85 _ hY hk hS2.ty.N (L:Int)) ?_;intro m' w3 hm hA;have hS3:=hS2.aft hA;clear hA hS2;rw[Frame.finish_at]
 walk_nrm
 refine zqg (s:=n) (by first|decide |omega) hJ (zqf _) false (.inr rfl) 7 5 0 rfl rfl rfl (by rfl) ?_;intro τ d;simp only[List.drop_succ_cons,List.drop_zero,List.take_succ_cons,List.take_zero];replace hS3:=hS3.re τ d;generalize re w3 τ d=w3 at hS3 |-;go_wp2;simp only[zq7];refine hJ.ctl (s:=n) (λw=>stepG_region_end) ?_;refine zq32 hJ hC zqk (by kernel_rfl) (λv w'=>v=.bool true/\∃tv' iv',SAt W0 T m' wb vb tv' iv' (W.ret k) w') (λv w τ d h=>⟨h.1,by obtain⟨tv',iv',h⟩:=h.2;exact⟨tv',iv',h.re τ d⟩⟩) rfl Try.func52 (λτ d=>?_) ?_
 . have:=re_tail (k:=k) (v:=λi=>(#[Value.pointer (some ⟨wb,0,none⟩),Value.int .i64 (k:Int),undef,undef,.bool false,.int .i64 (L:Int),undef,undef,undef,Value.pointer (some ⟨wb,0,none⟩),Value.pointer (some ⟨wb,0,none⟩),.pointer (some ⟨wb,2,none⟩),tv,.int .i64 (L:Int),errV (m.s.e,0),Value.pointer (some ⟨wb,0,none⟩),Value.pointer (some ⟨wb,0,none⟩),.pointer (some ⟨wb,0,none⟩),Value.pointer (some ⟨T.db,0,none⟩),Value.int .i64 (k:Int),.int .i64 (L:Int),errV (m.s.e,0),.int .i64 m.s.e,.int .i64 0,undef,undef,undef,undef,undef,undef,undef,undef,undef,undef,undef,undef,undef,undef,undef,undef,undef,undef,undef,undef,undef]:Array Value).getD i undef) (e:=m.s.e) (hS3.re τ d) (by omega) hL hle;exact this
 . rintro v w' ⟨rfl,tv',iv',h⟩;exact HQ.out m' tv' iv' w' (by rw[hm,hL]) h
end
noncomputable def coT(n:Nat):Code:=tailN n (Try.f29.body.getD .skip)
theorem co0:Try.f29.body.getD .skip=.seq (headC (coT 0)) (.seq (headC (coT 1)) (coT 2)):=by kernel_rfl
theorem tm2(n:Nat):(n:Int).tmod 2=((n % 2:Nat):Int):=rfl
def LRow(l:List Int)(p:Option Addr)(w:World):Prop:=∀(j:Nat)(x:Int),l[j]?=some x->∃g cur,p=some ⟨g,0,none⟩/\w.heap[g]?=some (.cells cur 2)/\cur[j]?=some (.int .i64 x)
theorem LRow.keep {l:List Int}{p:Option Addr}{w w':World}(h:LRow l p w)(hk:∀(b:Nat)(c:Array Value),w.heap[b]?=some (.cells c 2)->w'.heap[b]?=w.heap[b]?):LRow l p w':=λj x hx=>by
 obtain⟨g,cur,h1,h2,h3⟩:=h j x hx;exact⟨g,cur,h1,(hk _ _ h2).trans h2,h3⟩
def coF(wb k L:Nat)(p:Option Addr)(C:Nat)(v:Nat->Value):Array Value:=#[Value.pointer (some ⟨wb,0,none⟩),Value.int .i64 (k:Int),v 2,v 3,.bool false,.slice p L C,.int .i64 0,v 7,v 8,v 9,v 10,v 11,v 12,v 13,v 14,v 15,v 16,v 17,v 18,v 19,v 20,v 21,v 22,v 23,v 24,v 25,v 26,v 27,v 28,v 29,v 30,v 31,v 32,v 33,v 34,v 35,v 36,v 37,v 38,v 39,v 40,v 41,v 42,v 43,v 44,v 45,v 46,v 47,v 48,v 49,v 50,v 51,v 52,v 53,v 54,v 55,v 56,v 57,v 58,v 59,v 60,v 61,v 62,v 63,v 64,v 65,v 66,v 67,v 68,v 69,v 70,v 71,v 72,v 73,v 74,v 75,v 76,v 77,v 78,v 79,v 80,v 81,v 82,v 83,v 84,v 85,v 86,v 87,v 88,v 89,v 90,v 91,v 92,v 93,v 94,v 95,v 96,v 97,v 98,v 99,v 100,v 101,v 102]
theorem co_tail{W0:World}{T:EpT}{m:EpM}{wb vb k L c E:Nat}{tv:Value}{iv:Nat->Value}{W:SW}{w:World}{s:EpS}{p:Option Addr}{C:Nat}{v:Nat->Value}(h:SAt W0 T m wb vb tv iv W w)(hI:SInv T.N c E s W)(hk:k<T.N)(hc:c<=4294967296){l:List Int}(hl:doneL s.e (s.th k)=l)(hL:l.length=L)(hle:L<=4294967296)(hr:LRow l p w):
 Code.wp Try.prog (coT 2) (bodyPost Try.prog Try.f29 λe w'=>∃v,e=.returned v/\v=.bool true/\SAt W0 T m wb vb tv iv ⟨W.V,backs l W.T⟩ w') ⟨coF wb k L p C v,[]⟩ w:=by
 obtain⟨u_,hu_⟩:∃c,coT 2=c:=⟨_,rfl⟩;have eu_:=hu_;rw[hu_];simp only[coT,headC,tailN,Try.f29,al_od]at eu_;subst eu_;clear hu_;have HI:=Lib.hid (And.intro hI (And.intro hk (And.intro hc hl)));have HL:=Lib.hid (And.intro hL hle);have HN:=Lib.hid h.ty.N;have h0:RowKit.Hid (SAt W0 T m wb vb tv iv ⟨W.V,backs (l.take 0) W.T⟩ w/\LRow l p w):=Lib.hid ⟨by rw[List.take_zero,zqb7];exact h,hr⟩;clear h hI hk hc hl hL hle hr;unfold coF
 go_wp2_with (fail)
 go_loopg [7,8,9] L (λq s7 s8 s9 wr=>∃(j:Nat),q=L - j/\j<=L/\s7=.int .i64 j/\SAt W0 T m wb vb tv iv ⟨W.V,backs (l.take j) W.T⟩ wr/\LRow l p wr)
 case atStart=>exact⟨0,rfl,Nat.zero_le _,rfl,h0.out⟩
 case round=>
  clear h0;obtain⟨j,hq,hj,rfl,hR⟩:=hrel;have HR:=Lib.hid hR;clear hR
  by_cases hlt:j<L
  . have hlt':(j:Int)<(L:Int):=by omega
    have hj0:(0:Int)<=j:=by omega
    obtain⟨x,hxj⟩:∃x,l[j]?=some x:=⟨_,List.getElem?_eq_getElem (by rw[HL.out.1];exact hlt)⟩;obtain⟨gl,curl,rfl,hgl,hcl⟩:=HR.out.2 j x hxj;obtain⟨nn,t,rfl,hT,hwho,hbk,hnin,hno⟩:=HI.out.1.done HI.out.2.1 (by have:=HI.out.2.2.1;unfold mostC;omega) (by rw[HI.out.2.2.2];exact hxj);rw[HI.out.2.2.2]at hnin;obtain⟨hTj,hset⟩:=zqb8 hT hnin;obtain⟨pt,Ct,htv,hthn⟩:=HR.out.1.row';obtain⟨gt,rfl,t0,t1,t2,t3,tf⟩:=hthn nn t hTj;rw[show(⟨W.V,backs (l.take j) W.T⟩:SW).T.length=W.T.length from zq3g _ _]at htv;have c2:wr.cell? ⟨wb,2,none⟩=some (.slice (some ⟨gt,0,none⟩) W.T.length Ct):=by rw[<-htv];exact HR.out.1.c2
    have l0:wr.cell? ⟨gl,j,none⟩=some (.int .i64 (nn:Int)):=(zq1 hgl).trans hcl;have hnl:nn<W.T.length:=(List.getElem?_eq_some_iff.1 hT).1;have n0:(0:Int)<=(nn:Int):=by omega
    have n1:(nn:Int)<(W.T.length:Int):=by omega
    have n2:¬(nn:Int)<0:=by omega
    have n3:¬(W.T.length:Int)<=(nn:Int):=by omega
    have hd0:decide ((nn:Int)<0)=false:=by simp
    rw[hbk]at t3;rw[hwho]at t1;have HT:=Lib.hid (And.intro hT (And.intro hTj (And.intro hset (And.intro hno (And.intro htv (And.intro hbk hwho))))));have HJ:=Lib.hid (And.intro hxj (And.intro hlt hq));clear hxj hq hlt hT hTj hset hno htv hthn hgl hcl hnin hbk hwho hnl
    go_wp2_with (fail)
    go_quiet (fail)
    go_wp2_with (fail)
    go_quiet (fail)
    go_wp2_with (fail)
    rename_i nqa hga;have HB:RowKit.Hid (SAt W0 T m wb vb tv iv ⟨W.V,backs (l.take (j+1)) W.T⟩ ((wr.drewN (nqa+nq)).setCell ⟨gt,nn*4+3,none⟩ (.bool true))/\LRow l (some ⟨gl,0,none⟩) ((wr.drewN (nqa+nq)).setCell ⟨gt,nn*4+3,none⟩ (.bool true))):=by
     obtain⟨q1,q2,q3,q4,q5,q6,q7⟩:=HT.out;have ht1:l.take (j+1)=l.take j++[(nn:Int)]:=by rw[List.take_add_one,HJ.out.1];rfl
     have hS:=HR.out.1.more (Beyond.drew wr (nqa+nq));have hlen:W.T.length=(⟨W.V,backs (l.take j) W.T⟩:SW).T.length:=(zq3g _ _).symm;rw[q5,hlen]at hS;have hS2:=hS.back q2;rw[<-hlen,<-q5]at hS2;have e3:(⟨W.V,(backs (l.take j) W.T).set nn {t with back:=true}⟩:SW)=⟨W.V,backs (l.take (j+1)) W.T⟩:=by rw[q3,ht1]
     refine⟨e3▸hS2,(HR.out.2.keep λb c hb=>(Beyond.drew wr (nqa+nq)).2 b (zqs hb)).keep λb c hb=>zql _ _ _ _ ?_⟩;obtain⟨_,h2⟩:=hS.row;rcases h2 with⟨hv,_⟩|⟨g',cap,cur,hv,_,hg,_⟩
     . cases hv
     . cases hv;exact zq2a hb hg (by decide)
    generalize (wr.drewN (nqa+nq)).setCell ⟨gt,nn*4+3,none⟩ (.bool true)=w8 at HB |-;have HT8:RowKit.Hid ((backs (l.take (j+1)) W.T)[nn]?=some {t with back:=true}):=Lib.hid (by
     have ht1:l.take (j+1)=l.take j++[(nn:Int)]:=by rw[List.take_add_one,HJ.out.1];rfl
     rw[ht1,<-HT.out.2.2.1,List.getElem?_set,if_pos rfl,if_pos (by rw[zq3g];exact(List.getElem?_eq_some_iff.1 HT.out.1).1)])
    clear t0 t1 t2 t3 tf c2 l0 hd0 hga n0 n1 n2 n3 HR
    go_loopg [9] T.N (λq s9 w9=>∃(i:Nat),q=T.N - i/\i<=T.N/\s9=.int .i64 i/\SAt W0 T m wb vb tv iv ⟨W.V,backs (l.take (j+1)) W.T⟩ w9/\LRow l (some ⟨gl,0,none⟩) w9)
    case atStart=>exact⟨0,rfl,Nat.zero_le _,rfl,HB.out⟩
    case round=>
     clear HB;obtain⟨i,hqi,hi,rfl,hR2⟩:=hrel;have HR:=Lib.hid hR2;clear hR2;obtain⟨pt,Ct2,htv2,hthn⟩:=HR.out.1.row';obtain⟨gt2,rfl,_,_,t2,_⟩:=hthn nn _ HT8.out;obtain rfl:gt2=gt:=by
      have e:=HT.out.2.2.2.2.1;rw[htv2]at e;injection e with e1 e2 e3
      injection e1 with e1
      injection e1
     obtain⟨gi,ci,hiv,hcells⟩:=HR.out.1.ins' HT8.out;rw[hiv]at t2;clear htv2 hthn;have HIV:=Lib.hid hiv;clear hiv
     by_cases hik:i<T.N
     . have hi0:(0:Int)<=(i:Int):=by omega
       have hi1:(i:Int)<(T.N:Int):=by omega
       have i0:wr.cell? ⟨gi,i,none⟩=some (.int .i64 (t.ins i:Int)):=hcells i hik;have v0:wr.cell? ⟨vb,i,none⟩=some (.int .i64 (W.V i:Int)):=HR.out.1.v hik;have c1:=HR.out.1.c1;have HK:=Lib.hid (And.intro hik hqi);clear hcells hik hqi
       by_cases hodd:t.ins i % 2=1
       . have hne:W.V i≠t.ins i:=λe=>HT.out.2.2.2.1 i HK.out.1 ⟨hodd,e⟩;have hne2:¬(W.V i:Int)=(t.ins i:Int):=by omega
         have hm:(t.ins i:Int).tmod 2=1:=(tm2 _).trans (by rw[hodd];rfl);have hd2:decide ((W.V i:Int)=(t.ins i:Int))=false:=by simp;omega
         clear hne
         go_wp2_with (fail)
         go_quiet (fail)
         go_wp2;go_roundg (T.N - (i+1))
         case measure=>have:=HK.out.1;have:=HK.out.2;omega
         case rel=>
          have hN:=HN.out;have hlt:=HK.out.1;exact⟨i+1,rfl,by omega,congrArg (Value.int .i64) (by simp only[wrap64];omega),HR.out.1.more (Beyond.drew wr _),HR.out.2.keep λb c hb=>(Beyond.drew wr _).2 b (zqs hb)⟩
       . have hm:(t.ins i:Int).tmod 2=0:=(tm2 _).trans (by rw[show t.ins i % 2=0 by omega];rfl)
         go_wp2_with (fail)
         go_quiet (fail)
         go_wp2;go_roundg (T.N - (i+1))
         case measure=>have:=HK.out.1;have:=HK.out.2;omega
         case rel=>
          have hN:=HN.out;have hlt:=HK.out.1;exact⟨i+1,rfl,by omega,congrArg (Value.int .i64) (by simp only[wrap64];omega),HR.out.1.more (Beyond.drew wr _),HR.out.2.keep λb c hb=>(Beyond.drew wr _).2 b (zqs hb)⟩
     . obtain rfl:i=T.N:=by omega
       clear hcells hik hi hqi;go_wp2;go_roundg (L - (j+1))
       case measure=>have:=HJ.out.2.1;have:=HJ.out.2.2;omega
       case rel=>
        have hle:=HL.out.2;have hlt:=HJ.out.2.1;exact⟨j+1,rfl,by omega,congrArg (Value.int .i64) (by simp only[wrap64];omega),HR.out⟩
  . obtain rfl:j=L:=by omega
    clear hlt hj hq;go_wp2;go_ret;have h9:=HR.out.1;rw[List.take_of_length_le (by rw[HL.out.1];exact Nat.le_refl _)]at h9;exact⟨_,rfl,rfl,h9⟩
section
variable {Fin:Machine->Trace->Prop} {n:Nat} {W0:World} {T:EpT} {m:EpM} {wb vb:Nat} {tv:Value} {iv:Nat->Value} {W:SW} {w:World}
theorem zq8g(hFin:Back Try.prog Fin){k c E:Nat}(hS:SAt W0 T m wb vb tv iv W w)(hI:SInv T.N c E m.s W)(hk:k<T.N)(hc:c<=4294967296){cl:Frame}{cs:List Frame}
 (hq:∀m' w',m'.s=collS m.s k->SAt W0 T m' wb vb tv iv (W.coll m.s k) w'->J0 Try.prog Fin n (G (cl.finish (.bool true)) cs) w'):J0 Try.prog Fin n (G (Frame.enter Try.prog 29 #[Value.pointer (some ⟨wb,0,none⟩),Value.int .i64 (k:Int)] .normal) (cl::cs)) w:=by
 have hJ:=j0_JS hFin;have hC:=zq15 hFin;have e:Frame.enter Try.prog 29 #[Value.pointer (some ⟨wb,0,none⟩),Value.int .i64 (k:Int)] .normal=(bN 29).at (zqm Try.f29 #[Value.pointer (some ⟨wb,0,none⟩),Value.int .i64 (k:Int)]) [.code ((Try.f29.body).getD .skip)]:=by kernel_rfl
 have ea:zqm Try.f29 #[Value.pointer (some ⟨wb,0,none⟩),Value.int .i64 (k:Int)]=⟨#[Value.pointer (some ⟨wb,0,none⟩),Value.int .i64 (k:Int),undef,undef,undef,undef,undef,undef,undef,undef,undef,undef,undef,undef,undef,undef,undef,undef,undef,undef,undef,undef,undef,undef,undef,undef,undef,undef,undef,undef,undef,undef,undef,undef,undef,undef,undef,undef,undef,undef,undef,undef,undef,undef,undef,undef,undef,undef,undef,undef,undef,undef,undef,undef,undef,undef,undef,undef,undef,undef,undef,undef,undef,undef,undef,undef,undef,undef,undef,undef,undef,undef,undef,undef,undef,undef,undef,undef,undef,undef,undef,undef,undef,undef,undef,undef,undef,undef,undef,undef,undef,undef,undef,undef,undef,undef,undef,undef,undef,undef,undef,undef,undef],[]⟩:=by kernel_rfl
 rw[e,ea,co0];clear e ea;obtain⟨l,hl⟩:∃l,doneL m.s.e (m.s.th k)=l:=⟨_,rfl⟩;have hle:l.length<=4294967296:=by
  have:=(zq3h m.s.e (m.s.th k)).1;rw[hl]at this;have:=hI.thlen hk;have:=hI.len;omega
 have HQ:=Lib.hid hq;have HI:=Lib.hid hI;clear hq hI;refine hJ.ctl (s:=n) (λw=>stepG_seq) ?_;refine zqv hJ hC zqk (by kernel_rfl) (λt w'=>t=#[Value.pointer (some ⟨wb,0,none⟩),Value.int .i64 (k:Int),undef,undef,.bool false,undef,undef,undef,undef,undef,undef,undef,undef,undef,undef,undef,undef,undef,undef,undef,undef,undef,undef,undef,undef,undef,undef,undef,undef,undef,undef,undef,undef,undef,undef,undef,undef,undef,undef,undef,undef,undef,undef,undef,undef,undef,undef,undef,undef,undef,undef,undef,undef,undef,undef,undef,undef,undef,undef,undef,undef,undef,undef,undef,undef,undef,undef,undef,undef,undef,undef,undef,undef,undef,undef,undef,undef,undef,undef,undef,undef,undef,undef,undef,undef,undef,undef,undef,undef,undef,undef,undef,undef,undef,undef,undef,undef,undef,undef,undef,undef,undef,undef]/\SAt W0 T m wb vb tv iv W w') (λt w' τ d h=>⟨h.1,h.2.re τ d⟩) (by decide) (λτ d=>?_) ?_
 . have HS:=Lib.hid (hS.re τ d);generalize re w τ d=w at HS |-;clear hS;obtain⟨u_,hu_⟩:∃c,headC (coT 0)=c:=⟨_,rfl⟩;have eu_:=hu_;rw[hu_];simp only[coT,headC,tailN,Try.f29,al_od]at eu_;subst eu_;clear hu_;go_wp2;exact⟨rfl,rfl,HS.out⟩
 rintro t w2 ⟨rfl,hS2⟩;clear hS;refine hJ.ctl (s:=n) (λw=>stepG_seq) ?_;obtain⟨u_,hu_⟩:∃c,headC (coT 1)=c:=⟨_,rfl⟩;have eu_:=hu_;rw[hu_];simp only[coT,headC,tailN,Try.f29,al_od]at eu_;subst eu_;clear hu_;refine hJ.ctl (s:=n) (λw=>stepG_region) ?_;refine zqg (s:=n) (by first|decide |omega) hJ (zqf _) false (.inr rfl) 0 5 6 rfl rfl rfl (by rfl) ?_;intro τ d;simp only[List.drop_succ_cons,List.drop_zero,List.take_succ_cons,List.take_zero];replace hS2:=hS2.re τ d;generalize re w2 τ d=w2 at hS2 |-;have c0:=hS2.c0;go_wp2;simp only[zq7];clear c0;refine zq14 (by decide) hJ (s:=n) rfl rfl (f:=26) (args:=#[Value.pointer (some ⟨T.db,0,none⟩),.nilIface,Value.int .i64 (k:Int)]) (λτ d=>?_) (λτ d=>?_) ?_
 . simp[go_sem,execOp,Act.eval,resolve,Deferred.ofValue,invoke,callFunc,Try.func26,Try.f26]
 . intro e he;simp[go_sem,execOp,Act.eval,resolve,Deferred.ofValue,invoke,callFunc,Try.func26,Try.f26,Sem.runT_eq]at he
 refine zqc1 hFin hS2.ty hS2.ep hk coll_run (λR hY hYC=>zq6u _ hY hk hS2.ty.N hYC) ?_;rw[hl];rintro _ X m' w3 ⟨dv,rfl,hrow,_⟩ hm hA _;have hS3:=hS2.aft hA;obtain⟨p,C,rfl,hr⟩:∃p C,dv=.slice p l.length C/\LRow l p w3:=by
  rcases hrow.2 with⟨a,b,_⟩|⟨g,cap,cur,a,hX,h1,h2,h3,h4⟩
  . exact⟨none,0,by rw[a,b],λj x hx=>by have:=(List.getElem?_eq_some_iff.1 hx).1;omega⟩
  . refine⟨_,cap,a,λj x hx=>⟨g,cur,rfl,hA.x g _ (by rw[hX];exact if_pos rfl),?_⟩⟩;have hj:=(List.getElem?_eq_some_iff.1 hx).1;have:=congrArg (λl=>l[j]?) h4;simp only[List.getElem?_map,hx,Option.map_some]at this;rw[List.getElem?_take,if_pos (by omega),Array.getElem?_toList]at this;exact this
 clear hA hS2 hrow;obtain⟨L,hL⟩:∃L,l.length=L:=⟨_,rfl⟩;rw[hL]at hle |-;rw[Frame.finish_at]
 walk_nrm
 refine zqg (s:=n) (by first|decide |omega) hJ (zqf _) false (.inr rfl) 6 5 0 rfl rfl rfl (by rfl) ?_;intro τ d;simp only[List.drop_succ_cons,List.drop_zero,List.take_succ_cons,List.take_zero];replace hS3:=hS3.re τ d;replace hr:LRow l p (re w3 τ d):=hr;generalize re w3 τ d=w3 at hS3 hr |-;go_wp2;simp only[zq7];refine hJ.ctl (s:=n) (λw=>stepG_region_end) ?_;refine zq32 hJ hC zqk (by kernel_rfl) (λv w'=>v=.bool true/\SAt W0 T m' wb vb tv iv ⟨W.V,backs l W.T⟩ w') (λv w τ d h=>⟨h.1,h.2.re τ d⟩) rfl Try.func29 (λτ d=>?_) ?_
 . have:=co_tail (k:=k) (L:=L) (C:=C) (v:=λi=>(#[Value.pointer (some ⟨wb,0,none⟩),Value.int .i64 (k:Int),undef,undef,.bool false,undef,undef,undef,undef,undef,.tuple #[.slice p L C,.int .i64 0],Value.pointer (some ⟨wb,0,none⟩),Value.pointer (some ⟨wb,0,none⟩),.pointer (some ⟨wb,0,none⟩),Value.pointer (some ⟨T.db,0,none⟩),Value.int .i64 (k:Int),.tuple #[.slice p L C,.int .i64 0],.slice p L C,.int .i64 0,undef,undef,undef,undef,undef,undef,undef,undef,undef,undef,undef,undef,undef,undef,undef,undef,undef,undef,undef,undef,undef,undef,undef,undef,undef,undef,undef,undef,undef,undef,undef,undef,undef,undef,undef,undef,undef,undef,undef,undef,undef,undef,undef,undef,undef,undef,undef,undef,undef,undef,undef,undef,undef,undef,undef,undef,undef,undef,undef,undef,undef,undef,undef,undef,undef,undef,undef,undef,undef,undef,undef,undef,undef,undef,undef,undef,undef,undef,undef,undef,undef,undef,undef,undef]:Array Value).getD i undef) (hS3.re τ d) HI.out hk hc hl hL hle (show LRow l p (re w3 τ d)from hr);exact this
 . rintro v w' ⟨rfl,h⟩;refine HQ.out m' w' hm ?_;unfold SW.coll;rw[hl];exact h
end
noncomputable def acT(n:Nat):Code:=tailN n (Try.f28.body.getD .skip)
theorem ac0:Try.f28.body.getD .skip=.seq (headC (acT 0)) (.seq (headC (acT 1)) (.seq (headC (acT 2)) (.seq (headC (acT 3)) (.seq (headC (acT 4)) (.seq (headC (acT 5)) (.seq (headC (acT 6)) (acT 7))))))):=by kernel_rfl
noncomputable def acB:Code:=zqj (sndC (headC (acT 6)))
noncomputable def acE:Nat->Code
 |0=>acB
 |j+1=>condE (sndC (acE j))
noncomputable def acA(j:Nat):Code:=condT (sndC (acE j))
theorem ac6s:headC (acT 6)=.seq (headC (headC (acT 6))) (.block 0 acB):=by kernel_rfl
theorem acE0:acB=.seq (headC (acE 0)) (.cond (.tmp 44) (acA 0) (acE 1)):=by kernel_rfl
theorem acE1:acE 1=.seq (headC (acE 1)) (.cond (.tmp 76) (acA 1) (acE 2)):=by kernel_rfl
theorem acE2:acE 2=.seq (headC (acE 2)) (.cond (.tmp 104) (acA 2) (acE 3)):=by kernel_rfl
theorem acE3:acE 3=.seq (headC (acE 3)) (.cond (.tmp 109) (acA 3) (acE 4)):=by kernel_rfl
theorem acE4:acE 4=.seq (headC (acE 4)) (.cond (.tmp 134) (acA 4) .skip):=by kernel_rfl
theorem acA0:acA 0=.seq (headC (acA 0)) (.seq (headC (tailN 1 (acA 0))) (.seq (headC (tailN 2 (acA 0))) (.cond (.tmp 66) (condT (tailN 3 (acA 0))) .skip))):=by kernel_rfl
theorem acA1:acA 1=.seq (headC (acA 1)) (.seq (headC (tailN 1 (acA 1))) (.seq (headC (tailN 2 (acA 1))) (.cond (.tmp 94) (condT (tailN 3 (acA 1))) .skip))):=by kernel_rfl
theorem acA3:acA 3=.seq (headC (acA 3)) (tailN 1 (acA 3)):=by kernel_rfl
def acF(wb k N bb:Nat)(inn:Bool)(e0 kind:Int)(aV ok:Value)(v:Nat->Value):Array Value:=#[Value.pointer (some ⟨wb,0,none⟩),aV,v 2,.pointer (some ⟨bb,0,none⟩),v 4,.int .i64 (N:Int),Value.int .i64 (k:Int),.bool inn,.int .i64 e0,ok,v 10,v 11,v 12,v 13,v 14,v 15,v 16,v 17,v 18,v 19,v 20,v 21,v 22,v 23,v 24,v 25,v 26,v 27,v 28,v 29,v 30,v 31,v 32,v 33,v 34,v 35,v 36,v 37,v 38,v 39,v 40,v 41,v 42,.int .i64 kind,v 44,v 45,v 46,v 47,v 48,v 49,v 50,v 51,v 52,v 53,v 54,v 55,v 56,v 57,v 58,v 59,v 60,v 61,v 62,v 63,v 64,v 65,v 66,v 67,v 68,v 69,v 70,v 71,v 72,v 73,v 74,v 75,v 76,v 77,v 78,v 79,v 80,v 81,v 82,v 83,v 84,v 85,v 86,v 87,v 88,v 89,v 90,v 91,v 92,v 93,v 94,v 95,v 96,v 97,v 98,v 99,v 100,v 101,v 102,v 103,v 104,v 105,v 106,v 107,v 108,v 109,v 110,v 111,v 112,v 113,v 114,v 115,v 116,v 117,v 118,v 119,v 120,v 121,v 122,v 123,v 124,v 125,v 126,v 127,v 128,v 129,v 130,v 131,v 132,v 133,v 134,v 135,v 136,v 137,v 138,v 139,v 140,v 141,v 142,v 143,v 144,v 145,v 146,v 147,v 148,v 149,v 150,v 151,v 152,v 153,v 154,v 155,v 156,v 157,v 158,v 159,v 160,v 161,v 162,v 163,v 164]
section
variable {W0:World} {T0:EpT} {m:EpM} {wb vb k N bb:Nat} {inn:Bool} {e0 kind:Int} {aV ok tv:Value} {iv:Nat->Value} {W:SW} {T:Array Value} {w:World}
theorem ac_k0(hF:T=acF wb k N bb inn e0 kind aV ok (λi=>T.getD i undef)):
 Code.wp Try.prog (headC (acE 0)) (ends (λa' w'=>a'.tmps=acF wb k N bb inn e0 kind aV ok (λi=>a'.tmps.getD i undef)/\a'.tmps[44]?=some (.bool (decide (kind=1)))/\w'=w) (λ_ _=>False)) ⟨T,[]⟩ w:=by
 obtain⟨v,hv0,hvv⟩:∃v,T=acF wb k N bb inn e0 kind aV ok v/\v=λi=>T.getD i undef:=⟨_,hF,rfl⟩;clear hF hvv;subst hv0;unfold acF;obtain⟨u_,hu_⟩:∃c,headC (acE 0)=c:=⟨_,rfl⟩;have eu_:=hu_;rw[hu_];simp only[acT,acB,acE,acA,headC,tailN,sndC,zqj,condT,condE,Try.f28,al_od]at eu_;subst eu_;clear hu_;go_wp2;exact⟨rfl,rfl,rfl,rfl⟩
theorem ac_k1(hF:T=acF wb k N bb inn e0 kind aV ok (λi=>T.getD i undef)):
 Code.wp Try.prog (headC (acE 1)) (ends (λa' w'=>a'.tmps=acF wb k N bb inn e0 kind aV ok (λi=>a'.tmps.getD i undef)/\a'.tmps[76]?=some (.bool (decide (kind=2)))/\w'=w) (λ_ _=>False)) ⟨T,[]⟩ w:=by
 obtain⟨v,hv0,hvv⟩:∃v,T=acF wb k N bb inn e0 kind aV ok v/\v=λi=>T.getD i undef:=⟨_,hF,rfl⟩;clear hF hvv;subst hv0;unfold acF;obtain⟨u_,hu_⟩:∃c,headC (acE 1)=c:=⟨_,rfl⟩;have eu_:=hu_;rw[hu_];simp only[acT,acB,acE,acA,headC,tailN,sndC,zqj,condT,condE,Try.f28,al_od]at eu_;subst eu_;clear hu_;go_wp2;exact⟨rfl,rfl,rfl,rfl⟩
theorem ac_k2(hF:T=acF wb k N bb inn e0 kind aV ok (λi=>T.getD i undef)):
 Code.wp Try.prog (headC (acE 2)) (ends (λa' w'=>a'.tmps=acF wb k N bb inn e0 kind aV ok (λi=>a'.tmps.getD i undef)/\a'.tmps[104]?=some (.bool (decide (kind=3)))/\w'=w) (λ_ _=>False)) ⟨T,[]⟩ w:=by
 obtain⟨v,hv0,hvv⟩:∃v,T=acF wb k N bb inn e0 kind aV ok v/\v=λi=>T.getD i undef:=⟨_,hF,rfl⟩;clear hF hvv;subst hv0;unfold acF;obtain⟨u_,hu_⟩:∃c,headC (acE 2)=c:=⟨_,rfl⟩;have eu_:=hu_;rw[hu_];simp only[acT,acB,acE,acA,headC,tailN,sndC,zqj,condT,condE,Try.f28,al_od]at eu_;subst eu_;clear hu_;go_wp2;exact⟨rfl,rfl,rfl,rfl⟩
theorem ac_k3(hF:T=acF wb k N bb inn e0 kind aV ok (λi=>T.getD i undef)):
 Code.wp Try.prog (headC (acE 3)) (ends (λa' w'=>a'.tmps=acF wb k N bb inn e0 kind aV ok (λi=>a'.tmps.getD i undef)/\a'.tmps[109]?=some (.bool (decide (kind=4)))/\w'=w) (λ_ _=>False)) ⟨T,[]⟩ w:=by
 obtain⟨v,hv0,hvv⟩:∃v,T=acF wb k N bb inn e0 kind aV ok v/\v=λi=>T.getD i undef:=⟨_,hF,rfl⟩;clear hF hvv;subst hv0;unfold acF;obtain⟨u_,hu_⟩:∃c,headC (acE 3)=c:=⟨_,rfl⟩;have eu_:=hu_;rw[hu_];simp only[acT,acB,acE,acA,headC,tailN,sndC,zqj,condT,condE,Try.f28,al_od]at eu_;subst eu_;clear hu_;go_wp2;exact⟨rfl,rfl,rfl,rfl⟩
theorem ac_k4(hF:T=acF wb k N bb inn e0 kind aV ok (λi=>T.getD i undef)):
 Code.wp Try.prog (headC (acE 4)) (ends (λa' w'=>a'.tmps=acF wb k N bb inn e0 kind aV ok (λi=>a'.tmps.getD i undef)/\a'.tmps[134]?=some (.bool (decide (kind=5)))/\w'=w) (λ_ _=>False)) ⟨T,[]⟩ w:=by
 obtain⟨v,hv0,hvv⟩:∃v,T=acF wb k N bb inn e0 kind aV ok v/\v=λi=>T.getD i undef:=⟨_,hF,rfl⟩;clear hF hvv;subst hv0;unfold acF;obtain⟨u_,hu_⟩:∃c,headC (acE 4)=c:=⟨_,rfl⟩;have eu_:=hu_;rw[hu_];simp only[acT,acB,acE,acA,headC,tailN,sndC,zqj,condT,condE,Try.f28,al_od]at eu_;subst eu_;clear hu_;go_wp2;exact⟨rfl,rfl,rfl,rfl⟩
theorem ac_r9{er:Int}(hF:T=acF wb k N bb inn e0 kind aV ok (λi=>T.getD i undef))(h11:T[11]?=some (.int .i64 er))(he:(er=7/\inn=true)\/(er=0/\inn=false)):
 Code.wp Try.prog (headC (tailN 1 (acA 0))) (ends (λa' w'=>a'.tmps=acF wb k N bb inn e0 kind aV (.bool true) (λi=>a'.tmps.getD i undef)/\w'=w) (λ_ _=>False)) ⟨T,[]⟩ w:=by
 obtain⟨v,hv0,hvv⟩:∃v,T=acF wb k N bb inn e0 kind aV ok v/\v=λi=>T.getD i undef:=⟨_,hF,rfl⟩;have e11:v 11=.int .i64 er:=by rw[hvv];exact zqu h11
 clear hF h11 hvv;subst hv0;unfold acF;rw[e11];clear e11;obtain⟨u_,hu_⟩:∃c,headC (tailN 1 (acA 0))=c:=⟨_,rfl⟩;have eu_:=hu_;rw[hu_];simp only[acT,acB,acE,acA,headC,tailN,sndC,zqj,condT,condE,Try.f28,al_od]at eu_;subst eu_;clear hu_;rcases he with⟨rfl,rfl⟩|⟨rfl,rfl⟩
 . go_wp2;exact⟨rfl,rfl,rfl⟩
 . go_wp2;exact⟨rfl,rfl,rfl⟩
theorem ac_r14{er:Int}(hF:T=acF wb k N bb inn e0 kind aV ok (λi=>T.getD i undef))(h12:T[12]?=some (.int .i64 er))(he:(er=6/\inn=false)\/(er=0/\inn=true)):
 Code.wp Try.prog (headC (tailN 1 (acA 1))) (ends (λa' w'=>a'.tmps=acF wb k N bb inn e0 kind aV (.bool true) (λi=>a'.tmps.getD i undef)/\w'=w) (λ_ _=>False)) ⟨T,[]⟩ w:=by
 obtain⟨v,hv0,hvv⟩:∃v,T=acF wb k N bb inn e0 kind aV ok v/\v=λi=>T.getD i undef:=⟨_,hF,rfl⟩;have e12:v 12=.int .i64 er:=by rw[hvv];exact zqu h12
 clear hF h12 hvv;subst hv0;unfold acF;rw[e12];clear e12;obtain⟨u_,hu_⟩:∃c,headC (tailN 1 (acA 1))=c:=⟨_,rfl⟩;have eu_:=hu_;rw[hu_];simp only[acT,acB,acE,acA,headC,tailN,sndC,zqj,condT,condE,Try.f28,al_od]at eu_;subst eu_;clear hu_;rcases he with⟨rfl,rfl⟩|⟨rfl,rfl⟩
 . go_wp2;exact⟨rfl,rfl,rfl⟩
 . go_wp2;exact⟨rfl,rfl,rfl⟩
theorem ac_r10(hF:T=acF wb k N bb inn e0 kind aV ok (λi=>T.getD i undef)):
 Code.wp Try.prog (headC (tailN 2 (acA 0))) (ends (λa' w'=>a'.tmps=acF wb k N bb inn e0 kind aV ok (λi=>a'.tmps.getD i undef)/\a'.tmps[66]?=some (.bool (!inn))/\w'=w) (λ_ _=>False)) ⟨T,[]⟩ w:=by
 obtain⟨v,hv0,hvv⟩:∃v,T=acF wb k N bb inn e0 kind aV ok v/\v=λi=>T.getD i undef:=⟨_,hF,rfl⟩;clear hF hvv;subst hv0;unfold acF;obtain⟨u_,hu_⟩:∃c,headC (tailN 2 (acA 0))=c:=⟨_,rfl⟩;have eu_:=hu_;rw[hu_];simp only[acT,acB,acE,acA,headC,tailN,sndC,zqj,condT,condE,Try.f28,al_od]at eu_;subst eu_;clear hu_;go_wp2;exact⟨rfl,rfl,rfl,rfl⟩
theorem ac_r15(hF:T=acF wb k N bb inn e0 kind aV ok (λi=>T.getD i undef)):
 Code.wp Try.prog (headC (tailN 2 (acA 1))) (ends (λa' w'=>a'.tmps=acF wb k N bb inn e0 kind aV ok (λi=>a'.tmps.getD i undef)/\a'.tmps[94]?=some (.bool inn)/\w'=w) (λ_ _=>False)) ⟨T,[]⟩ w:=by
 obtain⟨v,hv0,hvv⟩:∃v,T=acF wb k N bb inn e0 kind aV ok v/\v=λi=>T.getD i undef:=⟨_,hF,rfl⟩;clear hF hvv;subst hv0;unfold acF;obtain⟨u_,hu_⟩:∃c,headC (tailN 2 (acA 1))=c:=⟨_,rfl⟩;have eu_:=hu_;rw[hu_];simp only[acT,acB,acE,acA,headC,tailN,sndC,zqj,condT,condE,Try.f28,al_od]at eu_;subst eu_;clear hu_;go_wp2;exact⟨rfl,rfl,rfl,rfl⟩
theorem ac_r11(hF:T=acF wb k N bb inn e0 kind aV ok (λi=>T.getD i undef))(h:SAt W0 T0 m wb vb tv iv W w)(hN:T0.N=N)(hk:k<N)(hle:W.V k<=4294967296):
 Code.wp Try.prog (condT (tailN 3 (acA 0))) (ends (λa' w'=>a'.tmps=acF wb k N bb inn e0 kind aV ok (λi=>a'.tmps.getD i undef)/\SAt W0 T0 m wb vb tv iv (W.step k) w') (λ_ _=>False)) ⟨T,[]⟩ w:=by
 have HS:=Lib.hid (h.step (hN▸hk));have c1:=h.c1;rw[hN]at c1;have v0:w.cell? ⟨vb,k,none⟩=some (.int .i64 (W.V k:Int)):=h.v (hN▸hk);have f0:w.frozen? ⟨vb,k,none⟩=false:=zqh h.vis;obtain⟨x,hx⟩:∃x:Int,(W.V k:Int)=x:=⟨_,rfl⟩;have hw:IntKind.i64.wrap (x+1)=((W.V k+1:Nat):Int):=by rw[<-hx,show(W.V k:Int)+1=((W.V k+1:Nat):Int)by omega];exact IntWalk.i64_in _ (by omega)
 have hw2:wrap64 (x+1)=((W.V k+1:Nat):Int):=by rw[<-wrapE];exact hw
 rw[hx]at v0;have HW:=Lib.hid (And.intro hw hw2);have k0:(0:Int)<=(k:Int):=by omega
 have k1:(k:Int)<(N:Int):=by omega
 clear h hN hk hle hx hw hw2;obtain⟨v,hv0,hvv⟩:∃v,T=acF wb k N bb inn e0 kind aV ok v/\v=λi=>T.getD i undef:=⟨_,hF,rfl⟩;clear hF hvv;subst hv0;unfold acF;obtain⟨u_,hu_⟩:∃c,condT (tailN 3 (acA 0))=c:=⟨_,rfl⟩;have eu_:=hu_;rw[hu_];simp only[acT,acB,acE,acA,headC,tailN,sndC,zqj,condT,condE,Try.f28,al_od]at eu_;subst eu_;clear hu_;go_wp2;refine⟨rfl,rfl,?_⟩
 first|(rw[HW.out.2];exact HS.out)|(rw[HW.out.1];exact HS.out)
theorem ac_r16(hF:T=acF wb k N bb inn e0 kind aV ok (λi=>T.getD i undef))(h:SAt W0 T0 m wb vb tv iv W w)(hN:T0.N=N)(hk:k<N)(hle:W.V k<=4294967296):
 Code.wp Try.prog (condT (tailN 3 (acA 1))) (ends (λa' w'=>a'.tmps=acF wb k N bb inn e0 kind aV ok (λi=>a'.tmps.getD i undef)/\SAt W0 T0 m wb vb tv iv (W.step k) w') (λ_ _=>False)) ⟨T,[]⟩ w:=by
 have HS:=Lib.hid (h.step (hN▸hk));have c1:=h.c1;rw[hN]at c1;have v0:w.cell? ⟨vb,k,none⟩=some (.int .i64 (W.V k:Int)):=h.v (hN▸hk);have f0:w.frozen? ⟨vb,k,none⟩=false:=zqh h.vis;obtain⟨x,hx⟩:∃x:Int,(W.V k:Int)=x:=⟨_,rfl⟩;have hw:IntKind.i64.wrap (x+1)=((W.V k+1:Nat):Int):=by rw[<-hx,show(W.V k:Int)+1=((W.V k+1:Nat):Int)by omega];exact IntWalk.i64_in _ (by omega)
 have hw2:wrap64 (x+1)=((W.V k+1:Nat):Int):=by rw[<-wrapE];exact hw
 rw[hx]at v0;have HW:=Lib.hid (And.intro hw hw2);have k0:(0:Int)<=(k:Int):=by omega
 have k1:(k:Int)<(N:Int):=by omega
 clear h hN hk hle hx hw hw2;obtain⟨v,hv0,hvv⟩:∃v,T=acF wb k N bb inn e0 kind aV ok v/\v=λi=>T.getD i undef:=⟨_,hF,rfl⟩;clear hF hvv;subst hv0;unfold acF;obtain⟨u_,hu_⟩:∃c,condT (tailN 3 (acA 1))=c:=⟨_,rfl⟩;have eu_:=hu_;rw[hu_];simp only[acT,acB,acE,acA,headC,tailN,sndC,zqj,condT,condE,Try.f28,al_od]at eu_;subst eu_;clear hu_;go_wp2;refine⟨rfl,rfl,?_⟩
 first|(rw[HW.out.2];exact HS.out)|(rw[HW.out.1];exact HS.out)
theorem ac_r21{mv:Bool}(hF:T=acF wb k N bb inn e0 kind aV ok (λi=>T.getD i undef))(h:SAt W0 T0 m wb vb tv iv W w)(h13:T[13]?=some (.bool mv))(h14:T[14]?=some (.int .i64 0))(he:decide (m.s.e=wrap64 (e0+1))=mv):
 Code.wp Try.prog (tailN 1 (acA 3)) (ends (λa' w'=>a'.tmps=acF wb k N bb inn e0 kind aV (.bool true) (λi=>a'.tmps.getD i undef)/\w'=w) (λ_ _=>False)) ⟨T,[]⟩ w:=by
 have HE:=Lib.hid (zq4i h.ep);have c0:=h.c0;have HD:=Lib.hid he;clear h he;obtain⟨v,hv0,hvv⟩:∃v,T=acF wb k N bb inn e0 kind aV ok v/\v=λi=>T.getD i undef:=⟨_,hF,rfl⟩;have e13:v 13=.bool mv:=by rw[hvv];exact zqu h13
 have e14:v 14=.int .i64 0:=by rw[hvv];exact zqu h14
 clear hF h13 h14 hvv;subst hv0;unfold acF;rw[e13,e14];clear e13 e14;obtain⟨u_,hu_⟩:∃c,tailN 1 (acA 3)=c:=⟨_,rfl⟩;have eu_:=hu_;rw[hu_];simp only[acT,acB,acE,acA,headC,tailN,sndC,zqj,condT,condE,Try.f28,al_od]at eu_;subst eu_;clear hu_
 go_wp2_with (fail)
 refine Calls.mono HE.out ?_;rintro e w' ⟨rfl,hww⟩;obtain rfl:=hww.symm;clear hww;generalize m.s.e=me at HD |-;go_wp2;have hb:((me==wrap64 (e0+1))==mv)=true:=by
  have:=HD.out;subst this
  by_cases h:me=wrap64 (e0+1)<;>simp[h]
 rw[hb];exact⟨rfl,rfl,rfl⟩
theorem ac_end(hF:T=acF wb k N bb inn e0 kind aV ok (λi=>T.getD i undef))(hok:ok=.bool true)(h:SAt W0 T0 m wb vb tv iv W w)(he:m.s.e=e0\/(m.s.e=wrap64 (e0+1)/\¬m.s.e=e0/\w.cell? ⟨bb,1,none⟩=some (.int .i64 4))):
 Code.wp Try.prog (acT 7) (bodyPost Try.prog Try.f28 λe w'=>∃v,e=.returned v/\v=.bool true/\SAt W0 T0 m wb vb tv iv W w') ⟨T,[]⟩ w:=by
 have HE:=Lib.hid (zq4i h.ep);have HS:=Lib.hid h;have c0:=h.c0;clear h;subst hok;obtain⟨v,hv0,hvv⟩:∃v,T=acF wb k N bb inn e0 kind aV (.bool true) v/\v=λi=>T.getD i undef:=⟨_,hF,rfl⟩;clear hF hvv;subst hv0;unfold acF;obtain⟨u_,hu_⟩:∃c,acT 7=c:=⟨_,rfl⟩;have eu_:=hu_;rw[hu_];simp only[acT,acB,acE,acA,headC,tailN,sndC,zqj,condT,condE,Try.f28,al_od]at eu_;subst eu_;clear hu_;rcases he with he|⟨he,hne,hb⟩
 . go_wp2_with (fail)
   refine Calls.mono HE.out ?_;rintro e w' ⟨rfl,hww⟩;obtain rfl:=hww.symm;clear hww;rw[he];go_wp2;go_ret;exact⟨_,rfl,rfl,HS.out⟩
 . go_wp2_with (fail)
   refine Calls.mono HE.out ?_;rintro e w' ⟨rfl,hww⟩;obtain rfl:=hww.symm;clear hww;generalize m.s.e=me at HE he hne |-;have hne2:(me==e0)=false:=by simpa using hne
   have hd2:(me==wrap64 (e0+1))=true:=by simpa using he
   have HX:=Lib.hid (And.intro he hne2);clear he
   go_wp2_with (fail)
   refine Calls.mono HE.out ?_;rintro e w' ⟨rfl,hww⟩;obtain rfl:=hww.symm;clear hww;rw[HX.out.1];go_wp2;go_ret;exact⟨_,rfl,rfl,HS.out⟩
end
section
variable {Fin:Machine->Trace->Prop} {n:Nat} {b:Frame} {kk:List Item} {cs:List Frame} {W0:World} {T0:EpT} {m:EpM} {wb vb k N bb:Nat} {inn:Bool} {e0 kind:Int} {aV ok tv:Value} {iv:Nat->Value} {W:SW} {T:Array Value} {w:World}
theorem ac_r8(hFin:Back Try.prog Fin)(hbk:b.kind=.normal)(hF:T=acF wb k N bb inn e0 kind aV ok (λi=>T.getD i undef))(hS:SAt W0 T0 m wb vb tv iv W w)(hk:k<T0.N)(hin:m.s.ins k=inn)
 (hq:∀(T':Array Value)m' w' er,T'=acF wb k N bb inn e0 kind aV ok (λi=>T'.getD i undef)->T'[11]?=some (.int .i64 er)->((inn=true/\er=7/\m'.s=m.s)\/(inn=false/\er=0/\m'.s=zq33 m.s k))->SAt W0 T0 m' wb vb tv iv W w'->J0 Try.prog Fin n (G (b.at ⟨T',[]⟩ kk) cs) w'):J0 Try.prog Fin n (G (b.at ⟨T,[]⟩ (.code (headC (acA 0))::kk)) cs) w:=by
 have hJ:=j0_JS hFin;have hC:=zq15 hFin;have hbk':b.kind≠.early:=by rw[hbk];decide
 have HQ:=Lib.hid hq;clear hq;obtain⟨v,hv0,hvv⟩:∃v,T=acF wb k N bb inn e0 kind aV ok v/\v=λi=>T.getD i undef:=⟨_,hF,rfl⟩;clear hF hvv;subst hv0;unfold acF;obtain⟨u_,hu_⟩:∃c,headC (acA 0)=c:=⟨_,rfl⟩;have eu_:=hu_;rw[hu_];simp only[acT,acB,acE,acA,headC,tailN,sndC,zqj,condT,condE,Try.f28,al_od]at eu_;subst eu_;clear hu_;refine hJ.ctl (s:=n) (λw=>stepG_region) ?_;refine zqg (s:=n) (by first|decide |omega) hJ (zqf _) false (.inr rfl) 0 5 6 rfl rfl rfl (by rfl) ?_;intro τ d;simp only[List.drop_succ_cons,List.drop_zero,List.take_succ_cons,List.take_zero];replace hS:=hS.re τ d;generalize re w τ d=w at hS |-;have c0:=hS.c0;go_wp2;simp only[zq7];clear c0;refine zq14 hbk' hJ (s:=n) rfl rfl (f:=23) (args:=#[.pointer (some ⟨T0.db,0,none⟩),.nilIface,Value.int .i64 (k:Int)]) (λτ d=>?_) (λτ d=>?_) ?_
 . simp[go_sem,execOp,Act.eval,resolve,Deferred.ofValue,invoke,callFunc,Try.func23,Try.f23]
 . intro e he;simp[go_sem,execOp,Act.eval,resolve,Deferred.ofValue,invoke,callFunc,Try.func23,Try.f23,Sem.runT_eq]at he
 obtain⟨C',er,ex,q,hrun,hor⟩:∃(C':EpS)(er ex:Int)(q:Nat),(enterP k:Proc SU (Int×Int)).run (m.s,())=((C',()),some (ex,er),q)/\((inn=true/\er=7/\C'=m.s)\/(inn=false/\er=0/\C'=zq33 m.s k)):=by
  cases inn with
  |true=>exact⟨_,_,_,_,enter_in hin,.inl ⟨rfl,rfl,rfl⟩⟩
  |false=>exact⟨_,_,_,_,zqbx hin,.inr ⟨rfl,rfl,rfl⟩⟩
 refine zq3j hFin hS.ty hS.ep hk hrun (λR hY=>zq6z _ hY hk hS.ty.N) ?_;intro m' w1 hm hA;have hS1:=hS.aft hA;clear hA hS;rw[Frame.finish_at]
 walk_nrm
 refine zqg (s:=n) (by first|decide |omega) hJ (zqf _) false (.inr rfl) 6 5 0 rfl rfl rfl (by rfl) ?_;intro τ d;simp only[List.drop_succ_cons,List.drop_zero,List.take_succ_cons,List.take_zero];replace hS1:=hS1.re τ d;generalize re w1 τ d=w1 at hS1 |-;go_wp2;simp only[zq7];refine hJ.ctl (s:=n) (λw=>stepG_region_end) ?_;exact HQ.out _ m' w1 er rfl rfl (by rw[hm];exact hor) hS1
theorem ac_r13(hFin:Back Try.prog Fin)(hbk:b.kind=.normal)(hF:T=acF wb k N bb inn e0 kind aV ok (λi=>T.getD i undef))(hS:SAt W0 T0 m wb vb tv iv W w)(hk:k<T0.N)(hin:m.s.ins k=inn)
 (hq:∀(T':Array Value)m' w' er,T'=acF wb k N bb inn e0 kind aV ok (λi=>T'.getD i undef)->T'[12]?=some (.int .i64 er)->((inn=false/\er=6/\m'.s=m.s)\/(inn=true/\er=0/\m'.s=zq37 m.s k))->SAt W0 T0 m' wb vb tv iv W w'->J0 Try.prog Fin n (G (b.at ⟨T',[]⟩ kk) cs) w'):J0 Try.prog Fin n (G (b.at ⟨T,[]⟩ (.code (headC (acA 1))::kk)) cs) w:=by
 have hJ:=j0_JS hFin;have hC:=zq15 hFin;have hbk':b.kind≠.early:=by rw[hbk];decide
 have HQ:=Lib.hid hq;clear hq;obtain⟨v,hv0,hvv⟩:∃v,T=acF wb k N bb inn e0 kind aV ok v/\v=λi=>T.getD i undef:=⟨_,hF,rfl⟩;clear hF hvv;subst hv0;unfold acF;obtain⟨u_,hu_⟩:∃c,headC (acA 1)=c:=⟨_,rfl⟩;have eu_:=hu_;rw[hu_];simp only[acT,acB,acE,acA,headC,tailN,sndC,zqj,condT,condE,Try.f28,al_od]at eu_;subst eu_;clear hu_;refine hJ.ctl (s:=n) (λw=>stepG_region) ?_;refine zqg (s:=n) (by first|decide |omega) hJ (zqf _) false (.inr rfl) 0 5 2 rfl rfl rfl (by rfl) ?_;intro τ d;simp only[List.drop_succ_cons,List.drop_zero,List.take_succ_cons,List.take_zero];replace hS:=hS.re τ d;generalize re w τ d=w at hS |-;have c0:=hS.c0;go_wp2;simp only[zq7];clear c0;refine zq14 hbk' hJ (s:=n) rfl rfl (f:=27) (args:=#[.pointer (some ⟨T0.db,0,none⟩),.nilIface,Value.int .i64 (k:Int)]) (λτ d=>?_) (λτ d=>?_) ?_
 . simp[go_sem,execOp,Act.eval,resolve,Deferred.ofValue,invoke,callFunc,Try.func27,Try.f27]
 . intro e he;simp[go_sem,execOp,Act.eval,resolve,Deferred.ofValue,invoke,callFunc,Try.func27,Try.f27,Sem.runT_eq]at he
 obtain⟨C',er,q,hrun,hor⟩:∃(C':EpS)(er:Int)(q:Nat),(leaveP k:Proc SU Int).run (m.s,())=((C',()),some er,q)/\((inn=false/\er=6/\C'=m.s)\/(inn=true/\er=0/\C'=zq37 m.s k)):=by
  cases inn with
  |true=>exact⟨_,_,_,leave_in hin,.inr ⟨rfl,rfl,rfl⟩⟩
  |false=>exact⟨_,_,_,zqd4 hin,.inl ⟨rfl,rfl,rfl⟩⟩
 refine zq3j hFin hS.ty hS.ep hk hrun (λR hY=>zq7m _ hY hk hS.ty.N) ?_;intro m' w1 hm hA;have hS1:=hS.aft hA;clear hA hS;rw[Frame.finish_at]
 walk_nrm
 refine zqg (s:=n) (by first|decide |omega) hJ (zqf _) false (.inr rfl) 6 1 0 rfl rfl rfl (by rfl) ?_;intro τ d;simp only[List.drop_succ_cons,List.drop_zero,List.take_succ_cons,List.take_zero];replace hS1:=hS1.re τ d;generalize re w1 τ d=w1 at hS1 |-;go_wp2;simp only[zq7];refine hJ.ctl (s:=n) (λw=>stepG_region_end) ?_;exact HQ.out _ m' w1 er rfl rfl (by rw[hm];exact hor) hS1
theorem ac_r20(hFin:Back Try.prog Fin)(hbk:b.kind=.normal)(hF:T=acF wb k N bb inn e0 kind aV ok (λi=>T.getD i undef))(hS:SAt W0 T0 m wb vb tv iv W w)(hk:k<T0.N){cA:Array Value}(hb:w.heap[bb]?=some (.cells cA 46))
 (hq:∀(T':Array Value)m' w' mv,T'=acF wb k N bb inn e0 kind aV ok (λi=>T'.getD i undef)->T'[13]?=some (.bool mv)->T'[14]?=some (.int .i64 0)->((mv=true/\freeM T0.N m.s/\m'.s=m.s.putE (wrap64 (m.s.e+1)))\/(mv=false/\m'.s=m.s))->w'.heap[bb]?=some (.cells cA 46)->SAt W0 T0 m' wb vb tv iv W w'->J0 Try.prog Fin n (G (b.at ⟨T',[]⟩ kk) cs) w'):J0 Try.prog Fin n (G (b.at ⟨T,[]⟩ (.code (headC (acA 3))::kk)) cs) w:=by
 have hJ:=j0_JS hFin;have hC:=zq15 hFin;have hbk':b.kind≠.early:=by rw[hbk];decide
 have HQ:=Lib.hid hq;clear hq;obtain⟨v,hv0,hvv⟩:∃v,T=acF wb k N bb inn e0 kind aV ok v/\v=λi=>T.getD i undef:=⟨_,hF,rfl⟩;clear hF hvv;subst hv0;unfold acF;obtain⟨u_,hu_⟩:∃c,headC (acA 3)=c:=⟨_,rfl⟩;have eu_:=hu_;rw[hu_];simp only[acT,acB,acE,acA,headC,tailN,sndC,zqj,condT,condE,Try.f28,al_od]at eu_;subst eu_;clear hu_;refine hJ.ctl (s:=n) (λw=>stepG_region) ?_;refine zqg (s:=n) (by first|decide |omega) hJ (zqf _) false (.inr rfl) 0 5 6 rfl rfl rfl (by rfl) ?_;intro τ d;simp only[List.drop_succ_cons,List.drop_zero,List.take_succ_cons,List.take_zero];replace hS:=hS.re τ d;replace hb:(re w τ d).heap[bb]?=some (.cells cA 46):=hb;generalize re w τ d=w at hS hb |-;have c0:=hS.c0;go_wp2;simp only[zq7];clear c0;refine zq14 hbk' hJ (s:=n) rfl rfl (f:=25) (args:=#[.pointer (some ⟨T0.db,0,none⟩),.nilIface,Value.int .i64 (k:Int)]) (λτ d=>?_) (λτ d=>?_) ?_
 . simp[go_sem,execOp,Act.eval,resolve,Deferred.ofValue,invoke,callFunc,Try.func25,Try.f25]
 . intro e he;simp[go_sem,execOp,Act.eval,resolve,Deferred.ofValue,invoke,callFunc,Try.func25,Try.f25,Sem.runT_eq]at he
 obtain⟨C',mv,q,hrun,hor⟩:∃(C':EpS)(mv:Bool)(q:Nat),(advP T0.N:Proc SU (Bool×Int)).run (m.s,())=((C',()),some (mv,0),q)/\((mv=true/\freeM T0.N m.s/\C'=m.s.putE (wrap64 (m.s.e+1)))\/(mv=false/\C'=m.s)):=by
  by_cases hf:freeM T0.N m.s
  . obtain⟨q,hq⟩:=zq6i hf;exact⟨_,_,_,hq,.inl ⟨rfl,hf,rfl⟩⟩
  . obtain⟨q,hq⟩:=adv_no hf;exact⟨_,_,_,hq,.inr ⟨rfl,rfl⟩⟩
 refine zq3j hFin hS.ty hS.ep hk hrun (λR hY=>zq5c _ hY hk hS.ty.N) ?_;intro m' w1 hm hA;have hS1:=hS.aft hA;have HB:RowKit.Hid (w1.heap[bb]?=some (.cells cA 46)):=Lib.hid ((hA.old bb (zqs hb) λhf=>by
  obtain⟨c',ty',h1,h2⟩:=zq5i hS.ty hS.ep hf;rw[hb]at h1;cases h1;rcases h2 with h|h|h<;>exact absurd h (by decide)).trans hb)
 clear hA hS hb;rw[Frame.finish_at]
 walk_nrm
 refine zqg (s:=n) (by first|decide |omega) hJ (zqf _) false (.inr rfl) 6 5 0 rfl rfl rfl (by rfl) ?_;intro τ d;simp only[List.drop_succ_cons,List.drop_zero,List.take_succ_cons,List.take_zero];replace hS1:=hS1.re τ d;replace HB:RowKit.Hid ((re w1 τ d).heap[bb]?=some (.cells cA 46)):=HB;generalize re w1 τ d=w1 at hS1 HB |-;go_wp2;simp only[zq7];refine hJ.ctl (s:=n) (λw=>stepG_region_end) ?_;exact HQ.out _ m' w1 mv rfl rfl rfl (by rw[hm];exact hor) HB.out hS1
theorem ac_r18(hFin:Back Try.prog Fin)(hbk:b.kind=.normal)(hF:T=acF wb k N bb inn e0 kind aV ok (λi=>T.getD i undef))(hS:SAt W0 T0 m wb vb tv iv W w)(hk:k<T0.N){c E:Nat}(hI:SInv T0.N c E m.s W)(hc:c<=4294967296)
 (hq:∀(T':Array Value)m' tv' iv' w',T'=acF wb k N bb inn e0 kind aV (.bool true) (λi=>T'.getD i undef)->m'.s=zq2r m.s k W.T.length->SAt W0 T0 m' wb vb tv' iv' (W.ret k) w'->J0 Try.prog Fin n (G (b.at ⟨T',[]⟩ kk) cs) w'):J0 Try.prog Fin n (G (b.at ⟨T,[]⟩ (.code (acA 2)::kk)) cs) w:=by
 have hJ:=j0_JS hFin;have hC:=zq15 hFin;have hbk':b.kind≠.early:=by rw[hbk];decide
 have HQ:=Lib.hid hq;clear hq;obtain⟨v,hv0,hvv⟩:∃v,T=acF wb k N bb inn e0 kind aV ok v/\v=λi=>T.getD i undef:=⟨_,hF,rfl⟩;clear hF hvv;subst hv0;unfold acF;obtain⟨u_,hu_⟩:∃c,acA 2=c:=⟨_,rfl⟩;have eu_:=hu_;rw[hu_];simp only[acT,acB,acE,acA,headC,tailN,sndC,zqj,condT,condE,Try.f28,al_od]at eu_;subst eu_;clear hu_;refine hJ.ctl (s:=n) (λw=>stepG_region) ?_;refine zqg (s:=n) (by first|decide |omega) hJ (zqf _) false (.inr rfl) 0 2 2 rfl rfl rfl (by rfl) ?_;intro τ d;simp only[List.drop_succ_cons,List.drop_zero,List.take_succ_cons,List.take_zero];replace hS:=hS.re τ d;generalize re w τ d=w at hS |-;go_wp2;simp only[zq7];refine zq14 hbk' hJ (s:=n) rfl rfl (f:=52) (args:=#[.pointer (some ⟨wb,0,none⟩),Value.int .i64 (k:Int)]) (λτ d=>?_) (λτ d=>?_) ?_
 . simp[go_sem,execOp,Act.eval,resolve,Deferred.ofValue,invoke,callFunc,Try.func52,Try.f52]
 . intro e he;simp[go_sem,execOp,Act.eval,resolve,Deferred.ofValue,invoke,callFunc,Try.func52,Try.f52,Sem.runT_eq]at he
 refine zqel hFin hS hI hk hc ?_;intro m' tv' iv' w1 hm hS1;clear hS;rw[Frame.finish_at]
 walk_nrm
 refine zqg (s:=n) (by first|decide |omega) hJ (zqf _) false (.inr rfl) 3 1 0 rfl rfl rfl (by rfl) ?_;intro τ d;simp only[List.drop_succ_cons,List.drop_zero,List.take_succ_cons,List.take_zero];replace hS1:=hS1.re τ d;generalize re w1 τ d=w1 at hS1 |-;go_wp2;simp only[zq7];refine hJ.ctl (s:=n) (λw=>stepG_region_end) ?_;exact HQ.out _ m' tv' iv' w1 rfl hm hS1
theorem ac_r23(hFin:Back Try.prog Fin)(hbk:b.kind=.normal)(hF:T=acF wb k N bb inn e0 kind aV ok (λi=>T.getD i undef))(hS:SAt W0 T0 m wb vb tv iv W w)(hk:k<T0.N){c E:Nat}(hI:SInv T0.N c E m.s W)(hc:c<=4294967296)
 (hq:∀(T':Array Value)m' w',T'=acF wb k N bb inn e0 kind aV (.bool true) (λi=>T'.getD i undef)->m'.s=collS m.s k->SAt W0 T0 m' wb vb tv iv (W.coll m.s k) w'->J0 Try.prog Fin n (G (b.at ⟨T',[]⟩ kk) cs) w'):J0 Try.prog Fin n (G (b.at ⟨T,[]⟩ (.code (acA 4)::kk)) cs) w:=by
 have hJ:=j0_JS hFin;have hC:=zq15 hFin;have hbk':b.kind≠.early:=by rw[hbk];decide
 have HQ:=Lib.hid hq;clear hq;obtain⟨v,hv0,hvv⟩:∃v,T=acF wb k N bb inn e0 kind aV ok v/\v=λi=>T.getD i undef:=⟨_,hF,rfl⟩;clear hF hvv;subst hv0;unfold acF;obtain⟨u_,hu_⟩:∃c,acA 4=c:=⟨_,rfl⟩;have eu_:=hu_;rw[hu_];simp only[acT,acB,acE,acA,headC,tailN,sndC,zqj,condT,condE,Try.f28,al_od]at eu_;subst eu_;clear hu_;refine hJ.ctl (s:=n) (λw=>stepG_region) ?_;refine zqg (s:=n) (by first|decide |omega) hJ (zqf _) false (.inr rfl) 0 2 2 rfl rfl rfl (by rfl) ?_;intro τ d;simp only[List.drop_succ_cons,List.drop_zero,List.take_succ_cons,List.take_zero];replace hS:=hS.re τ d;generalize re w τ d=w at hS |-;go_wp2;simp only[zq7];refine zq14 hbk' hJ (s:=n) rfl rfl (f:=29) (args:=#[.pointer (some ⟨wb,0,none⟩),Value.int .i64 (k:Int)]) (λτ d=>?_) (λτ d=>?_) ?_
 . simp[go_sem,execOp,Act.eval,resolve,Deferred.ofValue,invoke,callFunc,Try.func29,Try.f29]
 . intro e he;simp[go_sem,execOp,Act.eval,resolve,Deferred.ofValue,invoke,callFunc,Try.func29,Try.f29,Sem.runT_eq]at he
 refine zq8g hFin hS hI hk hc ?_;intro m' w1 hm hS1;clear hS;rw[Frame.finish_at]
 walk_nrm
 refine zqg (s:=n) (by first|decide |omega) hJ (zqf _) false (.inr rfl) 3 1 0 rfl rfl rfl (by rfl) ?_;intro τ d;simp only[List.drop_succ_cons,List.drop_zero,List.take_succ_cons,List.take_zero];replace hS1:=hS1.re τ d;generalize re w1 τ d=w1 at hS1 |-;go_wp2;simp only[zq7];refine hJ.ctl (s:=n) (λw=>stepG_region_end) ?_;exact HQ.out _ m' w1 rfl hm hS1
end
structure SRes(W0:World)(T0:EpT)(wb vb c:Nat)(W:SW)(k:Nat)(op:OpX)(w:World):Prop where
 ex:∃m tv iv W' E,SAt W0 T0 m wb vb tv iv W' w/\SInv T0.N (c+1) E m.s W'/\(op.k=2->W'.V k % 2=0/\∀i,i≠k->W'.V i=W.V i)
structure SBx(W0:World)(T0:EpT)(m:EpM)(wb vb:Nat)(tv:Value)(iv:Nat->Value)(W:SW)(bb:Nat)(who:Int)(op:OpX)(w:World):Prop where
 at':SAt W0 T0 m wb vb tv iv W w
 box:w.heap[bb]?=some (.cells (actC who op) 46)
theorem SBx.re {W0:World}{T0:EpT}{m:EpM}{wb vb bb:Nat}{tv:Value}{iv:Nat->Value}{W:SW}{who:Int}{op:OpX}{w:World}(h:SBx W0 T0 m wb vb tv iv W bb who op w)(τ:Nat->Question->Nat)(d:Nat):SBx W0 T0 m wb vb tv iv W bb who op (re w τ d):=⟨h.at'.re τ d,h.box⟩
theorem who_idx(who:Int){N:Nat}(h0:0<N)(hN:N<=64):∃k:Nat,k<N/\wrap64 ((IntKind.u64.wrap who).tmod (IntKind.u64.wrap (N:Int)))=(k:Int)/\∀j:Nat,j<N->who=(j:Int)->k=j:=by
 have w:∀x:Int,0<=IntKind.u64.wrap x/\IntKind.u64.wrap x<18446744073709551616:=λx=>by simp only[IntKind.wrap,IntKind.bits,IntKind.signed,Bool.false_and,Bool.false_eq_true,if_false];omega
 have hw:IntKind.u64.wrap (N:Int)=N:=by simp only[IntKind.wrap,IntKind.bits,IntKind.signed,Bool.false_and,Bool.false_eq_true,if_false];omega
 have h1:=w who;rw[hw];have hx:∀j:Nat,j<N->who=(j:Int)->IntKind.u64.wrap who=(j:Int):=λj hj e=>by
  subst e;simp only[IntKind.wrap,IntKind.bits,IntKind.signed,Bool.false_and,Bool.false_eq_true,if_false];omega
 generalize IntKind.u64.wrap who=x at h1 hx;rw[Int.tmod_eq_emod_of_nonneg h1.1];have h3:=Int.emod_nonneg x (show(N:Int)≠0 by omega);have h4:=Int.emod_lt_of_pos x (show(0:Int)<N by omega);refine⟨(x % (N:Int)).toNat,by omega,?_,λj hj e=>?_⟩
 . rw[zq2x (by omega)];omega
 . have:=hx j hj e;subst this;rw[Int.emod_eq_of_lt (by omega) (by omega)];omega
section
variable {Fin:Machine->Trace->Prop} {n:Nat} {W0:World} {T0:EpT} {m:EpM} {wb vb:Nat} {tv:Value} {iv:Nat->Value} {W:SW} {w:World}
theorem act_from(hFin:Back Try.prog Fin){b:Frame}(hbf:b.fn=28)(hbk:b.kind=.normal){k N bb c E:Nat}{inn:Bool}{e0 who:Int}{op:OpX}{aV ok:Value}{T:Array Value}(hF:T=acF wb k N bb inn e0 op.k aV ok (λi=>T.getD i undef))(hok:ok=.bool true)(hS:SAt W0 T0 m wb vb tv iv W w)(hbx:w.heap[bb]?=some (.cells (actC who op) 46))(hI:SInv T0.N c E m.s W)(hNN:T0.N=N)(hk:k<T0.N)(hc:c<=4294967295)(hin:m.s.ins k=inn)(he:m.s.e=e0)
 {cl:Frame} {cs:List Frame} (hq:∀w',SRes W0 T0 wb vb c W k op w'->J0 Try.prog Fin n (G (cl.finish (.bool true)) cs) w'):J0 Try.prog Fin n (G (b.at ⟨T,[]⟩ [.code acB,.inBlock 0,.code (acT 7)]) (cl::cs)) w:=by
 have hJ:=j0_JS hFin;have hC:=zq15 hFin;have hbk':b.kind≠.early:=by rw[hbk];decide
 have hV:inn=decide (W.V k % 2=1):=hin.symm.trans (hI.ins k hk);have HEND:∀(T':Array Value)(m':EpM)(tv':Value)(iv':Nat->Value)(W':SW)(E':Nat)(w':World),T'=acF wb k N bb inn e0 op.k aV (.bool true) (λi=>T'.getD i undef)->SAt W0 T0 m' wb vb tv' iv' W' w'->SInv T0.N (c+1) E' m'.s W'->(m'.s.e=e0\/(m'.s.e=wrap64 (e0+1)/\¬m'.s.e=e0/\w'.cell? ⟨bb,1,none⟩=some (.int .i64 4)))->(op.k=2->W'.V k % 2=0/\∀i,i≠k->W'.V i=W.V i)->
  J0 Try.prog Fin n (G (b.at ⟨T',[]⟩ [.code (acT 7)]) (cl::cs)) w':=λT' m' tv' iv' W' E' w' h1 h2 h3 h4 h5=>by
  refine zq32 (s:=n) hJ hC zqk (by kernel_rfl) (λv w'=>v=.bool true/\SAt W0 T0 m' wb vb tv' iv' W' w') (λv w τ d h=>⟨h.1,h.2.re τ d⟩) hbk (fn:=Try.f28) (by rw[hbf];exact Try.func28) (λτ d=>ac_end (w:=re w' τ d) h1 rfl (h2.re τ d) h4) ?_;rintro v w'' ⟨rfl,h⟩;exact hq w'' ⟨m',tv',iv',W',E',h,h3,h5⟩
 have HOUT:∀(T':Array Value)(w':World),J0 Try.prog Fin n (G (b.at ⟨T',[]⟩ [.code (acT 7)]) (cl::cs)) w'->J0 Try.prog Fin n (G (b.at ⟨T',[]⟩ [.inBlock 0,.code (acT 7)]) (cl::cs)) w':=λT' w' h=>hJ.ctl (s:=n) (λw=>stepG_inBlock) h;rw[acE0];refine hJ.ctl (s:=n) (λw=>stepG_seq) ?_;refine zqv (s:=n) hJ hC zqk (by kernel_rfl) (λ(t:Array Value)(w':World)=>t=acF wb k N bb inn e0 op.k aV ok (λi=>t.getD i undef)/\t[44]?=some (Value.bool (decide (op.k=1)))/\∃τ d,w'=re w τ d) (λt w' τ d h=>⟨h.1,h.2.1,by obtain⟨τ',d',rfl⟩:=h.2.2;exact⟨τ,d,rfl⟩⟩) hbk' (λτ d=>Code.wp_mono (λe a' w' h=>by
  cases e<;>first
   |(obtain⟨h1,h2,h3,rfl⟩:=h;exact⟨h1,h2,h3,τ,d,rfl⟩)
   |exact h) (ac_k0 (w:=re w τ d) hF)) ?_
 clear hF;rintro T w2 ⟨hF,hsl,τ,d,rfl⟩;refine hJ.re' n _ _ τ d ?_
 by_cases hk1:op.k=1
 . refine hJ.ctl (s:=n) (λw=>stepG_cond (t:=true) (by show T.getD 44 undef=_;rw[zqu hsl];simp[hk1])) ?_;rw[if_pos rfl];rw[acA0];refine hJ.ctl (s:=n) (λw=>stepG_seq) ?_;refine ac_r8 hFin hbk hF hS hk hin ?_;intro T1 m1 w1 er hF1 her hor hS1;refine hJ.ctl (s:=n) (λw=>stepG_seq) ?_;refine zqv (s:=n) hJ hC zqk (by kernel_rfl) (λ(t:Array Value)(w':World)=>t=acF wb k N bb inn e0 op.k aV (.bool true) (λi=>t.getD i undef)/\∃τ d,w'=re w1 τ d) (λt w' τ d h=>by first|exact h|(obtain⟨h1,τ',d',rfl⟩:=h;exact⟨h1,τ,d,rfl⟩)|(obtain⟨h1,h2,τ',d',rfl⟩:=h;exact⟨h1,h2,τ,d,rfl⟩)|exact⟨h.1,h.2.re τ d⟩) hbk' (λτ d=>Code.wp_mono (λe a' w' h=>by
    cases e<;>first
     |(obtain⟨h1,h2,rfl⟩:=h;exact⟨h1,h2,τ,d,rfl⟩)
     |(obtain⟨h1,h2,h3,rfl⟩:=h;exact⟨h1,h2,h3,τ,d,rfl⟩)
     |exact h) (ac_r9 (w:=re w1 τ d) hF1 her (by rcases hor with⟨x1,x2,_⟩|⟨x1,x2,_⟩<;>simp[x1,x2]))) ?_
   rintro T2 w2 ⟨hF2,τ,d,rfl⟩;refine hJ.re' n _ _ τ d ?_;refine hJ.ctl (s:=n) (λw=>stepG_seq) ?_;refine zqv (s:=n) hJ hC zqk (by kernel_rfl) (λ(t:Array Value)(w':World)=>t=acF wb k N bb inn e0 op.k aV (.bool true) (λi=>t.getD i undef)/\t[66]?=some (Value.bool (!inn))/\∃τ d,w'=re w1 τ d) (λt w' τ d h=>by first|exact h|(obtain⟨h1,τ',d',rfl⟩:=h;exact⟨h1,τ,d,rfl⟩)|(obtain⟨h1,h2,τ',d',rfl⟩:=h;exact⟨h1,h2,τ,d,rfl⟩)|exact⟨h.1,h.2.re τ d⟩) hbk' (λτ d=>Code.wp_mono (λe a' w' h=>by
    cases e<;>first
     |(obtain⟨h1,h2,rfl⟩:=h;exact⟨h1,h2,τ,d,rfl⟩)
     |(obtain⟨h1,h2,h3,rfl⟩:=h;exact⟨h1,h2,h3,τ,d,rfl⟩)
     |exact h) (ac_r10 (w:=re w1 τ d) hF2)) ?_
   rintro T3 w3 ⟨hF3,hsl3,τ,d,rfl⟩;refine hJ.re' n _ _ τ d ?_;refine hJ.ctl (s:=n) (λw=>stepG_cond (t:=!inn) (by show T3.getD 66 undef=_;exact zqu hsl3)) ?_;rcases hor with⟨hi,_,hm⟩|⟨hi,_,hm⟩
   . rw[show(!inn)=false by simp[hi],if_neg (by decide)];refine hJ.ctl (s:=n) (λw=>stepG_skip) ?_;refine HOUT _ _ (HEND T3 m1 tv iv W E w1 hF3 hS1 (by rw[hm];exact hI.more (Nat.le_succ _)) (.inl (by rw[hm];exact he)) (λh=>by omega))
   . rw[show(!inn)=true by simp[hi],if_pos rfl];have hVk:=hI.V k hk;refine zqv (s:=n) hJ hC zqk (by kernel_rfl) (λ(t:Array Value)(w':World)=>t=acF wb k N bb inn e0 op.k aV (.bool true) (λi=>t.getD i undef)/\SAt W0 T0 m1 wb vb tv iv (W.step k) w') (λt w' τ d h=>by first|exact h|(obtain⟨h1,τ',d',rfl⟩:=h;exact⟨h1,τ,d,rfl⟩)|(obtain⟨h1,h2,τ',d',rfl⟩:=h;exact⟨h1,h2,τ,d,rfl⟩)|exact⟨h.1,h.2.re τ d⟩) hbk' (λτ d=>Code.wp_mono (λe a' w' h=>by
      cases e<;>first
       |(obtain⟨h1,h2,rfl⟩:=h;exact⟨h1,h2,τ,d,rfl⟩)
       |(obtain⟨h1,h2,h3,rfl⟩:=h;exact⟨h1,h2,h3,τ,d,rfl⟩)
       |exact h) (ac_r11 (w:=re w1 τ d) hF3 (hS1.re τ d) hNN (by rw[<-hNN];exact hk) (by omega))) ?_
     rintro T4 w4 ⟨hF4,hS4⟩;exact HOUT _ _ (HEND T4 m1 tv iv (W.step k) E w4 hF4 hS4 (by rw[hm];exact SInv.enter hI hk (by rw[hi]at hV;have:=of_decide_eq_false hV.symm;omega) (by unfold mostC;omega)) (.inl (by rw[hm];exact he)) (λh=>by omega))
 refine hJ.ctl (s:=n) (λw=>stepG_cond (t:=false) (by show T.getD 44 undef=_;rw[zqu hsl];simp[hk1])) ?_;rw[if_neg (by decide)];clear hsl;rw[acE1];refine hJ.ctl (s:=n) (λw=>stepG_seq) ?_;refine zqv (s:=n) hJ hC zqk (by kernel_rfl) (λ(t:Array Value)(w':World)=>t=acF wb k N bb inn e0 op.k aV ok (λi=>t.getD i undef)/\t[76]?=some (Value.bool (decide (op.k=2)))/\∃τ d,w'=re w τ d) (λt w' τ d h=>⟨h.1,h.2.1,by obtain⟨τ',d',rfl⟩:=h.2.2;exact⟨τ,d,rfl⟩⟩) hbk' (λτ d=>Code.wp_mono (λe a' w' h=>by
  cases e<;>first
   |(obtain⟨h1,h2,h3,rfl⟩:=h;exact⟨h1,h2,h3,τ,d,rfl⟩)
   |exact h) (ac_k1 (w:=re w τ d) hF)) ?_
 clear hF;rintro T w2 ⟨hF,hsl,τ,d,rfl⟩;refine hJ.re' n _ _ τ d ?_
 by_cases hk2:op.k=2
 . refine hJ.ctl (s:=n) (λw=>stepG_cond (t:=true) (by show T.getD 76 undef=_;rw[zqu hsl];simp[hk2])) ?_;rw[if_pos rfl];rw[acA1];refine hJ.ctl (s:=n) (λw=>stepG_seq) ?_;refine ac_r13 hFin hbk hF hS hk hin ?_;intro T1 m1 w1 er hF1 her hor hS1;refine hJ.ctl (s:=n) (λw=>stepG_seq) ?_;refine zqv (s:=n) hJ hC zqk (by kernel_rfl) (λ(t:Array Value)(w':World)=>t=acF wb k N bb inn e0 op.k aV (.bool true) (λi=>t.getD i undef)/\∃τ d,w'=re w1 τ d) (λt w' τ d h=>by first|exact h|(obtain⟨h1,τ',d',rfl⟩:=h;exact⟨h1,τ,d,rfl⟩)|(obtain⟨h1,h2,τ',d',rfl⟩:=h;exact⟨h1,h2,τ,d,rfl⟩)|exact⟨h.1,h.2.re τ d⟩) hbk' (λτ d=>Code.wp_mono (λe a' w' h=>by
    cases e<;>first
     |(obtain⟨h1,h2,rfl⟩:=h;exact⟨h1,h2,τ,d,rfl⟩)
     |(obtain⟨h1,h2,h3,rfl⟩:=h;exact⟨h1,h2,h3,τ,d,rfl⟩)
     |exact h) (ac_r14 (w:=re w1 τ d) hF1 her (by rcases hor with⟨x1,x2,_⟩|⟨x1,x2,_⟩<;>simp[x1,x2]))) ?_
   rintro T2 w2 ⟨hF2,τ,d,rfl⟩;refine hJ.re' n _ _ τ d ?_;refine hJ.ctl (s:=n) (λw=>stepG_seq) ?_;refine zqv (s:=n) hJ hC zqk (by kernel_rfl) (λ(t:Array Value)(w':World)=>t=acF wb k N bb inn e0 op.k aV (.bool true) (λi=>t.getD i undef)/\t[94]?=some (Value.bool (inn))/\∃τ d,w'=re w1 τ d) (λt w' τ d h=>by first|exact h|(obtain⟨h1,τ',d',rfl⟩:=h;exact⟨h1,τ,d,rfl⟩)|(obtain⟨h1,h2,τ',d',rfl⟩:=h;exact⟨h1,h2,τ,d,rfl⟩)|exact⟨h.1,h.2.re τ d⟩) hbk' (λτ d=>Code.wp_mono (λe a' w' h=>by
    cases e<;>first
     |(obtain⟨h1,h2,rfl⟩:=h;exact⟨h1,h2,τ,d,rfl⟩)
     |(obtain⟨h1,h2,h3,rfl⟩:=h;exact⟨h1,h2,h3,τ,d,rfl⟩)
     |exact h) (ac_r15 (w:=re w1 τ d) hF2)) ?_
   rintro T3 w3 ⟨hF3,hsl3,τ,d,rfl⟩;refine hJ.re' n _ _ τ d ?_;refine hJ.ctl (s:=n) (λw=>stepG_cond (t:=inn) (by show T3.getD 94 undef=_;exact zqu hsl3)) ?_;rcases hor with⟨hi,_,hm⟩|⟨hi,_,hm⟩
   . rw[show(inn)=false by simp[hi],if_neg (by decide)];refine hJ.ctl (s:=n) (λw=>stepG_skip) ?_;refine HOUT _ _ (HEND T3 m1 tv iv W E w1 hF3 hS1 (by rw[hm];exact hI.more (Nat.le_succ _)) (.inl (by rw[hm];exact he)) (λ_=>⟨by rw[hi]at hV;have:=of_decide_eq_false hV.symm;omega,λ_ _=>rfl⟩))
   . rw[show(inn)=true by simp[hi],if_pos rfl];have hVk:=hI.V k hk;refine zqv (s:=n) hJ hC zqk (by kernel_rfl) (λ(t:Array Value)(w':World)=>t=acF wb k N bb inn e0 op.k aV (.bool true) (λi=>t.getD i undef)/\SAt W0 T0 m1 wb vb tv iv (W.step k) w') (λt w' τ d h=>by first|exact h|(obtain⟨h1,τ',d',rfl⟩:=h;exact⟨h1,τ,d,rfl⟩)|(obtain⟨h1,h2,τ',d',rfl⟩:=h;exact⟨h1,h2,τ,d,rfl⟩)|exact⟨h.1,h.2.re τ d⟩) hbk' (λτ d=>Code.wp_mono (λe a' w' h=>by
      cases e<;>first
       |(obtain⟨h1,h2,rfl⟩:=h;exact⟨h1,h2,τ,d,rfl⟩)
       |(obtain⟨h1,h2,h3,rfl⟩:=h;exact⟨h1,h2,h3,τ,d,rfl⟩)
       |exact h) (ac_r16 (w:=re w1 τ d) hF3 (hS1.re τ d) hNN (by rw[<-hNN];exact hk) (by omega))) ?_
     rintro T4 w4 ⟨hF4,hS4⟩;exact HOUT _ _ (HEND T4 m1 tv iv (W.step k) E w4 hF4 hS4 (by rw[hm];exact SInv.leave hI hk (by rw[hi]at hV;exact of_decide_eq_true hV.symm)) (.inl (by rw[hm];exact he)) (λ_=>⟨by rw[hi]at hV;have:=of_decide_eq_true hV.symm;show(upd' W.V k (W.V k+1)) k % 2=0;rw[upd'_same];omega,λi hne=>zqx _ _ hne⟩))
 refine hJ.ctl (s:=n) (λw=>stepG_cond (t:=false) (by show T.getD 76 undef=_;rw[zqu hsl];simp[hk2])) ?_;rw[if_neg (by decide)];clear hsl;rw[acE2];refine hJ.ctl (s:=n) (λw=>stepG_seq) ?_;refine zqv (s:=n) hJ hC zqk (by kernel_rfl) (λ(t:Array Value)(w':World)=>t=acF wb k N bb inn e0 op.k aV ok (λi=>t.getD i undef)/\t[104]?=some (Value.bool (decide (op.k=3)))/\∃τ d,w'=re w τ d) (λt w' τ d h=>⟨h.1,h.2.1,by obtain⟨τ',d',rfl⟩:=h.2.2;exact⟨τ,d,rfl⟩⟩) hbk' (λτ d=>Code.wp_mono (λe a' w' h=>by
  cases e<;>first
   |(obtain⟨h1,h2,h3,rfl⟩:=h;exact⟨h1,h2,h3,τ,d,rfl⟩)
   |exact h) (ac_k2 (w:=re w τ d) hF)) ?_
 clear hF;rintro T w2 ⟨hF,hsl,τ,d,rfl⟩;refine hJ.re' n _ _ τ d ?_
 by_cases hk3:op.k=3
 . refine hJ.ctl (s:=n) (λw=>stepG_cond (t:=true) (by show T.getD 104 undef=_;rw[zqu hsl];simp[hk3])) ?_;rw[if_pos rfl];refine ac_r18 hFin hbk hF hS hk hI (by omega) ?_;intro T1 m1 tv1 iv1 w1 hF1 hm hS1;exact HOUT _ _ (HEND T1 m1 tv1 iv1 (W.ret k) E w1 hF1 hS1 (by rw[hm];exact hI.retire hk) (.inl (by rw[hm];exact he)) (λh=>by omega))
 refine hJ.ctl (s:=n) (λw=>stepG_cond (t:=false) (by show T.getD 104 undef=_;rw[zqu hsl];simp[hk3])) ?_;rw[if_neg (by decide)];clear hsl;rw[acE3];refine hJ.ctl (s:=n) (λw=>stepG_seq) ?_;refine zqv (s:=n) hJ hC zqk (by kernel_rfl) (λ(t:Array Value)(w':World)=>t=acF wb k N bb inn e0 op.k aV ok (λi=>t.getD i undef)/\t[109]?=some (Value.bool (decide (op.k=4)))/\∃τ d,w'=re w τ d) (λt w' τ d h=>⟨h.1,h.2.1,by obtain⟨τ',d',rfl⟩:=h.2.2;exact⟨τ,d,rfl⟩⟩) hbk' (λτ d=>Code.wp_mono (λe a' w' h=>by
  cases e<;>first
   |(obtain⟨h1,h2,h3,rfl⟩:=h;exact⟨h1,h2,h3,τ,d,rfl⟩)
   |exact h) (ac_k3 (w:=re w τ d) hF)) ?_
 clear hF;rintro T w2 ⟨hF,hsl,τ,d,rfl⟩;refine hJ.re' n _ _ τ d ?_
 by_cases hk4:op.k=4
 . refine hJ.ctl (s:=n) (λw=>stepG_cond (t:=true) (by show T.getD 109 undef=_;rw[zqu hsl];simp[hk4])) ?_;rw[if_pos rfl];rw[acA3];refine hJ.ctl (s:=n) (λw=>stepG_seq) ?_;refine ac_r20 hFin hbk hF hS hk hbx ?_;intro T1 m1 w1 mv hF1 h13 h14 hor hb1 hS1;have hE:=hI.e;have hEc:=hI.le;have hmv:decide (m1.s.e=wrap64 (e0+1))=mv:=by
    rcases hor with⟨rfl,_,hm⟩|⟨rfl,hm⟩
    . rw[hm];exact decide_eq_true (show wrap64 (m.s.e+1)=_ by rw[he])
    . rw[hm,<-he,hE];exact decide_eq_false (by rw[zq2x (by omega)];omega)
   refine zqv (s:=n) hJ hC zqk (by kernel_rfl) (λ(t:Array Value)(w':World)=>t=acF wb k N bb inn e0 op.k aV (.bool true) (λi=>t.getD i undef)/\∃τ d,w'=re w1 τ d) (λt w' τ d h=>by first|exact h|(obtain⟨h1,τ',d',rfl⟩:=h;exact⟨h1,τ,d,rfl⟩)|(obtain⟨h1,h2,τ',d',rfl⟩:=h;exact⟨h1,h2,τ,d,rfl⟩)|exact⟨h.1,h.2.re τ d⟩) hbk' (λτ d=>Code.wp_mono (λe a' w' h=>by
    cases e<;>first
     |(obtain⟨h1,h2,rfl⟩:=h;exact⟨h1,h2,τ,d,rfl⟩)
     |(obtain⟨h1,h2,h3,rfl⟩:=h;exact⟨h1,h2,h3,τ,d,rfl⟩)
     |exact h) (ac_r21 (w:=re w1 τ d) hF1 (hS1.re τ d) h13 h14 hmv)) ?_
   rintro T2 w2 ⟨hF2,τ,d,rfl⟩;refine hJ.re' n _ _ τ d ?_;rcases hor with⟨_,hfree,hm⟩|⟨_,hm⟩
   . refine HOUT _ _ (HEND T2 m1 tv iv W (E+1) w1 hF2 hS1 (by rw[hm];exact hI.adv hfree (by unfold mostC;omega)) (.inr ⟨by rw[hm,<-he];rfl,?_,?_⟩) (λh=>by omega))
     . rw[hm,<-he];show ¬wrap64 (m.s.e+1)=m.s.e;rw[hE,zq2x (by omega)];omega
     . exact(zq1 (off:=1) hb1).trans (by show some (Value.int .i64 op.k)=_;rw[hk4])
   . exact HOUT _ _ (HEND T2 m1 tv iv W E w1 hF2 hS1 (by rw[hm];exact hI.more (Nat.le_succ _)) (.inl (by rw[hm];exact he)) (λh=>by omega))
 refine hJ.ctl (s:=n) (λw=>stepG_cond (t:=false) (by show T.getD 109 undef=_;rw[zqu hsl];simp[hk4])) ?_;rw[if_neg (by decide)];clear hsl;rw[acE4];refine hJ.ctl (s:=n) (λw=>stepG_seq) ?_;refine zqv (s:=n) hJ hC zqk (by kernel_rfl) (λ(t:Array Value)(w':World)=>t=acF wb k N bb inn e0 op.k aV ok (λi=>t.getD i undef)/\t[134]?=some (Value.bool (decide (op.k=5)))/\∃τ d,w'=re w τ d) (λt w' τ d h=>⟨h.1,h.2.1,by obtain⟨τ',d',rfl⟩:=h.2.2;exact⟨τ,d,rfl⟩⟩) hbk' (λτ d=>Code.wp_mono (λe a' w' h=>by
  cases e<;>first
   |(obtain⟨h1,h2,h3,rfl⟩:=h;exact⟨h1,h2,h3,τ,d,rfl⟩)
   |exact h) (ac_k4 (w:=re w τ d) hF)) ?_
 clear hF;rintro T w2 ⟨hF,hsl,τ,d,rfl⟩;refine hJ.re' n _ _ τ d ?_
 by_cases hk5:op.k=5
 . refine hJ.ctl (s:=n) (λw=>stepG_cond (t:=true) (by show T.getD 134 undef=_;rw[zqu hsl];simp[hk5])) ?_;rw[if_pos rfl];refine ac_r23 hFin hbk hF hS hk hI (by omega) ?_;intro T1 m1 w1 hF1 hm hS1;exact HOUT _ _ (HEND T1 m1 tv iv (W.coll m.s k) E w1 hF1 hS1 (by rw[hm];exact hI.coll hk) (.inl (by rw[hm];exact he)) (λh=>by omega))
 refine hJ.ctl (s:=n) (λw=>stepG_cond (t:=false) (by show T.getD 134 undef=_;rw[zqu hsl];simp[hk5])) ?_;rw[if_neg (by decide)];clear hsl;refine hJ.ctl (s:=n) (λw=>stepG_skip) ?_;subst hok;exact HOUT _ _ (HEND T m tv iv W E w hF hS (hI.more (Nat.le_succ _)) (.inl he) (λh=>absurd h hk2))
end
section
variable {Fin:Machine->Trace->Prop} {n:Nat} {W0:World} {T0:EpT} {m:EpM} {wb vb:Nat} {tv:Value} {iv:Nat->Value} {W:SW} {w:World}
theorem act_J(hFin:Back Try.prog Fin){c E:Nat}(hS:SAt W0 T0 m wb vb tv iv W w)(hI:SInv T0.N c E m.s W)(hpos:0<T0.N)(hc:c<=4294967295){who:Int}{op:OpX}{cl:Frame}{cs:List Frame}
 (hq:∀k w',k<T0.N->(∀j:Nat,j<T0.N->who=(j:Int)->k=j)->SRes W0 T0 wb vb c W k op w'->J0 Try.prog Fin n (G (cl.finish (.bool true)) cs) w'):J0 Try.prog Fin n (G (Frame.enter Try.prog 28 #[Value.pointer (some ⟨wb,0,none⟩),actV who op] .normal) (cl::cs)) w:=by
 have hJ:=j0_JS hFin;have hC:=zq15 hFin;have e:Frame.enter Try.prog 28 #[Value.pointer (some ⟨wb,0,none⟩),actV who op] .normal=(bN 28).at (zqm Try.f28 #[Value.pointer (some ⟨wb,0,none⟩),actV who op]) [.code ((Try.f28.body).getD .skip)]:=by kernel_rfl
 have ea:zqm Try.f28 #[Value.pointer (some ⟨wb,0,none⟩),actV who op]=⟨#[Value.pointer (some ⟨wb,0,none⟩),.agg (actC who op),undef,undef,undef,undef,undef,undef,undef,undef,undef,undef,undef,undef,undef,undef,undef,undef,undef,undef,undef,undef,undef,undef,undef,undef,undef,undef,undef,undef,undef,undef,undef,undef,undef,undef,undef,undef,undef,undef,undef,undef,undef,undef,undef,undef,undef,undef,undef,undef,undef,undef,undef,undef,undef,undef,undef,undef,undef,undef,undef,undef,undef,undef,undef,undef,undef,undef,undef,undef,undef,undef,undef,undef,undef,undef,undef,undef,undef,undef,undef,undef,undef,undef,undef,undef,undef,undef,undef,undef,undef,undef,undef,undef,undef,undef,undef,undef,undef,undef,undef,undef,undef,undef,undef,undef,undef,undef,undef,undef,undef,undef,undef,undef,undef,undef,undef,undef,undef,undef,undef,undef,undef,undef,undef,undef,undef,undef,undef,undef,undef,undef,undef,undef,undef,undef,undef,undef,undef,undef,undef,undef,undef,undef,undef,undef,undef,undef,undef,undef,undef,undef,undef,undef,undef,undef,undef,undef,undef,undef,undef,undef,undef,undef,undef],[]⟩:=by kernel_rfl
 rw[e,ea,ac0];clear e ea;have HQ:=Lib.hid hq;have HI:=Lib.hid hI;obtain⟨N,hN⟩:∃N,T0.N=N:=⟨_,rfl⟩;obtain⟨k,hk,hwk,hwj⟩:=who_idx who hpos hS.ty.N;rw[hN]at hwk;have hwN:IntKind.u64.wrap (N:Int)=(N:Int):=by
  have:=hS.ty.N;simp only[IntKind.wrap,IntKind.bits,IntKind.signed,Bool.false_and,Bool.false_eq_true,if_false];omega
 have hN0:¬(N:Int)=0:=by omega
 rw[hwN]at hwk;have hin2:((W.V k:Int) % 2==1)=m.s.ins k:=by
  rw[HI.out.ins k hk]
  by_cases h:W.V k % 2=1
  . rw[decide_eq_true h];simp;omega
  . rw[decide_eq_false h];simp;omega
 clear hq hI;refine hJ.ctl (s:=n) (λw=>stepG_seq) ?_;obtain⟨u_,hu_⟩:∃c,headC (acT 0)=c:=⟨_,rfl⟩;have eu_:=hu_;rw[hu_];simp only[acT,headC,tailN,Try.f28,al_od]at eu_;subst eu_;clear hu_;refine hJ.ctl (s:=n) (λw=>stepG_region) ?_;refine zqg (s:=n) (by first|decide |omega) hJ (zqf _) false (.inr rfl) 0 2 0 rfl rfl rfl (by rfl) ?_;intro τ d;simp only[List.drop_succ_cons,List.drop_zero,List.take_succ_cons,List.take_zero];replace hS:=hS.re τ d;generalize re w τ d=w at hS |-;obtain⟨bb,hbb⟩:∃x,w.heap.size=x:=⟨_,rfl⟩;unfold actC;go_wp2;simp only[zq7];have HB:RowKit.Hid (SBx W0 T0 m wb vb tv iv W bb who op (w.alloc (.cells #[.int .i64 who,.int .i64 op.k,.int .i64 op.a,.int .i64 op.b,.int .i64 op.c] 46))):=Lib.hid ⟨hS.more (Beyond.alloc _ _),by rw[<-hbb];exact zq13 _ _⟩
 try rw[hbb]
 generalize w.alloc (.cells #[.int .i64 who,.int .i64 op.k,.int .i64 op.a,.int .i64 op.b,.int .i64 op.c] 46)=w at HB |-;clear hbb hS;refine hJ.ctl (s:=n) (λw=>stepG_region_end) ?_;refine hJ.ctl (s:=n) (λw=>stepG_seq) ?_;obtain⟨u_,hu_⟩:∃c,headC (acT 1)=c:=⟨_,rfl⟩;have eu_:=hu_;rw[hu_];simp only[acT,headC,tailN,Try.f28,al_od]at eu_;subst eu_;clear hu_;refine hJ.ctl (s:=n) (λw=>stepG_region) ?_;refine zqg (s:=n) (by first|decide |omega) hJ (zqf _) false (.inr rfl) 0 6 0 rfl rfl rfl (by rfl) ?_;intro τ d;simp only[List.drop_succ_cons,List.drop_zero,List.take_succ_cons,List.take_zero];replace HB:=Lib.hid (HB.out.re τ d);generalize re w τ d=w at HB |-;have c1:=HB.out.at'.c1;rw[hN]at c1;go_wp2;simp only[zq7];clear c1;refine hJ.ctl (s:=n) (λw=>stepG_region_end) ?_;refine hJ.ctl (s:=n) (λw=>stepG_seq) ?_;obtain⟨u_,hu_⟩:∃c,headC (acT 2)=c:=⟨_,rfl⟩;have eu_:=hu_;rw[hu_];simp only[acT,headC,tailN,Try.f28,al_od]at eu_;subst eu_;clear hu_;refine hJ.ctl (s:=n) (λw=>stepG_region) ?_;refine zqg (s:=n) (by first|decide |omega) hJ (zqf _) false (.inr rfl) 0 8 0 rfl rfl rfl (by rfl) ?_;intro τ d;simp only[List.drop_succ_cons,List.drop_zero,List.take_succ_cons,List.take_zero];replace HB:=Lib.hid (HB.out.re τ d);generalize re w τ d=w at HB |-;have b0:w.cell? ⟨bb,0,none⟩=some (.int .i64 who):=(zq1 (off:=0) HB.out.box).trans rfl;go_wp2;simp only[zq7]
 try rw[hwk]
 clear b0;refine hJ.ctl (s:=n) (λw=>stepG_region_end) ?_;refine hJ.ctl (s:=n) (λw=>stepG_seq) ?_;obtain⟨u_,hu_⟩:∃c,headC (acT 3)=c:=⟨_,rfl⟩;have eu_:=hu_;rw[hu_];simp only[acT,headC,tailN,Try.f28,al_od]at eu_;subst eu_;clear hu_;refine hJ.ctl (s:=n) (λw=>stepG_region) ?_;refine zqg (s:=n) (by first|decide |omega) hJ (zqf _) false (.inr rfl) 0 10 0 rfl rfl rfl (by rfl) ?_;intro τ d;simp only[List.drop_succ_cons,List.drop_zero,List.take_succ_cons,List.take_zero];replace HB:=Lib.hid (HB.out.re τ d);generalize re w τ d=w at HB |-;have c1:=HB.out.at'.c1;rw[hN]at c1;have v0:w.cell? ⟨vb,k,none⟩=some (.int .i64 (W.V k:Int)):=HB.out.at'.v hk;have k0:(0:Int)<=(k:Int):=by omega
 have k1:(k:Int)<(N:Int):=by omega
 go_wp2;simp only[zq7]
 try rw[hin2]
 clear c1 v0 k0 k1;refine hJ.ctl (s:=n) (λw=>stepG_region_end) ?_;refine hJ.ctl (s:=n) (λw=>stepG_seq) ?_;obtain⟨u_,hu_⟩:∃c,headC (acT 4)=c:=⟨_,rfl⟩;have eu_:=hu_;rw[hu_];simp only[acT,headC,tailN,Try.f28,al_od]at eu_;subst eu_;clear hu_;refine hJ.ctl (s:=n) (λw=>stepG_region) ?_;refine zqg (s:=n) (by first|decide |omega) hJ (zqf _) false (.inr rfl) 0 4 2 rfl rfl rfl (by rfl) ?_;intro τ d;simp only[List.drop_succ_cons,List.drop_zero,List.take_succ_cons,List.take_zero];replace HB:=Lib.hid (HB.out.re τ d);generalize re w τ d=w at HB |-;have c0:=HB.out.at'.c0;go_wp2;simp only[zq7];clear c0;refine zq14 (by decide) hJ (s:=n) rfl rfl (f:=18) (args:=#[.pointer (some ⟨T0.db,0,none⟩)]) (λτ d=>?_) (λτ d=>?_) ?_
 . simp[go_sem,execOp,Act.eval,resolve,Deferred.ofValue,invoke,callFunc,Try.func18,Try.f18]
 . intro e he;simp[go_sem,execOp,Act.eval,resolve,Deferred.ofValue,invoke,callFunc,Try.func18,Try.f18,Sem.runT_eq]at he
 refine zq5d (s:=n) hJ hC zqk Try.func18 rfl (by kernel_rfl) (R:=λv w'=>v=.int .i64 m.s.e/\SBx W0 T0 m wb vb tv iv W bb who op w') (λv w' τ d h=>⟨h.1,h.2.re τ d⟩) (λτ d=>?_) ?_
 . refine Calls.mono (zq4i (HB.out.at'.re τ d).ep) ?_;rintro e w' ⟨rfl,rfl⟩;exact⟨_,rfl,rfl,HB.out.re τ d⟩
 rintro _ w ⟨rfl,hB⟩;replace HB:=Lib.hid hB;clear hB;rw[Frame.finish_at]
 walk_nrm
 refine zqg (s:=n) (by first|decide |omega) hJ (zqf _) false (.inr rfl) 5 1 0 rfl rfl rfl (by rfl) ?_;intro τ d;simp only[List.drop_succ_cons,List.drop_zero,List.take_succ_cons,List.take_zero];replace HB:=Lib.hid (HB.out.re τ d);generalize re w τ d=w at HB |-;go_wp2;simp only[zq7];refine hJ.ctl (s:=n) (λw=>stepG_region_end) ?_;refine hJ.ctl (s:=n) (λw=>stepG_seq) ?_;obtain⟨u_,hu_⟩:∃c,headC (acT 5)=c:=⟨_,rfl⟩;have eu_:=hu_;rw[hu_];simp only[acT,headC,tailN,Try.f28,al_od]at eu_;subst eu_;clear hu_;refine hJ.ctl (s:=n) (λw=>stepG_region) ?_;refine zqg (s:=n) (by first|decide |omega) hJ (zqf _) false (.inr rfl) 0 1 0 rfl rfl rfl (by rfl) ?_;intro τ d;simp only[List.drop_succ_cons,List.drop_zero,List.take_succ_cons,List.take_zero];replace HB:=Lib.hid (HB.out.re τ d);generalize re w τ d=w at HB |-;go_wp2;simp only[zq7];refine hJ.ctl (s:=n) (λw=>stepG_region_end) ?_;refine hJ.ctl (s:=n) (λw=>stepG_seq) ?_;rw[ac6s];refine hJ.ctl (s:=n) (λw=>stepG_seq) ?_;obtain⟨u_,hu_⟩:∃c,headC (headC (acT 6))=c:=⟨_,rfl⟩;have eu_:=hu_;rw[hu_];simp only[acT,headC,tailN,Try.f28,al_od]at eu_;subst eu_;clear hu_;refine hJ.ctl (s:=n) (λw=>stepG_region) ?_;refine zqg (s:=n) (by first|decide |omega) hJ (zqf _) false (.inr rfl) 0 3 0 rfl rfl rfl (by rfl) ?_;intro τ d;simp only[List.drop_succ_cons,List.drop_zero,List.take_succ_cons,List.take_zero];replace HB:=Lib.hid (HB.out.re τ d);generalize re w τ d=w at HB |-;have b1:w.cell? ⟨bb,1,none⟩=some (.int .i64 op.k):=(zq1 (off:=1) HB.out.box).trans rfl;go_wp2;simp only[zq7];clear b1;refine hJ.ctl (s:=n) (λw=>stepG_region_end) ?_;refine hJ.ctl (s:=n) (λw=>stepG_block) ?_;exact act_from (E:=E) (e0:=m.s.e) (inn:=m.s.ins k) (ok:=.bool true) (k:=k) (N:=N) (c:=c) hFin rfl rfl rfl rfl HB.out.at' HB.out.box HI.out hN hk hc rfl rfl (λw' h=>HQ.out k w' hk hwj h)
end
noncomputable def esT(n:Nat):Code:=tailN n (Try.f6.body.getD .skip)
noncomputable def esL(i:Nat):Code:=loopC (zqj (sndC (headC (esT (6+i)))))
noncomputable def esH(i:Nat):Code:=headC (headC (esL i))
noncomputable def esB(i:Nat):Code:=zqj (headC (sndC (esL i)))
noncomputable def esS(i:Nat):Code:=sndC (sndC (esL i))
theorem es0s:Try.f6.body.getD .skip=.seq (headC (esT 0)) (.seq (.seq (headC (headC (esT 1))) (.cond (.tmp 17) (condT (sndC (headC (esT 1)))) .skip)) (esT 2)):=by kernel_rfl
theorem es2s:esT 2=.seq (headC (esT 2)) (.seq (headC (esT 3)) (.seq (.seq (headC (headC (esT 4))) (.cond (.tmp 32) (condT (sndC (headC (esT 4)))) .skip)) (.seq (headC (esT 5)) (esT 6)))):=by kernel_rfl
theorem esLp0:esT 6=.seq (.seq (headC (headC (esT 6))) (.block 0 (.loop (esL 0)))) (esT 7):=by kernel_rfl
theorem esL0:esL 0=.seq (.seq (esH 0) (.cond (.tmp 41) .skip (.exit 0))) (.seq (.block 1 (esB 0)) (esS 0)):=by kernel_rfl
theorem esLp1:esT 7=.seq (.seq (headC (headC (esT 7))) (.block 2 (.loop (esL 1)))) (esT 8):=by kernel_rfl
theorem esL1:esL 1=.seq (.seq (esH 1) (.cond (.tmp 53) .skip (.exit 2))) (.seq (.block 3 (esB 1)) (esS 1)):=by kernel_rfl
theorem esLp2:esT 8=.seq (.seq (headC (headC (esT 8))) (.block 4 (.loop (esL 2)))) (esT 9):=by kernel_rfl
theorem esL2:esL 2=.seq (.seq (esH 2) (.cond (.tmp 74) .skip (.exit 4))) (.seq (.block 5 (esB 2)) (esS 2)):=by kernel_rfl
theorem esLp3:esT 9=.seq (.seq (headC (headC (esT 9))) (.block 6 (.loop (esL 3)))) (esT 10):=by kernel_rfl
theorem esL3:esL 3=.seq (.seq (esH 3) (.cond (.tmp 90) .skip (.exit 6))) (.seq (.block 7 (esB 3)) (esS 3)):=by kernel_rfl
theorem esLp4:esT 10=.seq (.seq (headC (headC (esT 10))) (.block 8 (.loop (esL 4)))) (esT 11):=by kernel_rfl
theorem esL4:esL 4=.seq (.seq (esH 4) (.cond (.tmp 110) .skip (.exit 8))) (.seq (.block 9 (esB 4)) (esS 4)):=by kernel_rfl
theorem esB0s:esB 0=.seq (headC (esB 0)) (.cond (.tmp 50) (condT (sndC (esB 0))) .skip):=by kernel_rfl
theorem esB1s:esB 1=.seq (headC (esB 1)) (.cond (.tmp 72) (condT (sndC (esB 1))) .skip):=by kernel_rfl
theorem esB2s:esB 2=.seq (headC (esB 2)) (.seq (headC (sndC (esB 2))) (.cond (.tmp 87) (condT (sndC (sndC (esB 2)))) .skip)):=by kernel_rfl
theorem esB3s:esB 3=.seq (headC (esB 3)) (.cond (.tmp 103) (condT (sndC (esB 3))) .skip):=by kernel_rfl
theorem esB4s:esB 4=.seq (headC (esB 4)) (.cond (.tmp 121) (condT (sndC (esB 4))) .skip):=by kernel_rfl
theorem zqd7(w:World)(N:Nat)(hN:N<=64):(Instr.makeSlice 24 (.int .i64 N) (.int .i64 N)).run Try.prog w=.ok (.slice (some ⟨w.heap.size,0,none⟩) N N) (w.alloc (.cells (visA N λ_=>0) 3)):=by
 obtain⟨ti,hti,hz0,hz1,hz2⟩:∃ti,Try.prog.info? 3=some ti/\ti.zero=some (.int .i64 0)/\ti.size=1/\ti.bytes=8:=⟨_,rfl,rfl,rfl,rfl⟩;have:=run_make (P:=Try.prog) w 24 3 ti (.int .i64 0) (by kernel_rfl) hti hz0 .i64 .i64 N N (by omega) (Int.le_refl _) (by rw[hz2];omega) (by omega);simp only[Int.toNat_natCast,hz1]at this;rw[this];congr 3;apply Array.ext_getElem?;intro i
 by_cases hi:i<N
 . rw[zq43 hi];simp[madeCells,hi,Value.cells,Nat.mod_one]
 . rw[zq6a hi];simp[madeCells,hi]
def esF(mm:Int)(ap:Option Addr)(aL aC N db wb:Nat)(v:Nat->Value):Array Value:=#[.int .u8 mm,.slice ap aL aC,v 2,v 3,v 4,.int .i64 (N:Int),.pointer (some ⟨db,0,none⟩),.int .i64 0,.pointer (some ⟨wb,0,none⟩),v 9,v 10,v 11,v 12,v 13,v 14,v 15,v 16,v 17,v 18,v 19,v 20,v 21,v 22,v 23,v 24,v 25,v 26,v 27,v 28,v 29,v 30,v 31,v 32,v 33,v 34,v 35,v 36,v 37,v 38,v 39,v 40,v 41,v 42,v 43,v 44,v 45,v 46,v 47,v 48,v 49,v 50,v 51,v 52,v 53,v 54,v 55,v 56,v 57,v 58,v 59,v 60,v 61,v 62,v 63,v 64,v 65,v 66,v 67,v 68,v 69,v 70,v 71,v 72,v 73,v 74,v 75,v 76,v 77,v 78,v 79,v 80,v 81,v 82,v 83,v 84,v 85,v 86,v 87,v 88,v 89,v 90,v 91,v 92,v 93,v 94,v 95,v 96,v 97,v 98,v 99,v 100,v 101,v 102,v 103,v 104,v 105,v 106,v 107,v 108,v 109,v 110,v 111,v 112,v 113,v 114,v 115,v 116,v 117,v 118,v 119,v 120,v 121]
section
variable {mm:Int} {ap:Option Addr} {aL aC N db wb:Nat} {T:Array Value} {w:World}
theorem es_i0(hF:T=esF mm ap aL aC N db wb (λi=>T.getD i undef)):Code.wp Try.prog (headC (headC (esT 6))) (ends (λa' w'=>a'.tmps=esF mm ap aL aC N db wb (λi=>a'.tmps.getD i undef)/\a'.tmps[9]?=some (.int .i64 0)/\w'=w) (λ_ _=>False)) ⟨T,[]⟩ w:=by
 obtain⟨v,hv0,hvv⟩:∃v,T=esF mm ap aL aC N db wb v/\v=λi=>T.getD i undef:=⟨_,hF,rfl⟩;clear hF hvv;subst hv0;unfold esF;obtain⟨u_,hu_⟩:∃c,headC (headC (esT 6))=c:=⟨_,rfl⟩;have eu_:=hu_;rw[hu_];simp only[esL,esH,esB,esS,esT,headC,tailN,sndC,zqj,loopC,condT,Try.f6,al_od]at eu_;subst eu_;clear hu_;go_wp2;exact⟨rfl,rfl,rfl,rfl⟩
theorem es_s0{j:Nat}(hF:T=esF mm ap aL aC N db wb (λi=>T.getD i undef))(h9:T[9]?=some (.int .i64 (j:Int)))(hj:j<1099511627776):Code.wp Try.prog (esS 0) (ends (λa' w'=>a'.tmps=esF mm ap aL aC N db wb (λi=>a'.tmps.getD i undef)/\a'.tmps[9]?=some (.int .i64 ((j+1:Nat):Int))/\w'=w) (λ_ _=>False)) ⟨T,[]⟩ w:=by
 obtain⟨x,hx⟩:∃x:Int,(j:Int)=x:=⟨_,rfl⟩;rw[hx]at h9;have hw:IntKind.i64.wrap (x+1)=((j+1:Nat):Int):=by rw[<-hx,show(j:Int)+1=((j+1:Nat):Int)by omega];exact IntWalk.i64_in _ (by omega)
 have hw2:wrap64 (x+1)=((j+1:Nat):Int):=by rw[<-wrapE];exact hw
 have HW:=Lib.hid (And.intro hw hw2);clear hx hw hw2 hj;obtain⟨v,hv0,hvv⟩:∃v,T=esF mm ap aL aC N db wb v/\v=λi=>T.getD i undef:=⟨_,hF,rfl⟩;have e9:v 9=.int .i64 x:=by rw[hvv];exact zqu h9
 clear hF h9 hvv;subst hv0;unfold esF;rw[e9];clear e9;obtain⟨u_,hu_⟩:∃c,esS 0=c:=⟨_,rfl⟩;have eu_:=hu_;rw[hu_];simp only[esL,esH,esB,esS,esT,headC,tailN,sndC,zqj,loopC,condT,Try.f6,al_od]at eu_;subst eu_;clear hu_;go_wp2;refine⟨rfl,rfl,?_,rfl⟩
 first|exact congrArg (λy=>some (Value.int .i64 y)) HW.out.2|exact congrArg (λy=>some (Value.int .i64 y)) HW.out.1
theorem es_h0{x:Int}(hF:T=esF mm ap aL aC N db wb (λi=>T.getD i undef))(h9:T[9]?=some (.int .i64 x)):Code.wp Try.prog (esH 0) (ends (λa' w'=>a'.tmps=esF mm ap aL aC N db wb (λi=>a'.tmps.getD i undef)/\a'.tmps[9]?=some (.int .i64 x)/\a'.tmps[41]?=some (.bool (decide (x<(aL:Int))))/\w'=w) (λ_ _=>False)) ⟨T,[]⟩ w:=by
 obtain⟨v,hv0,hvv⟩:∃v,T=esF mm ap aL aC N db wb v/\v=λi=>T.getD i undef:=⟨_,hF,rfl⟩;have e9:v 9=.int .i64 x:=by rw[hvv];exact zqu h9
 clear hF h9 hvv;subst hv0;unfold esF;rw[e9];clear e9;obtain⟨u_,hu_⟩:∃c,esH 0=c:=⟨_,rfl⟩;have eu_:=hu_;rw[hu_];simp only[esL,esH,esB,esS,esT,headC,tailN,sndC,zqj,loopC,condT,Try.f6,al_od]at eu_;subst eu_;clear hu_;go_wp2;exact⟨rfl,rfl,rfl,rfl,rfl⟩
theorem es_i1(hF:T=esF mm ap aL aC N db wb (λi=>T.getD i undef)):Code.wp Try.prog (headC (headC (esT 7))) (ends (λa' w'=>a'.tmps=esF mm ap aL aC N db wb (λi=>a'.tmps.getD i undef)/\a'.tmps[10]?=some (.int .i64 0)/\w'=w) (λ_ _=>False)) ⟨T,[]⟩ w:=by
 obtain⟨v,hv0,hvv⟩:∃v,T=esF mm ap aL aC N db wb v/\v=λi=>T.getD i undef:=⟨_,hF,rfl⟩;clear hF hvv;subst hv0;unfold esF;obtain⟨u_,hu_⟩:∃c,headC (headC (esT 7))=c:=⟨_,rfl⟩;have eu_:=hu_;rw[hu_];simp only[esL,esH,esB,esS,esT,headC,tailN,sndC,zqj,loopC,condT,Try.f6,al_od]at eu_;subst eu_;clear hu_;go_wp2;exact⟨rfl,rfl,rfl,rfl⟩
theorem es_s1{j:Nat}(hF:T=esF mm ap aL aC N db wb (λi=>T.getD i undef))(h10:T[10]?=some (.int .i64 (j:Int)))(hj:j<1099511627776):Code.wp Try.prog (esS 1) (ends (λa' w'=>a'.tmps=esF mm ap aL aC N db wb (λi=>a'.tmps.getD i undef)/\a'.tmps[10]?=some (.int .i64 ((j+1:Nat):Int))/\w'=w) (λ_ _=>False)) ⟨T,[]⟩ w:=by
 obtain⟨x,hx⟩:∃x:Int,(j:Int)=x:=⟨_,rfl⟩;rw[hx]at h10;have hw:IntKind.i64.wrap (x+1)=((j+1:Nat):Int):=by rw[<-hx,show(j:Int)+1=((j+1:Nat):Int)by omega];exact IntWalk.i64_in _ (by omega)
 have hw2:wrap64 (x+1)=((j+1:Nat):Int):=by rw[<-wrapE];exact hw
 have HW:=Lib.hid (And.intro hw hw2);clear hx hw hw2 hj;obtain⟨v,hv0,hvv⟩:∃v,T=esF mm ap aL aC N db wb v/\v=λi=>T.getD i undef:=⟨_,hF,rfl⟩;have e10:v 10=.int .i64 x:=by rw[hvv];exact zqu h10
 clear hF h10 hvv;subst hv0;unfold esF;rw[e10];clear e10;obtain⟨u_,hu_⟩:∃c,esS 1=c:=⟨_,rfl⟩;have eu_:=hu_;rw[hu_];simp only[esL,esH,esB,esS,esT,headC,tailN,sndC,zqj,loopC,condT,Try.f6,al_od]at eu_;subst eu_;clear hu_;go_wp2;refine⟨rfl,rfl,?_,rfl⟩
 first|exact congrArg (λy=>some (Value.int .i64 y)) HW.out.2|exact congrArg (λy=>some (Value.int .i64 y)) HW.out.1
theorem es_h1{x:Int}(hF:T=esF mm ap aL aC N db wb (λi=>T.getD i undef))(h10:T[10]?=some (.int .i64 x)):Code.wp Try.prog (esH 1) (ends (λa' w'=>a'.tmps=esF mm ap aL aC N db wb (λi=>a'.tmps.getD i undef)/\a'.tmps[10]?=some (.int .i64 x)/\a'.tmps[53]?=some (.bool (decide (x<(N:Int))))/\w'=w) (λ_ _=>False)) ⟨T,[]⟩ w:=by
 obtain⟨v,hv0,hvv⟩:∃v,T=esF mm ap aL aC N db wb v/\v=λi=>T.getD i undef:=⟨_,hF,rfl⟩;have e10:v 10=.int .i64 x:=by rw[hvv];exact zqu h10
 clear hF h10 hvv;subst hv0;unfold esF;rw[e10];clear e10;obtain⟨u_,hu_⟩:∃c,esH 1=c:=⟨_,rfl⟩;have eu_:=hu_;rw[hu_];simp only[esL,esH,esB,esS,esT,headC,tailN,sndC,zqj,loopC,condT,Try.f6,al_od]at eu_;subst eu_;clear hu_;go_wp2;exact⟨rfl,rfl,rfl,rfl,rfl⟩
theorem es_i2(hF:T=esF mm ap aL aC N db wb (λi=>T.getD i undef)):Code.wp Try.prog (headC (headC (esT 8))) (ends (λa' w'=>a'.tmps=esF mm ap aL aC N db wb (λi=>a'.tmps.getD i undef)/\a'.tmps[11]?=some (.int .i64 0)/\w'=w) (λ_ _=>False)) ⟨T,[]⟩ w:=by
 obtain⟨v,hv0,hvv⟩:∃v,T=esF mm ap aL aC N db wb v/\v=λi=>T.getD i undef:=⟨_,hF,rfl⟩;clear hF hvv;subst hv0;unfold esF;obtain⟨u_,hu_⟩:∃c,headC (headC (esT 8))=c:=⟨_,rfl⟩;have eu_:=hu_;rw[hu_];simp only[esL,esH,esB,esS,esT,headC,tailN,sndC,zqj,loopC,condT,Try.f6,al_od]at eu_;subst eu_;clear hu_;go_wp2;exact⟨rfl,rfl,rfl,rfl⟩
theorem es_s2{j:Nat}(hF:T=esF mm ap aL aC N db wb (λi=>T.getD i undef))(h11:T[11]?=some (.int .i64 (j:Int)))(hj:j<1099511627776):Code.wp Try.prog (esS 2) (ends (λa' w'=>a'.tmps=esF mm ap aL aC N db wb (λi=>a'.tmps.getD i undef)/\a'.tmps[11]?=some (.int .i64 ((j+1:Nat):Int))/\w'=w) (λ_ _=>False)) ⟨T,[]⟩ w:=by
 obtain⟨x,hx⟩:∃x:Int,(j:Int)=x:=⟨_,rfl⟩;rw[hx]at h11;have hw:IntKind.i64.wrap (x+1)=((j+1:Nat):Int):=by rw[<-hx,show(j:Int)+1=((j+1:Nat):Int)by omega];exact IntWalk.i64_in _ (by omega)
 have hw2:wrap64 (x+1)=((j+1:Nat):Int):=by rw[<-wrapE];exact hw
 have HW:=Lib.hid (And.intro hw hw2);clear hx hw hw2 hj;obtain⟨v,hv0,hvv⟩:∃v,T=esF mm ap aL aC N db wb v/\v=λi=>T.getD i undef:=⟨_,hF,rfl⟩;have e11:v 11=.int .i64 x:=by rw[hvv];exact zqu h11
 clear hF h11 hvv;subst hv0;unfold esF;rw[e11];clear e11;obtain⟨u_,hu_⟩:∃c,esS 2=c:=⟨_,rfl⟩;have eu_:=hu_;rw[hu_];simp only[esL,esH,esB,esS,esT,headC,tailN,sndC,zqj,loopC,condT,Try.f6,al_od]at eu_;subst eu_;clear hu_;go_wp2;refine⟨rfl,rfl,?_,rfl⟩
 first|exact congrArg (λy=>some (Value.int .i64 y)) HW.out.2|exact congrArg (λy=>some (Value.int .i64 y)) HW.out.1
theorem es_h2{x:Int}(hF:T=esF mm ap aL aC N db wb (λi=>T.getD i undef))(h11:T[11]?=some (.int .i64 x)):Code.wp Try.prog (esH 2) (ends (λa' w'=>a'.tmps=esF mm ap aL aC N db wb (λi=>a'.tmps.getD i undef)/\a'.tmps[11]?=some (.int .i64 x)/\a'.tmps[74]?=some (.bool (decide (x<2)))/\w'=w) (λ_ _=>False)) ⟨T,[]⟩ w:=by
 obtain⟨v,hv0,hvv⟩:∃v,T=esF mm ap aL aC N db wb v/\v=λi=>T.getD i undef:=⟨_,hF,rfl⟩;have e11:v 11=.int .i64 x:=by rw[hvv];exact zqu h11
 clear hF h11 hvv;subst hv0;unfold esF;rw[e11];clear e11;obtain⟨u_,hu_⟩:∃c,esH 2=c:=⟨_,rfl⟩;have eu_:=hu_;rw[hu_];simp only[esL,esH,esB,esS,esT,headC,tailN,sndC,zqj,loopC,condT,Try.f6,al_od]at eu_;subst eu_;clear hu_;go_wp2;exact⟨rfl,rfl,rfl,rfl,rfl⟩
theorem es_i3(hF:T=esF mm ap aL aC N db wb (λi=>T.getD i undef)):Code.wp Try.prog (headC (headC (esT 9))) (ends (λa' w'=>a'.tmps=esF mm ap aL aC N db wb (λi=>a'.tmps.getD i undef)/\a'.tmps[14]?=some (.int .i64 0)/\w'=w) (λ_ _=>False)) ⟨T,[]⟩ w:=by
 obtain⟨v,hv0,hvv⟩:∃v,T=esF mm ap aL aC N db wb v/\v=λi=>T.getD i undef:=⟨_,hF,rfl⟩;clear hF hvv;subst hv0;unfold esF;obtain⟨u_,hu_⟩:∃c,headC (headC (esT 9))=c:=⟨_,rfl⟩;have eu_:=hu_;rw[hu_];simp only[esL,esH,esB,esS,esT,headC,tailN,sndC,zqj,loopC,condT,Try.f6,al_od]at eu_;subst eu_;clear hu_;go_wp2;exact⟨rfl,rfl,rfl,rfl⟩
theorem es_s3{j:Nat}(hF:T=esF mm ap aL aC N db wb (λi=>T.getD i undef))(h14:T[14]?=some (.int .i64 (j:Int)))(hj:j<1099511627776):Code.wp Try.prog (esS 3) (ends (λa' w'=>a'.tmps=esF mm ap aL aC N db wb (λi=>a'.tmps.getD i undef)/\a'.tmps[14]?=some (.int .i64 ((j+1:Nat):Int))/\w'=w) (λ_ _=>False)) ⟨T,[]⟩ w:=by
 obtain⟨x,hx⟩:∃x:Int,(j:Int)=x:=⟨_,rfl⟩;rw[hx]at h14;have hw:IntKind.i64.wrap (x+1)=((j+1:Nat):Int):=by rw[<-hx,show(j:Int)+1=((j+1:Nat):Int)by omega];exact IntWalk.i64_in _ (by omega)
 have hw2:wrap64 (x+1)=((j+1:Nat):Int):=by rw[<-wrapE];exact hw
 have HW:=Lib.hid (And.intro hw hw2);clear hx hw hw2 hj;obtain⟨v,hv0,hvv⟩:∃v,T=esF mm ap aL aC N db wb v/\v=λi=>T.getD i undef:=⟨_,hF,rfl⟩;have e14:v 14=.int .i64 x:=by rw[hvv];exact zqu h14
 clear hF h14 hvv;subst hv0;unfold esF;rw[e14];clear e14;obtain⟨u_,hu_⟩:∃c,esS 3=c:=⟨_,rfl⟩;have eu_:=hu_;rw[hu_];simp only[esL,esH,esB,esS,esT,headC,tailN,sndC,zqj,loopC,condT,Try.f6,al_od]at eu_;subst eu_;clear hu_;go_wp2;refine⟨rfl,rfl,?_,rfl⟩
 first|exact congrArg (λy=>some (Value.int .i64 y)) HW.out.2|exact congrArg (λy=>some (Value.int .i64 y)) HW.out.1
theorem es_h3{x:Int}(hF:T=esF mm ap aL aC N db wb (λi=>T.getD i undef))(h14:T[14]?=some (.int .i64 x)):Code.wp Try.prog (esH 3) (ends (λa' w'=>a'.tmps=esF mm ap aL aC N db wb (λi=>a'.tmps.getD i undef)/\a'.tmps[14]?=some (.int .i64 x)/\a'.tmps[90]?=some (.bool (decide (x<(N:Int))))/\w'=w) (λ_ _=>False)) ⟨T,[]⟩ w:=by
 obtain⟨v,hv0,hvv⟩:∃v,T=esF mm ap aL aC N db wb v/\v=λi=>T.getD i undef:=⟨_,hF,rfl⟩;have e14:v 14=.int .i64 x:=by rw[hvv];exact zqu h14
 clear hF h14 hvv;subst hv0;unfold esF;rw[e14];clear e14;obtain⟨u_,hu_⟩:∃c,esH 3=c:=⟨_,rfl⟩;have eu_:=hu_;rw[hu_];simp only[esL,esH,esB,esS,esT,headC,tailN,sndC,zqj,loopC,condT,Try.f6,al_od]at eu_;subst eu_;clear hu_;go_wp2;exact⟨rfl,rfl,rfl,rfl,rfl⟩
theorem es_i4(hF:T=esF mm ap aL aC N db wb (λi=>T.getD i undef)):Code.wp Try.prog (headC (headC (esT 10))) (ends (λa' w'=>a'.tmps=esF mm ap aL aC N db wb (λi=>a'.tmps.getD i undef)/\a'.tmps[15]?=some (.int .i64 0)/\w'=w) (λ_ _=>False)) ⟨T,[]⟩ w:=by
 obtain⟨v,hv0,hvv⟩:∃v,T=esF mm ap aL aC N db wb v/\v=λi=>T.getD i undef:=⟨_,hF,rfl⟩;clear hF hvv;subst hv0;unfold esF;obtain⟨u_,hu_⟩:∃c,headC (headC (esT 10))=c:=⟨_,rfl⟩;have eu_:=hu_;rw[hu_];simp only[esL,esH,esB,esS,esT,headC,tailN,sndC,zqj,loopC,condT,Try.f6,al_od]at eu_;subst eu_;clear hu_;go_wp2;exact⟨rfl,rfl,rfl,rfl⟩
theorem es_s4{j:Nat}(hF:T=esF mm ap aL aC N db wb (λi=>T.getD i undef))(h15:T[15]?=some (.int .i64 (j:Int)))(hj:j<1099511627776):Code.wp Try.prog (esS 4) (ends (λa' w'=>a'.tmps=esF mm ap aL aC N db wb (λi=>a'.tmps.getD i undef)/\a'.tmps[15]?=some (.int .i64 ((j+1:Nat):Int))/\w'=w) (λ_ _=>False)) ⟨T,[]⟩ w:=by
 obtain⟨x,hx⟩:∃x:Int,(j:Int)=x:=⟨_,rfl⟩;rw[hx]at h15;have hw:IntKind.i64.wrap (x+1)=((j+1:Nat):Int):=by rw[<-hx,show(j:Int)+1=((j+1:Nat):Int)by omega];exact IntWalk.i64_in _ (by omega)
 have hw2:wrap64 (x+1)=((j+1:Nat):Int):=by rw[<-wrapE];exact hw
 have HW:=Lib.hid (And.intro hw hw2);clear hx hw hw2 hj;obtain⟨v,hv0,hvv⟩:∃v,T=esF mm ap aL aC N db wb v/\v=λi=>T.getD i undef:=⟨_,hF,rfl⟩;have e15:v 15=.int .i64 x:=by rw[hvv];exact zqu h15
 clear hF h15 hvv;subst hv0;unfold esF;rw[e15];clear e15;obtain⟨u_,hu_⟩:∃c,esS 4=c:=⟨_,rfl⟩;have eu_:=hu_;rw[hu_];simp only[esL,esH,esB,esS,esT,headC,tailN,sndC,zqj,loopC,condT,Try.f6,al_od]at eu_;subst eu_;clear hu_;go_wp2;refine⟨rfl,rfl,?_,rfl⟩
 first|exact congrArg (λy=>some (Value.int .i64 y)) HW.out.2|exact congrArg (λy=>some (Value.int .i64 y)) HW.out.1
theorem es_h4{x:Int}{L C:Nat}{p:Option Addr}(hF:T=esF mm ap aL aC N db wb (λi=>T.getD i undef))(h15:T[15]?=some (.int .i64 x))(c2:w.cell? ⟨wb,2,none⟩=some (.slice p L C)):Code.wp Try.prog (esH 4) (ends (λa' w'=>a'.tmps=esF mm ap aL aC N db wb (λi=>a'.tmps.getD i undef)/\a'.tmps[15]?=some (.int .i64 x)/\a'.tmps[110]?=some (.bool (decide (x<(L:Int))))/\w'=w) (λ_ _=>False)) ⟨T,[]⟩ w:=by
 obtain⟨v,hv0,hvv⟩:∃v,T=esF mm ap aL aC N db wb v/\v=λi=>T.getD i undef:=⟨_,hF,rfl⟩;have e15:v 15=.int .i64 x:=by rw[hvv];exact zqu h15
 clear hF h15 hvv;subst hv0;unfold esF;rw[e15];clear e15;obtain⟨u_,hu_⟩:∃c,esH 4=c:=⟨_,rfl⟩;have eu_:=hu_;rw[hu_];simp only[esL,esH,esB,esS,esT,headC,tailN,sndC,zqj,loopC,condT,Try.f6,al_od]at eu_;subst eu_;clear hu_;go_wp2;exact⟨rfl,rfl,rfl,rfl,rfl⟩
theorem es_b4{j:Nat}{L C g:Nat}(hF:T=esF mm ap aL aC N db wb (λi=>T.getD i undef))(h15:T[15]?=some (.int .i64 (j:Int)))(hj:j<L)(c2:w.cell? ⟨wb,2,none⟩=some (.slice (some ⟨g,0,none⟩) L C))(t3:w.cell? ⟨g,j*4+3,none⟩=some (.bool true)):Code.wp Try.prog (headC (esB 4)) (ends (λa' w'=>a'.tmps=esF mm ap aL aC N db wb (λi=>a'.tmps.getD i undef)/\a'.tmps[15]?=some (.int .i64 (j:Int))/\a'.tmps[121]?=some (.bool false)/\w'=w) (λ_ _=>False)) ⟨T,[]⟩ w:=by
 have j0:(0:Int)<=(j:Int):=by omega
 have j1:(j:Int)<(L:Int):=by omega
 obtain⟨v,hv0,hvv⟩:∃v,T=esF mm ap aL aC N db wb v/\v=λi=>T.getD i undef:=⟨_,hF,rfl⟩;have e15:v 15=.int .i64 (j:Int):=by rw[hvv];exact zqu h15
 clear hF h15 hvv;subst hv0;unfold esF;rw[e15];clear e15;obtain⟨u_,hu_⟩:∃c,headC (esB 4)=c:=⟨_,rfl⟩;have eu_:=hu_;rw[hu_];simp only[esL,esH,esB,esS,esT,headC,tailN,sndC,zqj,loopC,condT,Try.f6,al_od]at eu_;subst eu_;clear hu_;go_wp2;exact⟨rfl,rfl,rfl,rfl,rfl⟩
theorem es_r22{x:Int}(hF:T=esF mm ap aL aC N db wb (λi=>T.getD i undef))(h11:T[11]?=some (.int .i64 x))(h12:T[12]?=some (.bool true))(h13:T[13]?=some (.int .i64 0)):Code.wp Try.prog (headC (sndC (esB 2))) (ends (λa' w'=>a'.tmps=esF mm ap aL aC N db wb (λi=>a'.tmps.getD i undef)/\a'.tmps[11]?=some (.int .i64 x)/\a'.tmps[87]?=some (.bool false)/\w'=w) (λ_ _=>False)) ⟨T,[]⟩ w:=by
 obtain⟨v,hv0,hvv⟩:∃v,T=esF mm ap aL aC N db wb v/\v=λi=>T.getD i undef:=⟨_,hF,rfl⟩;have e11:v 11=.int .i64 x:=by rw[hvv];exact zqu h11
 have e12:v 12=.bool true:=by rw[hvv];exact zqu h12
 have e13:v 13=.int .i64 0:=by rw[hvv];exact zqu h13
 clear hF h11 h12 h13 hvv;subst hv0;unfold esF;rw[e11,e12,e13];clear e11 e12 e13;obtain⟨u_,hu_⟩:∃c,headC (sndC (esB 2))=c:=⟨_,rfl⟩;have eu_:=hu_;rw[hu_];simp only[esL,esH,esB,esS,esT,headC,tailN,sndC,zqj,loopC,condT,Try.f6,al_od]at eu_;subst eu_;clear hu_;go_wp2;exact⟨rfl,rfl,rfl,rfl,rfl⟩
end
end Go.Proofs
