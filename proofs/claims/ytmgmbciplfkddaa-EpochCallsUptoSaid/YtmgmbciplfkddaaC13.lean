/- YtmgmbciplfkddaaECal13: part 13 of the proof (the texts behind it, in order). -/
import Derived.Test.YtmgmbciplfkddaaC12
set_option maxHeartbeats 4000000
set_option maxRecDepth 100000
set_option linter.all false
namespace Go.Proofs
open Go Go.Conc Go.RowKit Go.Car
section
variable {cb who:Nat} {K:CR} {lv:Value} {w:World} {rb gm gM N:Nat} {e:Int} {ms Ms:Array Value}
theorem zq9b{P:World->Prop}(h:EcAt rb gm gM N cb who e ms Ms K lv w)(hk:K.k=1)(hE:Calls Try.prog 42 #[.pointer (some ⟨rb,0,none⟩),.pointer (some ⟨cb,0,none⟩)] w λe' w'=>e'=.returned (.tuple #[])/\P w'):
 Calls Try.prog 15 #[.pointer (some ⟨rb,0,none⟩),.pointer (some ⟨cb,0,none⟩)] w λe' w'=>e'=.returned (.tuple #[])/\P w':=by
 obtain⟨-,-,-⟩:=h.d.c;obtain⟨-,c1,-,-,-,-,-,-,-,-⟩:=h.c.c;rw[hk]at c1;have HE:=Lib.hid hE;clear hE h
 go_enter Try.func15,Try.ntmps15
 go_wp2_with (fail)
 refine Calls.mono HE.out ?_;rintro e' w' ⟨rfl,hp⟩;have HP:=Lib.hid hp;clear hp c1;go_wp2
 go_end0
 exact⟨rfl,HP.out⟩
theorem zq5c{P:World->Prop}(h:EcAt rb gm gM N cb who e ms Ms K lv w)(hk:K.k=4)(hE:Calls Try.prog 43 #[.pointer (some ⟨rb,0,none⟩),.pointer (some ⟨cb,0,none⟩)] w λe' w'=>e'=.returned (.tuple #[])/\P w'):
 Calls Try.prog 15 #[.pointer (some ⟨rb,0,none⟩),.pointer (some ⟨cb,0,none⟩)] w λe' w'=>e'=.returned (.tuple #[])/\P w':=by
 obtain⟨-,-,-⟩:=h.d.c;obtain⟨-,c1,-,-,-,-,-,-,-,-⟩:=h.c.c;rw[hk]at c1;have HE:=Lib.hid hE;clear hE h
 go_enter Try.func15,Try.ntmps15
 go_wp2_with (fail)
 refine Calls.mono HE.out ?_;rintro e' w' ⟨rfl,hp⟩;have HP:=Lib.hid hp;clear hp c1;go_wp2
 go_end0
 exact⟨rfl,HP.out⟩
theorem zqg6{P:World->Prop}(h:EcAt rb gm gM N cb who e ms Ms K lv w)(hk:K.k=5)(hE:Calls Try.prog 44 #[.pointer (some ⟨rb,0,none⟩),.pointer (some ⟨cb,0,none⟩)] w λe' w'=>e'=.returned (.tuple #[])/\P w'):
 Calls Try.prog 15 #[.pointer (some ⟨rb,0,none⟩),.pointer (some ⟨cb,0,none⟩)] w λe' w'=>e'=.returned (.tuple #[])/\P w':=by
 obtain⟨-,-,-⟩:=h.d.c;obtain⟨-,c1,-,-,-,-,-,-,-,-⟩:=h.c.c;rw[hk]at c1;have HE:=Lib.hid hE;clear hE h
 go_enter Try.func15,Try.ntmps15
 go_wp2_with (fail)
 refine Calls.mono HE.out ?_;rintro e' w' ⟨rfl,hp⟩;have HP:=Lib.hid hp;clear hp c1;go_wp2
 go_end0
 exact⟨rfl,HP.out⟩
theorem zqg4(h:EcAt rb gm gM N cb who e ms Ms K lv w)(hk:K.k=2)(hw:who<N)(hN:N<=64){x:Int}(hm:ms[who]?=some (.int .i64 x)):
 Calls Try.prog 15 #[.pointer (some ⟨rb,0,none⟩),.pointer (some ⟨cb,0,none⟩)] w λe' w'=>e'=.returned (.tuple #[])/\EcAt rb gm gM N cb who e (ms.setIfInBounds who (.int .i64 0)) Ms (K.fin true 0) lv w'/\Tch (TcE gm gM cb rb) w w':=by
 obtain⟨-,d1,-⟩:=h.d.c;obtain⟨c0,c1,-,-,-,-,-,-,-,-⟩:=h.c.c;rw[hk]at c1;have m0:w.cell? ⟨gm,who,none⟩=some (.int .i64 x):=(zq0 h.d.mar).trans hm;have fm:=zq5 (off:=who) h.d.mar;have g1:¬(who:Int)<0:=by omega
 have g2:(who:Int)<(N:Int):=by omega
 have g3:¬(N:Int)<=(who:Int):=by omega
 have g4:(0:Int)<=(who:Int):=by omega
 have H:=Lib.hid h;clear h hm hw
 go_enter Try.func15,Try.ntmps15
 go_wp2_with (fail)
 refine zq3b (k:=9) (C:=λw'=>∃n,w'=w.drewN n) (by kernel_rfl) (by kernel_rfl) (by kernel_rfl) (by kernel_rfl) (by kernel_rfl) ⟨1,rfl⟩ ?_;simp only[List.take_succ_cons,List.take_zero]
 repeat (quiet_step (fail))
 refine wpQuiet_nil ?_;rintro _ ⟨nq,rfl⟩;refine zq2e (i:=9) (by kernel_rfl) ?_;simp only[wpOp,al_gl,al_g0,al_g1];rw[if_pos (by rfl)];refine .inl ?_;have fm':(w.drewN nq).frozen? ⟨gm,who,none⟩=false:=fm;have m0':(w.drewN nq).cell? ⟨gm,who,none⟩=some (.int .i64 x):=m0;clear fm m0 d1 c0 c1;go_simp;refine zq2d (by kernel_rfl) ?_;have h1:=(H.out.drew nq).setM who (.int .i64 0);have k1:=((Tch.refl (TcE gm gM cb rb) _).drew nq).set (w:=w.drewN nq) (b:=gm) (.inl rfl) who (.int .i64 0);clear fm' m0';generalize (w.drewN nq).setCell ⟨gm,who,none⟩ (.int .i64 0)=w1 at h1 k1 |-;have HE:=Lib.hid (zq1j h1.c true 0);have H1:=Lib.hid (And.intro h1 k1);clear h1 k1
 go_wp2_with (fail)
 refine Calls.mono HE.out ?_;rintro e' w' ⟨rfl,k3,k4⟩;have H3:=Lib.hid (And.intro k3 k4);clear k3 k4;go_wp2
 go_end0
 exact⟨rfl,H1.out.1.fin H3.out.2 H3.out.1,H1.out.2.trans (H3.out.2.mono λb hb=>.inr (.inr (.inl hb)))⟩
def SameE(av av':Value)(w:World):Prop:=∀g,av'.ownBlock=some g->av.ownBlock=some g\/w.heap.size<=g
def RtPost(B rb gm gM N cb who:Nat)(e:Int)(ms Ms:Array Value)(K:CR)(lv hv:Value)(l:List (Int×Int))(w:World)(e':Ending)(w':World):Prop:=
 e'=.returned (.tuple #[])/\∃hv',EcAt rb gm gM N cb who e ms (Ms.setIfInBounds (who*2+1) hv') (K.fin true e) lv w'/\w'.ownsRow B 117 2 hv' (l++[(K.a,e)]).length (thC (l++[(K.a,e)]))/\Tch (λb=>TcE gm gM cb rb b\/hv.ownBlock=some b) w w'/\SameE hv hv' w
theorem zqg5(h:EcAt rb gm gM N cb who e ms Ms K lv w)(hk:K.k=3)(hw:who<N)(hN:N<=64){B:Nat}{hv:Value}{l:List (Int×Int)}(hM:Ms[who*2+1]?=some hv)(hr:w.ownsRow B 117 2 hv l.length (thC l))(hB:B<=w.heap.size)(hl:l.length<=1048576):
 Calls Try.prog 15 #[.pointer (some ⟨rb,0,none⟩),.pointer (some ⟨cb,0,none⟩)] w λe' w'=>RtPost B rb gm gM N cb who e ms Ms K lv hv l w e' w':=by
 obtain⟨d0,-,d2⟩:=h.d.c;obtain⟨c0,c1,c2,-,-,-,-,-,-,-⟩:=h.c.c;rw[hk]at c1;obtain⟨p,C,rfl,_⟩:=zq1q hr;obtain⟨L,hL⟩:∃x,l.length=x:=⟨_,rfl⟩;have m1:w.cell? ⟨gM,who*2+1,none⟩=some (.slice p L C):=by rw[<-hL];exact(zq0 h.d.mem).trans hM
 have g1:¬(who:Int)<0:=by omega
 have g2:(who:Int)<(N:Int):=by omega
 have g3:¬(N:Int)<=(who:Int):=by omega
 have g4:(0:Int)<=(who:Int):=by omega
 have hf:gM≠cb:=h.ne.2.2.2.2.2;have H:=Lib.hid (And.intro h (And.intro hM (And.intro hr (And.intro hB (And.intro hL hl)))));clear h hM hw hr hB hf;rw[hL]at hl
 go_enter Try.func15,Try.ntmps15
 go_wp2_with (fail)
 go_quiet (fail)
 have h1:=H.out.1.drew nq;have r1:(w.drewN nq).ownsRow B 117 2 (.slice p l.length C) l.length (thC l):=H.out.2.2.1;have z1:(w.drewN nq).heap.size=w.heap.size/\∀b,b<w.heap.size->(w.drewN nq).heap[b]?=w.heap[b]?:=⟨rfl,λ_ _=>rfl⟩;clear d0 d2 c0 c1 c2 m1;generalize w.drewN nq=w1 at h1 r1 z1 |-;obtain⟨Z,hZ⟩:∃x,w1.heap.size=x:=⟨_,rfl⟩;obtain⟨d0,-,-⟩:=h1.d.c;obtain⟨-,-,c2,-,-,-,-,-,-,-⟩:=h1.c.c;have c2a:∀o:Obj,(w1.alloc o).cell? ⟨cb,2,none⟩=some (.int .i64 K.a):=λo=>(zq0 (zqm (o:=o) h1.c)).trans rfl;have d0a:∀o:Obj,(w1.alloc o).cell? ⟨rb,0,none⟩=some (.int .i64 e):=λo=>(zq0 (zqm (o:=o) h1.d.dom)).trans rfl;have hrow:(w1.alloc (.cells #[.int .i64 K.a,.int .i64 e] 117)).drew.ownsRow B 117 2 (.slice p L C) L (thC l):=by rw[<-hL];exact zq1s r1 (.cells #[.int .i64 K.a,.int .i64 e] 117)
 have hnw:∀jj u,[Value.int .i64 K.a,Value.int .i64 e][jj]?=some u->(w1.alloc (.cells #[.int .i64 K.a,.int .i64 e] 117)).drew.cell? ((⟨Z,0,none⟩:Addr).add jj)=some u:=λjj u hj=>zq64 (w:=w1) (cs:=#[.int .i64 K.a,.int .i64 e]) (T:=117) hZ jj u hj;obtain⟨tj,htj,hy0,hy1,hy2⟩:∃ti,Try.prog.info? 117=some ti/\ti.zero=some (.agg #[.int .i64 0,.int .i64 0])/\ti.size=2/\ti.bytes=16:=⟨_,rfl,rfl,rfl,rfl⟩;have hund:Try.prog.underlying 113=some (.slice 117):=by kernel_rfl
 have TJ:=Lib.hid (And.intro htj (And.intro hy0 (And.intro hy1 (And.intro hy2 hund))));have HX:=Lib.hid (And.intro hrow (And.intro hnw hZ));have H1:=Lib.hid (And.intro h1 (And.intro r1 z1));have HB:RowKit.Hid (B<=w1.heap.size/\L<=1048576):=Lib.hid ⟨by rw[z1.1];exact H.out.2.2.2.1,hl⟩;clear hrow hnw h1 r1 z1 htj hy0 hy1 hy2 hund
 go_wp2_with (fail)
 go_region_law (first
  |(refine step_append_lies _ rfl (.tmp 40) (.tmp 50) 113 rfl B 117 tj _ 2 16 TJ.out.2.2.2.2 TJ.out.1 TJ.out.2.1 TJ.out.2.2.1 TJ.out.2.2.2.1 rfl (by decide) (.slice p L C) L (thC l) rfl HX.out.1 ⟨Z,0,none⟩ 1 1 [.int .i64 K.a,.int .i64 e] rfl rfl HX.out.2.1 ?_ Nat.one_pos ?_ ?_ ?_ (Z+1) ?_ ?_
    . intro u hu;simp only[List.mem_cons,List.not_mem_nil,or_false]at hu;rcases hu with rfl |rfl<;>rfl
    . have:=HB.out.2;simp only[maxLen];omega
    . have:=HB.out.2;omega
    . have h1:=HB.out.1;show _<=(w1.alloc _).heap.size;rw[zq3];omega
    . show(w1.alloc _).heap.size=_;rw[zq3,HX.out.2.2]
    intro g7 cap7 w7 k1 k2 k3 k4;have HK:=Lib.hid (And.intro k1 (And.intro k2 k3));clear k1 k2 k3 k4))
 all_goals(
  have keep:∀b,b<w1.heap.size->(Value.slice p L C).ownBlock≠some b->w7.heap[b]?=w1.heap[b]?:=λb hb hn=>(HK.out.2.1.block b (by show b<(w1.alloc _).heap.size;rw[zq3];omega) (λe=>hn e.symm)).trans (by show(w1.alloc _).heap[b]?=_;rw[zq6,if_neg (by omega)]);have rr:w1.ownsRow B 117 2 (.slice p L C) L (thC l):=by rw[<-H.out.2.2.2.2.1];exact H1.out.2.1
  have h7:EcAt rb gm gM N cb who e ms Ms K lv w7:=⟨H1.out.1.d.of (keep _ (zqg H1.out.1.d.dom) (zq1p rr H1.out.1.d.dom (by decide))) (keep _ (zqg H1.out.1.d.mar) (zq1p rr H1.out.1.d.mar (by decide))) (keep _ (zqg H1.out.1.d.mem) (zq1p rr H1.out.1.d.mem (by decide))),(keep _ (zqg H1.out.1.c) (zq1p rr H1.out.1.c (by decide))).trans H1.out.1.c⟩;have k7:Tch (λb=>TcE gm gM cb rb b\/(Value.slice p L C).ownBlock=some b) w w7:=⟨by have:=HK.out.2.1.size;have h8:(w1.alloc (.cells #[.int .i64 K.a,.int .i64 e] 117)).drew.heap.size=w1.heap.size+1:=zq3 _ _;rw[h8,H1.out.2.2.1]at this;omega,λb hb hn=>(keep b (by rw[H1.out.2.2.1];exact hb) (λe=>hn (.inr e))).trans (H1.out.2.2.2 b hb)⟩;have s7:SameE (.slice p L C) (.slice (some ⟨g7,0,none⟩) (L+1) cap7) w:=λq hq=>by
   simp only[Value.ownBlock,al_oi]at hq;subst hq;rcases HK.out.2.2 with e|e
   . exact .inl e
   . right;have:=HX.out.2.2;have:=H1.out.2.2.1;omega
  clear keep rr;have d2:=h7.d.c.2.2;have d0:=h7.d.c.1;have c0:=h7.c.c.1;have m1:w7.cell? ⟨gM,who*2+1,none⟩=some (.slice p L C):=by rw[<-H.out.2.2.2.2.1];exact(zq0 h7.d.mem).trans H.out.2.1
  have fM:=zq5 (off:=who*2+1) h7.d.mem;have H7:=Lib.hid (And.intro h7 (And.intro k7 s7));clear h7 k7 s7 c2a d0a
  go_wp2_with (fail)
  refine zq3b (k:=11) (C:=λw'=>∃n,w'=w7.drewN n) (by kernel_rfl) (by kernel_rfl) (by kernel_rfl) (by kernel_rfl) (by kernel_rfl) ⟨1,rfl⟩ ?_;simp only[List.take_succ_cons,List.take_zero]
  repeat (quiet_step (fail))
  refine wpQuiet_nil ?_;rintro _ ⟨nr,rfl⟩;refine zq2e (i:=11) (by kernel_rfl) ?_;simp only[wpOp,al_gl,al_g0,al_g1];rw[if_pos (by rfl)];refine .inl ?_;have fM':(w7.drewN nr).frozen? ⟨gM,who*2+1,none⟩=false:=fM;have m1':(w7.drewN nr).cell? ⟨gM,who*2+1,none⟩=some (.slice p L C):=m1;clear fM m1 d2 c0 d0;go_simp;refine zq2d (by kernel_rfl) ?_;have h8:=(H7.out.1.drew nr).setI (who*2+1) (.slice (some ⟨g7,0,none⟩) (L+1) cap7);have k8:Tch (λb=>TcE gm gM cb rb b\/(Value.slice p L C).ownBlock=some b) w ((w7.drewN nr).setCell ⟨gM,who*2+1,none⟩ (.slice (some ⟨g7,0,none⟩) (L+1) cap7)):=Tch.set (w:=w7.drewN nr) (H7.out.2.1.drew nr) (b:=gM) (.inl (.inr (.inl rfl))) _ _;have r8:((w7.drewN nr).setCell ⟨gM,who*2+1,none⟩ (.slice (some ⟨g7,0,none⟩) (L+1) cap7)).ownsRow B 117 2 (.slice (some ⟨g7,0,none⟩) (L+1) cap7) (L+1) (thC l++[.int .i64 K.a,.int .i64 e]):=zq17 HK.out.1 λq hq=>zqh _ _ _ _ (by
   obtain⟨⟨cc,hcc⟩,_⟩:=own_lt HK.out.1 hq;exact zql hcc H7.out.1.d.mem (by decide))
  clear fM' m1';generalize (w7.drewN nr).setCell ⟨gM,who*2+1,none⟩ (.slice (some ⟨g7,0,none⟩) (L+1) cap7)=w8 at h8 k8 r8 |-;have d0:=h8.d.c.1;have HF:=Lib.hid (zq1j h8.c true e);have H8:=Lib.hid (And.intro h8 (And.intro k8 r8));clear h8 k8 r8
  go_wp2_with (fail)
  refine Calls.mono HF.out ?_;rintro e' w' ⟨rfl,k3,k4⟩;have H3:=Lib.hid (And.intro k3 k4);clear k3 k4 d0;go_wp2
  go_end0
  refine⟨rfl,_,H8.out.1.fin H3.out.2 H3.out.1,?_,(by rw[H.out.2.2.2.2.1];exact H8.out.2.1.trans (H3.out.2.mono λb hb=>.inl (.inr (.inr (.inl hb))))),by rw[H.out.2.2.2.2.1];exact H7.out.2.2⟩;rw[List.length_append,zq5k,H.out.2.2.2.2.1];exact zq17 H8.out.2.2 λq hq=>by
   obtain⟨⟨cc,hcc⟩,_,hlt⟩:=own_lt H8.out.2.2 hq;exact H3.out.2.old q hlt (zql hcc H8.out.1.c (by decide)))
end
def zq1b(C:EpS)(N:Nat):Array Value:=((List.range N).map λj=>Value.int .i64 (C.mark j)).toArray
def memR1(C:EpS)(hv:Nat->Value)(j:Nat):Value:=if j % 2=0 then .bool (C.ins (j / 2))else hv (j / 2)
def memR(C:EpS)(hv:Nat->Value)(N:Nat):Array Value:=((List.range (N*2)).map (memR1 C hv)).toArray
theorem zq3k{C:EpS}{N j:Nat}(h:j<N):(zq1b C N)[j]?=some (.int .i64 (C.mark j)):=by
 unfold zq1b;rw[al_gl,List.getElem?_map,List.getElem?_range h];rfl
theorem zq60{C:EpS}{N j:Nat}(h:¬j<N):(zq1b C N)[j]?=none:=by unfold zq1b;simp[h]
theorem zq48{C:EpS}{hv:Nat->Value}{N j:Nat}(h:j<N*2):(memR C hv N)[j]?=some (memR1 C hv j):=by
 unfold memR;rw[al_gl,List.getElem?_map,List.getElem?_range h];rfl
theorem zq63{C:EpS}{hv:Nat->Value}{N j:Nat}(h:¬j<N*2):(memR C hv N)[j]?=none:=by unfold memR;simp[h]
theorem zq8v{C:EpS}{hv:Nat->Value}{N i:Nat}(h:i<N):(memR C hv N)[i*2]?=some (.bool (C.ins i)):=by
 rw[zq48 (by omega)];unfold memR1;rw[if_pos (by omega),show i*2 / 2=i by omega]
theorem zq8u{C:EpS}{hv:Nat->Value}{N i:Nat}(h:i<N):(memR C hv N)[i*2+1]?=some (hv i):=by
 rw[zq48 (by omega)];unfold memR1;rw[if_neg (by omega),show(i*2+1) / 2=i by omega]
theorem zq8s{C:EpS}{N i:Nat}(x:Int):(zq1b C N).setIfInBounds i (.int .i64 x)=zq1b (C.putM i x) N:=by
 apply Array.ext_getElem?;intro k;rw[al_gs]
 by_cases hk:k<N
 . rw[zq3k hk,zq3k hk]
   by_cases e:i=k
   . subst e;rw[if_pos rfl,if_pos (by unfold zq1b;simpa using hk)];show _=some (Value.int .i64 (upd' C.mark i x i));rw[upd'_same]
   . rw[if_neg e];show _=some (Value.int .i64 (upd' C.mark i x k));rw[zqu _ _ (λh=>e h.symm)]
 . rw[zq60 hk,zq60 hk]
   by_cases e:i=k
   . subst e;rw[if_pos rfl,if_neg (by unfold zq1b;simpa using hk)]
   . rw[if_neg e]
theorem zq8w{C C':EpS}{hv hv':Nat->Value}{N c:Nat}{v:Value}(hv1:memR1 C' hv' c=v)(ho:∀j,j≠c->memR1 C' hv' j=memR1 C hv j):(memR C hv N).setIfInBounds c v=memR C' hv' N:=by
 apply Array.ext_getElem?;intro k;rw[al_gs]
 by_cases hk:k<N*2
 . rw[zq48 hk,zq48 hk]
   by_cases e:c=k
   . subst e;rw[if_pos rfl,if_pos (by unfold memR;simpa using hk),hv1]
   . rw[if_neg e,ho k (λx=>e x.symm)]
 . rw[zq63 hk,zq63 hk]
   by_cases e:c=k
   . subst e;rw[if_pos rfl,if_neg (by unfold memR;simpa using hk)]
   . rw[if_neg e]
theorem zq8y{C:EpS}{hv:Nat->Value}{N i:Nat}(b:Bool):(memR C hv N).setIfInBounds (i*2) (.bool b)=memR (C.putI i b) hv N:=zq8w (by
 unfold memR1;rw[if_pos (by omega),show i*2 / 2=i by omega];show Value.bool (upd' C.ins i b i)=_;rw[upd'_same]) λj hj=>by
 unfold memR1;split
 . show Value.bool (upd' C.ins i b (j / 2))=_;rw[zqu _ _ (by omega)]
 . rfl
theorem zq8x{C C':EpS}{hv:Nat->Value}{N i:Nat}(v:Value)(hC:C'.ins=C.ins):(memR C hv N).setIfInBounds (i*2+1) v=memR C' (upd' hv i v) N:=zq8w (by
 unfold memR1;rw[if_neg (by omega),show(i*2+1) / 2=i by omega,upd'_same]) λj hj=>by
 unfold memR1;split
 . rw[hC]
 . rw[zqu _ _ (by omega)]
def noHv:Nat->Value:=λ_=>.slice none 0 0
theorem zqel(N:Nat)(hN:N<=64)(w:World):(Instr.makeSlice 22 (.int .i64 N) (.int .i64 N)).run Try.prog w=.ok (.slice (some ⟨w.heap.size,0,none⟩) N N) (w.alloc (.cells (zq1b (ep0 0) N) 2)):=by
 obtain⟨ti,hti,hz0,hz1,hz2⟩:∃ti,Try.prog.info? 2=some ti/\ti.zero=some (.int .i64 0)/\ti.size=1/\ti.bytes=8:=⟨_,rfl,rfl,rfl,rfl⟩;have:=run_make (P:=Try.prog) w 22 2 ti (.int .i64 0) (by kernel_rfl) hti hz0 .i64 .i64 N N (by omega) (Int.le_refl _) (by rw[hz2];omega) (by omega);simp only[Int.toNat_natCast,hz1]at this;rw[this];congr 3;apply Array.ext_getElem?;intro i
 by_cases hi:i<N
 . rw[zq3k hi];simp[madeCells,hi,Value.cells,ep0,Nat.mod_one]
 . rw[zq60 hi];simp[madeCells,hi]
theorem zqen(N:Nat)(hN:N<=64)(w:World):(Instr.makeSlice 58 (.int .i64 N) (.int .i64 N)).run Try.prog w=.ok (.slice (some ⟨w.heap.size,0,none⟩) N N) (w.alloc (.cells (memR (ep0 0) noHv N) 115)):=by
 obtain⟨ti,hti,hz0,hz1,hz2⟩:∃ti,Try.prog.info? 115=some ti/\ti.zero=some (.agg #[.bool false,.slice none 0 0])/\ti.size=2/\ti.bytes=32:=⟨_,rfl,rfl,rfl,rfl⟩;have:=run_make (P:=Try.prog) w 58 115 ti (.agg #[.bool false,.slice none 0 0]) (by kernel_rfl) hti hz0 .i64 .i64 N N (by omega) (Int.le_refl _) (by rw[hz2];omega) (by omega);simp only[Int.toNat_natCast,hz1]at this;rw[this];congr 3;apply Array.ext_getElem?;intro i
 by_cases hi:i<N*2
 . rw[zq48 hi];have h3:i % 2=0\/i % 2=1:=by omega
   rcases h3 with h|h<;>simp[madeCells,hi,Value.cells,memR1,h,noHv,ep0]
 . rw[zq63 hi];simp[madeCells,hi]
theorem zqfz(N:Nat)(hN:N<=64)(w:World):Calls Try.prog 13 #[.int .i64 N] w λe' w'=>∃rb gm gM,e'=.returned (.pointer (some ⟨rb,0,none⟩))/\DmAt rb gm gM N 0 (zq1b (ep0 0) N) (memR (ep0 0) noHv N) w'/\Ext w w'/\w.heap.size<=rb/\w.heap.size<=gm/\w.heap.size<=gM:=by
 have hm1:=zqel N hN;have hm2:=zqen N hN;have hA:∀A B D:Obj,Ext w (((w.alloc A).alloc B).alloc D).drew/\(((w.alloc A).alloc B).alloc D).drew.heap[w.heap.size]?=some A/\(((w.alloc A).alloc B).alloc D).drew.heap[w.heap.size+1]?=some B/\(((w.alloc A).alloc B).alloc D).drew.heap[w.heap.size+1+1]?=some D:=λA B D=>by
  have h1:(w.alloc A).heap.size=w.heap.size+1:=zq3 _ _;have h2:((w.alloc A).alloc B).heap.size=w.heap.size+1+1:=by rw[zq3,h1]
  have k1:(((w.alloc A).alloc B).alloc D).heap[w.heap.size]?=some A:=zqm (zqm (zqn _ _));have k2:(((w.alloc A).alloc B).alloc D).heap[w.heap.size+1]?=some B:=zqm (by rw[<-h1];exact zqn _ _);have k3:(((w.alloc A).alloc B).alloc D).heap[w.heap.size+1+1]?=some D:=by rw[<-h2];exact zqn _ _
  refine⟨⟨?_,λb hb=>?_⟩,k1,k2,k3⟩
  . show _<=(((w.alloc A).alloc B).alloc D).heap.size;rw[zq3,h2];omega
  . show(((w.alloc A).alloc B).alloc D).heap[b]?=_;rw[zq6,if_neg (by omega),zq6,if_neg (by omega),zq6,if_neg (by omega)]
 have HA:=Lib.hid hA;clear hA
 go_enter Try.func13,Try.ntmps13
 go_wp2_with (fail)
 go_region_law (fail)
 all_goals(
  go_wp2;go_ret;obtain⟨k0,k1,k2,k3⟩:=HA.out _ _ _
  first
   |exact⟨w.heap.size+1+1,w.heap.size,w.heap.size+1,rfl,⟨k3,k1,k2⟩,k0,by omega,by omega,by omega⟩
   |exact⟨w.heap.size+1+1,w.heap.size+1,w.heap.size,rfl,⟨k3,k2,k1⟩,k0,by omega,by omega,by omega⟩)
def thN(l:List (Int×Int)):List Int:=l.map Prod.fst
theorem zqbp{l:List (Int×Int)}{j:Nat}{x:Int×Int}(h:l[j]?=some x):thN (l.take (j+1))=thN (l.take j)++[x.1]:=by
 unfold thN;rw[List.take_add_one,h,List.map_append];rfl
theorem zq6r(l:List (Int×Int)):(thN l).length=l.length:=by simp[thN]
theorem NumsI.push {w0 wr w7:World}{l:List Int}{v:Value}{o:Obj}{x:Int}{g cap:Nat}(h:NumsI w0 l v wr)(hown:w7.ownsRow w0.heap.size 2 1 (.slice (some ⟨g,0,none⟩) (l.length+1) cap) (l.length+1) (l.map (Value.int .i64)++[.int .i64 x]))(hg:(wr.alloc o).grownBy w7 v.ownBlock):NumsI w0 (l++[x]) (.slice (some ⟨g,0,none⟩) (l.length+1) cap) w7:=by
 have hb:=h.be;have hz:=hg.size;rw[zq3]at hz;refine⟨⟨by have:=hb.1;omega,λb hb2=>?_⟩,?_⟩
 . rw[hg.block b (by rw[zq3];have:=hb.1;omega) (λe=>by have:=(own_lt h.row e.symm).2.1;omega),zq6,if_neg (by have:=hb.1;omega)];exact hb.2 b hb2
 . rw[List.length_append,List.map_append];exact hown
theorem NumsI.more {w0 wr w':World}{l:List Int}{v:Value}(h:NumsI w0 l v wr)(hb:Beyond wr w'):NumsI w0 l v w':=⟨h.be.trans hb,zq17 h.row λg hg=>hb.2 g (own_lt h.row hg).2.2⟩
theorem zqdh{T:EpT}{m:EpM}{w:World}{k:Nat}(h:EpRep T m w)(hty:T.tT=125)(hN:T.N<=64)(hk:k<T.N)(hl:(m.s.th k).length<=1099511627776):Calls Try.prog 21 #[.pointer (some ⟨T.db,0,none⟩),.int .i64 k] w λe w'=>∃v,e=.returned v/\NumsI w (thN (m.s.th k)) v w':=by
 have hf:=zq87 h.hdr hk (by omega);obtain⟨p,C,hv,hx⟩:=zqbq (h.row k hk) (λb o=>h.blk k b o hk);have c2:=h.cellT hk;rw[hv]at c2;obtain⟨L,hL⟩:∃L,(m.s.th k).length=L:=⟨_,rfl⟩;rw[hL]at c2 hl;have HX:=Lib.hid (And.intro hx hL);have HF:=Lib.hid hf;clear hf hx hv hty h hL
 go_enter Try.func21,Try.ntmps21
 go_wp2_with (fail)
 refine Calls.mono HF.out ?_;rintro e w' ⟨rfl,hww⟩;obtain rfl:=hww.symm;clear hww
 go_wp2_with (fail)
 go_loopg [5,19] L (λq s5 s19 wr=>∃(j:Nat)(pp:Option Addr)(Cp:Nat),q=L - j/\j<=L/\s19=.int .i64 j/\s5=.slice pp j Cp/\NumsI w (thN ((m.s.th k).take j)) (.slice pp j Cp) wr)
 case atStart=>exact⟨0,none,0,rfl,Nat.zero_le _,rfl,rfl,Beyond.refl _,World.ownsRow_nil _ _ _ _⟩
 case round=>
  obtain⟨j,pp,Cp,hq,hj,rfl,rfl,hI⟩:=hrel;have HI:=Lib.hid hI;clear hI
  by_cases hlt:j<L
  . have hlt':(j:Int)<(L:Int):=by omega
    have hj0:(0:Int)<=j:=by omega
    obtain⟨x,hxj⟩:∃x,(m.s.th k)[j]?=some x:=⟨_,List.getElem?_eq_getElem (by rw[HX.out.2];exact hlt)⟩;obtain⟨g,hp,_,x0,x1⟩:=HX.out.1 j x hxj;subst hp;have y0:=HI.out.be.cell x0;have y1:=HI.out.be.cell x1;have hlen:(thN ((m.s.th k).take j)).length=j:=by rw[zq6r,List.length_take,HX.out.2];omega
    obtain⟨tj,htj,hy0,hy1,hy2⟩:∃ti,Try.prog.info? 2=some ti/\ti.zero=some (.int .i64 0)/\ti.size=1/\ti.bytes=8:=⟨_,rfl,rfl,rfl,rfl⟩;have TJ:=Lib.hid (And.intro htj (And.intro hy0 (And.intro hy1 hy2)));have HLN:=Lib.hid (And.intro hlen hxj);have hgl:g<wr.heap.size:=cell_lt y0;clear x0 x1 htj hy0 hy1 hy2 hlen hxj
    go_wp2_with (at_builtin;go_loud (refine wpList_append_lies _ rfl (.tmp 23) (.tmp 26) 22 rfl w.heap.size 2 tj (.int .i64 0) 1 8 (by kernel_rfl) TJ.out.1 TJ.out.2.1 TJ.out.2.2.1 TJ.out.2.2.2 rfl (by decide) _ j ((thN ((m.s.th k).take j)).map (Value.int .i64)) rfl (zq1s (zq1s (by have:=HI.out.row;rw[HLN.out.1]at this;exact this) _) _) _ 1 1 [.int .i64 x.1] rfl rfl (zq3l (zq3 _ _)) (λu hu=>by simp only[List.mem_cons,List.not_mem_nil,or_false]at hu;subst hu;rfl) (by decide) (by simp only[maxLen];omega) (by omega) (by rw[zq3,zq3];have:=HI.out.be.1;omega) _ rfl ?next))
    case next=>
     intro g7 cap7 w7 hown7 hgrow7 hat7 hlt7;have h7:=(HI.out.more (Beyond.alloc wr _)).push (g:=g7) (cap:=cap7) (x:=x.1) (by rw[HLN.out.1];exact hown7) hgrow7;rw[<-zqbp HLN.out.2,HLN.out.1]at h7;have L7:=Lib.hid h7;clear hown7 hgrow7 hat7 hlt7 h7;go_wp2;go_roundg (L - (j+1))
     case measure=>omega
     case rel=>exact⟨j+1,_,_,rfl,by omega,congrArg (Value.int .i64) (by first|rfl |omega |(simp only[wrap64];omega)|(rw[IntWalk.i64_in _ (by omega)];omega)),rfl,L7.out⟩
  . obtain rfl:j=L:=by omega
    clear hq hj hlt;go_wp2;go_ret;refine⟨_,rfl,?_⟩;have:=HI.out;rw[List.take_of_length_le (by rw[HX.out.2];exact Nat.le_refl _)]at this;exact this
theorem zqga{rb gm gM N k:Nat}{C:EpS}{hv:Nat->Value}{w:World}{p:Option Addr}{Cc:Nat}(h:DmAt rb gm gM N C.e (zq1b C N) (memR C hv N) w)(hN:N<=64)(hk:k<N)(hl:(C.th k).length<=1099511627776)(hv0:hv k=.slice p (C.th k).length Cc)
 (hx:∀j x,(C.th k)[j]?=some x->∃g,p=some ⟨g,0,none⟩/\w.cell? ⟨g,j*2,none⟩=some (.int .i64 x.1)):Calls Try.prog 22 #[.pointer (some ⟨rb,0,none⟩),.int .i64 k] w λe w'=>∃v,e=.returned v/\NumsI w (thN (C.th k)) v w':=by
 have d2:=h.c.2.2;have m2:w.cell? ⟨gM,k*2+1,none⟩=some (hv k):=(zq0 h.mem).trans (zq8u hk);rw[hv0]at m2;obtain⟨L,hL⟩:∃L,(C.th k).length=L:=⟨_,rfl⟩;rw[hL]at m2 hl;have HX:=Lib.hid (And.intro hx (And.intro hL (And.intro d2 m2)));have g1:¬(k:Int)<0:=by omega
 have g2:(k:Int)<(N:Int):=by omega
 have g4:(0:Int)<=(k:Int):=by omega
 clear hx hv0 h hL d2 m2
 go_enter Try.func22,Try.ntmps22
 go_wp2_with (fail)
 go_loopg [5,6] L (λq s5 s6 wr=>∃(j:Nat)(pp:Option Addr)(Cp:Nat),q=L - j/\j<=L/\s6=.int .i64 j/\s5=.slice pp j Cp/\NumsI w (thN ((C.th k).take j)) (.slice pp j Cp) wr)
 case atStart=>exact⟨0,none,0,rfl,Nat.zero_le _,rfl,rfl,Beyond.refl _,World.ownsRow_nil _ _ _ _⟩
 case round=>
  obtain⟨j,pp,Cp,hq,hj,rfl,rfl,hI⟩:=hrel;have HI:=Lib.hid hI;clear hI;have d2:=HI.out.be.cell HX.out.2.2.1;have m2:=HI.out.be.cell HX.out.2.2.2
  by_cases hlt:j<L
  . have hlt':(j:Int)<(L:Int):=by omega
    have hj0:(0:Int)<=j:=by omega
    obtain⟨x,hxj⟩:∃x,(C.th k)[j]?=some x:=⟨_,List.getElem?_eq_getElem (by rw[HX.out.2.1];exact hlt)⟩;obtain⟨g,hp,x0⟩:=HX.out.1 j x hxj;subst hp;have y0:=HI.out.be.cell x0;have hlen:(thN ((C.th k).take j)).length=j:=by rw[zq6r,List.length_take,HX.out.2.1];omega
    obtain⟨tj,htj,hy0,hy1,hy2⟩:∃ti,Try.prog.info? 2=some ti/\ti.zero=some (.int .i64 0)/\ti.size=1/\ti.bytes=8:=⟨_,rfl,rfl,rfl,rfl⟩;have TJ:=Lib.hid (And.intro htj (And.intro hy0 (And.intro hy1 hy2)));have HLN:=Lib.hid (And.intro hlen hxj);clear x0 htj hy0 hy1 hy2 hlen hxj
    go_wp2_with (at_builtin;go_loud (refine wpList_append_lies _ rfl (.tmp 20) (.tmp 33) 22 rfl w.heap.size 2 tj (.int .i64 0) 1 8 (by kernel_rfl) TJ.out.1 TJ.out.2.1 TJ.out.2.2.1 TJ.out.2.2.2 rfl (by decide) _ j ((thN ((C.th k).take j)).map (Value.int .i64)) rfl (zq1s (by have:=HI.out.row;rw[HLN.out.1]at this;exact this) _) _ 1 1 [.int .i64 x.1] rfl rfl (zq3l rfl) (λu hu=>by simp only[List.mem_cons,List.not_mem_nil,or_false]at hu;subst hu;rfl) (by decide) (by simp only[maxLen];omega) (by omega) (by rw[zq3];have:=HI.out.be.1;omega) _ rfl ?next))
    case next=>
     intro g7 cap7 w7 hown7 hgrow7 hat7 hlt7;have h7:=HI.out.push (g:=g7) (cap:=cap7) (x:=x.1) (by rw[HLN.out.1];exact hown7) hgrow7;rw[<-zqbp HLN.out.2,HLN.out.1]at h7;have L7:=Lib.hid h7;clear hown7 hgrow7 hat7 hlt7 h7;go_wp2;go_roundg (L - (j+1))
     case measure=>omega
     case rel=>exact⟨j+1,_,_,rfl,by omega,congrArg (Value.int .i64) (by first|rfl |omega |(simp only[wrap64];omega)|(rw[IntWalk.i64_in _ (by omega)];omega)),rfl,L7.out⟩
  . obtain rfl:j=L:=by omega
    clear hq hj hlt;go_wp2;go_ret;refine⟨_,rfl,?_⟩;have:=HI.out;rw[List.take_of_length_le (by rw[HX.out.2.1];exact Nat.le_refl _)]at this;exact this
def loopC:Code->Code
 |.loop c=>c
 |c=>c
section
variable {main:Bool} {J:Goroutine->World->Prop}
end
end Go.Proofs
namespace Go.Car
open Go Go.Conc Go.RowKit
def avC:List Ans->List Value->List Value
 |a::l,v::vs=>.bool a.ok::.int .i64 a.n::v::avC l vs
 |_,_=>[]
end Go.Car
namespace Go.Proofs
open Go Go.Conc Go.RowKit Go.Car
abbrev ThAt(tb who:Nat)(opv:Value)(at':Nat)(cp ov:Value)(w:World):Prop:=w.heap[tb]?=some (.cells #[.int .i64 who,opv,.int .i64 at',cp,ov] 103)
def crOf(op:OpX)(t:RTh):CR:=⟨op.k,op.a,t.pc,t.n 0,(t.n 1).toNat,false,false,0⟩
section
variable {P:Ans->Value->Prop} {B rb gm gM N who tb:Nat} {opv:Value} {hv:Nat->Value} {ov0:Value} {w wr:World} {C:EpS} {t:RTh} {cp ov:Value} {lvs:List Value}
theorem epBg_e(i:Nat)(op:OpX)(C:EpS)(t:RTh):(epBg i op C t).1.e=C.e/\(epBg i op C t).1.mark=C.mark/\(epBg i op C t).1.th=C.th:=by
 unfold epBg;split
 . exact⟨rfl,rfl,rfl⟩
 split
 . exact⟨rfl,rfl,rfl⟩
 split<;>exact⟨rfl,rfl,rfl⟩
theorem bg_end{op:OpX}{i:Nat}(h:bgEnd op (C.ins i)):epBg i op C t=(C,t.fin Ans.none):=by
 unfold epBg;rcases h with h|h|h|h
 . rw[if_pos (.inl h)]
 . rw[if_pos (.inr h)]
 . by_cases h1:op.k<1\/5<op.k
   . rw[if_pos h1]
   . rw[if_neg h1,if_pos (.inl h)]
 . by_cases h1:op.k<1\/5<op.k
   . rw[if_pos h1]
   . rw[if_neg h1,if_pos (.inr h)]
theorem bg_on{op:OpX}{i:Nat}(h:¬bgEnd op (C.ins i)):(epBg i op C t).2={t with pc:=1,n:=λ_=>0}:=by
 unfold epBg;unfold bgEnd at h;rw[if_neg (λx=>h (x.elim .inl λy=>.inr (.inl y))),if_neg (λx=>h (x.elim (λy=>.inr (.inr (.inl y))) λy=>.inr (.inr (.inr y))))];split<;>rfl
theorem bg_mem{op:OpX}{i:Nat}:bgM i op (C.ins i) (memR C hv N)=memR (epBg i op C t).1 hv N:=by
 unfold bgM
 by_cases h:op.k=2/\C.ins i=true
 . rw[if_pos h,zq8y];unfold epBg;rw[if_neg (by omega),if_neg (by rintro(⟨h1,_⟩|⟨_,h2⟩);omega;rw[h.2]at h2;cases h2),if_pos h.1]
 . rw[if_neg h]
   by_cases he:bgEnd op (C.ins i)
   . rw[bg_end he]
   . unfold epBg;unfold bgEnd at he;rw[if_neg (λx=>he (x.elim .inl λy=>.inr (.inl y))),if_neg (λx=>he (x.elim (λy=>.inr (.inr (.inl y))) λy=>.inr (.inr (.inr y))))]
     by_cases h2:op.k=2
     . exfalso;cases hi:C.ins i with
       |true=>exact h ⟨h2,hi⟩
       |false=>exact he (.inr (.inr (.inr ⟨h2,hi⟩)))
     . rw[if_neg h2]
end
section
variable {N:Nat} {op:OpX} {t:RTh} {C:EpS}
theorem zq7m(e:Int):({crOf op t with e:=e,ph:=2}:CR)=crOf op {t with pc:=2,n:=upd' t.n 0 e}:=by
 unfold crOf;have e1:upd' t.n 0 e 1=t.n 1:=zqu _ _ (by decide);have e0:upd' t.n 0 e 0=e:=upd'_same _ _ _;simp only[e1,e0]
theorem cr_adv(hp:t.pc=2)(h0:0<=t.n 1)(hk:op.k=4)(i:Nat):
 ((C.mark (t.n 1).toNat≠0/\C.mark (t.n 1).toNat≠wrap64 (t.n 0+1))/\(advK N (C.mark (t.n 1).toNat) (crOf op t)).done=true/\(advK N (C.mark (t.n 1).toNat) (crOf op t)).ok=true/\(advK N (C.mark (t.n 1).toNat) (crOf op t)).n=0/\∃t1:RTh,epStp N i op C t=(C,t1.fin ⟨true,0,[]⟩)/\t1.at'=t.at'/\t1.ans=t.ans)\/
 (¬(C.mark (t.n 1).toNat≠0/\C.mark (t.n 1).toNat≠wrap64 (t.n 0+1))/\(epStp N i op C t).1=C/\advK N (C.mark (t.n 1).toNat) (crOf op t)=crOf op (epStp N i op C t).2/\(epStp N i op C t).2.at'=t.at'/\(epStp N i op C t).2.ans=t.ans/\(epStp N i op C t).2.pc≠0):=by
 have hs:epStp N i op C t=epAdv N C t:=by
  unfold epStp;rw[if_neg (by omega),if_neg (by omega),if_neg (by omega),if_pos hk]
 rw[hs];unfold epAdv;rw[if_neg (by omega),if_pos hp];simp only
 by_cases hm:C.mark (t.n 1).toNat≠0/\C.mark (t.n 1).toNat≠wrap64 (t.n 0+1)
 . refine .inl ⟨hm,?_⟩;have e:advK N (C.mark (t.n 1).toNat) (crOf op t)=CR.fin {crOf op t with i:=(crOf op t).i+1} true 0:=if_pos hm;rw[e,if_pos hm];exact⟨rfl,rfl,rfl,_,rfl,rfl,rfl⟩
 . refine .inr ⟨hm,?_⟩;rw[if_neg hm];have e0:upd' t.n 1 (t.n 1+1) 0=t.n 0:=zqu _ _ (by decide);have e1:upd' t.n 1 (t.n 1+1) 1=t.n 1+1:=upd'_same _ _ _;have e2:(t.n 1+1).toNat=(t.n 1).toNat+1:=by omega
   by_cases hl:t.n 1+1=(N:Int)
   . have e:advK N (C.mark (t.n 1).toNat) (crOf op t)={crOf op t with i:=(crOf op t).i+1,ph:=3}:=by
      unfold advK;rw[if_neg (show ¬(C.mark (t.n 1).toNat≠0/\C.mark (t.n 1).toNat≠wrap64 ((crOf op t).e+1))from hm),if_pos (by show(t.n 1).toNat+1=N;omega)]
     rw[e,if_pos hl];refine⟨rfl,?_,rfl,rfl,Nat.succ_ne_zero _⟩;unfold crOf;simp only[e0,e1,e2]
   . have e:advK N (C.mark (t.n 1).toNat) (crOf op t)={crOf op t with i:=(crOf op t).i+1}:=by
      unfold advK;rw[if_neg (show ¬(C.mark (t.n 1).toNat≠0/\C.mark (t.n 1).toNat≠wrap64 ((crOf op t).e+1))from hm),if_neg (by show ¬(t.n 1).toNat+1=N;omega)]
     rw[e,if_neg hl];refine⟨rfl,?_,rfl,rfl,by show t.pc≠0;omega⟩;unfold crOf;simp only[e0,e1,e2]
end
def LsP(G:Nat->Option Obj)(a:Ans)(v:Value):Prop:=∃X,RowB X 2 1 v a.l.length (a.l.map (Value.int .i64))/\∀b o,X b=some o->G b=some o
theorem LsP.mono {G G':Nat->Option Obj}{a:Ans}{v:Value}(h:LsP G a v)(hG:∀b o,G b=some o->G' b=some o):LsP G' a v:=by
 obtain⟨X,h1,h2⟩:=h;exact⟨X,h1,λb o hb=>hG b o (h2 b o hb)⟩
theorem LsP.zero (G:Nat->Option Obj):LsP G Ans.none (.slice none 0 0):=⟨λ_=>.none,RowB.nil _ _,λb o h=>by cases h⟩
theorem LsP.nil (G:Nat->Option Obj)(ok:Bool)(n:Int):LsP G ⟨ok,n,[]⟩ (.slice none 0 0):=⟨λ_=>.none,RowB.nil _ _,λb o h=>by cases h⟩
theorem LsP.at' {G:Nat->Option Obj}{a:Ans}{v:Value}{w:World}(h:LsP G a v)(hG:∀b o,G b=some o->w.heap[b]?=some o):IntsAt w v a.l:=by
 obtain⟨X,h1,h2⟩:=h;exact zq6a h1 λb o hb=>hG b o (h2 b o hb)
structure ERep(X:Nat->Prop)(G:Nat->Option Obj)(B rb gm gM N n:Nat)(opv:Nat->Value)(ops:Nat->List OpX)(C:EpS)(T:Nat->RTh)(hv ov cp:Nat->Value)(tb:Nat->Nat)(lvs:Nat->List Value)(w:World):Prop where
 d:DmAt rb gm gM N C.e (zq1b C N) (memR C hv N) w
 row:∀i,i<N->w.ownsRow B 117 2 (hv i) (C.th i).length (thC (C.th i))
 hsep:∀i j g,i<N->j<N->(hv i).ownBlock=some g->(hv j).ownBlock=some g->i=j
 th:∀i,i<n->ThAt (tb i) i (opv i) (T i).at' (cp i) (ov i) w
 call:∀i,i<n->¬X i->((T i).pc=0/\cp i=.pointer none)\/((T i).pc≠0/\∃cb op,cp i=.pointer (some ⟨cb,0,none⟩)/\(ops i)[(T i).at']?=some op/\B<=cb/\CrAt cb i (crOf op (T i)) (.slice none 0 0) w)
 out:∀i,i<n->w.ownsRow B 48 3 (ov i) (T i).ans.length (avC (T i).ans (lvs i))
 osep:∀i j g,i<n->j<n->(ov i).ownBlock=some g->(ov j).ownBlock=some g->i=j
 len:∀i,i<n->(lvs i).length=(T i).ans.length
 lst:∀i,i<n->∀(j:Nat)(a:Ans)(v:Value),(T i).ans[j]?=some a->(lvs i)[j]?=some v->LsP G a v
 gho:∀b o,G b=some o->w.heap[b]?=some o/\b≠gm/\B<=b/\∃c,o=.cells c 2
 lo:B<=rb/\B<=gm/\B<=gM/\∀i,i<n->B<=tb i
section
variable {X:Nat->Prop} {G:Nat->Option Obj} {B rb gm gM N n:Nat} {opv:Nat->Value} {ops:Nat->List OpX} {C:EpS} {T:Nat->RTh} {hv ov cp:Nat->Value} {tb:Nat->Nat} {lvs:Nat->List Value} {w w':World}
theorem zq7c{cb who who':Nat}{K K':CR}{lv lv':Value}(h:CrAt cb who K lv w)(h':CrAt cb who' K' lv' w):who=who':=by
 have:=h.symm.trans h';unfold crC at this;simp only[al_oi,Obj.cells.injEq,Array.mk.injEq,List.cons.injEq,Value.int.injEq]at this;omega
theorem ERep.more (h:ERep X G B rb gm gM N n opv ops C T hv ov cp tb lvs w)(ho:∀b,b<w.heap.size->w'.heap[b]?=w.heap[b]?):ERep X G B rb gm gM N n opv ops C T hv ov cp tb lvs w' where
 d:=h.d.more ho
 row i hi:=zq17 (h.row i hi) λg hg=>ho g (own_lt (h.row i hi) hg).2.2
 hsep:=h.hsep
 th i hi:=(ho _ (zqg (h.th i hi))).trans (h.th i hi)
 call i hi hX:=by
  rcases h.call i hi hX with k|⟨k1,cb,op,k2,k3,k4,k5⟩
  . exact .inl k
  . exact .inr ⟨k1,cb,op,k2,k3,k4,(ho _ (zqg k5)).trans k5⟩
 out i hi:=zq17 (h.out i hi) λg hg=>ho g (own_lt (h.out i hi) hg).2.2
 osep:=h.osep
 len:=h.len
 lst:=h.lst
 gho b o hb:=by
  obtain⟨k1,k2⟩:=h.gho b o hb;exact⟨(ho _ (zqg k1)).trans k1,k2⟩
 lo:=h.lo
end
section
variable {X:Nat->Prop} {G:Nat->Option Obj} {B rb gm gM N n:Nat} {opv:Nat->Value} {ops:Nat->List OpX} {C C':EpS} {T:Nat->RTh} {hv ov cp:Nat->Value} {tb:Nat->Nat} {lvs:Nat->List Value} {w w':World}
end
section
variable {G:Nat->Option Obj} {B rb gm gM N n:Nat} {opv:Nat->Value} {ops:Nat->List OpX} {C C':EpS} {T:Nat->RTh} {hv ov cp:Nat->Value} {tb:Nat->Nat} {lvs:Nat->List Value} {w w':World}
theorem ERep.acted (h:ERep (λ_=>False) G B rb gm gM N n opv ops C T hv ov cp tb lvs w){x cb:Nat}{K:CR}{lv:Value}(hcb:CrAt cb x K lv w)(k:DmAt rb gm gM N C'.e (zq1b C' N) (memR C' hv N) w')(hth:C'.th=C.th)(tch:Tch (TcE gm gM cb rb) w w'):
 ERep (λi=>i=x) G B rb gm gM N n opv ops C' T hv ov cp tb lvs w':=by
 have hR:=h.d.dom;have hm:=h.d.mar;have hM:=h.d.mem;have keep:∀b,b<w.heap.size->b≠gm->b≠gM->b≠cb->b≠rb->w'.heap[b]?=w.heap[b]?:=λb hb h1 h2 h3 h4=>tch.old b hb (λe=>e.elim h1 λe=>e.elim h2 λe=>e.elim h3 h4);refine⟨k,λi hi=>?_,h.hsep,λi hi=>?_,λi hi hX=>?_,λi hi=>?_,h.osep,h.len,h.lst,λb o hb=>?_,h.lo⟩
 . rw[hth];refine zq17 (h.row i hi) λg hg=>?_;obtain⟨⟨c,hcc⟩,_,hlt⟩:=own_lt (h.row i hi) hg;exact keep g hlt (zql hcc hm (by decide)) (zql hcc hM (by decide)) (zql hcc hcb (by decide)) (zql hcc hR (by decide))
 . have q:=h.th i hi;exact(keep _ (zqg q) (zql q hm (by decide)) (zql q hM (by decide)) (zql q hcb (by decide)) (zql q hR (by decide))).trans q
 . rcases h.call i hi (λq=>q)with q|⟨q1,c,op,q2,q3,q4,q5⟩
   . exact .inl q
   . exact .inr ⟨q1,c,op,q2,q3,q4,(keep _ (zqg q5) (zql q5 hm (by decide)) (zql q5 hM (by decide)) (λe=>hX (zq7c q5 (e▸hcb))) (zql q5 hR (by decide))).trans q5⟩
 . refine zq17 (h.out i hi) λg hg=>?_;obtain⟨⟨c,hcc⟩,_,hlt⟩:=own_lt (h.out i hi) hg;exact keep g hlt (zql hcc hm (by decide)) (zql hcc hM (by decide)) (zql hcc hcb (by decide)) (zql hcc hR (by decide))
 . obtain⟨q1,q2,q3,c,q4⟩:=h.gho b o hb;subst q4;exact⟨(keep b (zqg q1) q2 (zql q1 hM (by decide)) (zql q1 hcb (by decide)) (zql q1 hR (by decide))).trans q1,q2,q3,c,rfl⟩
theorem ERep.thinged (h:ERep (λ_=>False) G B rb gm gM N n opv ops C T hv ov cp tb lvs w){x cb:Nat}(hx:x<N){K:CR}{lv:Value}(hcb:CrAt cb x K lv w){hv':Value}(k:DmAt rb gm gM N C'.e (zq1b C' N) (memR C' (upd' hv x hv') N) w')(hth:∀j,j≠x->C'.th j=C.th j)
 (hrow:w'.ownsRow B 117 2 hv' (C'.th x).length (thC (C'.th x))) (tch:Tch (λb=>TcE gm gM cb rb b\/(hv x).ownBlock=some b) w w') (so:SameE (hv x) hv' w):
 ERep (λi=>i=x) G B rb gm gM N n opv ops C' T (upd' hv x hv') ov cp tb lvs w':=by
 have hR:=h.d.dom;have hm:=h.d.mar;have hM:=h.d.mem;have hH:=h.row x hx;have keep:∀b,b<w.heap.size->b≠gm->b≠gM->b≠cb->b≠rb->(hv x).ownBlock≠some b->w'.heap[b]?=w.heap[b]?:=λb hb h1 h2 h3 h4 h5=>tch.old b hb (λe=>e.elim (λe=>e.elim h1 λe=>e.elim h2 λe=>e.elim h3 h4) h5);refine⟨k,λi hi=>?_,λi j g hi hj h1 h2=>?_,λi hi=>?_,λi hi hX=>?_,λi hi=>?_,h.osep,h.len,h.lst,λb o hb=>?_,h.lo⟩
 . by_cases e:i=x
   . subst e;rw[upd'_same];exact hrow
   . rw[zqu _ _ e,hth i e];refine zq17 (h.row i hi) λg hg=>?_;obtain⟨⟨c,hcc⟩,_,hlt⟩:=own_lt (h.row i hi) hg;exact keep g hlt (zql hcc hm (by decide)) (zql hcc hM (by decide)) (zql hcc hcb (by decide)) (zql hcc hR (by decide)) (λq=>e (h.hsep i x g hi hx hg q))
 . by_cases e1:i=x
   . by_cases e2:j=x
     . rw[e1,e2]
     . exfalso;subst e1;rw[upd'_same]at h1;rw[zqu _ _ e2]at h2;rcases so g h1 with q|q
       . exact e2 (h.hsep j i g hj hi h2 q)
       . have:=(own_lt (h.row j hj) h2).2.2;omega
   . by_cases e2:j=x
     . exfalso;subst e2;rw[upd'_same]at h2;rw[zqu _ _ e1]at h1;rcases so g h2 with q|q
       . exact e1 (h.hsep i j g hi hj h1 q)
       . have:=(own_lt (h.row i hi) h1).2.2;omega
     . rw[zqu _ _ e1]at h1;rw[zqu _ _ e2]at h2;exact h.hsep i j g hi hj h1 h2
 . have q:=h.th i hi;exact(keep _ (zqg q) (zql q hm (by decide)) (zql q hM (by decide)) (zql q hcb (by decide)) (zql q hR (by decide)) (zq1p hH q (by decide))).trans q
 . rcases h.call i hi (λq=>q)with q|⟨q1,c,op,q2,q3,q4,q5⟩
   . exact .inl q
   . exact .inr ⟨q1,c,op,q2,q3,q4,(keep _ (zqg q5) (zql q5 hm (by decide)) (zql q5 hM (by decide)) (λe=>hX (zq7c q5 (e▸hcb))) (zql q5 hR (by decide)) (zq1p hH q5 (by decide))).trans q5⟩
 . refine zq17 (h.out i hi) λg hg=>?_;obtain⟨⟨c,hcc⟩,_,hlt⟩:=own_lt (h.out i hi) hg;exact keep g hlt (zql hcc hm (by decide)) (zql hcc hM (by decide)) (zql hcc hcb (by decide)) (zql hcc hR (by decide)) (zq1p hH hcc (by decide))
 . obtain⟨q1,q2,q3,c,q4⟩:=h.gho b o hb;subst q4;exact⟨(keep b (zqg q1) q2 (zql q1 hM (by decide)) (zql q1 hcb (by decide)) (zql q1 hR (by decide)) (zq1p hH q1 (by decide))).trans q1,q2,q3,c,rfl⟩
end
section
variable {X:Nat->Prop} {G:Nat->Option Obj} {B rb gm gM N n:Nat} {opv:Nat->Value} {ops:Nat->List OpX} {C:EpS} {T:Nat->RTh} {hv ov cp:Nat->Value} {tb:Nat->Nat} {lvs:Nat->List Value} {w:World}
theorem ERep.grow (h:ERep X G B rb gm gM N n opv ops C T hv ov cp tb lvs w){G':Nat->Option Obj}(hG:∀b o,G b=some o->G' b=some o)(hn:∀b o,G' b=some o->w.heap[b]?=some o/\b≠gm/\B<=b/\∃c,o=.cells c 2):
 ERep X G' B rb gm gM N n opv ops C T hv ov cp tb lvs w:=
 ⟨h.d,h.row,h.hsep,h.th,h.call,h.out,h.osep,h.len,λi hi j a v h1 h2=>(h.lst i hi j a v h1 h2).mono hG,hn,h.lo⟩
theorem ERep.list (h:ERep X G B rb gm gM N n opv ops C T hv ov cp tb lvs w){H:Nat}{dv:Value}{l:List Int}(hr:w.ownsRow H 2 1 dv l.length (l.map (Value.int .i64)))(hg:gm<H)(hB:B<=H):
 ∃G',(∀b o,G b=some o->G' b=some o)/\ERep X G' B rb gm gM N n opv ops C T hv ov cp tb lvs w/\∀ok m,LsP G' ⟨ok,m,l⟩ dv:=by
 obtain⟨Y,h1,h2,h3⟩:=zq5b hr;refine⟨λb=>match G b with|some o=>some o|none=>Y b,λb o hb=>by simp only[hb],h.grow (λb o hb=>by simp only[hb]) λb o hb=>?_,λok m=>⟨Y,h1,λb o hb=>?_⟩⟩
 . cases hGb:G b with
   |some o'=>
    simp only[hGb,al_oi]at hb;subst hb;exact h.gho b o' hGb
   |none=>
    simp only[hGb]at hb;obtain⟨k1,c,k2⟩:=h2 b o hb;have:=h3 b (by rw[hb];simp);exact⟨k1,by omega,by omega,c,k2⟩
 . cases hGb:G b with
   |some o'=>
    have e1:=(h.gho b o' hGb).1;have e2:=(h2 b o hb).1;rw[e1]at e2;simpa[hGb]using e2
   |none=>simpa[hGb]using hb
end
structure HeldE(B:Nat)(w w':World):Prop where
 size:w.heap.size<=w'.heap.size
 old:∀b,b<B->b<w.heap.size->w'.heap[b]?=w.heap[b]?
theorem HeldE.trans {B:Nat}{a b c:World}(h:HeldE B a b)(k:HeldE B b c):HeldE B a c:=⟨Nat.le_trans h.size k.size,λx hx hs=>(k.old x hx (Nat.lt_of_lt_of_le hs h.size)).trans (h.old x hx hs)⟩
theorem Tch.held {S:Nat->Prop}{B:Nat}{w w':World}(h:Tch S w w')(hS:∀b,S b->B<=b):HeldE B w w':=⟨h.size,λb hb hs=>h.old b hs λk=>by have:=hS b k;omega⟩
def KeepS(w w':World):Prop:=∀(b:Nat)(c:Array Value)(T:TypeId),w.heap[b]?=some (.cells c T)->T≠60->T≠2->T≠115->T≠52->T≠117->w'.heap[b]?=w.heap[b]?
theorem KeepS.trans {a b c:World}(h:KeepS a b)(k:KeepS b c):KeepS a c:=λx o T h0 h1 h2 h3 h4 h5=>by
 have e:=h x o T h0 h1 h2 h3 h4 h5;exact(k x o T (e.trans h0) h1 h2 h3 h4 h5).trans e
def CallWas(G:Nat->Option Obj)(K:CR)(lv:Value)(op:OpX)(t t':RTh):Prop:=
 (∃lp ln lc l t1,K.done=true/\lv=.slice lp ln lc/\LsP G ⟨K.ok,K.n,l⟩ (.slice lp ln lc)/\t'=RTh.fin t1 ⟨K.ok,K.n,l⟩/\t1.at'=t.at'/\t1.ans=t.ans)\/
 (K.done=false/\lv=.slice none 0 0/\K=crOf op t'/\t'.at'=t.at'/\t'.ans=t.ans/\t'.pc≠0)
def EStep(G:Nat->Option Obj)(B rb gm gM N n:Nat)(opv:Nat->Value)(ops:Nat->List OpX)(T:Nat->RTh)(ov cp:Nat->Value)(tb:Nat->Nat)(lvs:Nat->List Value)(x cb:Nat)(op:OpX)(R:EpS×RTh)(w:World)(e':Ending)(w':World):Prop:=
 e'=.returned (.tuple #[])/\∃G' hv' K lv,ERep (λi=>i=x) G' B rb gm gM N n opv ops R.1 T hv' ov cp tb lvs w'/\CrAt cb x K lv w'/\HeldE B w w'/\KeepS w w'/\CallWas G' K lv op (T x) R.2
section
variable {G:Nat->Option Obj} {B rb gm gM N n:Nat} {opv:Nat->Value} {ops:Nat->List OpX} {C C':EpS} {T:Nat->RTh} {hv ov cp:Nat->Value} {tb:Nat->Nat} {lvs:Nat->List Value} {w w':World} {x cb:Nat} {op:OpX}
theorem Tch.heldE (h:Tch (TcE gm gM cb rb) w w')(hlo:B<=rb/\B<=gm/\B<=gM)(hcb:B<=cb):HeldE B w w':=h.held λb hb=>by
 rcases hb with e|e|e|e<;>omega
theorem ERep.keepS (h:ERep (λ_=>False) G B rb gm gM N n opv ops C T hv ov cp tb lvs w){K:CR}{lv:Value}(hxN:x<N)(hc:CrAt cb x K lv w)(k:Tch (λb=>TcE gm gM cb rb b\/(hv x).ownBlock=some b) w w'):KeepS w w':=λb c T' h0 h1 h2 h3 h4 h5=>k.old b (zqg h0) λe=>by
 rcases e with(e|e|e|e)|e
 . exact zql h0 h.d.mar h2 e
 . exact zql h0 h.d.mem h3 e
 . exact zql h0 hc h4 e
 . exact zql h0 h.d.dom h1 e
 . exact zq1p (h.row x hxN) h0 (λq=>h5 q.symm) e
theorem wrapE(x:Int):IntKind.i64.wrap x=wrap64 x:=by rw[IntKind.wrap_i64];simp only[wrap64];try omega
theorem zqdf(h:ERep (λ_=>False) G B rb gm gM N n opv ops C T hv ov cp tb lvs w)(hxN:x<N)(hN:N<=64)(hBs:B<=w.heap.size)(hcb:B<=cb)(hc:CrAt cb x (crOf op (T x)) (.slice none 0 0) w)(hO:OkE N op (T x))(hL:(C.th x).length<=1048576):
 Calls Try.prog 15 #[.pointer (some ⟨rb,0,none⟩),.pointer (some ⟨cb,0,none⟩)] w λe' w'=>EStep G B rb gm gM N n opv ops T ov cp tb lvs x cb op (epStp N x op C (T x)) w e' w':=by
 have hE:EcAt rb gm gM N cb x C.e (zq1b C N) (memR C hv N) (crOf op (T x)) (.slice none 0 0) w:=⟨h.d,hc⟩;have hlo:B<=rb/\B<=gm/\B<=gM:=⟨h.lo.1,h.lo.2.1,h.lo.2.2.1⟩;have hm:=zq3k (C:=C) hxN;have hM:=zq8v (C:=C) (hv:=hv) hxN;have hH:=zq8u (C:=C) (hv:=hv) hxN;have hg:=hO.good
 by_cases h1:op.k=1
 . have hs:epStp N x op C (T x)=zq3x x C (T x):=by unfold epStp;rw[if_pos h1]
   rw[hs];unfold zq3x;rcases hO.k1 h1 with e|e
   . rw[if_pos e];refine Calls.mono (zq9b hE h1 (zqfw hE e)) ?_;rintro e' w' ⟨rfl,k1,k2⟩;refine⟨rfl,G,hv,_,_,h.acted hc k1.d rfl k2,k1.c,k2.heldE hlo hcb,h.keepS hxN hc (k2.mono λb hb=>.inl hb),.inr ⟨rfl,rfl,zq7m C.e,rfl,rfl,Nat.succ_ne_zero _⟩⟩
   . rw[if_neg (by omega)];refine Calls.mono (zq9b hE h1 (zqfx hE e hxN hN hm hM)) ?_;rintro e' w' ⟨rfl,k1,k2⟩;refine⟨rfl,G,hv,_,_,h.acted (C':=(C.putM x (wrap64 ((T x).n 0+1))).putI x true) hc ?_ rfl k2,k1.c,k2.heldE hlo hcb,h.keepS hxN hc (k2.mono λb hb=>.inl hb),.inl ⟨none,0,0,[],T x,rfl,rfl,LsP.nil _ _ _,rfl,rfl,rfl⟩⟩;have:=k1.d;rw[zq8s,zq8y,show IntKind.i64.wrap ((crOf op (T x)).e+1)=wrap64 ((T x).n 0+1)from wrapE _]at this;exact this
 by_cases h2:op.k=2
 . have hs:epStp N x op C (T x)=(C.putM x 0,(T x).fin ⟨true,0,[]⟩):=by unfold epStp;rw[if_neg h1,if_pos h2]
   rw[hs];refine Calls.mono (zqg4 hE h2 hxN hN hm) ?_;rintro e' w' ⟨rfl,k1,k2⟩;refine⟨rfl,G,hv,_,_,h.acted (C':=C.putM x 0) hc ?_ rfl k2,k1.c,k2.heldE hlo hcb,h.keepS hxN hc (k2.mono λb hb=>.inl hb),.inl ⟨none,0,0,[],T x,rfl,rfl,LsP.nil _ _ _,rfl,rfl,rfl⟩⟩;have:=k1.d;rw[zq8s]at this;exact this
 by_cases h3:op.k=3
 . have hs:epStp N x op C (T x)=(C.putT x (C.th x++[(op.a,C.e)]),(T x).fin ⟨true,C.e,[]⟩):=by unfold epStp;rw[if_neg h1,if_neg h2,if_pos h3]
   rw[hs];refine Calls.mono (zqg5 hE h3 hxN hN hH (h.row x hxN) hBs hL) ?_;rintro e' w' ⟨rfl,hv',k1,k2,k3,k4⟩;refine⟨rfl,G,_,_,_,h.thinged (C':=C.putT x (C.th x++[(op.a,C.e)])) hxN hc (hv':=hv') ?_ ?_ ?_ k3 k4,k1.c,k3.held ?_,h.keepS hxN hc k3,.inl ⟨none,0,0,[],T x,rfl,rfl,LsP.nil _ _ _,rfl,rfl,rfl⟩⟩
   . have:=k1.d;rw[zq8x (C:=C) (C':=C.putT x (C.th x++[(op.a,C.e)])) hv' rfl]at this;exact this
   . intro j hj;exact zqu _ _ hj
   . have e:(C.putT x (C.th x++[(op.a,C.e)])).th x=C.th x++[(op.a,C.e)]:=upd'_same _ _ _;rw[e];exact k2
   . intro b hb;rcases hb with(e|e|e|e)|e
     . omega
     . omega
     . omega
     . omega
     . exact(own_lt (h.row x hxN) e).2.1
 by_cases h4:op.k=4
 . have hs:epStp N x op C (T x)=epAdv N C (T x):=by unfold epStp;rw[if_neg h1,if_neg h2,if_neg h3,if_pos h4]
   rcases hO.k4 h4 with⟨e,e1⟩|⟨e,e1,e2⟩|e
   . rw[hs];unfold epAdv;rw[if_pos e];refine Calls.mono (zq5c hE h4 (zqfg hE e)) ?_;rintro e' w' ⟨rfl,k1,k2⟩;exact⟨rfl,G,hv,_,_,h.acted hc k1.d rfl k2,k1.c,k2.heldE hlo hcb,h.keepS hxN hc (k2.mono λb hb=>.inl hb),.inr ⟨rfl,rfl,zq7m C.e,rfl,rfl,Nat.succ_ne_zero _⟩⟩
   . have hi:((T x).n 1).toNat<N:=by omega
     refine Calls.mono (zq5c hE h4 (zqfh hE e hi hN (zq3k hi))) ?_;rintro e' w' ⟨rfl,k1,k2⟩;have ei:(crOf op (T x)).i=((T x).n 1).toNat:=rfl;rw[ei]at k1;rcases cr_adv (N:=N) (C:=C) e e1 h4 x with⟨_,q1,q2,q3,t1,q4,q5,q6⟩|⟨_,q1,q2,q3,q4,q5⟩
     . rw[q4];exact⟨rfl,G,hv,_,_,h.acted hc k1.d rfl k2,k1.c,k2.heldE hlo hcb,h.keepS hxN hc (k2.mono λb hb=>.inl hb),.inl ⟨none,0,0,[],t1,q1,rfl,by rw[q2,q3];exact LsP.nil _ _ _,by rw[q2,q3],q5,q6⟩⟩
     . refine⟨rfl,G,hv,_,_,h.acted (C':=(epStp N x op C (T x)).1) hc (by rw[q1];exact k1.d) (by rw[q1]) k2,k1.c,k2.heldE hlo hcb,h.keepS hxN hc (k2.mono λb hb=>.inl hb),.inr ⟨by rw[q2];rfl,rfl,q2,q3,q4,q5⟩⟩
   . rw[hs];unfold epAdv;rw[if_neg (by omega),if_neg (by omega)]
     by_cases he:C.e=(T x).n 0
     . rw[if_pos he];refine Calls.mono (zq5c hE h4 (zqfi hE e he)) ?_;rintro e' w' ⟨rfl,k1,k2⟩;exact⟨rfl,G,hv,_,_,h.acted (C':=C.putE (wrap64 ((T x).n 0+1))) hc k1.d rfl k2,k1.c,k2.heldE hlo hcb,h.keepS hxN hc (k2.mono λb hb=>.inl hb),.inl ⟨none,0,0,[],T x,rfl,rfl,LsP.nil _ _ _,rfl,rfl,rfl⟩⟩
     . rw[if_neg he];refine Calls.mono (zq5c hE h4 (zqfj hE e he)) ?_;rintro e' w' ⟨rfl,k1,k2⟩;exact⟨rfl,G,hv,_,_,h.acted hc k1.d rfl k2,k1.c,k2.heldE hlo hcb,h.keepS hxN hc (k2.mono λb hb=>.inl hb),.inl ⟨none,0,0,[],T x,rfl,rfl,LsP.nil _ _ _,rfl,rfl,rfl⟩⟩
 have h5:op.k=5:=by omega
 have hs:epStp N x op C (T x)=zq3w x C (T x):=by unfold epStp;rw[if_neg h1,if_neg h2,if_neg h3,if_neg h4]
 rw[hs];unfold zq3w;obtain⟨p,c,hp,hpo,hpa⟩:=zq1q (h.row x hxN);have hcell:∀j y,(C.th x)[j]?=some y->∃g,p=some ⟨g,0,none⟩/\g≠cb/\w.cell? ⟨g,j*2,none⟩=some (.int .i64 y.1)/\w.cell? ⟨g,j*2+1,none⟩=some (.int .i64 y.2):=by
  intro j y hy;have hjl:=(List.getElem?_eq_some_iff.1 hy).1;rcases(h.row x hxN).2 with⟨hv0,h0⟩|⟨g,cap,cur,hv0,hb,hgc,q1,q2,q3,q4⟩
  . omega
  . have hpe:p=some ⟨g,0,none⟩:=by rw[hp]at hv0;simp only[Value.slice.injEq]at hv0;exact hv0.1
    have hcl:∀k v,k<(C.th x).length*2->(thC (C.th x))[k]?=some v->w.cell? ⟨g,k,none⟩=some v:=λk v hk hv=>by
     rw[zq0 hgc];rw[<-q4,List.getElem?_take,if_pos hk]at hv;simpa using hv
    obtain⟨t0,t1⟩:=zq6q hy;exact⟨g,hpe,zql hgc hc (by decide),hcl _ _ (by omega) t0,hcl _ _ (by omega) t1⟩
 refine Calls.mono (zqg6 hE h5 (zqfu hE hxN hN (by rw[hH,hp]) hL hcell)) ?_;rintro e' w' ⟨rfl,dv,hv',k1,k2,k3,k4⟩;have hC':(C.putT x (leftL C.e (C.th x))).th x=leftL C.e (C.th x):=upd'_same _ _ _;have hR:=h.thinged (C':=C.putT x (leftL C.e (C.th x))) hxN hc (hv':=hv') (w':=w') (by
  have:=k1.d;rw[zq8x (C:=C) (C':=C.putT x (leftL C.e (C.th x))) hv' rfl]at this;exact this) (λj hj=>zqu _ _ hj) (by rw[hC'];exact zq3n k3 hBs) (k4.mono λb hb=>.inl hb) (λg hg=>.inr (own_lt k3 hg).2.1)
 obtain⟨G',g1,g2,g3⟩:=hR.list k2 (zqg h.d.mar) hBs;obtain⟨dp,dc,rfl,_⟩:=zq1q k2;exact⟨rfl,G',_,_,_,g2,k1.c,k4.heldE hlo hcb,h.keepS hxN hc (k4.mono λb hb=>.inl hb),.inl ⟨dp,_,dc,doneL C.e (C.th x),T x,rfl,rfl,g3 _ _,rfl,rfl,rfl⟩⟩
end
section
variable {P:Ans->Value->Prop} {B rb gm gM N who tb:Nat} {opv:Value} {hv:Nat->Value} {ov0:Value} {w wr:World} {C:EpS} {t:RTh} {cp ov:Value} {lvs:List Value}
end
section
variable {N i:Nat} {op:OpX} {ops:List OpX} {C:EpS} {t:RTh}
end
section
variable {X:Nat->Prop} {G:Nat->Option Obj} {B rb gm gM N n:Nat} {opv:Nat->Value} {ops:Nat->List OpX} {C:EpS} {T:Nat->RTh} {hv ov cp:Nat->Value} {tb:Nat->Nat} {lvs:Nat->List Value} {w w':World} {x cb:Nat} {op:OpX} {t':RTh} {K:CR} {lv:Value}
end
structure PlayedR{S1:Type}(N:Nat)(w:World)(r:TSt (S1×(Nat->List Ans)))(st:List Int)(ab:Nat)(ov sv:Value)(am:AnsM)(w':World):Prop where
 size:w.heap.size<=w'.heap.size
 old:∀b,b<w.heap.size->w'.heap[b]?=w.heap[b]?
 ans:zq3d tT ab N am w'
 ast:am.st=r.s.2
 abl:w.heap.size<=ab
 ansn:∀i b,i<N->am.X i b≠none->w.heap.size<=b
 orow:w'.ownsRow w.heap.size 3 1 ov r.ord.length (r.ord.map λ(i:Nat)=>.int .i64 i)
 srow:w'.ownsRow w.heap.size 2 1 sv st.length (st.map (Value.int .i64))
 rowf:∀x,ov.ownBlock=some x->x≠ab/\∀i,i<N->am.X i x=none
 srowf:∀x,sv.ownBlock=some x->x≠ab/\(∀i,i<N->am.X i x=none)/\ov.ownBlock≠some x
theorem PlayedR.re {S1:Type}{N:Nat}{w w':World}{r:TSt (S1×(Nat->List Ans))}{st:List Int}{ab:Nat}{ov sv:Value}{am:AnsM}(h:PlayedR N w r st ab ov sv am w')(τ:Nat->Question->Nat)(d:Nat):PlayedR N w r st ab ov sv am (Go.Car.re w' τ d):=
 ⟨h.size,h.old,⟨h.ans.hd,h.ans.row,h.ans.blk,h.ans.nab,h.ans.sep⟩,h.ast,h.abl,h.ansn,h.orow,h.srow,h.rowf,h.srowf⟩
theorem zqfd{M1 S1:Type}{C:Core M1 S1}{N H:Nat}{l₀ l':M1}{w wb w2 w':World}{r:TSt (S1×(Nat->List Ans))}{ab:Nat}{v sv:Value}{am:AnsM}{st:List Int}(h:OpsRes C N l₀ wb r ab v l' am w2)(hw:w.heap.size=H)(hwb:H+1<=wb.heap.size)(hob:∀b,b<H->wb.heap[b]?=w.heap[b]?)
 (hl:∀b,C.foot l₀ b->H+1<=b) (hsz:w2.heap.size<=w'.heap.size) (hold:∀x,x<w2.heap.size->x≠H->w'.heap[x]?=w2.heap[x]?) (hs:w'.ownsRow w2.heap.size 2 1 sv st.length (st.map (Value.int .i64))):PlayedR N w r st ab v sv am w':=by
 have h1:=h.size;have h2:=h.abl;have han:∀i b,i<N->am.X i b≠none->H+1<=b:=λi b hi hb=>(h.ansn i b hi hb).elim (hl b) (λx=>by omega);refine⟨by omega,λb hb=>(hold b (by omega) (by omega)).trans ((h.old b (by omega) λx=>by have:=hl b x;omega).trans (hob b (by omega))),⟨(hold ab (zqg h.ans.hd) (by omega)).trans h.ans.hd,h.ans.row,λi b o hi hb=>(hold b (zqg (h.ans.blk i b o hi hb)) (by have:=han i b hi (by rw[hb];simp);omega)).trans (h.ans.blk i b o hi hb),h.ans.nab,h.ans.sep⟩,h.ast,by omega,λi b hi hb=>by have:=han i b hi hb;omega,?_,zq3n hs (by omega),λx hx=>(h.rowf x hx).2,λx hx=>?_⟩
 . refine zq3n (zq17 h.row λg hg=>hold g (own_lt h.row hg).2.2 ?_) (by omega);have:=(own_lt h.row hg).2.1;omega
 . have h3:=(own_lt hs hx).2.1;refine⟨?_,λi hi=>?_,λe=>?_⟩
   . have:=zqg h.ans.hd;omega
   . cases ho:am.X i x with
     |none=>rfl
     |some o=>have:=zqg (h.ans.blk i x o hi ho);omega
   . have:=(own_lt h.row e).2.2;omega
def begE:List Int->Int
 |[]=>0
 |x::_=>min (max x 0) 4611686018427387904
theorem zq7b(x:Int)(l:List Int):(if 4611686018427387904<if x<0 then 0 else x then 4611686018427387904 else if x<0 then 0 else x)=begE (x::l):=by
 show _=min (max x 0) 4611686018427387904
 by_cases h:x<0
 . simp only[if_pos h];rw[if_neg (by omega)];omega
 . simp only[if_neg h]
   by_cases h2:4611686018427387904<x
   . rw[if_pos h2];omega
   . rw[if_neg h2];omega
theorem NewDom.setE {w w1:World}{db mb N:Nat}{e x:Int}{τ:Nat->Question->Nat}{d:Nat}(h:NewDom w db mb N e w1):NewDom w db mb N x ((re w1 τ d).setCell ⟨db,0,none⟩ (.int .i64 x)):=by
 have h1:=h.rep.dom;have h2:=h.rep.mem;have hne:db≠mb:=h.rep.ne;refine⟨⟨?_,λb hb=>?_⟩,h.lo,zq7w ?_ ?_⟩
 . show w.heap.size<=((re w1 τ d).setCell _ _).heap.size;rw[zq12];exact h.be.1
 . rw[zqh _ _ _ _ (by have:=h.lo.1;show b≠db;omega)];exact h.be.2 b hb
 . exact(zqq (re w1 τ d) _ _ _ h1).trans rfl
 . exact(zqh (re w1 τ d) _ _ _ (Ne.symm hne)).trans h2
theorem zqch{start:List Int}{sp tp:Option Addr}{sC tl tC:Nat}(w:World)(hs:start≠[]->∃g off,sp=some ⟨g,off,none⟩/\w.cell? ⟨g,off,none⟩=some (.int .i64 (start.headD 0)))(htl:tl<=4611686018427387904):
 Calls Try.prog 31 #[.slice sp start.length sC,.slice tp tl tC] w λe w'=>∃db mb,e=.returned (.pointer (some ⟨db,0,none⟩))/\NewDom w db mb (min tl 64) (begE start) w':=by
 obtain⟨N,hN⟩:∃N,min tl 64=N:=⟨_,rfl⟩;have HN:=Lib.hid (zq7t N (by omega) w);have hmin:(tl<=64/\N=tl)\/(¬tl<=64/\N=64):=by omega
 have HS:=Lib.hid hs;rw[hN];clear hs hN;obtain⟨sl,hsl⟩:∃sl,start.length=sl:=⟨_,rfl⟩;rw[hsl];have HSL:=Lib.hid hsl;clear hsl
 go_enter Try.func31,Try.ntmps31
 rcases hmin with⟨hc,hNt⟩|⟨hc,hNt⟩
 . have hc':(tl:Int)<=64:=by omega
   subst hNt;clear hc
   go_wp2_with (fail)
   refine Calls.mono HN.out ?_;rintro e w' ⟨db,mb,rfl,hD⟩;have HD:=Lib.hid hD;clear HN hD;cases start with
   |nil=>
    have hs0:sl=0:=HSL.out.symm;subst hs0;go_wp2;go_ret;exact⟨_,_,rfl,HD.out⟩
   |cons x l=>
    have hs1:(0:Int)<(sl:Int):=by have:=HSL.out;simp only[List.length_cons]at this;omega
    obtain⟨g,off,rfl,hc⟩:=HS.out (by simp);have c0:w'.cell? ⟨g,off,none⟩=some (.int .i64 x):=HD.out.be.cell hc;clear HS hc
    go_wp2_with (fail)
    refine zq3b (k:=8) (C:=λw''=>∃n,w''=w'.drewN n) (by kernel_rfl) (by kernel_rfl) (by kernel_rfl) (by kernel_rfl) (by kernel_rfl) ⟨1,rfl⟩ ?_;simp only[List.take_succ_cons,List.take_zero]
    repeat (quiet_step (fail))
    refine wpQuiet_nil ?_;rintro w'' ⟨nq,rfl⟩;refine zq2e (i:=8) (by kernel_rfl) ?_;simp only[wpOp,al_gl,al_g0,al_g1];rw[if_pos (by rfl)];refine .inl ?_;go_simp;rw[zq7b x l];refine Calls.mono (zq6i ⟨db,0,none⟩ 0 (begE (x::l)) (w'.drewN nq) HD.out.rep.cellE (HD.out.rep.frzE 0)) ?_;rintro e w'' ⟨rfl,rfl⟩;refine zq2d (by kernel_rfl) ?_;go_wp2
    all_goals go_ret
    all_goals exact⟨db,rfl,mb,HD.out.setE (x:=begE (x::l)) (τ:=(w'.drewN nq).tape) (d:=(w'.drewN nq).drawn)⟩
 . have hc':(64:Int)<=(tl:Int):=by omega
   have hc2:¬(tl:Int)<=64:=by omega
   have hc3:¬(tl:Int)<64:=by omega
   have e64:((64:Nat):Int)=64:=rfl;subst hNt;clear hc
   go_wp2_with (fail)
   refine Calls.mono HN.out ?_;rintro e w' ⟨db,mb,rfl,hD⟩;have HD:=Lib.hid hD;clear HN hD;cases start with
   |nil=>
    have hs0:sl=0:=HSL.out.symm;subst hs0;go_wp2;go_ret;exact⟨_,_,rfl,HD.out⟩
   |cons x l=>
    have hs1:(0:Int)<(sl:Int):=by have:=HSL.out;simp only[List.length_cons]at this;omega
    obtain⟨g,off,rfl,hc⟩:=HS.out (by simp);have c0:w'.cell? ⟨g,off,none⟩=some (.int .i64 x):=HD.out.be.cell hc;clear HS hc
    go_wp2_with (fail)
    refine zq3b (k:=8) (C:=λw''=>∃n,w''=w'.drewN n) (by kernel_rfl) (by kernel_rfl) (by kernel_rfl) (by kernel_rfl) (by kernel_rfl) ⟨1,rfl⟩ ?_;simp only[List.take_succ_cons,List.take_zero]
    repeat (quiet_step (fail))
    refine wpQuiet_nil ?_;rintro w'' ⟨nq,rfl⟩;refine zq2e (i:=8) (by kernel_rfl) ?_;simp only[wpOp,al_gl,al_g0,al_g1];rw[if_pos (by rfl)];refine .inl ?_;go_simp;rw[zq7b x l];refine Calls.mono (zq6i ⟨db,0,none⟩ 0 (begE (x::l)) (w'.drewN nq) HD.out.rep.cellE (HD.out.rep.frzE 0)) ?_;rintro e w'' ⟨rfl,rfl⟩;refine zq2d (by kernel_rfl) ?_;go_wp2
    all_goals go_ret
    all_goals exact⟨db,rfl,mb,HD.out.setE (x:=begE (x::l)) (τ:=(w'.drewN nq).tape) (d:=(w'.drewN nq).drawn)⟩
noncomputable def eplT(n:Nat):Code:=tailN n (Try.f9.body.getD .skip)
theorem epl0:Try.f9.body.getD .skip=.seq (headC (eplT 0)) (.seq (headC (eplT 1)) (.seq (headC (eplT 2)) (eplT 3))):=by kernel_rfl
def zq1f(start:List Int)(ops:Nat->List OpX)(N:Nat)(mo:Int)(sched:List Int):TSt (EpS×(Nat->List Ans)):=playT (λi=>opsP i (opE N i) (ops i)) N (min mo.toNat 1048576) sched (ep0 (begE start),λ_=>[])
theorem zqdc{Fin:Machine->Trace->Prop}(hFin:Back Try.prog Fin){n:Nat}(hn:0<n){RP:Nat->Option Obj}{w:World}{np Cn N Cs:Nat}{pp scp:Option Addr}{sp:Nat->Option Addr}{L Cp:Nat->Nat}{ops:Nat->List OpX}{sched:List Int}{mo:Int}{start:List Int}{stp:Option Addr}{stC:Nat}(hst:start≠[]->∃g off,stp=some ⟨g,off,none⟩/\w.cell? ⟨g,off,none⟩=some (.int .i64 (start.headD 0)))
 (hRP:∀b o,RP b=some o->w.heap[b]?=some o) (ho:OpsAt w RP pp np N sp L Cp ops) (hsl:sched.length<=4611686018427387904)
 (hs:sched≠[]->∃sb off,scp=some ⟨sb,off,none⟩/\∀j x,sched[j]?=some x->w.cell? ⟨sb,off+j,none⟩=some (.int .i64 x))
 {c:Frame} {cs:List Frame}
 (hmain:∀ab ov sv am w',PlayedR N w (zq1f start ops N mo sched) (epL (zq1f start ops N mo sched).s.1 N) ab ov sv am w'->
  J0 Try.prog Fin (n+N) (G (c.finish (.agg #[.slice (some ⟨ab,0,none⟩) N N,ov,sv,.bool (decide (0<leftN (zq1f start ops N mo sched).ov N))])) cs) w'):
 J0 Try.prog Fin n (G (Frame.enter Try.prog 9 #[.slice stp start.length stC,.slice pp np Cn,.slice scp sched.length Cs,.int .i64 mo] .normal) (c::cs)) w:=by
 have hJ:=j0_JS hFin;have hC:=zq22 hFin;have e:Frame.enter Try.prog 9 #[.slice stp start.length stC,.slice pp np Cn,.slice scp sched.length Cs,.int .i64 mo] .normal=(bN 9).at (zqo Try.f9 #[.slice stp start.length stC,.slice pp np Cn,.slice scp sched.length Cs,.int .i64 mo]) [.code ((Try.f9.body).getD .skip)]:=by kernel_rfl
 have ea:zqo Try.f9 #[.slice stp start.length stC,.slice pp np Cn,.slice scp sched.length Cs,.int .i64 mo]=⟨#[.slice stp start.length stC,.slice pp np Cn,.slice scp sched.length Cs,.int .i64 mo,undef,undef,undef,undef,undef,undef,undef,undef,undef,undef,undef,undef,undef,undef,undef,undef,undef,undef,undef,undef],[]⟩:=by kernel_rfl
 rw[e,ea,epl0];clear e ea;have hm:=Lib.hid hmain;clear hmain;obtain⟨H,hH⟩:∃H,w.heap.size=H:=⟨_,rfl⟩;refine hJ.ctl (s:=n) (λw=>stepG_seq) ?_;refine zq19 hJ hC zqz (by kernel_rfl) (λt w'=>t=#[.slice stp start.length stC,.slice pp np Cn,.slice scp sched.length Cs,.int .i64 mo,undef,undef,undef,undef,.pointer (some ⟨H,0,none⟩),undef,undef,undef,undef,undef,undef,undef,undef,undef,undef,undef,undef,undef,undef,undef]/\∃τ d,w'=re (w.alloc (.cells #[.slice none 0 0,.slice none 0 0,.slice none 0 0,.bool false] 29)) τ d) (λt w' τ d h=>⟨h.1,by obtain⟨τ',d',rfl⟩:=h.2;exact⟨τ,d,by rw[re_re]⟩⟩) (by decide) (λτ d=>?_) ?_
 . obtain⟨u0,hu0⟩:∃c,headC (eplT 0)=c:=⟨_,rfl⟩;have eu0:=hu0;rw[hu0];simp only[eplT,headC,tailN,Try.f9,al_od]at eu0;subst eu0;clear hu0;clear hs ho hRP;go_wp2;exact⟨rfl,rfl,τ,d,rfl⟩
 rintro t w' ⟨rfl,τ,d,rfl⟩;refine hJ.re' n _ _ τ d ?_;have hwa:(w.alloc (.cells #[.slice none 0 0,.slice none 0 0,.slice none 0 0,.bool false] 29)).heap.size=H+1:=by rw[zq3,hH]
 have hob:∀b,b<H->(w.alloc (.cells #[.slice none 0 0,.slice none 0 0,.slice none 0 0,.bool false] 29)).heap[b]?=w.heap[b]?:=λb hb=>by rw[zq6,if_neg (by omega)]
 have hzb:(w.alloc (.cells #[.slice none 0 0,.slice none 0 0,.slice none 0 0,.bool false] 29)).heap[H]?=some (.cells #[.slice none 0 0,.slice none 0 0,.slice none 0 0,.bool false] 29):=hH▸zqn w _;obtain⟨wa,hwae⟩:∃wa,w.alloc (.cells #[.slice none 0 0,.slice none 0 0,.slice none 0 0,.bool false] 29)=wa:=⟨_,rfl⟩;rw[hwae]at hwa hob hzb |-;clear hwae;refine hJ.ctl (s:=n) (λw=>stepG_seq) ?_;refine zq19 hJ hC zqz (by kernel_rfl) (λt w'=>∃db mb,t=#[.slice stp start.length stC,.slice pp np Cn,.slice scp sched.length Cs,.int .i64 mo,undef,undef,undef,undef,.pointer (some ⟨H,0,none⟩),.pointer (some ⟨db,0,none⟩),undef,.slice stp start.length stC,.slice pp np Cn,.pointer (some ⟨db,0,none⟩),undef,undef,undef,undef,undef,undef,undef,undef,undef,undef]/\NewDom wa db mb N (begE start) w') (λt w' τ d⟨db,mb,h1,h2⟩=>⟨db,mb,h1,⟨h2.be.1,h2.be.2⟩,h2.lo,h2.rep.re τ d⟩) (by decide) (λτ d=>?_) ?_
 . obtain⟨u0,hu0⟩:∃c,headC (eplT 1)=c:=⟨_,rfl⟩;have eu0:=hu0;rw[hu0];simp only[eplT,headC,tailN,Try.f9,al_od]at eu0;subst eu0;clear hu0;have HM:=Lib.hid (zqch (start:=start) (sp:=stp) (sC:=stC) (tp:=pp) (tl:=np) (tC:=Cn) (re wa τ d) (λh0=>by
    obtain⟨g,off,e,h1⟩:=hst h0;exact⟨g,off,e,(zq18 (hob g (by rw[<-hH];exact cell_lt h1))).trans h1⟩) ho.le)
   have HEQ:=Lib.hid ho.eq;obtain⟨sl,hsl9⟩:∃sl,start.length=sl:=⟨_,rfl⟩;rw[hsl9]at HM |-;clear hs ho hRP hob hzb hH hwa hsl hst hsl9
   go_wp2_with (fail)
   refine Calls.mono HM.out ?_;rintro e w' ⟨db,mb,rfl,hR⟩;rw[<-HEQ.out]at hR;have HR:RowKit.Hid (NewDom wa db mb N (begE start) w'):=Lib.hid ⟨⟨hR.be.1,hR.be.2⟩,hR.lo,hR.rep⟩;clear hR;go_wp2;exact⟨rfl,_,_,rfl,HR.out⟩
 rintro t wb ⟨db,mb,rfl,hR⟩;have hwb:H+1<=wb.heap.size:=by have:=hR.be.1;omega
 have hobb:∀b,b<H->wb.heap[b]?=w.heap[b]?:=λb hb=>(hR.be.2 b (by omega)).trans (hob b hb);have hzb2:wb.heap[H]?=some (.cells #[.slice none 0 0,.slice none 0 0,.slice none 0 0,.bool false] 29):=(hR.be.2 H (by omega)).trans hzb;have hlo:=hR.lo;rw[hwa]at hlo;clear hzb hob hwa;have hlt:∀b o,RP b=some o->b<H:=λb o h=>by rw[<-hH];exact zqg (hRP b o h)
 have hnf:∀b,(zqb (epT db mb N)).foot (epM0 (begE start)) b->H+1<=b:=λb hb=>by
  rcases hb with e|e|⟨i,_,e⟩
  . rw[e];exact hlo.1
  . rw[e];exact hlo.2
  . exact absurd rfl e
 have hB:BRep (zqb (epT db mb N)) RP ⟨epM0 (begE start),λ_ _=>none⟩ wb:=by
  refine⟨hR.rep,λi b o h=>(by cases h),λb o h=>(hobb b (hlt b o h)).trans (hRP b o h),λi b h=>absurd rfl h,λi j b _ h=>absurd rfl h,λb h hf=>?_,λi b _=>rfl⟩;cases ho:RP b with
  |none=>exact h ho
  |some o=>have:=hlt b o ho;have:=hnf b hf;omega
 have hOp:OpsAt wb RP pp np N sp L Cp ops:=by
  refine⟨ho.eq,ho.le,λh0=>?_,ho.row,ho.len,ho.op⟩;obtain⟨tb,to',e,h1⟩:=ho.at' h0;exact⟨tb,to',e,λi hi=>(zq18 (hobb tb (by rw[<-hH];exact cell_lt (h1 i hi)))).trans (h1 i hi)⟩
 have hsc:sched≠[]->∃sb off,scp=some ⟨sb,off,none⟩/\¬(zqb (epT db mb N)).foot (epM0 (begE start)) sb/\∀j x,sched[j]?=some x->wb.cell? ⟨sb,off+j,none⟩=some (.int .i64 x):=λh0=>by
  obtain⟨sb,off,e,h2⟩:=hs h0;obtain⟨x,l,hsl⟩:=List.exists_cons_of_ne_nil h0;have hlt:sb<H:=by rw[<-hH];exact cell_lt (h2 0 x (by rw[hsl];rfl))
  exact⟨sb,off,e,λhf=>by have:=hnf sb hf;omega,λj x hj=>(zq18 (hobb sb hlt)).trans (h2 j x hj)⟩
 have hN64:N<=64:=by have:=ho.eq;omega
 have hlen:=ho.len;clear ho hs hRP hlt hR hst;refine hJ.ctl (s:=n) (λw=>stepG_seq) ?_;obtain⟨u0,hu0⟩:∃c,headC (eplT 2)=c:=⟨_,rfl⟩;have eu0:=hu0;rw[hu0];simp only[eplT,headC,tailN,Try.f9,al_od]at eu0;subst eu0;clear hu0;refine hJ.ctl (s:=n) (λw=>stepG_region) ?_;have HX:=Lib.hid (And.intro hB (And.intro hOp (And.intro hsc (And.intro hnf (And.intro hobb (And.intro hzb2 hwb))))));have HE:=Lib.hid (And.intro hH (And.intro hN64 hlen));obtain⟨sl,hsl9⟩:∃sl,start.length=sl:=⟨_,rfl⟩;rw[hsl9];clear hB hOp hsc hnf hobb hzb2 hwb hH hlo hN64 hlen hsl9;refine zqw (s:=n) (by decide) hJ (zqt _) true (.inl rfl) 0 5 3 rfl rfl rfl (by rfl) ?_;intro τ d;simp only[List.drop_zero,List.take_succ_cons,List.take_zero];go_wp2;simp only[zqi];refine hJ.re' n _ _ τ d ?_;refine zq1g (by decide) hJ (s:=n) rfl rfl (f:=32) (args:=#[.slice pp np Cn,.func (.func 33) #[.pointer (some ⟨db,0,none⟩)] #[],.slice scp sched.length Cs,.int .i64 mo]) (λτ d=>?_) (λτ d=>?_) ?_
 . simp[go_sem,execOp,Act.eval,resolve,Deferred.ofValue,invoke,callFunc,Try.func32,Try.f32]
 . intro e he;simp[go_sem,execOp,Act.eval,resolve,Deferred.ofValue,invoke,callFunc,Try.func32,Try.f32,Sem.runT_eq]at he
 obtain⟨hB,hOp,hsc,hnf,hobb,hzb2,hwb⟩:=HX.out;obtain⟨hH,hN64,hlen⟩:=HE.out;refine zqez hFin hn zqz rowsM (oe:=oeE) (fn:=Try.f33) (cc:=(Try.f33.body).getD .skip) Try.func33 rfl rfl hB hOp hsl hsc (dop:=λi=>opE N i) (λi s hi h k=>Proc.Keep.deep (b:=0) (zq96 N (ops i) 0 (by rw[hlen i hi];simp only[mostT];omega)) (by
  have:=congrArg (λx=>x.2.length) h;show(s.1.th i).length<=0;exact Nat.le_of_eq this) k) (λro ab pr st cr rest EN i o op hro hi=>edo_turn ⟨rfl,rfl,rfl,hN64⟩ rfl hN64 ro pr st cr rest EN i hi o op) ?_
 intro ab v l' am w2 hO;rw[Frame.finish_at]
 walk_nrm
 have hTe:playT (λi=>opsP i (opE N i) (ops i)) N (min mo.toNat 1048576) sched ((zqb (epT db mb N)).st (epM0 (begE start)),λ_=>[])=zq1f start ops N mo sched:=rfl;rw[hTe]at hO |-;obtain⟨pv',cv',rfl,_⟩:=zq1q hO.row;have hl':(zq1f start ops N mo sched).s.1=l'.s:=hO.st.symm;have hze:w2.heap[H]?=some (.cells #[.slice none 0 0,.slice none 0 0,.slice none 0 0,.bool false] 29):=(hO.old H (by omega) (λh=>by have:=hnf H h;omega)).trans hzb2;generalize (zq1f start ops N mo sched).ord.length=nv' at hO |-;have HO:=Lib.hid hO;have HZ:=Lib.hid (And.intro hze hl');obtain⟨stuck,hstuck⟩:∃x,decide (0<leftN (zq1f start ops N mo sched).ov N)=x:=⟨_,rfl⟩;rw[hstuck];have HST:=Lib.hid hstuck;clear hstuck hO hze hl' hTe hB hOp hsc hnf hobb hzb2 hwb hH hN64 hlen;refine zqw (s:=n+N) (by decide) hJ (zqt _) false (.inr rfl) 6 2 0 rfl rfl rfl (by rfl) ?_;intro τ d;simp only[List.drop_succ_cons,List.drop_zero,List.take_succ_cons,List.take_zero];have HO2:=Lib.hid (HO.out.re τ d);have HZ2:RowKit.Hid ((re w2 τ d).heap[H]?=some (.cells #[.slice none 0 0,.slice none 0 0,.slice none 0 0,.bool false] 29)/\(zq1f start ops N mo sched).s.1=l'.s):=Lib.hid HZ.out;clear HO HZ;generalize re w2 τ d=w3 at HO2 HZ2 |-;go_wp2;simp only[zqi];refine hJ.ctl (s:=n+N) (λw=>stepG_region_end) ?_;have hT:=zqn w3 (.cells #[.slice (some ⟨ab,0,none⟩) N N,.slice pv' nv' cv',.slice none 0 0,.bool stuck] 29);have hoT:∀b,b<w3.heap.size->(w3.alloc (.cells #[.slice (some ⟨ab,0,none⟩) N N,.slice pv' nv' cv',.slice none 0 0,.bool stuck] 29)).heap[b]?=w3.heap[b]?:=λb hb=>by rw[zq6,if_neg (by omega)]
 have hsT:(w3.alloc (.cells #[.slice (some ⟨ab,0,none⟩) N N,.slice pv' nv' cv',.slice none 0 0,.bool stuck] 29)).heap.size=w3.heap.size+1:=zq3 _ _;generalize (w3.alloc (.cells #[.slice (some ⟨ab,0,none⟩) N N,.slice pv' nv' cv',.slice none 0 0,.bool stuck] 29))=w4 at hT hoT hsT |-;obtain⟨T,hTT⟩:∃T,w3.heap.size=T:=⟨_,rfl⟩;rw[hTT]at hT hoT hsT |-;have HT:=Lib.hid (And.intro hT (And.intro hoT (And.intro hsT hTT)));clear hT hoT hsT hTT;refine zq5q hJ hC zqz (by kernel_rfl) (λv w'=>∃sv am,v=.agg #[.slice (some ⟨ab,0,none⟩) N N,.slice pv' nv' cv',sv,.bool stuck]/\PlayedR N w (zq1f start ops N mo sched) (epL (zq1f start ops N mo sched).s.1 N) ab (.slice pv' nv' cv') sv am w') (λv w' τ d⟨sv,am,h1,h2⟩=>⟨sv,am,h1,h2.re τ d⟩) rfl Try.func9 (λτ d=>?_) ?_
 . obtain⟨u0,hu0⟩:∃c,eplT 3=c:=⟨_,rfl⟩;have eu0:=hu0;rw[hu0];simp only[eplT,headC,tailN,Try.f9,al_od]at eu0;subst eu0;clear hu0;obtain⟨hT,hoT,hsT,hTT⟩:=HT.out;have hT':(re w4 τ d).heap[T]?=some (.cells #[.slice (some ⟨ab,0,none⟩) N N,.slice pv' nv' cv',.slice none 0 0,.bool stuck] 29):=hT;have hoT':∀b,b<T->(re w4 τ d).heap[b]?=w3.heap[b]?:=hoT;have hsT':(re w4 τ d).heap.size=T+1:=hsT;have hHl:H<T:=by rw[<-hTT];exact zqg HZ2.out.1
   have hall:=zqdd (T:=epT db mb N) (m:=l') ((zqb (epT db mb N)).frame _ _ (re w4 τ d) HO2.out.rep λb hb=>hoT' b (by rw[<-hTT];exact(zqb (epT db mb N)).lt _ _ _ HO2.out.rep hb)) HE.out.2.1;rw[show(epT db mb N).N=N from rfl]at hall;generalize re w4 τ d=w5 at hT' hoT' hsT' hall |-;have HA:=Lib.hid hall;have HW:=Lib.hid (And.intro hT' (And.intro hoT' (And.intro hsT' (And.intro hTT hHl))));clear hT hoT hsT hTT hT' hoT' hsT' hall HT hHl hm
   go_wp2_with (fail)
   refine Calls.mono HA.out ?_;rintro e w6 ⟨sv,rfl,hI⟩;obtain⟨sp',sc',rfl,-,-⟩:=zq1q hI.row;obtain⟨sl,hsl'⟩:∃x,(epL l'.s N).length=x:=⟨_,rfl⟩;rw[hsl']at hI |-;have hI2:=Lib.hid (And.intro hI hsl');clear hsl';have b1:w6.heap[T]?=some (.cells #[.slice (some ⟨ab,0,none⟩) N N,.slice pv' nv' cv',.slice none 0 0,.bool stuck] 29):=(hI.be.2 T (by have:=HW.out.2.2.1;omega)).trans HW.out.1;have b0:w6.heap[H]?=some (.cells #[.slice none 0 0,.slice none 0 0,.slice none 0 0,.bool false] 29):=(hI.be.2 H (by have:=HW.out.2.2.1;have:=HW.out.2.2.2.2;omega)).trans ((HW.out.2.1 H HW.out.2.2.2.2).trans HZ2.out.1);have hne:¬(T=H):=by have:=HW.out.2.2.2.2;omega
   have hne2:¬(H=T):=by omega
   clear hI;have c0:=(zq0 (off:=0) b1).trans rfl;have c1:=(zq0 (off:=1) b1).trans rfl;have c2:=(zq0 (off:=2) b1).trans rfl;have c3:=(zq0 (off:=3) b1).trans rfl;have y2:=zq5 (off:=2) b1;have r0:=(zq0 (off:=0) b0).trans rfl;have r1:=(zq0 (off:=1) b0).trans rfl;have r2:=(zq0 (off:=2) b0).trans rfl;have r3:=(zq0 (off:=3) b0).trans rfl;have z0:=zq5 (off:=0) b0;have z1:=zq5 (off:=1) b0;have z2:=zq5 (off:=2) b0;have z3:=zq5 (off:=3) b0;have B0:=Lib.hid b0;have B1:=Lib.hid b1;clear b0 b1;go_wp2;clear c0 c1 c2 c3 y2 r0 r1 r2 r3 z0 z1 z2 z3;have b0:(w6.setCell ⟨T,2,none⟩ (.slice sp' sl sc')).heap[H]?=some (.cells #[.slice none 0 0,.slice none 0 0,.slice none 0 0,.bool false] 29):=by rw[zqh _ _ _ _ hne2];exact B0.out
   have b1':=zqq _ H 0 (.slice (some ⟨ab,0,none⟩) N N) b0;have b2':=zqq _ H 1 (.slice pv' nv' cv') b1';have b3':=zqq _ H 2 (.slice sp' sl sc') b2';have b4':=zqq _ H 3 (.bool stuck) b3';have hext:∀x,x≠T->x≠H->(((((w6.setCell ⟨T,2,none⟩ (.slice sp' sl sc')).setCell ⟨H,0,none⟩ (.slice (some ⟨ab,0,none⟩) N N)).setCell ⟨H,1,none⟩ (.slice pv' nv' cv')).setCell ⟨H,2,none⟩ (.slice sp' sl sc')).setCell ⟨H,3,none⟩ (.bool stuck)).heap[x]?=w6.heap[x]?:=λx hx1 hx=>by
    rw[zqh _ _ _ _ hx,zqh _ _ _ _ hx,zqh _ _ _ _ hx,zqh _ _ _ _ hx,zqh _ _ _ _ hx1]
   have hsz8:(((((w6.setCell ⟨T,2,none⟩ (.slice sp' sl sc')).setCell ⟨H,0,none⟩ (.slice (some ⟨ab,0,none⟩) N N)).setCell ⟨H,1,none⟩ (.slice pv' nv' cv')).setCell ⟨H,2,none⟩ (.slice sp' sl sc')).setCell ⟨H,3,none⟩ (.bool stuck)).heap.size=w6.heap.size:=by simp only[zq12]
   generalize (((((w6.setCell ⟨T,2,none⟩ (.slice sp' sl sc')).setCell ⟨H,0,none⟩ (.slice (some ⟨ab,0,none⟩) N N)).setCell ⟨H,1,none⟩ (.slice pv' nv' cv')).setCell ⟨H,2,none⟩ (.slice sp' sl sc')).setCell ⟨H,3,none⟩ (.bool stuck))=w8 at b4' hext hsz8 |-;clear b1' b2' b3' b0;have k0:=(zq0 (off:=0) b4').trans rfl;have k1:=(zq0 (off:=1) b4').trans rfl;have k2:=(zq0 (off:=2) b4').trans rfl;have k3:=(zq0 (off:=3) b4').trans rfl;obtain⟨_,hoT,hsT,hTT,hHl⟩:=HW.out;obtain⟨hI,hsl2⟩:=hI2.out;have hwl:=HE.out.1;obtain⟨hB,hOp,hsc,hnf,hobb,hzb2,hwb⟩:=HX.out;have hrow:w8.ownsRow w3.heap.size 2 1 (.slice sp' sl sc') (epL (zq1f start ops N mo sched).s.1 N).length ((epL (zq1f start ops N mo sched).s.1 N).map (Value.int .i64)):=by
    rw[HZ2.out.2,hsl2];have hrI:=hI.row;rw[hsl2]at hrI;have q:w8.ownsRow w5.heap.size 2 1 (.slice sp' sl sc') sl ((epL l'.s N).map (Value.int .i64)):=zq17 hrI λg hg=>by
     have h1:=(own_lt hrI hg).2.1;exact hext g (by omega) (by omega)
    exact zq3n q (by omega)
   have hfin:PlayedR N w (zq1f start ops N mo sched) (epL (zq1f start ops N mo sched).s.1 N) ab (.slice pv' nv' cv') (.slice sp' sl sc') am w8:=by
    refine zqfd HO2.out HE.out.1 (by omega) hobb hnf (by have:=hI.be.1;omega) (λx hx hxH=>?_) hrow;rw[hext x (by omega) hxH,hI.be.2 x (by omega)];exact hoT x (by omega)
   refine⟨rfl,.agg #[.slice (some ⟨ab,0,none⟩) N N,.slice pv' nv' cv',.slice sp' sl sc',.bool stuck],?_,_,rfl,_,_,rfl,hfin⟩;simp only[results,Try.f9];simp[go_sem,k0,k1,k2,k3]
 . rintro v w' ⟨sv,am,rfl,h⟩;have h2:=hm.out _ _ sv am w' h;rw[HST.out]at h2;exact h2
section
variable {X:Nat->Prop} {G:Nat->Option Obj} {B rb gm gM N n:Nat} {opv:Nat->Value} {ops:Nat->List OpX} {C:EpS} {T:Nat->RTh} {hv ov cp:Nat->Value} {tb:Nat->Nat} {lvs:Nat->List Value} {w w':World}
end
section
variable {G:Nat->Option Obj} {B rb gm gM N n k m:Nat} {lv ev:Value} {opv:Nat->Value} {ops:Nat->List OpX} {C:EpS} {T:Nat->RTh} {hv ov cp:Nat->Value} {tb:Nat->Nat} {lvs:Nat->List Value} {w w':World}
end
theorem zqeq(C:EpS)(N j:Nat)(u:Value)(h:((markL C N).map (Value.int .i64))[j]?=some u):(zq1b C N)[j]?=some u:=by
 have hj:j<N:=by have:=(List.getElem?_eq_some_iff.1 h).1;rwa [List.length_map,zq2t]at this
 rw[zq3k hj];unfold markL at h;simp[hj]at h;rw[<-h]
section
variable {B rb gm gM N most ub:Nat} {lv ev slv:Value} {opv:Nat->Value} {ops:Nat->List OpX} {tb:Nat->Nat} {l:List Int} {P:TSt SE} {w0:World} {G:Nat->Option Obj} {C:EpS} {T:Nat->RTh} {hv ov cp:Nat->Value} {lvs:Nat->List Value} {a r:Nat} {sov:Value} {s:TSt SE} {w w2:World}
end
section
variable {B rb gm gM N most ub H:Nat} {lv ev slv:Value} {opv:Nat->Value} {ops:Nat->List OpX} {tb:Nat->Nat} {l:List Int} {P:TSt SE} {w0:World} {G:Nat->Option Obj} {C:EpS} {T:Nat->RTh} {hv ov cp:Nat->Value} {lvs:Nat->List Value} {a r:Nat} {sov:Value} {s:TSt SE} {w w':World} {lp:Option Addr} {lC:Nat}
end
section
variable {G:Nat->Option Obj} {B rb gm gM N n k m:Nat} {lv ev:Value} {opv:Nat->Value} {ops:Nat->List OpX} {C:EpS} {T:Nat->RTh} {hv ov cp:Nat->Value} {tb:Nat->Nat} {lvs:Nat->List Value} {w w5:World}
end
theorem ERep.zero {B rb gm gM N:Nat}{e:Int}{opv:Nat->Value}{ops:Nat->List OpX}{ov cp:Nat->Value}{tb:Nat->Nat}{lvs:Nat->List Value}{w:World}(h:DmAt rb gm gM N e (zq1b (ep0 0) N) (memR (ep0 0) noHv N) w)(h1:B<=rb)(h2:B<=gm)(h3:B<=gM):
 ERep (λ_=>False) (λ_=>none) B rb gm gM N 0 opv ops (ep0 e) (λ_=>RTh.z) noHv ov cp tb lvs w:=
 ⟨h,λi hi=>World.ownsRow_nil _ _ _ _,λi j g hi hj e=>(by cases e),λi hi=>absurd hi (Nat.not_lt_zero _),λi hi=>absurd hi (Nat.not_lt_zero _),λi hi=>absurd hi (Nat.not_lt_zero _),λi j g hi=>absurd hi (Nat.not_lt_zero _),λi hi=>absurd hi (Nat.not_lt_zero _),λi hi=>absurd hi (Nat.not_lt_zero _),λb o hb=>(by cases hb),h1,h2,h3,λi hi=>absurd hi (Nat.not_lt_zero _)⟩
noncomputable def ecT(n:Nat):Code:=tailN n (Try.f4.body.getD .skip)
noncomputable def ecLp:Code:=loopC (zqx (sndC (headC (ecT 7))))
noncomputable def ecB(n:Nat):Code:=tailN n (zqx (headC (sndC ecLp)))
def ecF(N:Int)(aL aC db rb kb:Nat)(ap:Option Addr)(i:Int)(v:Nat->Value):Array Value:=#[.int .i64 N,.slice ap aL aC,v 2,v 3,.bool false,.pointer (some ⟨db,0,none⟩),.int .i64 0,.pointer (some ⟨rb,0,none⟩),.pointer (some ⟨kb,0,none⟩),.int .i64 i,v 10,v 11,v 12,v 13,v 14,v 15,v 16,v 17,v 18,v 19,v 20,v 21,v 22,v 23,v 24,v 25,v 26,v 27,v 28,v 29,v 30,v 31,v 32,v 33,v 34,v 35,v 36,v 37,v 38,v 39,v 40,v 41,v 42,v 43,v 44,v 45,v 46,v 47,v 48,v 49,v 50,v 51,v 52,v 53,v 54,v 55,v 56,v 57,v 58,v 59,v 60,v 61,v 62,v 63,v 64,v 65,v 66,v 67,v 68,v 69,v 70,v 71,v 72,v 73,v 74,v 75,v 76,v 77,v 78,v 79,v 80,v 81,v 82,v 83,v 84,v 85,v 86,v 87,v 88,v 89,v 90,v 91,v 92,v 93,v 94,v 95,v 96,v 97,v 98,v 99,v 100,v 101,v 102,v 103,v 104,v 105,v 106,v 107,v 108,v 109,v 110,v 111,v 112,v 113,v 114,v 115,v 116,v 117,v 118,v 119,v 120,v 121,v 122,v 123,v 124,v 125,v 126,v 127,v 128,v 129,v 130,v 131,v 132,v 133,v 134,v 135,v 136,v 137,v 138,v 139,v 140,v 141,v 142,v 143,v 144,v 145,v 146,v 147,v 148,v 149,v 150,v 151,v 152,v 153,v 154,v 155,v 156,v 157,v 158,v 159,v 160,v 161,v 162,v 163,v 164,v 165,v 166,v 167,v 168,v 169,v 170,v 171,v 172,v 173,v 174,v 175,v 176,v 177,v 178,v 179,v 180,v 181,v 182,v 183,v 184,v 185,v 186,v 187,v 188,v 189,v 190,v 191,v 192,v 193,v 194,v 195,v 196,v 197,v 198,v 199,v 200,v 201,v 202,v 203,v 204,v 205,v 206]
abbrev RefE(G:Nat->Option Obj)(B rb gm gM N:Nat)(C:EpS)(t:RTh)(hv:Nat->Value)(w:World):Prop:=
 ERep (λ_=>False) G B rb gm gM N 0 (λ_=>.slice none 0 0) (λ_=>[]) C (λ_=>t) hv (λ_=>.slice none 0 0) (λ_=>.slice none 0 0) (λ_=>0) (λ_=>[]) w
section
variable {X:Nat->Prop} {G:Nat->Option Obj} {B rb gm gM N:Nat} {opv:Nat->Value} {ops:Nat->List OpX} {C C':EpS} {T:Nat->RTh} {hv ov cp:Nat->Value} {tb:Nat->Nat} {lvs:Nat->List Value} {w w':World}
theorem RefE.of (h:ERep X G B rb gm gM N 0 opv ops C T hv ov cp tb lvs w)(t:RTh):RefE G B rb gm gM N C t hv w:=
 ⟨h.d,h.row,h.hsep,λi hi=>absurd hi (Nat.not_lt_zero _),λi hi=>absurd hi (Nat.not_lt_zero _),λi hi=>absurd hi (Nat.not_lt_zero _),λi j g hi=>absurd hi (Nat.not_lt_zero _),λi hi=>absurd hi (Nat.not_lt_zero _),λi hi=>absurd hi (Nat.not_lt_zero _),h.gho,h.lo.1,h.lo.2.1,h.lo.2.2.1,λi hi=>absurd hi (Nat.not_lt_zero _)⟩
theorem RefE.keep {t:RTh}(h:RefE G B rb gm gM N C t hv w)(ho:∀(b:Nat)(c:Array Value)(T:TypeId),w.heap[b]?=some (.cells c T)->T=60\/T=2\/T=115\/T=117->w'.heap[b]?=w.heap[b]?):RefE G B rb gm gM N C t hv w' where
 d:=h.d.of (ho _ _ _ h.d.dom (.inl rfl)) (ho _ _ _ h.d.mar (.inr (.inl rfl))) (ho _ _ _ h.d.mem (.inr (.inr (.inl rfl))))
 row i hi:=zq17 (h.row i hi) λg hg=>by
  obtain⟨⟨c,hc⟩,_⟩:=own_lt (h.row i hi) hg;exact ho _ _ _ hc (.inr (.inr (.inr rfl)))
 hsep:=h.hsep
 th i hi:=absurd hi (Nat.not_lt_zero _)
 call i hi:=absurd hi (Nat.not_lt_zero _)
 out i hi:=absurd hi (Nat.not_lt_zero _)
 osep i j g hi:=absurd hi (Nat.not_lt_zero _)
 len i hi:=absurd hi (Nat.not_lt_zero _)
 lst i hi:=absurd hi (Nat.not_lt_zero _)
 gho b o hb:=by
  obtain⟨k1,k2,k3,c,rfl⟩:=h.gho b o hb;exact⟨(ho _ _ _ k1 (.inr (.inl rfl))).trans k1,k2,k3,c,rfl⟩
 lo:=h.lo
theorem RefE.begun {t:RTh}(h:RefE G B rb gm gM N C t hv w){k:Nat}{op:OpX}(t1:RTh)(hd:DmAt rb gm gM N C.e (zq1b C N) (bgM k op (C.ins k) (memR C hv N)) w')(hT:Tch (λb=>b=gM) w w'):RefE G B rb gm gM N (epBg k op C t).1 t1 hv w':=by
 obtain⟨e1,e2,e3⟩:=epBg_e k op C t;have em:zq1b (epBg k op C t).1 N=zq1b C N:=by unfold zq1b;rw[e2]
 refine⟨by rw[e1,em,<-bg_mem];exact hd,λi hi=>?_,h.hsep,λi hi=>absurd hi (Nat.not_lt_zero _),λi hi=>absurd hi (Nat.not_lt_zero _),λi hi=>absurd hi (Nat.not_lt_zero _),λi j g hi=>absurd hi (Nat.not_lt_zero _),λi hi=>absurd hi (Nat.not_lt_zero _),λi hi=>absurd hi (Nat.not_lt_zero _),λb o hb=>?_,h.lo⟩
 . rw[e3];refine zq17 (h.row i hi) λg hg=>?_;obtain⟨⟨c,hc⟩,_,hl⟩:=own_lt (h.row i hi) hg;exact hT.old g hl (zql hc h.d.mem (by decide))
 . obtain⟨k1,k2,k3,c,rfl⟩:=h.gho b o hb;exact⟨(hT.old b (zqg k1) (zql k1 h.d.mem (by decide))).trans k1,k2,k3,c,rfl⟩
end
theorem KeepS.tch {gM:Nat}{w w':World}{c:Array Value}(h:w.heap[gM]?=some (.cells c 115))(hT:Tch (λb=>b=gM) w w'):KeepS w w':=λb c' T h0 h1 h2 h3 h4 h5=>hT.old b (zqg h0) (zql h0 h h3)
structure ECR(B N aL aC db rb kb gm gM b10 b12:Nat)(ap:Option Addr)(i:Int)(C':EpS)(t:RTh)(a:Ans)(s:Int)(w:World)(T':Array Value)(w':World):Prop where
 fr:T'=ecF N aL aC db rb kb ap i (λi=>T'.getD i undef)
 t10:T'.getD 10 undef=.pointer (some ⟨b10,0,none⟩)
 t11:T'.getD 11 undef=.int .i64 (wrap64 s)
 t12:T'.getD 12 undef=.pointer (some ⟨b12,0,none⟩)
 ref:∃G hv p n c,RefE G B rb gm gM N C' t hv w'/\w'.heap[b12]?=some (.cells #[.bool a.ok,.int .i64 a.n,.slice p n c] 48)/\LsP G a (.slice p n c)
 held:HeldE B w w'
 keep:∀(b:Nat)(c:Array Value)(T:TypeId),w.heap[b]?=some (.cells c T)->b≠b12->T≠60->T≠2->T≠115->T≠52->T≠117->w'.heap[b]?=w.heap[b]?
theorem mr_done{N i:Nat}{op:OpX}{C C':EpS}{t t1:RTh}{a x:Ans}{q:Nat}(h:MR N i op C t C' a q)(h1:(epStp N i op C t).2=RTh.fin t1 x):q=0/\C'=(epStp N i op C t).1/\a=x:=by
 cases h with
 |fin h2 h3=>
  obtain⟨t2,h3⟩:=h3;refine⟨rfl,h2.symm,?_⟩;have e:=congrArg RTh.ans (h3.symm.trans h1);have e':t2.ans++[a]=t1.ans++[x]:=e;exact(List.append_inj' e' rfl).2 |> λh=>by simpa using h
 |on hpc _ _=>rw[h1]at hpc;exact absurd rfl hpc
theorem mr_on{N i:Nat}{op:OpX}{C C':EpS}{t:RTh}{a:Ans}{q:Nat}(h:MR N i op C t C' a q)(h1:(epStp N i op C t).2.pc≠0):∃r,q=r+1/\OkE N op (epStp N i op C t).2/\MR N i op (epStp N i op C t).1 (epStp N i op C t).2 C' a r:=by
 cases h with
 |fin h2 h3=>
  obtain⟨t2,h3⟩:=h3;rw[h3]at h1;exact absurd rfl h1
 |on hpc hO hm=>exact⟨_,rfl,hO,hm⟩
theorem zqaf{N i:Nat}{op:OpX}{C:EpS}{t:RTh}(hN:0<N)(hp:t.pc≠0)(hO:OkE N op t)(hlen:(C.th i).length<mostT)(h1:(epStp N i op C t).2.pc≠0):(epStp N i op C t).1=C:=by
 rcases zq5t (A:=λ_=>[]) hN hp hO hlen with⟨t1,a,h,_⟩|⟨_,_,_,_,h,_⟩
 . rw[h]at h1;exact absurd rfl h1
 . exact h
theorem zqlw(s:Int):IntKind.i64.wrap (wrap64 s+1)=wrap64 (s+1):=by
 rw[IntKind.wrap_i64];simp only[wrap64]<;>omega
theorem zqlx(s:Int):wrap64 (wrap64 s+1)=wrap64 (s+1):=by simp only[wrap64]<;>omega
def CallIs(B rb gm gM N k cb:Nat)(op:OpX)(C1 C':EpS)(a:Ans)(r:Nat)(w:World):Prop:=
 (∃q G t hv,r=q+1/\t.pc≠0/\OkE N op t/\MR N k op C1 t C' a q/\RefE G B rb gm gM N C1 t hv w/\CrAt cb k (crOf op t) (.slice none 0 0) w)\/
 (∃K p n c G hv,r=0/\RefE G B rb gm gM N C' RTh.z hv w/\CrAt cb k K (.slice p n c) w/\K.done=true/\a.ok=K.ok/\a.n=K.n/\LsP G a (.slice p n c))
theorem CallIs.step {B rb gm gM N k cb:Nat}{op:OpX}{C1 C':EpS}{a:Ans}{q:Nat}{G:Nat->Option Obj}{t:RTh}{w w':World}{e':Ending}(hN:0<N)(hlen:(C1.th k).length<mostT)(hp:t.pc≠0)(hO:OkE N op t)(hm:MR N k op C1 t C' a q)
 (h:EStep G B rb gm gM N 0 (λ_=>.slice none 0 0) (λ_=>[]) (λ_=>t) (λ_=>.slice none 0 0) (λ_=>.slice none 0 0) (λ_=>0) (λ_=>[]) k cb op (epStp N k op C1 t) w e' w'):e'=.returned (.tuple #[])/\CallIs B rb gm gM N k cb op C1 C' a q w'/\HeldE B w w'/\KeepS w w':=by
 obtain⟨rfl,G',hv',K,lv,h1,h2,h3,h4,h5⟩:=h;refine⟨rfl,?_,h3,h4⟩;rcases h5 with⟨lp,ln,lc,l,t1,q1,rfl,q3,q4,q5,q6⟩|⟨q1,rfl,q3,q4,q5,q6⟩
 . obtain⟨rfl,rfl,rfl⟩:=mr_done hm q4;exact .inr ⟨K,lp,ln,lc,G',hv',rfl,RefE.of h1 _,h2,q1,rfl,rfl,q3⟩
 . obtain⟨r,rfl,hO2,hm2⟩:=mr_on hm q6;have hC:=zqaf hN hp hO hlen q6;rw[hC]at h1 hm2;refine .inl ⟨r,G',_,hv',rfl,q6,hO2,hm2,RefE.of h1 _,?_⟩;rw[<-q3];exact h2
theorem ec_ref{T0:Array Value}{B N aL aC db rb kb gm gM b10 b12 k c:Nat}{ap:Option Addr}{i:Int}{C C':EpS}{a:Ans}{q:Nat}{op:OpX}{G:Nat->Option Obj}{hv:Nat->Value}{w:World}
 (hT:T0=ecF N aL aC db rb kb ap i (λi=>T0.getD i undef)) (h10:T0.getD 10 undef=.pointer (some ⟨b10,0,none⟩)) (h11:T0.getD 11 undef=.int .i64 (wrap64 c)) (h12:T0.getD 12 undef=.pointer (some ⟨b12,0,none⟩))
 (hN0:0<N) (hN:N<=64) (hk:k<N) (hlen:(C.th k).length<=1048576) (hb10:w.heap[b10]?=some (.cells (actC k op) 46)) (hb12:w.heap[b12]?=some (.cells #[.bool false,.int .i64 0,.slice none 0 0] 48)) (hB12:B<=b12) (hBs:B<=w.heap.size)
 (hR:RefE G B rb gm gM N C RTh.z hv w) (hrun:(opE N k op:Proc SE Ans).run (C,λ_=>[])=((C',λ_=>[]),some a,q)):
 Code.wp Try.prog (headC (ecB 3)) (ends (λa' w'=>ECR B N aL aC db rb kb gm gM b10 b12 ap i C' RTh.z a ((c:Int)+q) w a'.tmps w') (λ_ _=>False)) ⟨T0,[]⟩ w:=by
 obtain⟨v,hv0,hvv⟩:∃v,T0=ecF N aL aC db rb kb ap i v/\v=λi=>T0.getD i undef:=⟨_,hT,rfl⟩;have e10:v 10=.pointer (some ⟨b10,0,none⟩):=by rw[hvv];exact h10
 have e11:v 11=.int .i64 (wrap64 c):=by rw[hvv];exact h11
 have e12:v 12=.pointer (some ⟨b12,0,none⟩):=by rw[hvv];exact h12
 clear hT h10 h11 h12 hvv;subst hv0;unfold ecF;rw[e10,e11,e12];clear e10 e11 e12;have hlm:(C.th k).length<mostT:=by simp only[mostT];omega
 have z0:w.cell? ⟨b10,0,none⟩=some (.int .i64 k):=(zq0 hb10).trans rfl;have z1:w.cell? ⟨b10,1,none⟩=some (.int .i64 op.k):=(zq0 hb10).trans rfl;have z2:w.cell? ⟨b10,2,none⟩=some (.int .i64 op.a):=(zq0 hb10).trans rfl;have z3:w.cell? ⟨b10,3,none⟩=some (.int .i64 op.b):=(zq0 hb10).trans rfl;have z4:w.cell? ⟨b10,4,none⟩=some (.int .i64 op.c):=(zq0 hb10).trans rfl;have hk0:(0:Int)<=(k:Int):=by omega
 have hkN:(k:Int)<(N:Int):=by omega
 have HB:=Lib.hid (zqft (op:=op) (b:=C.ins k) hR.d hk hN (zq8v hk));unfold OpX.val at HB;have HI:=Lib.hid (And.intro hR (And.intro hb12 (And.intro hB12 (And.intro hBs (And.intro hrun (And.intro hb10 (And.intro hlen hlm)))))));clear hb10 hb12 hB12 hBs hR hrun hlen hlm;obtain⟨u_,hu_⟩:∃c,headC (ecB 3)=c:=⟨_,rfl⟩;have eu_:=hu_;rw[hu_];simp only[ecB,ecLp,ecT,headC,tailN,sndC,zqx,loopC,Try.f4,al_od]at eu_;subst eu_;clear hu_
 go_wp2_with (fail)
 refine Calls.mono HB.out ?_;rintro e' w1 ⟨cb,rfl,hcbl,hE,hT1⟩;obtain⟨hR,hb12,hB12,hBs,hrun,hb10,hlen,hlm⟩:=HI.out;have kS1:=KeepS.tch hR.d.mem hT1;have kH1:HeldE B w w1:=hT1.held λb hb=>by rw[hb];exact hR.lo.2.2.1
 have hstart:∃Q,q=Q/\CallIs B rb gm gM N k cb op (epBg k op C (zAt C k)).1 C' a Q w1:=by
  rcases opRun (A:=λ_=>[]) (op:=op) hN0 hlm with⟨p1,p2,p3⟩|⟨p1,p2,C2,a2,q2,p3,p4,p5⟩
  . rw[p3]at hrun;simp only[Prod.mk.injEq,al_oi]at hrun;obtain⟨⟨r1,_⟩,r2,r3⟩:=hrun;subst r1 r2 r3;have hend:bgEnd op (C.ins k):=Classical.byContradiction λhn=>by
     have:=bg_on (t:=zAt C k) hn;rw[this]at p1;have:=congrArg RTh.pc p1;cases this
    have hKe:bgK op (C.ins k)=(bgK0 op).fin false 0:=if_pos hend;refine⟨0,rfl,.inr ⟨(bgK0 op).fin false 0,none,0,0,G,hv,rfl,?_,?_,rfl,rfl,rfl,LsP.zero G⟩⟩
    . have:=hR.begun RTh.z hE.d hT1;rw[bg_end hend]at this;exact this
    . rw[<-hKe];exact hE.c
  . rw[p5]at hrun;simp only[Prod.mk.injEq,al_oi]at hrun;obtain⟨⟨r1,_⟩,r2,r3⟩:=hrun;subst r1 r2 r3;have hend:¬bgEnd op (C.ins k):=λhn=>by
     rw[bg_end hn]at p1;exact absurd rfl p1
    have hKe:bgK op (C.ins k)=bgK0 op:=if_neg hend;refine⟨q2+1,rfl,.inl ⟨q2,G,(epBg k op C (zAt C k)).2,hv,rfl,p1,p2,p3,?_,?_⟩⟩
    . exact RefE.begun (t:=zAt C k) (RefE.of hR _) _ hE.d hT1
    . have e:crOf op (epBg k op C (zAt C k)).2=bgK0 op:=by rw[bg_on hend];rfl
      rw[e,<-hKe];exact hE.c
 obtain⟨Q,rfl,hst⟩:=hstart;have hth1:((epBg k op C (zAt C k)).1.th k).length<=1048576:=by rw[zq5s];exact hlen
 have hth2:((epBg k op C (zAt C k)).1.th k).length<mostT:=by rw[zq5s];exact hlm
 have hBcb:B<=cb:=Nat.le_trans hBs hcbl;obtain⟨C1,hC1⟩:∃C1,(epBg k op C (zAt C k)).1=C1:=⟨_,rfl⟩;rw[hC1]at hst hth1 hth2;have HS:=Lib.hid (And.intro hst (And.intro kS1 (And.intro kH1 (And.intro hth1 (And.intro hth2 (And.intro hBcb (And.intro hb12 (And.intro hB12 (And.intro hBs hb10)))))))));clear hst kS1 kH1 hth1 hth2 hBcb hC1 hE hT1 hcbl hR hb12 hB12 hBs hrun hb10 hlen hlm HB z0 z1 z2 z3 z4 HI
 go_wp2_with (fail)
 go_loopg [11] q (λr s11 wr=>r<=q/\s11=.int .i64 (wrap64 ((c:Int)+(q - r:Nat)))/\CallIs B rb gm gM N k cb op C1 C' a r wr/\KeepS w wr/\HeldE B w wr)
 case atStart=>exact⟨Nat.le_refl _,by rw[Nat.sub_self];simp,HS.out.1,HS.out.2.1,HS.out.2.2.1⟩
 case round=>
  obtain⟨hr,hs11,hcall,hks,hhs⟩:=hrel;have HR:=Lib.hid (And.intro hcall (And.intro hks hhs));have HG:=Lib.hid hr;rcases hcall with⟨q1,G1,t1,hv1,rfl,hp1,hO1,hm1,hR1,hC1⟩|⟨K,p,n,cc,G1,hv1,rfl,hR1,hC1,hd1,ha1,ha2,hls⟩
  . have c6:wr.cell? ⟨cb,6,none⟩=some (.bool false):=hC1.c.2.2.2.2.2.2.1;have hES:=zqdf (x:=k) hR1 hk hN (Nat.le_trans HS.out.2.2.2.2.2.2.2.2.1 hhs.size) HS.out.2.2.2.2.2.1 hC1 hO1 HS.out.2.2.2.1;have HE:=Lib.hid hES;have HQ:=Lib.hid (And.intro hp1 (And.intro hO1 hm1));subst hs11;clear hES hp1 hO1 hm1 hR1 hC1 hks hhs hr
    go_wp2_with (fail)
    refine Calls.mono HE.out ?_;intro e' w2 hst;obtain⟨rfl,hc2,hh2,hk2⟩:=CallIs.step hN0 HS.out.2.2.2.2.1 HQ.out.1 HQ.out.2.1 HQ.out.2.2 hst;have HC2:=Lib.hid (And.intro hc2 (And.intro hh2 hk2));clear hst hc2 hh2 hk2 c6;go_wp2;go_roundg q1
    case measure=>omega
    case rel=>
     refine⟨by have:=HG.out;omega,?_,HC2.out.1,HR.out.2.1.trans HC2.out.2.2,HR.out.2.2.trans HC2.out.2.1⟩;have e1:(c:Int)+((q - (q1+1):Nat):Int)+1=(c:Int)+((q - q1:Nat):Int):=by have:=HG.out;omega
     rw[<-e1];exact congrArg (Value.int .i64) (by first|exact zqlw _|exact zqlx _|rfl)
  . have c6:wr.cell? ⟨cb,6,none⟩=some (.bool true):=by rw[<-hd1];exact hC1.c.2.2.2.2.2.2.1
    obtain⟨-,-,-,-,-,-,-,c7,c8,c9⟩:=hC1.c;have hb12:=(hks b12 _ _ HS.out.2.2.2.2.2.2.1 (by decide) (by decide) (by decide) (by decide) (by decide)).trans HS.out.2.2.2.2.2.2.1;have y0:wr.cell? ⟨b12,0,none⟩=some (.bool false):=(zq0 hb12).trans rfl;have y1:wr.cell? ⟨b12,1,none⟩=some (.int .i64 0):=(zq0 hb12).trans rfl;have y2:wr.cell? ⟨b12,2,none⟩=some (.slice none 0 0):=(zq0 hb12).trans rfl;have f0:=zq5 (off:=0) hb12;have f1:=zq5 (off:=1) hb12;have f2:=zq5 (off:=2) hb12;have hcb12:¬cb=b12:=zql hC1 hb12 (by decide);have HD:=Lib.hid (And.intro hR1 (And.intro hC1 (And.intro hb12 (And.intro ha1 (And.intro ha2 (And.intro hls (And.intro hks hhs)))))));subst hs11;clear hR1 hC1 hb12 ha1 ha2 hls hks hhs hd1;go_wp2;obtain⟨hR1,hC1,hb12,ha1,ha2,hls,hks,hhs⟩:=HD.out;have b1:=zqq wr b12 0 (.bool K.ok) hb12;have b2:=zqq _ b12 1 (.int .i64 K.n) b1;have b3:=zqq _ b12 2 (.slice p n cc) b2;have ho:∀x,x≠b12->(((wr.setCell ⟨b12,0,none⟩ (.bool K.ok)).setCell ⟨b12,1,none⟩ (.int .i64 K.n)).setCell ⟨b12,2,none⟩ (.slice p n cc)).heap[x]?=wr.heap[x]?:=λx hx=>by rw[zqh _ _ _ _ hx,zqh _ _ _ _ hx,zqh _ _ _ _ hx]
    have hz:(((wr.setCell ⟨b12,0,none⟩ (.bool K.ok)).setCell ⟨b12,1,none⟩ (.int .i64 K.n)).setCell ⟨b12,2,none⟩ (.slice p n cc)).heap.size=wr.heap.size:=by simp only[zq12]
    generalize (((wr.setCell ⟨b12,0,none⟩ (.bool K.ok)).setCell ⟨b12,1,none⟩ (.int .i64 K.n)).setCell ⟨b12,2,none⟩ (.slice p n cc))=w9 at b3 ho hz |-;refine⟨rfl,⟨rfl,rfl,?_,rfl,⟨G1,hv1,p,n,cc,hR1.keep λb c0 T h0 h1=>ho b (zql h0 hb12 ?_),?_,hls⟩,hhs.trans ⟨Nat.le_of_eq hz.symm,λb hb _=>ho b (by have:=HS.out.2.2.2.2.2.2.2.1;omega)⟩,λb c0 T h0 hne h1 h2 h3 h4 h5=>(ho b hne).trans (hks b c0 T h0 h1 h2 h3 h4 h5)⟩⟩
    . show Value.int .i64 _=_;rw[Nat.sub_zero]
    . rcases h1 with rfl |rfl |rfl |rfl<;>decide
    . rw[ha1,ha2];exact b3
theorem zq66{w:World}{va vb:Value}{l:List Int}(hl:l.length<=1099511627776)(ha:IntsAt w va l)(hb:IntsAt w vb l):
 Calls Try.prog 19 #[va,vb] w λe w'=>e=.returned (.bool true)/\∃n,w'=w.drewN n:=by
 obtain⟨pa,ca,rfl,ha⟩:=ha;obtain⟨pb,cb,rfl,hb⟩:=hb;have HA:=Lib.hid (And.intro ha hb);clear ha hb;obtain⟨L,hL⟩:∃L,l.length=L:=⟨_,rfl⟩;rw[hL]at hl |-;have HL:=Lib.hid hL;clear hL
 go_enter Try.func19,Try.ntmps19
 go_wp2
 go_loopg [5] L (λk i wr=>∃(j n:Nat),k=L - j/\j<=L/\i=.int .i64 j/\wr=w.drewN n)
 case atStart=>exact⟨0,0,rfl,Nat.zero_le _,rfl,rfl⟩
 case round=>
  obtain⟨j,n,hk,hj,rfl,rfl⟩:=hrel
  by_cases hlt:j<L
  . have hlt':(j:Int)<(L:Int):=by omega
    have hj0:(0:Int)<=j:=by omega
    have hne:l≠[]:=λe=>by have:=HL.out;rw[e]at this;simp at this;omega
    obtain⟨b1,o1,rfl,h1⟩:=HA.out.1 hne;obtain⟨b2,o2,rfl,h2⟩:=HA.out.2 hne;have k1:=h1 j (by rw[HL.out];exact hlt);have k2:=h2 j (by rw[HL.out];exact hlt);generalize l.getD j 0=x at k1 k2;clear h1 h2 hne HA
    go_wp2_with (fail)
    go_quiet (fail)
    go_wp2;go_roundg (L - (j+1))
    case measure=>omega
    case rel=>exact⟨j+1,_,rfl,by omega,rfl,rfl⟩
  . obtain rfl:L=j:=by omega
    go_wp2;go_ret;exact⟨rfl,n,rfl⟩
theorem zqc4{w:World}{va vb:Value}{l:List Ans}(hl:l.length<=1099511627776)(hll:∀a∈l,a.l.length<=1099511627776)(ha:AnsAt w va l)(hb:AnsAt w vb l):
 Calls Try.prog 17 #[va,vb] w λe w'=>e=.returned (.bool true)/\∃n,w'=w.drewN n:=by
 obtain⟨pa,ca,rfl,ha⟩:=ha;obtain⟨pb,cb,rfl,hb⟩:=hb;have HA:=Lib.hid (And.intro ha (And.intro hb hll));clear ha hb hll;obtain⟨L,hL⟩:∃L,l.length=L:=⟨_,rfl⟩;rw[hL]at hl |-;have HL:=Lib.hid hL;clear hL
 go_enter Try.func17,Try.ntmps17
 go_wp2
 go_loopg [5] L (λk i wr=>∃(j n:Nat),k=L - j/\j<=L/\i=.int .i64 j/\wr=w.drewN n)
 case atStart=>exact⟨0,0,rfl,Nat.zero_le _,rfl,rfl⟩
 case round=>
  obtain⟨j,n,hk,hj,rfl,hwr⟩:=hrel;have HW:=Lib.hid hwr;have hcell:∀a,wr.cell? a=w.cell? a:=λa=>by rw[hwr];rfl
  clear hwr
  by_cases hlt:j<L
  . have hlt':(j:Int)<(L:Int):=by omega
    have hj0:(0:Int)<=j:=by omega
    have hne:l≠[]:=λe=>by have:=HL.out;rw[e]at this;simp at this;omega
    obtain⟨b1,o1,rfl,h1⟩:=HA.out.1 hne;obtain⟨b2,o2,rfl,h2⟩:=HA.out.2.1 hne;obtain⟨aj,haj⟩:∃aj,l[j]?=some aj:=⟨_,List.getElem?_eq_getElem (by rw[HL.out];exact hlt)⟩;obtain⟨k1,k2,lv1,k3,I1⟩:=h1 j aj haj;obtain⟨m1,m2,lv2,m3,I2⟩:=h2 j aj haj;have hlj:=HA.out.2.2 aj (List.mem_of_getElem? haj);rw[<-hcell]at k1 k2 k3 m1 m2 m3;have HI:RowKit.Hid (∀W:World,(∀a,W.cell? a=w.cell? a)->Calls Try.prog 19 #[lv1,lv2] W λe w'=>e=.returned (.bool true)/\∃n,w'=W.drewN n):=Lib.hid λW hW=>zq66 hlj (by
     obtain⟨p,C,e,h⟩:=I1;refine⟨p,C,e,λhl=>?_⟩;obtain⟨b,o,e2,h2⟩:=h hl;exact⟨b,o,e2,λi hi=>(hW _).trans (h2 i hi)⟩) (by
     obtain⟨p,C,e,h⟩:=I2;refine⟨p,C,e,λhl=>?_⟩;obtain⟨b,o,e2,h2⟩:=h hl;exact⟨b,o,e2,λi hi=>(hW _).trans (h2 i hi)⟩)
    obtain⟨p1,c1,rfl,_⟩:=id I1;obtain⟨p2,c2,rfl,_⟩:=id I2;generalize aj.l.length=lj at HI k3 m3;generalize aj.n=x at k2 m2;generalize aj.ok=ok at k1 m1;have HC:=Lib.hid hcell;clear h1 h2 hne HA I1 I2 hlj haj hcell
    go_wp2_with (fail)
    cases ok<;>
    . go_quiet (first|(go_at_call 19;exact Calls.quiet_of (HI.out _ (λa=>HC.out a))))
      go_wp2;go_roundg (L - (j+1))
      case measure=>omega
      case rel=>exact⟨j+1,n+nq,rfl,by omega,rfl,by rw[HW.out,World.drewN_drewN]⟩
  . obtain rfl:L=j:=by omega
    go_wp2;go_ret;exact⟨rfl,n,HW.out⟩
end Go.Proofs
namespace Go.Car
open Go Go.Conc Go.RowKit
open Go.ConcN (upd upd_ne upd_same)
section
variable {P:Program} {main:Bool} {γ:Type} {J:γ->Goroutine->World->Prop}
def zq4r(ops:Array Oper):Bool:=(List.range ops.size).all λi=>match ops[i]? with
 |some o=>o.after.all (λe=>!Region.binds .any e || decide (e.on<i))
 |none=>false
end
def noD(ops:Array Oper)(t:Tmp):Bool:=ops.all λo=>o.dst !=some t
theorem zq92{ops:Array Oper}{t:Tmp}(h:noD ops t=true):∀j,dstOf ops j≠some t:=λj hd=>by
 unfold dstOf at hd;cases ho:ops[j]? with
 |none=>rw[ho]at hd;cases hd
 |some o=>
  rw[ho]at hd;simp only[al_ob]at hd;unfold noD at h;rw[Array.all_eq_true_iff_forall_mem]at h;have:=h o (Array.mem_of_getElem? ho);simp[hd]at this
section
variable {P:Program} {main:Bool} {γ:Type} {J:γ->Goroutine->World->Prop}
end
section
variable {P:Program} {main:Bool} {γ:Type} {J:γ->Goroutine->World->Prop}
theorem zqca(hJ:JS P main (λ_=>none) J){b:Frame}{k:List Item}{cs:List Frame}(hb:b.kind≠.early)(hm:P.follows .mixedOrders=true){id:Nat}{ops:Array Oper}{T₀:Array Value}{ds:List Deferred}{s:γ}{w:World}(I:γ->(Nat->Bool)->Array Value->World->Prop)
 (hback:zq4r ops=true) (hre:∀s L T w τ d,I s L T w->I s L T (re w τ d)) (hI:I s (λ_=>false) T₀ w)
 (hstep:∀(s:γ)(L:Nat->Bool)(T:Array Value)(w:World)(i:Nat)(o:Oper),I s L T w->L i=false->ops[i]?=some o->(∀e∈o.after,Region.binds .any e=true->L e.on=true)->
  ∀rest:List Nat,(∀s' T' w',I s' (upd L i true) T' w'->J s' (G (b.at ⟨T',ds⟩ (.inRegion ops rest::k)) cs) w')->J s (G (b.at ⟨T,ds⟩ (.inRegion ops (i::rest)::k)) cs) w)
 (hend:∀s L T w,(∀i,i<ops.size->L i=true)->I s L T w->J s (G (b.at ⟨T,ds⟩ (.inRegion ops []::k)) cs) w):J s (G (b.at ⟨T₀,ds⟩ (.code (.region id ops true)::k)) cs) w:=by
 have hb':∀i o,ops[i]?=some o->∀e∈o.after,Region.binds .any e=true->e.on<i:=by
  intro i o ho;have hlt:=(Array.getElem?_eq_some_iff.1 ho).1;unfold zq4r at hback;rw[List.all_eq_true]at hback;have:=hback i (List.mem_range.2 hlt);rw[ho]at this;simp only[Array.all_eq_true_iff_forall_mem]at this;exact λe he hbe=>by have:=this e he;simpa[hbe]using this
 have key:∀(fuel t:Nat)(listed:Array Bool)(s:γ)(L:Nat->Bool)(T:Array Value)(w:World),listed.size=ops.size->left listed=fuel->(∀i,i<ops.size->listed.getD i false=L i)->I s L T w->
  J s (G (b.at ⟨T,ds⟩ (.inRegion ops (Region.linearise.go .any ops fuel t listed [])::k)) cs) w:=by
  intro fuel
  induction fuel with
  |zero=>
   intro t listed s L T w hsz hl hL hi;refine hend s L T w (λi hlt=>?_) hi;rw[<-hL i hlt];have hlt':i<listed.size:=by omega
   cases hv:listed[i]with
   |true=>simp[hlt',hv]
   |false=>have:=zq52 (listed:=listed) (i:=i) (by simp[hlt',hv]);omega
  |succ fuel ih=>
   intro t listed s L T w hsz hl hL hi;simp only[Region.linearise.go];change J s (G (b.at ⟨T,ds⟩ (.inRegion ops (match (Region.ready .any ops listed)[t % (Region.ready .any ops listed).length]? with
    |some i=>Region.linearise.go .any ops fuel (t / (Region.ready .any ops listed).length) (listed.setIfInBounds i true) [i]
    |none=>[].reverse)::k)) cs) w
   have hun:∃i,listed.getD i true=false:=by
    refine Classical.byContradiction λhn=>?_;have:left listed=0:=by
     unfold left;rw[List.length_eq_zero_iff,List.filter_eq_nil_iff];intro x hx hxx;obtain⟨i,hi,rfl⟩:=List.getElem_of_mem hx;have hi':i<listed.size:=by simpa using hi
     have e:listed.toList[i]=listed[i]:=by simp
     rw[e]at hxx;exact hn ⟨i,by simp[hi'];simpa using hxx⟩
    omega
   have hready:∃i,i∈Region.ready .any ops listed:=by
    have:∀m i,m=i->listed.getD i true=false->∃j,j∈Region.ready .any ops listed:=by
     intro m
     induction m using Nat.strongRecOn with
     |_ m ihm=>
      intro i hi hun;subst hi;have hops:m<ops.size:=by have:=zq1w hun;omega
      by_cases hall:∀e∈(ops[m]'hops).after,Region.binds .any e=true->listed.getD e.on false=true
      . exact⟨m,mem_ready.2 ⟨hun,_,Array.getElem?_eq_getElem hops,hall⟩⟩
      . obtain⟨e,he⟩:=Classical.not_forall.1 hall;obtain⟨h1,he⟩:=Classical.not_imp.1 he;obtain⟨h2,he⟩:=Classical.not_imp.1 he;have hlt':=hb' m _ (Array.getElem?_eq_getElem hops) e h1 h2;refine ihm e.on hlt' e.on rfl ?_;have:e.on<listed.size:=by omega
        simp[this]at he |-;exact he
    obtain⟨i,hi⟩:=hun;exact this i i rfl hi
   cases hi':(Region.ready .any ops listed)[t % (Region.ready .any ops listed).length]? with
   |none=>
    exfalso;obtain⟨i,hi''⟩:=hready;have hpos:0<(Region.ready .any ops listed).length:=List.length_pos_of_mem hi'';have hlt:=Nat.mod_lt t hpos;rw[List.getElem?_eq_none_iff]at hi';omega
   |some i=>
    have hmem:=List.mem_of_getElem? hi';obtain⟨hun,o,ho,hall⟩:=mem_ready.1 hmem;have hilt:i<ops.size:=by have:=zq1w hun;omega
    simp only[];rw[linearise_go_acc,List.reverse_singleton,List.singleton_append];have hbk:=hb' i o ho;have hLi:L i=false:=by
     rw[<-hL i hilt];have hlt':i<listed.size:=by omega
     simp[hlt']at hun |-;exact hun
    have hld:left (listed.setIfInBounds i true)+1=left listed:=zq46 hun;have hL':∀j,j<ops.size->(listed.setIfInBounds i true).getD j false=upd L i true j:=λj hj=>by
     by_cases e:i=j
     . subst e;have:i<listed.size:=by omega
       rw[upd_same];simp[this]
     . rw[getD_set_ne false e,upd_ne _ _ (λx=>e x.symm)];exact hL j hj
    have hall':∀e∈o.after,Region.binds .any e=true->L e.on=true:=λe he hbe=>by
     rw[<-hL e.on (by have:=hbk e he hbe;omega)];exact hall e he hbe
    exact hstep s L T w i o hi hLi ho hall' _ λs' T' w' hI'=>ih _ _ s' (upd L i true) _ _ (by simpa using hsz) (by omega) hL' hI'
 refine hJ.step _ _ _ rfl λτ d=>⟨_,_,#[],stepG_region_draw (a:=⟨T₀,ds⟩),?_,by simp,?_⟩
 . exact OkD.refl _ _ _
 . refine hJ.re' s _ w τ (d+1) ?_;simp only[Region.schedule,hm,Bool.true_or,if_true,Region.linearise];refine key _ _ _ _ (λ_=>false) _ _ (by simp) ?_ (λi hi=>by simp[hi]) hI;unfold left;simp
def DrawX(P:Program)(J:γ->Goroutine->World->Prop)(s:γ)(T:Array Value)(o:Oper)(w:World)(K:γ->Value->World->Prop)(K0:World->Prop):Prop:=
 (okOp P (λ_=>false) o.op=true/\((∃d v w',o.dst=some d/\(execOp (Act.mk T []).eval o).run P w=.ok (.value v) w'/\K s v w')\/(o.dst=none/\∃w',(execOp (Act.mk T []).eval o).run P w=.ok .skip w'/\K0 w')))\/
 (∃d f args,o.dst=some d/\(∀w,(execOp (Act.mk T []).eval o).run P w=.ok (.enter f args) w)/\(∀w,(execOp (Act.mk T []).eval o).events P w #[]=#[])/\zq1m P J f args (λs' e w'=>∃v,e=.returned v/\K s' v w') s w)
end
end Go.Car
