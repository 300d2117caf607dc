/- YtnjpcibdaanpeaaSKeep15: part 12 of the proof (the texts behind it, in order). -/
import Derived.Test.YtnjpcibdaanpeaaK11
set_option linter.unusedSimpArgs false
set_option linter.unusedVariables false
set_option linter.unusedSectionVars false
set_option linter.unnecessarySimpa false
set_option maxHeartbeats 8000000
set_option maxRecDepth 100000
namespace Go.Proofs
open Go Go.Conc Go.RowKit Go.Car
open Go.ConcN (upd upd_ne upd_same)
structure ATr(lo hi N:Nat)(R:RS)(ab:Nat)(ov sv:Value)(w:World):Prop where
 ans:∃am,AnsRep tT ab N am w/\(am.st=λi=>(R.T i).ans)/\∀i b,i<N->am.X i b≠none->lo<=b/\b<hi
 abl:lo<=ab/\ab<hi
 orow:w.ownsRow lo 3 1 ov R.ord.length (R.ord.map λ(i:Nat)=>.int .i64 i)
 ohi:∀g,ov.ownBlock=some g->g<hi
 srow:w.ownsRow lo 2 1 sv R.C.length (R.C.map (Value.int .i64))
 shi:∀g,sv.ownBlock=some g->g<hi
section
variable {lo hi N:Nat} {R:RS} {ab:Nat} {ov sv:Value} {w w':World}
theorem ATr.same (h:ATr lo hi N R ab ov sv w)(hs:∀b,lo<=b->b<hi->w'.heap[b]?=w.heap[b]?):ATr lo hi N R ab ov sv w':=by
 obtain⟨am,h1,h2,h3⟩:=h.ans;refine⟨⟨am,⟨(hs ab h.abl.1 h.abl.2).trans h1.hd,h1.row,λi b o hi hb=>(hs b (h3 i b hi (by rw[hb];simp)).1 (h3 i b hi (by rw[hb];simp)).2).trans (h1.blk i b o hi hb),h1.nab,h1.sep⟩,h2,h3⟩,h.abl,?_,h.ohi,?_,h.shi⟩
 · exact zq13 h.orow λg hg=>hs g (own_lt h.orow hg).2.1 (h.ohi g hg)
 · exact zq13 h.srow λg hg=>hs g (own_lt h.srow hg).2.1 (h.shi g hg)
theorem ATr.at' (h:ATr lo hi N R ab ov sv w)(stk:Bool):TraceAt w (.agg #[.slice (some ⟨ab,0,none⟩) N N,ov,sv,.bool stk]) N (λi=>(R.T i).ans) (R.ord.map λ(i:Nat)=>(i:Int)) R.C stk:=by
 obtain⟨am,h1,h2,h3⟩:=h.ans;have:=trace_of (stk:=stk) h1 h.orow h.srow;rw[h2]at this;exact this
end
theorem atr_of{N:Nat}{w w':World}{ws sched:List Int}{ops:Nat->List OpX}{mo:Int}{R:RS}{ab:Nat}{ov sv:Value}{am:AnsM}(h:PlayedR N w (strT ws ops N mo sched) (strT ws ops N mo sched).s.1 ab ov sv am w')(hR:playR ops N (min mo.toNat 1048576) sched (zqt ws)=R):
 ATr w.heap.size w'.heap.size N R ab ov sv w'/\leftN (strT ws ops N mo sched).ov N=leftN (ovR R) N:=by
 obtain⟨q1,q2,q3,q4⟩:=plays_same ws ops N mo sched;rw[hR]at q1 q2 q3 q4;have ho:=h.orow;have hs:=h.srow;rw[q3]at ho;rw[q1]at hs;refine⟨⟨⟨am,h.ans,by rw[h.ast];exact funext q2,λi b hi hb=>⟨h.ansn i b hi hb,?_⟩⟩,⟨h.abl,zqn h.ans.hd⟩,ho,λg hg=>(own_lt ho hg).2.2,hs,λg hg=>(own_lt hs hg).2.2⟩,q4⟩;cases hX:am.X i b with
 |none=>exact absurd hX hb
 |some o=>exact zqn (h.ans.blk i b o hi hX)
structure KaM(W0:World)(N:Nat)(R:RS)(stk:Bool)(lo hi ab:Nat)(ov sv:Value)(Ba:Nat)(L:Nat->Bool)(w:World):Prop where
 be:Beyond W0 w
 tr:L 13=true->ATr lo hi N R ab ov sv w/\W0.heap.size<=lo/\hi<=w.heap.size
 bx:L 14=true->W0.heap.size<=Ba/\w.heap[Ba]?=some (if L 15=true then .cells #[.slice (some ⟨ab,0,none⟩) N N,ov,sv,.bool stk] 31 else .cells #[.slice none 0 0,.slice none 0 0,.slice none 0 0,.bool false] 31)
 sep:L 13=true->L 14=true->Ba<lo\/hi<=Ba
 d15:L 15=true->L 13=true/\L 14=true
def KaW(W0:World)(n0 N:Nat)(spec:List Value)(R:RS)(stk:Bool)(s:Nat)(L:Nat->Bool)(vals:List Value)(w:World):Prop:=
 (s=if L 13=true then n0+N else n0)/\(∀i,i<13->L i=true->vals[i]?=spec[i]?)/\∃lo hi ab ov sv Ba,(L 13=true->vals[13]?=some (.agg #[.slice (some ⟨ab,0,none⟩) N N,ov,sv,.bool stk]))/\(L 14=true->vals[14]?=some (.pointer (some ⟨Ba,0,none⟩)))/\KaM W0 N R stk lo hi ab ov sv Ba L w
section
variable {W0 w w':World} {n0 N:Nat} {spec:List Value} {R:RS} {stk:Bool} {s:Nat} {L:Nat->Bool} {vals:List Value}
theorem KaW.re (h:KaW W0 n0 N spec R stk s L vals w)(τ:Nat->Question->Nat)(d:Nat):KaW W0 n0 N spec R stk s L vals (Go.Car.re w τ d):=by
 obtain⟨h1,h2,lo,hi,ab,ov,sv,Ba,h3,h4,h5⟩:=h;exact⟨h1,h2,lo,hi,ab,ov,sv,Ba,h3,h4,h5.be.trans (Beyond.re _ _ _),λhl=>⟨(h5.tr hl).1.same λ_ _ _=>rfl,(h5.tr hl).2⟩,h5.bx,h5.sep,h5.d15⟩
theorem KaW.read (h:KaW W0 n0 N spec R stk s L vals w)(hlen:vals.length=16){i:Nat}{v:Value}(hi:i<13)(hv:spec[i]?=some v):KaW W0 n0 N spec R stk s (upd L i true) (vals.set i v) w:=by
 obtain⟨h1,h2,lo,hi',ab,ov,sv,Ba,h3,h4,h5⟩:=h;have e:∀m,13<=m->upd L i true m=L m:=λm hm=>upd_ne _ _ (by omega);refine⟨by rw[e 13 (by decide)];exact h1,λj hj hl=>?_,lo,hi',ab,ov,sv,Ba,λhl=>?_,λhl=>?_,h5.be,by rw[e 13 (by decide)];exact h5.tr,by rw[e 14 (by decide),e 15 (by decide)];exact h5.bx,by rw[e 13 (by decide),e 14 (by decide)];exact h5.sep,by rw[e 13 (by decide),e 14 (by decide),e 15 (by decide)];exact h5.d15⟩
 · by_cases e2:j=i
   · subst e2;rw[hv,List.getElem?_set_self (by omega)]
   · rw[upd_ne _ _ e2]at hl;rw[List.getElem?_set_ne (λx=>e2 x.symm)];exact h2 j hj hl
 · rw[e 13 (by decide)]at hl;rw[List.getElem?_set_ne (by omega)];exact h3 hl
 · rw[e 14 (by decide)]at hl;rw[List.getElem?_set_ne (by omega)];exact h4 hl
theorem KaW.call (h:KaW W0 n0 N spec R stk s L vals w)(hlen:vals.length=16)(hL:L 13=false)(hb:Beyond w w'){ab:Nat}{ov sv:Value}(ht:ATr w.heap.size w'.heap.size N R ab ov sv w'):KaW W0 n0 N spec R stk (s+N) (upd L 13 true) (vals.set 13 (.agg #[.slice (some ⟨ab,0,none⟩) N N,ov,sv,.bool stk])) w':=by
 obtain⟨h1,h2,lo,hi',ab',ov',sv',Ba,h3,h4,h5⟩:=h;have e:∀m,m≠13->upd L 13 true m=L m:=λm hm=>upd_ne _ _ hm;have h15:L 15=false:=by
  cases h:L 15 with
  |false=>rfl
  |true=>have:=(h5.d15 h).1;rw[hL]at this;cases this
 refine⟨by rw[upd_same,if_pos rfl,h1,hL];rfl,λj hj hl=>?_,w.heap.size,w'.heap.size,ab,ov,sv,Ba,λ_=>by simp[hlen],λhl=>?_,h5.be.trans hb,λ_=>⟨ht,h5.be.1,Nat.le_refl _⟩,?_,λ_ hl=>?_,λhl=>?_⟩
 · rw[e j (by omega)]at hl;rw[List.getElem?_set_ne (by omega)];exact h2 j hj hl
 · rw[e 14 (by decide)]at hl;rw[List.getElem?_set_ne (by decide)];exact h4 hl
 · rw[e 14 (by decide),e 15 (by decide),h15];intro hl;obtain⟨k1,k2⟩:=h5.bx hl;rw[h15]at k2;exact⟨k1,hb.heap k2⟩
 · rw[e 14 (by decide)]at hl;exact .inl (zqn (h5.bx hl).2)
 · rw[e 15 (by decide),h15]at hl;cases hl
theorem KaW.new (h:KaW W0 n0 N spec R stk s L vals w)(hlen:vals.length=16)(hL:L 14=false):KaW W0 n0 N spec R stk s (upd L 14 true) (vals.set 14 (.pointer (some ⟨w.heap.size,0,none⟩))) (w.alloc (.cells #[.slice none 0 0,.slice none 0 0,.slice none 0 0,.bool false] 31)):=by
 obtain⟨h1,h2,lo,hi',ab,ov,sv,Ba,h3,h4,h5⟩:=h;have e:∀m,m≠14->upd L 14 true m=L m:=λm hm=>upd_ne _ _ hm;have hb:=Beyond.alloc w (.cells #[.slice none 0 0,.slice none 0 0,.slice none 0 0,.bool false] 31);have h15:L 15=false:=by
  cases h:L 15 with
  |false=>rfl
  |true=>have:=(h5.d15 h).2;rw[hL]at this;cases this
 refine⟨by rw[e 13 (by decide)];exact h1,λj hj hl=>?_,lo,hi',ab,ov,sv,w.heap.size,λhl=>?_,λ_=>by simp[hlen],h5.be.trans hb,λhl=>?_,λ_=>⟨h5.be.1,?_⟩,λhl _=>?_,λhl=>?_⟩
 · rw[e j (by omega)]at hl;rw[List.getElem?_set_ne (by omega)];exact h2 j hj hl
 · rw[e 13 (by decide)]at hl;rw[List.getElem?_set_ne (by decide)];exact h3 hl
 · rw[e 13 (by decide)]at hl;obtain⟨k1,k2,k3⟩:=h5.tr hl;exact⟨k1.same λb _ hb2=>hb.2 b (by omega),k2,Nat.le_trans k3 hb.1⟩
 · rw[e 15 (by decide),h15];exact zqu _ _
 · rw[e 13 (by decide)]at hl;exact .inr (h5.tr hl).2.2
 · rw[e 15 (by decide),h15]at hl;cases hl
end
theorem KaM.put {W0 w:World}{N:Nat}{R:RS}{stk:Bool}{lo hi ab:Nat}{ov sv:Value}{Ba:Nat}{L:Nat->Bool}(h:KaM W0 N R stk lo hi ab ov sv Ba L w)(h13:L 13=true)(h14:L 14=true)(h15:L 15=false):
 KaM W0 N R stk lo hi ab ov sv Ba (upd L 15 true) ((((w.setCell ⟨Ba,0,none⟩ (.slice (some ⟨ab,0,none⟩) N N)).setCell ⟨Ba,1,none⟩ ov).setCell ⟨Ba,2,none⟩ sv).setCell ⟨Ba,3,none⟩ (.bool stk)):=by
 have e:∀m,m≠15->upd L 15 true m=L m:=λm hm=>upd_ne _ _ hm;obtain⟨k1,k2⟩:=h.bx h14;rw[h15]at k2;replace k2:w.heap[Ba]?=some (.cells #[.slice none 0 0,.slice none 0 0,.slice none 0 0,.bool false] 31):=k2;have old:∀b,b≠Ba->((((w.setCell ⟨Ba,0,none⟩ (.slice (some ⟨ab,0,none⟩) N N)).setCell ⟨Ba,1,none⟩ ov).setCell ⟨Ba,2,none⟩ sv).setCell ⟨Ba,3,none⟩ (.bool stk)).heap[b]?=w.heap[b]?:=λb hb=>by
  rw[zq7 _ _ _ _ hb,zq7 _ _ _ _ hb,zq7 _ _ _ _ hb,zq7 _ _ _ _ hb]
 have hsz:((((w.setCell ⟨Ba,0,none⟩ (.slice (some ⟨ab,0,none⟩) N N)).setCell ⟨Ba,1,none⟩ ov).setCell ⟨Ba,2,none⟩ sv).setCell ⟨Ba,3,none⟩ (.bool stk)).heap.size=w.heap.size:=by simp only[zqv]
 have hse:=h.sep h13 h14;obtain⟨t1,t2,t3⟩:=h.tr h13;refine⟨⟨by rw[hsz];exact h.be.1,λb hb=>(old b (by omega)).trans (h.be.2 b hb)⟩,λ_=>⟨t1.same λb hb1 hb2=>old b (by omega),t2,by rw[hsz];exact t3⟩,λ_=>⟨k1,?_⟩,λ_ _=>hse,λ_=>by rw[e 13 (by decide),e 14 (by decide)];exact⟨h13,h14⟩⟩;rw[upd_same,if_pos rfl];exact zqc _ _ _ _ (zqc _ _ _ _ (zqc _ _ _ _ (zqc _ _ _ _ k2)))
noncomputable def skR10:Array Oper:=match headC (skT 6)with
 |.region _ o _=>o
 |_=>#[]
theorem skR10_0:headC (skT 6)=.region 10 skR10 true:=by kernel_rfl
structure PlG(W0:World)(RP:Nat->Option Obj)(wp pp scp:Option Addr)(wl np N sl:Nat)(sp:Nat->Option Addr)(L Cp:Nat->Nat)(ops:Nat->List OpX)(ws sched:List Int)(mo:Int)(R:RS)(stk:Bool):Prop where
 wsl:ws.length=wl
 wlo:wl<=1048576
 wc:0<wl->∃wb wo,wp=some ⟨wb,wo,none⟩/\∀i,i<wl->W0.cell? ⟨wb,wo+i,none⟩=some (.int .i64 (ws.getD i 0))
 rp:∀b o,RP b=some o->W0.heap[b]?=some o
 op:OpsAt W0 RP pp np N sp L Cp ops
 scl:sched.length=sl
 sle:sl<=1048576
 sc:sched≠[]->∃sb off,scp=some ⟨sb,off,none⟩/\∀j x,sched[j]?=some x->W0.cell? ⟨sb,off+j,none⟩=some (.int .i64 x)
 pl:playR ops N (min mo.toNat 1048576) sched (zqt ws)=R
 st:decide (0<leftN (ovR R) N)=stk
theorem PlG.calls {Fin:Machine->Trace->Prop}(hFin:Back Try.prog Fin){n:Nat}(hn:0<n){W0 w:World}{RP:Nat->Option Obj}{wp pp scp:Option Addr}{wl np N sl Cw Cn Cs:Nat}{sp:Nat->Option Addr}{L Cp:Nat->Nat}{ops:Nat->List OpX}{ws sched:List Int}{mo:Int}{R:RS}{stk:Bool}(h:PlG W0 RP wp pp scp wl np N sl sp L Cp ops ws sched mo R stk)(hb:Beyond W0 w){c:Frame}{cs:List Frame}
 (hmain:∀ab p1 c1 p2 c2 w',Beyond w w'->ATr w.heap.size w'.heap.size N R ab (.slice p1 R.ord.length c1) (.slice p2 R.C.length c2) w'->J0 Try.prog Fin (n+N) (G (c.finish (.agg #[.slice (some ⟨ab,0,none⟩) N N,.slice p1 R.ord.length c1,.slice p2 R.C.length c2,.bool stk])) cs) w'):
 J0 Try.prog Fin n (G (Frame.enter Try.prog 10 #[.slice wp wl Cw,.slice pp np Cn,.slice scp sl Cs,.int .i64 mo] .normal) (c::cs)) w:=by
 rw[←h.scl];refine zq2w hFin hn (RP:=RP) (ws:=ws) (sched:=sched) h.wsl (by have:=h.wlo;omega) (λh0=>?_) (λb o hbo=>hb.heap (h.rp b o hbo)) (h.op.beyond hb) (by rw[h.scl];have:=h.sle;omega) (λh0=>?_) ?_
 · obtain⟨wb,wo,e,hc⟩:=h.wc h0;exact⟨wb,wo,e,λi hi=>hb.cell (hc i hi)⟩
 · obtain⟨sb,off,e,hc⟩:=h.sc h0;exact⟨sb,off,e,λj x hj=>hb.cell (hc j x hj)⟩
 · intro ab ov sv am w' hO;obtain⟨h1,h2⟩:=atr_of hO h.pl;obtain⟨p1,c1,rfl,-,-⟩:=zq18 h1.orow;obtain⟨p2,c2,rfl,-,-⟩:=zq18 h1.srow;rw[h2,h.st];exact hmain ab p1 c1 p2 c2 w' ⟨hO.size,hO.old⟩ h1
theorem sk_r11{Fin:Machine->Trace->Prop}(hFin:Back Try.prog Fin){n:Nat}(hn:0<n){W0 w:World}{RP:Nat->Option Obj}{Bs wl np N sl Cw Cn Cs:Nat}{wp pp scp:Option Addr}{sp:Nat->Option Addr}{Ln Cp:Nat->Nat}{ops:Nat->List OpX}{ws sched:List Int}{mo:Int}{R:RS}{stk:Bool}{v5 v6 v7 v9 v10:Value}{T:Array Value}(hF:KF Bs v5 v6 v7 v9 v10 T)(hB:w.heap[Bs]?=some (.cells #[.slice wp wl Cw,.slice pp np Cn,.slice scp sl Cs,.int .i64 mo] 26))(hP:PlG W0 RP wp pp scp wl np N sl sp Ln Cp ops ws sched mo R stk)(hb:Beyond W0 w){k:List Item}
 (hq:∀T' Bb lo hi ab p1 c1 p2 c2 w',KF Bs v5 v6 v7 v9 (.pointer (some ⟨Bb,0,none⟩)) T'->Beyond w w'->w.heap.size<=lo->hi<=w'.heap.size->w'.heap[Bb]?=some (.cells #[.slice (some ⟨ab,0,none⟩) N N,.slice p1 R.ord.length c1,.slice p2 R.C.length c2,.bool stk] 31)->w.heap.size<=Bb->ATr lo hi N R ab (.slice p1 R.ord.length c1) (.slice p2 R.C.length c2) w'->J0 Try.prog Fin (n+N) (G ((bN 7).at ⟨T',[]⟩ k) []) w'):
 J0 Try.prog Fin n (G ((bN 7).at ⟨T,[]⟩ (.code (headC (skT 7))::k)) []) w:=by
 have hJ:=j0_JS hFin;have hC:=zq1f hFin;have HH:=Lib.hid hq;have HX:=Lib.hid (And.intro hP hb);clear hq hP hb;obtain⟨u,hu⟩:∃c,headC (skT 7)=c:=⟨_,rfl⟩;have eu:=hu;rw[hu];simp only[skT,headC,tailN,Try.f7,al_od]at eu;subst eu;clear hu;obtain⟨x,hT,hx⟩:=lit301 hF.sz;have e2:x 2=.pointer (some ⟨Bs,0,none⟩):=Option.some.inj ((hx 2 (by decide)).symm.trans hF.t2);have e3:x 3=.pointer (some ⟨Bs+1,0,none⟩):=Option.some.inj ((hx 3 (by decide)).symm.trans hF.t3);have e4:x 4=.bool false:=Option.some.inj ((hx 4 (by decide)).symm.trans hF.t4);have e5:x 5=v5:=Option.some.inj ((hx 5 (by decide)).symm.trans hF.t5);have e6:x 6=v6:=Option.some.inj ((hx 6 (by decide)).symm.trans hF.t6);have e7:x 7=v7:=Option.some.inj ((hx 7 (by decide)).symm.trans hF.t7);have e9:x 9=v9:=Option.some.inj ((hx 9 (by decide)).symm.trans hF.t9);have e10:x 10=v10:=Option.some.inj ((hx 10 (by decide)).symm.trans hF.t10);subst hT;simp only[e2,e3,e4,e5,e6,e7,e9,e10];clear e2 e3 e4 e5 e6 e7 e9 e10 hx hF;have c0:w.cell? ⟨Bs,0,none⟩=some (.slice wp wl Cw):=(zq0 (off:=0) hB).trans rfl;have c1:w.cell? ⟨Bs,1,none⟩=some (.slice pp np Cn):=(zq0 (off:=1) hB).trans rfl;have c2:w.cell? ⟨Bs,2,none⟩=some (.slice scp sl Cs):=(zq0 (off:=2) hB).trans rfl;have c3:w.cell? ⟨Bs,3,none⟩=some (.int .i64 mo):=(zq0 (off:=3) hB).trans rfl;refine hJ.ctl (s:=n) (λw=>stepG_region) ?_;refine zqg (s:=n) (by decide) hJ (zqd _) true (.inl rfl) 0 8 3 rfl rfl rfl (by rfl) ?_;intro τ d;simp only[List.drop_zero,List.take_succ_cons,List.take_zero];replace c0:(re w τ d).cell? ⟨Bs,0,none⟩=some (.slice wp wl Cw):=c0;replace c1:(re w τ d).cell? ⟨Bs,1,none⟩=some (.slice pp np Cn):=c1;replace c2:(re w τ d).cell? ⟨Bs,2,none⟩=some (.slice scp sl Cs):=c2;replace c3:(re w τ d).cell? ⟨Bs,3,none⟩=some (.int .i64 mo):=c3;go_wp2;simp only[zq6];refine hJ.re' n _ _ τ d ?_;refine zqz (by decide) hJ (s:=n) rfl rfl (f:=10) (args:=#[.slice wp wl Cw,.slice pp np Cn,.slice scp sl Cs,.int .i64 mo]) (λτ d=>?_) (λτ d=>?_) ?_
 · simp[go_sem,execOp,Act.eval,resolve,Deferred.ofValue,invoke,callFunc,Try.func10,Try.f10]
 · intro e he;simp[go_sem,execOp,Act.eval,resolve,Deferred.ofValue,invoke,callFunc,Try.func10,Try.f10,Sem.runT_eq]at he
 refine HX.out.1.calls hFin hn HX.out.2 ?_;intro ab p1 c1' p2 c2' w' hb2 hA;rw[Frame.finish_at]
 walk_nrm
 have HA:=Lib.hid (And.intro hA hb2);clear hA hb2;refine zqg (s:=n+N) (by decide) hJ (zqd _) false (.inr rfl) 9 2 0 rfl rfl rfl (by rfl) ?_;intro τ d;simp only[List.drop_succ_cons,List.drop_zero,List.take_succ_cons,List.take_zero];clear c0 c1 c2 c3;have hr:Beyond w' (re w' τ d):=Beyond.re _ _ _;generalize re w' τ d=w3 at hr ⊢;have HR:=Lib.hid hr;clear hr;go_wp2;simp only[zq6];refine hJ.ctl (s:=n+N) (λw=>stepG_region_end) ?_;have hw:=HR.out.trans (Beyond.alloc w3 (.cells #[.slice (some ⟨ab,0,none⟩) N N,.slice p1 R.ord.length c1',.slice p2 R.C.length c2',.bool stk] 31));exact HH.out _ w3.heap.size w.heap.size w'.heap.size ab p1 c1' p2 c2' _ ⟨rfl,rfl,rfl,rfl,rfl,rfl,rfl,rfl,rfl⟩ (HA.out.2.trans hw) (Nat.le_refl _) hw.1 (zqu _ _) (Nat.le_trans HA.out.2.1 HR.out.1) (HA.out.1.same λb _ hb=>hw.2 b hb)
theorem sk_r55{Fin:Machine->Trace->Prop}(hFin:Back Try.prog Fin){n:Nat}(hn:0<n){W0 w:World}{RP:Nat->Option Obj}{Bs wl np N sl Cw Cn Cs:Nat}{wp pp scp:Option Addr}{sp:Nat->Option Addr}{Ln Cp:Nat->Nat}{ops:Nat->List OpX}{ws sched:List Int}{mo:Int}{R:RS}{stk:Bool}{v5 v6 v7 v9 v10:Value}{T:Array Value}(hF:KF Bs v5 v6 v7 v9 v10 T)(hB:w.heap[Bs+1]?=some (.cells #[.slice wp wl Cw,.slice pp np Cn,.slice scp sl Cs,.int .i64 mo] 26))(hP:PlG W0 RP wp pp scp wl np N sl sp Ln Cp ops ws sched mo R stk)(hb:Beyond W0 w){k:List Item}
 (hq:∀T' w',Beyond w w'->KF Bs v5 v6 v7 v9 v10 T'->J0 Try.prog Fin (n+N) (G ((bN 7).at ⟨T',[]⟩ k) []) w'):
 J0 Try.prog Fin n (G ((bN 7).at ⟨T,[]⟩ (.code (headC (skT 13))::k)) []) w:=by
 have hJ:=j0_JS hFin;have hC:=zq1f hFin;have HH:=Lib.hid hq;have HX:=Lib.hid (And.intro hP hb);clear hq hP hb;obtain⟨u,hu⟩:∃c,headC (skT 13)=c:=⟨_,rfl⟩;have eu:=hu;rw[hu];simp only[skT,headC,tailN,Try.f7,al_od]at eu;subst eu;clear hu;obtain⟨x,hT,hx⟩:=lit301 hF.sz;have e2:x 2=.pointer (some ⟨Bs,0,none⟩):=Option.some.inj ((hx 2 (by decide)).symm.trans hF.t2);have e3:x 3=.pointer (some ⟨Bs+1,0,none⟩):=Option.some.inj ((hx 3 (by decide)).symm.trans hF.t3);have e4:x 4=.bool false:=Option.some.inj ((hx 4 (by decide)).symm.trans hF.t4);have e5:x 5=v5:=Option.some.inj ((hx 5 (by decide)).symm.trans hF.t5);have e6:x 6=v6:=Option.some.inj ((hx 6 (by decide)).symm.trans hF.t6);have e7:x 7=v7:=Option.some.inj ((hx 7 (by decide)).symm.trans hF.t7);have e9:x 9=v9:=Option.some.inj ((hx 9 (by decide)).symm.trans hF.t9);have e10:x 10=v10:=Option.some.inj ((hx 10 (by decide)).symm.trans hF.t10);subst hT;simp only[e2,e3,e4,e5,e6,e7,e9,e10];clear e2 e3 e4 e5 e6 e7 e9 e10 hx hF;have c0:w.cell? ⟨Bs+1,0,none⟩=some (.slice wp wl Cw):=(zq0 (off:=0) hB).trans rfl;have c1:w.cell? ⟨Bs+1,1,none⟩=some (.slice pp np Cn):=(zq0 (off:=1) hB).trans rfl;have c2:w.cell? ⟨Bs+1,2,none⟩=some (.slice scp sl Cs):=(zq0 (off:=2) hB).trans rfl;have c3:w.cell? ⟨Bs+1,3,none⟩=some (.int .i64 mo):=(zq0 (off:=3) hB).trans rfl;refine hJ.ctl (s:=n) (λw=>stepG_region) ?_;refine zqg (s:=n) (by decide) hJ (zqd _) true (.inl rfl) 0 8 1 rfl rfl rfl (by rfl) ?_;intro τ d;simp only[List.drop_zero,List.take_succ_cons,List.take_zero];replace c0:(re w τ d).cell? ⟨Bs+1,0,none⟩=some (.slice wp wl Cw):=c0;replace c1:(re w τ d).cell? ⟨Bs+1,1,none⟩=some (.slice pp np Cn):=c1;replace c2:(re w τ d).cell? ⟨Bs+1,2,none⟩=some (.slice scp sl Cs):=c2;replace c3:(re w τ d).cell? ⟨Bs+1,3,none⟩=some (.int .i64 mo):=c3;go_wp2;simp only[zq6];refine hJ.re' n _ _ τ d ?_;refine zqz (by decide) hJ (s:=n) rfl rfl (f:=10) (args:=#[.slice wp wl Cw,.slice pp np Cn,.slice scp sl Cs,.int .i64 mo]) (λτ d=>?_) (λτ d=>?_) ?_
 · simp[go_sem,execOp,Act.eval,resolve,Deferred.ofValue,invoke,callFunc,Try.func10,Try.f10]
 · intro e he;simp[go_sem,execOp,Act.eval,resolve,Deferred.ofValue,invoke,callFunc,Try.func10,Try.f10,Sem.runT_eq]at he
 refine HX.out.1.calls hFin hn HX.out.2 ?_;intro ab p1 c1' p2 c2' w' hb2 hA;rw[Frame.finish_at]
 walk_nrm
 refine hJ.ctl (s:=n+N) (λw=>stepG_region_end) ?_;exact HH.out _ w' hb2 ⟨rfl,rfl,rfl,rfl,rfl,rfl,rfl,rfl,rfl⟩
theorem sk_r56{Fin:Machine->Trace->Prop}(hFin:Back Try.prog Fin){n:Nat}(hn:0<n){W0 w:World}{RP:Nat->Option Obj}{Bs wl np N sl Cw Cn Cs:Nat}{wp pp scp:Option Addr}{sp:Nat->Option Addr}{Ln Cp:Nat->Nat}{ops:Nat->List OpX}{ws sched:List Int}{mo:Int}{R:RS}{stk:Bool}{v5 v6 v7 v9 v10:Value}{T:Array Value}(hF:KF Bs v5 v6 v7 v9 v10 T)(hB:w.heap[Bs]?=some (.cells #[.slice wp wl Cw,.slice pp np Cn,.slice scp sl Cs,.int .i64 mo] 26))(hP:PlG W0 RP wp pp scp wl np N sl sp Ln Cp ops ws sched mo R stk)(hb:Beyond W0 w){k:List Item}
 (hq:∀T' Bb lo hi ab p1 c1 p2 c2 w',KF Bs v5 v6 v7 v9 v10 T'->T'[23]?=some (.pointer (some ⟨Bb,0,none⟩))->Beyond w w'->w.heap.size<=lo->hi<=w'.heap.size->w'.heap[Bb]?=some (.cells #[.slice (some ⟨ab,0,none⟩) N N,.slice p1 R.ord.length c1,.slice p2 R.C.length c2,.bool stk] 31)->w.heap.size<=Bb->ATr lo hi N R ab (.slice p1 R.ord.length c1) (.slice p2 R.C.length c2) w'->J0 Try.prog Fin (n+N) (G ((bN 7).at ⟨T',[]⟩ k) []) w'):
 J0 Try.prog Fin n (G ((bN 7).at ⟨T,[]⟩ (.code (headC (skT 14))::k)) []) w:=by
 have hJ:=j0_JS hFin;have hC:=zq1f hFin;have HH:=Lib.hid hq;have HX:=Lib.hid (And.intro hP hb);clear hq hP hb;obtain⟨u,hu⟩:∃c,headC (skT 14)=c:=⟨_,rfl⟩;have eu:=hu;rw[hu];simp only[skT,headC,tailN,Try.f7,al_od]at eu;subst eu;clear hu;obtain⟨x,hT,hx⟩:=lit301 hF.sz;have e2:x 2=.pointer (some ⟨Bs,0,none⟩):=Option.some.inj ((hx 2 (by decide)).symm.trans hF.t2);have e3:x 3=.pointer (some ⟨Bs+1,0,none⟩):=Option.some.inj ((hx 3 (by decide)).symm.trans hF.t3);have e4:x 4=.bool false:=Option.some.inj ((hx 4 (by decide)).symm.trans hF.t4);have e5:x 5=v5:=Option.some.inj ((hx 5 (by decide)).symm.trans hF.t5);have e6:x 6=v6:=Option.some.inj ((hx 6 (by decide)).symm.trans hF.t6);have e7:x 7=v7:=Option.some.inj ((hx 7 (by decide)).symm.trans hF.t7);have e9:x 9=v9:=Option.some.inj ((hx 9 (by decide)).symm.trans hF.t9);have e10:x 10=v10:=Option.some.inj ((hx 10 (by decide)).symm.trans hF.t10);subst hT;simp only[e2,e3,e4,e5,e6,e7,e9,e10];clear e2 e3 e4 e5 e6 e7 e9 e10 hx hF;have c0:w.cell? ⟨Bs,0,none⟩=some (.slice wp wl Cw):=(zq0 (off:=0) hB).trans rfl;have c1:w.cell? ⟨Bs,1,none⟩=some (.slice pp np Cn):=(zq0 (off:=1) hB).trans rfl;have c2:w.cell? ⟨Bs,2,none⟩=some (.slice scp sl Cs):=(zq0 (off:=2) hB).trans rfl;have c3:w.cell? ⟨Bs,3,none⟩=some (.int .i64 mo):=(zq0 (off:=3) hB).trans rfl;refine hJ.ctl (s:=n) (λw=>stepG_region) ?_;refine zqg (s:=n) (by decide) hJ (zqd _) true (.inl rfl) 0 8 3 rfl rfl rfl (by rfl) ?_;intro τ d;simp only[List.drop_zero,List.take_succ_cons,List.take_zero];replace c0:(re w τ d).cell? ⟨Bs,0,none⟩=some (.slice wp wl Cw):=c0;replace c1:(re w τ d).cell? ⟨Bs,1,none⟩=some (.slice pp np Cn):=c1;replace c2:(re w τ d).cell? ⟨Bs,2,none⟩=some (.slice scp sl Cs):=c2;replace c3:(re w τ d).cell? ⟨Bs,3,none⟩=some (.int .i64 mo):=c3;go_wp2;simp only[zq6];refine hJ.re' n _ _ τ d ?_;refine zqz (by decide) hJ (s:=n) rfl rfl (f:=10) (args:=#[.slice wp wl Cw,.slice pp np Cn,.slice scp sl Cs,.int .i64 mo]) (λτ d=>?_) (λτ d=>?_) ?_
 · simp[go_sem,execOp,Act.eval,resolve,Deferred.ofValue,invoke,callFunc,Try.func10,Try.f10]
 · intro e he;simp[go_sem,execOp,Act.eval,resolve,Deferred.ofValue,invoke,callFunc,Try.func10,Try.f10,Sem.runT_eq]at he
 refine HX.out.1.calls hFin hn HX.out.2 ?_;intro ab p1 c1' p2 c2' w' hb2 hA;rw[Frame.finish_at]
 walk_nrm
 have HA:=Lib.hid (And.intro hA hb2);clear hA hb2;refine zqg (s:=n+N) (by decide) hJ (zqd _) false (.inr rfl) 9 2 0 rfl rfl rfl (by rfl) ?_;intro τ d;simp only[List.drop_succ_cons,List.drop_zero,List.take_succ_cons,List.take_zero];clear c0 c1 c2 c3;have hr:Beyond w' (re w' τ d):=Beyond.re _ _ _;generalize re w' τ d=w3 at hr ⊢;have HR:=Lib.hid hr;clear hr;go_wp2;simp only[zq6];refine hJ.ctl (s:=n+N) (λw=>stepG_region_end) ?_;have hw:=HR.out.trans (Beyond.alloc w3 (.cells #[.slice (some ⟨ab,0,none⟩) N N,.slice p1 R.ord.length c1',.slice p2 R.C.length c2',.bool stk] 31));exact HH.out _ w3.heap.size w.heap.size w'.heap.size ab p1 c1' p2 c2' _ ⟨rfl,rfl,rfl,rfl,rfl,rfl,rfl,rfl,rfl⟩ rfl (HA.out.2.trans hw) (Nat.le_refl _) hw.1 (zqu _ _) (Nat.le_trans HA.out.2.1 HR.out.1) (HA.out.1.same λb _ hb=>hw.2 b hb)
theorem zqs{ops:Array Oper}{T:Array Value}{j d:Nat}{b:Bool}(h:dstOf ops j=some d)(hT:T[d]?=some (.bool b)):yielded ops T j=some b:=by
 unfold dstOf at h;unfold yielded;rw[h];simp only[al_ob,hT]
def skSp(va vb:Value)(Bs gs gd wl sl C5 C6 Cw Cs:Nat)(wp scp:Option Addr):List Value:=[va,vb,.bool true,.bool true,.slice (some ⟨gs,0,none⟩) (wl+1) C5,.pointer (some ⟨Bs,0,none⟩),.slice wp wl Cw,.int .i64 wl,.pointer (some ⟨gs,wl,none⟩),.int .i64 77,.bool true,.bool true,.bool true,.slice (some ⟨gd,0,none⟩) (sl+1) C6,.pointer (some ⟨Bs,2,none⟩),.slice scp sl Cs,.int .i64 sl,.pointer (some ⟨gd,sl,none⟩),.int .i64 88,.bool true,.bool true,.bool true,.slice (some ⟨gs,0,none⟩) (wl+1) C5,.pointer (some ⟨Bs,0,none⟩),.slice wp wl Cw,.int .i64 wl,.slice (some ⟨gs,0,none⟩) wl C5,.pointer (some ⟨Bs,0,none⟩),.slice wp wl Cw,.bool true,.bool true,.bool true,.slice (some ⟨gd,0,none⟩) (sl+1) C6,.pointer (some ⟨Bs,2,none⟩),.slice scp sl Cs,.int .i64 sl,.slice (some ⟨gd,0,none⟩) sl C6,.pointer (some ⟨Bs,2,none⟩),.slice scp sl Cs,.bool true,.bool true,.bool true]
structure SkZ(w0:World)(spec:List Value)(L:Nat->Bool)(vals:List Value)(w:World):Prop where
 be:Beyond w0 w
 v:∀i,i<42->L i=true->vals[i]?=spec[i]?
theorem SkZ.read {w0 w w':World}{spec:List Value}{L:Nat->Bool}{vals:List Value}(h:SkZ w0 spec L vals w)(hb:Beyond w w')(hlen:vals.length=42){i:Nat}{v:Value}(hi:i<42)(hv:spec[i]?=some v):SkZ w0 spec (upd L i true) (vals.set i v) w':=by
 refine⟨h.be.trans hb,λj hj hl=>?_⟩
 by_cases e:j=i
 · subst e;rw[hv,List.getElem?_set_self (by omega)]
 · rw[upd_ne _ _ e]at hl;rw[List.getElem?_set_ne (λx=>e x.symm)];exact h.v j hj hl
noncomputable def skR57:Array Oper:=match headC (skT 15)with
 |.region _ o _=>o
 |_=>#[]
theorem sk57_0:skT 15=.seq (.region 57 skR57 true) .ret:=by kernel_rfl
structure KEnd(w0:World)(Bs Bb Bc gs gd:Nat)(wp scp:Option Addr)(Cw Cs C5 C6:Nat)(ws sched:List Int)(N:Nat)(R:RS)(stk:Bool)(pv:Value)(np:Nat)(mo:Int)(a0 a1 a2 b0 b1 b2:Value):Prop where
 bs:w0.heap[Bs]?=some (.cells #[.slice wp ws.length Cw,pv,.slice scp sched.length Cs,.int .i64 mo] 26)
 bb:w0.heap[Bb]?=some (.cells #[a0,a1,a2,.bool stk] 31)
 bc:w0.heap[Bc]?=some (.cells #[b0,b1,b2,.bool stk] 31)
 tb:TraceAt w0 (.agg #[a0,a1,a2,.bool stk]) N (λi=>(R.T i).ans) (R.ord.map λ(i:Nat)=>(i:Int)) R.C stk
 tc:TraceAt w0 (.agg #[b0,b1,b2,.bool stk]) N (λi=>(R.T i).ans) (R.ord.map λ(i:Nat)=>(i:Int)) R.C stk
 pl:PlTr N R
 w1:ws.length<=1048576/\ws.length+1<=C5
 w2:sched.length<=1048576/\sched.length+1<=C6
 wi:IntsAt w0 (.slice wp ws.length Cw) ws
 si:IntsAt w0 (.slice scp sched.length Cs) sched
 wc:IntsAt w0 (.slice (some ⟨gs,0,none⟩) ws.length C5) ws
 sc:IntsAt w0 (.slice (some ⟨gd,0,none⟩) sched.length C6) sched
 w77:w0.cell? ⟨gs,ws.length,none⟩=some (.int .i64 77)
 s88:w0.cell? ⟨gd,sched.length,none⟩=some (.int .i64 88)
theorem sk_last{Fin:Machine->Trace->Prop}(hFin:Back Try.prog Fin){s:Nat}{w0:World}{Bs Bb Bc gs gd Cw Cs C5 C6 N np wl sl:Nat}{wp scp:Option Addr}{ws sched:List Int}{R:RS}{stk:Bool}{pv v7 v9 a0 a1 a2 b0 b1 b2:Value}{mo:Int}{T₀:Array Value}(hF:KF Bs (.slice (some ⟨gs,0,none⟩) (wl+1) C5) (.slice (some ⟨gd,0,none⟩) (sl+1) C6) v7 v9 (.pointer (some ⟨Bb,0,none⟩)) T₀)(h23:T₀[23]?=some (.pointer (some ⟨Bc,0,none⟩)))
 (HO:RowKit.Hid (KEnd w0 Bs Bb Bc gs gd wp scp Cw Cs C5 C6 ws sched N R stk pv np mo a0 a1 a2 b0 b1 b2/\ws.length=wl/\sched.length=sl)):
 ∀(s1:Nat)(L:Nat->Bool)(vals:List Value)(T:Array Value)(w:World)(i:Nat)(o:Oper),vals.length=skR57.size->(s1=s/\SkZ w0 (skSp (.agg #[a0,a1,a2,.bool stk]) (.agg #[b0,b1,b2,.bool stk]) Bs gs gd wl sl C5 C6 Cw Cs wp scp) L vals w)->L i=false->skR57[i]?=some o->(∀e∈o.after,Region.binds .any e=true->L e.on=true)->
  (∀j t,dstOf skR57 j=some t->L j=true->T[t]?=vals[j]?)->(∀t,noD skR57 t=true->T[t]?=T₀[t]?)->
  Region.wanted o (yielded skR57 T)=true/\DrawX Try.prog (J0 Try.prog Fin) s1 T o w (λs' v w'=>s'=s/\SkZ w0 (skSp (.agg #[a0,a1,a2,.bool stk]) (.agg #[b0,b1,b2,.bool stk]) Bs gs gd wl sl C5 C6 Cw Cs wp scp) (upd L i true) (vals.set i v) w') (λw'=>s1=s/\SkZ w0 (skSp (.agg #[a0,a1,a2,.bool stk]) (.agg #[b0,b1,b2,.bool stk]) Bs gs gd wl sl C5 C6 Cw Cs wp scp) (upd L i true) vals w'):=by
 rintro s1 L vals T w i o hlen ⟨rfl,h⟩ hLi ho hdep hT hT0;have hi:i<42:=(Array.getElem?_eq_some_iff.1 ho).1;replace hlen:vals.length=42:=hlen;have y3:dstOf skR57 3=some 263:=by kernel_rfl
 have y12:dstOf skR57 12=some 272:=by kernel_rfl
 have y21:dstOf skR57 21=some 281:=by kernel_rfl
 have y31:dstOf skR57 31=some 291:=by kernel_rfl
 obtain⟨u3,hu3⟩:∃c,skR57=c:=⟨_,rfl⟩;have eu3:=hu3;simp only[skR57,skT,headC,tailN,Try.f7,al_od]at eu3;rw[hu3,←eu3]at ho;clear eu3 hu3;obtain rfl |rfl |rfl |rfl |rfl |rfl |rfl |rfl |rfl |rfl |rfl |rfl |rfl |rfl |rfl |rfl |rfl |rfl |rfl |rfl |rfl |rfl |rfl |rfl |rfl |rfl |rfl |rfl |rfl |rfl |rfl |rfl |rfl |rfl |rfl |rfl |rfl |rfl |rfl |rfl |rfl |rfl:i=0\/i=1\/i=2\/i=3\/i=4\/i=5\/i=6\/i=7\/i=8\/i=9\/i=10\/i=11\/i=12\/i=13\/i=14\/i=15\/i=16\/i=17\/i=18\/i=19\/i=20\/i=21\/i=22\/i=23\/i=24\/i=25\/i=26\/i=27\/i=28\/i=29\/i=30\/i=31\/i=32\/i=33\/i=34\/i=35\/i=36\/i=37\/i=38\/i=39\/i=40\/i=41:=by omega
 ·
  simp only[al_gl,al_g0,al_g1,al_oi]at ho;subst ho;refine⟨rfl,?_⟩;have e10:T[10]?=some (.pointer (some ⟨Bb,0,none⟩)):=(hT0 10 (by kernel_rfl)).trans hF.t10;have hm:=h.be.heap HO.out.1.bb;have q0:w.cell? ⟨Bb,0,none⟩=some (a0):=(zq0 (off:=0) hm).trans rfl;have q1:w.cell? ⟨Bb,1,none⟩=some (a1):=(zq0 (off:=1) hm).trans rfl;have q2:w.cell? ⟨Bb,2,none⟩=some (a2):=(zq0 (off:=2) hm).trans rfl;have q3:w.cell? ⟨Bb,3,none⟩=some (.bool stk):=(zq0 (off:=3) hm).trans rfl;clear hm;refine .inl ⟨rfl,.inl ⟨260,.agg #[a0,a1,a2,.bool stk],w,rfl,?_,⟨rfl,SkZ.read h (Beyond.refl w) hlen (i:=0) (by decide) rfl⟩⟩⟩;simp only[execOp,Act.eval,al_gd,e10,al_od];go_simp
 ·
  simp only[al_gl,al_g0,al_g1,al_oi]at ho;subst ho;refine⟨rfl,?_⟩;have e23:T[23]?=some (.pointer (some ⟨Bc,0,none⟩)):=(hT0 23 (by kernel_rfl)).trans h23;have hm:=h.be.heap HO.out.1.bc;have q0:w.cell? ⟨Bc,0,none⟩=some (b0):=(zq0 (off:=0) hm).trans rfl;have q1:w.cell? ⟨Bc,1,none⟩=some (b1):=(zq0 (off:=1) hm).trans rfl;have q2:w.cell? ⟨Bc,2,none⟩=some (b2):=(zq0 (off:=2) hm).trans rfl;have q3:w.cell? ⟨Bc,3,none⟩=some (.bool stk):=(zq0 (off:=3) hm).trans rfl;clear hm;refine .inl ⟨rfl,.inl ⟨261,.agg #[b0,b1,b2,.bool stk],w,rfl,?_,⟨rfl,SkZ.read h (Beyond.refl w) hlen (i:=1) (by decide) rfl⟩⟩⟩;simp only[execOp,Act.eval,al_gd,e23,al_od];go_simp
 ·
  simp only[al_gl,al_g0,al_g1,al_oi]at ho;subst ho;refine⟨rfl,?_⟩;have e260:T[260]?=some (.agg #[a0,a1,a2,.bool stk]):=(hT 0 260 rfl (hdep ⟨0,.data⟩ (by simp) rfl)).trans (h.v 0 (by decide) (hdep ⟨0,.data⟩ (by simp) rfl));have e261:T[261]?=some (.agg #[b0,b1,b2,.bool stk]):=(hT 1 261 rfl (hdep ⟨1,.data⟩ (by simp) rfl)).trans (h.v 1 (by decide) (hdep ⟨1,.data⟩ (by simp) rfl));refine .inr ⟨262,9,#[.agg #[a0,a1,a2,.bool stk],.agg #[b0,b1,b2,.bool stk]],rfl,λw=>?_,λw=>?_,?_⟩
  · simp only[execOp,Act.eval,al_gd,e260,e261,al_od,List.map_toArray,List.map_cons,List.map_nil];simp[go_sem,execOp,Act.eval,resolve,Deferred.ofValue,invoke,callFunc,Try.func9,Try.f9,e260,e261]
  · simp only[execOp,Act.eval,al_gd,e260,e261,al_od,List.map_toArray,List.map_cons,List.map_nil];simp[go_sem,execOp,Act.eval,resolve,Deferred.ofValue,invoke,callFunc,Try.func9,Try.f9,e260,e261]
  · intro cl cs' h1 _;refine zq2i (j0_JS hFin) (zq1f hFin) zqo Try.func9 rfl (by kernel_rfl) (R:=λv w'=>v=.bool true/\Beyond w w') (λv w' τ d h=>⟨h.1,h.2.trans (Beyond.re _ _ _)⟩) (λτ d=>?_) ?_
    · refine Calls.mono (pl_same HO.out.1.pl (HO.out.1.tb.beyond (h.be.trans (Beyond.re w τ d))) (HO.out.1.tc.beyond (h.be.trans (Beyond.re w τ d)))) ?_;rintro e w' ⟨rfl,hb2⟩;exact⟨_,rfl,rfl,(Beyond.re w τ d).trans hb2⟩
    · rintro v w' ⟨rfl,hb2⟩;exact h1 _ _ w' ⟨_,rfl,rfl,SkZ.read h hb2 hlen (i:=2) (by decide) rfl⟩
 ·
  simp only[al_gl,al_g0,al_g1,al_oi]at ho;subst ho;refine⟨rfl,?_⟩;have e262:T[262]?=some (.bool true):=(hT 2 262 rfl (hdep ⟨2,.data⟩ (by simp) rfl)).trans (h.v 2 (by decide) (hdep ⟨2,.data⟩ (by simp) rfl));refine .inl ⟨rfl,.inl ⟨263,.bool true,w,rfl,?_,⟨rfl,SkZ.read h (Beyond.refl w) hlen (i:=3) (by decide) rfl⟩⟩⟩;simp only[execOp,Act.eval,al_gd,e262,al_od];go_simp
 ·
  simp only[al_gl,al_g0,al_g1,al_oi]at ho;subst ho;have eg:T[263]?=some (.bool true):=(hT 3 263 y3 (hdep ⟨3,.guard⟩ (by simp) rfl)).trans (h.v 3 (by decide) (hdep ⟨3,.guard⟩ (by simp) rfl));refine⟨by simp only[Region.wanted,zqs y3 eg];rfl,?_⟩;have e5:T[5]?=some (.slice (some ⟨gs,0,none⟩) (wl+1) C5):=(hT0 5 (by kernel_rfl)).trans hF.t5;refine .inl ⟨rfl,.inl ⟨264,.slice (some ⟨gs,0,none⟩) (wl+1) C5,w,rfl,?_,⟨rfl,SkZ.read h (Beyond.refl w) hlen (i:=4) (by decide) rfl⟩⟩⟩;simp only[execOp,Act.eval,al_gd,e5,al_od];go_simp
 ·
  simp only[al_gl,al_g0,al_g1,al_oi]at ho;subst ho;have eg:T[263]?=some (.bool true):=(hT 3 263 y3 (hdep ⟨3,.guard⟩ (by simp) rfl)).trans (h.v 3 (by decide) (hdep ⟨3,.guard⟩ (by simp) rfl));refine⟨by simp only[Region.wanted,zqs y3 eg];rfl,?_⟩;have e2:T[2]?=some (.pointer (some ⟨Bs,0,none⟩)):=(hT0 2 (by kernel_rfl)).trans hF.t2;refine .inl ⟨rfl,.inl ⟨265,.pointer (some ⟨Bs,0,none⟩),w,rfl,?_,⟨rfl,SkZ.read h (Beyond.refl w) hlen (i:=5) (by decide) rfl⟩⟩⟩;simp only[execOp,Act.eval,al_gd,e2,al_od];go_simp
 ·
  simp only[al_gl,al_g0,al_g1,al_oi]at ho;subst ho;have eg:T[263]?=some (.bool true):=(hT 3 263 y3 (hdep ⟨3,.guard⟩ (by simp) rfl)).trans (h.v 3 (by decide) (hdep ⟨3,.guard⟩ (by simp) rfl));refine⟨by simp only[Region.wanted,zqs y3 eg];rfl,?_⟩;have e265:T[265]?=some (.pointer (some ⟨Bs,0,none⟩)):=(hT 5 265 rfl (hdep ⟨5,.data⟩ (by simp) rfl)).trans (h.v 5 (by decide) (hdep ⟨5,.data⟩ (by simp) rfl));have c0:w.cell? ⟨Bs,0,none⟩=some (.slice wp wl Cw):=by rw[←HO.out.2.1];exact(zq0 (off:=0) (h.be.heap HO.out.1.bs)).trans rfl
  refine .inl ⟨rfl,.inl ⟨266,.slice wp wl Cw,w,rfl,?_,⟨rfl,SkZ.read h (Beyond.refl w) hlen (i:=6) (by decide) rfl⟩⟩⟩;simp only[execOp,Act.eval,al_gd,e265,al_od];go_simp
 ·
  simp only[al_gl,al_g0,al_g1,al_oi]at ho;subst ho;have eg:T[263]?=some (.bool true):=(hT 3 263 y3 (hdep ⟨3,.guard⟩ (by simp) rfl)).trans (h.v 3 (by decide) (hdep ⟨3,.guard⟩ (by simp) rfl));refine⟨by simp only[Region.wanted,zqs y3 eg];rfl,?_⟩;have e266:T[266]?=some (.slice wp wl Cw):=(hT 6 266 rfl (hdep ⟨6,.data⟩ (by simp) rfl)).trans (h.v 6 (by decide) (hdep ⟨6,.data⟩ (by simp) rfl));refine .inl ⟨rfl,.inl ⟨267,.int .i64 wl,w,rfl,?_,⟨rfl,SkZ.read h (Beyond.refl w) hlen (i:=7) (by decide) rfl⟩⟩⟩;simp only[execOp,Act.eval,al_gd,e266,al_od];go_simp
 ·
  simp only[al_gl,al_g0,al_g1,al_oi]at ho;subst ho;have eg:T[263]?=some (.bool true):=(hT 3 263 y3 (hdep ⟨3,.guard⟩ (by simp) rfl)).trans (h.v 3 (by decide) (hdep ⟨3,.guard⟩ (by simp) rfl));refine⟨by simp only[Region.wanted,zqs y3 eg];rfl,?_⟩;have e264:T[264]?=some (.slice (some ⟨gs,0,none⟩) (wl+1) C5):=(hT 4 264 rfl (hdep ⟨4,.data⟩ (by simp) rfl)).trans (h.v 4 (by decide) (hdep ⟨4,.data⟩ (by simp) rfl));have e267:T[267]?=some (.int .i64 wl):=(hT 7 267 rfl (hdep ⟨7,.data⟩ (by simp) rfl)).trans (h.v 7 (by decide) (hdep ⟨7,.data⟩ (by simp) rfl));have k1:(0:Int)<=(wl:Int):=by omega
  have k2:(wl:Int)<(wl:Int)+1:=by omega
  refine .inl ⟨rfl,.inl ⟨268,.pointer (some ⟨gs,wl,none⟩),w,rfl,?_,⟨rfl,SkZ.read h (Beyond.refl w) hlen (i:=8) (by decide) rfl⟩⟩⟩;simp only[execOp,Act.eval,al_gd,e264,e267,al_od];go_simp
 ·
  simp only[al_gl,al_g0,al_g1,al_oi]at ho;subst ho;have eg:T[263]?=some (.bool true):=(hT 3 263 y3 (hdep ⟨3,.guard⟩ (by simp) rfl)).trans (h.v 3 (by decide) (hdep ⟨3,.guard⟩ (by simp) rfl));refine⟨by simp only[Region.wanted,zqs y3 eg];rfl,?_⟩;have e268:T[268]?=some (.pointer (some ⟨gs,wl,none⟩)):=(hT 8 268 rfl (hdep ⟨8,.data⟩ (by simp) rfl)).trans (h.v 8 (by decide) (hdep ⟨8,.data⟩ (by simp) rfl));have c0:w.cell? ⟨gs,wl,none⟩=some (.int .i64 77):=by rw[←HO.out.2.1];exact h.be.cell HO.out.1.w77
  refine .inl ⟨rfl,.inl ⟨269,.int .i64 77,w,rfl,?_,⟨rfl,SkZ.read h (Beyond.refl w) hlen (i:=9) (by decide) rfl⟩⟩⟩;simp only[execOp,Act.eval,al_gd,e268,al_od];go_simp
 ·
  simp only[al_gl,al_g0,al_g1,al_oi]at ho;subst ho;have eg:T[263]?=some (.bool true):=(hT 3 263 y3 (hdep ⟨3,.guard⟩ (by simp) rfl)).trans (h.v 3 (by decide) (hdep ⟨3,.guard⟩ (by simp) rfl));refine⟨by simp only[Region.wanted,zqs y3 eg];rfl,?_⟩;have e269:T[269]?=some (.int .i64 77):=(hT 9 269 rfl (hdep ⟨9,.data⟩ (by simp) rfl)).trans (h.v 9 (by decide) (hdep ⟨9,.data⟩ (by simp) rfl));refine .inl ⟨rfl,.inl ⟨270,.bool true,w,rfl,?_,⟨rfl,SkZ.read h (Beyond.refl w) hlen (i:=10) (by decide) rfl⟩⟩⟩;simp only[execOp,Act.eval,al_gd,e269,al_od];go_simp
 ·
  simp only[al_gl,al_g0,al_g1,al_oi]at ho;subst ho;refine⟨rfl,?_⟩;have e263:T[263]?=some (.bool true):=(hT 3 263 rfl (hdep ⟨3,.data⟩ (by simp) rfl)).trans (h.v 3 (by decide) (hdep ⟨3,.data⟩ (by simp) rfl));have e270:T[270]?=some (.bool true):=(hT 10 270 rfl (hdep ⟨10,.data⟩ (by simp) rfl)).trans (h.v 10 (by decide) (hdep ⟨10,.data⟩ (by simp) rfl));refine .inl ⟨rfl,.inl ⟨271,.bool true,w,rfl,?_,⟨rfl,SkZ.read h (Beyond.refl w) hlen (i:=11) (by decide) rfl⟩⟩⟩;simp only[execOp,Act.eval,al_gd,e263,e270,al_od];go_simp
 ·
  simp only[al_gl,al_g0,al_g1,al_oi]at ho;subst ho;refine⟨rfl,?_⟩;have e271:T[271]?=some (.bool true):=(hT 11 271 rfl (hdep ⟨11,.data⟩ (by simp) rfl)).trans (h.v 11 (by decide) (hdep ⟨11,.data⟩ (by simp) rfl));refine .inl ⟨rfl,.inl ⟨272,.bool true,w,rfl,?_,⟨rfl,SkZ.read h (Beyond.refl w) hlen (i:=12) (by decide) rfl⟩⟩⟩;simp only[execOp,Act.eval,al_gd,e271,al_od];go_simp
 ·
  simp only[al_gl,al_g0,al_g1,al_oi]at ho;subst ho;have eg:T[272]?=some (.bool true):=(hT 12 272 y12 (hdep ⟨12,.guard⟩ (by simp) rfl)).trans (h.v 12 (by decide) (hdep ⟨12,.guard⟩ (by simp) rfl));refine⟨by simp only[Region.wanted,zqs y12 eg];rfl,?_⟩;have e6:T[6]?=some (.slice (some ⟨gd,0,none⟩) (sl+1) C6):=(hT0 6 (by kernel_rfl)).trans hF.t6;refine .inl ⟨rfl,.inl ⟨273,.slice (some ⟨gd,0,none⟩) (sl+1) C6,w,rfl,?_,⟨rfl,SkZ.read h (Beyond.refl w) hlen (i:=13) (by decide) rfl⟩⟩⟩;simp only[execOp,Act.eval,al_gd,e6,al_od];go_simp
 ·
  simp only[al_gl,al_g0,al_g1,al_oi]at ho;subst ho;have eg:T[272]?=some (.bool true):=(hT 12 272 y12 (hdep ⟨12,.guard⟩ (by simp) rfl)).trans (h.v 12 (by decide) (hdep ⟨12,.guard⟩ (by simp) rfl));refine⟨by simp only[Region.wanted,zqs y12 eg];rfl,?_⟩;have e2:T[2]?=some (.pointer (some ⟨Bs,0,none⟩)):=(hT0 2 (by kernel_rfl)).trans hF.t2;refine .inl ⟨rfl,.inl ⟨274,.pointer (some ⟨Bs,2,none⟩),w,rfl,?_,⟨rfl,SkZ.read h (Beyond.refl w) hlen (i:=14) (by decide) rfl⟩⟩⟩;simp only[execOp,Act.eval,al_gd,e2,al_od];go_simp
 ·
  simp only[al_gl,al_g0,al_g1,al_oi]at ho;subst ho;have eg:T[272]?=some (.bool true):=(hT 12 272 y12 (hdep ⟨12,.guard⟩ (by simp) rfl)).trans (h.v 12 (by decide) (hdep ⟨12,.guard⟩ (by simp) rfl));refine⟨by simp only[Region.wanted,zqs y12 eg];rfl,?_⟩;have e274:T[274]?=some (.pointer (some ⟨Bs,2,none⟩)):=(hT 14 274 rfl (hdep ⟨14,.data⟩ (by simp) rfl)).trans (h.v 14 (by decide) (hdep ⟨14,.data⟩ (by simp) rfl));have c0:w.cell? ⟨Bs,2,none⟩=some (.slice scp sl Cs):=by rw[←HO.out.2.2];exact(zq0 (off:=2) (h.be.heap HO.out.1.bs)).trans rfl
  refine .inl ⟨rfl,.inl ⟨275,.slice scp sl Cs,w,rfl,?_,⟨rfl,SkZ.read h (Beyond.refl w) hlen (i:=15) (by decide) rfl⟩⟩⟩;simp only[execOp,Act.eval,al_gd,e274,al_od];go_simp
 ·
  simp only[al_gl,al_g0,al_g1,al_oi]at ho;subst ho;have eg:T[272]?=some (.bool true):=(hT 12 272 y12 (hdep ⟨12,.guard⟩ (by simp) rfl)).trans (h.v 12 (by decide) (hdep ⟨12,.guard⟩ (by simp) rfl));refine⟨by simp only[Region.wanted,zqs y12 eg];rfl,?_⟩;have e275:T[275]?=some (.slice scp sl Cs):=(hT 15 275 rfl (hdep ⟨15,.data⟩ (by simp) rfl)).trans (h.v 15 (by decide) (hdep ⟨15,.data⟩ (by simp) rfl));refine .inl ⟨rfl,.inl ⟨276,.int .i64 sl,w,rfl,?_,⟨rfl,SkZ.read h (Beyond.refl w) hlen (i:=16) (by decide) rfl⟩⟩⟩;simp only[execOp,Act.eval,al_gd,e275,al_od];go_simp
 ·
  simp only[al_gl,al_g0,al_g1,al_oi]at ho;subst ho;have eg:T[272]?=some (.bool true):=(hT 12 272 y12 (hdep ⟨12,.guard⟩ (by simp) rfl)).trans (h.v 12 (by decide) (hdep ⟨12,.guard⟩ (by simp) rfl));refine⟨by simp only[Region.wanted,zqs y12 eg];rfl,?_⟩;have e273:T[273]?=some (.slice (some ⟨gd,0,none⟩) (sl+1) C6):=(hT 13 273 rfl (hdep ⟨13,.data⟩ (by simp) rfl)).trans (h.v 13 (by decide) (hdep ⟨13,.data⟩ (by simp) rfl));have e276:T[276]?=some (.int .i64 sl):=(hT 16 276 rfl (hdep ⟨16,.data⟩ (by simp) rfl)).trans (h.v 16 (by decide) (hdep ⟨16,.data⟩ (by simp) rfl));have k1:(0:Int)<=(sl:Int):=by omega
  have k2:(sl:Int)<(sl:Int)+1:=by omega
  refine .inl ⟨rfl,.inl ⟨277,.pointer (some ⟨gd,sl,none⟩),w,rfl,?_,⟨rfl,SkZ.read h (Beyond.refl w) hlen (i:=17) (by decide) rfl⟩⟩⟩;simp only[execOp,Act.eval,al_gd,e273,e276,al_od];go_simp
 ·
  simp only[al_gl,al_g0,al_g1,al_oi]at ho;subst ho;have eg:T[272]?=some (.bool true):=(hT 12 272 y12 (hdep ⟨12,.guard⟩ (by simp) rfl)).trans (h.v 12 (by decide) (hdep ⟨12,.guard⟩ (by simp) rfl));refine⟨by simp only[Region.wanted,zqs y12 eg];rfl,?_⟩;have e277:T[277]?=some (.pointer (some ⟨gd,sl,none⟩)):=(hT 17 277 rfl (hdep ⟨17,.data⟩ (by simp) rfl)).trans (h.v 17 (by decide) (hdep ⟨17,.data⟩ (by simp) rfl));have c0:w.cell? ⟨gd,sl,none⟩=some (.int .i64 88):=by rw[←HO.out.2.2];exact h.be.cell HO.out.1.s88
  refine .inl ⟨rfl,.inl ⟨278,.int .i64 88,w,rfl,?_,⟨rfl,SkZ.read h (Beyond.refl w) hlen (i:=18) (by decide) rfl⟩⟩⟩;simp only[execOp,Act.eval,al_gd,e277,al_od];go_simp
 ·
  simp only[al_gl,al_g0,al_g1,al_oi]at ho;subst ho;have eg:T[272]?=some (.bool true):=(hT 12 272 y12 (hdep ⟨12,.guard⟩ (by simp) rfl)).trans (h.v 12 (by decide) (hdep ⟨12,.guard⟩ (by simp) rfl));refine⟨by simp only[Region.wanted,zqs y12 eg];rfl,?_⟩;have e278:T[278]?=some (.int .i64 88):=(hT 18 278 rfl (hdep ⟨18,.data⟩ (by simp) rfl)).trans (h.v 18 (by decide) (hdep ⟨18,.data⟩ (by simp) rfl));refine .inl ⟨rfl,.inl ⟨279,.bool true,w,rfl,?_,⟨rfl,SkZ.read h (Beyond.refl w) hlen (i:=19) (by decide) rfl⟩⟩⟩;simp only[execOp,Act.eval,al_gd,e278,al_od];go_simp
 ·
  simp only[al_gl,al_g0,al_g1,al_oi]at ho;subst ho;refine⟨rfl,?_⟩;have e272:T[272]?=some (.bool true):=(hT 12 272 rfl (hdep ⟨12,.data⟩ (by simp) rfl)).trans (h.v 12 (by decide) (hdep ⟨12,.data⟩ (by simp) rfl));have e279:T[279]?=some (.bool true):=(hT 19 279 rfl (hdep ⟨19,.data⟩ (by simp) rfl)).trans (h.v 19 (by decide) (hdep ⟨19,.data⟩ (by simp) rfl));refine .inl ⟨rfl,.inl ⟨280,.bool true,w,rfl,?_,⟨rfl,SkZ.read h (Beyond.refl w) hlen (i:=20) (by decide) rfl⟩⟩⟩;simp only[execOp,Act.eval,al_gd,e272,e279,al_od];go_simp
 ·
  simp only[al_gl,al_g0,al_g1,al_oi]at ho;subst ho;refine⟨rfl,?_⟩;have e280:T[280]?=some (.bool true):=(hT 20 280 rfl (hdep ⟨20,.data⟩ (by simp) rfl)).trans (h.v 20 (by decide) (hdep ⟨20,.data⟩ (by simp) rfl));refine .inl ⟨rfl,.inl ⟨281,.bool true,w,rfl,?_,⟨rfl,SkZ.read h (Beyond.refl w) hlen (i:=21) (by decide) rfl⟩⟩⟩;simp only[execOp,Act.eval,al_gd,e280,al_od];go_simp
 ·
  simp only[al_gl,al_g0,al_g1,al_oi]at ho;subst ho;have eg:T[281]?=some (.bool true):=(hT 21 281 y21 (hdep ⟨21,.guard⟩ (by simp) rfl)).trans (h.v 21 (by decide) (hdep ⟨21,.guard⟩ (by simp) rfl));refine⟨by simp only[Region.wanted,zqs y21 eg];rfl,?_⟩;have e5:T[5]?=some (.slice (some ⟨gs,0,none⟩) (wl+1) C5):=(hT0 5 (by kernel_rfl)).trans hF.t5;refine .inl ⟨rfl,.inl ⟨282,.slice (some ⟨gs,0,none⟩) (wl+1) C5,w,rfl,?_,⟨rfl,SkZ.read h (Beyond.refl w) hlen (i:=22) (by decide) rfl⟩⟩⟩;simp only[execOp,Act.eval,al_gd,e5,al_od];go_simp
 ·
  simp only[al_gl,al_g0,al_g1,al_oi]at ho;subst ho;have eg:T[281]?=some (.bool true):=(hT 21 281 y21 (hdep ⟨21,.guard⟩ (by simp) rfl)).trans (h.v 21 (by decide) (hdep ⟨21,.guard⟩ (by simp) rfl));refine⟨by simp only[Region.wanted,zqs y21 eg];rfl,?_⟩;have e2:T[2]?=some (.pointer (some ⟨Bs,0,none⟩)):=(hT0 2 (by kernel_rfl)).trans hF.t2;refine .inl ⟨rfl,.inl ⟨283,.pointer (some ⟨Bs,0,none⟩),w,rfl,?_,⟨rfl,SkZ.read h (Beyond.refl w) hlen (i:=23) (by decide) rfl⟩⟩⟩;simp only[execOp,Act.eval,al_gd,e2,al_od];go_simp
 ·
  simp only[al_gl,al_g0,al_g1,al_oi]at ho;subst ho;have eg:T[281]?=some (.bool true):=(hT 21 281 y21 (hdep ⟨21,.guard⟩ (by simp) rfl)).trans (h.v 21 (by decide) (hdep ⟨21,.guard⟩ (by simp) rfl));refine⟨by simp only[Region.wanted,zqs y21 eg];rfl,?_⟩;have e283:T[283]?=some (.pointer (some ⟨Bs,0,none⟩)):=(hT 23 283 rfl (hdep ⟨23,.data⟩ (by simp) rfl)).trans (h.v 23 (by decide) (hdep ⟨23,.data⟩ (by simp) rfl));have c0:w.cell? ⟨Bs,0,none⟩=some (.slice wp wl Cw):=by rw[←HO.out.2.1];exact(zq0 (off:=0) (h.be.heap HO.out.1.bs)).trans rfl
  refine .inl ⟨rfl,.inl ⟨284,.slice wp wl Cw,w,rfl,?_,⟨rfl,SkZ.read h (Beyond.refl w) hlen (i:=24) (by decide) rfl⟩⟩⟩;simp only[execOp,Act.eval,al_gd,e283,al_od];go_simp
 ·
  simp only[al_gl,al_g0,al_g1,al_oi]at ho;subst ho;have eg:T[281]?=some (.bool true):=(hT 21 281 y21 (hdep ⟨21,.guard⟩ (by simp) rfl)).trans (h.v 21 (by decide) (hdep ⟨21,.guard⟩ (by simp) rfl));refine⟨by simp only[Region.wanted,zqs y21 eg];rfl,?_⟩;have e284:T[284]?=some (.slice wp wl Cw):=(hT 24 284 rfl (hdep ⟨24,.data⟩ (by simp) rfl)).trans (h.v 24 (by decide) (hdep ⟨24,.data⟩ (by simp) rfl));refine .inl ⟨rfl,.inl ⟨285,.int .i64 wl,w,rfl,?_,⟨rfl,SkZ.read h (Beyond.refl w) hlen (i:=25) (by decide) rfl⟩⟩⟩;simp only[execOp,Act.eval,al_gd,e284,al_od];go_simp
 ·
  simp only[al_gl,al_g0,al_g1,al_oi]at ho;subst ho;have eg:T[281]?=some (.bool true):=(hT 21 281 y21 (hdep ⟨21,.guard⟩ (by simp) rfl)).trans (h.v 21 (by decide) (hdep ⟨21,.guard⟩ (by simp) rfl));refine⟨by simp only[Region.wanted,zqs y21 eg];rfl,?_⟩;have e282:T[282]?=some (.slice (some ⟨gs,0,none⟩) (wl+1) C5):=(hT 22 282 rfl (hdep ⟨22,.data⟩ (by simp) rfl)).trans (h.v 22 (by decide) (hdep ⟨22,.data⟩ (by simp) rfl));have e285:T[285]?=some (.int .i64 wl):=(hT 25 285 rfl (hdep ⟨25,.data⟩ (by simp) rfl)).trans (h.v 25 (by decide) (hdep ⟨25,.data⟩ (by simp) rfl));have k1:(0:Int)<=(wl:Int):=by omega
  have k2:(wl:Int)<=(C5:Int):=by have:=HO.out.1.w1.2;rw[HO.out.2.1]at this;omega
  have k3:wl<=C5:=by omega
  refine .inl ⟨rfl,.inl ⟨286,.slice (some ⟨gs,0,none⟩) wl C5,w,rfl,?_,⟨rfl,SkZ.read h (Beyond.refl w) hlen (i:=26) (by decide) rfl⟩⟩⟩;simp only[execOp,Act.eval,al_gd,e282,e285,al_od];go_simp
 ·
  simp only[al_gl,al_g0,al_g1,al_oi]at ho;subst ho;have eg:T[281]?=some (.bool true):=(hT 21 281 y21 (hdep ⟨21,.guard⟩ (by simp) rfl)).trans (h.v 21 (by decide) (hdep ⟨21,.guard⟩ (by simp) rfl));refine⟨by simp only[Region.wanted,zqs y21 eg];rfl,?_⟩;have e2:T[2]?=some (.pointer (some ⟨Bs,0,none⟩)):=(hT0 2 (by kernel_rfl)).trans hF.t2;refine .inl ⟨rfl,.inl ⟨287,.pointer (some ⟨Bs,0,none⟩),w,rfl,?_,⟨rfl,SkZ.read h (Beyond.refl w) hlen (i:=27) (by decide) rfl⟩⟩⟩;simp only[execOp,Act.eval,al_gd,e2,al_od];go_simp
 ·
  simp only[al_gl,al_g0,al_g1,al_oi]at ho;subst ho;have eg:T[281]?=some (.bool true):=(hT 21 281 y21 (hdep ⟨21,.guard⟩ (by simp) rfl)).trans (h.v 21 (by decide) (hdep ⟨21,.guard⟩ (by simp) rfl));refine⟨by simp only[Region.wanted,zqs y21 eg];rfl,?_⟩;have e287:T[287]?=some (.pointer (some ⟨Bs,0,none⟩)):=(hT 27 287 rfl (hdep ⟨27,.data⟩ (by simp) rfl)).trans (h.v 27 (by decide) (hdep ⟨27,.data⟩ (by simp) rfl));have c0:w.cell? ⟨Bs,0,none⟩=some (.slice wp wl Cw):=by rw[←HO.out.2.1];exact(zq0 (off:=0) (h.be.heap HO.out.1.bs)).trans rfl
  refine .inl ⟨rfl,.inl ⟨288,.slice wp wl Cw,w,rfl,?_,⟨rfl,SkZ.read h (Beyond.refl w) hlen (i:=28) (by decide) rfl⟩⟩⟩;simp only[execOp,Act.eval,al_gd,e287,al_od];go_simp
 ·
  simp only[al_gl,al_g0,al_g1,al_oi]at ho;subst ho;have eg:T[281]?=some (.bool true):=(hT 21 281 y21 (hdep ⟨21,.guard⟩ (by simp) rfl)).trans (h.v 21 (by decide) (hdep ⟨21,.guard⟩ (by simp) rfl));refine⟨by simp only[Region.wanted,zqs y21 eg];rfl,?_⟩;have e286:T[286]?=some (.slice (some ⟨gs,0,none⟩) wl C5):=(hT 26 286 rfl (hdep ⟨26,.data⟩ (by simp) rfl)).trans (h.v 26 (by decide) (hdep ⟨26,.data⟩ (by simp) rfl));have e288:T[288]?=some (.slice wp wl Cw):=(hT 28 288 rfl (hdep ⟨28,.data⟩ (by simp) rfl)).trans (h.v 28 (by decide) (hdep ⟨28,.data⟩ (by simp) rfl));refine .inr ⟨289,16,#[.slice (some ⟨gs,0,none⟩) wl C5,.slice wp wl Cw],rfl,λw=>?_,λw=>?_,?_⟩
  · simp only[execOp,Act.eval,al_gd,e286,e288,al_od,List.map_toArray,List.map_cons,List.map_nil];simp[go_sem,execOp,Act.eval,resolve,Deferred.ofValue,invoke,callFunc,Try.func16,Try.f16,e286,e288]
  · simp only[execOp,Act.eval,al_gd,e286,e288,al_od,List.map_toArray,List.map_cons,List.map_nil];simp[go_sem,execOp,Act.eval,resolve,Deferred.ofValue,invoke,callFunc,Try.func16,Try.f16,e286,e288]
  · intro cl cs' h1 _;refine zq2i (j0_JS hFin) (zq1f hFin) zqo Try.func16 rfl (by kernel_rfl) (R:=λv w'=>v=.bool true/\Beyond w w') (λv w' τ d h=>⟨h.1,h.2.trans (Beyond.re _ _ _)⟩) (λτ d=>?_) ?_
    · refine Calls.mono (zq2u (l:=ws) (by have:=HO.out.1.w1.1;omega) (by rw[←HO.out.2.1];exact HO.out.1.wc.beyond (h.be.trans (Beyond.re w τ d))) (by rw[←HO.out.2.1];exact HO.out.1.wi.beyond (h.be.trans (Beyond.re w τ d)))) ?_;rintro e w' ⟨rfl,n,rfl⟩;exact⟨_,rfl,rfl,(Beyond.re w τ d).trans (Beyond.drew _ _)⟩
    · rintro v w' ⟨rfl,hb2⟩;exact h1 _ _ w' ⟨_,rfl,rfl,SkZ.read h hb2 hlen (i:=29) (by decide) rfl⟩
 ·
  simp only[al_gl,al_g0,al_g1,al_oi]at ho;subst ho;refine⟨rfl,?_⟩;have e281:T[281]?=some (.bool true):=(hT 21 281 rfl (hdep ⟨21,.data⟩ (by simp) rfl)).trans (h.v 21 (by decide) (hdep ⟨21,.data⟩ (by simp) rfl));have e289:T[289]?=some (.bool true):=(hT 29 289 rfl (hdep ⟨29,.data⟩ (by simp) rfl)).trans (h.v 29 (by decide) (hdep ⟨29,.data⟩ (by simp) rfl));refine .inl ⟨rfl,.inl ⟨290,.bool true,w,rfl,?_,⟨rfl,SkZ.read h (Beyond.refl w) hlen (i:=30) (by decide) rfl⟩⟩⟩;simp only[execOp,Act.eval,al_gd,e281,e289,al_od];go_simp
 ·
  simp only[al_gl,al_g0,al_g1,al_oi]at ho;subst ho;refine⟨rfl,?_⟩;have e290:T[290]?=some (.bool true):=(hT 30 290 rfl (hdep ⟨30,.data⟩ (by simp) rfl)).trans (h.v 30 (by decide) (hdep ⟨30,.data⟩ (by simp) rfl));refine .inl ⟨rfl,.inl ⟨291,.bool true,w,rfl,?_,⟨rfl,SkZ.read h (Beyond.refl w) hlen (i:=31) (by decide) rfl⟩⟩⟩;simp only[execOp,Act.eval,al_gd,e290,al_od];go_simp
 ·
  simp only[al_gl,al_g0,al_g1,al_oi]at ho;subst ho;have eg:T[291]?=some (.bool true):=(hT 31 291 y31 (hdep ⟨31,.guard⟩ (by simp) rfl)).trans (h.v 31 (by decide) (hdep ⟨31,.guard⟩ (by simp) rfl));refine⟨by simp only[Region.wanted,zqs y31 eg];rfl,?_⟩;have e6:T[6]?=some (.slice (some ⟨gd,0,none⟩) (sl+1) C6):=(hT0 6 (by kernel_rfl)).trans hF.t6;refine .inl ⟨rfl,.inl ⟨292,.slice (some ⟨gd,0,none⟩) (sl+1) C6,w,rfl,?_,⟨rfl,SkZ.read h (Beyond.refl w) hlen (i:=32) (by decide) rfl⟩⟩⟩;simp only[execOp,Act.eval,al_gd,e6,al_od];go_simp
 ·
  simp only[al_gl,al_g0,al_g1,al_oi]at ho;subst ho;have eg:T[291]?=some (.bool true):=(hT 31 291 y31 (hdep ⟨31,.guard⟩ (by simp) rfl)).trans (h.v 31 (by decide) (hdep ⟨31,.guard⟩ (by simp) rfl));refine⟨by simp only[Region.wanted,zqs y31 eg];rfl,?_⟩;have e2:T[2]?=some (.pointer (some ⟨Bs,0,none⟩)):=(hT0 2 (by kernel_rfl)).trans hF.t2;refine .inl ⟨rfl,.inl ⟨293,.pointer (some ⟨Bs,2,none⟩),w,rfl,?_,⟨rfl,SkZ.read h (Beyond.refl w) hlen (i:=33) (by decide) rfl⟩⟩⟩;simp only[execOp,Act.eval,al_gd,e2,al_od];go_simp
 ·
  simp only[al_gl,al_g0,al_g1,al_oi]at ho;subst ho;have eg:T[291]?=some (.bool true):=(hT 31 291 y31 (hdep ⟨31,.guard⟩ (by simp) rfl)).trans (h.v 31 (by decide) (hdep ⟨31,.guard⟩ (by simp) rfl));refine⟨by simp only[Region.wanted,zqs y31 eg];rfl,?_⟩;have e293:T[293]?=some (.pointer (some ⟨Bs,2,none⟩)):=(hT 33 293 rfl (hdep ⟨33,.data⟩ (by simp) rfl)).trans (h.v 33 (by decide) (hdep ⟨33,.data⟩ (by simp) rfl));have c0:w.cell? ⟨Bs,2,none⟩=some (.slice scp sl Cs):=by rw[←HO.out.2.2];exact(zq0 (off:=2) (h.be.heap HO.out.1.bs)).trans rfl
  refine .inl ⟨rfl,.inl ⟨294,.slice scp sl Cs,w,rfl,?_,⟨rfl,SkZ.read h (Beyond.refl w) hlen (i:=34) (by decide) rfl⟩⟩⟩;simp only[execOp,Act.eval,al_gd,e293,al_od];go_simp
 ·
  simp only[al_gl,al_g0,al_g1,al_oi]at ho;subst ho;have eg:T[291]?=some (.bool true):=(hT 31 291 y31 (hdep ⟨31,.guard⟩ (by simp) rfl)).trans (h.v 31 (by decide) (hdep ⟨31,.guard⟩ (by simp) rfl));refine⟨by simp only[Region.wanted,zqs y31 eg];rfl,?_⟩;have e294:T[294]?=some (.slice scp sl Cs):=(hT 34 294 rfl (hdep ⟨34,.data⟩ (by simp) rfl)).trans (h.v 34 (by decide) (hdep ⟨34,.data⟩ (by simp) rfl));refine .inl ⟨rfl,.inl ⟨295,.int .i64 sl,w,rfl,?_,⟨rfl,SkZ.read h (Beyond.refl w) hlen (i:=35) (by decide) rfl⟩⟩⟩;simp only[execOp,Act.eval,al_gd,e294,al_od];go_simp
 ·
  simp only[al_gl,al_g0,al_g1,al_oi]at ho;subst ho;have eg:T[291]?=some (.bool true):=(hT 31 291 y31 (hdep ⟨31,.guard⟩ (by simp) rfl)).trans (h.v 31 (by decide) (hdep ⟨31,.guard⟩ (by simp) rfl));refine⟨by simp only[Region.wanted,zqs y31 eg];rfl,?_⟩;have e292:T[292]?=some (.slice (some ⟨gd,0,none⟩) (sl+1) C6):=(hT 32 292 rfl (hdep ⟨32,.data⟩ (by simp) rfl)).trans (h.v 32 (by decide) (hdep ⟨32,.data⟩ (by simp) rfl));have e295:T[295]?=some (.int .i64 sl):=(hT 35 295 rfl (hdep ⟨35,.data⟩ (by simp) rfl)).trans (h.v 35 (by decide) (hdep ⟨35,.data⟩ (by simp) rfl));have k1:(0:Int)<=(sl:Int):=by omega
  have k2:(sl:Int)<=(C6:Int):=by have:=HO.out.1.w2.2;rw[HO.out.2.2]at this;omega
  have k3:sl<=C6:=by omega
  refine .inl ⟨rfl,.inl ⟨296,.slice (some ⟨gd,0,none⟩) sl C6,w,rfl,?_,⟨rfl,SkZ.read h (Beyond.refl w) hlen (i:=36) (by decide) rfl⟩⟩⟩;simp only[execOp,Act.eval,al_gd,e292,e295,al_od];go_simp
 ·
  simp only[al_gl,al_g0,al_g1,al_oi]at ho;subst ho;have eg:T[291]?=some (.bool true):=(hT 31 291 y31 (hdep ⟨31,.guard⟩ (by simp) rfl)).trans (h.v 31 (by decide) (hdep ⟨31,.guard⟩ (by simp) rfl));refine⟨by simp only[Region.wanted,zqs y31 eg];rfl,?_⟩;have e2:T[2]?=some (.pointer (some ⟨Bs,0,none⟩)):=(hT0 2 (by kernel_rfl)).trans hF.t2;refine .inl ⟨rfl,.inl ⟨297,.pointer (some ⟨Bs,2,none⟩),w,rfl,?_,⟨rfl,SkZ.read h (Beyond.refl w) hlen (i:=37) (by decide) rfl⟩⟩⟩;simp only[execOp,Act.eval,al_gd,e2,al_od];go_simp
 ·
  simp only[al_gl,al_g0,al_g1,al_oi]at ho;subst ho;have eg:T[291]?=some (.bool true):=(hT 31 291 y31 (hdep ⟨31,.guard⟩ (by simp) rfl)).trans (h.v 31 (by decide) (hdep ⟨31,.guard⟩ (by simp) rfl));refine⟨by simp only[Region.wanted,zqs y31 eg];rfl,?_⟩;have e297:T[297]?=some (.pointer (some ⟨Bs,2,none⟩)):=(hT 37 297 rfl (hdep ⟨37,.data⟩ (by simp) rfl)).trans (h.v 37 (by decide) (hdep ⟨37,.data⟩ (by simp) rfl));have c0:w.cell? ⟨Bs,2,none⟩=some (.slice scp sl Cs):=by rw[←HO.out.2.2];exact(zq0 (off:=2) (h.be.heap HO.out.1.bs)).trans rfl
  refine .inl ⟨rfl,.inl ⟨298,.slice scp sl Cs,w,rfl,?_,⟨rfl,SkZ.read h (Beyond.refl w) hlen (i:=38) (by decide) rfl⟩⟩⟩;simp only[execOp,Act.eval,al_gd,e297,al_od];go_simp
 ·
  simp only[al_gl,al_g0,al_g1,al_oi]at ho;subst ho;have eg:T[291]?=some (.bool true):=(hT 31 291 y31 (hdep ⟨31,.guard⟩ (by simp) rfl)).trans (h.v 31 (by decide) (hdep ⟨31,.guard⟩ (by simp) rfl));refine⟨by simp only[Region.wanted,zqs y31 eg];rfl,?_⟩;have e296:T[296]?=some (.slice (some ⟨gd,0,none⟩) sl C6):=(hT 36 296 rfl (hdep ⟨36,.data⟩ (by simp) rfl)).trans (h.v 36 (by decide) (hdep ⟨36,.data⟩ (by simp) rfl));have e298:T[298]?=some (.slice scp sl Cs):=(hT 38 298 rfl (hdep ⟨38,.data⟩ (by simp) rfl)).trans (h.v 38 (by decide) (hdep ⟨38,.data⟩ (by simp) rfl));refine .inr ⟨299,24,#[.slice (some ⟨gd,0,none⟩) sl C6,.slice scp sl Cs],rfl,λw=>?_,λw=>?_,?_⟩
  · simp only[execOp,Act.eval,al_gd,e296,e298,al_od,List.map_toArray,List.map_cons,List.map_nil];simp[go_sem,execOp,Act.eval,resolve,Deferred.ofValue,invoke,callFunc,Try.func24,Try.f24,e296,e298]
  · simp only[execOp,Act.eval,al_gd,e296,e298,al_od,List.map_toArray,List.map_cons,List.map_nil];simp[go_sem,execOp,Act.eval,resolve,Deferred.ofValue,invoke,callFunc,Try.func24,Try.f24,e296,e298]
  · intro cl cs' h1 _;refine zq2i (j0_JS hFin) (zq1f hFin) zqo Try.func24 rfl (by kernel_rfl) (R:=λv w'=>v=.bool true/\Beyond w w') (λv w' τ d h=>⟨h.1,h.2.trans (Beyond.re _ _ _)⟩) (λτ d=>?_) ?_
    · refine Calls.mono (ints_same (l:=sched) (by have:=HO.out.1.w2.1;omega) (by rw[←HO.out.2.2];exact HO.out.1.sc.beyond (h.be.trans (Beyond.re w τ d))) (by rw[←HO.out.2.2];exact HO.out.1.si.beyond (h.be.trans (Beyond.re w τ d)))) ?_;rintro e w' ⟨rfl,n,rfl⟩;exact⟨_,rfl,rfl,(Beyond.re w τ d).trans (Beyond.drew _ _)⟩
    · rintro v w' ⟨rfl,hb2⟩;exact h1 _ _ w' ⟨_,rfl,rfl,SkZ.read h hb2 hlen (i:=39) (by decide) rfl⟩
 ·
  simp only[al_gl,al_g0,al_g1,al_oi]at ho;subst ho;refine⟨rfl,?_⟩;have e291:T[291]?=some (.bool true):=(hT 31 291 rfl (hdep ⟨31,.data⟩ (by simp) rfl)).trans (h.v 31 (by decide) (hdep ⟨31,.data⟩ (by simp) rfl));have e299:T[299]?=some (.bool true):=(hT 39 299 rfl (hdep ⟨39,.data⟩ (by simp) rfl)).trans (h.v 39 (by decide) (hdep ⟨39,.data⟩ (by simp) rfl));refine .inl ⟨rfl,.inl ⟨300,.bool true,w,rfl,?_,⟨rfl,SkZ.read h (Beyond.refl w) hlen (i:=40) (by decide) rfl⟩⟩⟩;simp only[execOp,Act.eval,al_gd,e291,e299,al_od];go_simp
 ·
  simp only[al_gl,al_g0,al_g1,al_oi]at ho;subst ho;refine⟨rfl,?_⟩;have e300:T[300]?=some (.bool true):=(hT 40 300 rfl (hdep ⟨40,.data⟩ (by simp) rfl)).trans (h.v 40 (by decide) (hdep ⟨40,.data⟩ (by simp) rfl));refine .inl ⟨rfl,.inl ⟨4,.bool true,w,rfl,?_,⟨rfl,SkZ.read h (Beyond.refl w) hlen (i:=41) (by decide) rfl⟩⟩⟩;simp only[execOp,Act.eval,al_gd,e300,al_od];go_simp
def Xs(W1:World)(S M:Nat)(ts:List TypeId)(b:Nat):Prop:=S<=b/\b<M/\∃c T,W1.heap[b]?=some (.cells c T)/\T∈ts
theorem Xs.no {W1:World}{S M:Nat}{ts:List TypeId}{b:Nat}{c:Array Value}{T:TypeId}(h:W1.heap[b]?=some (.cells c T))(hT:T∉ts):¬Xs W1 S M ts b:=λ⟨_,_,c',T',h',h2⟩=>hT (by rw[heap_type h h'];exact h2)
theorem Xs.mono {W1:World}{S M:Nat}{ts us:List TypeId}(h:∀t,t∈ts->t∈us)(b:Nat)(hb:Xs W1 S M ts b):Xs W1 S M us b:=⟨hb.1,hb.2.1,by obtain⟨c,T,h1,h2⟩:=hb.2.2;exact⟨c,T,h1,h T h2⟩⟩
section
variable {w4 W1 w:World} {M:Nat} {ts:List TypeId}
theorem xs_be(h:Wr (Xs W1 w4.heap.size M ts) W1 w)(hb:Beyond w4 W1):Beyond w4 w:=⟨Nat.le_trans hb.1 h.size,λb hlt=>(h.old b (Nat.lt_of_lt_of_le hlt hb.1) λhx=>by have:=hx.1;omega).trans (hb.2 b hlt)⟩
theorem xs_keep{S:Nat}(h:Wr (Xs W1 S M ts) W1 w){b:Nat}{c:Array Value}{T:TypeId}(hb:W1.heap[b]?=some (.cells c T))(hT:T∉ts):w.heap[b]?=some (.cells c T):=(h.old b (zq3 hb) (Xs.no hb hT)).trans hb
end
structure KC(w4 W1:World)(M Bs np Cn:Nat)(pp:Option Addr)(tops:Nat->List OpX)(l:List (Nat×Nat×Nat))(p7:Option Addr)(C7:Nat):Prop where
 be:Beyond w4 W1
 hn:np<=1048576
 hl:∀i,i<np->(tops i).length<=1048576
 bx:w4.cell? ⟨Bs,1,none⟩=some (.slice pp np Cn)
 thr:ThrIn w4 pp np tops
 len:l.length=np
 row:W1.ownsRow w4.heap.size 34 1 (.slice p7 np C7) np (l.map cpV)
 cp:∀(i:Nat)(x:Nat×Nat×Nat),l[i]?=some x->x.2.1=(tops i).length/\W1.ownsRow w4.heap.size 46 4 (cpV x) x.2.1 (opsL (tops i))
 lt:∀(i:Nat)(x:Nat×Nat×Nat),l[i]?=some x->x.1<M
 ne:∀(i j:Nat)(x y:Nat×Nat×Nat),l[i]?=some x->l[j]?=some y->i≠j->x.1≠y.1
structure L2I(W1:World)(S M:Nat)(l:List (Nat×Nat×Nat))(i k:Nat)(w:World):Prop where
 wr:Wr (Xs W1 S M [46]) W1 w
 far:∀(j:Nat)(x:Nat×Nat×Nat),i<j->l[j]?=some x->w.heap[x.1]?=W1.heap[x.1]?
 row:∀x:Nat×Nat×Nat,l[i]?=some x->∀o,k*4<=o->w.cell? ⟨x.1,o,none⟩=W1.cell? ⟨x.1,o,none⟩
section
variable {w4 W1 w:World} {M Bs np Cn:Nat} {pp:Option Addr} {tops:Nat->List OpX} {l:List (Nat×Nat×Nat)} {p7:Option Addr} {C7 i k:Nat}
theorem L2I.drew (h:L2I W1 w4.heap.size M l i k w)(n:Nat):L2I W1 w4.heap.size M l i k (w.drewN n):=⟨h.wr.trans (Wr.drew _ _ _),h.far,h.row⟩
theorem L2I.up (h:L2I W1 w4.heap.size M l i k w):L2I W1 w4.heap.size M l (i+1) 0 w:=⟨h.wr,λj x hj hx=>h.far j x (by omega) hx,λx hx o _=>zql (h.far (i+1) x (by omega) hx)⟩
theorem KC.x (h:KC w4 W1 M Bs np Cn pp tops l p7 C7){i:Nat}{x:Nat×Nat×Nat}(hx:l[i]?=some x):Xs W1 w4.heap.size M [46] x.1:=by
 obtain⟨⟨c,hc⟩,h1,_⟩:=own_lt (h.cp i x hx).2 (g:=x.1) rfl;exact⟨h1,h.lt i x hx,c,46,hc,by simp⟩
theorem L2I.next (h:L2I W1 w4.heap.size M l i k w)(hK:KC w4 W1 M Bs np Cn pp tops l p7 C7){x:Nat×Nat×Nat}(hx:l[i]?=some x)(u0 u1 u2 u3:Value):
 L2I W1 w4.heap.size M l i (k+1) ((((w.setCell ⟨x.1,k*4,none⟩ u0).setCell ⟨x.1,k*4+1,none⟩ u1).setCell ⟨x.1,k*4+2,none⟩ u2).setCell ⟨x.1,k*4+3,none⟩ u3):=by
 have hX:=hK.x hx;refine⟨(((h.wr.trans (Wr.set _ _ hX)).trans (Wr.set _ _ hX)).trans (Wr.set _ _ hX)).trans (Wr.set _ _ hX),λj y hj hy=>?_,λy hy o ho=>?_⟩
 · have hne:y.1≠x.1:=hK.ne j i y x hy hx (by omega);rw[zq7 _ _ _ _ hne,zq7 _ _ _ _ hne,zq7 _ _ _ _ hne,zq7 _ _ _ _ hne];exact h.far j y hj hy
 · obtain rfl:x=y:=Option.some.inj (hx.symm.trans hy);obtain⟨⟨c,hc⟩,h1,_⟩:=own_lt (hK.cp i x hx).2 (g:=x.1) rfl;obtain⟨c',hc',_⟩:=h.wr.shp _ _ _ hc;rw[←h.row x hx o (by omega)];rw[zq0 (zqc _ _ _ _ (zqc _ _ _ _ (zqc _ _ _ _ (zqc _ _ _ _ hc')))),zq0 hc'];rw[al_gn (by omega),al_gn (by omega),al_gn (by omega),al_gn (by omega)]
theorem L2I.read (h:L2I W1 w4.heap.size M l i k w)(hK:KC w4 W1 M Bs np Cn pp tops l p7 C7)(hi:i<np):
 ∃x g7 pb po q C,l[i]?=some x/\x.2.1=(tops i).length/\p7=some ⟨g7,0,none⟩/\pp=some ⟨pb,po,none⟩/\w.cell? ⟨g7,i,none⟩=some (cpV x)/\w.cell? ⟨pb,po+i,none⟩=some (.slice q (tops i).length C)/\w.cell? ⟨Bs,1,none⟩=some (.slice pp np Cn)/\
  ∀op,(tops i)[k]?=some op->∃gb go c,q=some ⟨gb,go,none⟩/\w.heap[x.1]?=some (.cells c 46)/\∀j v,op.cells[j]?=some v->w.cell? ⟨x.1,k*4+j,none⟩=some v/\w.cell? ⟨gb,go+k*4+j,none⟩=some v:=by
 have hbe:=xs_be h.wr hK.be;obtain⟨x,hx⟩:∃x,l[i]?=some x:=⟨_,List.getElem?_eq_getElem (by rw[hK.len];exact hi)⟩;obtain⟨pb,po,e,hc⟩:=hK.thr (by omega);obtain⟨q,C,c1,-,c2⟩:=hc i hi;obtain⟨g7,e7,_,c7,_⟩:=row_cell hK.row (i:=i) (x:=cpV x) (by rw[List.getElem?_map,hx];rfl);obtain⟨hlen,hown⟩:=hK.cp i x hx;refine⟨x,g7,pb,po,q,C,hx,hlen,e7,e,?_,hbe.cell c1,hbe.cell hK.bx,λop hop=>?_⟩
 · obtain⟨cur,e2,fr,hh,hcc⟩:=cell_inv c7;rcases hK.row.2 with⟨hv,_⟩|⟨g,cap,cur2,hv,_,hh2,_⟩
   · rw[e7]at hv;cases hv
   · rw[e7]at hv;cases hv;exact(zql ((h.wr.old g7 (zq3 hh2) (Xs.no hh2 (by decide))))).trans c7
 · obtain⟨gb,go,eq,h3⟩:=c2 (λe=>by rw[e]at hop;simp at hop);obtain⟨⟨c,hc⟩,h1,_⟩:=own_lt hown (g:=x.1) rfl;obtain⟨c',hc',_⟩:=h.wr.shp _ _ _ hc;refine⟨gb,go,c',eq,hc',λj v hv=>?_⟩;have hj:j<4:=(List.getElem?_eq_some_iff.1 hv).1;refine⟨?_,hbe.cell ((h3 k op hop j hj).trans hv)⟩;rw[h.row x hx _ (by omega)];have e5:=(opsL_get _ k op hop j hj).trans hv;have:=hown.cells (g:=x.1) rfl (k*4+j) v e5
   rwa [Addr.add_lit,Nat.zero_add]at this
end
theorem sk_l2{w4 W1:World}{M Bs np Cn:Nat}{v5 v6 v9 v10:Value}{pp:Option Addr}{tops:Nat->List OpX}{l:List (Nat×Nat×Nat)}{p7:Option Addr}{C7:Nat}{T:Array Value}(hF:KF Bs v5 v6 (.slice p7 np C7) v9 v10 T)(hK:KC w4 W1 M Bs np Cn pp tops l p7 C7)(τ:Nat->Question->Nat)(d:Nat):
 Code.wp Try.prog (headC (skT 8)) (ends (λa' w'=>KF Bs v5 v6 (.slice p7 np C7) v9 v10 a'.tmps/\Wr (Xs W1 w4.heap.size M [46]) W1 w') (λ_ _=>False)) ⟨T,[]⟩ (re W1 τ d):=by
 have HK:=Lib.hid hK;have hn:=hK.hn;have H0:RowKit.Hid (L2I W1 w4.heap.size M l 0 0 (re W1 τ d)):=Lib.hid ⟨Wr.re _ _ _ _,λ_ _ _ _=>rfl,λ_ _ _ _=>rfl⟩;clear hK;generalize re W1 τ d=wa at H0 ⊢;obtain⟨u,hu⟩:∃c,headC (skT 8)=c:=⟨_,rfl⟩;have eu:=hu;rw[hu];simp only[skT,headC,tailN,Try.f7,al_od]at eu;subst eu;clear hu;obtain⟨x,hT,hx⟩:=lit301 hF.sz;have e2:x 2=.pointer (some ⟨Bs,0,none⟩):=Option.some.inj ((hx 2 (by decide)).symm.trans hF.t2);have e3:x 3=.pointer (some ⟨Bs+1,0,none⟩):=Option.some.inj ((hx 3 (by decide)).symm.trans hF.t3);have e4:x 4=.bool false:=Option.some.inj ((hx 4 (by decide)).symm.trans hF.t4);have e5:x 5=v5:=Option.some.inj ((hx 5 (by decide)).symm.trans hF.t5);have e6:x 6=v6:=Option.some.inj ((hx 6 (by decide)).symm.trans hF.t6);have e7:x 7=.slice p7 np C7:=Option.some.inj ((hx 7 (by decide)).symm.trans hF.t7);have e9:x 9=v9:=Option.some.inj ((hx 9 (by decide)).symm.trans hF.t9);have e10:x 10=v10:=Option.some.inj ((hx 10 (by decide)).symm.trans hF.t10);subst hT;simp only[e2,e3,e4,e5,e6,e7,e9,e10];clear e2 e3 e4 e5 e6 e7 e9 e10 hx hF
 go_wp2_with (fail)
 go_loopg [4,11] np (λk s4 s11 wr=>∃j:Nat,k=np - j/\j<=np/\s4=.bool false/\s11=.int .i64 j/\L2I W1 w4.heap.size M l j 0 wr)
 case atStart=>exact⟨0,rfl,Nat.zero_le _,rfl,rfl,H0.out⟩
 case round=>
  obtain⟨j,hk,hj,rfl,rfl,hR⟩:=hrel;have HR:=Lib.hid hR;clear hR;have hj0:(0:Int)<=j:=by omega
  by_cases hlt:j<np
  · have hlt':(j:Int)<(np:Int):=by omega
    obtain⟨Lj,hLj⟩:∃x,(tops j).length=x:=⟨_,rfl⟩;have hLm:Lj<=1048576:=by rw[←hLj];exact HK.out.hl j hlt
    have HL:=Lib.hid hLj;clear hLj
    go_wp2_with (fail)
    go_loopg [4,12] Lj (λk s4 s12 wr2=>∃kk:Nat,k=Lj - kk/\kk<=Lj/\s4=.bool false/\s12=.int .i64 kk/\L2I W1 w4.heap.size M l j kk wr2)
    case atStart=>exact⟨0,rfl,Nat.zero_le _,rfl,rfl,HR.out⟩
    case round=>
     obtain⟨kk,hk2,hkk,rfl,rfl,hR2⟩:=hrel;have HR2:=Lib.hid hR2;have hkk0:(0:Int)<=kk:=by omega
     obtain⟨⟨g,Lx,Cx⟩,g7,pb,po,q,C,hx,hlx,rfl,rfl,c7,cq,cb,hop⟩:=hR2.read HK.out hlt;obtain rfl:Lx=(tops j).length:=hlx;rw[HL.out]at hx c7 cq;simp only[cpV]at c7;clear hR2
     by_cases hlt2:kk<Lj
     · have hlt2':(kk:Int)<(Lj:Int):=by omega
       obtain⟨op,ho⟩:∃op,(tops j)[kk]?=some op:=⟨_,List.getElem?_eq_getElem (by rw[HL.out];exact hlt2)⟩;obtain⟨gb,go,cc,rfl,hh,hv⟩:=hop op ho;obtain⟨k0,q0⟩:=hv 0 _ rfl;obtain⟨k1,q1⟩:=hv 1 _ rfl;obtain⟨k2,q2⟩:=hv 2 _ rfl;obtain⟨k3,q3⟩:=hv 3 _ rfl;rw[Nat.add_zero]at k0 q0;have z0:=zq5 (off:=kk*4) hh;have z1:=zq5 (off:=kk*4+1) hh;have z2:=zq5 (off:=kk*4+2) hh;have z3:=zq5 (off:=kk*4+3) hh;obtain⟨o0,o1,o2,o3⟩:=op;have HX:=Lib.hid hx;simp only at k0 k1 k2 k3 q0 q1 q2 q3;clear hop hv ho hx hh
       go_wp2_with (fail)
       go_quiet (fail)
       go_wp2_with (fail)
       go_roundg (Lj - (kk+1))
       case measure=>omega
       case rel=>exact⟨kk+1,rfl,by omega,rfl,rfl,(HR2.out.drew _).next HK.out HX.out _ _ _ _⟩
     · obtain rfl:Lj=kk:=by omega
       clear hop cq
       go_wp2_with (fail)
       go_roundg (np - (j+1))
       case measure=>omega
       case rel=>exact⟨j+1,rfl,by omega,rfl,rfl,HR2.out.up⟩
  · obtain rfl:np=j:=by omega
    go_wp2_with (fail)
    exact⟨rfl,⟨rfl,rfl,rfl,rfl,rfl,rfl,rfl,rfl,rfl⟩,HR.out.wr⟩
structure KT(w4 W1:World)(M N Ba ab:Nat)(R:RS)(p1:Option Addr)(c1:Nat)(p2:Option Addr)(c2:Nat)(stk:Bool):Prop where
 be:Beyond w4 W1
 bx:W1.heap[Ba]?=some (.cells #[.slice (some ⟨ab,0,none⟩) N N,.slice p1 R.ord.length c1,.slice p2 R.C.length c2,.bool stk] 31)
 pl:PlTr N R
 tr:∃lo hi,ATr lo hi N R ab (.slice p1 R.ord.length c1) (.slice p2 R.C.length c2) W1/\w4.heap.size<=lo/\hi<=M
theorem row_at{X:Nat->Prop}{W1 w:World}{S M B n n' C:Nat}{T:TypeId}{p:Option Addr}{xs:List Value}(h:W1.ownsRow B T 1 (.slice p n C) n' xs)(hB:S<=B)(hM:∀g,(Value.slice p n C).ownBlock=some g->g<M)(hw:Wr X W1 w){i:Nat}(hi:i<n'):∃g v c,p=some ⟨g,0,none⟩/\w.heap[g]?=some (.cells c T)/\w.cell? ⟨g,i,none⟩=some v/\S<=g/\g<M/\∃c,W1.heap[g]?=some (.cells c T):=by
 rcases h.2 with⟨hv,h0⟩|⟨g,cap,cur,hv,hb,hh,hn,hm,hs,ht⟩
 · omega
 · cases hv;obtain⟨c',hc',hsz⟩:=hw.shp g cur T hh;exact⟨g,_,c',rfl,hc',(zq0 hc').trans (Array.getElem?_eq_getElem (by rw[hsz,hs];omega)),by omega,hM g rfl,cur,hh⟩
theorem sk_l6{w4 W1 w:World}{M Bs N Ba ab c1 c2:Nat}{R:RS}{p1 p2:Option Addr}{stk:Bool}{v5 v6 v7 v10:Value}{T:Array Value}(hF:KF Bs v5 v6 v7 (.pointer (some ⟨Ba,0,none⟩)) v10 T)(hK:KT w4 W1 M N Ba ab R p1 c1 p2 c2 stk)(hw:Wr (Xs W1 w4.heap.size M [46]) W1 w)(τ:Nat->Question->Nat)(d:Nat):
 Code.wp Try.prog (headC (skT 9)) (ends (λa' w'=>KF Bs v5 v6 v7 (.pointer (some ⟨Ba,0,none⟩)) v10 a'.tmps/\Wr (Xs W1 w4.heap.size M [46,2]) W1 w') (λ_ _=>False)) ⟨T,[]⟩ (re w τ d):=by
 obtain⟨lo,hi,hA,hlo,hhi⟩:=hK.tr;have hL:R.C.length<=1048576:=by have:=hK.pl.c;omega
 obtain⟨L,hLe⟩:∃x,R.C.length=x:=⟨_,rfl⟩;have HK:=Lib.hid (And.intro hK (And.intro hA.srow (And.intro (λg hg=>Nat.lt_of_lt_of_le (hA.shi g hg) hhi:∀g,(Value.slice p2 R.C.length c2).ownBlock=some g->g<M) (And.intro hlo hLe))));have H0:RowKit.Hid (Wr (Xs W1 w4.heap.size M [46,2]) W1 (re w τ d)):=Lib.hid ((hw.trans (Wr.re _ _ _ _)).mono (Xs.mono (by simp)));rw[hLe]at hL;clear hK hA hlo hhi hw hLe;generalize re w τ d=wa at H0 ⊢;obtain⟨u,hu⟩:∃c,headC (skT 9)=c:=⟨_,rfl⟩;have eu:=hu;rw[hu];simp only[skT,headC,tailN,Try.f7,al_od]at eu;subst eu;clear hu;obtain⟨x,hT,hx⟩:=lit301 hF.sz;have e2:x 2=.pointer (some ⟨Bs,0,none⟩):=Option.some.inj ((hx 2 (by decide)).symm.trans hF.t2);have e3:x 3=.pointer (some ⟨Bs+1,0,none⟩):=Option.some.inj ((hx 3 (by decide)).symm.trans hF.t3);have e4:x 4=.bool false:=Option.some.inj ((hx 4 (by decide)).symm.trans hF.t4);have e5:x 5=v5:=Option.some.inj ((hx 5 (by decide)).symm.trans hF.t5);have e6:x 6=v6:=Option.some.inj ((hx 6 (by decide)).symm.trans hF.t6);have e7:x 7=v7:=Option.some.inj ((hx 7 (by decide)).symm.trans hF.t7);have e9:x 9=.pointer (some ⟨Ba,0,none⟩):=Option.some.inj ((hx 9 (by decide)).symm.trans hF.t9);have e10:x 10=v10:=Option.some.inj ((hx 10 (by decide)).symm.trans hF.t10);subst hT;simp only[e2,e3,e4,e5,e6,e7,e9,e10];clear e2 e3 e4 e5 e6 e7 e9 e10 hx hF
 go_wp2_with (fail)
 go_loopg [13] L (λk s wr=>∃j:Nat,k=L - j/\j<=L/\s=.int .i64 j/\Wr (Xs W1 w4.heap.size M [46,2]) W1 wr)
 case atStart=>exact⟨0,rfl,Nat.zero_le _,rfl,H0.out⟩
 case round=>
  obtain⟨j,hk,hj,rfl,hR⟩:=hrel;have HR:=Lib.hid hR;clear hR;have hj0:(0:Int)<=j:=by omega
  have b0:=xs_keep HR.out HK.out.1.bx (by decide);have a0:wr.cell? ⟨Ba,2,none⟩=some (.slice p2 L c2):=by rw[←HK.out.2.2.2.2];exact(zq0 (off:=2) b0).trans rfl
  clear b0
  by_cases hlt:j<L
  · have hlt':(j:Int)<(L:Int):=by omega
    obtain⟨g,v,c,rfl,hh,hv,hx1,hx2,hx3⟩:=row_at HK.out.2.1 HK.out.2.2.2.1 HK.out.2.2.1 HR.out (i:=j) (by rw[HK.out.2.2.2.2];exact hlt);have z:=zq5 (off:=j) hh;have HX:RowKit.Hid (Xs W1 w4.heap.size M [46,2] g):=Lib.hid ⟨hx1,hx2,by obtain⟨c,hc⟩:=hx3;exact⟨c,_,hc,by simp⟩⟩;clear hx1 hx2 hx3 hh
    go_wp2_with (fail)
    go_roundg (L - (j+1))
    case measure=>omega
    case rel=>exact⟨j+1,rfl,by omega,rfl,HR.out.trans (Wr.set _ _ HX.out)⟩
  · obtain rfl:L=j:=by omega
    go_wp2_with (fail)
    exact⟨rfl,⟨rfl,rfl,rfl,rfl,rfl,rfl,rfl,rfl,rfl⟩,HR.out⟩
theorem sk_l8{w4 W1 w:World}{M Bs N Ba ab c1 c2:Nat}{R:RS}{p1 p2:Option Addr}{stk:Bool}{v5 v6 v7 v10:Value}{T:Array Value}(hF:KF Bs v5 v6 v7 (.pointer (some ⟨Ba,0,none⟩)) v10 T)(hK:KT w4 W1 M N Ba ab R p1 c1 p2 c2 stk)(hw:Wr (Xs W1 w4.heap.size M [46,2]) W1 w)(τ:Nat->Question->Nat)(d:Nat):
 Code.wp Try.prog (headC (skT 10)) (ends (λa' w'=>KF Bs v5 v6 v7 (.pointer (some ⟨Ba,0,none⟩)) v10 a'.tmps/\Wr (Xs W1 w4.heap.size M [46,2,3]) W1 w') (λ_ _=>False)) ⟨T,[]⟩ (re w τ d):=by
 obtain⟨lo,hi,hA,hlo,hhi⟩:=hK.tr;have hL:R.ord.length<=1048576:=hK.pl.ord;obtain⟨L,hLe⟩:∃x,R.ord.length=x:=⟨_,rfl⟩;have HK:=Lib.hid (And.intro hK (And.intro hA.orow (And.intro (λg hg=>Nat.lt_of_lt_of_le (hA.ohi g hg) hhi:∀g,(Value.slice p1 R.ord.length c1).ownBlock=some g->g<M) (And.intro hlo hLe))));have H0:RowKit.Hid (Wr (Xs W1 w4.heap.size M [46,2,3]) W1 (re w τ d)):=Lib.hid ((hw.trans (Wr.re _ _ _ _)).mono (Xs.mono (by simp)));rw[hLe]at hL;clear hK hA hlo hhi hw hLe;generalize re w τ d=wa at H0 ⊢;obtain⟨u,hu⟩:∃c,headC (skT 10)=c:=⟨_,rfl⟩;have eu:=hu;rw[hu];simp only[skT,headC,tailN,Try.f7,al_od]at eu;subst eu;clear hu;obtain⟨x,hT,hx⟩:=lit301 hF.sz;have e2:x 2=.pointer (some ⟨Bs,0,none⟩):=Option.some.inj ((hx 2 (by decide)).symm.trans hF.t2);have e3:x 3=.pointer (some ⟨Bs+1,0,none⟩):=Option.some.inj ((hx 3 (by decide)).symm.trans hF.t3);have e4:x 4=.bool false:=Option.some.inj ((hx 4 (by decide)).symm.trans hF.t4);have e5:x 5=v5:=Option.some.inj ((hx 5 (by decide)).symm.trans hF.t5);have e6:x 6=v6:=Option.some.inj ((hx 6 (by decide)).symm.trans hF.t6);have e7:x 7=v7:=Option.some.inj ((hx 7 (by decide)).symm.trans hF.t7);have e9:x 9=.pointer (some ⟨Ba,0,none⟩):=Option.some.inj ((hx 9 (by decide)).symm.trans hF.t9);have e10:x 10=v10:=Option.some.inj ((hx 10 (by decide)).symm.trans hF.t10);subst hT;simp only[e2,e3,e4,e5,e6,e7,e9,e10];clear e2 e3 e4 e5 e6 e7 e9 e10 hx hF
 go_wp2_with (fail)
 go_loopg [14] L (λk s wr=>∃j:Nat,k=L - j/\j<=L/\s=.int .i64 j/\Wr (Xs W1 w4.heap.size M [46,2,3]) W1 wr)
 case atStart=>exact⟨0,rfl,Nat.zero_le _,rfl,H0.out⟩
 case round=>
  obtain⟨j,hk,hj,rfl,hR⟩:=hrel;have HR:=Lib.hid hR;clear hR;have hj0:(0:Int)<=j:=by omega
  have b0:=xs_keep HR.out HK.out.1.bx (by decide);have a0:wr.cell? ⟨Ba,1,none⟩=some (.slice p1 L c1):=by rw[←HK.out.2.2.2.2];exact(zq0 (off:=1) b0).trans rfl
  clear b0
  by_cases hlt:j<L
  · have hlt':(j:Int)<(L:Int):=by omega
    obtain⟨g,v,c,rfl,hh,hv,hx1,hx2,hx3⟩:=row_at HK.out.2.1 HK.out.2.2.2.1 HK.out.2.2.1 HR.out (i:=j) (by rw[HK.out.2.2.2.2];exact hlt);have z:=zq5 (off:=j) hh;have HX:RowKit.Hid (Xs W1 w4.heap.size M [46,2,3] g):=Lib.hid ⟨hx1,hx2,by obtain⟨c,hc⟩:=hx3;exact⟨c,_,hc,by simp⟩⟩;clear hx1 hx2 hx3 hh
    go_wp2_with (fail)
    go_roundg (L - (j+1))
    case measure=>omega
    case rel=>exact⟨j+1,rfl,by omega,rfl,HR.out.trans (Wr.set _ _ HX.out)⟩
  · obtain rfl:L=j:=by omega
    go_wp2_with (fail)
    exact⟨rfl,⟨rfl,rfl,rfl,rfl,rfl,rfl,rfl,rfl,rfl⟩,HR.out⟩
theorem wr_then{X Y:Nat->Prop}{w w' w'':World}(h:Wr X w w')(k:Wr Y w' w'')(hxy:∀b,b<w.heap.size->Y b->X b):Wr X w w'':=⟨Nat.le_trans h.size k.size,λb c T hb=>by
 obtain⟨c1,h1,h2⟩:=h.shp b c T hb;obtain⟨c2,h3,h4⟩:=k.shp b c1 T h1;exact⟨c2,h3,h4.trans h2⟩,λb hb hx=>(k.old b (Nat.lt_of_lt_of_le hb h.size) λhy=>hx (hxy b hb hy)).trans (h.old b hb hx)⟩
structure KN(W1:World)(S M N ab:Nat)(ln:Nat->Nat)(hv:Nat->Value)(sl:Nat->Nat->Value):Prop where
 abt:∃c,W1.heap[ab]?=some (.cells c 41)
 abc:∀i,i<N->W1.cell? ⟨ab,i,none⟩=some (hv i)
 row:∀i,i<N->RowZ W1 43 3 (hv i) (ln i)
 rlt:∀i g,i<N->(hv i).ownBlock=some g->S<=g/\g<M
 sep:∀i j g,i<N->j<N->i≠j->(hv i).ownBlock=some g->(hv j).ownBlock≠some g
 cell:∀i k g,i<N->k<ln i->(hv i).ownBlock=some g->W1.cell? ⟨g,k*3+2,none⟩=some (sl i k)
 lst:∀i k,i<N->k<ln i->RowZ W1 2 1 (sl i k) 0
 llt:∀i k g,i<N->k<ln i->(sl i k).ownBlock=some g->S<=g/\g<M
 lnm:∀i,i<N->ln i<=65536
theorem rowB_z{X:Nat->Option Obj}{T:TypeId}{k n:Nat}{v:Value}{xs:List Value}{w:World}(h:RowB X T k v n xs)(hX:∀b o,X b=some o->w.heap[b]?=some o):RowZ w T k v n:=RowZ.of (h.own hX)
theorem kn_of{lo hi N S M:Nat}{R:RS}{ab:Nat}{ov sv:Value}{w:World}(h:ATr lo hi N R ab ov sv w)(hP:PlTr N R)(hlo:S<=lo)(hhi:hi<=M):∃hv sl,KN w S M N ab (λi=>(R.T i).ans.length) hv sl:=by
 obtain⟨am,h1,h2,h3⟩:=h.ans;have hans:∀i,am.st i=(R.T i).ans:=λi=>congrFun h2 i;have key:∀x:Nat×Nat,∃s:Value,x.1<N->x.2<(R.T x.1).ans.length->(∀g,(am.hv x.1).ownBlock=some g->w.cell? ⟨g,x.2*3+2,none⟩=some s)/\RowZ w 2 1 s 0/\∀g,s.ownBlock=some g->S<=g/\g<M:=by
  rintro⟨i,k⟩
  by_cases hi:i<N
  · by_cases hk:k<(R.T i).ans.length
    · obtain⟨Xr,XL,cs,hr,hL,hX,hd⟩:=h1.row i hi;have ha:(am.st i)[k]?=some (R.T i).ans[k]:=by rw[hans i];exact List.getElem?_eq_getElem hk
      obtain⟨Y,sl,e1,e2,e3,e4,e5⟩:=ansL_get hL ha;have hnl:((R.T i).ans[k]).l=[]:=(hP.ans i hi).2 _ (List.getElem_mem hk);rw[hnl]at e4;have hb:∀b o,Y b=some o->am.X i b=some o:=λb o hb=>by
       rw[hX];have h6:=e5 b o hb;unfold orB;cases hx:Xr b with
       |none=>simp[h6]
       |some y=>have h7:=hd b (by rw[hx];simp);rw[h7]at h6;cases h6
      have hbw:∀b o,Y b=some o->w.heap[b]?=some o:=λb o hy=>h1.blk i b o hi (hb b o hy);refine⟨sl,λ_ _=>⟨λg hg=>?_,rowB_z e4 hbw,λg hg=>?_⟩⟩
      · rcases hr.2 with⟨a,_,_⟩|⟨g2,cap,cur,a,c,hn,hm,hs,ht⟩
        · rw[a]at hg;cases hg
        · rw[a]at hg;simp only[Value.ownBlock,al_oi]at hg;subst hg;have hh:w.heap[g2]?=some (.cells cur tT.tA (0,0)):=h1.blk i g2 _ hi (by rw[hX,c];simp[orB]);rw[zq0 hh];rw[←ht,List.getElem?_take]at e3;split at e3
          · simpa using e3
          · cases e3
      · have:=(e4.block g).2 hg;obtain⟨q1,q2⟩:=h3 i g hi λhn=>this (by
         cases hy:Y g with
         |none=>rfl
         |some o=>rw[hb g o hy]at hn;cases hn)
        exact⟨Nat.le_trans hlo q1,Nat.lt_of_lt_of_le q2 hhi⟩
    · exact⟨.nilFunc,λ_ h=>absurd h hk⟩
  · exact⟨.nilFunc,λh=>absurd h hi⟩
 obtain⟨f,hf⟩:=Classical.axiomOfChoice key;have blk:∀i g,i<N->(am.hv i).ownBlock=some g->am.X i g≠none:=λi g hi hg=>by
  obtain⟨Xr,XL,cs,hr,hL,hX,hd⟩:=h1.row i hi;have:=(hr.block g).2 hg;rw[hX];unfold orB;cases hx:Xr g with
  |none=>exact absurd hx this
  |some y=>simp
 refine⟨am.hv,λi k=>f (i,k),⟨_,h1.hd⟩,λi hi=>(ansRep_at h1 hi).1,λi hi=>?_,λi g hi hg=>?_,λi j g hi hj hne hg hg2=>?_,λi k g hi hk hg=>(hf (i,k) hi hk).1 g hg,λi k hi hk=>(hf (i,k) hi hk).2.1,λi k g hi hk hg=>(hf (i,k) hi hk).2.2 g hg,λi hi=>(hP.ans i hi).1⟩
 · obtain⟨Xr,XL,cs,hr,hL,hX,hd⟩:=h1.row i hi;rw[hans i]at hr;exact rowB_z hr λb o hb=>h1.blk i b o hi (by rw[hX];simp[orB,hb])
 · obtain⟨q1,q2⟩:=h3 i g hi (blk i g hi hg);exact⟨Nat.le_trans hlo q1,Nat.lt_of_lt_of_le q2 hhi⟩
 · exact blk j g hj hg2 (h1.sep i j g hi hj hne (blk i g hi hg))
structure AnO(W1:World)(S M N:Nat)(ln:Nat->Nat)(hv:Nat->Value)(i:Nat)(w:World):Prop where
 wr:Wr (Xs W1 S M [46,2,3,43]) W1 w
 todo:∀j g,i<j->j<N->(hv j).ownBlock=some g->w.heap[g]?=W1.heap[g]?
 done:∀j k g,j<i->k<ln j->(hv j).ownBlock=some g->w.cell? ⟨g,k*3+1,none⟩=some (.int .i64 (-1))
structure AnI(W1:World)(S M N:Nat)(ln:Nat->Nat)(hv:Nat->Value)(i k:Nat)(w:World):Prop where
 o:AnO W1 S M N ln hv i w
 rt:∀g q,(hv i).ownBlock=some g->k*3<=q->w.cell? ⟨g,q,none⟩=W1.cell? ⟨g,q,none⟩
 rd:∀k' g,k'<k->(hv i).ownBlock=some g->w.cell? ⟨g,k'*3+1,none⟩=some (.int .i64 (-1))
structure AnE(W1:World)(S M N:Nat)(ln:Nat->Nat)(hv:Nat->Value)(i:Nat)(w:World):Prop where
 o:AnO W1 S M N ln hv i w
 rd:∀k' g,k'<ln i->(hv i).ownBlock=some g->w.cell? ⟨g,k'*3+1,none⟩=some (.int .i64 (-1))
structure AnP(W1:World)(S M N:Nat)(ln:Nat->Nat)(hv:Nat->Value)(i:Nat)(w:World):Prop where
 wr:Wr (Xs W1 S M [46,2,3,43]) W1 w
 todo:∀j g,i<=j->j<N->(hv j).ownBlock=some g->w.heap[g]?=W1.heap[g]?
 done:∀j k g,j<i->k<ln j->(hv j).ownBlock=some g->w.cell? ⟨g,k*3+1,none⟩=some (.int .i64 (-1))
section
variable {W1 w w':World} {S M N ab:Nat} {ln:Nat->Nat} {hv:Nat->Value} {sl:Nat->Nat->Value} {i k:Nat}
theorem KN.tA (h:KN W1 S M N ab ln hv sl){i g:Nat}(hi:i<N)(hg:(hv i).ownBlock=some g):(∃c,W1.heap[g]?=some (.cells c 43))/\Xs W1 S M [46,2,3,43] g:=by
 obtain⟨xs,hx⟩:=h.row i hi;obtain⟨⟨c,hc⟩,_⟩:=own_lt hx hg;exact⟨⟨c,hc⟩,(h.rlt i g hi hg).1,(h.rlt i g hi hg).2,c,_,hc,by simp⟩
theorem AnI.keep (h:AnI W1 S M N ln hv i k w)(hK:KN W1 S M N ab ln hv sl)(hi:i<N){Y:Nat->Prop}(hw:Wr Y w w')(hY:∀b,Y b->Xs W1 S M [2] b\/W1.heap.size<=b):AnI W1 S M N ln hv i k w':=by
 have hsz:=h.o.wr.size;have same:∀j g,j<N->(hv j).ownBlock=some g->w'.heap[g]?=w.heap[g]?:=λj g hj hg=>by
  obtain⟨⟨c,hc⟩,_⟩:=hK.tA hj hg;have hlt:=zq3 hc;refine hw.old g (by omega) λhy=>?_;rcases hY g hy with hx|hx
  · exact Xs.no hc (by decide) hx
  · omega
 refine⟨⟨wr_then h.o.wr hw λb hb hy=>?_,λj g hij hj hg=>(same j g hj hg).trans (h.o.todo j g hij hj hg),λj k g hji hk hg=>(zql (same j g (by omega) hg)).trans (h.o.done j k g hji hk hg)⟩,λg q hg hq=>(zql (same i g hi hg)).trans (h.rt g q hg hq),λk' g hk hg=>(zql (same i g hi hg)).trans (h.rd k' g hk hg)⟩;rcases hY b hy with hx|hx
 · exact Xs.mono (by simp) b hx
 · omega
theorem AnI.put (h:AnI W1 S M N ln hv i k w)(hK:KN W1 S M N ab ln hv sl)(hi:i<N){g:Nat}(hg:(hv i).ownBlock=some g){c:Array Value}(hh:w.heap[g]?=some (.cells c 43))(hc:k*3+3<=c.size)(u0 u2:Value):
 AnI W1 S M N ln hv i (k+1) (((w.setCell ⟨g,k*3,none⟩ u0).setCell ⟨g,k*3+1,none⟩ (.int .i64 (-1))).setCell ⟨g,k*3+2,none⟩ u2):=by
 have hX:=(hK.tA hi hg).2;have other:∀j g',j<N->j≠i->(hv j).ownBlock=some g'->(((w.setCell ⟨g,k*3,none⟩ u0).setCell ⟨g,k*3+1,none⟩ (.int .i64 (-1))).setCell ⟨g,k*3+2,none⟩ u2).heap[g']?=w.heap[g']?:=λj g' hj hne hg'=>by
  have hn:g'≠g:=λe=>hK.sep j i g' hj hi hne hg' (by rw[e];exact hg);rw[zq7 _ _ _ _ hn,zq7 _ _ _ _ hn,zq7 _ _ _ _ hn]
 have own:∀q,(((w.setCell ⟨g,k*3,none⟩ u0).setCell ⟨g,k*3+1,none⟩ (.int .i64 (-1))).setCell ⟨g,k*3+2,none⟩ u2).cell? ⟨g,q,none⟩=(((c.setIfInBounds (k*3) u0).setIfInBounds (k*3+1) (.int .i64 (-1))).setIfInBounds (k*3+2) u2)[q]?:=λq=>zq0 (zqc _ _ _ _ (zqc _ _ _ _ (zqc _ _ _ _ hh)));have far:∀q,q<k*3\/k*3+3<=q->(((w.setCell ⟨g,k*3,none⟩ u0).setCell ⟨g,k*3+1,none⟩ (.int .i64 (-1))).setCell ⟨g,k*3+2,none⟩ u2).cell? ⟨g,q,none⟩=w.cell? ⟨g,q,none⟩:=λq hq=>by
  rw[own,zq0 hh,al_gn (by omega),al_gn (by omega),al_gn (by omega)]
 refine⟨⟨((h.o.wr.trans (Wr.set _ _ hX)).trans (Wr.set _ _ hX)).trans (Wr.set _ _ hX),λj g' hij hj hg'=>(other j g' hj (by omega) hg').trans (h.o.todo j g' hij hj hg'),λj k' g' hji hk hg'=>(zql (other j g' (by omega) (by omega) hg')).trans (h.o.done j k' g' hji hk hg')⟩,λg' q hg' hq=>?_,λk' g' hk hg'=>?_⟩
 · obtain rfl:g=g':=Option.some.inj (hg.symm.trans hg');rw[far q (by omega)];exact h.rt g q hg (by omega)
 · obtain rfl:g=g':=Option.some.inj (hg.symm.trans hg')
   by_cases e:k'=k
   · subst e;rw[own,al_gn (by omega)];simp only[Array.getElem?_setIfInBounds_self,al_gz];rw[if_pos (by omega)]
   · rw[far _ (by omega)];exact h.rd k' g (by omega) hg
theorem AnI.apps (h:AnI W1 S M N ln hv i k w)(hK:KN W1 S M N ab ln hv sl)(hi:i<N)(hk:k<ln i):
 ∃g1 C1 w1 g2 C2 w2,(Builtin.append_ #[22,22] 22 #[sl i k,.slice (some ⟨w.heap.size,0,none⟩) 1 1]).run Try.prog (w.alloc (.cells #[.int .i64 (-4)] 2))=.ok (.slice (some ⟨g1,0,none⟩) 1 C1) w1/\
  (Builtin.append_ #[22,22] 22 #[.slice (some ⟨g1,0,none⟩) 1 C1,.slice (some ⟨w1.heap.size,0,none⟩) 1 1]).run Try.prog (w1.alloc (.cells #[.int .i64 (-4)] 2))=.ok (.slice (some ⟨g2,0,none⟩) 2 C2) w2/\AnI W1 S M N ln hv i k w2:=by
 obtain⟨ti,hti,hz,hz1,hz2⟩:∃ti,Try.prog.info? 2=some ti/\ti.zero=some (.int .i64 0)/\ti.size=1/\ti.bytes=8:=⟨_,rfl,rfl,rfl,rfl⟩;obtain⟨xs,hx⟩:=(hK.lst i k hi hk).wr h.o.wr;obtain⟨ys,hy⟩:=hK.lst i k hi hk;obtain⟨g1,C1,w1,r1,o1,wr1,at1,-⟩:=copy_one (P:=Try.prog) (w:=w) (t:=22) (ty:=22) (e:=2) (k:=1) (by kernel_rfl) hti hz hz1 hz2 rfl (by decide) (cs:=[.int .i64 (-4)]) hx (Nat.zero_le _) rfl (by simp[Value.oneCell']) (by simp[maxLen]) (by decide);obtain⟨g2,C2,w2,r2,o2,wr2,at2,-⟩:=copy_one (P:=Try.prog) (w:=w1) (t:=22) (ty:=22) (e:=2) (k:=1) (by kernel_rfl) hti hz hz1 hz2 rfl (by decide) (cs:=[.int .i64 (-4)]) o1 (Nat.zero_le _) rfl (by simp[Value.oneCell']) (by simp[maxLen]) (by decide);have hX:∀b,(sl i k).ownBlock=some b->Xs W1 S M [2] b:=λb hb=>by
  obtain⟨⟨c,hc⟩,_⟩:=own_lt hy hb;exact⟨(hK.llt i k b hi hk hb).1,(hK.llt i k b hi hk hb).2,c,_,hc,by simp⟩
 refine⟨g1,C1,w1,g2,C2,w2,r1,r2,(h.keep hK hi wr1 λb hb=>.inl (hX b hb)).keep hK hi wr2 λb hb=>?_⟩;simp only[Value.ownBlock,al_oi]at hb;subst hb;rcases at1 with h1|h1
 · exact .inl (hX _ h1)
 · exact .inr (Nat.le_trans h.o.wr.size h1)
theorem AnE.tail (h:AnE W1 S M N ln hv i w)(hK:KN W1 S M N ab ln hv sl)(hi:i<N){v:Value}{n:Nat}(hn:ln i<=n)(hn2:n<=65544)(hz:RowZ w 43 3 v n)(hown:∀g,v.ownBlock=some g->(hv i).ownBlock=some g\/W1.heap.size<=g):
 ∃g C w2,(Builtin.append_ #[41,41] 41 #[v,.slice (some ⟨w.heap.size,0,none⟩) 1 1]).run Try.prog (w.alloc (.cells #[.bool false,.int .i64 (-2),.slice none 0 0] 43))=.ok (.slice (some ⟨g,0,none⟩) (n+1) C) w2/\AnE W1 S M N ln hv i w2/\RowZ w2 43 3 (.slice (some ⟨g,0,none⟩) (n+1) C) (n+1)/\((hv i).ownBlock=some g\/W1.heap.size<=g):=by
 obtain⟨ti,hti,hz0,hz1,hz2⟩:∃ti,Try.prog.info? 43=some ti/\ti.zero=some (.agg #[.bool false,.int .i64 0,.slice none 0 0])/\ti.size=3/\ti.bytes=40:=⟨_,rfl,rfl,rfl,rfl⟩;obtain⟨xs,hx⟩:=hz;have hsz:=h.o.wr.size;obtain⟨g,C,w2,r1,o1,wr1,at1,kp⟩:=copy_one (P:=Try.prog) (w:=w) (t:=41) (ty:=41) (e:=43) (k:=3) (by kernel_rfl) hti hz0 hz1 hz2 rfl (by decide) (cs:=[.bool false,.int .i64 (-2),.slice none 0 0]) hx (Nat.zero_le _) rfl (by simp[Value.oneCell']) (by simp only[maxLen];omega) (by omega);have other:∀j g',j<N->j≠i->(hv j).ownBlock=some g'->w2.heap[g']?=w.heap[g']?:=λj g' hj hne hg'=>by
  obtain⟨⟨c,hc⟩,_⟩:=hK.tA hj hg';have hlt:=zq3 hc;refine wr1.old g' (by omega) λhv'=>?_;rcases hown g' hv' with h1|h1
  · exact hK.sep j i g' hj hi hne hg' h1
  · omega
 have own:∀g' q,(hv i).ownBlock=some g'->q<ln i*3->w2.cell? ⟨g',q,none⟩=w.cell? ⟨g',q,none⟩:=λg' q hg' hq=>by
  by_cases e:v.ownBlock=some g'
  · exact kp g' q e (by omega)
  · obtain⟨⟨c,hc⟩,_⟩:=hK.tA hi hg';have hlt:=zq3 hc;exact zql (wr1.old g' (by omega) e)
 refine⟨g,C,w2,r1,⟨⟨wr_then h.o.wr wr1 λb hb hy=>?_,λj g' hij hj hg'=>(other j g' hj (by omega) hg').trans (h.o.todo j g' hij hj hg'),λj k' g' hji hk hg'=>(zql (other j g' (by omega) (by omega) hg')).trans (h.o.done j k' g' hji hk hg')⟩,λk' g' hk hg'=>(own g' _ hg' (by omega)).trans (h.rd k' g' hk hg')⟩,RowZ.of o1,?_⟩
 · rcases hown b hy with h1|h1
   · exact(hK.tA hi h1).2
   · omega
 · rcases at1 with h1|h1
   · exact hown g h1
   · exact .inr (by omega)
theorem AnE.up (h:AnE W1 S M N ln hv i w):AnP W1 S M N ln hv (i+1) w:=by
 refine⟨h.o.wr,λj g hij hj hg=>h.o.todo j g (by omega) hj hg,λj k g hji hk hg=>?_⟩
 by_cases e:j=i
 · subst e;exact h.rd k g hk hg
 · exact h.o.done j k g (by omega) hk hg
theorem AnP.go (h:AnP W1 S M N ln hv i w)(hi:i<N):AnI W1 S M N ln hv i 0 w:=
 ⟨⟨h.wr,λj g hij hj hg=>h.todo j g (by omega) hj hg,h.done⟩,λg q hg _=>zql (h.todo i g (Nat.le_refl _) hi hg),λk' g hk _=>absurd hk (Nat.not_lt_zero _)⟩
theorem AnI.fin (h:AnI W1 S M N ln hv i (ln i) w):AnE W1 S M N ln hv i w:=⟨h.o,h.rd⟩
end
theorem sk_l10{w4 W1 w:World}{M Bs N Ba ab c1 c2:Nat}{R:RS}{p1 p2:Option Addr}{stk:Bool}{v5 v6 v7 v10:Value}{hv:Nat->Value}{sl:Nat->Nat->Value}{T:Array Value}(hF:KF Bs v5 v6 v7 (.pointer (some ⟨Ba,0,none⟩)) v10 T)(hK:KT w4 W1 M N Ba ab R p1 c1 p2 c2 stk)(hKN:KN W1 w4.heap.size M N ab (λi=>(R.T i).ans.length) hv sl)(hw:Wr (Xs W1 w4.heap.size M [46,2,3]) W1 w)(τ:Nat->Question->Nat)(d:Nat):
 Code.wp Try.prog (headC (skT 11)) (ends (λa' w'=>KF Bs v5 v6 v7 (.pointer (some ⟨Ba,0,none⟩)) v10 a'.tmps/\AnP W1 w4.heap.size M N (λi=>(R.T i).ans.length) hv N w') (λ_ _=>False)) ⟨T,[]⟩ (re w τ d):=by
 have hN:=hK.pl.n;have HK:=Lib.hid (And.intro hK hKN);have H0:RowKit.Hid (AnP W1 w4.heap.size M N (λi=>(R.T i).ans.length) hv 0 (re w τ d)):=Lib.hid ⟨(hw.trans (Wr.re _ _ _ _)).mono (Xs.mono (by simp)),λj g _ hj hg=>by
  obtain⟨⟨c,hc⟩,_⟩:=hKN.tA hj hg;exact hw.old g (zq3 hc) (Xs.no hc (by decide)),λj k g h=>absurd h (Nat.not_lt_zero _)⟩
 clear hK hKN hw;generalize re w τ d=wa at H0 ⊢;obtain⟨u,hu⟩:∃c,headC (skT 11)=c:=⟨_,rfl⟩;have eu:=hu;rw[hu];simp only[skT,headC,tailN,Try.f7,al_od]at eu;subst eu;clear hu;obtain⟨x,hT,hx⟩:=lit301 hF.sz;have e2:x 2=.pointer (some ⟨Bs,0,none⟩):=Option.some.inj ((hx 2 (by decide)).symm.trans hF.t2);have e3:x 3=.pointer (some ⟨Bs+1,0,none⟩):=Option.some.inj ((hx 3 (by decide)).symm.trans hF.t3);have e4:x 4=.bool false:=Option.some.inj ((hx 4 (by decide)).symm.trans hF.t4);have e5:x 5=v5:=Option.some.inj ((hx 5 (by decide)).symm.trans hF.t5);have e6:x 6=v6:=Option.some.inj ((hx 6 (by decide)).symm.trans hF.t6);have e7:x 7=v7:=Option.some.inj ((hx 7 (by decide)).symm.trans hF.t7);have e9:x 9=.pointer (some ⟨Ba,0,none⟩):=Option.some.inj ((hx 9 (by decide)).symm.trans hF.t9);have e10:x 10=v10:=Option.some.inj ((hx 10 (by decide)).symm.trans hF.t10);subst hT;simp only[e2,e3,e4,e5,e6,e7,e9,e10];clear e2 e3 e4 e5 e6 e7 e9 e10 hx hF
 go_wp2_with (fail)
 go_loopg [15] N (λk s15 wr=>∃j:Nat,k=N - j/\j<=N/\s15=.int .i64 j/\AnP W1 w4.heap.size M N (λi=>(R.T i).ans.length) hv j wr)
 case atStart=>exact⟨0,rfl,Nat.zero_le _,rfl,H0.out⟩
 case round=>
  obtain⟨j,hk,hj,rfl,hR⟩:=hrel;have HR:=Lib.hid hR;clear hR;have hj0:(0:Int)<=j:=by omega
  have box:∀wr2,Wr (Xs W1 w4.heap.size M [46,2,3,43]) W1 wr2->wr2.cell? ⟨Ba,0,none⟩=some (.slice (some ⟨ab,0,none⟩) N N):=λwr2 h=>(zq0 (off:=0) (xs_keep h HK.out.1.bx (by decide))).trans rfl;have a0:=box wr HR.out.wr
  by_cases hlt:j<N
  · have hlt':(j:Int)<(N:Int):=by omega
    obtain⟨pj,Cj,ej,hnil,hrowf⟩:=(HK.out.2.row j hlt).form;have cel:∀wr2,Wr (Xs W1 w4.heap.size M [46,2,3,43]) W1 wr2->wr2.cell? ⟨ab,j,none⟩=some (.slice pj (R.T j).ans.length Cj):=λwr2 h=>by
     obtain⟨c,hc⟩:=HK.out.2.abt;rw[zql (h.old ab (zq3 hc) (Xs.no hc (by decide))),HK.out.2.abc j hlt,ej]
    have BX:=Lib.hid (And.intro box cel);have HI:=Lib.hid (HR.out.go hlt);have hLm:=HK.out.2.lnm j hlt
    try simp only at hLm
    have HRF:=Lib.hid (And.intro ej (And.intro hnil hrowf));have HLL:RowKit.Hid ((R.T j).ans.length=(R.T j).ans.length):=Lib.hid rfl;clear box cel ej hnil hrowf;obtain⟨L,hLe⟩:∃x,(R.T j).ans.length=x:=⟨_,rfl⟩;rw[hLe]at hLm HRF;have HLE:=Lib.hid hLe;clear hLe
    go_wp2_with (fail)
    go_loopg [16] L (λk s16 wr2=>∃kk:Nat,k=L - kk/\kk<=L/\s16=.int .i64 kk/\AnI W1 w4.heap.size M N (λi=>(R.T i).ans.length) hv j kk wr2)
    case atStart=>exact⟨0,rfl,Nat.zero_le _,rfl,HI.out⟩
    case round=>
     obtain⟨kk,hk2,hkk,rfl,hR2⟩:=hrel;have HR2:=Lib.hid hR2;have hkk0:(0:Int)<=kk:=by omega
     clear hR2 a0;have a0:=BX.out.1 wr HR2.out.o.wr;have a1:=BX.out.2 wr HR2.out.o.wr;rw[HLE.out]at a1
     by_cases hlt2:kk<L
     · have hlt2':(kk:Int)<(L:Int):=by omega
       obtain⟨aj,haj⟩:∃a,pj=some a:=by
        cases hp:pj with
        |none=>have:=(HRF.out.2.1 hp).1;omega
        |some a=>exact⟨a,rfl⟩
       obtain⟨g,cw,rfl,hgo,hhw,hsz⟩:=HRF.out.2.2 aj haj;subst haj;obtain⟨cc,hcc,hcs⟩:=HR2.out.o.wr.shp g cw _ hhw;have d2:wr.cell? ⟨g,kk*3+2,none⟩=some (sl j kk):=(HR2.out.rt g _ hgo (by omega)).trans (HK.out.2.cell j kk g hlt (by(try simp only);rw[HLE.out];exact hlt2) hgo);have d0:∃v,wr.cell? ⟨g,kk*3,none⟩=some v:=⟨_,(zq0 hcc).trans (Array.getElem?_eq_getElem (by omega))⟩;have d1:∃v,wr.cell? ⟨g,kk*3+1,none⟩=some v:=⟨_,(zq0 hcc).trans (Array.getElem?_eq_getElem (by omega))⟩;obtain⟨u0,d0⟩:=d0;obtain⟨u1,d1⟩:=d1;obtain⟨ps,Cs,es,_,_⟩:=(HK.out.2.lst j kk hlt (by(try simp only);rw[HLE.out];exact hlt2)).form;rw[es]at d2;have HG:=Lib.hid (And.intro hgo (And.intro hhw hsz));have HES:=Lib.hid es;clear hgo hcc hcs hsz hhw es
       go_wp2_with (fail)
       go_loopg [17] 0 (λk s17 wr3=>s17=.int .i64 0/\wr3=wr)
       case atStart=>exact⟨rfl,rfl⟩
       case round=>
        obtain⟨rfl,rfl⟩:=hrel;obtain⟨g1,C1,w5,g2,C2,w6,r1,r2,hM⟩:=HR2.out.apps HK.out.2 hlt (by(try simp only);rw[HLE.out];exact hlt2);rw[HES.out]at r1;obtain⟨cc6,hcc6,hcs6⟩:=hM.o.wr.shp g cw _ HG.out.2.1;have b0:=BX.out.1 w6 hM.o.wr;have b1:=BX.out.2 w6 hM.o.wr;rw[HLE.out]at b1;have hcsz:kk*3+3<=cc6.size:=by have:=HG.out.2.2;omega
        have z0:=zq5 (off:=kk*3) hcc6;have z1:=zq5 (off:=kk*3+1) hcc6;have z2:=zq5 (off:=kk*3+2) hcc6;obtain⟨y0,f0⟩:∃v,w6.cell? ⟨g,kk*3,none⟩=some v:=⟨_,(zq0 hcc6).trans (Array.getElem?_eq_getElem (by omega))⟩;obtain⟨y1,f1⟩:∃v,w6.cell? ⟨g,kk*3+1,none⟩=some v:=⟨_,(zq0 hcc6).trans (Array.getElem?_eq_getElem (by omega))⟩;obtain⟨y2,f2⟩:∃v,w6.cell? ⟨g,kk*3+2,none⟩=some v:=⟨_,(zq0 hcc6).trans (Array.getElem?_eq_getElem (by omega))⟩;have HM:=Lib.hid (And.intro hM (And.intro hcc6 hcsz));clear hM hcc6 hcs6 hcsz
        go_wp2_with (at_builtin;go_loud (first|(refine zq20 rfl (.tmp 188) (.tmp 189) 22 rfl r1 ?_)|(refine zq20 rfl (.tmp 191) (.tmp 192) 22 rfl r2 ?_)))
        go_roundg (L - (kk+1))
        case measure=>omega
        case rel=>exact⟨kk+1,rfl,by omega,rfl,HM.out.1.put HK.out.2 hlt HG.out.1 HM.out.2.1 HM.out.2.2 _ _⟩
     · obtain rfl:L=kk:=by omega
       have hE:AnE W1 w4.heap.size M N (λi=>(R.T i).ans.length) hv j wr:=AnI.fin (i:=j) (by have h:=HR2.out;rw[←HLE.out]at h;exact h);have hz:=(HK.out.2.row j hlt).wr HR2.out.o.wr
       try simp only at hz
       rw[HLE.out,HRF.out.1]at hz;have HE:=Lib.hid (And.intro hE hz);clear hE hz
       go_wp2_with (fail)
       go_loopg [19,20] 8 (λk s19 s20 wr3=>∃(c:Nat)(p:Option Addr)(C:Nat),k=8 - c/\c<=8/\s20=.int .i64 c/\s19=.slice p (L+c) C/\RowZ wr3 43 3 (.slice p (L+c) C) (L+c)/\(∀g,(Value.slice p (L+c) C).ownBlock=some g->(hv j).ownBlock=some g\/W1.heap.size<=g)/\AnE W1 w4.heap.size M N (λi=>(R.T i).ans.length) hv j wr3)
       case atStart=>exact⟨0,pj,Cj,rfl,Nat.zero_le _,rfl,rfl,HE.out.2,λg hg=>.inl (by rw[HRF.out.1];exact hg),HE.out.1⟩
       case round=>
        obtain⟨c,p,C,hk3,hc3,rfl,rfl,hz3,ho3,hE3⟩:=hrel;have HE3:=Lib.hid (And.intro hz3 (And.intro ho3 hE3));clear hz3 ho3 hE3 a0 a1;have hc0:(0:Int)<=c:=by omega
        by_cases hlt3:c<8
        · have hlt3':(c:Int)<8:=by omega
          obtain⟨g,C2,w6,r1,hE4,hz4,ho4⟩:=HE3.out.2.2.tail HK.out.2 hlt (n:=L+c) (by(try simp only);rw[HLE.out];omega) (by omega) HE3.out.1 HE3.out.2.1;have HE4:=Lib.hid (And.intro hE4 (And.intro hz4 ho4));clear hE4 hz4 ho4
          go_wp2_with (at_builtin;go_loud (refine zq20 rfl (.tmp 211) (.tmp 213) 41 rfl r1 ?_))
          go_roundg (8 - (c+1))
          case measure=>omega
          case rel=>exact⟨c+1,_,C2,rfl,by omega,rfl,rfl,HE4.out.2.1,λg' hg'=>by
           simp only[Value.ownBlock,al_oi]at hg';subst hg';exact HE4.out.2.2,HE4.out.1⟩
        · obtain rfl:c=8:=by omega
          go_wp2_with (fail)
          go_roundg (N - (j+1))
          case measure=>omega
          case rel=>exact⟨j+1,rfl,by omega,rfl,HE3.out.2.2.up⟩
  · obtain rfl:N=j:=by omega
    go_wp2_with (fail)
    exact⟨rfl,⟨rfl,rfl,rfl,rfl,rfl,rfl,rfl,rfl,rfl⟩,HR.out⟩
theorem sk_l18{w4 W1 w:World}{M Bs N Ba ab c1 c2:Nat}{R:RS}{p1 p2:Option Addr}{stk:Bool}{v5 v6 v7 v10:Value}{hv:Nat->Value}{sl:Nat->Nat->Value}{T:Array Value}(hF:KF Bs v5 v6 v7 (.pointer (some ⟨Ba,0,none⟩)) v10 T)(hK:KT w4 W1 M N Ba ab R p1 c1 p2 c2 stk)(hKN:KN W1 w4.heap.size M N ab (λi=>(R.T i).ans.length) hv sl)(hw:AnP W1 w4.heap.size M N (λi=>(R.T i).ans.length) hv N w)(τ:Nat->Question->Nat)(d:Nat):
 Code.wp Try.prog (headC (skT 12)) (ends (λa' w'=>KF Bs v5 v6 v7 (.pointer (some ⟨Ba,0,none⟩)) v10 a'.tmps/\Wr (Xs W1 w4.heap.size M [46,2,3,43]) W1 w') (λ_ _=>False)) ⟨T,[]⟩ (re w τ d):=by
 have hN:=hK.pl.n;have HK:=Lib.hid (And.intro hK hKN);have H0:RowKit.Hid (AnP W1 w4.heap.size M N (λi=>(R.T i).ans.length) hv N (re w τ d)):=Lib.hid ⟨hw.wr.trans (Wr.re _ _ _ _),λj g h1 h2=>absurd h2 (by omega),hw.done⟩;clear hK hKN hw;generalize re w τ d=wa at H0 ⊢;obtain⟨u,hu⟩:∃c,headC (skT 12)=c:=⟨_,rfl⟩;have eu:=hu;rw[hu];simp only[skT,headC,tailN,Try.f7,al_od]at eu;subst eu;clear hu;obtain⟨x,hT,hx⟩:=lit301 hF.sz;have e2:x 2=.pointer (some ⟨Bs,0,none⟩):=Option.some.inj ((hx 2 (by decide)).symm.trans hF.t2);have e3:x 3=.pointer (some ⟨Bs+1,0,none⟩):=Option.some.inj ((hx 3 (by decide)).symm.trans hF.t3);have e4:x 4=.bool false:=Option.some.inj ((hx 4 (by decide)).symm.trans hF.t4);have e5:x 5=v5:=Option.some.inj ((hx 5 (by decide)).symm.trans hF.t5);have e6:x 6=v6:=Option.some.inj ((hx 6 (by decide)).symm.trans hF.t6);have e7:x 7=v7:=Option.some.inj ((hx 7 (by decide)).symm.trans hF.t7);have e9:x 9=.pointer (some ⟨Ba,0,none⟩):=Option.some.inj ((hx 9 (by decide)).symm.trans hF.t9);have e10:x 10=v10:=Option.some.inj ((hx 10 (by decide)).symm.trans hF.t10);subst hT;simp only[e2,e3,e4,e5,e6,e7,e9,e10];clear e2 e3 e4 e5 e6 e7 e9 e10 hx hF;have box:wa.cell? ⟨Ba,0,none⟩=some (.slice (some ⟨ab,0,none⟩) N N):=(zq0 (off:=0) (xs_keep H0.out.wr HK.out.1.bx (by decide))).trans rfl
 go_wp2_with (fail)
 go_loopg [4,21] N (λk s4 s21 wr=>∃j:Nat,k=N - j/\j<=N/\s4=.bool false/\s21=.int .i64 j/\wr=wa)
 case atStart=>exact⟨0,rfl,Nat.zero_le _,rfl,rfl,rfl⟩
 case round=>
  obtain⟨j,hk,hj,rfl,rfl,rfl⟩:=hrel;have hj0:(0:Int)<=j:=by omega
  by_cases hlt:j<N
  · have hlt':(j:Int)<(N:Int):=by omega
    obtain⟨pj,Cj,ej,hnil,hrowf⟩:=(HK.out.2.row j hlt).form;have a1:wr.cell? ⟨ab,j,none⟩=some (.slice pj (R.T j).ans.length Cj):=by
     obtain⟨c,hc⟩:=HK.out.2.abt;rw[zql (H0.out.wr.old ab (zq3 hc) (Xs.no hc (by decide))),HK.out.2.abc j hlt,ej]
    have hLm:=HK.out.2.lnm j hlt
    try simp only at hLm
    have HRF:=Lib.hid (And.intro ej (And.intro hnil hrowf));clear ej hnil hrowf;obtain⟨L,hLe⟩:∃x,(R.T j).ans.length=x:=⟨_,rfl⟩;rw[hLe]at hLm HRF a1;have HLE:=Lib.hid hLe;clear hLe
    go_wp2_with (fail)
    go_loopg [4,22] L (λk s4 s22 wr2=>∃kk:Nat,k=L - kk/\kk<=L/\s4=.bool false/\s22=.int .i64 kk/\wr2=wr)
    case atStart=>exact⟨0,rfl,Nat.zero_le _,rfl,rfl,rfl⟩
    case round=>
     obtain⟨kk,hk2,hkk,rfl,rfl,rfl⟩:=hrel;have hkk0:(0:Int)<=kk:=by omega
     by_cases hlt2:kk<L
     · have hlt2':(kk:Int)<(L:Int):=by omega
       obtain⟨aj,haj⟩:∃a,pj=some a:=by
        cases hp:pj with
        |none=>have:=(HRF.out.2.1 hp).1;omega
        |some a=>exact⟨a,rfl⟩
       obtain⟨g,cw,rfl,hgo,hhw,hsz⟩:=HRF.out.2.2 aj haj;subst haj;have d1:=H0.out.done j kk g hlt (by(try simp only);rw[HLE.out];exact hlt2) hgo;clear hgo hhw hsz
       go_wp2_with (fail)
       go_roundg (L - (kk+1))
       case measure=>omega
       case rel=>exact⟨kk+1,rfl,by omega,rfl,rfl,rfl⟩
     · obtain rfl:L=kk:=by omega
       go_wp2_with (fail)
       go_roundg (N - (j+1))
       case measure=>omega
       case rel=>exact⟨j+1,rfl,by omega,rfl,rfl,rfl⟩
  · obtain rfl:N=j:=by omega
    go_wp2_with (fail)
    exact⟨rfl,⟨rfl,rfl,rfl,rfl,rfl,rfl,rfl,rfl,rfl⟩,H0.out.wr⟩
end Go.Proofs
